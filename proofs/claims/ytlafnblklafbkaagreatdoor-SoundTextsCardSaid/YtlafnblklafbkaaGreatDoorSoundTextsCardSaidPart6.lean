/- Texts on the way to this: SoundTexts answers true for whatever it is handed: of any columns and any source that is a migration: printed, and parsed again, it is sound, or is not, at the same move, for the same reason (up to 50 columns, 3000 bytes). (part 6) -/
import Derived.Test.YtlafnblklafbkaaGreatDoorSoundTextsCardSaidPart5
set_option linter.all false
namespace Go.SX.Nb
open Go Go.SX Go.Proofs
variable [ErrAt]
set_option maxRecDepth 4000
def wAt (s:Str) (k:Nat):Int×Str×Int×Int:=As (s.drop k)
theorem G9 {f k:Nat} {s:Str} (h:s≠[]):Dx (f+1) k s=(⟨(As s).1,(As s).2.1,k⟩,(As s).2.2.2)::(if (As s).2.2.2==0 then Dx f (k+(As s).2.2.1.toNat+gapM (s.drop (As s).2.2.1.toNat)) ((s.drop (As s).2.2.1.toNat).drop (gapM (s.drop (As s).2.2.1.toNat))) else []):=by
 rw [Dx,if_neg (by simpa using h)]
/-- Where the reader is, with k words behind it. -/
def O8 (s:Str) (k p:Nat):Prop:=(∃f,(s.drop p).length<f∧(Ax s).drop k=Dx f p (s.drop p))∧p≤s.length∧∀j,j<k→∃it,(Ax s)[j]? = some it∧it.2=0
theorem Zk (s:Str):O8 s 0 (gapM s):=⟨⟨s.length+1,by rw [List.length_drop];omega,by rw [List.drop_zero];rfl⟩,Uu s,fun j hj=>by omega⟩
theorem gu {s:Str} {k p:Nat} (h:O8 s k p):k≤(Ax s).length:=by
 refine Classical.byContradiction fun hn=>?_
 obtain ⟨it,hit,_⟩:=h.2.2 (Ax s).length (by omega)
 rw [List.getElem?_eq_none (Nat.le_refl _)] at hit
 cases hit
theorem gw {s:Str} {k p:Nat} (h:O8 s k p) (hp:s.length≤p):k=(Ax s).length∧∀it∈Ax s,it.2=0:=by
 have hl:=gu h
 obtain ⟨⟨f,_,hd⟩,_,h0⟩:=h
 have e:s.drop p=[]:=by rw [List.drop_eq_nil_iff];exact hp
 rw [e] at hd
 have:(Ax s).drop k=[]:=by rw [hd];cases f<;>rfl
 rw [List.drop_eq_nil_iff] at this
 have hk:k=(Ax s).length:=by omega
 refine ⟨hk,fun it hit=>?_⟩
 obtain ⟨j,hj,rfl⟩:=List.mem_iff_getElem.1 hit
 obtain ⟨it',h1,h2⟩:=h0 j (by omega)
 rw [List.getElem?_eq_getElem hj] at h1
 injection h1 with h1
 rw [h1];exact h2
theorem Ps {s:Str} {k p:Nat} (h:O8 s k p) (hp:p<s.length):∃f,(s.drop p).length<f+1∧(Ax s).drop k=Dx (f+1) p (s.drop p)∧s.drop p≠[]:=by
 obtain ⟨⟨f,hf,hd⟩,_,_⟩:=h
 obtain ⟨g,rfl⟩:∃g,f=g+1:=⟨f-1,by omega⟩
 exact ⟨g,hf,hd,fun e=>by rw [List.drop_eq_nil_iff] at e;omega⟩
theorem L9 {s:Str} {k p:Nat} (h:O8 s k p) (hp:p<s.length):(Ax s)[k]? = some (⟨(wAt s p).1,(wAt s p).2.1,p⟩,(wAt s p).2.2.2):=by
 obtain ⟨f,_,hd,hne⟩:=Ps h hp
 rw [G9 hne] at hd
 have:=congrArg (·[0]?) hd
 unfold wAt
 simpa using this
theorem Zl {s:Str} {k p:Nat} (h:O8 s k p) (hp:p<s.length) (he:(wAt s p).2.2.2=0):∃n:Nat,(wAt s p).2.2.1=(n:Int)∧1≤n∧p+n≤s.length∧O8 s (k+1) (p+n+gapM (s.drop (p+n))):=by
 have hi:=L9 h hp
 obtain ⟨f,hf,hd,hne⟩:=Ps h hp
 obtain ⟨n,hn,h1,h2⟩:=Ut (s:=s.drop p) (by rw [List.length_drop];omega) he
 rw [List.length_drop] at h2 hf
 have hg:=Uu (s.drop (p+n))
 rw [List.length_drop] at hg
 refine ⟨n,hn,h1,by omega,⟨f,by rw [List.length_drop];omega,?_⟩,by omega,fun j hj=>?_⟩
 ·rw [G9 hne] at hd
  have:=congrArg (·.drop 1) hd
  simp only [List.drop_drop,List.drop_succ_cons,List.drop_zero] at this
  unfold wAt at he
  rw [this,hn,he]
  simp only [beq_self_eq_true,if_true,Int.toNat_natCast,List.drop_drop]
 rcases Nat.lt_or_ge j k with h'|h'
 ·exact h.2.2 j h'
 have:j=k:=by omega
 subst this
 exact ⟨_,hi,he⟩
theorem c87 (l:Nat) (s:Str) (hs:s.length≤1048576) (U F:Nat→List AObj) (hlen:∀k,(U k).length=(U 0).length) (hll:l<(U 0).length)
  (hy:∀k it,(Ax s)[k]? = some it→AYield Tryz.prog l [Gv it.1,A2 it.2] (U k) (fun b H'=>if it.2=0 then b=true∧H'=U (k+1) else b=false∧H'=F k)):ACall Tryz.prog 87 [.yield l,.ro [A8 s]] (U 0) (fun r H'=>((∀it∈Ax s,it.2=0)∧H'=U (Ax s).length)∨∃k it,(Ax s)[k]? = some it∧it.2≠0∧(∀j,j<k→∃it',(Ax s)[j]? = some it'∧it'.2=0)∧H'=F k):=by
 refine ACall.body [] [0,1] Tryz.func87 Tryz.ntmps87 (fun d=>?_)
 refine Z3 ?_;refine R.call Tryz.call88 (c88 s hs _) ?_;refine R.go ?_;refine R.fin [0,1,3] ?_
 refine AW.loopC (α:=Nat×Nat) (fun x=>⟨44,A6 0 (.yield l) (A6 1 (.ro [A8 s]) (A6 3 (A2 (x.2:Nat)) (fun _=>.any))),U x.1,[],[],none⟩) (fun x=>O8 s x.1 x.2) (fun x=>s.length-x.2) (0,gapM s) (Zk s) (StLe.refl _) rfl (fun x hx=>?_)
 obtain ⟨k,p⟩:=x
 simp only at hx ⊢
 refine Z77 ?_;refine R.fin [0,1,3,13] ?_
 refine W.cond (fun ht13=>?_) (fun ht13=>?_)
 ·have hpl:p<s.length:=by simpa using ht13
  refine Z8 ?_;refine Yu ?_
  refine R.go (h:=Q.scutL p (fun _=>hx.2.1) (fun _=>Nat.le_refl _)) (hr:=?_)
  refine R.call Tryz.call89 (c89 (s.drop p) (by rw [List.length_drop];omega) (by rw [List.length_drop];omega) _) ?_
  refine Z62 ?_;refine Z45 ?_;refine R.fin [0,1,3,4,5,6,7] ?_;refine Z77 ?_;refine ge ?_;refine R.go ?_;refine R.yield0 (hy k _ (L9 hx hpl)) ?_
  intro b V hV hb
  refine Z42 ?_;refine R.go ?_;refine R.fin [0,1,3,6,40] ?_
  refine W.cond (fun ht40=>?_) (fun ht40=>?_)
  ·have hbe:(As (s.drop p)).2.2.2≠0∧V=F k:=by
    split at hb
    ·rename_i h0
     obtain ⟨rfl,_⟩:=hb
     have h0':(As (s.drop p)).2.2.2=0:=h0
     simp [h0'] at ht40
    rename_i h0
    exact ⟨h0,hb.2⟩
   refine Z22 ?_;refine Z10 ?_;refine K.lpR ?_;exact K.fin .nores (hp:=.inr ⟨k,_,L9 hx hpl,hbe.1,hx.2.2,hbe.2⟩)
  have hbe:(As (s.drop p)).2.2.2=0∧V=U (k+1):=by
   split at hb
   ·rename_i h0
    exact ⟨h0,hb.2⟩
   obtain ⟨rfl,_⟩:=hb
   simp at ht40
  obtain ⟨n,hn,hn1,hnl,hnx⟩:=Zl hx hpl hbe.1
  unfold wAt at hn
  rw [hn]
  have hgl:=Uu (s.drop (p+n))
  rw [List.length_drop] at hgl
  refine Z8 ?_;refine Z11 ?_;refine Z0 ?_;refine R.fin [0,1,3] ?_;refine Z14 ?_;refine Z58 ?_
  refine R.go (h:=Q.scutL (p+n) (fun _=>hnl) (fun _=>Nat.le_refl _)) (hr:=?_)
  refine R.call Tryz.call88 (c88 (s.drop (p+n)) (by rw [List.length_drop];omega) _) ?_
  refine Z0 ?_;refine R.fin [0,1,3] ?_;exact K.lpN (k+1,p+n+gapM (s.drop (p+n))) hnx (by show s.length-_<s.length-p;omega) (StCut.of_eq (by rw [hbe.2];simp))
 have hpl:s.length≤p:=by simpa using ht13
 obtain ⟨hk,hz⟩:=gw hx hpl
 refine Z79 ?_;refine K.lpE ?_;exact K.finN .nores (hp:=.inl ⟨hz,by rw [hk]⟩)

theorem c46 (s:Str) (Hp:List AObj):AFun Tryz.prog 46 [A8 s] Hp (.fn (.func 87) [] [.ro [A8 s]]):=by
 refine ACall.body [.tmp 2] [0] Tryz.func46 Tryz.ntmps46 (fun d=>?_)
 refine Z89 ?_;refine Dq ?_;refine Km ?_;refine R.go ?_;exact Z73

def Cv (s:Str):List Tok×Int×Nat:=if 4000<s.length then ([],3,0) else
 match (Ax s).find? (fun it=>it.2 != 0) with
 | some it=>([],it.2,it.1.at_)
 | none=>((Ax s).map (·.1)++[⟨0,[],s.length⟩],0,0)
theorem rp {s:Str} {k:Nat} {it:Tok×Int} (hit:(Ax s)[k]? = some it) (he:it.2≠0) (h0:∀j,j<k→∃it',(Ax s)[j]? = some it'∧it'.2=0):(Ax s).find? (fun it=>it.2 != 0)=some it:=by
 rw [List.find?_eq_some_iff_getElem]
 obtain ⟨hk,e⟩:=List.getElem?_eq_some_iff.1 hit
 refine ⟨by simpa using he,k,hk,e,fun j hj=>?_⟩
 obtain ⟨it',h1,h2⟩:=h0 j hj
 rw [List.getElem?_eq_getElem (by omega)] at h1
 injection h1 with h1
 rw [h1,h2];rfl
theorem Wi {s:Str} (h:∀it∈Ax s,it.2=0):(Ax s).find? (fun it=>it.2 != 0)=none:=by
 rw [List.find?_eq_none]
 intro it hit
 simp [h it hit]
def Sn (s:Str) (k:Nat):Int×Nat:=match (Ax s)[k]? with|some it=>(it.2,it.1.at_)|none=>(0,0)
theorem Pt:∀(f k:Nat) (s:Str),(Dx f k s).length≤f
 | 0,_,_=>Nat.zero_le _
 | f+1,k,s=>by
  rw [Dx]
  split
  ·exact Nat.zero_le _
  rw [List.length_cons]
  split
  ·have:=Pt f (k+(As s).2.2.1.toNat+gapM (s.drop (As s).2.2.1.toNat)) ((s.drop (As s).2.2.1.toNat).drop (gapM (s.drop (As s).2.2.1.toNat)))
   omega
  simp
theorem La (s:Str):(Ax s).length≤s.length+1:=Pt _ _ _
def I9 (s:Str) (k:Nat):List Tok:=((Ax s).take k).map (·.1)
theorem N5 (s:Str) (k:Nat):(I9 s k).length≤s.length+1:=by
 have:=La s
 unfold I9
 rw [List.length_map,List.length_take]
 omega
theorem Zm {s:Str} {k:Nat} {it:Tok×Int} (hit:(Ax s)[k]? = some it):I9 s (k+1)=I9 s k++[it.1]:=by
 unfold I9
 rw [List.take_succ,hit,List.map_append]
 rfl
theorem gx (s:Str):I9 s (Ax s).length=(Ax s).map (·.1):=by unfold I9;rw [List.take_length]
theorem gy {s:Str} {k:Nat} {it:Tok×Int} (hl4:¬4000<s.length) (hit:(Ax s)[k]? = some it) (he:it.2≠0) (h0:∀j,j<k→∃it',(Ax s)[j]? = some it'∧it'.2=0):Cv s=([],it.2,it.1.at_):=by
 unfold Cv
 rw [if_neg hl4,rp hit he h0]
theorem mp {s:Str} (hl4:¬4000<s.length) (hz:∀it∈Ax s,it.2=0):Cv s=(I9 s (Ax s).length++[⟨0,[],s.length⟩],0,0):=by
 unfold Cv
 rw [if_neg hl4,Wi hz,gx]
theorem c22 (s:Str) (hs:s.length≤1048576) (Hp:List AObj):AFun Tryz.prog 22 [A8 s] Hp (.tup [cg (Cv s).1,.agg [A2 (Cv s).2.1,A2 (Cv s).2.2]]):=by
 refine ACall.body [.cell 2 48,.cell 3 26] [0,5,6] Tryz.func22 Tryz.ntmps22 (fun d=>?_)
 refine Z23 ?_;refine R.alloc jZ ?_;refine R.fin [0,2,3,5,6] ?_;refine Z35 ?_;refine R.fin [0,2,3,5,6,9] ?_
 refine W.cond (fun ht9=>?_) (fun ht9=>?_)
 ·have hlm:Cv s=([],3,0):=by unfold Cv;rw [if_pos (by simp at ht9;omega)]
  refine vw ?_;refine Fk ?_;refine R.nilOwn 0 3 ?_;refine Fk ?_;refine Z70 ?_;exact K.fin (V.two (V.cell jA) (V.cellN jA jS)) ⟨by rw [hlm];rfl,rfl⟩
 have hl4:¬4000<s.length:=by simp at ht9;omega
 refine Z8 ?_;refine Z23 ?_;refine R.fin [0,2,3,4,5,6] ?_;refine Z49 ?_;refine R.nilOwn 2 3 ?_;refine R.go ?_;refine R.call Tryz.call46 (c46 s _) ?_;refine R.fin [0,2,3,4,5,6,12] ?_;refine AW.block ?_
 refine W.rangeV (m:=3) Tryz.call87 (fun FR as' bd' hFR has hbd=>?_)
 refine ⟨_,c87 (oid Hp.length 4) s hs (fun k=>Hp++[AObj.cells 48 [AV.nil],AObj.cells 26 [A2 0,A2 0],AObj.cells 48 [AV.slice true 3 ((I9 s k).map Gv)],AObj.defs,AObj.loop LoopState.ready none FR 32 #[13,14] as' bd' (oid Hp.length 3)]) (fun k=>Hp++[AObj.cells 48 [AV.nil],AObj.cells 26 [A2 (Sn s k).1,A2 (Sn s k).2],AObj.cells 48 [AV.slice true 3 ((I9 s k).map Gv)],AObj.defs,AObj.loop LoopState.done (some Code.ret) FR 32 #[13,14] as' bd' (oid Hp.length 3)]) (fun k=>by simp) (by simp [oid]) (fun k it hit=>?_),?_⟩
 ·generalize hV:Hp++[AObj.cells 48 [AV.nil],AObj.cells 26 [A2 0,A2 0],AObj.cells 48 [AV.slice true 3 ((I9 s k).map Gv)],AObj.defs,AObj.loop LoopState.ready none FR 32 #[13,14] as' bd' (oid Hp.length 3)]=V
  have hL:V[oid Hp.length 4]? = some (AObj.loop LoopState.ready none FR 32 #[13,14] as' bd' (oid Hp.length 3)):=by rw [←hV,Aq];rfl
  have hA0:V[oid Hp.length 2]? = some (AObj.cells 48 [AV.slice true 3 ((I9 s k).map Gv)]):=by rw [←hV,Aq];rfl
  have hB0:V[oid Hp.length 0]? = some (AObj.cells 48 [AV.nil]):=by rw [←hV,Aq];rfl
  have hC0:V[oid Hp.length 1]? = some (AObj.cells 26 [A2 0,A2 0]):=by rw [←hV,Aq];rfl
  refine AYield.ofRound (pd:=none) (fr:=FR) (sz:=32) (ps:=#[13,14]) (df:=oid Hp.length 3) (asg:=as') (bd:=bd') hL rfl (by decide) (fun d=>?_)
  subst hFR has hbd
  refine W.keep [2,3,4,13,14] ?_;refine Dq ?_;refine Z16 ?_;refine R.fin [2,3,4,5,14] ?_;refine Z86 ?_;refine R.fin [2,3,4,5,6] ?_
  refine ⟨rfl,none,hL,?_⟩
  generalize hbz:(AObj.loop LoopState.busy _ _ _ _ _ _ _)=bz
  have hA:(V.set (oid Hp.length 4) bz)[oid Hp.length 2]? = some (AObj.cells 48 [AV.slice true 3 ((I9 s k).map Gv)]):=by rw [List.getElem?_set_ne (D5 (by decide))];exact hA0
  have hB:(V.set (oid Hp.length 4) bz)[oid Hp.length 0]? = some (AObj.cells 48 [AV.nil]):=by rw [List.getElem?_set_ne (D5 (by decide))];exact hB0
  have hC:(V.set (oid Hp.length 4) bz)[oid Hp.length 1]? = some (AObj.cells 26 [A2 0,A2 0]):=by rw [List.getElem?_set_ne (D5 (by decide))];exact hC0
  refine AW.block ?_;refine Z21 ?_;refine R.fin [2,3,4,5,6,16] ?_
  refine W.cond (fun ht16=>?_) (fun ht16=>?_)
  ·have hne:it.2≠0:=by simpa using ht16
   refine W.drawY [0,0,2,7,0,31] [4] [.q 4 [] [],.s [] (some 0) [] []] (fun _=>V.set (oid Hp.length 4) bz) (fun _=>[AObj.cells 59 [A2 it.1.kind,A8 it.1.text,A2 it.1.at_]]) Ac (by kernel_rfl) rfl rfl (fun _=>rfl) ?_
   apply Y.q
   case h1 =>
    intro B hT hF
    refine Z54 ?_;exact yo
   case hTF=>decide
   refine Y.storeUp (o:=oid Hp.length 0) (ys:=[.nil]) (t':=48) (cs:=[AV.nil]) (cs':=[AV.nil]) jS (fun _ _=>⟨hB,(Eb hB).symm,rfl,by simp⟩) ?_;refine Y.tail (tn:=[4]) (U:=V.set (oid Hp.length 4) bz) ?_
   refine R.storeUp jS hC ?_ ?_
   ·simp
   refine R.fin [] ?_;refine Z22 ?_;refine K.blR ?_
   subst hbz
   refine K.rdR (l4 hL (D5 (by decide))) ?_
   rw [if_neg hne]
   refine ⟨rfl,?_⟩
   subst hV
   simp only [Er,List.set_cons_succ,List.set_cons_zero]
   rw [show Sn s k=(it.2,it.1.at_) by unfold Sn;rw [hit]]
  have heq:it.2=0:=by simpa using ht16
  refine Z8 ?_;refine AW.region ?_
  have hl3:=N5 s k
  refine R.loadUpT jA hA ?_;refine l8 ?_
  refine R.append jU Tryz.type59 ?_ ?_ ?_
  ·simp [hl3,Tryz.t59];omega
  ·simp [hl3,Tryz.t59];omega
  refine R.storeUpT jS (getset hA) ?_ ?_
  ·simp [or_imp,forall_and]
  refine Z43 ?_
  subst hbz
  refine K.rdN (cd hL (D5 (by decide)) (D5 (by decide))) ?_
  rw [if_pos heq]
  refine ⟨rfl,?_⟩
  subst hV
  simp only [Er,List.set_cons_succ,List.set_cons_zero]
  rw [Zm hit,List.map_append]
  rfl
 rintro r H' (⟨hz,rfl⟩|⟨k,it,hit,hne,h0,rfl⟩)
 ·refine ⟨Hp,_,_,_,rfl,rfl,fun h=>h,?_,rfl,by simp,?_⟩
  ·intro o ho
   have:o=oid Hp.length 3:=by simpa using ho
   subst this
   rw [Aq]
   rfl
  refine Z14 ?_;refine Dq ?_;refine R.loadOwnT jA ?_;refine Z0 ?_;refine ge ?_;refine Ru ?_
  refine R.append jU Tryz.type59 ?_ ?_ ?_
  ·have:=N5 s (Ax s).length;simp [Tryz.t59];omega
  ·have:=N5 s (Ax s).length;simp [Tryz.t59];omega
  refine W9 ?_;refine R.storeOwnT jS ?_;refine Fk ?_;refine Z34 ?_;exact K.fin (V.two (V.cell jA) (V.cellN jA jS)) ⟨by rw [mp hl4 hz,cg,List.map_append];rfl,rfl⟩ (hlow:=by simp [or_imp,forall_and])
 refine ⟨Hp,_,_,_,rfl,rfl,fun h=>h,?_,rfl,by simp,?_⟩
 ·intro o ho
  have:o=oid Hp.length 3:=by simpa using ho
  subst this
  rw [Aq]
  rfl
 refine W.nilOwn 0 3 ?_;refine Z55 ?_;exact K.fin (V.two (V.cell jA) (V.cellN jA jS)) ⟨by rw [gy hl4 hit hne h0,show Sn s k=(it.2,it.1.at_) by unfold Sn;rw [hit]];rfl,rfl⟩

inductive Expr where
 | mk (op:Int) (text:Str) (val:Val) (kids:List Expr)
def Expr.op:Expr→Int|.mk o _ _ _=>o
def Expr.text:Expr→Str|.mk _ t _ _=>t
def Expr.val:Expr→Val|.mk _ _ v _=>v
def Expr.kids:Expr→List Expr|.mk _ _ _ k=>k
mutual
def A7:Expr→AV
 | .mk o t v k=>.agg [.v (.int .i64 o),.v (sv t),.v (.int .i64 v.kind),.v (.int .i64 v.n),.v (sv v.s),.slice false 6 (N6 k)]
def N6:List Expr→List AV
  | []=>[]
  | e::r=>A7 e::N6 r
 end
theorem Pu:∀l,N6 l=l.map A7
 | []=>rfl
 | e::r=>by rw [N6,Pu r];rfl
theorem Ab (e:Expr):A7 e=.agg [.v (.int .i64 e.op),.v (sv e.text),.v (.int .i64 e.val.kind),.v (.int .i64 e.val.n),.v (sv e.val.s),.slice false 6 (e.kids.map A7)]:=by
 cases e with
 | mk o t v k=>rw [A7,Pu];rfl
attribute [go_sem] Ab
def Kf:Str:=[32,111,114,32,32,97,110,100,32,32,61,32,33,61,32,60,32,60,61,32,62,32,62,61,32,32,43,32,45,32,38,32,32,42,32,47,32,37,32]
def Ga (v:Val):Bool:=v.kind==0&&v.n==0&&v.s==[]
def B1 (e:Expr):Bool:=
 if e.op==1 then ((By e.val&&decide (0≤e.val.n))&&(e.text==[]))&&((e.kids.length:Int)==0)
 else if e.op==2 then (Ga e.val&&C5 e.text)&&((e.kids.length:Int)==0)
 else if e.op==3 || e.op==4 then (Ga e.val&&(e.text==[]))&&((e.kids.length:Int)==1)
 else if e.op==5 then (Ga e.val&&Dc e.text Kf)&&((e.kids.length:Int)==2)
 else if e.op==6 then Ga e.val&&(Aw e.text==(e.kids.length:Int))
 else false
theorem ABj (e:Expr) (hs:e.text.length≤1048576) (Hp:List AObj):AFun Tryz.prog 107 [A7 e] Hp (B2 (B1 e)):=by
 refine ACall.body [.tmp 2] [0] Tryz.func107 Tryz.ntmps107 (fun d=>?_)
 refine Z89 ?_;refine Z1 ?_;refine ge ?_
 refine R.go (h:=Q.eqlAgg wd (Un e.val.kind e.val.n 0 0 e.val.s [])) (hr:=?_)
 refine R.go ?_;refine R.fin [1,3] ?_;refine Z21 ?_;refine R.fin [1,3,9] ?_;refine Z69 ?_;refine R.fin [1,3,9,10] ?_
 refine W.cond (fun ht10=>?_) (fun ht10=>?_)
 ·refine Z1 ?_;refine R.call Tryz.call143 (c143 e.val _) ?_;refine R.go ?_;refine Z9 ?_;refine Z9 ?_;refine g9 ?_;exact lg
 refine Z1 ?_;refine R.fin [1,3,9,32] ?_
 refine W.cond (fun ht32=>?_) (fun ht32=>?_)
 ·refine Z1 ?_;refine Z9 ?_;refine G.call Tryz.call67 (fun hB=>c67 e.text hs _) ?_;exact lg
 refine Z21 ?_;refine R.fin [1,3,9,46] ?_
 refine W.cond (fun ht46=>?_) (fun ht46=>?_)
 ·refine Z8 ?_
  refine W.cond (fun ht46=>?_) (fun ht46=>?_)
  ·refine Z1 ?_;refine Z65 ?_;exact lg
  refine Z1 ?_;refine R.fin [1,3,9,61] ?_
  refine W.cond (fun ht61=>?_) (fun ht61=>?_)
  ·refine Z1 ?_;refine Z9 ?_;exact yp
  refine Z1 ?_;refine R.fin [1,3,75] ?_
  refine W.cond (fun ht75=>?_) (fun ht75=>?_)
  ·refine z6 ?_;refine Z97 ?_;refine H.call Tryz.call145 (fun hB=>c145 e.text _) ?_;refine Z97 ?_;refine H.go ?_;refine D.tail ?_;refine G.go ?_;refine Z0 ?_;exact Z33
  exact yq
 refine Z11 ?_;refine R.fin [1,3,9,46] ?_;refine K.thN ?_
 refine W.cond (fun ht46=>?_) (fun ht46=>?_)
 ·refine Z1 ?_;refine Z65 ?_;exact lg
 refine Z1 ?_;refine R.fin [1,3,9,61] ?_
 refine W.cond (fun ht61=>?_) (fun ht61=>?_)
 ·refine Z1 ?_;refine Z9 ?_;exact yp
 refine Z1 ?_;refine R.fin [1,3,75] ?_
 refine W.cond (fun ht75=>?_) (fun ht75=>?_)
 ·refine z6 ?_;refine Z97 ?_;refine H.call Tryz.call145 (fun hB=>c145 e.text _) ?_;refine Z97 ?_;refine H.go ?_;refine D.tail ?_;refine G.go ?_;refine Z0 ?_;exact Z33
 exact yq

mutual
def Ap (d:Int):Expr→List (Int×Expr)
 | .mk o t v k=>(d,.mk o t v k)::Am (d+1) k
def Am (d:Int):List Expr→List (Int×Expr)
  | []=>[]
  | e::r=>Ap d e++Am d r
 end
theorem Fm (d:Int) (e:Expr):Ap d e=(d,e)::Am (d+1) e.kids:=by cases e;rfl
theorem Hz (d:Int):∀a b,Am d (a++b)=Am d a++Am d b
 | [],b=>rfl
 | e::r,b=>by rw [List.cons_append,Am,Am,Hz d r b,List.append_assoc]
theorem Wj (d:Int) (l:List Expr) {x:Nat} (h:x<l.length):Am d (l.take (x+1))=Am d (l.take x)++Ap d l[x]:=by
 rw [List.take_succ_eq_append_getElem h,Hz]
 simp [Am]
theorem Lu (d:Int) (l:List Expr) {x:Nat} (h:x<l.length):Am d l=Am d (l.take x)++(Ap d l[x]++Am d (l.drop (x+1))):=by
 have e:l=l.take x++(l[x]::l.drop (x+1)):=by rw [←List.drop_eq_getElem_cons h,List.take_append_drop]
 conv=>lhs;rw [e]
 rw [Hz,Am]
mutual
def sizeE:Expr→Nat
 | .mk _ _ _ k=>1+Bk k
def Bk:List Expr→Nat
  | []=>0
  | e::r=>sizeE e+Bk r
 end
theorem Em (e:Expr):sizeE e=1+Bk e.kids:=by cases e;rfl
theorem N7:∀(l:List Expr) {x:Nat} (h:x<l.length),sizeE l[x]≤Bk l
 | e::r,0,_=>by simp only [List.getElem_cons_zero,Bk];omega
 | e::r,x+1,h=>by
  have:=N7 r (x:=x) (by simpa using h)
  simp only [List.getElem_cons_succ,Bk]
  omega
theorem mq (e:Expr) {x:Nat} (h:x<e.kids.length):sizeE e.kids[x]+1≤sizeE e:=by
 have:=N7 e.kids h
 rw [Em e]
 omega
/-- Each node has few kids. -/
def okE:Nat→Expr→Prop
 | 0,_=>False
 | n+1,e=>e.text.length≤1048576∧e.kids.length≤1048576∧∀y∈e.kids,okE n y
/-- Who takes what a tree yields: item k is taken at U k; it goes on (go k) to U (k + 1), or ends at F k. Behind U k there may stand others' objects. -/
structure Takes (P:Program) (l:Nat) (L:List (Int×Expr)) (go:Nat→Bool) (U F:Nat→List AObj) (n0:Nat):Prop where
 lenU:∀k,(U k).length=n0
 lenF:∀k,(F k).length=n0
 lowU:∀k,∀x∈U k,ObjLow n0 x
 lowF:∀k,∀x∈F k,ObjLow n0 x
 lt:l<n0
 y:∀(X:List AObj) (k:Nat) (it:Int×Expr),L[k]? = some it→(∀j,j<k→go j=true)→AYield P l [A2 it.1,A7 it.2] (U k++X) (fun b H'=>b=go k∧H'=(if go k then U (k+1) else F k)++X)
theorem ObjLow.le {m m':Nat} (h:m≤m') {x:AObj} (hx:ObjLow m x):ObjLow m' x:=by
 cases x with
 | cells t cs=>exact fun y hy=>(hx y hy).mono h
 | loop s pd fr sz ps as' bd df=>exact ⟨fun s=>(hx.1 s).mono h,Nat.lt_of_lt_of_le hx.2 h⟩
 | defs=>trivial
 | dead=>trivial
 | bld _ _ _=>trivial
 | gone=>trivial
/-- What the walk over n items from k0 on comes to. -/
def Wk (go:Nat→Bool) (U F:Nat→List AObj) (k0 n:Nat) (X:List AObj):AV→List AObj→Prop:=fun r H' =>
 ((∀j,j<n→go (k0+j)=true)∧r=B2 true∧H'=U (k0+n)++X)∨(∃j,j<n∧(∀i,i<j→go (k0+i)=true)∧go (k0+j)=false∧r=B2 false∧H'=F (k0+j)++X)
mutual
theorem Ad (m:Nat):∀e,Low m (A7 e)
 | .mk o t v k=>by
  rw [A7]
  refine .agg _ fun y hy=>?_
  simp only [List.mem_cons,List.mem_nil_iff,or_false] at hy
  rcases hy with rfl|rfl|rfl|rfl|rfl|rfl
  ·exact .v _
  ·exact .v _
  ·exact .v _
  ·exact .v _
  ·exact .v _
  exact low_slice.2 (Pv m k)
theorem Pv (m:Nat):∀l,∀y∈N6 l,Low m y
  | [],y,hy=>by cases hy
  | e::r,y,hy=>by
    rw [N6] at hy
    rcases List.mem_cons.1 hy with rfl|h
    · exact Ad m e
    exact Pv m r y h
 end
theorem Lv {V O A B own:List AObj} (h:V++O=A++(B++own)) (hl:V.length=(A++B).length):V=A++B∧O=own:=by
 rw [←List.append_assoc] at h
 exact List.append_inj h hl
theorem Kg {m:Nat} {A X:List AObj} (hA:∀x∈A,ObjLow m x) (hX:∀x∈X,ObjLow m x):∀x∈A++X,ObjLow m x:=fun x hx=>by
 rcases List.mem_append.1 hx with h|h
 ·exact hA x h
 exact hX x h
theorem Zn {P:Program} {l:Nat} {L:List (Int×Expr)} {go:Nat→Bool} {U F:Nat→List AObj} {n0 k n K:Nat} {X own V O:List AObj} {r:AV} (T:Takes P l L go U F n0) (hV:V.length=(U K++X).length) (hp:Wk go U F k n (X++own) r (V++O)):
  ∃b,r=B2 b∧O=own∧(if b then (∀j,j<n→go (k+j)=true)∧V=U (k+n)++X else ∃j,j<n∧(∀i,i<j→go (k+i)=true)∧go (k+j)=false∧V=F (k+j)++X)∧((∀x∈U K++X,ObjLow V.length x)→∀x∈V,ObjLow V.length x):=by
 have hn:n0≤V.length:=by rw [hV,List.length_append,T.lenU];omega
 rcases hp with ⟨h1,h2,h3⟩|⟨j,hj,h1,h2,h3,h4⟩
 ·obtain ⟨e1,e2⟩:=Lv h3 (by rw [hV];simp [T.lenU])
  refine ⟨true,h2,e2,⟨h1,e1⟩,fun h=>?_⟩
  rw [e1] at h ⊢
  exact Kg (fun x hx=>ObjLow.le (by rw [List.length_append,T.lenU];omega) (T.lowU _ x hx)) (fun x hx=>h x (List.mem_append_right _ hx))
 obtain ⟨e1,e2⟩:=Lv h4 (by rw [hV];simp [T.lenU,T.lenF])
 refine ⟨false,h3,e2,⟨j,hj,h1,h2,e1⟩,fun h=>?_⟩
 rw [e1] at h ⊢
 exact Kg (fun x hx=>ObjLow.le (by rw [List.length_append,T.lenF];omega) (T.lowF _ x hx)) (fun x hx=>h x (List.mem_append_right _ hx))
theorem Wl (d:Int) (l:List Expr) {x:Nat} (h:x<l.length):(Am d (l.take (x+1))).length=(Am d (l.take x)).length+(Ap d l[x]).length:=by rw [Wj d l h,List.length_append]
theorem mr {d0:Int} {e:Expr} {x:Nat} (h:x<e.kids.length) {j:Nat} {it:Int×Expr} (hj:(Ap (d0+1) e.kids[x])[j]? = some it):(Ap d0 e)[1+(Am (d0+1) (e.kids.take x)).length+j]? = some it:=by
 rw [Fm d0 e,show 1+(Am (d0+1) (e.kids.take x)).length+j=((Am (d0+1) (e.kids.take x)).length+j)+1 by omega,List.getElem?_cons_succ,Lu (d0+1) e.kids h,List.getElem?_append_right (by omega)]
 rw [show (Am (d0+1) (e.kids.take x)).length+j-(Am (d0+1) (e.kids.take x)).length=j by omega,List.getElem?_append_left (List.getElem?_eq_some_iff.1 hj).1]
 exact hj
theorem gz (d0:Int) (e:Expr) {x:Nat} (h:x<e.kids.length):1+(Am (d0+1) (e.kids.take x)).length+(Ap (d0+1) e.kids[x]).length≤(Ap d0 e).length:=by
 rw [Fm d0 e,List.length_cons,Lu (d0+1) e.kids h]
 simp only [List.length_append]
 omega
theorem ABk {l:Nat} {L:List (Int×Expr)} {go:Nat→Bool} {U F:Nat→List AObj} {n0:Nat} (T:Takes Tryz.prog l L go U F n0):∀(n:Nat) (e:Expr),okE n e→∀(d0:Int) (k0:Nat) (X:List AObj),0≤d0→d0+n≤1099511627776→(∀(j:Nat) (it:Int×Expr),(Ap d0 e)[j]? = some it→L[k0+j]? = some it)→(∀j,j<k0→go j=true)→ACall Tryz.prog 142 [A7 e,A2 d0,.yield l] (U k0++X) (Wk go U F k0 (Ap d0 e).length X):=by
 intro n
 induction n with
 | zero=>exact fun e h=>h.elim
 | succ n ih =>
 intro e hok d0 k0 X hd hdn hit hgo
 have hlen0:(U k0++X).length=n0+X.length:=by rw [List.length_append,T.lenU]
 refine ACall.body [.tmp 6] [0,1,2] Tryz.func142 Tryz.ntmps142 (fun d=>?_)
 refine Z1 ?_;refine R.fin [1,2,3] ?_;refine Z35 ?_
 refine R.yield0 (T.y X k0 (d0,e) (hit 0 _ (by rw [Fm];rfl)) hgo) ?_
 intro b Vv hV hb
 refine R.go ?_;refine R.fin [1,2,3,13] ?_
 refine W.cond (fun ht13=>?_) (fun ht13=>?_)
 ·have hb':b=false:=by simpa using ht13
  subst hb'
  refine ls ?_;refine Z22 ?_;exact K.fin (V.one V.tmp) (Or.inr ⟨0,by rw [Fm];simp,fun i hi=>by omega,hb.1.symm,rfl,by have:=hb.2;rw [show go k0=false from hb.1.symm] at this;exact this⟩)
 have hb':b=true:=by simpa using ht13
 subst hb'
 have hgo0:go (k0+0)=true:=hb.1.symm
 have hVe:Vv=U (k0+1)++X:=by have:=hb.2;rw [show go k0=true from hb.1.symm] at this;exact this
 subst hVe
 have h0x:0≤e.kids.length∧∀j,j<1+(Am (d0+1) (e.kids.take 0)).length→go (k0+j)=true:=⟨Nat.zero_le _,fun j hj=>by
  have:j=0:=by simp [Am] at hj;omega
  subst this
  exact hgo0⟩
 refine Z8 ?_;refine Z77 ?_;refine R.fin [1,2,15,16,17] ?_
 refine AW.loopC (α:=Nat) (fun x=>⟨28,A6 1 (A2 d0) (A6 2 (.yield l) (A6 15 (.slice false 6 (e.kids.map A7)) (A6 16 (A2 e.kids.length) (A6 17 (A2 (x:Nat)) (fun _=>.any))))),U (k0+(1+(Am (d0+1) (e.kids.take x)).length))++X,[],[],none⟩) (fun x=>x≤e.kids.length∧∀j,j<1+(Am (d0+1) (e.kids.take x)).length→go (k0+j)=true) (fun x=>e.kids.length-x) (0) h0x (StLe.of_eq (by simp [Am])) rfl (fun x hx=>?_)
 refine Z3 ?_;refine R.fin [1,2,15,16,17,18] ?_
 refine W.condX (fun ht18=>?_) (fun ht18=>?_)
 ·have hlt:x<e.kids.length:=by simpa using ht18
  have hkl:=hok.2.1
  refine Z88 ?_
  refine R.go (h:=Q.indexAddr (x) (A7 e.kids[x]) (fun _=>C4 hlt)) (hr:=?_)
  refine Uh ?_;refine R.fin [1,2,8,15,16,17] ?_;refine Z28 ?_
  refine R.callG Tryz.call142 (args:=[A7 e.kids[x],A2 (d0+1),.yield l]) (by rw [List.append_assoc];exact ih e.kids[x] (hok.2.2 _ (List.getElem_mem hlt)) (d0+1) (k0+(1+(Am (d0+1) (e.kids.take x)).length)) (X++_) (by omega) (by omega) (fun j it hj=>by have:=hit _ it (mr hlt hj);rwa [←Nat.add_assoc] at this) (fun j hj=>by rcases Nat.lt_or_ge j k0 with h|h;exact hgo j h;have:=hx.2 (j-k0) (by omega);rwa [show k0+(j-k0)=j by omega] at this)) ?_
  intro r Vv O hV hp
  obtain ⟨b,rfl,rfl,hc,hlowV⟩:=Zn T hV hp
  refine ⟨hlowV,fun o ho=>by simp at ho,?_⟩
  refine R.go ?_;refine R.fin [1,2,15,16,17,26] ?_
  refine W.cond (fun ht26=>?_) (fun ht26=>?_)
  ·have hb':b=false:=by simpa using ht26
   subst hb'
   obtain ⟨j,hj,h1,h2,h3⟩:=hc
   refine ls ?_;refine Z55 ?_;refine Z39 ?_
   have hil:=gz d0 e hlt
   refine K.fin (V.one V.tmp) (Or.inr ⟨1+(Am (d0+1) (e.kids.take x)).length+j,by omega,fun i hi=>?_,by rwa [Nat.add_assoc] at h2,rfl,by rwa [Nat.add_assoc] at h3⟩)
   rcases Nat.lt_or_ge i (1+(Am (d0+1) (e.kids.take x)).length) with h|h
   ·exact hx.2 i h
   have:=h1 (i-(1+(Am (d0+1) (e.kids.take x)).length)) (by omega)
   rwa [show k0+(1+(Am (d0+1) (e.kids.take x)).length)+(i-(1+(Am (d0+1) (e.kids.take x)).length))=k0+i by omega] at this
  have hb':b=true:=by simpa using ht26
  subst hb'
  obtain ⟨h1,h3⟩:=hc
  refine Z75 ?_;refine R.fin [1,2,15,16,17] ?_
  subst h3
  have hll:=Wl (d0+1) e.kids hlt
  have e1:k0+(1+(Am (d0+1) (e.kids.take (x+1))).length)=k0+(1+(Am (d0+1) (e.kids.take x)).length)+(Ap (d0+1) e.kids[x]).length:=by omega
  refine K.lpN (x+1) ⟨hlt,fun j hj=>?_⟩ (by omega) ?_
  ·rcases Nat.lt_or_ge j (1+(Am (d0+1) (e.kids.take x)).length) with h|h
   ·exact hx.2 j h
   have:=h1 (j-(1+(Am (d0+1) (e.kids.take x)).length)) (by omega)
   rwa [show k0+(1+(Am (d0+1) (e.kids.take x)).length)+(j-(1+(Am (d0+1) (e.kids.take x)).length))=k0+j by omega] at this
  simp only [e1]
  exact StCut.take (own:=[]) (fun _=>.refl _) (by repeat (first|exact B0|refine Az (by first|(simp [Ad];done)|(have:=T.lt;simp [T.lenU];omega)) ?_)) (by simp) (by simp)
 have hxe:e.kids.take x=e.kids:=List.take_of_length_le (by simp at ht18;omega)
 refine Z63 ?_;refine Z96 ?_
 have hl2:(Ap d0 e).length=1+(Am (d0+1) (e.kids.take x)).length:=by rw [Fm,hxe,List.length_cons];omega
 exact K.fin (V.one V.tmp) (Or.inl ⟨fun j hj=>hx.2 j (by omega),rfl,by rw [hl2]⟩)

abbrev E3 (e:Expr):List AV:=[.v (.int .i64 e.op),.v (sv e.text),.v (.int .i64 e.val.kind),.v (.int .i64 e.val.n),.v (sv e.val.s),.slice false 6 (e.kids.map A7)]
/-- What taking all of a tree comes to. -/
def Ia (go:Nat→Bool) (U F:Nat→List AObj) (n:Nat) (H':List AObj):Prop:=
 ((∀j,j<n→go j=true)∧H'=U n)∨(∃j,j<n∧(∀i,i<j→go i=true)∧go j=false∧H'=F j)
theorem wo {l:Nat} {e:Expr} {go:Nat→Bool} {U F:Nat→List AObj} {n0:Nat} (T:Takes Tryz.prog l (Ap 1 e) go U F n0) (n:Nat) (hok:okE n e) (hn:n≤1048576):ACall Tryz.prog 141 [.yield l,.ro (E3 e)] (U 0) (fun r H'=>Ia go U F (Ap 1 e).length H'):=by
 refine ACall.body [] [0,1] Tryz.func141 Tryz.ntmps141 (fun d=>?_)
 refine Z11 ?_;refine R.callG Tryz.call142 (args:=[A7 e,A2 1,.yield l]) (ABk T n e hok 1 0 [] (by omega) (by omega) (fun j it hj=>by rwa [Nat.zero_add]) (fun j hj=>by omega)) ?_
 intro r Vv O hV hp
 have hO:O=[]:=by
  have h1:(Vv++O).length=n0:=by rcases hp with ⟨_,_,h⟩|⟨j,_,_,_,_,h⟩<;>rw [h]<;>simp [T.lenU,T.lenF]
  have h2:=T.lenU 0
  rw [List.length_append,hV,h2] at h1
  exact List.eq_nil_of_length_eq_zero (by omega)
 subst hO
 rw [List.append_nil] at hp
 have hq:Ia go U F (Ap 1 e).length Vv:=by
  rcases hp with ⟨h1,_,h⟩|⟨j,h1,h2,h3,_,h⟩
  ·exact .inl ⟨fun j hj=>by have:=h1 j hj;rwa [Nat.zero_add] at this,by rw [h];simp⟩
  exact .inr ⟨j,h1,fun i hi=>by have:=h2 i hi;rwa [Nat.zero_add] at this,by rwa [Nat.zero_add] at h3,by rw [h];simp⟩
 refine ⟨fun h=>?_,fun o ho=>by simp at ho,?_⟩
 ·rcases hq with ⟨_,h⟩|⟨j,_,_,_,h⟩<;>rw [h]
  ·rw [T.lenU];exact T.lowU _
  rw [T.lenF];exact T.lowF _
 refine R.fin [] ?_;exact K.finN .nores (hp:=hq)

theorem ABl (e:Expr) (Hp:List AObj):AFun Tryz.prog 106 [A7 e] Hp (.fn (.func 141) [] [.ro (E3 e)]):=by
 refine ACall.body [.tmp 2] [0] Tryz.func106 Tryz.ntmps106 (fun d=>?_)
 refine Z89 ?_;refine Dq ?_;refine Km ?_;refine R.go ?_;refine Z4 ?_;exact K.fin (V.one V.tmp) (hlow:=by have:=Ad Hp.length e;rw [Ab] at this;simpa using this)

def goM (e:Expr) (k:Nat):Bool:=match (Ap 1 e)[k]? with
 | some it => !((!B1 it.2 || decide ((30:Int)<it.1)) || decide ((300:Int)<(k:Int)+1))
 | none=>true
def Ay (e:Expr):Bool:=(List.range (Ap 1 e).length).all (goM e)
mutual
theorem So:∀(n:Nat) (e:Expr),okE n e→∀d,∀it∈Ap d e,it.2.text.length≤1048576
 | 0,_,h,_,_,_=>h.elim
 | n+1,e,h,d,it,hit=>by
  rw [Fm] at hit
  rcases List.mem_cons.1 hit with rfl|h'
  ·exact h.1
  exact Sp n e.kids h.2.2 (d+1) it h'
 termination_by n e=>(n,0)
theorem Sp:∀(n:Nat) (l:List Expr),(∀y∈l,okE n y)→∀d,∀it∈Am d l,it.2.text.length≤1048576
  | n,[],_,_,_,h=>by cases h
  | n,e::r,h,d,it,hit=>by
    rw [Am] at hit
    rcases List.mem_append.1 hit with h'|h'
    · exact So n e (h e (by simp)) d it h'
    exact Sp n r (fun y hy=>h y (by simp [hy])) d it h'
  termination_by n l=>(n,l.length+1)
 end
theorem Zo {U:List AObj} {i j:Nat} {x y:AObj} (h:U[i]? = some x) (hne:j≠i):(U.set j y)[i]? = some x:=by rw [List.getElem?_set_ne hne];exact h
theorem wq {e:Expr} {k:Nat} {it:Int×Expr} (hit:(Ap 1 e)[k]? = some it) (h:∀j,j<k→goM e j=true):(k:Int)≤300:=by
 rcases Nat.eq_zero_or_pos k with h0|h0
 ·omega
 have hl:=(List.getElem?_eq_some_iff.1 hit).1
 have:=h (k-1) (by omega)
 unfold goM at this
 rw [List.getElem?_eq_getElem (by omega)] at this
 simp at this
 omega
theorem Uv {e:Expr} {k:Nat} {it:Int×Expr} (hit:(Ap 1 e)[k]? = some it):goM e k = !((!B1 it.2 || decide ((30:Int)<it.1)) || decide ((300:Int)<(k:Int)+1)):=by
 unfold goM;rw [hit]
theorem c70 (n:Nat) (e:Expr) (hok:okE n e) (hn:n≤1048576) (Hp:List AObj):AFun Tryz.prog 70 [A7 e] Hp (B2 (Ay e)):=by
 refine ACall.body [.cell 2 4] [0,4,5] Tryz.func70 Tryz.ntmps70 (fun d=>?_)
 refine Z3 ?_;refine R.alloc jZ ?_;refine R.fin [1,2,4,5] ?_;refine Dq ?_;refine Z16 ?_;refine R.fin [1,2,3,4,5] ?_;refine Z49 ?_
 refine R.assumeLow (fun hlow=>?_)
 refine w5 ?_;refine R.fin [2,3,4,5,7] ?_;refine AW.block ?_
 refine W.rangeV (m:=2) Tryz.call141 (fun FR as' bd' hFR has hbd=>?_)
 have hFRl:∀s,Low (Hp.length+4) (FR s):=by
  intro s
  rw [hFR]
  refine Low.strip ?_
  revert s
  repeat (first|exact B0|refine Az (by simp [oid,Ad]<;>try omega) ?_)
 have hOl:∀{k:Nat},∀x∈[AObj.cells 4 [B2 false],AObj.cells 3 [A2 (k:Nat)],AObj.defs,AObj.loop LoopState.ready none FR 23 #[8,9] as' bd' (oid Hp.length 2)],ObjLow (Hp.length+4) x:=by
  intro k x hx
  simp only [List.mem_cons,List.mem_nil_iff,or_false] at hx
  rcases hx with rfl|rfl|rfl|rfl
  ·exact r7
  ·exact r7
  ·trivial
  exact ly
 have hOf:∀{k:Nat},∀x∈[AObj.cells 4 [B2 false],AObj.cells 3 [A2 ((k:Nat)+1)],AObj.defs,AObj.loop LoopState.done (some Code.ret) FR 23 #[8,9] as' bd' (oid Hp.length 2)],ObjLow (Hp.length+4) x:=by
  intro k x hx
  simp only [List.mem_cons,List.mem_nil_iff,or_false] at hx
  rcases hx with rfl|rfl|rfl|rfl
  ·exact r7
  ·exact r7
  ·trivial
  exact ly
 refine ⟨fun _ H'=>Ia (goM e) (fun k=>Hp++[AObj.cells 4 [B2 false],AObj.cells 3 [A2 (k:Nat)],AObj.defs,AObj.loop LoopState.ready none FR 23 #[8,9] as' bd' (oid Hp.length 2)]) (fun k=>Hp++[AObj.cells 4 [B2 false],AObj.cells 3 [A2 ((k:Nat)+1)],AObj.defs,AObj.loop LoopState.done (some Code.ret) FR 23 #[8,9] as' bd' (oid Hp.length 2)]) (Ap 1 e).length H',wo (l:=oid Hp.length 3) (go:=goM e) (U:=fun k=>Hp++[AObj.cells 4 [B2 false],AObj.cells 3 [A2 (k:Nat)],AObj.defs,AObj.loop LoopState.ready none FR 23 #[8,9] as' bd' (oid Hp.length 2)]) (F:=fun k=>Hp++[AObj.cells 4 [B2 false],AObj.cells 3 [A2 ((k:Nat)+1)],AObj.defs,AObj.loop LoopState.done (some Code.ret) FR 23 #[8,9] as' bd' (oid Hp.length 2)]) (n0:=Hp.length+4) ⟨fun k=>by simp,fun k=>by simp,fun k x hx=>?_,fun k x hx=>?_,by simp [oid],fun X k it hit hgo=>?_⟩ n hok hn,?_⟩
 ·exact lz
 ·exact Kg (fun x hx=>ObjLow.le (by omega) (hlow x hx)) hOf x hx
 ·have hk3:=wq hit hgo
  generalize hV:(Hp++[AObj.cells 4 [B2 false],AObj.cells 3 [A2 (k:Nat)],AObj.defs,AObj.loop LoopState.ready none FR 23 #[8,9] as' bd' (oid Hp.length 2)]++X)=V
  have hL:V[oid Hp.length 3]? = some (AObj.loop LoopState.ready none FR 23 #[8,9] as' bd' (oid Hp.length 2)):=by rw [←hV,List.append_assoc,Aq];rfl
  have hA0:V[oid Hp.length 1]? = some (AObj.cells 3 [A2 (k:Nat)]):=by rw [←hV,List.append_assoc,Aq];rfl
  have hB0:V[oid Hp.length 0]? = some (AObj.cells 4 [B2 false]):=by rw [←hV,List.append_assoc,Aq];rfl
  refine AYield.ofRound (pd:=none) (fr:=FR) (sz:=23) (ps:=#[8,9]) (df:=oid Hp.length 2) (asg:=as') (bd:=bd') hL rfl (by decide) (fun d=>?_)
  subst hFR has hbd
  refine W.keep [2,3,8,9] ?_;refine Z3 ?_;refine R.fin [2,3,4,9] ?_;refine AW.region ?_;refine Z16 ?_;refine R.fin [2,3,4,5] ?_
  refine ⟨rfl,none,hL,?_⟩
  generalize hbz:(AObj.loop LoopState.busy _ _ _ _ _ _ _)=bz
  have hA:(V.set (oid Hp.length 3) bz)[oid Hp.length 1]? = some (AObj.cells 3 [A2 (k:Nat)]):=by rw [List.getElem?_set_ne (D5 (by decide))];exact hA0
  have hB:(V.set (oid Hp.length 3) bz)[oid Hp.length 0]? = some (AObj.cells 4 [B2 false]):=by rw [List.getElem?_set_ne (D5 (by decide))];exact hB0
  refine AW.block ?_;refine Dq ?_
  refine R.go (h:=Q.loadUp hA) (hr:=?_)
  refine R.go ?_
  refine R.storeUp jS hA ?_ ?_
  ·simp
  refine R.fin [2,3,4,5] ?_;refine Z3 ?_;refine R.call Tryz.call107 (ABj it.2 (So n e hok 1 it (List.mem_of_getElem? hit)) _) ?_;refine Z42 ?_;refine Z0 ?_
  refine G.go (h:=Q.loadUp (getset hA)) (hr:=?_)
  refine W6 ?_;refine R.fin [2,22] ?_
  refine W.cond (fun ht22=>?_) (fun ht22=>?_)
  ·have hgf:goM e k=false:=by rw [Uv hit,ht22];rfl
   refine Dq ?_
   refine R.storeUp jS (Zo (j:=oid Hp.length 1) hB (D5 (by decide))) ?_ ?_
   ·simp
   refine R.fin [] ?_;refine AW.ret ?_;refine K.blR ?_
   subst hbz
   refine K.rdR (cd hL (D5 (by decide)) (D5 (by decide))) ?_
   refine ⟨hgf.symm,?_⟩
   rw [if_neg (by rw [hgf];simp)]
   subst hV
   simp only [List.append_assoc,Er,List.cons_append,List.nil_append,List.set_cons_succ,List.set_cons_zero]
   try rfl
  have hgt:goM e k=true:=by rw [Uv hit,ht22];rfl
  refine AW.skip ?_;refine K.blN ?_
  subst hbz
  refine rf ?_
  refine ⟨hgt.symm,?_⟩
  rw [if_pos hgt]
  subst hV
  simp only [List.append_assoc,Er,List.cons_append,List.nil_append,List.set_cons_succ,List.set_cons_zero]
  try rfl
 rintro r H' (⟨h1,rfl⟩|⟨j,hj,h1,h2,rfl⟩)
 ·refine ⟨Hp,_,_,_,rfl,rfl,fun h=>h,?_,rfl,by simp,?_⟩
  ·intro o ho
   have:o=oid Hp.length 2:=by simpa using ho
   subst this
   rw [Aq]
   rfl
  refine Z14 ?_;refine Dq ?_;refine Z7 ?_;exact K.fin (V.one (V.cell jA)) ⟨by rw [show Ay e=true from List.all_eq_true.2 fun j hj=>h1 j (List.mem_range.1 hj)],rfl⟩
 refine ⟨Hp,_,_,_,rfl,rfl,fun h=>h,?_,rfl,by simp,?_⟩
 ·intro o ho
  have:o=oid Hp.length 2:=by simpa using ho
  subst this
  rw [Aq]
  rfl
 refine Z55 ?_;exact K.fin (V.one (V.cell jA)) ⟨by rw [show Ay e=false from List.all_eq_false.2 ⟨j,List.mem_range.2 hj,by rw [h2];simp⟩],rfl⟩

def B3 (s:Str):Expr:=.mk 2 s ⟨0,0,[]⟩ []
theorem Wm (s:Str):Le (.agg [A2 2,A8 s,A2 0,A2 0,A8 [],.nil]) (A7 (B3 s)):=by
 rw [Ab]
 refine .agg _ _ rfl (by simp [AV.one,Value.oneCell',sv]) fun i y y' h1 h2=>?_
 match i with
 | 0=>simp at h1 h2;subst h1;subst h2;exact .inl rfl
 | 1=>simp at h1 h2;subst h1;subst h2;exact .inl rfl
 | 2=>simp at h1 h2;subst h1;subst h2;exact .inl rfl
 | 3=>simp at h1 h2;subst h1;subst h2;exact .inl rfl
 | 4=>simp at h1 h2;subst h1;subst h2;exact .inl rfl
 | 5=>simp at h1 h2;subst h1;subst h2;exact .inr ⟨rfl,6,rfl⟩
 | i+6=>simp at h1
theorem Wn (s:Str) (h:s.length≤1048576):okE 1 (B3 s):=⟨h,by simp [B3,Expr.kids],fun y hy=>by cases hy⟩
def N8 (c:List Col) (x:Nat) (y:Col):Bool := !(((!Ay (B3 y.name)) || (Ah y.kind==[])) || (Bh y.name c != (x:Int)))
def Pw (c:List Col):Bool:=c.zipIdx.all fun x=>N8 c x.2 x.1
theorem colsP_true {c:List Col}:Pw c=true↔∀(j:Nat) (y:Col),c[j]? = some y→N8 c j y=true:=L6
theorem wr (c:List Col) (hc:OkCols c) (Hp:List AObj):AFun Tryz.prog 113 [Ar c] Hp (B2 (Pw c)):=by
 refine ACall.body [.tmp 2] [0] Tryz.func113 Tryz.ntmps113 (fun d=>?_)
 refine Z48 ?_;refine Z35 ?_;refine R.fin [0,5,6,7] ?_
 refine AW.loopC (α:=Nat) (fun x=>⟨32,A6 0 (Ar c) (A6 5 (Ar c) (A6 6 (A2 c.length) (A6 7 (A2 (x:Nat)) (fun _=>.any)))),Hp,[],[],none⟩) (fun x=>x≤c.length∧∀(j:Nat) (y:Col),j<x→c[j]? = some y→N8 c j y=true) (fun x=>c.length-x) (0) (by simp) (StLe.of_eq (by simp)) rfl (fun x hx=>?_)
 refine Z3 ?_;refine R.fin [0,5,6,7,8] ?_
 refine W.condX (fun ht8=>?_) (fun ht8=>?_)
 ·have hlt:x<c.length:=by simpa using ht8
  have hcl:=hc.len
  refine Z92 ?_
  refine R.go (h:=Q.indexAddr (x) (Av c[x]) (fun _=>C4 hlt)) (hr:=?_)
  refine R.go ?_;refine Z87 ?_;refine R.fin [0,3,4,5,6,7] ?_;refine Z90 ?_;refine R.wk 14 _ (Wm c[x].name) ?_;refine R.call Tryz.call70 (c70 1 (B3 c[x].name) (Wn _ (hc.names _ (List.getElem_mem hlt))) (by decide) _) ?_;refine Z42 ?_;refine G.call Tryz.call68 (fun hB=>c68 c[x].kind _) ?_;refine G.go ?_;refine g9 ?_;refine G.call Tryz.call149 (fun hB=>gi c hc c[x].name _) ?_;refine Rr ?_;refine R.fin [0,5,6,7,30] ?_
  refine W.cond (fun ht30=>?_) (fun ht30=>?_)
  ·refine Z3 ?_;refine Yq ?_
   exact K.fin (V.one V.tmp) ⟨by rw [show Pw c=false from Bool.eq_false_iff.2 fun h=>by have:=colsP_true.1 h x c[x] (List.getElem?_eq_getElem hlt);unfold N8 at this;rw [ht30] at this;cases this],rfl⟩
  refine Z75 ?_;refine R.fin [0,5,6,7] ?_
  refine K.lpN (x+1) ⟨hlt,L5 hlt hx.2 (by unfold N8;rw [ht30];rfl)⟩ (by omega) ?_
  exact StCut.take (own:=[]) (fun _=>.refl _) (by repeat (first|exact B0|refine Az (by simp) ?_)) (by simp) (by simp)
 refine Z63 ?_;refine Z4 ?_;exact K.fin (V.one V.tmp) ⟨by rw [colsP_true.2 (Mz (by simp at ht8;omega) hx.2)],rfl⟩

def Uw (c:List Col):Bool:=decide ((c.length:Int)≤12)&&Pw c
theorem c84 (c:List Col) (hc:OkCols c) (Hp:List AObj):AFun Tryz.prog 84 [Ar c] Hp (B2 (Uw c)):=by
 refine ACall.body [.tmp 2] [0] Tryz.func84 Tryz.ntmps84 (fun d=>?_)
 refine Z48 ?_;refine Z28 ?_;refine G.go ?_;refine G.call Tryz.call113 (fun hB=>wr c hc _) ?_;refine Z0 ?_;refine Z4 ?_;exact K.fin (V.one V.tmp) ⟨by unfold Uw;simp,rfl⟩

theorem contains_nil (s:Str) (h:s≠[]):Lib.contains [] s=false:=by
 cases s with
 | nil=>exact absurd rfl h
 | cons a r=>rfl
theorem contains_cons (b:UInt8) (l s:Str):Lib.contains (b::l) s=(s.isPrefixOf (b::l) || Lib.contains l s):=by
 unfold Lib.contains
 have hge:=Lib.index_ge l s
 rw [Lib.index]
 by_cases hp:s.isPrefixOf (b::l)=true
 ·rw [if_pos hp,hp];rfl
 rw [if_neg hp]
 have hp':s.isPrefixOf (b::l)=false:=Bool.eq_false_iff.2 hp
 rw [hp',Bool.false_or]
 by_cases hi:Lib.index l s = -1
 ·rw [hi];rfl
 have:(Lib.index l s == -1)=false:=by simpa using hi
 rw [this,if_neg (by simp)]
 rw [decide_eq_decide]
 omega
/-- Words between blanks. -/
def Hc:List Str→Str
 | []=>[32]
 | w::r=>32::(w++Hc r)
theorem Sq (sub:Str):∀(w R:Str),(32:UInt8)∉w→Lib.contains (w++R) (32::sub)=Lib.contains R (32::sub)
 | [],R,_=>rfl
 | b::w,R,h=>by
  have hb:b≠32:=fun e=>h (by simp [e])
  rw [List.cons_append,contains_cons,Sq sub w R (fun hm=>h (by simp [hm]))]
  have:(32::sub).isPrefixOf (b::(w++R))=false:=by
   simp [List.isPrefixOf,Ne.symm hb]
  rw [this,Bool.false_or]
theorem O9:∀(s w:Str) (R:Str),(32:UInt8)∉s→(32:UInt8)∉w→(s++[32]).isPrefixOf (w++32::R)=(s==w)
 | [],[],R,_,_=>by simp [List.isPrefixOf]
 | [],b::w,R,_,hw=>by
  have hb:(32:UInt8)≠b:=fun e=>hw (by simp [e])
  simp [List.isPrefixOf,hb]
 | a::s,[],R,hs,_=>by
  have hb:a≠(32:UInt8):=fun e=>hs (by simp [e])
  simp [List.isPrefixOf,hb]
 | a::s,b::w,R,hs,hw=>by
  have ih:=O9 s w R (fun h=>hs (by simp [h])) (fun h=>hw (by simp [h]))
  rw [List.cons_append,List.cons_append,List.isPrefixOf,ih]
  rfl
theorem Wo:∀ws,∃R,Hc ws=32::R
 | []=>⟨[],rfl⟩
 | w::r=>⟨_,rfl⟩
theorem He (s:Str) (hs:(32:UInt8)∉s):∀(ws:List Str),(∀w∈ws,(32:UInt8)∉w)→Lib.contains (Hc ws) ([32]++s++[32])=ws.any (·==s)
 | [],_=>by
  rw [Hc,contains_cons,contains_nil _ (by simp),Bool.or_false]
  cases s<;>simp [List.isPrefixOf]
 | w::r,h=>by
  have hw:=h w (by simp)
  obtain ⟨R,hR⟩:=Wo r
  have ih:=He s hs r (fun x hx=>h x (by simp [hx]))
  have e1:([32]++s++[32]:Str)=32::(s++[32]):=rfl
  rw [Hc,contains_cons,e1,Sq _ w _ hw,←e1,ih,List.any_cons]
  congr 1
  rw [e1,hR]
  have:=O9 s w R hs hw
  rw [List.isPrefixOf,this]
  simp only [beq_self_eq_true,Bool.true_and]
  by_cases hsw:s=w
  ·subst hsw;rfl
  rw [beq_eq_false_iff_ne.2 hsw,beq_eq_false_iff_ne.2 (Ne.symm hsw)]
theorem S1:Iq=Hc words:=by kernel_rfl
theorem Wp:∀w∈words,(32:UInt8)∉w:=by decide
theorem Wq (s:Str):Lib.contains s [32]=s.contains 32:=by
 induction s with
 | nil=>rfl
 | cons b l ih =>
  rw [contains_cons,ih,List.contains_cons]
  congr 1
  simp [List.isPrefixOf]
theorem Px (s:Str) (h1:s≠[]) (h2:(32:UInt8)∉s):Ck s=Kd s:=by
 unfold Ck
 rw [Wq,S1,He s h2 words Wp]
 have e1:(s==[])=false:=by simpa using h1
 have e2:s.contains 32=false:=by simpa using h2
 rw [e1,e2]
 rfl
set_option maxRecDepth 8000
theorem mt {p:UInt8→Bool} (h:((List.range 256).all fun n=>p (UInt8.ofNat n))=true) (c:UInt8):p c=true:=by
 have:=List.all_eq_true.1 h c.toNat (List.mem_range.2 c.toNat_lt)
 simpa using this
theorem Py (c:UInt8):tails.contains c=O6 c:=by
 have:=mt (p:=fun c=>tails.contains c==O6 c) (by kernel_rfl) c
 simpa using this
theorem Lw (c:UInt8):letters.contains c=Fx c:=by
 have:=mt (p:=fun c=>letters.contains c==Fx c) (by kernel_rfl) c
 simpa using this
theorem Zp:O6 32=false:=by kernel_rfl
theorem ck (s of:Str):(Gq s of==(s.length:Int))=s.all (of.contains ·):=by
 unfold Gq Lib.trimLeftS
 induction s with
 | nil=>rfl
 | cons c r ih =>
  rw [List.dropWhile_cons,List.all_cons]
  cases hc:of.contains c with
  | true =>
   simp only [if_true,Bool.true_and]
   rw [←ih,Bool.eq_iff_iff]
   have:=(List.dropWhile_sublist (fun x=>of.contains x) (l:=r)).length_le
   simp only [beq_iff_eq,List.length_cons]
   omega
  | false =>
   simp only [Bool.false_eq_true,if_false,Bool.false_and]
   rw [beq_eq_false_iff_ne]
   simp only [List.length_cons]
   omega
theorem Dm (s:Str):C5 s=Dn s:=by
 cases s with
 | nil=>rfl
 | cons c r =>
  unfold C5
  rw [ck]
  have e1:((c::r).all fun x=>tails.contains x)=(c::r).all O6:=by
   congr 1
   funext x
   exact Py x
  have e2:(Gq ((c::r).take 1) letters==1)=Fx c:=by
   have:=ck [c] letters
   rw [←Lw c]
   simpa using this
  rw [e1,e2]
  have e3:((c::r:Str)==[])=false:=rfl
  have e4:decide (((c::r).length:Int)≤16)=decide ((c::r).length≤16):=by
   rw [decide_eq_decide];omega
  rw [e3,e4]
  show _=(decide ((c::r).length≤16)&&Fx c && !Kd (c::r)&&(c::r).all O6)
  cases ha:(c::r).all O6 with
  | false=>simp
  | true =>
   have hb:(32:UInt8)∉(c::r):=fun hm=>by
    have:=List.all_eq_true.1 ha 32 hm
    rw [Zp] at this
    cases this
   rw [Px _ (by simp) hb]
   simp
theorem Pz (s:Str):Ay (B3 s)=Dn s:=by
 have e:Ap 1 (B3 s)=[(1,B3 s)]:=by rw [Fm];rfl
 unfold Ay
 rw [e]
 show ((List.range 1).all (goM (B3 s)))=_
 have g:goM (B3 s) 0=B1 (B3 s):=by
  unfold goM
  rw [e]
  simp
 simp only [List.range_succ,List.range_zero,List.nil_append,List.all_cons,List.all_nil,Bool.and_true]
 rw [g,←Dm]
 simp [B1,B3,Expr.op,Expr.val,Expr.text,Expr.kids,Ga]
theorem Ux (k:Int):(Ah k==[])=(decide (k<1) || decide ((3:Int)<k)):=by
 unfold Ah
 by_cases h:k<1∨3<k
 ·rw [if_pos h]
  have:(decide (k<1) || decide ((3:Int)<k))=true:=by simpa using h
  rw [this];rfl
 rw [if_neg h]
 have:(decide (k<1) || decide ((3:Int)<k))=false:=by simp;omega
 rw [this]
 have hk:k=1∨k=2∨k=3:=by omega
 rcases hk with rfl|rfl|rfl<;>rfl
theorem Uy (c:List Col):Pw c=Lp c:=by
 unfold Pw Lp
 congr 1
 funext x
 unfold N8 vg
 rw [Pz,Ux,←Bool.or_assoc (!Dn x.1.name)]
theorem Q0 (c:List Col):Uw c=Ew c:=by unfold Uw Ew;rw [Uy]
set_option maxRecDepth 4000
def A5 (l:List Tok) (i:Nat):Tok:=l.getD i ⟨0,[],0⟩
theorem N9 {l:List Tok} {i:Nat} (h:i<l.length):(l.map Gv)[i]? = some (Gv (A5 l i)):=by
 rw [List.getElem?_map,List.getElem?_eq_getElem h]
 unfold A5
 rw [List.getD_eq_getElem?_getD,List.getElem?_eq_getElem h]
 rfl
end Go.SX.Nb
