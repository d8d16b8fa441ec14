/- Texts on the way to this: ImageJoins answers true for whatever it is handed: of any moves, cut in two at any place: a row forth through both parts, one behind the other, is the row forth; back likewise (up to 50 columns and values, 8 moves). (part 6) -/
import Derived.Test.YthakapgmpcbbkaaGreatDoorImageJoinsCardSaidPart5
set_option linter.all false
namespace Go.SX.Nb
open Go Go.SX Go.Proofs
variable [ErrAt]
set_option maxRecDepth 4000
def wAt (s:Str) (k:Nat):Int×Str×Int×Int:=B5 (s.drop k)
theorem K5 {f k:Nat} {s:Str} (h:s≠[]):F1 (f+1) k s=(⟨(B5 s).1,(B5 s).2.1,k⟩,(B5 s).2.2.2)::(if (B5 s).2.2.2==0 then F1 f (k+(B5 s).2.2.1.toNat+gapM (s.drop (B5 s).2.2.1.toNat)) ((s.drop (B5 s).2.2.1.toNat).drop (gapM (s.drop (B5 s).2.2.1.toNat))) else []):=by
 rw [F1,if_neg (by simpa using h)]
/-- Where the reader is, with k words behind it. -/
def Ow (s:Str) (k p:Nat):Prop:=(∃f,(s.drop p).length<f∧(Bf s).drop k=F1 f p (s.drop p))∧p≤s.length∧∀j,j<k→∃it,(Bf s)[j]? = some it∧it.2=0
theorem af (s:Str):Ow s 0 (gapM s):=⟨⟨s.length+1,by rw [List.length_drop];omega,by rw [List.drop_zero];rfl⟩,aa s,fun j hj=>by omega⟩
theorem ij {s:Str} {k p:Nat} (h:Ow s k p):k≤(Bf s).length:=by
 refine Classical.byContradiction fun hn=>?_
 obtain ⟨it,hit,_⟩:=h.2.2 (Bf s).length (by omega)
 rw [List.getElem?_eq_none (Nat.le_refl _)] at hit
 cases hit
theorem ik {s:Str} {k p:Nat} (h:Ow s k p) (hp:s.length≤p):k=(Bf s).length∧∀it∈Bf s,it.2=0:=by
 have hl:=ij h
 obtain ⟨⟨f,_,hd⟩,_,h0⟩:=h
 have e:s.drop p=[]:=by rw [List.drop_eq_nil_iff];exact hp
 rw [e] at hd
 have:(Bf s).drop k=[]:=by rw [hd];cases f<;>rfl
 rw [List.drop_eq_nil_iff] at this
 have hk:k=(Bf s).length:=by omega
 refine ⟨hk,fun it hit=>?_⟩
 obtain ⟨j,hj,rfl⟩:=List.mem_iff_getElem.1 hit
 obtain ⟨it',h1,h2⟩:=h0 j (by omega)
 rw [List.getElem?_eq_getElem hj] at h1
 injection h1 with h1
 rw [h1];exact h2
theorem Ql {s:Str} {k p:Nat} (h:Ow s k p) (hp:p<s.length):∃f,(s.drop p).length<f+1∧(Bf s).drop k=F1 (f+1) p (s.drop p)∧s.drop p≠[]:=by
 obtain ⟨⟨f,hf,hd⟩,_,_⟩:=h
 obtain ⟨g,rfl⟩:∃g,f=g+1:=⟨f-1,by omega⟩
 exact ⟨g,hf,hd,fun e=>by rw [List.drop_eq_nil_iff] at e;omega⟩
theorem Lt {s:Str} {k p:Nat} (h:Ow s k p) (hp:p<s.length):(Bf s)[k]? = some (⟨(wAt s p).1,(wAt s p).2.1,p⟩,(wAt s p).2.2.2):=by
 obtain ⟨f,_,hd,hne⟩:=Ql h hp
 rw [K5 hne] at hd
 have:=congrArg (·[0]?) hd
 unfold wAt
 simpa using this
theorem ag {s:Str} {k p:Nat} (h:Ow s k p) (hp:p<s.length) (he:(wAt s p).2.2.2=0):∃n:Nat,(wAt s p).2.2.1=(n:Int)∧1≤n∧p+n≤s.length∧Ow s (k+1) (p+n+gapM (s.drop (p+n))):=by
 have hi:=Lt h hp
 obtain ⟨f,hf,hd,hne⟩:=Ql h hp
 obtain ⟨n,hn,h1,h2⟩:=cm (s:=s.drop p) (by rw [List.length_drop];omega) he
 rw [List.length_drop] at h2 hf
 have hg:=aa (s.drop (p+n))
 rw [List.length_drop] at hg
 refine ⟨n,hn,h1,by omega,⟨f,by rw [List.length_drop];omega,?_⟩,by omega,fun j hj=>?_⟩
 ·rw [K5 hne] at hd
  have:=congrArg (·.drop 1) hd
  simp only [List.drop_drop,List.drop_succ_cons,List.drop_zero] at this
  unfold wAt at he
  rw [this,hn,he]
  simp only [beq_self_eq_true,if_true,Int.toNat_natCast,List.drop_drop]
 rcases Nat.lt_or_ge j k with h'|h'
 ·exact h.2.2 j h'
 have:j=k:=by omega
 subst this
 exact ⟨_,hi,he⟩
theorem c98 (l:Nat) (s:Str) (hs:s.length≤1048576) (U F:Nat→List AObj) (hlen:∀k,(U k).length=(U 0).length) (hll:l<(U 0).length)
  (hy:∀k it,(Bf s)[k]? = some it→AYield Tryz.prog l [H0 it.1,A2 it.2] (U k) (fun b H'=>if it.2=0 then b=true∧H'=U (k+1) else b=false∧H'=F k)):ACall Tryz.prog 98 [.yield l,.ro [A9 s]] (U 0) (fun r H'=>((∀it∈Bf s,it.2=0)∧H'=U (Bf s).length)∨∃k it,(Bf s)[k]? = some it∧it.2≠0∧(∀j,j<k→∃it',(Bf s)[j]? = some it'∧it'.2=0)∧H'=F k):=by
 refine ACall.body [] [0,1] Tryz.func98 Tryz.ntmps98 (fun d=>?_)
 refine Z2 ?_;refine R.call Tryz.call99 (c99 s hs _) ?_;refine R.go ?_;refine R.fin [0,1,3] ?_
 refine AW.loopC (α:=Nat×Nat) (fun x=>⟨44,A3 0 (.yield l) (A3 1 (.ro [A9 s]) (A3 3 (A2 (x.2:Nat)) (fun _=>.any))),U x.1,[],[],none⟩) (fun x=>Ow s x.1 x.2) (fun x=>s.length-x.2) (0,gapM s) (af s) (StLe.refl _) rfl (fun x hx=>?_)
 obtain ⟨k,p⟩:=x
 simp only at hx ⊢
 refine Z48 ?_;refine R.fin [0,1,3,13] ?_
 refine W.cond (fun ht13=>?_) (fun ht13=>?_)
 ·have hpl:p<s.length:=by simpa using ht13
  refine Z86 ?_;refine Z1 ?_
  refine R.go (h:=Q.scutL p (fun _=>hx.2.1) (fun _=>Nat.le_refl _)) (hr:=?_)
  refine R.call Tryz.call100 (ACd (s.drop p) (by rw [List.length_drop];omega) (by rw [List.length_drop];omega) _) ?_
  refine Z73 ?_;refine Z65 ?_;refine R.fin [0,1,3,4,5,6,7] ?_;refine Z48 ?_;refine gu ?_;refine R.go ?_;refine R.yield0 (hy k _ (Lt hx hpl)) ?_
  intro b V hV hb
  refine Z62 ?_;refine R.go ?_;refine R.fin [0,1,3,6,40] ?_
  refine W.cond (fun ht40=>?_) (fun ht40=>?_)
  ·have hbe:(B5 (s.drop p)).2.2.2≠0∧V=F k:=by
    split at hb
    ·rename_i h0
     obtain ⟨rfl,_⟩:=hb
     have h0':(B5 (s.drop p)).2.2.2=0:=h0
     simp [h0'] at ht40
    rename_i h0
    exact ⟨h0,hb.2⟩
   refine Z84 ?_;refine Z34 ?_;exact K.fin .nores (hp:=.inr ⟨k,_,Lt hx hpl,hbe.1,hx.2.2,hbe.2⟩)
  have hbe:(B5 (s.drop p)).2.2.2=0∧V=U (k+1):=by
   split at hb
   ·rename_i h0
    exact ⟨h0,hb.2⟩
   obtain ⟨rfl,_⟩:=hb
   simp at ht40
  obtain ⟨n,hn,hn1,hnl,hnx⟩:=ag hx hpl hbe.1
  unfold wAt at hn
  rw [hn]
  have hgl:=aa (s.drop (p+n))
  rw [List.length_drop] at hgl
  refine Z6 ?_;refine Z20 ?_;refine Z0 ?_;refine R.fin [0,1,3] ?_;refine Z14 ?_;refine Pc ?_
  refine R.go (h:=Q.scutL (p+n) (fun _=>hnl) (fun _=>Nat.le_refl _)) (hr:=?_)
  refine R.call Tryz.call99 (c99 (s.drop (p+n)) (by rw [List.length_drop];omega) _) ?_
  refine Z0 ?_;refine R.fin [0,1,3] ?_;exact K.lpN (k+1,p+n+gapM (s.drop (p+n))) hnx (by show s.length-_<s.length-p;omega) (StCut.of_eq (by rw [hbe.2];simp))
 have hpl:s.length≤p:=by simpa using ht13
 obtain ⟨hk,hz⟩:=ik hx hpl
 refine Z59 ?_;refine K.lpE ?_;exact K.finN .nores (hp:=.inl ⟨hz,by rw [hk]⟩)

theorem c71 (s:Str) (Hp:List AObj):AFun Tryz.prog 71 [A9 s] Hp (.fn (.func 98) [] [.ro [A9 s]]):=by
 refine ACall.body [.tmp 2] [0] Tryz.func71 Tryz.ntmps71 (fun d=>?_)
 refine Z96 ?_;refine Cz ?_;refine ma ?_;exact wn

def Dg (s:Str):List Tok×Int×Nat:=if 4000<s.length then ([],3,0) else
 match (Bf s).find? (fun it=>it.2 != 0) with
 | some it=>([],it.2,it.1.at_)
 | none=>((Bf s).map (·.1)++[⟨0,[],s.length⟩],0,0)
theorem si {s:Str} {k:Nat} {it:Tok×Int} (hit:(Bf s)[k]? = some it) (he:it.2≠0) (h0:∀j,j<k→∃it',(Bf s)[j]? = some it'∧it'.2=0):(Bf s).find? (fun it=>it.2 != 0)=some it:=by
 rw [List.find?_eq_some_iff_getElem]
 obtain ⟨hk,e⟩:=List.getElem?_eq_some_iff.1 hit
 refine ⟨by simpa using he,k,hk,e,fun j hj=>?_⟩
 obtain ⟨it',h1,h2⟩:=h0 j hj
 rw [List.getElem?_eq_getElem (by omega)] at h1
 injection h1 with h1
 rw [h1,h2];rfl
theorem nf {s:Str} (h:∀it∈Bf s,it.2=0):(Bf s).find? (fun it=>it.2 != 0)=none:=by
 rw [List.find?_eq_none]
 intro it hit
 simp [h it hit]
def Td (s:Str) (k:Nat):Int×Nat:=match (Bf s)[k]? with|some it=>(it.2,it.1.at_)|none=>(0,0)
theorem Qm:∀(f k:Nat) (s:Str),(F1 f k s).length≤f
 | 0,_,_=>Nat.zero_le _
 | f+1,k,s=>by
  rw [F1]
  split
  ·exact V2
  rw [List.length_cons]
  split
  ·have:=Qm f (k+(B5 s).2.2.1.toNat+gapM (s.drop (B5 s).2.2.1.toNat)) ((s.drop (B5 s).2.2.1.toNat).drop (gapM (s.drop (B5 s).2.2.1.toNat)))
   omega
  simp
theorem Lu (s:Str):(Bf s).length≤s.length+1:=Qm _ _ _
def Ih (s:Str) (k:Nat):List Tok:=((Bf s).take k).map (·.1)
theorem Nj (s:Str) (k:Nat):(Ih s k).length≤s.length+1:=by
 have:=Lu s
 unfold Ih
 rw [List.length_map,List.length_take]
 omega
theorem ai {s:Str} {k:Nat} {it:Tok×Int} (hit:(Bf s)[k]? = some it):Ih s (k+1)=Ih s k++[it.1]:=by
 unfold Ih
 rw [List.take_succ,hit,List.map_append]
 rfl
theorem il (s:Str):Ih s (Bf s).length=(Bf s).map (·.1):=by unfold Ih;rw [List.take_length]
theorem im {s:Str} {k:Nat} {it:Tok×Int} (hl4:¬4000<s.length) (hit:(Bf s)[k]? = some it) (he:it.2≠0) (h0:∀j,j<k→∃it',(Bf s)[j]? = some it'∧it'.2=0):Dg s=([],it.2,it.1.at_):=by
 unfold Dg
 rw [if_neg hl4,si hit he h0]
theorem ng {s:Str} (hl4:¬4000<s.length) (hz:∀it∈Bf s,it.2=0):Dg s=(Ih s (Bf s).length++[⟨0,[],s.length⟩],0,0):=by
 unfold Dg
 rw [if_neg hl4,nf hz,il]
theorem c50 (s:Str) (hs:s.length≤1048576) (Hp:List AObj):AFun Tryz.prog 50 [A9 s] Hp (.tup [ck (Dg s).1,.agg [A2 (Dg s).2.1,A2 (Dg s).2.2]]):=by
 refine ACall.body [.cell 2 94,.cell 3 59] [0,5,6] Tryz.func50 Tryz.ntmps50 (fun d=>?_)
 refine Z27 ?_;refine L3 ?_;refine R.fin [0,2,3,5,6] ?_;refine Z30 ?_;refine R.fin [0,2,3,5,6,9] ?_
 refine W.cond (fun ht9=>?_) (fun ht9=>?_)
 ·have hlm:Dg s=([],3,0):=by unfold Dg;rw [if_pos (by simp at ht9;omega)]
  refine Cz ?_;refine AA2 ?_;refine R.nilOwn 0 3 ?_;refine lz ?_;refine K.thR ?_;exact K.fin (V.two (V.cell jA) (V.cellN jA jS)) ⟨by rw [hlm];rfl,rfl⟩
 have hl4:¬4000<s.length:=by simp at ht9;omega
 refine Z6 ?_;refine Z27 ?_;refine R.fin [0,2,3,4,5,6] ?_;refine Z66 ?_;refine R.nilOwn 2 3 ?_;refine R.go ?_;refine R.call Tryz.call71 (c71 s _) ?_;refine R.fin [0,2,3,4,5,6,12] ?_;refine Gx ?_
 refine W.rangeV (m:=3) Tryz.call98 (fun FR as' bd' hFR has hbd=>?_)
 refine ⟨_,c98 (oid Hp.length 4) s hs (fun k=>Hp++[AObj.cells 94 [AV.nil],AObj.cells 59 [A2 0,A2 0],AObj.cells 94 [AV.slice true 3 ((Ih s k).map H0)],AObj.defs,AObj.loop LoopState.ready none FR 32 #[13,14] as' bd' (oid Hp.length 3)]) (fun k=>Hp++[AObj.cells 94 [AV.nil],AObj.cells 59 [A2 (Td s k).1,A2 (Td s k).2],AObj.cells 94 [AV.slice true 3 ((Ih s k).map H0)],AObj.defs,AObj.loop LoopState.done (some Code.ret) FR 32 #[13,14] as' bd' (oid Hp.length 3)]) (fun k=>by simp) (by simp [oid]) (fun k it hit=>?_),?_⟩
 ·generalize hV:Hp++[AObj.cells 94 [AV.nil],AObj.cells 59 [A2 0,A2 0],AObj.cells 94 [AV.slice true 3 ((Ih s k).map H0)],AObj.defs,AObj.loop LoopState.ready none FR 32 #[13,14] as' bd' (oid Hp.length 3)]=V
  have hL:V[oid Hp.length 4]? = some (AObj.loop LoopState.ready none FR 32 #[13,14] as' bd' (oid Hp.length 3)):=by rw [←hV,Ar];rfl
  have hA0:V[oid Hp.length 2]? = some (AObj.cells 94 [AV.slice true 3 ((Ih s k).map H0)]):=by rw [←hV,Ar];rfl
  have hB0:V[oid Hp.length 0]? = some (AObj.cells 94 [AV.nil]):=by rw [←hV,Ar];rfl
  have hC0:V[oid Hp.length 1]? = some (AObj.cells 59 [A2 0,A2 0]):=by rw [←hV,Ar];rfl
  refine AYield.ofRound (pd:=none) (fr:=FR) (sz:=32) (ps:=#[13,14]) (df:=oid Hp.length 3) (asg:=as') (bd:=bd') hL rfl (by decide) (fun d=>?_)
  subst hFR has hbd
  refine W.keep [2,3,4,13,14] ?_;refine Cz ?_;refine Z21 ?_;refine R.fin [2,3,4,5,14] ?_;refine Z81 ?_;refine R.fin [2,3,4,5,6] ?_
  refine ⟨rfl,none,hL,?_⟩
  generalize hbz:(AObj.loop LoopState.busy _ _ _ _ _ _ _)=bz
  have hA:(V.set (oid Hp.length 4) bz)[oid Hp.length 2]? = some (AObj.cells 94 [AV.slice true 3 ((Ih s k).map H0)]):=by rw [List.getElem?_set_ne (Be (by decide))];exact hA0
  have hB:(V.set (oid Hp.length 4) bz)[oid Hp.length 0]? = some (AObj.cells 94 [AV.nil]):=by rw [List.getElem?_set_ne (Be (by decide))];exact hB0
  have hC:(V.set (oid Hp.length 4) bz)[oid Hp.length 1]? = some (AObj.cells 59 [A2 0,A2 0]):=by rw [List.getElem?_set_ne (Be (by decide))];exact hC0
  refine Gx ?_;refine Z31 ?_;refine R.fin [2,3,4,5,6,16] ?_
  refine W.cond (fun ht16=>?_) (fun ht16=>?_)
  ·have hne:it.2≠0:=by simpa using ht16
   refine W.drawY [0,0,2,7,0,31] [4] [.q 4 [] [],.s [] (some 0) [] []] (fun _=>V.set (oid Hp.length 4) bz) (fun _=>[AObj.cells 130 [A2 it.1.kind,A9 it.1.text,A2 it.1.at_]]) Aa (by kernel_rfl) rfl rfl (fun _=>rfl) ?_
   apply Y.q
   case h1 =>
    intro B hT hF
    refine Z37 ?_;exact zg
   case hTF=>decide
   refine Y.storeUp (o:=oid Hp.length 0) (ys:=[.nil]) (t':=94) (cs:=[AV.nil]) (cs':=[AV.nil]) jS (fun _ _=>⟨hB,(Ej hB).symm,rfl,by simp⟩) ?_;refine Y.tail (tn:=[4]) (U:=V.set (oid Hp.length 4) bz) ?_
   refine R.storeUp jS hC ?_ ?_
   ·simp
   refine R.fin [] ?_;refine Z84 ?_;refine K.blR ?_
   subst hbz
   refine K.rdR (Wf hL (Be (by decide))) ?_
   rw [if_neg hne]
   refine ⟨rfl,?_⟩
   subst hV
   simp only [Ee,List.set_cons_succ,List.set_cons_zero]
   rw [show Td s k=(it.2,it.1.at_) by unfold Td;rw [hit]]
  have heq:it.2=0:=by simpa using ht16
  refine Z6 ?_;refine AW.region ?_
  have hl3:=Nj s k
  refine R.loadUpT jA hA ?_;refine Z71 ?_
  refine R.append jU Tryz.type130 ?_ ?_ ?_
  ·simp [hl3,Tryz.t130];omega
  ·simp [hl3,Tryz.t130];omega
  refine R.storeUpT jS (getset hA) ?_ ?_
  ·simp [or_imp,forall_and]
  refine Z85 ?_
  subst hbz
  refine sb ?_
  rw [if_pos heq]
  refine ⟨rfl,?_⟩
  subst hV
  simp only [Ee,List.set_cons_succ,List.set_cons_zero]
  rw [ai hit,List.map_append]
  rfl
 rintro r H' (⟨hz,rfl⟩|⟨k,it,hit,hne,h0,rfl⟩)
 ·refine ⟨Hp,_,_,_,rfl,rfl,fun h=>h,?_,rfl,by simp,?_⟩
  ·intro o ho
   have:o=oid Hp.length 3:=by simpa using ho
   subst this
   rw [Ar]
   rfl
  refine Z14 ?_;refine Cz ?_;refine R.loadOwnT jA ?_;refine Z0 ?_;refine gu ?_;refine Lo ?_
  refine R.append jU Tryz.type130 ?_ ?_ ?_
  ·have:=Nj s (Bf s).length;simp [Tryz.t130];omega
  ·have:=Nj s (Bf s).length;simp [Tryz.t130];omega
  refine V3 ?_;refine R.storeOwnT jS ?_;refine lz ?_;exact K.fin (V.two (V.cell jA) (V.cellN jA jS)) ⟨by rw [ng hl4 hz,ck,List.map_append];rfl,rfl⟩ (hlow:=by simp [or_imp,forall_and])
 refine ⟨Hp,_,_,_,rfl,rfl,fun h=>h,?_,rfl,by simp,?_⟩
 ·intro o ho
  have:o=oid Hp.length 3:=by simpa using ho
  subst this
  rw [Ar]
  rfl
 refine W.nilOwn 0 3 ?_;refine AW.ret ?_;refine Z5 ?_;exact K.fin (V.two (V.cell jA) (V.cellN jA jS)) ⟨by rw [im hl4 hit hne h0,show Td s k=(it.2,it.1.at_) by unfold Td;rw [hit]];rfl,rfl⟩

inductive Expr where
 | mk (op:Int) (text:Str) (val:Val) (kids:List Expr)
def Expr.op:Expr→Int|.mk o _ _ _=>o
def Expr.text:Expr→Str|.mk _ t _ _=>t
def Expr.val:Expr→Val|.mk _ _ v _=>v
def Expr.kids:Expr→List Expr|.mk _ _ _ k=>k
mutual
def A5:Expr→AV
 | .mk o t v k=>.agg [.v (.int .i64 o),.v (sv t),.v (.int .i64 v.kind),.v (.int .i64 v.n),.v (sv v.s),.slice false 6 (Nk k)]
def Nk:List Expr→List AV
  | []=>[]
  | e::r=>A5 e::Nk r
 end
theorem Qn:∀l,Nk l=l.map A5
 | []=>rfl
 | e::r=>by rw [Nk,Qn r];rfl
theorem Ab (e:Expr):A5 e=.agg [.v (.int .i64 e.op),.v (sv e.text),.v (.int .i64 e.val.kind),.v (.int .i64 e.val.n),.v (sv e.val.s),.slice false 6 (e.kids.map A5)]:=by
 cases e with
 | mk o t v k=>rw [A5,Qn];rfl
attribute [go_sem] Ab
def Kt:Str:=[32,111,114,32,32,97,110,100,32,32,61,32,33,61,32,60,32,60,61,32,62,32,62,61,32,32,43,32,45,32,38,32,32,42,32,47,32,37,32]
def Gk (v:Val):Bool:=v.kind==0&&v.n==0&&v.s==[]
def Bi (e:Expr):Bool:=
 if e.op==1 then ((C5 e.val&&decide (0≤e.val.n))&&(e.text==[]))&&((e.kids.length:Int)==0)
 else if e.op==2 then (Gk e.val&&Cm e.text)&&((e.kids.length:Int)==0)
 else if e.op==3 || e.op==4 then (Gk e.val&&(e.text==[]))&&((e.kids.length:Int)==1)
 else if e.op==5 then (Gk e.val&&Gy e.text Kt)&&((e.kids.length:Int)==2)
 else if e.op==6 then Gk e.val&&(B4 e.text==(e.kids.length:Int))
 else false
theorem c85 (e:Expr) (hs:e.text.length≤1048576) (Hp:List AObj):AFun Tryz.prog 85 [A5 e] Hp (At (Bi e)):=by
 refine ACall.body [.tmp 2] [0] Tryz.func85 Tryz.ntmps85 (fun d=>?_)
 refine Z96 ?_;refine Z1 ?_;refine gu ?_
 refine R.go (h:=Q.eqlAgg Si (G8 e.val.kind e.val.n 0 0 e.val.s [])) (hr:=?_)
 refine R.go ?_;refine R.fin [1,3] ?_;refine Z31 ?_;refine R.fin [1,3,9] ?_;refine Z90 ?_;refine R.fin [1,3,9,10] ?_
 refine W.cond (fun ht10=>?_) (fun ht10=>?_)
 ·refine Z1 ?_;refine R.call Tryz.call38 (c38 e.val _) ?_;refine R.go ?_;refine Z95 ?_;refine Z0 ?_;refine Z41 ?_;exact lx
 refine Z1 ?_;refine R.fin [1,3,9,32] ?_
 refine W.cond (fun ht32=>?_) (fun ht32=>?_)
 ·refine Z1 ?_;refine Z9 ?_;refine G.call Tryz.call106 (fun hB=>mx e.text hs _) ?_;exact lx
 refine Z31 ?_;refine R.fin [1,3,9,46] ?_
 refine W.cond (fun ht46=>?_) (fun ht46=>?_)
 ·refine Z6 ?_
  refine W.cond (fun ht46=>?_) (fun ht46=>?_)
  ·refine Z1 ?_;refine Z41 ?_;exact lx
  refine Z1 ?_;refine R.fin [1,3,9,61] ?_
  refine W.cond (fun ht61=>?_) (fun ht61=>?_)
  ·refine Z1 ?_;refine Z9 ?_;exact zh
  refine Z1 ?_;refine R.fin [1,3,75] ?_
  refine W.cond (fun ht75=>?_) (fun ht75=>?_)
  ·refine zy ?_;refine Z75 ?_;refine H.call Tryz.call121 (fun hB=>xb e.text _) ?_;refine Z75 ?_;refine H.go ?_;refine D.tail ?_;refine G.go ?_;exact wg
  refine Z18 ?_;exact zl
 refine Z20 ?_;refine R.fin [1,3,9,46] ?_;refine K.thN ?_
 refine W.cond (fun ht46=>?_) (fun ht46=>?_)
 ·refine Z1 ?_;refine Z41 ?_;exact lx
 refine Z1 ?_;refine R.fin [1,3,9,61] ?_
 refine W.cond (fun ht61=>?_) (fun ht61=>?_)
 ·refine Z1 ?_;refine Z9 ?_;exact zh
 refine Z1 ?_;refine R.fin [1,3,75] ?_
 refine W.cond (fun ht75=>?_) (fun ht75=>?_)
 ·refine zy ?_;refine Z75 ?_;refine H.call Tryz.call121 (fun hB=>xb e.text _) ?_;refine Z75 ?_;refine H.go ?_;refine D.tail ?_;refine G.go ?_;exact wg
 refine Z18 ?_;exact zl

mutual
def Av (d:Int):Expr→List (Int×Expr)
 | .mk o t v k=>(d,.mk o t v k)::Ao (d+1) k
def Ao (d:Int):List Expr→List (Int×Expr)
  | []=>[]
  | e::r=>Av d e++Ao d r
 end
theorem Fx (d:Int) (e:Expr):Av d e=(d,e)::Ao (d+1) e.kids:=by cases e;rfl
theorem I5 (d:Int):∀a b,Ao d (a++b)=Ao d a++Ao d b
 | [],b=>rfl
 | e::r,b=>by rw [List.cons_append,Ao,Ao,I5 d r b,List.append_assoc]
theorem Wz (d:Int) (l:List Expr) {x:Nat} (h:x<l.length):Ao d (l.take (x+1))=Ao d (l.take x)++Av d l[x]:=by
 rw [List.take_succ_eq_append_getElem h,I5]
 simp [Ao]
theorem Mf (d:Int) (l:List Expr) {x:Nat} (h:x<l.length):Ao d l=Ao d (l.take x)++(Av d l[x]++Ao d (l.drop (x+1))):=by
 have e:l=l.take x++(l[x]::l.drop (x+1)):=by rw [←List.drop_eq_getElem_cons h,List.take_append_drop]
 conv=>lhs;rw [e]
 rw [I5,Ao]
mutual
def sizeE:Expr→Nat
 | .mk _ _ _ k=>1+Cj k
def Cj:List Expr→Nat
  | []=>0
  | e::r=>sizeE e+Cj r
 end
theorem Mg (e:Expr):sizeE e=1+Cj e.kids:=by cases e;rfl
theorem Te:∀(l:List Expr) {x:Nat} (h:x<l.length),sizeE l[x]≤Cj l
 | e::r,0,_=>by simp only [List.getElem_cons_zero,Cj];omega
 | e::r,x+1,h=>by
  have:=Te r (x:=x) (by simpa using h)
  simp only [List.getElem_cons_succ,Cj]
  omega
/-- Each node has few kids. -/
def okE:Nat→Expr→Prop
 | 0,_=>False
 | n+1,e=>e.text.length≤1048576∧e.kids.length≤1048576∧∀y∈e.kids,okE n y
/-- Who takes what a tree yields: item k is taken at U k; it goes on (go k) to U (k + 1), or ends at F k. Behind U k there may stand others' objects. -/
structure Takes (P:Program) (l:Nat) (L:List (Int×Expr)) (go:Nat→Bool) (U F:Nat→List AObj) (n0:Nat):Prop where
 lenU:∀k,(U k).length=n0
 lenF:∀k,(F k).length=n0
 lowU:∀k,∀x∈U k,ObjLow n0 x
 lowF:∀k,∀x∈F k,ObjLow n0 x
 lt:l<n0
 y:∀(X:List AObj) (k:Nat) (it:Int×Expr),L[k]? = some it→(∀j,j<k→go j=true)→AYield P l [A2 it.1,A5 it.2] (U k++X) (fun b H'=>b=go k∧H'=(if go k then U (k+1) else F k)++X)
theorem ObjLow.le {m m':Nat} (h:m≤m') {x:AObj} (hx:ObjLow m x):ObjLow m' x:=by
 cases x with
 | cells t cs=>exact fun y hy=>(hx y hy).mono h
 | loop s pd fr sz ps as' bd df=>exact ⟨fun s=>(hx.1 s).mono h,Nat.lt_of_lt_of_le hx.2 h⟩
 | defs=>trivial
 | dead=>trivial
 | bld _ _ _=>trivial
 | gone=>trivial
/-- What the walk over n items from k0 on comes to. -/
def X0 (go:Nat→Bool) (U F:Nat→List AObj) (k0 n:Nat) (X:List AObj):AV→List AObj→Prop:=fun r H' =>
 ((∀j,j<n→go (k0+j)=true)∧r=At true∧H'=U (k0+n)++X)∨(∃j,j<n∧(∀i,i<j→go (k0+i)=true)∧go (k0+j)=false∧r=At false∧H'=F (k0+j)++X)
mutual
theorem Ad (m:Nat):∀e,Low m (A5 e)
 | .mk o t v k=>by
  rw [A5]
  refine .agg _ fun y hy=>?_
  simp only [List.mem_cons,List.mem_nil_iff,or_false] at hy
  rcases hy with rfl|rfl|rfl|rfl|rfl|rfl
  ·exact .v _
  ·exact .v _
  ·exact .v _
  ·exact .v _
  ·exact .v _
  exact low_slice.2 (Qo m k)
theorem Qo (m:Nat):∀l,∀y∈Nk l,Low m y
  | [],y,hy=>by cases hy
  | e::r,y,hy=>by
    rw [Nk] at hy
    rcases List.mem_cons.1 hy with rfl|h
    · exact Ad m e
    exact Qo m r y h
 end
theorem Mh {V O A B own:List AObj} (h:V++O=A++(B++own)) (hl:V.length=(A++B).length):V=A++B∧O=own:=by
 rw [←List.append_assoc] at h
 exact List.append_inj h hl
theorem J9 {m:Nat} {A X:List AObj} (hA:∀x∈A,ObjLow m x) (hX:∀x∈X,ObjLow m x):∀x∈A++X,ObjLow m x:=fun x hx=>by
 rcases List.mem_append.1 hx with h|h
 ·exact hA x h
 exact hX x h
theorem aj {P:Program} {l:Nat} {L:List (Int×Expr)} {go:Nat→Bool} {U F:Nat→List AObj} {n0 k n K:Nat} {X own V O:List AObj} {r:AV} (T:Takes P l L go U F n0) (hV:V.length=(U K++X).length) (hp:X0 go U F k n (X++own) r (V++O)):
  ∃b,r=At b∧O=own∧(if b then (∀j,j<n→go (k+j)=true)∧V=U (k+n)++X else ∃j,j<n∧(∀i,i<j→go (k+i)=true)∧go (k+j)=false∧V=F (k+j)++X)∧((∀x∈U K++X,ObjLow V.length x)→∀x∈V,ObjLow V.length x):=by
 have hn:n0≤V.length:=by rw [hV,List.length_append,T.lenU];omega
 rcases hp with ⟨h1,h2,h3⟩|⟨j,hj,h1,h2,h3,h4⟩
 ·obtain ⟨e1,e2⟩:=Mh h3 (by rw [hV];simp [T.lenU])
  refine ⟨true,h2,e2,⟨h1,e1⟩,fun h=>?_⟩
  rw [e1] at h ⊢
  exact J9 (fun x hx=>ObjLow.le (by rw [List.length_append,T.lenU];omega) (T.lowU _ x hx)) (fun x hx=>h x (List.mem_append_right _ hx))
 obtain ⟨e1,e2⟩:=Mh h4 (by rw [hV];simp [T.lenU,T.lenF])
 refine ⟨false,h3,e2,⟨j,hj,h1,h2,e1⟩,fun h=>?_⟩
 rw [e1] at h ⊢
 exact J9 (fun x hx=>ObjLow.le (by rw [List.length_append,T.lenF];omega) (T.lowF _ x hx)) (fun x hx=>h x (List.mem_append_right _ hx))
theorem X1 (d:Int) (l:List Expr) {x:Nat} (h:x<l.length):(Ao d (l.take (x+1))).length=(Ao d (l.take x)).length+(Av d l[x]).length:=by rw [Wz d l h,List.length_append]
theorem nh {d0:Int} {e:Expr} {x:Nat} (h:x<e.kids.length) {j:Nat} {it:Int×Expr} (hj:(Av (d0+1) e.kids[x])[j]? = some it):(Av d0 e)[1+(Ao (d0+1) (e.kids.take x)).length+j]? = some it:=by
 rw [Fx d0 e,show 1+(Ao (d0+1) (e.kids.take x)).length+j=((Ao (d0+1) (e.kids.take x)).length+j)+1 by omega,List.getElem?_cons_succ,Mf (d0+1) e.kids h,List.getElem?_append_right (by omega)]
 rw [show (Ao (d0+1) (e.kids.take x)).length+j-(Ao (d0+1) (e.kids.take x)).length=j by omega,List.getElem?_append_left (List.getElem?_eq_some_iff.1 hj).1]
 exact hj
theorem io (d0:Int) (e:Expr) {x:Nat} (h:x<e.kids.length):1+(Ao (d0+1) (e.kids.take x)).length+(Av (d0+1) e.kids[x]).length≤(Av d0 e).length:=by
 rw [Fx d0 e,List.length_cons,Mf (d0+1) e.kids h]
 simp only [List.length_append]
 omega
theorem ACf {l:Nat} {L:List (Int×Expr)} {go:Nat→Bool} {U F:Nat→List AObj} {n0:Nat} (T:Takes Tryz.prog l L go U F n0):∀(n:Nat) (e:Expr),okE n e→∀(d0:Int) (k0:Nat) (X:List AObj),0≤d0→d0+n≤1099511627776→(∀(j:Nat) (it:Int×Expr),(Av d0 e)[j]? = some it→L[k0+j]? = some it)→(∀j,j<k0→go j=true)→ACall Tryz.prog 119 [A5 e,A2 d0,.yield l] (U k0++X) (X0 go U F k0 (Av d0 e).length X):=by
 intro n
 induction n with
 | zero=>exact fun e h=>h.elim
 | succ n ih =>
 intro e hok d0 k0 X hd hdn hit hgo
 have hlen0:(U k0++X).length=n0+X.length:=by rw [List.length_append,T.lenU]
 refine ACall.body [.tmp 6] [0,1,2] Tryz.func119 Tryz.ntmps119 (fun d=>?_)
 refine Z1 ?_;refine R.fin [1,2,3] ?_;refine Z30 ?_
 refine R.yield0 (T.y X k0 (d0,e) (hit 0 _ (by rw [Fx];rfl)) hgo) ?_
 intro b Vv hV hb
 refine R.go ?_;refine R.fin [1,2,3,13] ?_
 refine W.cond (fun ht13=>?_) (fun ht13=>?_)
 ·have hb':b=false:=by simpa using ht13
  subst hb'
  refine Wn ?_;refine K.thR ?_;exact K.fin (V.one V.tmp) (Or.inr ⟨0,by rw [Fx];simp,fun i hi=>by omega,hb.1.symm,rfl,by have:=hb.2;rw [show go k0=false from hb.1.symm] at this;exact this⟩)
 have hb':b=true:=by simpa using ht13
 subst hb'
 have hgo0:go (k0+0)=true:=hb.1.symm
 have hVe:Vv=U (k0+1)++X:=by have:=hb.2;rw [show go k0=true from hb.1.symm] at this;exact this
 subst hVe
 have h0x:0≤e.kids.length∧∀j,j<1+(Ao (d0+1) (e.kids.take 0)).length→go (k0+j)=true:=⟨Nat.zero_le _,fun j hj=>by
  have:j=0:=by simp [Ao] at hj;omega
  subst this
  exact hgo0⟩
 refine Z6 ?_;refine Z48 ?_;refine R.fin [1,2,15,16,17] ?_
 refine AW.loopC (α:=Nat) (fun x=>⟨28,A3 1 (A2 d0) (A3 2 (.yield l) (A3 15 (.slice false 6 (e.kids.map A5)) (A3 16 (A2 e.kids.length) (A3 17 (A2 (x:Nat)) (fun _=>.any))))),U (k0+(1+(Ao (d0+1) (e.kids.take x)).length))++X,[],[],none⟩) (fun x=>x≤e.kids.length∧∀j,j<1+(Ao (d0+1) (e.kids.take x)).length→go (k0+j)=true) (fun x=>e.kids.length-x) (0) h0x (StLe.of_eq (by simp [Ao])) rfl (fun x hx=>?_)
 refine Z2 ?_;refine R.fin [1,2,15,16,17,18] ?_
 refine W.condX (fun ht18=>?_) (fun ht18=>?_)
 ·have hlt:x<e.kids.length:=by simpa using ht18
  have hkl:=hok.2.1
  refine Z87 ?_
  refine R.go (h:=Q.indexAddr (x) (A5 e.kids[x]) (fun _=>An hlt)) (hr:=?_)
  refine Q8 ?_;refine R.fin [1,2,8,15,16,17] ?_;refine Z19 ?_
  refine R.callG Tryz.call119 (args:=[A5 e.kids[x],A2 (d0+1),.yield l]) (by rw [List.append_assoc];exact ih e.kids[x] (hok.2.2 _ (List.getElem_mem hlt)) (d0+1) (k0+(1+(Ao (d0+1) (e.kids.take x)).length)) (X++_) (by omega) (by omega) (fun j it hj=>by have:=hit _ it (nh hlt hj);rwa [←Nat.add_assoc] at this) (fun j hj=>by rcases Nat.lt_or_ge j k0 with h|h;exact hgo j h;have:=hx.2 (j-k0) (by omega);rwa [show k0+(j-k0)=j by omega] at this)) ?_
  intro r Vv O hV hp
  obtain ⟨b,rfl,rfl,hc,hlowV⟩:=aj T hV hp
  refine ⟨hlowV,fun o ho=>by simp at ho,?_⟩
  refine R.go ?_;refine R.fin [1,2,15,16,17,26] ?_
  refine W.cond (fun ht26=>?_) (fun ht26=>?_)
  ·have hb':b=false:=by simpa using ht26
   subst hb'
   obtain ⟨j,hj,h1,h2,h3⟩:=hc
   refine Wn ?_;refine Z54 ?_
   have hil:=io d0 e hlt
   refine K.fin (V.one V.tmp) (Or.inr ⟨1+(Ao (d0+1) (e.kids.take x)).length+j,by omega,fun i hi=>?_,by rwa [Nat.add_assoc] at h2,rfl,by rwa [Nat.add_assoc] at h3⟩)
   rcases Nat.lt_or_ge i (1+(Ao (d0+1) (e.kids.take x)).length) with h|h
   ·exact hx.2 i h
   have:=h1 (i-(1+(Ao (d0+1) (e.kids.take x)).length)) (by omega)
   rwa [show k0+(1+(Ao (d0+1) (e.kids.take x)).length)+(i-(1+(Ao (d0+1) (e.kids.take x)).length))=k0+i by omega] at this
  have hb':b=true:=by simpa using ht26
  subst hb'
  obtain ⟨h1,h3⟩:=hc
  refine Z57 ?_;refine R.fin [1,2,15,16,17] ?_
  subst h3
  have hll:=X1 (d0+1) e.kids hlt
  have e1:k0+(1+(Ao (d0+1) (e.kids.take (x+1))).length)=k0+(1+(Ao (d0+1) (e.kids.take x)).length)+(Av (d0+1) e.kids[x]).length:=by omega
  refine K.lpN (x+1) ⟨hlt,fun j hj=>?_⟩ (by omega) ?_
  ·rcases Nat.lt_or_ge j (1+(Ao (d0+1) (e.kids.take x)).length) with h|h
   ·exact hx.2 j h
   have:=h1 (j-(1+(Ao (d0+1) (e.kids.take x)).length)) (by omega)
   rwa [show k0+(1+(Ao (d0+1) (e.kids.take x)).length)+(j-(1+(Ao (d0+1) (e.kids.take x)).length))=k0+j by omega] at this
  simp only [e1]
  exact StCut.take (own:=[]) (fun _=>.refl _) (by repeat (first|exact Aq|refine Ap (by first|(simp [Ad];done)|(have:=T.lt;simp [T.lenU];omega)) ?_)) (by simp) (by simp)
 have hxe:e.kids.take x=e.kids:=List.take_of_length_le (by simp at ht18;omega)
 refine Z35 ?_;refine Wn ?_
 have hl2:(Av d0 e).length=1+(Ao (d0+1) (e.kids.take x)).length:=by rw [Fx,hxe,List.length_cons];omega
 exact K.fin (V.one V.tmp) (Or.inl ⟨fun j hj=>hx.2 j (by omega),rfl,by rw [hl2]⟩)

abbrev E5 (e:Expr):List AV:=[.v (.int .i64 e.op),.v (sv e.text),.v (.int .i64 e.val.kind),.v (.int .i64 e.val.n),.v (sv e.val.s),.slice false 6 (e.kids.map A5)]
/-- What taking all of a tree comes to. -/
def Ii (go:Nat→Bool) (U F:Nat→List AObj) (n:Nat) (H':List AObj):Prop:=
 ((∀j,j<n→go j=true)∧H'=U n)∨(∃j,j<n∧(∀i,i<j→go i=true)∧go j=false∧H'=F j)
theorem xh {l:Nat} {e:Expr} {go:Nat→Bool} {U F:Nat→List AObj} {n0:Nat} (T:Takes Tryz.prog l (Av 1 e) go U F n0) (n:Nat) (hok:okE n e) (hn:n≤1048576):ACall Tryz.prog 118 [.yield l,.ro (E5 e)] (U 0) (fun r H'=>Ii go U F (Av 1 e).length H'):=by
 refine ACall.body [] [0,1] Tryz.func118 Tryz.ntmps118 (fun d=>?_)
 refine Z20 ?_;refine R.callG Tryz.call119 (args:=[A5 e,A2 1,.yield l]) (ACf T n e hok 1 0 [] (by omega) (by omega) (fun j it hj=>by rwa [Nat.zero_add]) (fun j hj=>by omega)) ?_
 intro r Vv O hV hp
 have hO:O=[]:=by
  have h1:(Vv++O).length=n0:=by rcases hp with ⟨_,_,h⟩|⟨j,_,_,_,_,h⟩<;>rw [h]<;>simp [T.lenU,T.lenF]
  have h2:=T.lenU 0
  rw [List.length_append,hV,h2] at h1
  exact List.eq_nil_of_length_eq_zero (by omega)
 subst hO
 rw [List.append_nil] at hp
 have hq:Ii go U F (Av 1 e).length Vv:=by
  rcases hp with ⟨h1,_,h⟩|⟨j,h1,h2,h3,_,h⟩
  ·exact .inl ⟨fun j hj=>by have:=h1 j hj;rwa [Nat.zero_add] at this,by rw [h];simp⟩
  exact .inr ⟨j,h1,fun i hi=>by have:=h2 i hi;rwa [Nat.zero_add] at this,by rwa [Nat.zero_add] at h3,by rw [h];simp⟩
 refine ⟨fun h=>?_,fun o ho=>by simp at ho,?_⟩
 ·rcases hq with ⟨_,h⟩|⟨j,_,_,_,h⟩<;>rw [h]
  ·rw [T.lenU];exact T.lowU _
  rw [T.lenF];exact T.lowF _
 refine R.fin [] ?_;exact K.finN .nores (hp:=hq)

theorem c84 (e:Expr) (Hp:List AObj):AFun Tryz.prog 84 [A5 e] Hp (.fn (.func 118) [] [.ro (E5 e)]):=by
 refine ACall.body [.tmp 2] [0] Tryz.func84 Tryz.ntmps84 (fun d=>?_)
 refine Z96 ?_;refine Cz ?_;refine ma ?_;refine Z4 ?_;exact K.fin (V.one V.tmp) (hlow:=by have:=Ad Hp.length e;rw [Ab] at this;simpa using this)

def goM (e:Expr) (k:Nat):Bool:=match (Av 1 e)[k]? with
 | some it => !((!Bi it.2 || decide ((30:Int)<it.1)) || decide ((300:Int)<(k:Int)+1))
 | none=>true
def Ax (e:Expr):Bool:=(List.range (Av 1 e).length).all (goM e)
mutual
theorem Tf:∀(n:Nat) (e:Expr),okE n e→∀d,∀it∈Av d e,it.2.text.length≤1048576
 | 0,_,h,_,_,_=>h.elim
 | n+1,e,h,d,it,hit=>by
  rw [Fx] at hit
  rcases List.mem_cons.1 hit with rfl|h'
  ·exact h.1
  exact Tg n e.kids h.2.2 (d+1) it h'
 termination_by n e=>(n,0)
theorem Tg:∀(n:Nat) (l:List Expr),(∀y∈l,okE n y)→∀d,∀it∈Ao d l,it.2.text.length≤1048576
  | n,[],_,_,_,h=>by cases h
  | n,e::r,h,d,it,hit=>by
    rw [Ao] at hit
    rcases List.mem_append.1 hit with h'|h'
    · exact Tf n e (h e (by simp)) d it h'
    exact Tg n r (fun y hy=>h y (by simp [hy])) d it h'
  termination_by n l=>(n,l.length+1)
 end
theorem ak {U:List AObj} {i j:Nat} {x y:AObj} (h:U[i]? = some x) (hne:j≠i):(U.set j y)[i]? = some x:=by rw [List.getElem?_set_ne hne];exact h
theorem xi {e:Expr} {k:Nat} {it:Int×Expr} (hit:(Av 1 e)[k]? = some it) (h:∀j,j<k→goM e j=true):(k:Int)≤300:=by
 rcases Nat.eq_zero_or_pos k with h0|h0
 ·omega
 have hl:=(List.getElem?_eq_some_iff.1 hit).1
 have:=h (k-1) (by omega)
 unfold goM at this
 rw [List.getElem?_eq_getElem (by omega)] at this
 simp at this
 omega
theorem V8 {e:Expr} {k:Nat} {it:Int×Expr} (hit:(Av 1 e)[k]? = some it):goM e k = !((!Bi it.2 || decide ((30:Int)<it.1)) || decide ((300:Int)<(k:Int)+1)):=by
 unfold goM;rw [hit]
theorem c56 (n:Nat) (e:Expr) (hok:okE n e) (hn:n≤1048576) (Hp:List AObj):AFun Tryz.prog 56 [A5 e] Hp (At (Ax e)):=by
 refine ACall.body [.cell 2 4] [0,4,5] Tryz.func56 Tryz.ntmps56 (fun d=>?_)
 refine Z2 ?_;refine L3 ?_;refine R.fin [1,2,4,5] ?_;refine Cz ?_;refine Z21 ?_;refine R.fin [1,2,3,4,5] ?_;refine Z66 ?_
 refine R.assumeLow (fun hlow=>?_)
 refine wp ?_;refine R.fin [2,3,4,5,7] ?_;refine Gx ?_
 refine W.rangeV (m:=2) Tryz.call118 (fun FR as' bd' hFR has hbd=>?_)
 have hFRl:∀s,Low (Hp.length+4) (FR s):=by
  intro s
  rw [hFR]
  refine Low.strip ?_
  revert s
  repeat (first|exact Aq|refine Ap (by simp [oid,Ad]<;>try omega) ?_)
 have hOl:∀{k:Nat},∀x∈[AObj.cells 4 [At false],AObj.cells 3 [A2 (k:Nat)],AObj.defs,AObj.loop LoopState.ready none FR 23 #[8,9] as' bd' (oid Hp.length 2)],ObjLow (Hp.length+4) x:=by
  intro k x hx
  simp only [List.mem_cons,List.mem_nil_iff,or_false] at hx
  rcases hx with rfl|rfl|rfl|rfl
  ·exact rp
  ·exact rp
  ·trivial
  exact mg
 have hOf:∀{k:Nat},∀x∈[AObj.cells 4 [At false],AObj.cells 3 [A2 ((k:Nat)+1)],AObj.defs,AObj.loop LoopState.done (some Code.ret) FR 23 #[8,9] as' bd' (oid Hp.length 2)],ObjLow (Hp.length+4) x:=by
  intro k x hx
  simp only [List.mem_cons,List.mem_nil_iff,or_false] at hx
  rcases hx with rfl|rfl|rfl|rfl
  ·exact rp
  ·exact rp
  ·trivial
  exact mg
 refine ⟨fun _ H'=>Ii (goM e) (fun k=>Hp++[AObj.cells 4 [At false],AObj.cells 3 [A2 (k:Nat)],AObj.defs,AObj.loop LoopState.ready none FR 23 #[8,9] as' bd' (oid Hp.length 2)]) (fun k=>Hp++[AObj.cells 4 [At false],AObj.cells 3 [A2 ((k:Nat)+1)],AObj.defs,AObj.loop LoopState.done (some Code.ret) FR 23 #[8,9] as' bd' (oid Hp.length 2)]) (Av 1 e).length H',xh (l:=oid Hp.length 3) (go:=goM e) (U:=fun k=>Hp++[AObj.cells 4 [At false],AObj.cells 3 [A2 (k:Nat)],AObj.defs,AObj.loop LoopState.ready none FR 23 #[8,9] as' bd' (oid Hp.length 2)]) (F:=fun k=>Hp++[AObj.cells 4 [At false],AObj.cells 3 [A2 ((k:Nat)+1)],AObj.defs,AObj.loop LoopState.done (some Code.ret) FR 23 #[8,9] as' bd' (oid Hp.length 2)]) (n0:=Hp.length+4) ⟨fun k=>by simp,fun k=>by simp,fun k x hx=>?_,fun k x hx=>?_,by simp [oid],fun X k it hit hgo=>?_⟩ n hok hn,?_⟩
 ·exact mh
 ·exact J9 (fun x hx=>ObjLow.le (by omega) (hlow x hx)) hOf x hx
 ·have hk3:=xi hit hgo
  generalize hV:(Hp++[AObj.cells 4 [At false],AObj.cells 3 [A2 (k:Nat)],AObj.defs,AObj.loop LoopState.ready none FR 23 #[8,9] as' bd' (oid Hp.length 2)]++X)=V
  have hL:V[oid Hp.length 3]? = some (AObj.loop LoopState.ready none FR 23 #[8,9] as' bd' (oid Hp.length 2)):=by rw [←hV,List.append_assoc,Ar];rfl
  have hA0:V[oid Hp.length 1]? = some (AObj.cells 3 [A2 (k:Nat)]):=by rw [←hV,List.append_assoc,Ar];rfl
  have hB0:V[oid Hp.length 0]? = some (AObj.cells 4 [At false]):=by rw [←hV,List.append_assoc,Ar];rfl
  refine AYield.ofRound (pd:=none) (fr:=FR) (sz:=23) (ps:=#[8,9]) (df:=oid Hp.length 2) (asg:=as') (bd:=bd') hL rfl (by decide) (fun d=>?_)
  subst hFR has hbd
  refine W.keep [2,3,8,9] ?_;refine Z2 ?_;refine R.fin [2,3,4,9] ?_;refine AW.region ?_;refine Z21 ?_;refine R.fin [2,3,4,5] ?_
  refine ⟨rfl,none,hL,?_⟩
  generalize hbz:(AObj.loop LoopState.busy _ _ _ _ _ _ _)=bz
  have hA:(V.set (oid Hp.length 3) bz)[oid Hp.length 1]? = some (AObj.cells 3 [A2 (k:Nat)]):=by rw [List.getElem?_set_ne (Be (by decide))];exact hA0
  have hB:(V.set (oid Hp.length 3) bz)[oid Hp.length 0]? = some (AObj.cells 4 [At false]):=by rw [List.getElem?_set_ne (Be (by decide))];exact hB0
  refine Gx ?_;refine Cz ?_
  refine R.go (h:=Q.loadUp hA) (hr:=?_)
  refine R.go ?_
  refine R.storeUp jS hA ?_ ?_
  ·simp
  refine R.fin [2,3,4,5] ?_;refine Z2 ?_;refine R.call Tryz.call85 (c85 it.2 (Tf n e hok 1 it (List.mem_of_getElem? hit)) _) ?_;refine Z62 ?_;refine Z0 ?_
  refine G.go (h:=Q.loadUp (getset hA)) (hr:=?_)
  refine Z93 ?_;refine R.fin [2,22] ?_
  refine W.cond (fun ht22=>?_) (fun ht22=>?_)
  ·have hgf:goM e k=false:=by rw [V8 hit,ht22];rfl
   refine Cz ?_
   refine R.storeUp jS (ak (j:=oid Hp.length 1) hB (Be (by decide))) ?_ ?_
   ·simp
   refine R.fin [] ?_;refine AW.ret ?_;refine K.blR ?_
   subst hbz
   refine K.rdR (cd hL (Be (by decide)) (Be (by decide))) ?_
   refine ⟨hgf.symm,?_⟩
   rw [if_neg (by rw [hgf];simp)]
   subst hV
   simp only [List.append_assoc,Ee,List.cons_append,List.nil_append,List.set_cons_succ,List.set_cons_zero]
   try rfl
  have hgt:goM e k=true:=by rw [V8 hit,ht22];rfl
  refine AW.skip ?_;refine K.blN ?_
  subst hbz
  refine K.rdN (Wf hL (Be (by decide))) ?_
  refine ⟨hgt.symm,?_⟩
  rw [if_pos hgt]
  subst hV
  simp only [List.append_assoc,Ee,List.cons_append,List.nil_append,List.set_cons_succ,List.set_cons_zero]
  try rfl
 rintro r H' (⟨h1,rfl⟩|⟨j,hj,h1,h2,rfl⟩)
 ·refine ⟨Hp,_,_,_,rfl,rfl,fun h=>h,?_,rfl,by simp,?_⟩
  ·intro o ho
   have:o=oid Hp.length 2:=by simpa using ho
   subst this
   rw [Ar]
   rfl
  refine Z14 ?_;refine Cz ?_;refine Z11 ?_;exact K.fin (V.one (V.cell jA)) ⟨by rw [show Ax e=true from List.all_eq_true.2 fun j hj=>h1 j (List.mem_range.1 hj)],rfl⟩
 refine ⟨Hp,_,_,_,rfl,rfl,fun h=>h,?_,rfl,by simp,?_⟩
 ·intro o ho
  have:o=oid Hp.length 2:=by simpa using ho
  subst this
  rw [Ar]
  rfl
 refine AW.ret ?_;refine Z5 ?_;exact K.fin (V.one (V.cell jA)) ⟨by rw [show Ax e=false from List.all_eq_false.2 ⟨j,List.mem_range.2 hj,by rw [h2];simp⟩],rfl⟩

def Bv (s:Str):Expr:=.mk 2 s ⟨0,0,[]⟩ []
theorem X2 (s:Str):Le (.agg [A2 2,A9 s,A2 0,A2 0,A9 [],.nil]) (A5 (Bv s)):=by
 rw [Ab]
 refine .agg _ _ rfl (by simp [AV.one,Value.oneCell',sv]) fun i y y' h1 h2=>?_
 match i with
 | 0=>simp at h1 h2;subst h1;subst h2;exact .inl rfl
 | 1=>simp at h1 h2;subst h1;subst h2;exact .inl rfl
 | 2=>simp at h1 h2;subst h1;subst h2;exact .inl rfl
 | 3=>simp at h1 h2;subst h1;subst h2;exact .inl rfl
 | 4=>simp at h1 h2;subst h1;subst h2;exact .inl rfl
 | 5=>simp at h1 h2;subst h1;subst h2;exact .inr ⟨rfl,6,rfl⟩
 | i+6=>simp at h1
theorem X3 (s:Str) (h:s.length≤1048576):okE 1 (Bv s):=⟨h,by simp [Bv,Expr.kids],fun y hy=>by cases hy⟩
def Nl (c:List Col) (x:Nat) (y:Col):Bool := !(((!Ax (Bv y.name)) || (Bp y.kind==[])) || (B3 y.name c != (x:Int)))
def Mi (c:List Col):Bool:=c.zipIdx.all fun x=>Nl c x.2 x.1
theorem colsP_true {c:List Col}:Mi c=true↔∀(j:Nat) (y:Col),c[j]? = some y→Nl c j y=true:=Lq
theorem c37 (c:List Col) (hc:OkCols c) (Hp:List AObj):AFun Tryz.prog 37 [Ac c] Hp (At (Mi c)):=by
 refine ACall.body [.tmp 2] [0] Tryz.func37 Tryz.ntmps37 (fun d=>?_)
 refine Wo ?_;refine R.fin [0,5,6,7] ?_
 refine AW.loopC (α:=Nat) (fun x=>⟨32,A3 0 (Ac c) (A3 5 (Ac c) (A3 6 (A2 c.length) (A3 7 (A2 (x:Nat)) (fun _=>.any)))),Hp,[],[],none⟩) (fun x=>x≤c.length∧∀(j:Nat) (y:Col),j<x→c[j]? = some y→Nl c j y=true) (fun x=>c.length-x) (0) (by simp) (StLe.of_eq (by simp)) rfl (fun x hx=>?_)
 refine Z2 ?_;refine R.fin [0,5,6,7,8] ?_
 refine W.condX (fun ht8=>?_) (fun ht8=>?_)
 ·have hlt:x<c.length:=by simpa using ht8
  have hcl:=hc.len
  refine Ma ?_
  refine R.go (h:=Q.indexAddr (x) (B0 c[x]) (fun _=>An hlt)) (hr:=?_)
  refine Zf ?_;refine R.fin [0,3,4,5,6,7] ?_;refine w6 ?_;refine R.wk 14 _ (X2 c[x].name) ?_;refine R.call Tryz.call56 (c56 1 (Bv c[x].name) (X3 _ (hc.names _ (List.getElem_mem hlt))) (by decide) _) ?_;refine Z62 ?_;refine G.call Tryz.call57 (fun hB=>c57 c[x].kind _) ?_;refine G.go ?_;refine Z0 ?_;refine Z41 ?_;refine G.call Tryz.call58 (fun hB=>c58 c hc c[x].name _) ?_;refine Sf ?_;refine R.fin [0,5,6,7,30] ?_
  refine W.cond (fun ht30=>?_) (fun ht30=>?_)
  ·refine gk ?_
   exact K.fin (V.one V.tmp) ⟨by rw [show Mi c=false from Bool.eq_false_iff.2 fun h=>by have:=colsP_true.1 h x c[x] (List.getElem?_eq_getElem hlt);unfold Nl at this;rw [ht30] at this;cases this],rfl⟩
  refine Z57 ?_;refine R.fin [0,5,6,7] ?_
  refine K.lpN (x+1) ⟨hlt,Hn hlt hx.2 (by unfold Nl;rw [ht30];rfl)⟩ (by omega) ?_
  exact StCut.take (own:=[]) (fun _=>.refl _) (by repeat (first|exact Aq|refine Ap (by simp) ?_)) (by simp) (by simp)
 refine Z35 ?_;refine Z49 ?_;exact K.fin (V.one V.tmp) ⟨by rw [colsP_true.2 (Ig (by simp at ht8;omega) hx.2)],rfl⟩

def Qp (c:List Col):Bool:=decide ((c.length:Int)≤12)&&Mi c
theorem c25 (c:List Col) (hc:OkCols c) (Hp:List AObj):AFun Tryz.prog 25 [Ac c] Hp (At (Qp c)):=by
 refine ACall.body [.tmp 2] [0] Tryz.func25 Tryz.ntmps25 (fun d=>?_)
 refine Z47 ?_;refine gr ?_;refine G.call Tryz.call37 (fun hB=>c37 c hc _) ?_;refine Z64 ?_;exact K.fin (V.one V.tmp) ⟨by unfold Qp;simp,rfl⟩

theorem contains_nil (s:Str) (h:s≠[]):Lib.contains [] s=false:=by
 cases s with
 | nil=>exact absurd rfl h
 | cons a r=>rfl
theorem contains_cons (b:UInt8) (l s:Str):Lib.contains (b::l) s=(s.isPrefixOf (b::l) || Lib.contains l s):=by
 unfold Lib.contains
 have hge:=Lib.index_ge l s
 rw [Lib.index]
 by_cases hp:s.isPrefixOf (b::l)=true
 ·rw [if_pos hp,hp];rfl
 rw [if_neg hp]
 have hp':s.isPrefixOf (b::l)=false:=Bool.eq_false_iff.2 hp
 rw [hp',Bool.false_or]
 by_cases hi:Lib.index l s = -1
 ·rw [hi];rfl
 have:(Lib.index l s == -1)=false:=by simpa using hi
 rw [this,if_neg (by simp)]
 rw [decide_eq_decide]
 omega
/-- Words between blanks. -/
def I6:List Str→Str
 | []=>[32]
 | w::r=>32::(w++I6 r)
theorem Th (sub:Str):∀(w R:Str),(32:UInt8)∉w→Lib.contains (w++R) (32::sub)=Lib.contains R (32::sub)
 | [],R,_=>rfl
 | b::w,R,h=>by
  have hb:b≠32:=fun e=>h (by simp [e])
  rw [List.cons_append,contains_cons,Th sub w R (fun hm=>h (by simp [hm]))]
  have:(32::sub).isPrefixOf (b::(w++R))=false:=by
   simp [List.isPrefixOf,Ne.symm hb]
  rw [this,Bool.false_or]
theorem Ox:∀(s w:Str) (R:Str),(32:UInt8)∉s→(32:UInt8)∉w→(s++[32]).isPrefixOf (w++32::R)=(s==w)
 | [],[],R,_,_=>by simp [List.isPrefixOf]
 | [],b::w,R,_,hw=>by
  have hb:(32:UInt8)≠b:=fun e=>hw (by simp [e])
  simp [List.isPrefixOf,hb]
 | a::s,[],R,hs,_=>by
  have hb:a≠(32:UInt8):=fun e=>hs (by simp [e])
  simp [List.isPrefixOf,hb]
 | a::s,b::w,R,hs,hw=>by
  have ih:=Ox s w R (fun h=>hs (by simp [h])) (fun h=>hw (by simp [h]))
  rw [List.cons_append,List.cons_append,List.isPrefixOf,ih]
  rfl
theorem X4:∀ws,∃R,I6 ws=32::R
 | []=>⟨[],rfl⟩
 | w::r=>⟨_,rfl⟩
theorem Ho (s:Str) (hs:(32:UInt8)∉s):∀(ws:List Str),(∀w∈ws,(32:UInt8)∉w)→Lib.contains (I6 ws) ([32]++s++[32])=ws.any (·==s)
 | [],_=>by
  rw [I6,contains_cons,contains_nil _ (by simp),Bool.or_false]
  cases s<;>simp [List.isPrefixOf]
 | w::r,h=>by
  have hw:=h w (by simp)
  obtain ⟨R,hR⟩:=X4 r
  have ih:=Ho s hs r (fun x hx=>h x (by simp [hx]))
  have e1:([32]++s++[32]:Str)=32::(s++[32]):=rfl
  rw [I6,contains_cons,e1,Th _ w _ hw,←e1,ih,List.any_cons]
  congr 1
  rw [e1,hR]
  have:=Ox s w R hs hw
  rw [List.isPrefixOf,this]
  simp only [beq_self_eq_true,Bool.true_and]
  by_cases hsw:s=w
  ·subst hsw;rfl
  rw [beq_eq_false_iff_ne.2 hsw,beq_eq_false_iff_ne.2 (Ne.symm hsw)]
theorem So:J7=I6 words:=by kernel_rfl
theorem X5:∀w∈words,(32:UInt8)∉w:=by decide
theorem X6 (s:Str):Lib.contains s [32]=s.contains 32:=by
 induction s with
 | nil=>rfl
 | cons b l ih =>
  rw [contains_cons,ih,List.contains_cons]
  congr 1
  simp [List.isPrefixOf]
theorem Qq (s:Str) (h1:s≠[]) (h2:(32:UInt8)∉s):E0 s=Na s:=by
 unfold E0
 rw [X6,So,Ho s h2 words X5]
 have e1:(s==[])=false:=by simpa using h1
 have e2:s.contains 32=false:=by simpa using h2
 rw [e1,e2]
 rfl
set_option maxRecDepth 8000
theorem ni {p:UInt8→Bool} (h:((List.range 256).all fun n=>p (UInt8.ofNat n))=true) (c:UInt8):p c=true:=by
 have:=List.all_eq_true.1 h c.toNat (List.mem_range.2 c.toNat_lt)
 simpa using this
theorem al (c:UInt8):tails.contains c=Qc c:=by
 have:=ni (p:=fun c=>tails.contains c==Qc c) (by kernel_rfl) c
 simpa using this
theorem V9 (c:UInt8):letters.contains c=J6 c:=by
 have:=ni (p:=fun c=>letters.contains c==J6 c) (by kernel_rfl) c
 simpa using this
theorem am:Qc 32=false:=by kernel_rfl
theorem cn (s of:Str):(Jl s of==(s.length:Int))=s.all (of.contains ·):=by
 unfold Jl Lib.trimLeftS
 induction s with
 | nil=>rfl
 | cons c r ih =>
  rw [List.dropWhile_cons,List.all_cons]
  cases hc:of.contains c with
  | true =>
   simp only [if_true,Bool.true_and]
   rw [←ih,Bool.eq_iff_iff]
   have:=(List.dropWhile_sublist (fun x=>of.contains x) (l:=r)).length_le
   simp only [beq_iff_eq,List.length_cons]
   omega
  | false =>
   simp only [Bool.false_eq_true,if_false,Bool.false_and]
   rw [beq_eq_false_iff_ne]
   simp only [List.length_cons]
   omega
theorem El (s:Str):Cm s=Ff s:=by
 cases s with
 | nil=>rfl
 | cons c r =>
  unfold Cm
  rw [cn]
  have e1:((c::r).all fun x=>tails.contains x)=(c::r).all Qc:=by
   congr 1
   funext x
   exact al x
  have e2:(Jl ((c::r).take 1) letters==1)=J6 c:=by
   have:=cn [c] letters
   rw [←V9 c]
   simpa using this
  rw [e1,e2]
  have e3:((c::r:Str)==[])=false:=rfl
  have e4:decide (((c::r).length:Int)≤16)=decide ((c::r).length≤16):=by
   rw [decide_eq_decide];omega
  rw [e3,e4]
  show _=(decide ((c::r).length≤16)&&J6 c && !Na (c::r)&&(c::r).all Qc)
  cases ha:(c::r).all Qc with
  | false=>simp
  | true =>
   have hb:(32:UInt8)∉(c::r):=fun hm=>by
    have:=List.all_eq_true.1 ha 32 hm
    rw [am] at this
    cases this
   rw [Qq _ (by simp) hb]
   simp
theorem Qr (s:Str):Ax (Bv s)=Ff s:=by
 have e:Av 1 (Bv s)=[(1,Bv s)]:=by rw [Fx];rfl
 unfold Ax
 rw [e]
 show ((List.range 1).all (goM (Bv s)))=_
 have g:goM (Bv s) 0=Bi (Bv s):=by
  unfold goM
  rw [e]
  simp
 simp only [List.range_succ,List.range_zero,List.nil_append,List.all_cons,List.all_nil,Bool.and_true]
 rw [g,←El]
 simp [Bi,Bv,Expr.op,Expr.val,Expr.text,Expr.kids,Gk]
theorem Va (k:Int):(Bp k==[])=(decide (k<1) || decide ((3:Int)<k)):=by
 unfold Bp
 by_cases h:k<1∨3<k
 ·rw [if_pos h]
  have:(decide (k<1) || decide ((3:Int)<k))=true:=by simpa using h
  rw [this];rfl
 rw [if_neg h]
 have:(decide (k<1) || decide ((3:Int)<k))=false:=by simp;omega
 rw [this]
 have hk:k=1∨k=2∨k=3:=by omega
 rcases hk with rfl|rfl|rfl<;>rfl
theorem Ku (c:List Col):Mi c=Gj c:=by
 unfold Mi Gj
 congr 1
 funext x
 unfold Nl ce
 rw [Qr,Va,←Bool.or_assoc (!Ff x.1.name)]
theorem Ij (c:List Col):Qp c=Cb c:=by unfold Qp Cb;rw [Ku]
set_option maxRecDepth 4000
def A7 (l:List Tok) (i:Nat):Tok:=l.getD i ⟨0,[],0⟩
theorem Nm {l:List Tok} {i:Nat} (h:i<l.length):(l.map H0)[i]? = some (H0 (A7 l i)):=by
 rw [List.getElem?_map,List.getElem?_eq_getElem h]
 unfold A7
 rw [List.getD_eq_getElem?_getD,List.getElem?_eq_getElem h]
 rfl
end Go.SX.Nb
