/- On the way (part 5). -/
import Derived.Test.YtofbdcbjpdpllaaGreatDoorImageNamesCardSaidPart4
set_option linter.all false
namespace Go.SX.Nb
open Go Go.SX Go.Proofs
variable [ErrAt]
set_option maxRecDepth 4000
def wAt (s:Str) (k:Nat):Int×Str×Int×Int:=C7 (s.drop k)
theorem N1 {f k:Nat} {s:Str} (h:s≠[]):I7 (f+1) k s=(⟨(C7 s).1,(C7 s).2.1,k⟩,(C7 s).2.2.2)::(if (C7 s).2.2.2==0 then I7 f (k+(C7 s).2.2.1.toNat+gapM (s.drop (C7 s).2.2.1.toNat)) ((s.drop (C7 s).2.2.1.toNat).drop (gapM (s.drop (C7 s).2.2.1.toNat))) else []):=by
 rw [I7,if_neg (by simpa using h)]
/-- Where the reader is, with k words behind it. -/
def Sb (s:Str) (k p:Nat):Prop:=(∃f,(s.drop p).length<f∧(C5 s).drop k=I7 f p (s.drop p))∧p≤s.length∧∀j,j<k→∃it,(C5 s)[j]? = some it∧it.2=0
theorem ib (s:Str):Sb s 0 (gapM s):=⟨⟨s.length+1,by rw [Hb];omega,by rw [Tm];rfl⟩,i7 s,fun j hj=>by omega⟩
theorem nx {s:Str} {k p:Nat} (h:Sb s k p):k≤(C5 s).length:=by
 refine Gj fun hn=>?_
 obtain ⟨it,hit,_⟩:=h.2.2 (C5 s).length (by omega)
 rw [Ex (Ae _)] at hit
 cases hit
theorem ny {s:Str} {k p:Nat} (h:Sb s k p) (hp:s.length≤p):k=(C5 s).length∧∀it∈C5 s,it.2=0:=by
 have hl:=nx h
 obtain ⟨⟨f,_,hd⟩,_,h0⟩:=h
 have e:s.drop p=[]:=by rw [eu];exact hp
 rw [e] at hd
 have:(C5 s).drop k=[]:=by rw [hd];cases f<;>rfl
 rw [eu] at this
 have hk:k=(C5 s).length:=by omega
 refine ⟨hk,fun it hit=>?_⟩
 obtain ⟨j,hj,rfl⟩:=List.mem_iff_getElem.1 hit
 obtain ⟨it',h1,h2⟩:=h0 j (by omega)
 rw [Aa hj] at h1
 injection h1 with h1
 rw [h1];exact h2
theorem Um {s:Str} {k p:Nat} (h:Sb s k p) (hp:p<s.length):∃f,(s.drop p).length<f+1∧(C5 s).drop k=I7 (f+1) p (s.drop p)∧s.drop p≠[]:=by
 obtain ⟨⟨f,hf,hd⟩,_,_⟩:=h
 obtain ⟨g,rfl⟩:∃g,f=g+1:=⟨f-1,by omega⟩
 exact ⟨g,hf,hd,fun e=>by rw [eu] at e;omega⟩
theorem P2 {s:Str} {k p:Nat} (h:Sb s k p) (hp:p<s.length):(C5 s)[k]? = some (⟨(wAt s p).1,(wAt s p).2.1,p⟩,(wAt s p).2.2.2):=by
 obtain ⟨f,_,hd,hne⟩:=Um h hp
 rw [N1 hne] at hd
 have:=congrArg (·[0]?) hd
 unfold wAt
 simpa using this
theorem ic {s:Str} {k p:Nat} (h:Sb s k p) (hp:p<s.length) (he:(wAt s p).2.2.2=0):∃n:Nat,(wAt s p).2.2.1=(n:Int)∧1≤n∧p+n≤s.length∧Sb s (k+1) (p+n+gapM (s.drop (p+n))):=by
 have hi:=P2 h hp
 obtain ⟨f,hf,hd,hne⟩:=Um h hp
 obtain ⟨n,hn,h1,h2⟩:=kn (s:=s.drop p) (by rw [Hb];omega) he
 rw [Hb] at h2 hf
 have hg:=i7 (s.drop (p+n))
 rw [Hb] at hg
 refine ⟨n,hn,h1,by omega,⟨f,by rw [Hb];omega,?_⟩,by omega,fun j hj=>?_⟩
 ·rw [N1 hne] at hd
  have:=congrArg (·.drop 1) hd
  simp only [Yi,ey,Tm] at this
  unfold wAt at he
  rw [this,hn,he]
  simp only [beq_self_eq_true,if_true,Int.toNat_natCast,Yi]
 rcases B3 j k with h'|h'
 ·exact h.2.2 j h'
 have:j=k:=by omega
 subst this
 exact ⟨_,hi,he⟩
theorem AGg (l:Nat) (s:Str) (hs:s.length≤1048576) (U F:Nat→List AObj) (hlen:∀k,(U k).length=(U 0).length) (hll:l<(U 0).length)
  (hy:∀k it,(C5 s)[k]? = some it→AYield Tryz.prog l [Jy it.1,A4 it.2] (U k) (fun b H'=>if it.2=0 then b=true∧H'=U (k+1) else b=false∧H'=F k)):ACall Tryz.prog 153 [.yield l,.ro [Ad s]] (U 0) (fun r H'=>((∀it∈C5 s,it.2=0)∧H'=U (C5 s).length)∨∃k it,(C5 s)[k]? = some it∧it.2≠0∧(∀j,j<k→∃it',(C5 s)[j]? = some it'∧it'.2=0)∧H'=F k):=by
 refine Ah [] [0,1] Tryz.func153 Tryz.ntmps153 (fun d=>?_)
 refine Z2 ?_;refine A9 Tryz.call154 (AEs s hs _) ?_;refine A5 ?_;refine A2 [0,1,3] ?_
 refine D7 (α:=Nat×Nat) (fun x=>⟨44,A7 0 (.yield l) (A7 1 (.ro [Ad s]) (A7 3 (A4 (x.2:Nat)) (fun _=>.any))),U x.1,[],[],none⟩) (fun x=>Sb s x.1 x.2) (fun x=>s.length-x.2) (0,gapM s) (ib s) (Lp _) rfl (fun x hx=>?_)
 obtain ⟨k,p⟩:=x
 simp only at hx ⊢
 refine Z55 ?_;refine A2 [0,1,3,13] ?_
 refine A3 (fun ht13=>?_) (fun ht13=>?_)
 ·have hpl:p<s.length:=by simpa using ht13
  refine Z6 ?_;refine Zm ?_
  refine A5 (h:=Q.scutL p (fun _=>hx.2.1) (fun _=>Ae _)) (hr:=?_)
  refine A9 Tryz.call155 (AGe (s.drop p) (by rw [Hb];omega) (by rw [Hb];omega) _) ?_
  refine Z74 ?_;refine Z63 ?_;refine A2 [0,1,3,4,5,6,7] ?_;refine Z55 ?_;refine ng ?_;refine A5 ?_;refine R.yield0 (hy k _ (P2 hx hpl)) ?_
  intro b V hV hb
  refine Z59 ?_;refine A5 ?_;refine A2 [0,1,3,6,40] ?_
  refine A3 (fun ht40=>?_) (fun ht40=>?_)
  ·have hbe:(C7 (s.drop p)).2.2.2≠0∧V=F k:=by
    split at hb
    ·rename_i h0
     obtain ⟨rfl,_⟩:=hb
     have h0':(C7 (s.drop p)).2.2.2=0:=h0
     simp [h0'] at ht40
    rename_i h0
    exact ⟨h0,hb.2⟩
   refine Z98 ?_;refine Z38 ?_;exact A8 .nores (hp:=.inr ⟨k,_,P2 hx hpl,hbe.1,hx.2.2,hbe.2⟩)
  have hbe:(C7 (s.drop p)).2.2.2=0∧V=U (k+1):=by
   split at hb
   ·rename_i h0
    exact ⟨h0,hb.2⟩
   obtain ⟨rfl,_⟩:=hb
   simp at ht40
  obtain ⟨n,hn,hn1,hnl,hnx⟩:=ic hx hpl hbe.1
  unfold wAt at hn
  rw [hn]
  have hgl:=i7 (s.drop (p+n))
  rw [Hb] at hgl
  refine Z6 ?_;refine Z20 ?_;refine Z0 ?_;refine A2 [0,1,3] ?_;refine Sr ?_;refine A5 ?_
  refine A5 (h:=Q.scutL (p+n) (fun _=>hnl) (fun _=>Ae _)) (hr:=?_)
  refine A9 Tryz.call154 (AEs (s.drop (p+n)) (by rw [Hb];omega) _) ?_
  refine Z0 ?_;refine A2 [0,1,3] ?_;exact Bp (k+1,p+n+gapM (s.drop (p+n))) hnx (by show s.length-_<s.length-p;omega) (Ea (by rw [hbe.2];simp))
 have hpl:s.length≤p:=by simpa using ht13
 obtain ⟨hk,hz⟩:=ny hx hpl
 refine Z70 ?_;refine K.lpE ?_;exact F0 .nores (hp:=.inl ⟨hz,by rw [hk]⟩)

theorem AGh (s:Str) (Hp:List AObj):AFun Tryz.prog 113 [Ad s] Hp (.fn (.func 153) [] [.ro [Ad s]]):=by
 refine Ah [.tmp 2] [0] Tryz.func113 Tryz.ntmps113 (fun d=>?_)
 refine Wf ?_;refine E5 ?_;refine sk ?_;refine Z4 ?_;exact gh

def Ge (s:Str):List Tok×Int×Nat:=if 4000<s.length then ([],3,0) else
 match (C5 s).find? (fun it=>it.2 != 0) with
 | some it=>([],it.2,it.1.at_)
 | none=>((C5 s).map (·.1)++[⟨0,[],s.length⟩],0,0)
theorem yg {s:Str} {k:Nat} {it:Tok×Int} (hit:(C5 s)[k]? = some it) (he:it.2≠0) (h0:∀j,j<k→∃it',(C5 s)[j]? = some it'∧it'.2=0):(C5 s).find? (fun it=>it.2 != 0)=some it:=by
 rw [rg]
 obtain ⟨hk,e⟩:=Ab.1 hit
 refine ⟨by simpa using he,k,hk,e,fun j hj=>?_⟩
 obtain ⟨it',h1,h2⟩:=h0 j hj
 rw [Aa (by omega)] at h1
 injection h1 with h1
 rw [h1,h2];rfl
theorem u7 {s:Str} (h:∀it∈C5 s,it.2=0):(C5 s).find? (fun it=>it.2 != 0)=none:=by
 rw [Ll]
 intro it hit
 simp [h it hit]
def Xh (s:Str) (k:Nat):Int×Nat:=match (C5 s)[k]? with|some it=>(it.2,it.1.at_)|none=>(0,0)
theorem Un:∀(f k:Nat) (s:Str),(I7 f k s).length≤f
 | 0,_,_=>Av _
 | f+1,k,s=>by
  rw [I7]
  split
  ·exact gi
  rw [Bh]
  split
  ·have:=Un f (k+(C7 s).2.2.1.toNat+gapM (s.drop (C7 s).2.2.1.toNat)) ((s.drop (C7 s).2.2.1.toNat).drop (gapM (s.drop (C7 s).2.2.1.toNat)))
   omega
  simp
theorem Uo (s:Str):(C5 s).length≤s.length+1:=Un _ _ _
def L3 (s:Str) (k:Nat):List Tok:=((C5 s).take k).map (·.1)
theorem R8 (s:Str) (k:Nat):(L3 s k).length≤s.length+1:=by
 have:=Uo s
 unfold L3
 rw [Aw,Cn]
 omega
theorem ie {s:Str} {k:Nat} {it:Tok×Int} (hit:(C5 s)[k]? = some it):L3 s (k+1)=L3 s k++[it.1]:=by
 unfold L3
 rw [Ys,hit,C8]
 rfl
theorem nz (s:Str):L3 s (C5 s).length=(C5 s).map (·.1):=by unfold L3;rw [Lm]
theorem o4 {s:Str} {k:Nat} {it:Tok×Int} (hl4:¬4000<s.length) (hit:(C5 s)[k]? = some it) (he:it.2≠0) (h0:∀j,j<k→∃it',(C5 s)[j]? = some it'∧it'.2=0):Ge s=([],it.2,it.1.at_):=by
 unfold Ge
 rw [if_neg hl4,yg hit he h0]
theorem u9 {s:Str} (hl4:¬4000<s.length) (hz:∀it∈C5 s,it.2=0):Ge s=(L3 s (C5 s).length++[⟨0,[],s.length⟩],0,0):=by
 unfold Ge
 rw [if_neg hl4,u7 hz,nz]
theorem c71 (s:Str) (hs:s.length≤1048576) (Hp:List AObj):AFun Tryz.prog 71 [Ad s] Hp (.tup [kj (Ge s).1,.agg [A4 (Ge s).2.1,A4 (Ge s).2.2]]):=by
 refine Ah [.cell 2 107,.cell 3 69] [0,5,6] Tryz.func71 Tryz.ntmps71 (fun d=>?_)
 refine Z25 ?_;refine O6 ?_;refine A2 [0,2,3,5,6] ?_;refine Z32 ?_;refine A2 [0,2,3,5,6,9] ?_
 refine A3 (fun ht9=>?_) (fun ht9=>?_)
 ·have hlm:Ge s=([],3,0):=by unfold Ge;rw [if_pos (by simp at ht9;omega)]
  refine E5 ?_;refine ADv ?_;refine U5 0 3 ?_;refine H9 ?_;refine Z42 ?_;refine Bz ?_;exact A8 (B9 (Fm jA) (B8 jA jS)) ⟨by rw [hlm];rfl,rfl⟩
 have hl4:¬4000<s.length:=by simp at ht9;omega
 refine Z6 ?_;refine Z25 ?_;refine A2 [0,2,3,4,5,6] ?_;refine Z64 ?_;refine U5 2 3 ?_;refine A5 ?_;refine A9 Tryz.call113 (AGh s _) ?_;refine A2 [0,2,3,4,5,6,12] ?_;refine Jv ?_
 refine Ox (m:=3) Tryz.call153 (fun FR as' bd' hFR has hbd=>?_)
 refine ⟨_,AGg (oid Hp.length 4) s hs (fun k=>Hp++[AObj.cells 107 [AV.nil],AObj.cells 69 [A4 0,A4 0],AObj.cells 107 [AV.slice true 3 ((L3 s k).map Jy)],AObj.defs,AObj.loop LoopState.ready none FR 32 #[13,14] as' bd' (oid Hp.length 3)]) (fun k=>Hp++[AObj.cells 107 [AV.nil],AObj.cells 69 [A4 (Xh s k).1,A4 (Xh s k).2],AObj.cells 107 [AV.slice true 3 ((L3 s k).map Jy)],AObj.defs,AObj.loop LoopState.done (some Code.ret) FR 32 #[13,14] as' bd' (oid Hp.length 3)]) (fun k=>by simp) (by simp [oid]) (fun k it hit=>?_),?_⟩
 ·generalize hV:Hp++[AObj.cells 107 [AV.nil],AObj.cells 69 [A4 0,A4 0],AObj.cells 107 [AV.slice true 3 ((L3 s k).map Jy)],AObj.defs,AObj.loop LoopState.ready none FR 32 #[13,14] as' bd' (oid Hp.length 3)]=V
  have hL:V[oid Hp.length 4]? = some (AObj.loop LoopState.ready none FR 32 #[13,14] as' bd' (oid Hp.length 3)):=by rw [←hV,Bd];rfl
  have hA0:V[oid Hp.length 2]? = some (AObj.cells 107 [AV.slice true 3 ((L3 s k).map Jy)]):=by rw [←hV,Bd];rfl
  have hB0:V[oid Hp.length 0]? = some (AObj.cells 107 [AV.nil]):=by rw [←hV,Bd];rfl
  have hC0:V[oid Hp.length 1]? = some (AObj.cells 69 [A4 0,A4 0]):=by rw [←hV,Bd];rfl
  refine Oq (pd:=none) (fr:=FR) (sz:=32) (ps:=#[13,14]) (df:=oid Hp.length 3) (asg:=as') (bd:=bd') hL rfl (by decide) (fun d=>?_)
  subst hFR has hbd
  refine Ku [2,3,4,13,14] ?_;refine E5 ?_;refine Z18 ?_;refine A2 [2,3,4,5,14] ?_;refine Z77 ?_;refine A2 [2,3,4,5,6] ?_
  refine ⟨rfl,none,hL,?_⟩
  generalize hbz:(AObj.loop LoopState.busy _ _ _ _ _ _ _)=bz
  have hA:(V.set (oid Hp.length 4) bz)[oid Hp.length 2]? = some (AObj.cells 107 [AV.slice true 3 ((L3 s k).map Jy)]):=by rw [Dg (C3 (by decide))];exact hA0
  have hB:(V.set (oid Hp.length 4) bz)[oid Hp.length 0]? = some (AObj.cells 107 [AV.nil]):=by rw [Dg (C3 (by decide))];exact hB0
  have hC:(V.set (oid Hp.length 4) bz)[oid Hp.length 1]? = some (AObj.cells 69 [A4 0,A4 0]):=by rw [Dg (C3 (by decide))];exact hC0
  refine Jv ?_;refine Z29 ?_;refine A2 [2,3,4,5,6,16] ?_
  refine A3 (fun ht16=>?_) (fun ht16=>?_)
  ·have hne:it.2≠0:=by simpa using ht16
   refine H0 [0,0,2,7,0,31] [4] [.q 4 [] [],.s [] (some 0) [] []] (fun _=>V.set (oid Hp.length 4) bz) (fun _=>[AObj.cells 113 [A4 it.1.kind,Ad it.1.text,A4 it.1.at_]]) Al (by kernel_rfl) rfl rfl (fun _=>rfl) ?_
   apply Y.q
   ·intro B hT hF
    refine Z39 ?_;exact AD9
   case hTF=>decide
   refine Y.storeUp (o:=oid Hp.length 0) (ys:=[.nil]) (t':=107) (cs:=[AV.nil]) (cs':=[AV.nil]) jS (fun _ _=>⟨hB,(Hg hB).symm,rfl,by simp⟩) ?_;refine Fo (tn:=[4]) (U:=V.set (oid Hp.length 4) bz) ?_
   refine Ez jS hC ?_ ?_
   ·simp
   refine A2 [] ?_;refine Z98 ?_;refine K.blR ?_
   subst hbz
   refine K.rdR (bo hL (C3 (by decide))) ?_
   rw [if_neg hne]
   refine ⟨rfl,?_⟩
   subst hV
   simp only [Fs,List.set_cons_succ,List.set_cons_zero]
   rw [show Xh s k=(it.2,it.1.at_) by unfold Xh;rw [hit]]
  have heq:it.2=0:=by simpa using ht16
  refine Z6 ?_;refine He ?_
  have hl3:=R8 s k
  refine R.loadUpT jA hA ?_;refine Z71 ?_
  refine G8 jU Tryz.type113 ?_ ?_ ?_
  ·simp [hl3,Tryz.t113];omega
  ·simp [hl3,Tryz.t113];omega
  refine Gz jS (getset hA) ?_ ?_
  ·simp [or_imp,forall_and]
  refine Z84 ?_
  subst hbz
  refine y9 ?_
  rw [if_pos heq]
  refine ⟨rfl,?_⟩
  subst hV
  simp only [Fs,List.set_cons_succ,List.set_cons_zero]
  rw [ie hit,C8]
  rfl
 rintro r H' (⟨hz,rfl⟩|⟨k,it,hit,hne,h0,rfl⟩)
 ·refine ⟨Hp,_,_,_,rfl,rfl,fun h=>h,?_,rfl,by simp,?_⟩
  ·intro o ho
   have:o=oid Hp.length 3:=by simpa using ho
   subst this
   rw [Bd]
   rfl
  refine Z14 ?_;refine E5 ?_;refine R.loadOwnT jA ?_;refine Z0 ?_;refine ng ?_;refine Pq ?_
  refine G8 jU Tryz.type113 ?_ ?_ ?_
  ·have:=R8 s (C5 s).length;simp [Tryz.t113];omega
  ·have:=R8 s (C5 s).length;simp [Tryz.t113];omega
  refine Zo ?_;refine Zd jS ?_;refine H9 ?_;refine Z42 ?_;exact A8 (B9 (Fm jA) (B8 jA jS)) ⟨by rw [u9 hl4 hz,kj,C8];rfl,rfl⟩ (hlow:=by simp [or_imp,forall_and])
 refine ⟨Hp,_,_,_,rfl,rfl,fun h=>h,?_,rfl,by simp,?_⟩
 ·intro o ho
  have:o=oid Hp.length 3:=by simpa using ho
  subst this
  rw [Bd]
  rfl
 refine W.nilOwn 0 3 ?_;refine Ep ?_;refine Z5 ?_;exact A8 (B9 (Fm jA) (B8 jA jS)) ⟨by rw [o4 hl4 hit hne h0,show Xh s k=(it.2,it.1.at_) by unfold Xh;rw [hit]];rfl,rfl⟩

inductive Expr where
 | mk (op:Int) (text:Str) (val:Val) (kids:List Expr)
def Expr.op:Expr→Int|.mk o _ _ _=>o
def Expr.text:Expr→Str|.mk _ t _ _=>t
def Expr.val:Expr→Val|.mk _ _ v _=>v
def Expr.kids:Expr→List Expr|.mk _ _ _ k=>k
mutual
def Ac:Expr→AV
 | .mk o t v k=>.agg [.v (.int .i64 o),.v (sv t),.v (.int .i64 v.kind),.v (.int .i64 v.n),.v (sv v.s),.slice false 6 (R9 k)]
def R9:List Expr→List AV
  | []=>[]
  | e::r=>Ac e::R9 r
 end
theorem Up:∀l,R9 l=l.map Ac
 | []=>rfl
 | e::r=>by rw [R9,Up r];rfl
theorem Am (e:Expr):Ac e=.agg [.v (.int .i64 e.op),.v (sv e.text),.v (.int .i64 e.val.kind),.v (.int .i64 e.val.n),.v (sv e.val.s),.slice false 6 (e.kids.map Ac)]:=by
 cases e with
 | mk o t v k=>rw [Ac,Up];rfl
attribute [go_sem] Am
def Nx:Str:=[32,111,114,32,32,97,110,100,32,32,61,32,33,61,32,60,32,60,61,32,62,32,62,61,32,32,43,32,45,32,38,32,32,42,32,47,32,37,32]
def Md (v:Val):Bool:=v.kind==0&&v.n==0&&v.s==[]
def Es (e:Expr):Bool:=
 if e.op==1 then ((Dm e.val&&decide (0≤e.val.n))&&(e.text==[]))&&((e.kids.length:Int)==0)
 else if e.op==2 then (Md e.val&&E2 e.text)&&((e.kids.length:Int)==0)
 else if e.op==3 || e.op==4 then (Md e.val&&(e.text==[]))&&((e.kids.length:Int)==1)
 else if e.op==5 then (Md e.val&&Nw e.text Nx)&&((e.kids.length:Int)==2)
 else if e.op==6 then Md e.val&&(C4 e.text==(e.kids.length:Int))
 else false
theorem c78 (e:Expr) (hs:e.text.length≤1048576) (Hp:List AObj):AFun Tryz.prog 78 [Ac e] Hp (Bm (Es e)):=by
 refine ACall.body [.tmp 2] [0] Tryz.func78 Tryz.ntmps78 (fun d=>?_)
 refine Wf ?_;refine Z1 ?_;refine ng ?_
 refine R.go (h:=Q.eqlAgg Wm (Im e.val.kind e.val.n 0 0 e.val.s [])) (hr:=?_)
 refine R.go ?_;refine R.fin [1,3] ?_;refine Z29 ?_;refine R.fin [1,3,9] ?_;refine Z92 ?_;refine R.fin [1,3,9,10] ?_
 refine W.cond (fun ht10=>?_) (fun ht10=>?_)
 ·refine Z1 ?_;refine R.call Tryz.call37 (c37 e.val _) ?_;refine R.go ?_;refine Wi ?_;refine Z0 ?_;refine Z34 ?_;exact se
 refine Z1 ?_;refine R.fin [1,3,9,32] ?_
 refine W.cond (fun ht32=>?_) (fun ht32=>?_)
 ·refine Z1 ?_;refine Z10 ?_;refine G.call Tryz.call40 (fun hB=>c40 e.text hs _) ?_;exact se
 refine Z29 ?_;refine R.fin [1,3,9,46] ?_
 refine W.cond (fun ht46=>?_) (fun ht46=>?_)
 ·refine Z6 ?_
  refine W.cond (fun ht46=>?_) (fun ht46=>?_)
  ·refine Z1 ?_;refine Z34 ?_;exact se
  refine Z1 ?_;refine R.fin [1,3,9,61] ?_
  refine W.cond (fun ht61=>?_) (fun ht61=>?_)
  ·refine Z1 ?_;refine Z10 ?_;exact ADa
  refine Z1 ?_;refine R.fin [1,3,75] ?_
  refine W.cond (fun ht75=>?_) (fun ht75=>?_)
  ·refine ADp ?_;refine Z69 ?_;refine H.call Tryz.call126 (fun hB=>ABq e.text _) ?_;refine Z69 ?_;refine H.go ?_;refine D.tail ?_;refine G.go ?_;refine Z57 ?_;exact Z44
  refine Z17 ?_;exact ADc
 refine Z20 ?_;refine R.fin [1,3,9,46] ?_;refine K.thN ?_
 refine W.cond (fun ht46=>?_) (fun ht46=>?_)
 ·refine Z1 ?_;refine Z34 ?_;exact se
 refine Z1 ?_;refine R.fin [1,3,9,61] ?_
 refine W.cond (fun ht61=>?_) (fun ht61=>?_)
 ·refine Z1 ?_;refine Z10 ?_;exact ADa
 refine Z1 ?_;refine R.fin [1,3,75] ?_
 refine W.cond (fun ht75=>?_) (fun ht75=>?_)
 ·refine ADp ?_;refine Z69 ?_;refine H.call Tryz.call126 (fun hB=>ABq e.text _) ?_;refine Z69 ?_;refine H.go ?_;refine D.tail ?_;refine G.go ?_;refine Z57 ?_;exact Z44
 refine Z17 ?_;exact ADc

mutual
def Bl (d:Int):Expr→List (Int×Expr)
 | .mk o t v k=>(d,.mk o t v k)::Bc (d+1) k
def Bc (d:Int):List Expr→List (Int×Expr)
  | []=>[]
  | e::r=>Bl d e++Bc d r
 end
theorem I8 (d:Int) (e:Expr):Bl d e=(d,e)::Bc (d+1) e.kids:=by cases e;rfl
theorem Kv (d:Int):∀a b,Bc d (a++b)=Bc d a++Bc d b
 | [],b=>rfl
 | e::r,b=>by rw [Ef,Bc,Bc,Kv d r b,Bo]
theorem cf (d:Int) (l:List Expr) {x:Nat} (h:x<l.length):Bc d (l.take (x+1))=Bc d (l.take x)++Bl d l[x]:=by
 rw [Kb h,Kv]
 simp [Bc]
theorem Pu (d:Int) (l:List Expr) {x:Nat} (h:x<l.length):Bc d l=Bc d (l.take x)++(Bl d l[x]++Bc d (l.drop (x+1))):=by
 have e:l=l.take x++(l[x]::l.drop (x+1)):=by rw [←Ha h,ju]
 conv=>lhs;rw [e]
 rw [Kv,Bc]
mutual
def sizeE:Expr→Nat
 | .mk _ _ _ k=>1+Dc k
def Dc:List Expr→Nat
  | []=>0
  | e::r=>sizeE e+Dc r
 end
theorem N2 (e:Expr):sizeE e=1+Dc e.kids:=by cases e;rfl
theorem Xi:∀(l:List Expr) {x:Nat} (h:x<l.length),sizeE l[x]≤Dc l
 | e::r,0,_=>by simp only [List.getElem_cons_zero,Dc];omega
 | e::r,x+1,h=>by
  have:=Xi r (x:=x) (by simpa using h)
  simp only [List.getElem_cons_succ,Dc]
  omega
/-- Each node has few kids. -/
def okE:Nat→Expr→Prop
 | 0,_=>False
 | n+1,e=>e.text.length≤1048576∧e.kids.length≤1048576∧∀y∈e.kids,okE n y
/-- Who takes what a tree yields: item k is taken at U k; it goes on (go k) to U (k + 1), or ends at F k. Behind U k there may stand others' objects. -/
structure Takes (P:Program) (l:Nat) (L:List (Int×Expr)) (go:Nat→Bool) (U F:Nat→List AObj) (n0:Nat):Prop where
 lenU:∀k,(U k).length=n0
 lenF:∀k,(F k).length=n0
 lowU:∀k,∀x∈U k,ObjLow n0 x
 lowF:∀k,∀x∈F k,ObjLow n0 x
 lt:l<n0
 y:∀(X:List AObj) (k:Nat) (it:Int×Expr),L[k]? = some it→(∀j,j<k→go j=true)→AYield P l [A4 it.1,Ac it.2] (U k++X) (fun b H'=>b=go k∧H'=(if go k then U (k+1) else F k)++X)
theorem ObjLow.le {m m':Nat} (h:m≤m') {x:AObj} (hx:ObjLow m x):ObjLow m' x:=by
 cases x with
 | cells t cs=>exact fun y hy=>(hx y hy).mono h
 | loop s pd fr sz ps as' bd df=>exact ⟨fun s=>(hx.1 s).mono h,F6 hx.2 h⟩
 | defs=>trivial
 | dead=>trivial
 | bld _ _ _=>trivial
 | gone=>trivial
/-- What the walk over n items from k0 on comes to. -/
def cg (go:Nat→Bool) (U F:Nat→List AObj) (k0 n:Nat) (X:List AObj):AV→List AObj→Prop:=fun r H' =>
 ((∀j,j<n→go (k0+j)=true)∧r=Bm true∧H'=U (k0+n)++X)∨(∃j,j<n∧(∀i,i<j→go (k0+i)=true)∧go (k0+j)=false∧r=Bm false∧H'=F (k0+j)++X)
mutual
theorem As (m:Nat):∀e,Low m (Ac e)
 | .mk o t v k=>by
  rw [Ac]
  refine .agg _ fun y hy=>?_
  simp only [Bg,Fq,or_false] at hy
  rcases hy with rfl|rfl|rfl|rfl|rfl|rfl
  ·exact .v _
  ·exact .v _
  ·exact .v _
  ·exact .v _
  ·exact .v _
  exact low_slice.2 (Uq m k)
theorem Uq (m:Nat):∀l,∀y∈R9 l,Low m y
  | [],y,hy=>by cases hy
  | e::r,y,hy=>by
    rw [R9] at hy
    rcases Bg.1 hy with rfl|h
    · exact As m e
    exact Uq m r y h
 end
theorem Pv {V O A B own:List AObj} (h:V++O=A++(B++own)) (hl:V.length=(A++B).length):V=A++B∧O=own:=by
 rw [←Bo] at h
 exact Ql h hl
theorem M0 {m:Nat} {A X:List AObj} (hA:∀x∈A,ObjLow m x) (hX:∀x∈X,ObjLow m x):∀x∈A++X,ObjLow m x:=fun x hx=>by
 rcases Dp.1 hx with h|h
 ·exact hA x h
 exact hX x h
theorem ig {P:Program} {l:Nat} {L:List (Int×Expr)} {go:Nat→Bool} {U F:Nat→List AObj} {n0 k n K:Nat} {X own V O:List AObj} {r:AV} (T:Takes P l L go U F n0) (hV:V.length=(U K++X).length) (hp:cg go U F k n (X++own) r (V++O)):
  ∃b,r=Bm b∧O=own∧(if b then (∀j,j<n→go (k+j)=true)∧V=U (k+n)++X else ∃j,j<n∧(∀i,i<j→go (k+i)=true)∧go (k+j)=false∧V=F (k+j)++X)∧((∀x∈U K++X,ObjLow V.length x)→∀x∈V,ObjLow V.length x):=by
 have hn:n0≤V.length:=by rw [hV,Ap,T.lenU];omega
 rcases hp with ⟨h1,h2,h3⟩|⟨j,hj,h1,h2,h3,h4⟩
 ·obtain ⟨e1,e2⟩:=Pv h3 (by rw [hV];simp [T.lenU])
  refine ⟨true,h2,e2,⟨h1,e1⟩,fun h=>?_⟩
  rw [e1] at h ⊢
  exact M0 (fun x hx=>ObjLow.le (by rw [Ap,T.lenU];omega) (T.lowU _ x hx)) (fun x hx=>h x (Pf _ hx))
 obtain ⟨e1,e2⟩:=Pv h4 (by rw [hV];simp [T.lenU,T.lenF])
 refine ⟨false,h3,e2,⟨j,hj,h1,h2,e1⟩,fun h=>?_⟩
 rw [e1] at h ⊢
 exact M0 (fun x hx=>ObjLow.le (by rw [Ap,T.lenF];omega) (T.lowF _ x hx)) (fun x hx=>h x (Pf _ hx))
theorem cj (d:Int) (l:List Expr) {x:Nat} (h:x<l.length):(Bc d (l.take (x+1))).length=(Bc d (l.take x)).length+(Bl d l[x]).length:=by rw [cf d l h,Ap]
theorem ua {d0:Int} {e:Expr} {x:Nat} (h:x<e.kids.length) {j:Nat} {it:Int×Expr} (hj:(Bl (d0+1) e.kids[x])[j]? = some it):(Bl d0 e)[1+(Bc (d0+1) (e.kids.take x)).length+j]? = some it:=by
 rw [I8 d0 e,show 1+(Bc (d0+1) (e.kids.take x)).length+j=((Bc (d0+1) (e.kids.take x)).length+j)+1 by omega,Ol,Pu (d0+1) e.kids h,Ck (by omega)]
 rw [show (Bc (d0+1) (e.kids.take x)).length+j-(Bc (d0+1) (e.kids.take x)).length=j by omega,Cg (Ab.1 hj).1]
 exact hj
theorem o5 (d0:Int) (e:Expr) {x:Nat} (h:x<e.kids.length):1+(Bc (d0+1) (e.kids.take x)).length+(Bl (d0+1) e.kids[x]).length≤(Bl d0 e).length:=by
 rw [I8 d0 e,Bh,Pu (d0+1) e.kids h]
 simp only [Ap]
 omega
theorem AGi {l:Nat} {L:List (Int×Expr)} {go:Nat→Bool} {U F:Nat→List AObj} {n0:Nat} (T:Takes Tryz.prog l L go U F n0):∀(n:Nat) (e:Expr),okE n e→∀(d0:Int) (k0:Nat) (X:List AObj),0≤d0→d0+n≤1099511627776→(∀(j:Nat) (it:Int×Expr),(Bl d0 e)[j]? = some it→L[k0+j]? = some it)→(∀j,j<k0→go j=true)→ACall Tryz.prog 124 [Ac e,A4 d0,.yield l] (U k0++X) (cg go U F k0 (Bl d0 e).length X):=by
 intro n
 induction n with
 | zero=>exact fun e h=>h.elim
 | succ n ih =>
 intro e hok d0 k0 X hd hdn hit hgo
 have hlen0:(U k0++X).length=n0+X.length:=by rw [Ap,T.lenU]
 refine Ah [.tmp 6] [0,1,2] Tryz.func124 Tryz.ntmps124 (fun d=>?_)
 refine Z1 ?_;refine A2 [1,2,3] ?_;refine Z32 ?_
 refine R.yield0 (T.y X k0 (d0,e) (hit 0 _ (by rw [I8];rfl)) hgo) ?_
 intro b Vv hV hb
 refine A5 ?_;refine A2 [1,2,3,13] ?_
 refine A3 (fun ht13=>?_) (fun ht13=>?_)
 ·have hb':b=false:=by simpa using ht13
  subst hb'
  refine Zn ?_;refine Bz ?_;exact A8 (Aj A6) (Or.inr ⟨0,by rw [I8];simp,fun i hi=>by omega,hb.1.symm,rfl,by have:=hb.2;rw [show go k0=false from hb.1.symm] at this;exact this⟩)
 have hb':b=true:=by simpa using ht13
 subst hb'
 have hgo0:go (k0+0)=true:=hb.1.symm
 have hVe:Vv=U (k0+1)++X:=by have:=hb.2;rw [show go k0=true from hb.1.symm] at this;exact this
 subst hVe
 have h0x:0≤e.kids.length∧∀j,j<1+(Bc (d0+1) (e.kids.take 0)).length→go (k0+j)=true:=⟨Av _,fun j hj=>by
  have:j=0:=by simp [Bc] at hj;omega
  subst this
  exact hgo0⟩
 refine Z6 ?_;refine Z55 ?_;refine A2 [1,2,15,16,17] ?_
 refine D7 (α:=Nat) (fun x=>⟨28,A7 1 (A4 d0) (A7 2 (.yield l) (A7 15 (.slice false 6 (e.kids.map Ac)) (A7 16 (A4 e.kids.length) (A7 17 (A4 (x:Nat)) (fun _=>.any))))),U (k0+(1+(Bc (d0+1) (e.kids.take x)).length))++X,[],[],none⟩) (fun x=>x≤e.kids.length∧∀j,j<1+(Bc (d0+1) (e.kids.take x)).length→go (k0+j)=true) (fun x=>e.kids.length-x) (0) h0x (Cp (by simp [Bc])) rfl (fun x hx=>?_)
 refine Z2 ?_;refine A2 [1,2,15,16,17,18] ?_
 refine Dl (fun ht18=>?_) (fun ht18=>?_)
 ·have hlt:x<e.kids.length:=by simpa using ht18
  have hkl:=hok.2.1
  refine Z88 ?_
  refine A5 (h:=Ak (x) (Ac e.kids[x]) (fun _=>Bk hlt)) (hr:=?_)
  refine Wg ?_;refine A2 [1,2,8,15,16,17] ?_;refine Z19 ?_
  refine R.callG Tryz.call124 (args:=[Ac e.kids[x],A4 (d0+1),.yield l]) (by rw [Bo];exact ih e.kids[x] (hok.2.2 _ (Cl hlt)) (d0+1) (k0+(1+(Bc (d0+1) (e.kids.take x)).length)) (X++_) (by omega) (by omega) (fun j it hj=>by have:=hit _ it (ua hlt hj);rwa [←Kc] at this) (fun j hj=>by rcases B3 j k0 with h|h;exact hgo j h;have:=hx.2 (j-k0) (by omega);rwa [show k0+(j-k0)=j by omega] at this)) ?_
  intro r Vv O hV hp
  obtain ⟨b,rfl,rfl,hc,hlowV⟩:=ig T hV hp
  refine ⟨hlowV,fun o ho=>by simp at ho,?_⟩
  refine A5 ?_;refine A2 [1,2,15,16,17,26] ?_
  refine A3 (fun ht26=>?_) (fun ht26=>?_)
  ·have hb':b=false:=by simpa using ht26
   subst hb'
   obtain ⟨j,hj,h1,h2,h3⟩:=hc
   refine Zn ?_;refine Z62 ?_
   have hil:=o5 d0 e hlt
   refine A8 (Aj A6) (Or.inr ⟨1+(Bc (d0+1) (e.kids.take x)).length+j,by omega,fun i hi=>?_,by rwa [Kc] at h2,rfl,by rwa [Kc] at h3⟩)
   rcases B3 i (1+(Bc (d0+1) (e.kids.take x)).length) with h|h
   ·exact hx.2 i h
   have:=h1 (i-(1+(Bc (d0+1) (e.kids.take x)).length)) (by omega)
   rwa [show k0+(1+(Bc (d0+1) (e.kids.take x)).length)+(i-(1+(Bc (d0+1) (e.kids.take x)).length))=k0+i by omega] at this
  have hb':b=true:=by simpa using ht26
  subst hb'
  obtain ⟨h1,h3⟩:=hc
  refine Z58 ?_;refine A2 [1,2,15,16,17] ?_
  subst h3
  have hll:=cj (d0+1) e.kids hlt
  have e1:k0+(1+(Bc (d0+1) (e.kids.take (x+1))).length)=k0+(1+(Bc (d0+1) (e.kids.take x)).length)+(Bl (d0+1) e.kids[x]).length:=by omega
  refine Bp (x+1) ⟨hlt,fun j hj=>?_⟩ (by omega) ?_
  ·rcases B3 j (1+(Bc (d0+1) (e.kids.take x)).length) with h|h
   ·exact hx.2 j h
   have:=h1 (j-(1+(Bc (d0+1) (e.kids.take x)).length)) (by omega)
   rwa [show k0+(1+(Bc (d0+1) (e.kids.take x)).length)+(j-(1+(Bc (d0+1) (e.kids.take x)).length))=k0+j by omega] at this
  simp only [e1]
  exact Dk (own:=[]) (fun _=>.refl _) (by repeat (first|exact Bj|refine Bi (by first|(simp [As];done)|(have:=T.lt;simp [T.lenU];omega)) ?_)) (by simp) (by simp)
 have hxe:e.kids.take x=e.kids:=Gu (by simp at ht18;omega)
 refine Z33 ?_;refine Zn ?_
 have hl2:(Bl d0 e).length=1+(Bc (d0+1) (e.kids.take x)).length:=by rw [I8,hxe,Bh];omega
 exact A8 (Aj A6) (Or.inl ⟨fun j hj=>hx.2 j (by omega),rfl,by rw [hl2]⟩)

def Ra:=@ObjLow.le
abbrev Fd (e:Expr):List AV:=[.v (.int .i64 e.op),.v (sv e.text),.v (.int .i64 e.val.kind),.v (.int .i64 e.val.n),.v (sv e.val.s),.slice false 6 (e.kids.map Ac)]
/-- What taking all of a tree comes to. -/
def L4 (go:Nat→Bool) (U F:Nat→List AObj) (n:Nat) (H':List AObj):Prop:=
 ((∀j,j<n→go j=true)∧H'=U n)∨(∃j,j<n∧(∀i,i<j→go i=true)∧go j=false∧H'=F j)
theorem ABw {l:Nat} {e:Expr} {go:Nat→Bool} {U F:Nat→List AObj} {n0:Nat} (T:Takes Tryz.prog l (Bl 1 e) go U F n0) (n:Nat) (hok:okE n e) (hn:n≤1048576):ACall Tryz.prog 123 [.yield l,.ro (Fd e)] (U 0) (fun r H'=>L4 go U F (Bl 1 e).length H'):=by
 refine Ah [] [0,1] Tryz.func123 Tryz.ntmps123 (fun d=>?_)
 refine Z20 ?_;refine R.callG Tryz.call124 (args:=[Ac e,A4 1,.yield l]) (AGi T n e hok 1 0 [] (by omega) (by omega) (fun j it hj=>by rwa [B5]) (fun j hj=>by omega)) ?_
 intro r Vv O hV hp
 have hO:O=[]:=by
  have h1:(Vv++O).length=n0:=by rcases hp with ⟨_,_,h⟩|⟨j,_,_,_,_,h⟩<;>rw [h]<;>simp [T.lenU,T.lenF]
  have h2:=T.lenU 0
  rw [Ap,hV,h2] at h1
  exact Qp (by omega)
 subst hO
 rw [Gx] at hp
 have hq:L4 go U F (Bl 1 e).length Vv:=by
  rcases hp with ⟨h1,_,h⟩|⟨j,h1,h2,h3,_,h⟩
  ·exact .inl ⟨fun j hj=>by have:=h1 j hj;rwa [B5] at this,by rw [h];simp⟩
  exact .inr ⟨j,h1,fun i hi=>by have:=h2 i hi;rwa [B5] at this,by rwa [B5] at h3,by rw [h];simp⟩
 refine ⟨fun h=>?_,fun o ho=>by simp at ho,?_⟩
 ·rcases hq with ⟨_,h⟩|⟨j,_,_,_,h⟩<;>rw [h]
  ·rw [T.lenU];exact T.lowU _
  rw [T.lenF];exact T.lowF _
 refine A2 [] ?_;exact F0 .nores (hp:=hq)

theorem c77 (e:Expr) (Hp:List AObj):AFun Tryz.prog 77 [Ac e] Hp (.fn (.func 123) [] [.ro (Fd e)]):=by
 refine Ah [.tmp 2] [0] Tryz.func77 Tryz.ntmps77 (fun d=>?_)
 refine Wf ?_;refine E5 ?_;refine sk ?_;refine Z4 ?_;exact A8 (Aj A6) (hlow:=by have:=As Hp.length e;rw [Am] at this;simpa using this)

def goM (e:Expr) (k:Nat):Bool:=match (Bl 1 e)[k]? with
 | some it => !((!Es it.2 || decide ((30:Int)<it.1)) || decide ((300:Int)<(k:Int)+1))
 | none=>true
def B6 (e:Expr):Bool:=(List.range (Bl 1 e).length).all (goM e)
mutual
theorem Xj:∀(n:Nat) (e:Expr),okE n e→∀d,∀it∈Bl d e,it.2.text.length≤1048576
 | 0,_,h,_,_,_=>h.elim
 | n+1,e,h,d,it,hit=>by
  rw [I8] at hit
  rcases Bg.1 hit with rfl|h'
  ·exact h.1
  exact Xk n e.kids h.2.2 (d+1) it h'
 termination_by n e=>(n,0)
theorem Xk:∀(n:Nat) (l:List Expr),(∀y∈l,okE n y)→∀d,∀it∈Bc d l,it.2.text.length≤1048576
  | n,[],_,_,_,h=>by cases h
  | n,e::r,h,d,it,hit=>by
    rw [Bc] at hit
    rcases Dp.1 hit with h'|h'
    · exact Xj n e (h e (by simp)) d it h'
    exact Xk n r (fun y hy=>h y (by simp [hy])) d it h'
  termination_by n l=>(n,l.length+1)
 end
theorem ii {U:List AObj} {i j:Nat} {x y:AObj} (h:U[i]? = some x) (hne:j≠i):(U.set j y)[i]? = some x:=by rw [Dg hne];exact h
theorem ABx {e:Expr} {k:Nat} {it:Int×Expr} (hit:(Bl 1 e)[k]? = some it) (h:∀j,j<k→goM e j=true):(k:Int)≤300:=by
 rcases Nat.eq_zero_or_pos k with h0|h0
 ·omega
 have hl:=(Ab.1 hit).1
 have:=h (k-1) (by omega)
 unfold goM at this
 rw [Aa (by omega)] at this
 simp at this
 omega
theorem Zw {e:Expr} {k:Nat} {it:Int×Expr} (hit:(Bl 1 e)[k]? = some it):goM e k = !((!Es it.2 || decide ((30:Int)<it.1)) || decide ((300:Int)<(k:Int)+1)):=by
 unfold goM;rw [hit]
theorem c38 (n:Nat) (e:Expr) (hok:okE n e) (hn:n≤1048576) (Hp:List AObj):AFun Tryz.prog 38 [Ac e] Hp (Bm (B6 e)):=by
 refine Ah [.cell 2 4] [0,4,5] Tryz.func38 Tryz.ntmps38 (fun d=>?_)
 refine Z2 ?_;refine O6 ?_;refine A2 [1,2,4,5] ?_;refine E5 ?_;refine Z18 ?_;refine A2 [1,2,3,4,5] ?_;refine Z64 ?_
 refine My (fun hlow=>?_)
 refine ABg ?_;refine A2 [2,3,4,5,7] ?_;refine Jv ?_
 refine Ox (m:=2) Tryz.call123 (fun FR as' bd' hFR has hbd=>?_)
 have hFRl:∀s,Low (Hp.length+4) (FR s):=by
  intro s
  rw [hFR]
  refine Qt ?_
  revert s
  repeat (first|exact Bj|refine Bi (by simp [oid,As]<;>try omega) ?_)
 have hOl:∀{k:Nat},∀x∈[AObj.cells 4 [Bm false],AObj.cells 3 [A4 (k:Nat)],AObj.defs,AObj.loop LoopState.ready none FR 23 #[8,9] as' bd' (oid Hp.length 2)],ObjLow (Hp.length+4) x:=by
  intro k x hx
  simp only [Bg,Fq,or_false] at hx
  rcases hx with rfl|rfl|rfl|rfl
  ·exact xm
  ·exact xm
  ·trivial
  exact sr
 have hOf:∀{k:Nat},∀x∈[AObj.cells 4 [Bm false],AObj.cells 3 [A4 ((k:Nat)+1)],AObj.defs,AObj.loop LoopState.done (some Code.ret) FR 23 #[8,9] as' bd' (oid Hp.length 2)],ObjLow (Hp.length+4) x:=by
  intro k x hx
  simp only [Bg,Fq,or_false] at hx
  rcases hx with rfl|rfl|rfl|rfl
  ·exact xm
  ·exact xm
  ·trivial
  exact sr
 refine ⟨fun _ H'=>L4 (goM e) (fun k=>Hp++[AObj.cells 4 [Bm false],AObj.cells 3 [A4 (k:Nat)],AObj.defs,AObj.loop LoopState.ready none FR 23 #[8,9] as' bd' (oid Hp.length 2)]) (fun k=>Hp++[AObj.cells 4 [Bm false],AObj.cells 3 [A4 ((k:Nat)+1)],AObj.defs,AObj.loop LoopState.done (some Code.ret) FR 23 #[8,9] as' bd' (oid Hp.length 2)]) (Bl 1 e).length H',ABw (l:=oid Hp.length 3) (go:=goM e) (U:=fun k=>Hp++[AObj.cells 4 [Bm false],AObj.cells 3 [A4 (k:Nat)],AObj.defs,AObj.loop LoopState.ready none FR 23 #[8,9] as' bd' (oid Hp.length 2)]) (F:=fun k=>Hp++[AObj.cells 4 [Bm false],AObj.cells 3 [A4 ((k:Nat)+1)],AObj.defs,AObj.loop LoopState.done (some Code.ret) FR 23 #[8,9] as' bd' (oid Hp.length 2)]) (n0:=Hp.length+4) ⟨fun k=>by simp,fun k=>by simp,fun k x hx=>?_,fun k x hx=>?_,by simp [oid],fun X k it hit hgo=>?_⟩ n hok hn,?_⟩
 ·exact ss
 ·exact M0 (fun x hx=>Ra (by omega) (hlow x hx)) hOf x hx
 ·have hk3:=ABx hit hgo
  generalize hV:(Hp++[AObj.cells 4 [Bm false],AObj.cells 3 [A4 (k:Nat)],AObj.defs,AObj.loop LoopState.ready none FR 23 #[8,9] as' bd' (oid Hp.length 2)]++X)=V
  have hL:V[oid Hp.length 3]? = some (AObj.loop LoopState.ready none FR 23 #[8,9] as' bd' (oid Hp.length 2)):=by rw [←hV,Bo,Bd];rfl
  have hA0:V[oid Hp.length 1]? = some (AObj.cells 3 [A4 (k:Nat)]):=by rw [←hV,Bo,Bd];rfl
  have hB0:V[oid Hp.length 0]? = some (AObj.cells 4 [Bm false]):=by rw [←hV,Bo,Bd];rfl
  refine Oq (pd:=none) (fr:=FR) (sz:=23) (ps:=#[8,9]) (df:=oid Hp.length 2) (asg:=as') (bd:=bd') hL rfl (by decide) (fun d=>?_)
  subst hFR has hbd
  refine Ku [2,3,8,9] ?_;refine Z2 ?_;refine A2 [2,3,4,9] ?_;refine He ?_;refine Z18 ?_;refine A2 [2,3,4,5] ?_
  refine ⟨rfl,none,hL,?_⟩
  generalize hbz:(AObj.loop LoopState.busy _ _ _ _ _ _ _)=bz
  have hA:(V.set (oid Hp.length 3) bz)[oid Hp.length 1]? = some (AObj.cells 3 [A4 (k:Nat)]):=by rw [Dg (C3 (by decide))];exact hA0
  have hB:(V.set (oid Hp.length 3) bz)[oid Hp.length 0]? = some (AObj.cells 4 [Bm false]):=by rw [Dg (C3 (by decide))];exact hB0
  refine Jv ?_;refine E5 ?_
  refine A5 (h:=Bw hA) (hr:=?_)
  refine A5 ?_
  refine Ez jS hA ?_ ?_
  ·simp
  refine A2 [2,3,4,5] ?_;refine Z2 ?_;refine A9 Tryz.call78 (c78 it.2 (Xj n e hok 1 it (Ar hit)) _) ?_;refine Z59 ?_;refine Z0 ?_
  refine Ci (h:=Bw (getset hA)) (hr:=?_)
  refine U6 ?_;refine A2 [2,22] ?_
  refine A3 (fun ht22=>?_) (fun ht22=>?_)
  ·have hgf:goM e k=false:=by rw [Zw hit,ht22];rfl
   refine E5 ?_
   refine Ez jS (ii (j:=oid Hp.length 1) hB (C3 (by decide))) ?_ ?_
   ·simp
   refine A2 [] ?_;refine Ep ?_;refine K.blR ?_
   subst hbz
   refine K.rdR (ka hL (C3 (by decide)) (C3 (by decide))) ?_
   refine ⟨hgf.symm,?_⟩
   rw [if_neg (by rw [hgf];simp)]
   subst hV
   simp only [Bo,Fs,Ef,Ek,List.set_cons_succ,List.set_cons_zero]
   try rfl
  have hgt:goM e k=true:=by rw [Zw hit,ht22];rfl
  refine Kt ?_;refine Lv ?_
  subst hbz
  refine K.rdN (bo hL (C3 (by decide))) ?_
  refine ⟨hgt.symm,?_⟩
  rw [if_pos hgt]
  subst hV
  simp only [Bo,Fs,Ef,Ek,List.set_cons_succ,List.set_cons_zero]
  try rfl
 rintro r H' (⟨h1,rfl⟩|⟨j,hj,h1,h2,rfl⟩)
 ·refine ⟨Hp,_,_,_,rfl,rfl,fun h=>h,?_,rfl,by simp,?_⟩
  ·intro o ho
   have:o=oid Hp.length 2:=by simpa using ho
   subst this
   rw [Bd]
   rfl
  refine Z14 ?_;refine E5 ?_;refine Z9 ?_;exact A8 (Aj (Fm jA)) ⟨by rw [show B6 e=true from At.2 fun j hj=>h1 j (Np.1 hj)],rfl⟩
 refine ⟨Hp,_,_,_,rfl,rfl,fun h=>h,?_,rfl,by simp,?_⟩
 ·intro o ho
  have:o=oid Hp.length 2:=by simpa using ho
  subst this
  rw [Bd]
  rfl
 refine Ep ?_;refine Z5 ?_;exact A8 (Aj (Fm jA)) ⟨by rw [show B6 e=false from List.all_eq_false.2 ⟨j,Np.2 hj,by rw [h2];simp⟩],rfl⟩

def Cr (s:Str):Expr:=.mk 2 s ⟨0,0,[]⟩ []
theorem ck (s:Str):Le (.agg [A4 2,Ad s,A4 0,A4 0,Ad [],.nil]) (Ac (Cr s)):=by
 rw [Am]
 refine .agg _ _ rfl (by simp [AV.one,Value.oneCell',sv]) fun i y y' h1 h2=>?_
 match i with
 | 0=>simp at h1 h2;subst h1;subst h2;exact .inl rfl
 | 1=>simp at h1 h2;subst h1;subst h2;exact .inl rfl
 | 2=>simp at h1 h2;subst h1;subst h2;exact .inl rfl
 | 3=>simp at h1 h2;subst h1;subst h2;exact .inl rfl
 | 4=>simp at h1 h2;subst h1;subst h2;exact .inl rfl
 | 5=>simp at h1 h2;subst h1;subst h2;exact .inr ⟨rfl,6,rfl⟩
 | i+6=>simp at h1
theorem cl (s:Str) (h:s.length≤1048576):okE 1 (Cr s):=⟨h,by simp [Cr,Expr.kids],fun y hy=>by cases hy⟩
def Rb (c:List Col) (x:Nat) (y:Col):Bool := !(((!B6 (Cr y.name)) || (Cf y.kind==[])) || (Be y.name c != (x:Int)))
def Pw (c:List Col):Bool:=c.zipIdx.all fun x=>Rb c x.2 x.1
theorem colsP_true {c:List Col}:Pw c=true↔∀(j:Nat) (y:Col),c[j]? = some y→Rb c j y=true:=Oy
theorem c36 (c:List Col) (hc:OkCols c) (Hp:List AObj):AFun Tryz.prog 36 [Aq c] Hp (Bm (Pw c)):=by
 refine Ah [.tmp 2] [0] Tryz.func36 Tryz.ntmps36 (fun d=>?_)
 refine Z46 ?_;refine Z32 ?_;refine A2 [0,5,6,7] ?_
 refine D7 (α:=Nat) (fun x=>⟨32,A7 0 (Aq c) (A7 5 (Aq c) (A7 6 (A4 c.length) (A7 7 (A4 (x:Nat)) (fun _=>.any)))),Hp,[],[],none⟩) (fun x=>x≤c.length∧∀(j:Nat) (y:Col),j<x→c[j]? = some y→Rb c j y=true) (fun x=>c.length-x) (0) (by simp) (Cp (by simp)) rfl (fun x hx=>?_)
 refine Z2 ?_;refine A2 [0,5,6,7,8] ?_
 refine Dl (fun ht8=>?_) (fun ht8=>?_)
 ·have hlt:x<c.length:=by simpa using ht8
  have hcl:=hc.len
  refine Z83 ?_
  refine A5 (h:=Ak (x) (Bs c[x]) (fun _=>Bk hlt)) (hr:=?_)
  refine ge ?_;refine A2 [0,3,4,5,6,7] ?_;refine AB7 ?_;refine R.wk 14 _ (ck c[x].name) ?_;refine A9 Tryz.call38 (c38 1 (Cr c[x].name) (cl _ (hc.names _ (Cl hlt))) (by decide) _) ?_;refine Z59 ?_;refine Cd Tryz.call76 (fun hB=>c76 c[x].kind _) ?_;refine Ci ?_;refine Z0 ?_;refine Z34 ?_;refine Cd Tryz.call58 (fun hB=>c58 c hc c[x].name _) ?_;refine U7 ?_;refine A2 [0,5,6,7,30] ?_
  refine A3 (fun ht30=>?_) (fun ht30=>?_)
  ·refine Z61 ?_;refine Z62 ?_
   exact A8 (Aj A6) ⟨by rw [show Pw c=false from Ko.2 fun h=>by have:=colsP_true.1 h x c[x] (Aa hlt);unfold Rb at this;rw [ht30] at this;cases this],rfl⟩
  refine Z58 ?_;refine A2 [0,5,6,7] ?_
  refine Bp (x+1) ⟨hlt,Lx hlt hx.2 (by unfold Rb;rw [ht30];rfl)⟩ (by omega) ?_
  exact Dk (own:=[]) (fun _=>.refl _) (by repeat (first|exact Bj|refine Bi (by simp) ?_)) (by simp) (by simp)
 refine Z33 ?_;refine Z61 ?_;exact A8 (Aj A6) ⟨by rw [colsP_true.2 (Nv (by simp at ht8;omega) hx.2)],rfl⟩

def Ur (c:List Col):Bool:=decide ((c.length:Int)≤12)&&Pw c
theorem c57 (c:List Col) (hc:OkCols c) (Hp:List AObj):AFun Tryz.prog 57 [Aq c] Hp (Bm (Ur c)):=by
 refine Ah [.tmp 2] [0] Tryz.func57 Tryz.ntmps57 (fun d=>?_)
 refine Z46 ?_;refine nd ?_;refine Cd Tryz.call36 (fun hB=>c36 c hc _) ?_;refine Z57 ?_;exact A8 (Aj A6) ⟨by unfold Ur;simp,rfl⟩

theorem Zx (s:Str) (h:s≠[]):Lib.contains [] s=false:=by
 cases s with
 | nil=>exact absurd rfl h
 | cons a r=>rfl
theorem contains_cons (b:UInt8) (l s:Str):Lib.contains (b::l) s=(s.isPrefixOf (b::l) || Lib.contains l s):=by
 unfold Lib.contains
 have hge:=Lib.index_ge l s
 rw [Lib.index]
 by_cases hp:s.isPrefixOf (b::l)=true
 ·rw [if_pos hp,hp];rfl
 rw [if_neg hp]
 have hp':s.isPrefixOf (b::l)=false:=Ko.2 hp
 rw [hp',F5]
 by_cases hi:Lib.index l s = -1
 ·rw [hi];rfl
 have:(Lib.index l s == -1)=false:=by simpa using hi
 rw [this,if_neg (by simp)]
 rw [decide_eq_decide]
 omega
/-- Words between blanks. -/
def N3:List Str→Str
 | []=>[32]
 | w::r=>32::(w++N3 r)
theorem Xl (sub:Str):∀(w R:Str),(32:UInt8)∉w→Lib.contains (w++R) (32::sub)=Lib.contains R (32::sub)
 | [],R,_=>rfl
 | b::w,R,h=>by
  have hb:b≠32:=fun e=>h (by simp [e])
  rw [Ef,contains_cons,Xl sub w R (fun hm=>h (by simp [hm]))]
  have:(32::sub).isPrefixOf (b::(w++R))=false:=by
   simp [List.isPrefixOf,Ne.symm hb]
  rw [this,F5]
theorem Sc:∀(s w:Str) (R:Str),(32:UInt8)∉s→(32:UInt8)∉w→(s++[32]).isPrefixOf (w++32::R)=(s==w)
 | [],[],R,_,_=>by simp [List.isPrefixOf]
 | [],b::w,R,_,hw=>by
  have hb:(32:UInt8)≠b:=fun e=>hw (by simp [e])
  simp [List.isPrefixOf,hb]
 | a::s,[],R,hs,_=>by
  have hb:a≠(32:UInt8):=fun e=>hs (by simp [e])
  simp [List.isPrefixOf,hb]
 | a::s,b::w,R,hs,hw=>by
  have ih:=Sc s w R (fun h=>hs (by simp [h])) (fun h=>hw (by simp [h]))
  rw [Ef,Ef,List.isPrefixOf,ih]
  rfl
theorem cm:∀ws,∃R,N3 ws=32::R
 | []=>⟨[],rfl⟩
 | w::r=>⟨_,rfl⟩
theorem Jz (s:Str) (hs:(32:UInt8)∉s):∀(ws:List Str),(∀w∈ws,(32:UInt8)∉w)→Lib.contains (N3 ws) ([32]++s++[32])=ws.any (·==s)
 | [],_=>by
  rw [N3,contains_cons,Zx _ (by simp),Oi]
  cases s<;>simp [List.isPrefixOf]
 | w::r,h=>by
  have hw:=h w (by simp)
  obtain ⟨R,hR⟩:=cm r
  have ih:=Jz s hs r (fun x hx=>h x (by simp [hx]))
  have e1:([32]++s++[32]:Str)=32::(s++[32]):=rfl
  rw [N3,contains_cons,e1,Xl _ w _ hw,←e1,ih,List.any_cons]
  congr 1
  rw [e1,hR]
  have:=Sc s w R hs hw
  rw [List.isPrefixOf,this]
  simp only [beq_self_eq_true,Oj]
  by_cases hsw:s=w
  ·subst hsw;rfl
  rw [beq_eq_false_iff_ne.2 hsw,beq_eq_false_iff_ne.2 (Ne.symm hsw)]
theorem Ws:Ly=N3 words:=by kernel_rfl
theorem cn:∀w∈words,(32:UInt8)∉w:=by decide
theorem co (s:Str):Lib.contains s [32]=s.contains 32:=by
 induction s with
 | nil=>rfl
 | cons b l ih =>
  rw [contains_cons,ih,List.contains_cons]
  congr 1
  simp [List.isPrefixOf]
theorem Us (s:Str) (h1:s≠[]) (h2:(32:UInt8)∉s):Gd s=R0 s:=by
 unfold Gd
 rw [co,Ws,Jz s h2 words cn]
 have e1:(s==[])=false:=by simpa using h1
 have e2:s.contains 32=false:=by simpa using h2
 rw [e1,e2]
 rfl
set_option maxRecDepth 8000
theorem ub {p:UInt8→Bool} (h:((List.range 256).all fun n=>p (UInt8.ofNat n))=true) (c:UInt8):p c=true:=by
 have:=At.1 h c.toNat (Np.2 c.toNat_lt)
 simpa using this
theorem ij (c:UInt8):tails.contains c=Ub c:=by
 have:=ub (p:=fun c=>tails.contains c==Ub c) (by kernel_rfl) c
 simpa using this
theorem Zy (c:UInt8):letters.contains c=Lw c:=by
 have:=ub (p:=fun c=>letters.contains c==Lw c) (by kernel_rfl) c
 simpa using this
theorem ik:Ub 32=false:=by kernel_rfl
theorem ko (s of:Str):(Ps s of==(s.length:Int))=s.all (of.contains ·):=by
 unfold Ps Lib.trimLeftS
 induction s with
 | nil=>rfl
 | cons c r ih =>
  rw [Qn,List.all_cons]
  cases hc:of.contains c with
  | true =>
   simp only [if_true,Oj]
   rw [←ih,Tj]
   have:=(et (fun x=>of.contains x) (l:=r)).length_le
   simp only [beq_iff_eq,Bh]
   omega
  | false =>
   simp only [B2,if_false,ep]
   rw [beq_eq_false_iff_ne]
   simp only [Bh]
   omega
theorem K1 (s:Str):E2 s=Pr s:=by
 cases s with
 | nil=>rfl
 | cons c r =>
  unfold E2
  rw [ko]
  have e1:((c::r).all fun x=>tails.contains x)=(c::r).all Ub:=by
   congr 1
   funext x
   exact ij x
  have e2:(Ps ((c::r).take 1) letters==1)=Lw c:=by
   have:=ko [c] letters
   rw [←Zy c]
   simpa using this
  rw [e1,e2]
  have e3:((c::r:Str)==[])=false:=rfl
  have e4:decide (((c::r).length:Int)≤16)=decide ((c::r).length≤16):=by
   rw [decide_eq_decide];omega
  rw [e3,e4]
  show _=(decide ((c::r).length≤16)&&Lw c && !R0 (c::r)&&(c::r).all Ub)
  cases ha:(c::r).all Ub with
  | false=>simp
  | true =>
   have hb:(32:UInt8)∉(c::r):=fun hm=>by
    have:=At.1 ha 32 hm
    rw [ik] at this
    cases this
   rw [Us _ (by simp) hb]
   simp
theorem il (s:Str):B6 (Cr s)=Pr s:=by
 have e:Bl 1 (Cr s)=[(1,Cr s)]:=by rw [I8];rfl
 unfold B6
 rw [e]
 show ((List.range 1).all (goM (Cr s)))=_
 have g:goM (Cr s) 0=Es (Cr s):=by
  unfold goM
  rw [e]
  simp
 simp only [Yq,List.range_zero,Ek,List.all_cons,List.all_nil,Ti]
 rw [g,←K1]
 simp [Es,Cr,Expr.op,Expr.val,Expr.text,Expr.kids,Md]
theorem Zz (k:Int):(Cf k==[])=(decide (k<1) || decide ((3:Int)<k)):=by
 unfold Cf
 by_cases h:k<1∨3<k
 ·rw [if_pos h]
  have:(decide (k<1) || decide ((3:Int)<k))=true:=by simpa using h
  rw [this];rfl
 rw [if_neg h]
 have:(decide (k<1) || decide ((3:Int)<k))=false:=by simp;omega
 rw [this]
 have hk:k=1∨k=2∨k=3:=by omega
 rcases hk with rfl|rfl|rfl<;>rfl
theorem Ny (c:List Col):Pw c=Iw c:=by
 unfold Pw Iw
 congr 1
 funext x
 unfold Rb kb
 rw [il,Zz,←Bool.or_assoc (!Pr x.1.name)]
theorem N4 (c:List Col):Ur c=E6 c:=by unfold Ur E6;rw [Ny]
set_option maxRecDepth 4000
def Af (l:List Tok) (i:Nat):Tok:=l.getD i ⟨0,[],0⟩
theorem Ut {l:List Tok} {i:Nat} (h:i<l.length):(l.map Jy)[i]? = some (Jy (Af l i)):=by
 rw [C9,Aa h]
 unfold Af
 rw [Cz,Aa h]
 rfl
end Go.SX.Nb
