/- On the way (part 5). -/
import Derived.Test.YtofbdcbjpdpllaaGreatDoorInvertTellsCardSaidPart4
set_option linter.all false
namespace Go.SX.Nb
open Go Go.SX Go.Proofs
variable [ErrAt]
set_option maxRecDepth 4000
def wAt (s:Str) (k:Nat):Int×Str×Int×Int:=D0 (s.drop k)
theorem P3 {f k:Nat} {s:Str} (h:s≠[]):Jk (f+1) k s=(⟨(D0 s).1,(D0 s).2.1,k⟩,(D0 s).2.2.2)::(if (D0 s).2.2.2==0 then Jk f (k+(D0 s).2.2.1.toNat+gapM (s.drop (D0 s).2.2.1.toNat)) ((s.drop (D0 s).2.2.1.toNat).drop (gapM (s.drop (D0 s).2.2.1.toNat))) else []):=by
 rw [Jk,if_neg (by simpa using h)]
/-- Where the reader is, with k words behind it. -/
def Vn (s:Str) (k p:Nat):Prop:=(∃f,(s.drop p).length<f∧(Cv s).drop k=Jk f p (s.drop p))∧p≤s.length∧∀j,j<k→∃it,(Cv s)[j]? = some it∧it.2=0
theorem oz (s:Str):Vn s 0 (gapM s):=⟨⟨s.length+1,by rw [Gl];omega,by rw [dv];rfl⟩,ou s,fun j hj=>by omega⟩
theorem x8 {s:Str} {k p:Nat} (h:Vn s k p):k≤(Cv s).length:=by
 refine M4 fun hn=>?_
 obtain ⟨it,hit,_⟩:=h.2.2 (Cv s).length (by omega)
 rw [Hv (Ao _)] at hit
 cases hit
theorem x9 {s:Str} {k p:Nat} (h:Vn s k p) (hp:s.length≤p):k=(Cv s).length∧∀it∈Cv s,it.2=0:=by
 have hl:=x8 h
 obtain ⟨⟨f,_,hd⟩,_,h0⟩:=h
 have e:s.drop p=[]:=by rw [mx];exact hp
 rw [e] at hd
 have:(Cv s).drop k=[]:=by rw [hd];cases f<;>rfl
 rw [mx] at this
 have hk:k=(Cv s).length:=by omega
 refine ⟨hk,fun it hit=>?_⟩
 obtain ⟨j,hj,rfl⟩:=List.mem_iff_getElem.1 hit
 obtain ⟨it',h1,h2⟩:=h0 j (by omega)
 rw [Ae hj] at h1
 injection h1 with h1
 rw [h1];exact h2
theorem Y9 {s:Str} {k p:Nat} (h:Vn s k p) (hp:p<s.length):∃f,(s.drop p).length<f+1∧(Cv s).drop k=Jk (f+1) p (s.drop p)∧s.drop p≠[]:=by
 obtain ⟨⟨f,hf,hd⟩,_,_⟩:=h
 obtain ⟨g,rfl⟩:∃g,f=g+1:=⟨f-1,by omega⟩
 exact ⟨g,hf,hd,fun e=>by rw [mx] at e;omega⟩
theorem Rk {s:Str} {k p:Nat} (h:Vn s k p) (hp:p<s.length):(Cv s)[k]? = some (⟨(wAt s p).1,(wAt s p).2.1,p⟩,(wAt s p).2.2.2):=by
 obtain ⟨f,_,hd,hne⟩:=Y9 h hp
 rw [P3 hne] at hd
 have:=congrArg (·[0]?) hd
 unfold wAt
 simpa using this
theorem p8 {s:Str} {k p:Nat} (h:Vn s k p) (hp:p<s.length) (he:(wAt s p).2.2.2=0):∃n:Nat,(wAt s p).2.2.1=(n:Int)∧1≤n∧p+n≤s.length∧Vn s (k+1) (p+n+gapM (s.drop (p+n))):=by
 have hi:=Rk h hp
 obtain ⟨f,hf,hd,hne⟩:=Y9 h hp
 obtain ⟨n,hn,h1,h2⟩:=ru (s:=s.drop p) (by rw [Gl];omega) he
 rw [Gl] at h2 hf
 have hg:=ou (s.drop (p+n))
 rw [Gl] at hg
 refine ⟨n,hn,h1,by omega,⟨f,by rw [Gl];omega,?_⟩,by omega,fun j hj=>?_⟩
 ·rw [P3 hne] at hd
  have:=congrArg (·.drop 1) hd
  simp only [du,my,dv] at this
  unfold wAt at he
  rw [this,hn,he]
  simp only [beq_self_eq_true,if_true,Int.toNat_natCast,du]
 rcases Bn j k with h'|h'
 ·exact h.2.2 j h'
 have:j=k:=by omega
 subst this
 exact ⟨_,hi,he⟩
theorem ASh (l:Nat) (s:Str) (hs:s.length≤1048576) (U F:Nat→List AObj) (hlen:∀k,(U k).length=(U 0).length) (hll:l<(U 0).length)
  (hy:∀k it,(Cv s)[k]? = some it→AYield Tryz.prog l [Ls it.1,A5 it.2] (U k) (fun b H'=>if it.2=0 then b=true∧H'=U (k+1) else b=false∧H'=F k)):ACall Tryz.prog 153 [.yield l,.ro [Ac s]] (U 0) (fun r H'=>((∀it∈Cv s,it.2=0)∧H'=U (Cv s).length)∨∃k it,(Cv s)[k]? = some it∧it.2≠0∧(∀j,j<k→∃it',(Cv s)[j]? = some it'∧it'.2=0)∧H'=F k):=by
 refine Aj [] [0,1] Tryz.func153 Tryz.ntmps153 (fun d=>?_)
 refine Z2 ?_;refine A9 Tryz.call154 (AQ3 s hs _) ?_;refine A4 ?_;refine A2 [0,1,3] ?_
 refine B9 (α:=Nat×Nat) (fun x=>⟨44,Aa 0 (.yield l) (Aa 1 (.ro [Ac s]) (Aa 3 (A5 (x.2:Nat)) (fun _=>.any))),U x.1,[],[],none⟩) (fun x=>Vn s x.1 x.2) (fun x=>s.length-x.2) (0,gapM s) (oz s) (F1 _) rfl (fun x hx=>?_)
 obtain ⟨k,p⟩:=x
 simp only at hx ⊢
 refine Z46 ?_;refine A2 [0,1,3,13] ?_
 refine A3 (fun ht13=>?_) (fun ht13=>?_)
 ·have hpl:p<s.length:=by simpa using ht13
  refine Xt ?_
  refine A4 (h:=R9 p (fun _=>hx.2.1) (fun _=>Ao _)) (hr:=?_)
  refine A9 Tryz.call155 (ASf (s.drop p) (by rw [Gl];omega) (by rw [Gl];omega) _) ?_
  refine Z72 ?_;refine L9 ?_;refine A2 [0,1,3,4,5,6,7] ?_;refine Z46 ?_;refine Wg ?_;refine A4 ?_;refine R.yield0 (hy k _ (Rk hx hpl)) ?_
  intro b V hV hb
  refine Z42 ?_;refine A4 ?_;refine A2 [0,1,3,6,40] ?_
  refine A3 (fun ht40=>?_) (fun ht40=>?_)
  ·have hbe:(D0 (s.drop p)).2.2.2≠0∧V=F k:=by
    split at hb
    ·rename_i h0
     obtain ⟨rfl,_⟩:=hb
     have h0':(D0 (s.drop p)).2.2.2=0:=h0
     simp [h0'] at ht40
    rename_i h0
    exact ⟨h0,hb.2⟩
   refine Z10 ?_;refine Z7 ?_;refine Kh ?_;exact A8 .nores (hp:=.inr ⟨k,_,Rk hx hpl,hbe.1,hx.2.2,hbe.2⟩)
  have hbe:(D0 (s.drop p)).2.2.2=0∧V=U (k+1):=by
   split at hb
   ·rename_i h0
    exact ⟨h0,hb.2⟩
   obtain ⟨rfl,_⟩:=hb
   simp at ht40
  obtain ⟨n,hn,hn1,hnl,hnx⟩:=p8 hx hpl hbe.1
  unfold wAt at hn
  rw [hn]
  have hgl:=ou (s.drop (p+n))
  rw [Gl] at hgl
  refine Z3 ?_;refine Z29 ?_;refine Z0 ?_;refine A2 [0,1,3] ?_;refine Me ?_
  refine A4 (h:=R9 (p+n) (fun _=>hnl) (fun _=>Ao _)) (hr:=?_)
  refine A9 Tryz.call154 (AQ3 (s.drop (p+n)) (by rw [Gl];omega) _) ?_
  refine Z0 ?_;refine A2 [0,1,3] ?_;exact B2 (k+1,p+n+gapM (s.drop (p+n))) hnx (by show s.length-_<s.length-p;omega) (Bz (by rw [hbe.2];simp))
 have hpl:s.length≤p:=by simpa using ht13
 obtain ⟨hk,hz⟩:=x9 hx hpl
 refine w7 ?_;exact Mc .nores (hp:=.inl ⟨hz,by rw [hk]⟩)

theorem ASi (s:Str) (Hp:List AObj):AFun Tryz.prog 113 [Ac s] Hp (.fn (.func 153) [] [.ro [Ac s]]):=by
 refine Aj [.tmp 2] [0] Tryz.func113 Tryz.ntmps113 (fun d=>?_)
 refine Z81 ?_;refine E9 ?_;refine vm ?_;exact AFq

def Ey (s:Str):List Tok×Int×Nat:=if 4000<s.length then ([],3,0) else
 match (Cv s).find? (fun it=>it.2 != 0) with
 | some it=>([],it.2,it.1.at_)
 | none=>((Cv s).map (·.1)++[⟨0,[],s.length⟩],0,0)
theorem AGi {s:Str} {k:Nat} {it:Tok×Int} (hit:(Cv s)[k]? = some it) (he:it.2≠0) (h0:∀j,j<k→∃it',(Cv s)[j]? = some it'∧it'.2=0):(Cv s).find? (fun it=>it.2 != 0)=some it:=by
 rw [AAd]
 obtain ⟨hk,e⟩:=Ak.1 hit
 refine ⟨by simpa using he,k,hk,e,fun j hj=>?_⟩
 obtain ⟨it',h1,h2⟩:=h0 j hj
 rw [Ae (by omega)] at h1
 injection h1 with h1
 rw [h1,h2];rfl
theorem ACa {s:Str} (h:∀it∈Cv s,it.2=0):(Cv s).find? (fun it=>it.2 != 0)=none:=by
 rw [R4]
 intro it hit
 simp [h it hit]
def bw (s:Str) (k:Nat):Int×Nat:=match (Cv s)[k]? with|some it=>(it.2,it.1.at_)|none=>(0,0)
theorem Ya:∀(f k:Nat) (s:Str),(Jk f k s).length≤f
 | 0,_,_=>Av _
 | f+1,k,s=>by
  rw [Jk]
  split
  ·exact Av _
  rw [B6]
  split
  ·have:=Ya f (k+(D0 s).2.2.1.toNat+gapM (s.drop (D0 s).2.2.1.toNat)) ((s.drop (D0 s).2.2.1.toNat).drop (gapM (s.drop (D0 s).2.2.1.toNat)))
   omega
  simp
theorem Yb (s:Str):(Cv s).length≤s.length+1:=Ya _ _ _
def Ms (s:Str) (k:Nat):List Tok:=((Cv s).take k).map (·.1)
theorem Um (s:Str) (k:Nat):(Ms s k).length≤s.length+1:=by
 have:=Yb s
 unfold Ms
 rw [B8,E7]
 omega
theorem p9 {s:Str} {k:Nat} {it:Tok×Int} (hit:(Cv s)[k]? = some it):Ms s (k+1)=Ms s k++[it.1]:=by
 unfold Ms
 rw [Wo,hit,Cs]
 rfl
theorem xa (s:Str):Ms s (Cv s).length=(Cv s).map (·.1):=by unfold Ms;rw [Pr]
theorem xb {s:Str} {k:Nat} {it:Tok×Int} (hl4:¬4000<s.length) (hit:(Cv s)[k]? = some it) (he:it.2≠0) (h0:∀j,j<k→∃it',(Cv s)[j]? = some it'∧it'.2=0):Ey s=([],it.2,it.1.at_):=by
 unfold Ey
 rw [if_neg hl4,AGi hit he h0]
theorem ACb {s:Str} (hl4:¬4000<s.length) (hz:∀it∈Cv s,it.2=0):Ey s=(Ms s (Cv s).length++[⟨0,[],s.length⟩],0,0):=by
 unfold Ey
 rw [if_neg hl4,ACa hz,xa]
theorem c71 (s:Str) (hs:s.length≤1048576) (Hp:List AObj):AFun Tryz.prog 71 [Ac s] Hp (.tup [rr (Ey s).1,.agg [A5 (Ey s).2.1,A5 (Ey s).2.2]]):=by
 refine Aj [.cell 2 107,.cell 3 69] [0,5,6] Tryz.func71 Tryz.ntmps71 (fun d=>?_)
 refine Z34 ?_;refine La ?_;refine A2 [0,2,3,5,6] ?_;refine Z31 ?_;refine A2 [0,2,3,5,6,9] ?_
 refine A3 (fun ht9=>?_) (fun ht9=>?_)
 ·have hlm:Ey s=([],3,0):=by unfold Ey;rw [if_pos (by simp at ht9;omega)]
  refine E9 ?_;refine jm ?_;refine G4 ?_;refine R.nilOwn 0 3 ?_;refine G4 ?_;refine Z88 ?_;exact A8 (As (L5 jA) (Ap jA jS)) ⟨by rw [hlm];rfl,rfl⟩
 have hl4:¬4000<s.length:=by simp at ht9;omega
 refine Z3 ?_;refine Z34 ?_;refine A2 [0,2,3,4,5,6] ?_;refine Z89 ?_;refine R.nilOwn 2 3 ?_;refine A4 ?_;refine A9 Tryz.call113 (ASi s _) ?_;refine A2 [0,2,3,4,5,6,12] ?_;refine J6 ?_
 refine Nh (m:=3) Tryz.call153 (fun FR as' bd' hFR has hbd=>?_)
 refine ⟨_,ASh (oid Hp.length 4) s hs (fun k=>Hp++[AObj.cells 107 [AV.nil],AObj.cells 69 [A5 0,A5 0],AObj.cells 107 [AV.slice true 3 ((Ms s k).map Ls)],AObj.defs,AObj.loop LoopState.ready none FR 32 #[13,14] as' bd' (oid Hp.length 3)]) (fun k=>Hp++[AObj.cells 107 [AV.nil],AObj.cells 69 [A5 (bw s k).1,A5 (bw s k).2],AObj.cells 107 [AV.slice true 3 ((Ms s k).map Ls)],AObj.defs,AObj.loop LoopState.done (some Code.ret) FR 32 #[13,14] as' bd' (oid Hp.length 3)]) (fun k=>by simp) (by simp [oid]) (fun k it hit=>?_),?_⟩
 ·generalize hV:Hp++[AObj.cells 107 [AV.nil],AObj.cells 69 [A5 0,A5 0],AObj.cells 107 [AV.slice true 3 ((Ms s k).map Ls)],AObj.defs,AObj.loop LoopState.ready none FR 32 #[13,14] as' bd' (oid Hp.length 3)]=V
  have hL:V[oid Hp.length 4]? = some (AObj.loop LoopState.ready none FR 32 #[13,14] as' bd' (oid Hp.length 3)):=by rw [←hV,Bv];rfl
  have hA0:V[oid Hp.length 2]? = some (AObj.cells 107 [AV.slice true 3 ((Ms s k).map Ls)]):=by rw [←hV,Bv];rfl
  have hB0:V[oid Hp.length 0]? = some (AObj.cells 107 [AV.nil]):=by rw [←hV,Bv];rfl
  have hC0:V[oid Hp.length 1]? = some (AObj.cells 69 [A5 0,A5 0]):=by rw [←hV,Bv];rfl
  refine Na (pd:=none) (fr:=FR) (sz:=32) (ps:=#[13,14]) (df:=oid Hp.length 3) (asg:=as') (bd:=bd') hL rfl (by decide) (fun d=>?_)
  subst hFR has hbd
  refine Di [2,3,4,13,14] ?_;refine vu ?_;refine A2 [2,3,4,5,14] ?_;refine Z48 ?_;refine A2 [2,3,4,5,6] ?_
  refine ⟨rfl,none,hL,?_⟩
  generalize hbz:(AObj.loop LoopState.busy _ _ _ _ _ _ _)=bz
  have hA:(V.set (oid Hp.length 4) bz)[oid Hp.length 2]? = some (AObj.cells 107 [AV.slice true 3 ((Ms s k).map Ls)]):=by rw [F8 (E8 (by decide))];exact hA0
  have hB:(V.set (oid Hp.length 4) bz)[oid Hp.length 0]? = some (AObj.cells 107 [AV.nil]):=by rw [F8 (E8 (by decide))];exact hB0
  have hC:(V.set (oid Hp.length 4) bz)[oid Hp.length 1]? = some (AObj.cells 69 [A5 0,A5 0]):=by rw [F8 (E8 (by decide))];exact hC0
  refine J6 ?_;refine Z8 ?_;refine A2 [2,3,4,5,6,16] ?_
  refine A3 (fun ht16=>?_) (fun ht16=>?_)
  ·have hne:it.2≠0:=by simpa using ht16
   refine Hc [0,0,2,7,0,31] [4] [.q 4 [] [],.s [] (some 0) [] []] (fun _=>V.set (oid Hp.length 4) bz) (fun _=>[AObj.cells 113 [A5 it.1.kind,Ac it.1.text,A5 it.1.at_]]) Am (by kernel_rfl) rfl rfl (fun _=>rfl) ?_
   apply Y.q
   ·intro B hT hF
    refine Z37 ?_;exact AJy
   case hTF=>decide
   refine Y.storeUp (o:=oid Hp.length 0) (ys:=[.nil]) (t':=107) (cs:=[AV.nil]) (cs':=[AV.nil]) jS (fun _ _=>⟨hB,(K3 hB).symm,rfl,by simp⟩) ?_;refine Hd (tn:=[4]) (U:=V.set (oid Hp.length 4) bz) ?_
   refine Hb jS hC ?_ ?_
   ·simp
   refine A2 [] ?_;refine nz ?_
   subst hbz
   refine K.rdR (AB0 hL (E8 (by decide))) ?_
   rw [if_neg hne]
   refine ⟨rfl,?_⟩
   subst hV
   simp only [Fu,List.set_cons_succ,List.set_cons_zero]
   rw [show bw s k=(it.2,it.1.at_) by unfold bw;rw [hit]]
  have heq:it.2=0:=by simpa using ht16
  refine Z3 ?_;refine Kd ?_
  have hl3:=Um s k
  refine R.loadUpT jA hA ?_;refine fc ?_
  refine Gz jU Tryz.type113 ?_ ?_ ?_
  ·simp [hl3,Tryz.t113];omega
  ·simp [hl3,Tryz.t113];omega
  refine eu jS (Ay hA) ?_ ?_
  ·simp [or_imp,forall_and]
  refine fe ?_
  subst hbz
  refine AG8 ?_
  rw [if_pos heq]
  refine ⟨rfl,?_⟩
  subst hV
  simp only [Fu,List.set_cons_succ,List.set_cons_zero]
  rw [p9 hit,Cs]
  rfl
 rintro r H' (⟨hz,rfl⟩|⟨k,it,hit,hne,h0,rfl⟩)
 ·refine ⟨Hp,_,_,_,rfl,rfl,fun h=>h,?_,rfl,by simp,?_⟩
  ·intro o ho
   have:o=oid Hp.length 3:=by simpa using ho
   subst this
   rw [Bv]
   rfl
  refine Z12 ?_;refine E9 ?_;refine R.loadOwnT jA ?_;refine Z0 ?_;refine Wg ?_;refine Sq ?_
  refine Gz jU Tryz.type113 ?_ ?_ ?_
  ·have:=Um s (Cv s).length;simp [Tryz.t113];omega
  ·have:=Um s (Cv s).length;simp [Tryz.t113];omega
  refine jm ?_;refine R.storeOwnT jS ?_;refine G4 ?_;refine nu ?_;exact A8 (As (L5 jA) (Ap jA jS)) ⟨by rw [ACb hl4 hz,rr,Cs];rfl,rfl⟩ (hlow:=by simp [or_imp,forall_and])
 refine ⟨Hp,_,_,_,rfl,rfl,fun h=>h,?_,rfl,by simp,?_⟩
 ·intro o ho
  have:o=oid Hp.length 3:=by simpa using ho
  subst this
  rw [Bv]
  rfl
 refine W.nilOwn 0 3 ?_;refine Z13 ?_;exact A8 (As (L5 jA) (Ap jA jS)) ⟨by rw [xb hl4 hit hne h0,show bw s k=(it.2,it.1.at_) by unfold bw;rw [hit]];rfl,rfl⟩

inductive Expr where
 | mk (op:Int) (text:Str) (val:Val) (kids:List Expr)
def Expr.op:Expr→Int|.mk o _ _ _=>o
def Expr.text:Expr→Str|.mk _ t _ _=>t
def Expr.val:Expr→Val|.mk _ _ v _=>v
def Expr.kids:Expr→List Expr|.mk _ _ _ k=>k
mutual
def Ab:Expr→AV
 | .mk o t v k=>.agg [.v (.int .i64 o),.v (sv t),.v (.int .i64 v.kind),.v (.int .i64 v.n),.v (sv v.s),.slice false 6 (Un k)]
def Un:List Expr→List AV
  | []=>[]
  | e::r=>Ab e::Un r
 end
theorem Yc:∀l,Un l=l.map Ab
 | []=>rfl
 | e::r=>by rw [Un,Yc r];rfl
theorem Af (e:Expr):Ab e=.agg [.v (.int .i64 e.op),.v (sv e.text),.v (.int .i64 e.val.kind),.v (.int .i64 e.val.n),.v (sv e.val.s),.slice false 6 (e.kids.map Ab)]:=by
 cases e with
 | mk o t v k=>rw [Ab,Yc];rfl
attribute [go_sem] Af
def Q5:Str:=[32,111,114,32,32,97,110,100,32,32,61,32,33,61,32,60,32,60,61,32,62,32,62,61,32,32,43,32,45,32,38,32,32,42,32,47,32,37,32]
def Mt (v:Val):Bool:=v.kind==0&&v.n==0&&v.s==[]
def Ch (e:Expr):Bool:=
 if e.op==1 then ((C2 e.val&&decide (0≤e.val.n))&&(e.text==[]))&&((e.kids.length:Int)==0)
 else if e.op==2 then (Mt e.val&&Cg e.text)&&((e.kids.length:Int)==0)
 else if e.op==3 || e.op==4 then (Mt e.val&&(e.text==[]))&&((e.kids.length:Int)==1)
 else if e.op==5 then (Mt e.val&&Q4 e.text Q5)&&((e.kids.length:Int)==2)
 else if e.op==6 then Mt e.val&&(Cc e.text==(e.kids.length:Int))
 else false
theorem c78 (e:Expr) (hs:e.text.length≤1048576) (Hp:List AObj):AFun Tryz.prog 78 [Ab e] Hp (At (Ch e)):=by
 refine ACall.body [.tmp 2] [0] Tryz.func78 Tryz.ntmps78 (fun d=>?_)
 refine Z81 ?_;refine Z1 ?_;refine Wg ?_
 refine R.go (h:=Q.eqlAgg Ud (Ho e.val.kind e.val.n 0 0 e.val.s [])) (hr:=?_)
 refine R.go ?_;refine R.fin [1,3] ?_;refine Z8 ?_;refine R.fin [1,3,9] ?_;refine Z97 ?_;refine R.fin [1,3,9,10] ?_
 refine W.cond (fun ht10=>?_) (fun ht10=>?_)
 ·refine Z1 ?_;refine R.call Tryz.call37 (c37 e.val _) ?_;refine R.go ?_;refine Z70 ?_;refine Z0 ?_;refine ff ?_;exact ja
 refine Z1 ?_;refine R.fin [1,3,9,32] ?_
 refine W.cond (fun ht32=>?_) (fun ht32=>?_)
 ·refine Z1 ?_;refine Z5 ?_;refine G.call Tryz.call40 (fun hB=>c40 e.text hs _) ?_;refine am ?_;exact ja
 refine Z8 ?_;refine R.fin [1,3,9,46] ?_
 refine W.cond (fun ht46=>?_) (fun ht46=>?_)
 ·refine Z3 ?_
  refine W.cond (fun ht46=>?_) (fun ht46=>?_)
  ·refine Z1 ?_;refine ff ?_;exact ja
  refine Z1 ?_;refine R.fin [1,3,9,61] ?_
  refine W.cond (fun ht61=>?_) (fun ht61=>?_)
  ·refine Z1 ?_;refine Z5 ?_;refine AOu ?_;exact ja
  refine Z1 ?_;refine R.fin [1,3,75] ?_
  refine W.cond (fun ht75=>?_) (fun ht75=>?_)
  ·refine AOi ?_;refine H.call Tryz.call126 (fun hB=>AL4 e.text _) ?_;refine jf ?_;refine D.tail ?_;refine G.go ?_;exact ja
  exact ANx
 refine Z29 ?_;refine R.fin [1,3,9,46] ?_;refine K.thN ?_
 refine W.cond (fun ht46=>?_) (fun ht46=>?_)
 ·refine Z1 ?_;refine ff ?_;exact ja
 refine Z1 ?_;refine R.fin [1,3,9,61] ?_
 refine W.cond (fun ht61=>?_) (fun ht61=>?_)
 ·refine Z1 ?_;refine Z5 ?_;refine AOu ?_;exact ja
 refine Z1 ?_;refine R.fin [1,3,75] ?_
 refine W.cond (fun ht75=>?_) (fun ht75=>?_)
 ·refine AOi ?_;refine H.call Tryz.call126 (fun hB=>AL4 e.text _) ?_;refine jf ?_;refine D.tail ?_;refine G.go ?_;exact ja
 exact ANx

mutual
def Bg (d:Int):Expr→List (Int×Expr)
 | .mk o t v k=>(d,.mk o t v k)::C5 (d+1) k
def C5 (d:Int):List Expr→List (Int×Expr)
  | []=>[]
  | e::r=>Bg d e++C5 d r
 end
theorem Jl (d:Int) (e:Expr):Bg d e=(d,e)::C5 (d+1) e.kids:=by cases e;rfl
theorem Mh (d:Int):∀a b,C5 d (a++b)=C5 d a++C5 d b
 | [],b=>rfl
 | e::r,b=>by rw [Ef,C5,C5,Mh d r b,C1]
theorem ju (d:Int) (l:List Expr) {x:Nat} (h:x<l.length):C5 d (l.take (x+1))=C5 d (l.take x)++Bg d l[x]:=by
 rw [Gm h,Mh]
 simp [C5]
theorem Su (d:Int) (l:List Expr) {x:Nat} (h:x<l.length):C5 d l=C5 d (l.take x)++(Bg d l[x]++C5 d (l.drop (x+1))):=by
 have e:l=l.take x++(l[x]::l.drop (x+1)):=by rw [←H6 h,dx]
 conv=>lhs;rw [e]
 rw [Mh,C5]
mutual
def sizeE:Expr→Nat
 | .mk _ _ _ k=>1+Bp k
def Bp:List Expr→Nat
  | []=>0
  | e::r=>sizeE e+Bp r
 end
theorem Ds (e:Expr):sizeE e=1+Bp e.kids:=by cases e;rfl
theorem Q6:∀(l:List Expr) {x:Nat} (h:x<l.length),sizeE l[x]≤Bp l
 | e::r,0,_=>by simp only [List.getElem_cons_zero,Bp];omega
 | e::r,x+1,h=>by
  have:=Q6 r (x:=x) (by simpa using h)
  simp only [List.getElem_cons_succ,Bp]
  omega
theorem Sv (e:Expr) {x:Nat} (h:x<e.kids.length):sizeE e.kids[x]+1≤sizeE e:=by
 have:=Q6 e.kids h
 rw [Ds e]
 omega
/-- Each node has few kids. -/
def okE:Nat→Expr→Prop
 | 0,_=>False
 | n+1,e=>e.text.length≤1048576∧e.kids.length≤1048576∧∀y∈e.kids,okE n y
/-- Who takes what a tree yields: item k is taken at U k; it goes on (go k) to U (k + 1), or ends at F k. Behind U k there may stand others' objects. -/
structure Takes (P:Program) (l:Nat) (L:List (Int×Expr)) (go:Nat→Bool) (U F:Nat→List AObj) (n0:Nat):Prop where
 lenU:∀k,(U k).length=n0
 lenF:∀k,(F k).length=n0
 lowU:∀k,∀x∈U k,ObjLow n0 x
 lowF:∀k,∀x∈F k,ObjLow n0 x
 lt:l<n0
 y:∀(X:List AObj) (k:Nat) (it:Int×Expr),L[k]? = some it→(∀j,j<k→go j=true)→AYield P l [A5 it.1,Ab it.2] (U k++X) (fun b H'=>b=go k∧H'=(if go k then U (k+1) else F k)++X)
theorem ObjLow.le {m m':Nat} (h:m≤m') {x:AObj} (hx:ObjLow m x):ObjLow m' x:=by
 cases x with
 | cells t cs=>exact fun y hy=>(hx y hy).mono h
 | loop s pd fr sz ps as' bd df=>exact ⟨fun s=>(hx.1 s).mono h,Cy hx.2 h⟩
 | defs=>trivial
 | dead=>trivial
 | bld _ _ _=>trivial
 | gone=>trivial
/-- What the walk over n items from k0 on comes to. -/
def jv (go:Nat→Bool) (U F:Nat→List AObj) (k0 n:Nat) (X:List AObj):AV→List AObj→Prop:=fun r H' =>
 ((∀j,j<n→go (k0+j)=true)∧r=At true∧H'=U (k0+n)++X)∨(∃j,j<n∧(∀i,i<j→go (k0+i)=true)∧go (k0+j)=false∧r=At false∧H'=F (k0+j)++X)
mutual
theorem Ag (m:Nat):∀e,Low m (Ab e)
 | .mk o t v k=>by
  rw [Ab]
  refine .agg _ fun y hy=>?_
  simp only [C0,Fb,or_false] at hy
  rcases hy with rfl|rfl|rfl|rfl|rfl|rfl
  ·exact .v _
  ·exact .v _
  ·exact .v _
  ·exact .v _
  ·exact .v _
  exact low_slice.2 (Yd m k)
theorem Yd (m:Nat):∀l,∀y∈Un l,Low m y
  | [],y,hy=>by cases hy
  | e::r,y,hy=>by
    rw [Un] at hy
    rcases C0.1 hy with rfl|h
    · exact Ag m e
    exact Yd m r y h
 end
theorem Sw {V O A B own:List AObj} (h:V++O=A++(B++own)) (hl:V.length=(A++B).length):V=A++B∧O=own:=by
 rw [←C1] at h
 exact Ts h hl
theorem Lz {m:Nat} {A X:List AObj} (hA:∀x∈A,ObjLow m x) (hX:∀x∈X,ObjLow m x):∀x∈A++X,ObjLow m x:=fun x hx=>by
 rcases Ek.1 hx with h|h
 ·exact hA x h
 exact hX x h
theorem pa {P:Program} {l:Nat} {L:List (Int×Expr)} {go:Nat→Bool} {U F:Nat→List AObj} {n0 k n K:Nat} {X own V O:List AObj} {r:AV} (T:Takes P l L go U F n0) (hV:V.length=(U K++X).length) (hp:jv go U F k n (X++own) r (V++O)):
  ∃b,r=At b∧O=own∧(if b then (∀j,j<n→go (k+j)=true)∧V=U (k+n)++X else ∃j,j<n∧(∀i,i<j→go (k+i)=true)∧go (k+j)=false∧V=F (k+j)++X)∧((∀x∈U K++X,ObjLow V.length x)→∀x∈V,ObjLow V.length x):=by
 have hn:n0≤V.length:=by rw [hV,Aw,T.lenU];omega
 rcases hp with ⟨h1,h2,h3⟩|⟨j,hj,h1,h2,h3,h4⟩
 ·obtain ⟨e1,e2⟩:=Sw h3 (by rw [hV];simp [T.lenU])
  refine ⟨true,h2,e2,⟨h1,e1⟩,fun h=>?_⟩
  rw [e1] at h ⊢
  exact Lz (fun x hx=>ObjLow.le (by rw [Aw,T.lenU];omega) (T.lowU _ x hx)) (fun x hx=>h x (S5 _ hx))
 obtain ⟨e1,e2⟩:=Sw h4 (by rw [hV];simp [T.lenU,T.lenF])
 refine ⟨false,h3,e2,⟨j,hj,h1,h2,e1⟩,fun h=>?_⟩
 rw [e1] at h ⊢
 exact Lz (fun x hx=>ObjLow.le (by rw [Aw,T.lenF];omega) (T.lowF _ x hx)) (fun x hx=>h x (S5 _ hx))
theorem jx (d:Int) (l:List Expr) {x:Nat} (h:x<l.length):(C5 d (l.take (x+1))).length=(C5 d (l.take x)).length+(Bg d l[x]).length:=by rw [ju d l h,Aw]
theorem ACc {d0:Int} {e:Expr} {x:Nat} (h:x<e.kids.length) {j:Nat} {it:Int×Expr} (hj:(Bg (d0+1) e.kids[x])[j]? = some it):(Bg d0 e)[1+(C5 (d0+1) (e.kids.take x)).length+j]? = some it:=by
 rw [Jl d0 e,show 1+(C5 (d0+1) (e.kids.take x)).length+j=((C5 (d0+1) (e.kids.take x)).length+j)+1 by omega,Oe,Su (d0+1) e.kids h,E6 (by omega)]
 rw [show (C5 (d0+1) (e.kids.take x)).length+j-(C5 (d0+1) (e.kids.take x)).length=j by omega,E5 (Ak.1 hj).1]
 exact hj
theorem xc (d0:Int) (e:Expr) {x:Nat} (h:x<e.kids.length):1+(C5 (d0+1) (e.kids.take x)).length+(Bg (d0+1) e.kids[x]).length≤(Bg d0 e).length:=by
 rw [Jl d0 e,B6,Su (d0+1) e.kids h]
 simp only [Aw]
 omega
theorem ASj {l:Nat} {L:List (Int×Expr)} {go:Nat→Bool} {U F:Nat→List AObj} {n0:Nat} (T:Takes Tryz.prog l L go U F n0):∀(n:Nat) (e:Expr),okE n e→∀(d0:Int) (k0:Nat) (X:List AObj),0≤d0→d0+n≤1099511627776→(∀(j:Nat) (it:Int×Expr),(Bg d0 e)[j]? = some it→L[k0+j]? = some it)→(∀j,j<k0→go j=true)→ACall Tryz.prog 124 [Ab e,A5 d0,.yield l] (U k0++X) (jv go U F k0 (Bg d0 e).length X):=by
 intro n
 induction n with
 | zero=>exact fun e h=>h.elim
 | succ n ih =>
 intro e hok d0 k0 X hd hdn hit hgo
 have hlen0:(U k0++X).length=n0+X.length:=by rw [Aw,T.lenU]
 refine Aj [.tmp 6] [0,1,2] Tryz.func124 Tryz.ntmps124 (fun d=>?_)
 refine Z1 ?_;refine A2 [1,2,3] ?_;refine Z31 ?_
 refine R.yield0 (T.y X k0 (d0,e) (hit 0 _ (by rw [Jl];rfl)) hgo) ?_
 intro b Vv hV hb
 refine A4 ?_;refine A2 [1,2,3,13] ?_
 refine A3 (fun ht13=>?_) (fun ht13=>?_)
 ·have hb':b=false:=by simpa using ht13
  subst hb'
  refine vq ?_;refine Z10 ?_;exact A8 (Ai A7) (Or.inr ⟨0,by rw [Jl];simp,fun i hi=>by omega,hb.1.symm,rfl,by have:=hb.2;rw [show go k0=false from hb.1.symm] at this;exact this⟩)
 have hb':b=true:=by simpa using ht13
 subst hb'
 have hgo0:go (k0+0)=true:=hb.1.symm
 have hVe:Vv=U (k0+1)++X:=by have:=hb.2;rw [show go k0=true from hb.1.symm] at this;exact this
 subst hVe
 have h0x:0≤e.kids.length∧∀j,j<1+(C5 (d0+1) (e.kids.take 0)).length→go (k0+j)=true:=⟨Av _,fun j hj=>by
  have:j=0:=by simp [C5] at hj;omega
  subst this
  exact hgo0⟩
 refine fj ?_;refine A2 [1,2,15,16,17] ?_
 refine B9 (α:=Nat) (fun x=>⟨28,Aa 1 (A5 d0) (Aa 2 (.yield l) (Aa 15 (.slice false 6 (e.kids.map Ab)) (Aa 16 (A5 e.kids.length) (Aa 17 (A5 (x:Nat)) (fun _=>.any))))),U (k0+(1+(C5 (d0+1) (e.kids.take x)).length))++X,[],[],none⟩) (fun x=>x≤e.kids.length∧∀j,j<1+(C5 (d0+1) (e.kids.take x)).length→go (k0+j)=true) (fun x=>e.kids.length-x) (0) h0x (Az (by simp [C5])) rfl (fun x hx=>?_)
 refine Z2 ?_;refine A2 [1,2,15,16,17,18] ?_
 refine Ev (fun ht18=>?_) (fun ht18=>?_)
 ·have hlt:x<e.kids.length:=by simpa using ht18
  have hkl:=hok.2.1
  refine Wc ?_
  refine A4 (h:=Ad (x) (Ab e.kids[x]) (fun _=>B3 hlt)) (hr:=?_)
  refine We ?_;refine A2 [1,2,8,15,16,17] ?_;refine Z21 ?_
  refine R.callG Tryz.call124 (args:=[Ab e.kids[x],A5 (d0+1),.yield l]) (by rw [C1];exact ih e.kids[x] (hok.2.2 _ (Bb hlt)) (d0+1) (k0+(1+(C5 (d0+1) (e.kids.take x)).length)) (X++_) (by omega) (by omega) (fun j it hj=>by have:=hit _ it (ACc hlt hj);rwa [←Lu] at this) (fun j hj=>by rcases Bn j k0 with h|h;exact hgo j h;have:=hx.2 (j-k0) (by omega);rwa [show k0+(j-k0)=j by omega] at this)) ?_
  intro r Vv O hV hp
  obtain ⟨b,rfl,rfl,hc,hlowV⟩:=pa T hV hp
  refine ⟨hlowV,fun o ho=>by simp at ho,?_⟩
  refine A4 ?_;refine A2 [1,2,15,16,17,26] ?_
  refine A3 (fun ht26=>?_) (fun ht26=>?_)
  ·have hb':b=false:=by simpa using ht26
   subst hb'
   obtain ⟨j,hj,h1,h2,h3⟩:=hc
   refine vq ?_;refine Z99 ?_
   have hil:=xc d0 e hlt
   refine A8 (Ai A7) (Or.inr ⟨1+(C5 (d0+1) (e.kids.take x)).length+j,by omega,fun i hi=>?_,by rwa [Lu] at h2,rfl,by rwa [Lu] at h3⟩)
   rcases Bn i (1+(C5 (d0+1) (e.kids.take x)).length) with h|h
   ·exact hx.2 i h
   have:=h1 (i-(1+(C5 (d0+1) (e.kids.take x)).length)) (by omega)
   rwa [show k0+(1+(C5 (d0+1) (e.kids.take x)).length)+(i-(1+(C5 (d0+1) (e.kids.take x)).length))=k0+i by omega] at this
  have hb':b=true:=by simpa using ht26
  subst hb'
  obtain ⟨h1,h3⟩:=hc
  refine Ni ?_;refine A2 [1,2,15,16,17] ?_
  subst h3
  have hll:=jx (d0+1) e.kids hlt
  have e1:k0+(1+(C5 (d0+1) (e.kids.take (x+1))).length)=k0+(1+(C5 (d0+1) (e.kids.take x)).length)+(Bg (d0+1) e.kids[x]).length:=by omega
  refine B2 (x+1) ⟨hlt,fun j hj=>?_⟩ (by omega) ?_
  ·rcases Bn j (1+(C5 (d0+1) (e.kids.take x)).length) with h|h
   ·exact hx.2 j h
   have:=h1 (j-(1+(C5 (d0+1) (e.kids.take x)).length)) (by omega)
   rwa [show k0+(1+(C5 (d0+1) (e.kids.take x)).length)+(j-(1+(C5 (d0+1) (e.kids.take x)).length))=k0+j by omega] at this
  simp only [e1]
  exact Dz (own:=[]) (fun _=>.refl _) (by repeat (first|exact By|refine Bx (by first|(simp [Ag];done)|(have:=T.lt;simp [T.lenU];omega)) ?_)) (by simp) (by simp)
 have hxe:e.kids.take x=e.kids:=Dn (by simp at ht18;omega)
 refine So ?_;refine AB2 ?_
 have hl2:(Bg d0 e).length=1+(C5 (d0+1) (e.kids.take x)).length:=by rw [Jl,hxe,B6];omega
 exact A8 (Ai A7) (Or.inl ⟨fun j hj=>hx.2 j (by omega),rfl,by rw [hl2]⟩)

def P4:=@ObjLow.le
abbrev B7 (e:Expr):List AV:=[.v (.int .i64 e.op),.v (sv e.text),.v (.int .i64 e.val.kind),.v (.int .i64 e.val.n),.v (sv e.val.s),.slice false 6 (e.kids.map Ab)]
/-- What taking all of a tree comes to. -/
def Lf (go:Nat→Bool) (U F:Nat→List AObj) (n:Nat) (H':List AObj):Prop:=
 ((∀j,j<n→go j=true)∧H'=U n)∨(∃j,j<n∧(∀i,i<j→go i=true)∧go j=false∧H'=F j)
theorem AGj {l:Nat} {e:Expr} {go:Nat→Bool} {U F:Nat→List AObj} {n0:Nat} (T:Takes Tryz.prog l (Bg 1 e) go U F n0) (n:Nat) (hok:okE n e) (hn:n≤1048576):ACall Tryz.prog 123 [.yield l,.ro (B7 e)] (U 0) (fun r H'=>Lf go U F (Bg 1 e).length H'):=by
 refine Aj [] [0,1] Tryz.func123 Tryz.ntmps123 (fun d=>?_)
 refine Z29 ?_;refine R.callG Tryz.call124 (args:=[Ab e,A5 1,.yield l]) (ASj T n e hok 1 0 [] (by omega) (by omega) (fun j it hj=>by rwa [C9]) (fun j hj=>by omega)) ?_
 intro r Vv O hV hp
 have hO:O=[]:=by
  have h1:(Vv++O).length=n0:=by rcases hp with ⟨_,_,h⟩|⟨j,_,_,_,_,h⟩<;>rw [h]<;>simp [T.lenU,T.lenF]
  have h2:=T.lenU 0
  rw [Aw,hV,h2] at h1
  exact N4 (by omega)
 subst hO
 rw [Jd] at hp
 have hq:Lf go U F (Bg 1 e).length Vv:=by
  rcases hp with ⟨h1,_,h⟩|⟨j,h1,h2,h3,_,h⟩
  ·exact .inl ⟨fun j hj=>by have:=h1 j hj;rwa [C9] at this,by rw [h];simp⟩
  exact .inr ⟨j,h1,fun i hi=>by have:=h2 i hi;rwa [C9] at this,by rwa [C9] at h3,by rw [h];simp⟩
 refine ⟨fun h=>?_,fun o ho=>by simp at ho,?_⟩
 ·rcases hq with ⟨_,h⟩|⟨j,_,_,_,h⟩<;>rw [h]
  ·rw [T.lenU];exact T.lowU _
  rw [T.lenF];exact T.lowF _
 refine A2 [] ?_;exact Mc .nores (hp:=hq)

theorem c77 (e:Expr) (Hp:List AObj):AFun Tryz.prog 77 [Ab e] Hp (.fn (.func 123) [] [.ro (B7 e)]):=by
 refine Aj [.tmp 2] [0] Tryz.func77 Tryz.ntmps77 (fun d=>?_)
 refine Z81 ?_;refine E9 ?_;refine vm ?_;refine Z4 ?_;exact A8 (Ai A7) (hlow:=by have:=Ag Hp.length e;rw [Af] at this;simpa using this)

def goM (e:Expr) (k:Nat):Bool:=match (Bg 1 e)[k]? with
 | some it => !((!Ch it.2 || decide ((30:Int)<it.1)) || decide ((300:Int)<(k:Int)+1))
 | none=>true
def Ar (e:Expr):Bool:=(List.range (Bg 1 e).length).all (goM e)
mutual
theorem bx:∀(n:Nat) (e:Expr),okE n e→∀d,∀it∈Bg d e,it.2.text.length≤1048576
 | 0,_,h,_,_,_=>h.elim
 | n+1,e,h,d,it,hit=>by
  rw [Jl] at hit
  rcases C0.1 hit with rfl|h'
  ·exact h.1
  exact c6 n e.kids h.2.2 (d+1) it h'
 termination_by n e=>(n,0)
theorem c6:∀(n:Nat) (l:List Expr),(∀y∈l,okE n y)→∀d,∀it∈C5 d l,it.2.text.length≤1048576
  | n,[],_,_,_,h=>by cases h
  | n,e::r,h,d,it,hit=>by
    rw [C5] at hit
    rcases Ek.1 hit with h'|h'
    · exact bx n e (h e (by simp)) d it h'
    exact c6 n r (fun y hy=>h y (by simp [hy])) d it h'
  termination_by n l=>(n,l.length+1)
 end
theorem pc {U:List AObj} {i j:Nat} {x y:AObj} (h:U[i]? = some x) (hne:j≠i):(U.set j y)[i]? = some x:=by rw [F8 hne];exact h
theorem ALa {e:Expr} {k:Nat} {it:Int×Expr} (hit:(Bg 1 e)[k]? = some it) (h:∀j,j<k→goM e j=true):(k:Int)≤300:=by
 rcases Nat.eq_zero_or_pos k with h0|h0
 ·omega
 have hl:=(Ak.1 hit).1
 have:=h (k-1) (by omega)
 unfold goM at this
 rw [Ae (by omega)] at this
 simp at this
 omega
theorem g9 {e:Expr} {k:Nat} {it:Int×Expr} (hit:(Bg 1 e)[k]? = some it):goM e k = !((!Ch it.2 || decide ((30:Int)<it.1)) || decide ((300:Int)<(k:Int)+1)):=by
 unfold goM;rw [hit]
theorem c38 (n:Nat) (e:Expr) (hok:okE n e) (hn:n≤1048576) (Hp:List AObj):AFun Tryz.prog 38 [Ab e] Hp (At (Ar e)):=by
 refine Aj [.cell 2 4] [0,4,5] Tryz.func38 Tryz.ntmps38 (fun d=>?_)
 refine Z2 ?_;refine La ?_;refine A2 [1,2,4,5] ?_;refine vu ?_;refine A2 [1,2,3,4,5] ?_;refine Z89 ?_
 refine L8 (fun hlow=>?_)
 refine AFr ?_;refine A2 [2,3,4,5,7] ?_;refine J6 ?_
 refine Nh (m:=2) Tryz.call123 (fun FR as' bd' hFR has hbd=>?_)
 have hFRl:∀s,Low (Hp.length+4) (FR s):=by
  intro s
  rw [hFR]
  refine Og ?_
  revert s
  repeat (first|exact By|refine Bx (by simp [oid,Ag]<;>try omega) ?_)
 have hOl:∀{k:Nat},∀x∈[AObj.cells 4 [At false],AObj.cells 3 [A5 (k:Nat)],AObj.defs,AObj.loop LoopState.ready none FR 23 #[8,9] as' bd' (oid Hp.length 2)],ObjLow (Hp.length+4) x:=by
  intro k x hx
  simp only [C0,Fb,or_false] at hx
  rcases hx with rfl|rfl|rfl|rfl
  ·exact AFf
  ·exact AFf
  ·trivial
  exact o5
 have hOf:∀{k:Nat},∀x∈[AObj.cells 4 [At false],AObj.cells 3 [A5 ((k:Nat)+1)],AObj.defs,AObj.loop LoopState.done (some Code.ret) FR 23 #[8,9] as' bd' (oid Hp.length 2)],ObjLow (Hp.length+4) x:=by
  intro k x hx
  simp only [C0,Fb,or_false] at hx
  rcases hx with rfl|rfl|rfl|rfl
  ·exact AFf
  ·exact AFf
  ·trivial
  exact o5
 refine ⟨fun _ H'=>Lf (goM e) (fun k=>Hp++[AObj.cells 4 [At false],AObj.cells 3 [A5 (k:Nat)],AObj.defs,AObj.loop LoopState.ready none FR 23 #[8,9] as' bd' (oid Hp.length 2)]) (fun k=>Hp++[AObj.cells 4 [At false],AObj.cells 3 [A5 ((k:Nat)+1)],AObj.defs,AObj.loop LoopState.done (some Code.ret) FR 23 #[8,9] as' bd' (oid Hp.length 2)]) (Bg 1 e).length H',AGj (l:=oid Hp.length 3) (go:=goM e) (U:=fun k=>Hp++[AObj.cells 4 [At false],AObj.cells 3 [A5 (k:Nat)],AObj.defs,AObj.loop LoopState.ready none FR 23 #[8,9] as' bd' (oid Hp.length 2)]) (F:=fun k=>Hp++[AObj.cells 4 [At false],AObj.cells 3 [A5 ((k:Nat)+1)],AObj.defs,AObj.loop LoopState.done (some Code.ret) FR 23 #[8,9] as' bd' (oid Hp.length 2)]) (n0:=Hp.length+4) ⟨fun k=>by simp,fun k=>by simp,fun k x hx=>?_,fun k x hx=>?_,by simp [oid],fun X k it hit hgo=>?_⟩ n hok hn,?_⟩
 ·exact o6
 ·exact Lz (fun x hx=>P4 (by omega) (hlow x hx)) hOf x hx
 ·have hk3:=ALa hit hgo
  generalize hV:(Hp++[AObj.cells 4 [At false],AObj.cells 3 [A5 (k:Nat)],AObj.defs,AObj.loop LoopState.ready none FR 23 #[8,9] as' bd' (oid Hp.length 2)]++X)=V
  have hL:V[oid Hp.length 3]? = some (AObj.loop LoopState.ready none FR 23 #[8,9] as' bd' (oid Hp.length 2)):=by rw [←hV,C1,Bv];rfl
  have hA0:V[oid Hp.length 1]? = some (AObj.cells 3 [A5 (k:Nat)]):=by rw [←hV,C1,Bv];rfl
  have hB0:V[oid Hp.length 0]? = some (AObj.cells 4 [At false]):=by rw [←hV,C1,Bv];rfl
  refine Na (pd:=none) (fr:=FR) (sz:=23) (ps:=#[8,9]) (df:=oid Hp.length 2) (asg:=as') (bd:=bd') hL rfl (by decide) (fun d=>?_)
  subst hFR has hbd
  refine Di [2,3,8,9] ?_;refine Z2 ?_;refine A2 [2,3,4,9] ?_;refine ABm ?_;refine Sp ?_
  refine ⟨rfl,none,hL,?_⟩
  generalize hbz:(AObj.loop LoopState.busy _ _ _ _ _ _ _)=bz
  have hA:(V.set (oid Hp.length 3) bz)[oid Hp.length 1]? = some (AObj.cells 3 [A5 (k:Nat)]):=by rw [F8 (E8 (by decide))];exact hA0
  have hB:(V.set (oid Hp.length 3) bz)[oid Hp.length 0]? = some (AObj.cells 4 [At false]):=by rw [F8 (E8 (by decide))];exact hB0
  refine J6 ?_;refine E9 ?_
  refine A4 (h:=Fi hA) (hr:=?_)
  refine A4 ?_
  refine Hb jS hA ?_ ?_
  ·simp
  refine Sp ?_;refine Z2 ?_;refine A9 Tryz.call78 (c78 it.2 (bx n e hok 1 it (Be hit)) _) ?_;refine Z42 ?_;refine Z0 ?_
  refine Bl (h:=Fi (Ay hA)) (hr:=?_)
  refine Z92 ?_;refine A2 [2,22] ?_
  refine A3 (fun ht22=>?_) (fun ht22=>?_)
  ·have hgf:goM e k=false:=by rw [g9 hit,ht22];rfl
   refine E9 ?_
   refine Hb jS (pc (j:=oid Hp.length 1) hB (E8 (by decide))) ?_ ?_
   ·simp
   refine A2 [] ?_;refine Fg ?_;refine K.blR ?_
   subst hbz
   refine K.rdR (rm hL (E8 (by decide)) (E8 (by decide))) ?_
   refine ⟨hgf.symm,?_⟩
   rw [if_neg (by rw [hgf];simp)]
   subst hV
   simp only [C1,Fu,Ef,Dx,List.set_cons_succ,List.set_cons_zero]
   try rfl
  have hgt:goM e k=true:=by rw [g9 hit,ht22];rfl
  refine ABl ?_
  subst hbz
  refine AG9 ?_
  refine ⟨hgt.symm,?_⟩
  rw [if_pos hgt]
  subst hV
  simp only [C1,Fu,Ef,Dx,List.set_cons_succ,List.set_cons_zero]
  try rfl
 rintro r H' (⟨h1,rfl⟩|⟨j,hj,h1,h2,rfl⟩)
 ·refine ⟨Hp,_,_,_,rfl,rfl,fun h=>h,?_,rfl,by simp,?_⟩
  ·intro o ho
   have:o=oid Hp.length 2:=by simpa using ho
   subst this
   rw [Bv]
   rfl
  refine Z12 ?_;refine E9 ?_;refine Z24 ?_;exact A8 (Ai (L5 jA)) ⟨by rw [show Ar e=true from Bj.2 fun j hj=>h1 j (Po.1 hj)],rfl⟩
 refine ⟨Hp,_,_,_,rfl,rfl,fun h=>h,?_,rfl,by simp,?_⟩
 ·intro o ho
  have:o=oid Hp.length 2:=by simpa using ho
  subst this
  rw [Bv]
  rfl
 refine Z13 ?_;exact A8 (Ai (L5 jA)) ⟨by rw [show Ar e=false from Od.2 ⟨j,Po.2 hj,by rw [h2];simp⟩],rfl⟩

def Bh (s:Str):Expr:=.mk 2 s ⟨0,0,[]⟩ []
theorem jy (s:Str):Le (.agg [A5 2,Ac s,A5 0,A5 0,Ac [],.nil]) (Ab (Bh s)):=by
 rw [Af]
 refine .agg _ _ rfl (by simp [AV.one,Value.oneCell',sv]) fun i y y' h1 h2=>?_
 match i with
 | 0=>simp at h1 h2;subst h1;subst h2;exact .inl rfl
 | 1=>simp at h1 h2;subst h1;subst h2;exact .inl rfl
 | 2=>simp at h1 h2;subst h1;subst h2;exact .inl rfl
 | 3=>simp at h1 h2;subst h1;subst h2;exact .inl rfl
 | 4=>simp at h1 h2;subst h1;subst h2;exact .inl rfl
 | 5=>simp at h1 h2;subst h1;subst h2;exact .inr ⟨rfl,6,rfl⟩
 | i+6=>simp at h1
theorem jz (s:Str) (h:s.length≤1048576):okE 1 (Bh s):=⟨h,by simp [Bh,Expr.kids],fun y hy=>by cases hy⟩
def Uo (c:List Col) (x:Nat) (y:Col):Bool := !(((!Ar (Bh y.name)) || (Er y.kind==[])) || (C6 y.name c != (x:Int)))
def Sx (c:List Col):Bool:=c.zipIdx.all fun x=>Uo c x.2 x.1
theorem colsP_true {c:List Col}:Sx c=true↔∀(j:Nat) (y:Col),c[j]? = some y→Uo c j y=true:=Rg
theorem c36 (c:List Col) (hc:OkCols c) (Hp:List AObj):AFun Tryz.prog 36 [B0 c] Hp (At (Sx c)):=by
 refine Aj [.tmp 2] [0] Tryz.func36 Tryz.ntmps36 (fun d=>?_)
 refine Z56 ?_;refine Z31 ?_;refine A2 [0,5,6,7] ?_
 refine B9 (α:=Nat) (fun x=>⟨32,Aa 0 (B0 c) (Aa 5 (B0 c) (Aa 6 (A5 c.length) (Aa 7 (A5 (x:Nat)) (fun _=>.any)))),Hp,[],[],none⟩) (fun x=>x≤c.length∧∀(j:Nat) (y:Col),j<x→c[j]? = some y→Uo c j y=true) (fun x=>c.length-x) (0) (by simp) (Az (by simp)) rfl (fun x hx=>?_)
 refine Z2 ?_;refine A2 [0,5,6,7,8] ?_
 refine Ev (fun ht8=>?_) (fun ht8=>?_)
 ·have hlt:x<c.length:=by simpa using ht8
  have hcl:=hc.len
  refine U8 ?_
  refine A4 (h:=Ad (x) (D8 c[x]) (fun _=>B3 hlt)) (hr:=?_)
  refine w5 ?_;refine A2 [0,3,4,5,6,7] ?_;refine Z1 ?_;refine Wh ?_;refine D7 14 _ (jy c[x].name) ?_;refine A9 Tryz.call38 (c38 1 (Bh c[x].name) (jz _ (hc.names _ (Bb hlt))) (by decide) _) ?_;refine Z42 ?_;refine Bk Tryz.call76 (fun hB=>c76 c[x].kind _) ?_;refine U7 ?_;refine Z27 ?_;refine Bk Tryz.call58 (fun hB=>c58 c hc c[x].name _) ?_;refine Nj ?_;refine A2 [0,5,6,7,30] ?_
  refine A3 (fun ht30=>?_) (fun ht30=>?_)
  ·refine w9 ?_
   exact A8 (Ai A7) ⟨by rw [show Sx c=false from D6.2 fun h=>by have:=colsP_true.1 h x c[x] (Ae hlt);unfold Uo at this;rw [ht30] at this;cases this],rfl⟩
  refine Ni ?_;refine A2 [0,5,6,7] ?_
  refine B2 (x+1) ⟨hlt,Ig hlt hx.2 (by unfold Uo;rw [ht30];rfl)⟩ (by omega) ?_
  exact Dz (own:=[]) (fun _=>.refl _) (by repeat (first|exact By|refine Bx (by simp) ?_)) (by simp) (by simp)
 refine Z30 ?_;refine Z26 ?_;exact A8 (Ai A7) ⟨by rw [colsP_true.2 (Kw (by simp at ht8;omega) hx.2)],rfl⟩

def Np (c:List Col):Bool:=decide ((c.length:Int)≤12)&&Sx c
theorem c57 (c:List Col) (hc:OkCols c) (Hp:List AObj):AFun Tryz.prog 57 [B0 c] Hp (At (Np c)):=by
 refine Aj [.tmp 2] [0] Tryz.func57 Tryz.ntmps57 (fun d=>?_)
 refine Z56 ?_;refine fg ?_;refine Bk Tryz.call36 (fun hB=>c36 c hc _) ?_;refine Z55 ?_;exact A8 (Ai A7) ⟨by unfold Np;simp,rfl⟩

theorem ga (s:Str) (h:s≠[]):Lib.contains [] s=false:=by
 cases s with
 | nil=>exact absurd rfl h
 | cons a r=>rfl
theorem contains_cons (b:UInt8) (l s:Str):Lib.contains (b::l) s=(s.isPrefixOf (b::l) || Lib.contains l s):=by
 unfold Lib.contains
 have hge:=Lib.index_ge l s
 rw [Lib.index]
 by_cases hp:s.isPrefixOf (b::l)=true
 ·rw [if_pos hp,hp];rfl
 rw [if_neg hp]
 have hp':s.isPrefixOf (b::l)=false:=D6.2 hp
 rw [hp',Cj]
 by_cases hi:Lib.index l s = -1
 ·rw [hi];rfl
 have:(Lib.index l s == -1)=false:=by simpa using hi
 rw [this,if_neg (by simp)]
 rw [decide_eq_decide]
 omega
/-- Words between blanks. -/
def P5:List Str→Str
 | []=>[32]
 | w::r=>32::(w++P5 r)
theorem c7 (sub:Str):∀(w R:Str),(32:UInt8)∉w→Lib.contains (w++R) (32::sub)=Lib.contains R (32::sub)
 | [],R,_=>rfl
 | b::w,R,h=>by
  have hb:b≠32:=fun e=>h (by simp [e])
  rw [Ef,contains_cons,c7 sub w R (fun hm=>h (by simp [hm]))]
  have:(32::sub).isPrefixOf (b::(w++R))=false:=by
   simp [List.isPrefixOf,Ne.symm hb]
  rw [this,Cj]
theorem Vo:∀(s w:Str) (R:Str),(32:UInt8)∉s→(32:UInt8)∉w→(s++[32]).isPrefixOf (w++32::R)=(s==w)
 | [],[],R,_,_=>by simp [List.isPrefixOf]
 | [],b::w,R,_,hw=>by
  have hb:(32:UInt8)≠b:=fun e=>hw (by simp [e])
  simp [List.isPrefixOf,hb]
 | a::s,[],R,hs,_=>by
  have hb:a≠(32:UInt8):=fun e=>hs (by simp [e])
  simp [List.isPrefixOf,hb]
 | a::s,b::w,R,hs,hw=>by
  have ih:=Vo s w R (fun h=>hs (by simp [h])) (fun h=>hw (by simp [h]))
  rw [Ef,Ef,List.isPrefixOf,ih]
  rfl
theorem k7:∀ws,∃R,P5 ws=32::R
 | []=>⟨[],rfl⟩
 | w::r=>⟨_,rfl⟩
theorem Lg (s:Str) (hs:(32:UInt8)∉s):∀(ws:List Str),(∀w∈ws,(32:UInt8)∉w)→Lib.contains (P5 ws) ([32]++s++[32])=ws.any (·==s)
 | [],_=>by
  rw [P5,contains_cons,ga _ (by simp),Jc]
  cases s<;>simp [List.isPrefixOf]
 | w::r,h=>by
  have hw:=h w (by simp)
  obtain ⟨R,hR⟩:=k7 r
  have ih:=Lg s hs r (fun x hx=>h x (by simp [hx]))
  have e1:([32]++s++[32]:Str)=32::(s++[32]):=rfl
  rw [P5,contains_cons,e1,c7 _ w _ hw,←e1,ih,List.any_cons]
  congr 1
  rw [e1,hR]
  have:=Vo s w R hs hw
  rw [List.isPrefixOf,this]
  simp only [beq_self_eq_true,Dc]
  by_cases hsw:s=w
  ·subst hsw;rfl
  rw [beq_eq_false_iff_ne.2 hsw,beq_eq_false_iff_ne.2 (Ne.symm hsw)]
theorem b7:Nn=P5 words:=by kernel_rfl
theorem k8:∀w∈words,(32:UInt8)∉w:=by decide
theorem k9 (s:Str):Lib.contains s [32]=s.contains 32:=by
 induction s with
 | nil=>rfl
 | cons b l ih =>
  rw [contains_cons,ih,List.contains_cons]
  congr 1
  simp [List.isPrefixOf]
theorem Ye (s:Str) (h1:s≠[]) (h2:(32:UInt8)∉s):Hq s=Ji s:=by
 unfold Hq
 rw [k9,b7,Lg s h2 words k8]
 have e1:(s==[])=false:=by simpa using h1
 have e2:s.contains 32=false:=by simpa using h2
 rw [e1,e2]
 rfl
set_option maxRecDepth 8000
theorem ACd {p:UInt8→Bool} (h:((List.range 256).all fun n=>p (UInt8.ofNat n))=true) (c:UInt8):p c=true:=by
 have:=Bj.1 h c.toNat (Po.2 c.toNat_lt)
 simpa using this
theorem pg (c:UInt8):tails.contains c=Mq c:=by
 have:=ACd (p:=fun c=>tails.contains c==Mq c) (by kernel_rfl) c
 simpa using this
theorem gb (c:UInt8):letters.contains c=I9 c:=by
 have:=ACd (p:=fun c=>letters.contains c==I9 c) (by kernel_rfl) c
 simpa using this
theorem ph:Mq 32=false:=by kernel_rfl
theorem rx (s of:Str):(Sr s of==(s.length:Int))=s.all (of.contains ·):=by
 unfold Sr Lib.trimLeftS
 induction s with
 | nil=>rfl
 | cons c r ih =>
  rw [Tt,List.all_cons]
  cases hc:of.contains c with
  | true =>
   simp only [if_true,Dc]
   rw [←ih,K9]
   have:=(mw (fun x=>of.contains x) (l:=r)).length_le
   simp only [beq_iff_eq,B6]
   omega
  | false =>
   simp only [An,if_false,Es]
   rw [beq_eq_false_iff_ne]
   simp only [B6]
   omega
theorem Ea (s:Str):Cg s=Hg s:=by
 cases s with
 | nil=>rfl
 | cons c r =>
  unfold Cg
  rw [rx]
  have e1:((c::r).all fun x=>tails.contains x)=(c::r).all Mq:=by
   congr 1
   funext x
   exact pg x
  have e2:(Sr ((c::r).take 1) letters==1)=I9 c:=by
   have:=rx [c] letters
   rw [←gb c]
   simpa using this
  rw [e1,e2]
  have e3:((c::r:Str)==[])=false:=rfl
  have e4:decide (((c::r).length:Int)≤16)=decide ((c::r).length≤16):=by
   rw [decide_eq_decide];omega
  rw [e3,e4]
  show _=(decide ((c::r).length≤16)&&I9 c && !Ji (c::r)&&(c::r).all Mq)
  cases ha:(c::r).all Mq with
  | false=>simp
  | true =>
   have hb:(32:UInt8)∉(c::r):=fun hm=>by
    have:=Bj.1 ha 32 hm
    rw [ph] at this
    cases this
   rw [Ye _ (by simp) hb]
   simp
theorem Nq (s:Str):Ar (Bh s)=Hg s:=by
 have e:Bg 1 (Bh s)=[(1,Bh s)]:=by rw [Jl];rfl
 unfold Ar
 rw [e]
 show ((List.range 1).all (goM (Bh s)))=_
 have g:goM (Bh s) 0=Ch (Bh s):=by
  unfold goM
  rw [e]
  simp
 simp only [List.range_succ,List.range_zero,Dx,List.all_cons,List.all_nil,R0]
 rw [g,←Ea]
 simp [Ch,Bh,Expr.op,Expr.val,Expr.text,Expr.kids,Mt]
theorem gc (k:Int):(Er k==[])=(decide (k<1) || decide ((3:Int)<k)):=by
 unfold Er
 by_cases h:k<1∨3<k
 ·rw [if_pos h]
  have:(decide (k<1) || decide ((3:Int)<k))=true:=by simpa using h
  rw [this];rfl
 rw [if_neg h]
 have:(decide (k<1) || decide ((3:Int)<k))=false:=by simp;omega
 rw [this]
 have hk:k=1∨k=2∨k=3:=by omega
 rcases hk with rfl|rfl|rfl<;>rfl
theorem Nr (c:List Col):Sx c=J8 c:=by
 unfold Sx J8
 congr 1
 funext x
 unfold Uo Vk
 rw [Nq,gc,←Bool.or_assoc (!Hg x.1.name)]
theorem Hh (c:List Col):Np c=Ew c:=by unfold Np Ew;rw [Nr]
set_option maxRecDepth 4000
def B1 (l:List Tok) (i:Nat):Tok:=l.getD i ⟨0,[],0⟩
theorem Up {l:List Tok} {i:Nat} (h:i<l.length):(l.map Ls)[i]? = some (Ls (B1 l i)):=by
 rw [Cp,Ae h]
 unfold B1
 rw [Cz,Ae h]
 rfl
end Go.SX.Nb
