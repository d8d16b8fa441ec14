/- On the way (part 5). -/
import Derived.Test.YtekiioamifokoaaGreatDoorRewriteForthCardSaidPart4
set_option linter.all false
namespace Go.SX.Nb
open Go Go.SX Go.Proofs
variable [ErrAt]
set_option maxRecDepth 4000
def wAt (s:Str) (k:Nat):Int×Str×Int×Int:=Cn (s.drop k)
theorem P6 {f k:Nat} {s:Str} (h:s≠[]):Je (f+1) k s=(⟨(Cn s).1,(Cn s).2.1,k⟩,(Cn s).2.2.2)::(if (Cn s).2.2.2==0 then Je f (k+(Cn s).2.2.1.toNat+gapM (s.drop (Cn s).2.2.1.toNat)) ((s.drop (Cn s).2.2.1.toNat).drop (gapM (s.drop (Cn s).2.2.1.toNat))) else []):=by
 rw [Je,if_neg (by simpa using h)]
/-- Where the reader is, with k words behind it. -/
def Va (s:Str) (k p:Nat):Prop:=(∃f,(s.drop p).length<f∧(Cl s).drop k=Je f p (s.drop p))∧p≤s.length∧∀j,j<k→∃it,(Cl s)[j]? = some it∧it.2=0
theorem od (s:Str):Va s 0 (gapM s):=⟨⟨s.length+1,by rw [Gv];omega,by rw [dk];rfl⟩,o9 s,fun j hj=>by omega⟩
theorem w8 {s:Str} {k p:Nat} (h:Va s k p):k≤(Cl s).length:=by
 refine Hg fun hn=>?_
 obtain ⟨it,hit,_⟩:=h.2.2 (Cl s).length (by omega)
 rw [Gp (Aj _)] at hit
 cases hit
theorem w9 {s:Str} {k p:Nat} (h:Va s k p) (hp:s.length≤p):k=(Cl s).length∧∀it∈Cl s,it.2=0:=by
 have hl:=w8 h
 obtain ⟨⟨f,_,hd⟩,_,h0⟩:=h
 have e:s.drop p=[]:=by rw [mv];exact hp
 rw [e] at hd
 have:(Cl s).drop k=[]:=by rw [hd];cases f<;>rfl
 rw [mv] at this
 have hk:k=(Cl s).length:=by omega
 refine ⟨hk,fun it hit=>?_⟩
 obtain ⟨j,hj,rfl⟩:=List.mem_iff_getElem.1 hit
 obtain ⟨it',h1,h2⟩:=h0 j (by omega)
 rw [Ab hj] at h1
 injection h1 with h1
 rw [h1];exact h2
theorem Xl {s:Str} {k p:Nat} (h:Va s k p) (hp:p<s.length):∃f,(s.drop p).length<f+1∧(Cl s).drop k=Je (f+1) p (s.drop p)∧s.drop p≠[]:=by
 obtain ⟨⟨f,hf,hd⟩,_,_⟩:=h
 obtain ⟨g,rfl⟩:∃g,f=g+1:=⟨f-1,by omega⟩
 exact ⟨g,hf,hd,fun e=>by rw [mv] at e;omega⟩
theorem Rh {s:Str} {k p:Nat} (h:Va s k p) (hp:p<s.length):(Cl s)[k]? = some (⟨(wAt s p).1,(wAt s p).2.1,p⟩,(wAt s p).2.2.2):=by
 obtain ⟨f,_,hd,hne⟩:=Xl h hp
 rw [P6 hne] at hd
 have:=congrArg (·[0]?) hd
 unfold wAt
 simpa using this
theorem oe {s:Str} {k p:Nat} (h:Va s k p) (hp:p<s.length) (he:(wAt s p).2.2.2=0):∃n:Nat,(wAt s p).2.2.1=(n:Int)∧1≤n∧p+n≤s.length∧Va s (k+1) (p+n+gapM (s.drop (p+n))):=by
 have hi:=Rh h hp
 obtain ⟨f,hf,hd,hne⟩:=Xl h hp
 obtain ⟨n,hn,h1,h2⟩:=rq (s:=s.drop p) (by rw [Gv];omega) he
 rw [Gv] at h2 hf
 have hg:=o9 (s.drop (p+n))
 rw [Gv] at hg
 refine ⟨n,hn,h1,by omega,⟨f,by rw [Gv];omega,?_⟩,by omega,fun j hj=>?_⟩
 ·rw [P6 hne] at hd
  have:=congrArg (·.drop 1) hd
  simp only [di,mx,dk] at this
  unfold wAt at he
  rw [this,hn,he]
  simp only [beq_self_eq_true,if_true,Int.toNat_natCast,di]
 rcases Bp j k with h'|h'
 ·exact h.2.2 j h'
 have:j=k:=by omega
 subst this
 exact ⟨_,hi,he⟩
theorem AP1 (l:Nat) (s:Str) (hs:s.length≤1048576) (U F:Nat→List AObj) (hlen:∀k,(U k).length=(U 0).length) (hll:l<(U 0).length)
  (hy:∀k it,(Cl s)[k]? = some it→AYield Tryz.prog l [Id it.1,A3 it.2] (U k) (fun b H'=>if it.2=0 then b=true∧H'=U (k+1) else b=false∧H'=F k)):ACall Tryz.prog 148 [.yield l,.ro [Ac s]] (U 0) (fun r H'=>((∀it∈Cl s,it.2=0)∧H'=U (Cl s).length)∨∃k it,(Cl s)[k]? = some it∧it.2≠0∧(∀j,j<k→∃it',(Cl s)[j]? = some it'∧it'.2=0)∧H'=F k):=by
 refine Ae [] [0,1] Tryz.func148 Tryz.ntmps148 (fun d=>?_)
 refine Z2 ?_;refine A9 Tryz.call149 (AMv s hs _) ?_;refine A5 ?_;refine A2 [0,1,3] ?_
 refine Bg (α:=Nat×Nat) (fun x=>⟨44,A6 0 (.yield l) (A6 1 (.ro [Ac s]) (A6 3 (A3 (x.2:Nat)) (fun _=>.any))),U x.1,[],[],none⟩) (fun x=>Va s x.1 x.2) (fun x=>s.length-x.2) (0,gapM s) (od s) (M8 _) rfl (fun x hx=>?_)
 obtain ⟨k,p⟩:=x
 simp only at hx ⊢
 refine Z88 ?_;refine A2 [0,1,3,13] ?_
 refine A4 (fun ht13=>?_) (fun ht13=>?_)
 ·have hpl:p<s.length:=by simpa using ht13
  refine Tx ?_;refine Z1 ?_
  refine A5 (h:=Q.scutL p (fun _=>hx.2.1) (fun _=>Aj _)) (hr:=?_)
  refine A9 Tryz.call150 (AOz (s.drop p) (by rw [Gv];omega) (by rw [Gv];omega) _) ?_
  refine Z58 ?_;refine Z75 ?_;refine A2 [0,1,3,4,5,6,7] ?_;refine Z88 ?_;refine vn ?_;refine A5 ?_;refine R.yield0 (hy k _ (Rh hx hpl)) ?_
  intro b V hV hb
  refine Z36 ?_;refine A5 ?_;refine A2 [0,1,3,6,40] ?_
  refine A4 (fun ht40=>?_) (fun ht40=>?_)
  ·have hbe:(Cn (s.drop p)).2.2.2≠0∧V=F k:=by
    split at hb
    ·rename_i h0
     obtain ⟨rfl,_⟩:=hb
     have h0':(Cn (s.drop p)).2.2.2=0:=h0
     simp [h0'] at ht40
    rename_i h0
    exact ⟨h0,hb.2⟩
   refine Z34 ?_;refine Z26 ?_;exact Aa .nores (hp:=.inr ⟨k,_,Rh hx hpl,hbe.1,hx.2.2,hbe.2⟩)
  have hbe:(Cn (s.drop p)).2.2.2=0∧V=U (k+1):=by
   split at hb
   ·rename_i h0
    exact ⟨h0,hb.2⟩
   obtain ⟨rfl,_⟩:=hb
   simp at ht40
  obtain ⟨n,hn,hn1,hnl,hnx⟩:=oe hx hpl hbe.1
  unfold wAt at hn
  rw [hn]
  have hgl:=o9 (s.drop (p+n))
  rw [Gv] at hgl
  refine Z3 ?_;refine Z22 ?_;refine Z0 ?_;refine A2 [0,1,3] ?_;refine Z11 ?_;refine Z47 ?_
  refine A5 (h:=Q.scutL (p+n) (fun _=>hnl) (fun _=>Aj _)) (hr:=?_)
  refine A9 Tryz.call149 (AMv (s.drop (p+n)) (by rw [Gv];omega) _) ?_
  refine Z0 ?_;refine A2 [0,1,3] ?_;exact Bm (k+1,p+n+gapM (s.drop (p+n))) hnx (by show s.length-_<s.length-p;omega) (Ds (by rw [hbe.2];simp))
 have hpl:s.length≤p:=by simpa using ht13
 obtain ⟨hk,hz⟩:=w9 hx hpl
 refine Z59 ?_;refine K.lpE ?_;exact F3 .nores (hp:=.inl ⟨hz,by rw [hk]⟩)

theorem AP2 (s:Str) (Hp:List AObj):AFun Tryz.prog 113 [Ac s] Hp (.fn (.func 148) [] [.ro [Ac s]]):=by
 refine Ae [.tmp 2] [0] Tryz.func113 Tryz.ntmps113 (fun d=>?_)
 refine Z97 ?_;refine vi ?_;exact AEa

def Bi (s:Str):List Tok×Int×Nat:=if 4000<s.length then ([],3,0) else
 match (Cl s).find? (fun it=>it.2 != 0) with
 | some it=>([],it.2,it.1.at_)
 | none=>((Cl s).map (·.1)++[⟨0,[],s.length⟩],0,0)
theorem AEv {s:Str} {k:Nat} {it:Tok×Int} (hit:(Cl s)[k]? = some it) (he:it.2≠0) (h0:∀j,j<k→∃it',(Cl s)[j]? = some it'∧it'.2=0):(Cl s).find? (fun it=>it.2 != 0)=some it:=by
 rw [z3]
 obtain ⟨hk,e⟩:=Ad.1 hit
 refine ⟨by simpa using he,k,hk,e,fun j hj=>?_⟩
 obtain ⟨it',h1,h2⟩:=h0 j hj
 rw [Ab (by omega)] at h1
 injection h1 with h1
 rw [h1,h2];rfl
theorem AB3 {s:Str} (h:∀it∈Cl s,it.2=0):(Cl s).find? (fun it=>it.2 != 0)=none:=by
 rw [M5]
 intro it hit
 simp [h it hit]
def ba (s:Str) (k:Nat):Int×Nat:=match (Cl s)[k]? with|some it=>(it.2,it.1.at_)|none=>(0,0)
theorem Xm:∀(f k:Nat) (s:Str),(Je f k s).length≤f
 | 0,_,_=>Aq _
 | f+1,k,s=>by
  rw [Je]
  split
  ·exact Aq _
  rw [B2]
  split
  ·have:=Xm f (k+(Cn s).2.2.1.toNat+gapM (s.drop (Cn s).2.2.1.toNat)) ((s.drop (Cn s).2.2.1.toNat).drop (gapM (s.drop (Cn s).2.2.1.toNat)))
   omega
  simp
theorem Xn (s:Str):(Cl s).length≤s.length+1:=Xm _ _ _
def Mo (s:Str) (k:Nat):List Tok:=((Cl s).take k).map (·.1)
theorem U7 (s:Str) (k:Nat):(Mo s k).length≤s.length+1:=by
 have:=Xn s
 unfold Mo
 rw [An,C0]
 omega
theorem og {s:Str} {k:Nat} {it:Tok×Int} (hit:(Cl s)[k]? = some it):Mo s (k+1)=Mo s k++[it.1]:=by
 unfold Mo
 rw [N3,hit,Bj]
 rfl
theorem wc (s:Str):Mo s (Cl s).length=(Cl s).map (·.1):=by unfold Mo;rw [Lt]
theorem wd {s:Str} {k:Nat} {it:Tok×Int} (hl4:¬4000<s.length) (hit:(Cl s)[k]? = some it) (he:it.2≠0) (h0:∀j,j<k→∃it',(Cl s)[j]? = some it'∧it'.2=0):Bi s=([],it.2,it.1.at_):=by
 unfold Bi
 rw [if_neg hl4,AEv hit he h0]
theorem AB4 {s:Str} (hl4:¬4000<s.length) (hz:∀it∈Cl s,it.2=0):Bi s=(Mo s (Cl s).length++[⟨0,[],s.length⟩],0,0):=by
 unfold Bi
 rw [if_neg hl4,AB3 hz,wc]
theorem c66 (s:Str) (hs:s.length≤1048576) (Hp:List AObj):AFun Tryz.prog 66 [Ac s] Hp (.tup [rn (Bi s).1,.agg [A3 (Bi s).2.1,A3 (Bi s).2.2]]):=by
 refine Ae [.cell 2 104,.cell 3 73] [0,5,6] Tryz.func66 Tryz.ntmps66 (fun d=>?_)
 refine Z24 ?_;refine P1 ?_;refine A2 [0,2,3,5,6] ?_;refine Z30 ?_;refine A2 [0,2,3,5,6,9] ?_
 refine A4 (fun ht9=>?_) (fun ht9=>?_)
 ·have hlm:Bi s=([],3,0):=by unfold Bi;rw [if_pos (by simp at ht9;omega)]
  refine Ez ?_;refine Z21 ?_;refine Mb 0 3 ?_;refine zv ?_;refine Z34 ?_;exact Aa (B5 (Fp jA) (B4 jA jS)) ⟨by rw [hlm];rfl,rfl⟩
 have hl4:¬4000<s.length:=by simp at ht9;omega
 refine Z3 ?_;refine Z24 ?_;refine A2 [0,2,3,4,5,6] ?_;refine Z62 ?_;refine Mb 2 3 ?_;refine A5 ?_;refine A9 Tryz.call113 (AP2 s _) ?_;refine A2 [0,2,3,4,5,6,12] ?_;refine Lo ?_
 refine Nh (m:=3) Tryz.call148 (fun FR as' bd' hFR has hbd=>?_)
 refine ⟨_,AP1 (oid Hp.length 4) s hs (fun k=>Hp++[AObj.cells 104 [AV.nil],AObj.cells 73 [A3 0,A3 0],AObj.cells 104 [AV.slice true 3 ((Mo s k).map Id)],AObj.defs,AObj.loop LoopState.ready none FR 32 #[13,14] as' bd' (oid Hp.length 3)]) (fun k=>Hp++[AObj.cells 104 [AV.nil],AObj.cells 73 [A3 (ba s k).1,A3 (ba s k).2],AObj.cells 104 [AV.slice true 3 ((Mo s k).map Id)],AObj.defs,AObj.loop LoopState.done (some Code.ret) FR 32 #[13,14] as' bd' (oid Hp.length 3)]) (fun k=>by simp) (by simp [oid]) (fun k it hit=>?_),?_⟩
 ·generalize hV:Hp++[AObj.cells 104 [AV.nil],AObj.cells 73 [A3 0,A3 0],AObj.cells 104 [AV.slice true 3 ((Mo s k).map Id)],AObj.defs,AObj.loop LoopState.ready none FR 32 #[13,14] as' bd' (oid Hp.length 3)]=V
  have hL:V[oid Hp.length 4]? = some (AObj.loop LoopState.ready none FR 32 #[13,14] as' bd' (oid Hp.length 3)):=by rw [←hV,Ax];rfl
  have hA0:V[oid Hp.length 2]? = some (AObj.cells 104 [AV.slice true 3 ((Mo s k).map Id)]):=by rw [←hV,Ax];rfl
  have hB0:V[oid Hp.length 0]? = some (AObj.cells 104 [AV.nil]):=by rw [←hV,Ax];rfl
  have hC0:V[oid Hp.length 1]? = some (AObj.cells 73 [A3 0,A3 0]):=by rw [←hV,Ax];rfl
  refine L8 (pd:=none) (fr:=FR) (sz:=32) (ps:=#[13,14]) (df:=oid Hp.length 3) (asg:=as') (bd:=bd') hL rfl (by decide) (fun d=>?_)
  subst hFR has hbd
  refine G9 [2,3,4,13,14] ?_;refine fh ?_;refine A2 [2,3,4,5,14] ?_;refine Z52 ?_;refine A2 [2,3,4,5,6] ?_
  refine ⟨rfl,none,hL,?_⟩
  generalize hbz:(AObj.loop LoopState.busy _ _ _ _ _ _ _)=bz
  have hA:(V.set (oid Hp.length 4) bz)[oid Hp.length 2]? = some (AObj.cells 104 [AV.slice true 3 ((Mo s k).map Id)]):=by rw [Bx (Cb (by decide))];exact hA0
  have hB:(V.set (oid Hp.length 4) bz)[oid Hp.length 0]? = some (AObj.cells 104 [AV.nil]):=by rw [Bx (Cb (by decide))];exact hB0
  have hC:(V.set (oid Hp.length 4) bz)[oid Hp.length 1]? = some (AObj.cells 73 [A3 0,A3 0]):=by rw [Bx (Cb (by decide))];exact hC0
  refine vh ?_;refine A2 [2,3,4,5,6,16] ?_
  refine A4 (fun ht16=>?_) (fun ht16=>?_)
  ·have hne:it.2≠0:=by simpa using ht16
   refine Fj [0,0,2,7,0,31] [4] [.q 4 [] [],.s [] (some 0) [] []] (fun _=>V.set (oid Hp.length 4) bz) (fun _=>[AObj.cells 118 [A3 it.1.kind,Ac it.1.text,A3 it.1.at_]]) Ak (by kernel_rfl) rfl rfl (fun _=>rfl) ?_
   apply Y.q
   ·intro B hT hF
    refine Z33 ?_;exact AKy
   case hTF=>decide
   refine Y.storeUp (o:=oid Hp.length 0) (ys:=[.nil]) (t':=104) (cs:=[AV.nil]) (cs':=[AV.nil]) jS (fun _ _=>⟨hB,(Ce hB).symm,rfl,by simp⟩) ?_;refine Er (tn:=[4]) (U:=V.set (oid Hp.length 4) bz) ?_
   refine Dp jS hC ?_ ?_
   ·simp
   refine j7 ?_;refine K.blR ?_
   subst hbz
   refine K.rdR (iw hL (Cb (by decide))) ?_
   rw [if_neg hne]
   refine ⟨rfl,?_⟩
   subst hV
   simp only [Dm,List.set_cons_succ,List.set_cons_zero]
   rw [show ba s k=(it.2,it.1.at_) by unfold ba;rw [hit]]
  have heq:it.2=0:=by simpa using ht16
  refine Z3 ?_;refine Hj ?_
  have hl3:=U7 s k
  refine AEg ?_
  refine Ek jU Tryz.type118 ?_ ?_ ?_
  ·simp [hl3,Tryz.t118];omega
  ·simp [hl3,Tryz.t118];omega
  refine G8 jS (getset hA) ?_ ?_
  ·simp [or_imp,forall_and]
  refine Vz ?_
  subst hbz
  refine AAc ?_
  rw [if_pos heq]
  refine ⟨rfl,?_⟩
  subst hV
  simp only [Dm,List.set_cons_succ,List.set_cons_zero]
  rw [og hit,Bj]
  rfl
 rintro r H' (⟨hz,rfl⟩|⟨k,it,hit,hne,h0,rfl⟩)
 ·refine ⟨Hp,_,_,_,rfl,rfl,fun h=>h,?_,rfl,by simp,?_⟩
  ·intro o ho
   have:o=oid Hp.length 3:=by simpa using ho
   subst this
   rw [Ax]
   rfl
  refine Z11 ?_;refine Ez ?_;refine X2 jA ?_;refine Z0 ?_;refine vn ?_;refine Sd ?_
  refine Ek jU Tryz.type118 ?_ ?_ ?_
  ·have:=U7 s (Cl s).length;simp [Tryz.t118];omega
  ·have:=U7 s (Cl s).length;simp [Tryz.t118];omega
  refine jk ?_;refine X3 jS ?_;refine Gs ?_;refine Z60 ?_;exact Aa (B5 (Fp jA) (B4 jA jS)) ⟨by rw [AB4 hl4 hz,rn,Bj];rfl,rfl⟩ (hlow:=by simp [or_imp,forall_and])
 refine ⟨Hp,_,_,_,rfl,rfl,fun h=>h,?_,rfl,by simp,?_⟩
 ·intro o ho
  have:o=oid Hp.length 3:=by simpa using ho
  subst this
  rw [Ax]
  rfl
 refine W.nilOwn 0 3 ?_;refine jb ?_;exact Aa (B5 (Fp jA) (B4 jA jS)) ⟨by rw [wd hl4 hit hne h0,show ba s k=(it.2,it.1.at_) by unfold ba;rw [hit]];rfl,rfl⟩

inductive Expr where
 | mk (op:Int) (text:Str) (val:Val) (kids:List Expr)
def Expr.op:Expr→Int|.mk o _ _ _=>o
def Expr.text:Expr→Str|.mk _ t _ _=>t
def Expr.val:Expr→Val|.mk _ _ v _=>v
def Expr.kids:Expr→List Expr|.mk _ _ _ k=>k
mutual
def A8:Expr→AV
 | .mk o t v k=>.agg [.v (.int .i64 o),.v (sv t),.v (.int .i64 v.kind),.v (.int .i64 v.n),.v (sv v.s),.slice false 6 (U8 k)]
def U8:List Expr→List AV
  | []=>[]
  | e::r=>A8 e::U8 r
 end
theorem Xo:∀l,U8 l=l.map A8
 | []=>rfl
 | e::r=>by rw [U8,Xo r];rfl
theorem Al (e:Expr):A8 e=.agg [.v (.int .i64 e.op),.v (sv e.text),.v (.int .i64 e.val.kind),.v (.int .i64 e.val.n),.v (sv e.val.s),.slice false 6 (e.kids.map A8)]:=by
 cases e with
 | mk o t v k=>rw [A8,Xo];rfl
attribute [go_sem] Al
def Q6:Str:=[32,111,114,32,32,97,110,100,32,32,61,32,33,61,32,60,32,60,61,32,62,32,62,61,32,32,43,32,45,32,38,32,32,42,32,47,32,37,32]
def O8 (v:Val):Bool:=v.kind==0&&v.n==0&&v.s==[]
def Es (e:Expr):Bool:=
 if e.op==1 then ((Ec e.val&&decide (0≤e.val.n))&&(e.text==[]))&&((e.kids.length:Int)==0)
 else if e.op==2 then (O8 e.val&&Dy e.text)&&((e.kids.length:Int)==0)
 else if e.op==3 || e.op==4 then (O8 e.val&&(e.text==[]))&&((e.kids.length:Int)==1)
 else if e.op==5 then (O8 e.val&&Q5 e.text Q6)&&((e.kids.length:Int)==2)
 else if e.op==6 then O8 e.val&&(Cf e.text==(e.kids.length:Int))
 else false
theorem AP3 (e:Expr) (hs:e.text.length≤1048576) (Hp:List AObj):AFun Tryz.prog 140 [A8 e] Hp (B0 (Es e)):=by
 refine ACall.body [.tmp 2] [0] Tryz.func140 Tryz.ntmps140 (fun d=>?_)
 refine Z97 ?_;refine Z1 ?_;refine vn ?_
 refine R.go (h:=Q.eqlAgg g0 (Ko e.val.kind e.val.n 0 0 e.val.s [])) (hr:=?_)
 refine R.go ?_;refine R.fin [1,3] ?_;refine Z7 ?_;refine R.fin [1,3,9] ?_;refine W0 ?_;refine R.fin [1,3,9,10] ?_
 refine W.cond (fun ht10=>?_) (fun ht10=>?_)
 ·refine Z1 ?_;refine R.call Tryz.call93 (c93 e.val _) ?_;refine R.go ?_;refine Qi ?_;refine fj ?_;exact zw
 refine Z1 ?_;refine R.fin [1,3,9,32] ?_
 refine W.cond (fun ht32=>?_) (fun ht32=>?_)
 ·refine Z1 ?_;refine Z6 ?_;refine G.call Tryz.call105 (fun hB=>AAr e.text hs _) ?_;exact zw
 refine Z7 ?_;refine R.fin [1,3,9,46] ?_
 refine W.cond (fun ht46=>?_) (fun ht46=>?_)
 ·refine Z3 ?_
  refine W.cond (fun ht46=>?_) (fun ht46=>?_)
  ·refine Z1 ?_;refine Z73 ?_;exact zw
  refine Z1 ?_;refine R.fin [1,3,9,61] ?_
  refine W.cond (fun ht61=>?_) (fun ht61=>?_)
  ·refine Z1 ?_;refine Z6 ?_;exact AKz
  refine Z1 ?_;refine R.fin [1,3,75] ?_
  refine W.cond (fun ht75=>?_) (fun ht75=>?_)
  ·refine ALj ?_;refine Z86 ?_;refine H.call Tryz.call176 (fun hB=>AIq e.text _) ?_;refine Z86 ?_;refine H.go ?_;refine D.tail ?_;refine G.go ?_;exact AI7
  refine Z20 ?_;exact AL2
 refine Z22 ?_;refine R.fin [1,3,9,46] ?_;refine K.thN ?_
 refine W.cond (fun ht46=>?_) (fun ht46=>?_)
 ·refine Z1 ?_;refine Z73 ?_;exact zw
 refine Z1 ?_;refine R.fin [1,3,9,61] ?_
 refine W.cond (fun ht61=>?_) (fun ht61=>?_)
 ·refine Z1 ?_;refine Z6 ?_;exact AKz
 refine Z1 ?_;refine R.fin [1,3,75] ?_
 refine W.cond (fun ht75=>?_) (fun ht75=>?_)
 ·refine ALj ?_;refine Z86 ?_;refine H.call Tryz.call176 (fun hB=>AIq e.text _) ?_;refine Z86 ?_;refine H.go ?_;refine D.tail ?_;refine G.go ?_;exact AI7
 refine Z20 ?_;exact AL2

mutual
def Bu (d:Int):Expr→List (Int×Expr)
 | .mk o t v k=>(d,.mk o t v k)::Bs (d+1) k
def Bs (d:Int):List Expr→List (Int×Expr)
  | []=>[]
  | e::r=>Bu d e++Bs d r
 end
theorem Jf (d:Int) (e:Expr):Bu d e=(d,e)::Bs (d+1) e.kids:=by cases e;rfl
theorem Me (d:Int):∀a b,Bs d (a++b)=Bs d a++Bs d b
 | [],b=>rfl
 | e::r,b=>by rw [E9,Bs,Bs,Me d r b,B8]
theorem jt (d:Int) (l:List Expr) {x:Nat} (h:x<l.length):Bs d (l.take (x+1))=Bs d (l.take x)++Bu d l[x]:=by
 rw [Kl h,Me]
 simp [Bs]
theorem Sg (d:Int) (l:List Expr) {x:Nat} (h:x<l.length):Bs d l=Bs d (l.take x)++(Bu d l[x]++Bs d (l.drop (x+1))):=by
 have e:l=l.take x++(l[x]::l.drop (x+1)):=by rw [←Ig h,r8]
 conv=>lhs;rw [e]
 rw [Me,Bs]
mutual
def sizeE:Expr→Nat
 | .mk _ _ _ k=>1+E2 k
def E2:List Expr→Nat
  | []=>0
  | e::r=>sizeE e+E2 r
 end
theorem Sh (e:Expr):sizeE e=1+E2 e.kids:=by cases e;rfl
theorem bb:∀(l:List Expr) {x:Nat} (h:x<l.length),sizeE l[x]≤E2 l
 | e::r,0,_=>by simp only [List.getElem_cons_zero,E2];omega
 | e::r,x+1,h=>by
  have:=bb r (x:=x) (by simpa using h)
  simp only [List.getElem_cons_succ,E2]
  omega
/-- Each node has few kids. -/
def okE:Nat→Expr→Prop
 | 0,_=>False
 | n+1,e=>e.text.length≤1048576∧e.kids.length≤1048576∧∀y∈e.kids,okE n y
/-- Who takes what a tree yields: item k is taken at U k; it goes on (go k) to U (k + 1), or ends at F k. Behind U k there may stand others' objects. -/
structure Takes (P:Program) (l:Nat) (L:List (Int×Expr)) (go:Nat→Bool) (U F:Nat→List AObj) (n0:Nat):Prop where
 lenU:∀k,(U k).length=n0
 lenF:∀k,(F k).length=n0
 lowU:∀k,∀x∈U k,ObjLow n0 x
 lowF:∀k,∀x∈F k,ObjLow n0 x
 lt:l<n0
 y:∀(X:List AObj) (k:Nat) (it:Int×Expr),L[k]? = some it→(∀j,j<k→go j=true)→AYield P l [A3 it.1,A8 it.2] (U k++X) (fun b H'=>b=go k∧H'=(if go k then U (k+1) else F k)++X)
theorem ObjLow.le {m m':Nat} (h:m≤m') {x:AObj} (hx:ObjLow m x):ObjLow m' x:=by
 cases x with
 | cells t cs=>exact fun y hy=>(hx y hy).mono h
 | loop s pd fr sz ps as' bd df=>exact ⟨fun s=>(hx.1 s).mono h,Fy hx.2 h⟩
 | defs=>trivial
 | dead=>trivial
 | bld _ _ _=>trivial
 | gone=>trivial
/-- What the walk over n items from k0 on comes to. -/
def ju (go:Nat→Bool) (U F:Nat→List AObj) (k0 n:Nat) (X:List AObj):AV→List AObj→Prop:=fun r H' =>
 ((∀j,j<n→go (k0+j)=true)∧r=B0 true∧H'=U (k0+n)++X)∨(∃j,j<n∧(∀i,i<j→go (k0+i)=true)∧go (k0+j)=false∧r=B0 false∧H'=F (k0+j)++X)
mutual
theorem Am (m:Nat):∀e,Low m (A8 e)
 | .mk o t v k=>by
  rw [A8]
  refine .agg _ fun y hy=>?_
  simp only [B3,Et,or_false] at hy
  rcases hy with rfl|rfl|rfl|rfl|rfl|rfl
  ·exact .v _
  ·exact .v _
  ·exact .v _
  ·exact .v _
  ·exact .v _
  exact low_slice.2 (Xp m k)
theorem Xp (m:Nat):∀l,∀y∈U8 l,Low m y
  | [],y,hy=>by cases hy
  | e::r,y,hy=>by
    rw [U8] at hy
    rcases B3.1 hy with rfl|h
    · exact Am m e
    exact Xp m r y h
 end
theorem Si {V O A B own:List AObj} (h:V++O=A++(B++own)) (hl:V.length=(A++B).length):V=A++B∧O=own:=by
 rw [←B8] at h
 exact K7 h hl
theorem Kp {m:Nat} {A X:List AObj} (hA:∀x∈A,ObjLow m x) (hX:∀x∈X,ObjLow m x):∀x∈A++X,ObjLow m x:=fun x hx=>by
 rcases E4.1 hx with h|h
 ·exact hA x h
 exact hX x h
theorem oh {P:Program} {l:Nat} {L:List (Int×Expr)} {go:Nat→Bool} {U F:Nat→List AObj} {n0 k n K:Nat} {X own V O:List AObj} {r:AV} (T:Takes P l L go U F n0) (hV:V.length=(U K++X).length) (hp:ju go U F k n (X++own) r (V++O)):
  ∃b,r=B0 b∧O=own∧(if b then (∀j,j<n→go (k+j)=true)∧V=U (k+n)++X else ∃j,j<n∧(∀i,i<j→go (k+i)=true)∧go (k+j)=false∧V=F (k+j)++X)∧((∀x∈U K++X,ObjLow V.length x)→∀x∈V,ObjLow V.length x):=by
 have hn:n0≤V.length:=by rw [hV,At,T.lenU];omega
 rcases hp with ⟨h1,h2,h3⟩|⟨j,hj,h1,h2,h3,h4⟩
 ·obtain ⟨e1,e2⟩:=Si h3 (by rw [hV];simp [T.lenU])
  refine ⟨true,h2,e2,⟨h1,e1⟩,fun h=>?_⟩
  rw [e1] at h ⊢
  exact Kp (fun x hx=>ObjLow.le (by rw [At,T.lenU];omega) (T.lowU _ x hx)) (fun x hx=>h x (S1 _ hx))
 obtain ⟨e1,e2⟩:=Si h4 (by rw [hV];simp [T.lenU,T.lenF])
 refine ⟨false,h3,e2,⟨j,hj,h1,h2,e1⟩,fun h=>?_⟩
 rw [e1] at h ⊢
 exact Kp (fun x hx=>ObjLow.le (by rw [At,T.lenF];omega) (T.lowF _ x hx)) (fun x hx=>h x (S1 _ hx))
theorem jv (d:Int) (l:List Expr) {x:Nat} (h:x<l.length):(Bs d (l.take (x+1))).length=(Bs d (l.take x)).length+(Bu d l[x]).length:=by rw [jt d l h,At]
theorem AB5 {d0:Int} {e:Expr} {x:Nat} (h:x<e.kids.length) {j:Nat} {it:Int×Expr} (hj:(Bu (d0+1) e.kids[x])[j]? = some it):(Bu d0 e)[1+(Bs (d0+1) (e.kids.take x)).length+j]? = some it:=by
 rw [Jf d0 e,show 1+(Bs (d0+1) (e.kids.take x)).length+j=((Bs (d0+1) (e.kids.take x)).length+j)+1 by omega,R1,Sg (d0+1) e.kids h,D9 (by omega)]
 rw [show (Bs (d0+1) (e.kids.take x)).length+j-(Bs (d0+1) (e.kids.take x)).length=j by omega,D8 (Ad.1 hj).1]
 exact hj
theorem we (d0:Int) (e:Expr) {x:Nat} (h:x<e.kids.length):1+(Bs (d0+1) (e.kids.take x)).length+(Bu (d0+1) e.kids[x]).length≤(Bu d0 e).length:=by
 rw [Jf d0 e,B2,Sg (d0+1) e.kids h]
 simp only [At]
 omega
theorem AP4 {l:Nat} {L:List (Int×Expr)} {go:Nat→Bool} {U F:Nat→List AObj} {n0:Nat} (T:Takes Tryz.prog l L go U F n0):∀(n:Nat) (e:Expr),okE n e→∀(d0:Int) (k0:Nat) (X:List AObj),0≤d0→d0+n≤1099511627776→(∀(j:Nat) (it:Int×Expr),(Bu d0 e)[j]? = some it→L[k0+j]? = some it)→(∀j,j<k0→go j=true)→ACall Tryz.prog 174 [A8 e,A3 d0,.yield l] (U k0++X) (ju go U F k0 (Bu d0 e).length X):=by
 intro n
 induction n with
 | zero=>exact fun e h=>h.elim
 | succ n ih =>
 intro e hok d0 k0 X hd hdn hit hgo
 have hlen0:(U k0++X).length=n0+X.length:=by rw [At,T.lenU]
 refine Ae [.tmp 6] [0,1,2] Tryz.func174 Tryz.ntmps174 (fun d=>?_)
 refine Z1 ?_;refine A2 [1,2,3] ?_;refine Z30 ?_
 refine R.yield0 (T.y X k0 (d0,e) (hit 0 _ (by rw [Jf];rfl)) hgo) ?_
 intro b Vv hV hb
 refine A5 ?_;refine A2 [1,2,3,13] ?_
 refine A4 (fun ht13=>?_) (fun ht13=>?_)
 ·have hb':b=false:=by simpa using ht13
  subst hb'
  refine Z2 ?_;refine ve ?_;exact Aa (Ai A7) (Or.inr ⟨0,by rw [Jf];simp,fun i hi=>by omega,hb.1.symm,rfl,by have:=hb.2;rw [show go k0=false from hb.1.symm] at this;exact this⟩)
 have hb':b=true:=by simpa using ht13
 subst hb'
 have hgo0:go (k0+0)=true:=hb.1.symm
 have hVe:Vv=U (k0+1)++X:=by have:=hb.2;rw [show go k0=true from hb.1.symm] at this;exact this
 subst hVe
 have h0x:0≤e.kids.length∧∀j,j<1+(Bs (d0+1) (e.kids.take 0)).length→go (k0+j)=true:=⟨Aq _,fun j hj=>by
  have:j=0:=by simp [Bs] at hj;omega
  subst this
  exact hgo0⟩
 refine Z3 ?_;refine Z88 ?_;refine A2 [1,2,15,16,17] ?_
 refine Bg (α:=Nat) (fun x=>⟨28,A6 1 (A3 d0) (A6 2 (.yield l) (A6 15 (.slice false 6 (e.kids.map A8)) (A6 16 (A3 e.kids.length) (A6 17 (A3 (x:Nat)) (fun _=>.any))))),U (k0+(1+(Bs (d0+1) (e.kids.take x)).length))++X,[],[],none⟩) (fun x=>x≤e.kids.length∧∀j,j<1+(Bs (d0+1) (e.kids.take x)).length→go (k0+j)=true) (fun x=>e.kids.length-x) (0) h0x (Bl (by simp [Bs])) rfl (fun x hx=>?_)
 refine Z2 ?_;refine A2 [1,2,15,16,17,18] ?_
 refine Co (fun ht18=>?_) (fun ht18=>?_)
 ·have hlt:x<e.kids.length:=by simpa using ht18
  have hkl:=hok.2.1
  refine Z77 ?_
  refine A5 (h:=Ah (x) (A8 e.kids[x]) (fun _=>B7 hlt)) (hr:=?_)
  refine Qe ?_;refine A2 [1,2,8,15,16,17] ?_;refine Z23 ?_
  refine R.callG Tryz.call174 (args:=[A8 e.kids[x],A3 (d0+1),.yield l]) (by rw [B8];exact ih e.kids[x] (hok.2.2 _ (Bf hlt)) (d0+1) (k0+(1+(Bs (d0+1) (e.kids.take x)).length)) (X++_) (by omega) (by omega) (fun j it hj=>by have:=hit _ it (AB5 hlt hj);rwa [←Km] at this) (fun j hj=>by rcases Bp j k0 with h|h;exact hgo j h;have:=hx.2 (j-k0) (by omega);rwa [show k0+(j-k0)=j by omega] at this)) ?_
  intro r Vv O hV hp
  obtain ⟨b,rfl,rfl,hc,hlowV⟩:=oh T hV hp
  refine ⟨hlowV,fun o ho=>by simp at ho,?_⟩
  refine A5 ?_;refine A2 [1,2,15,16,17,26] ?_
  refine A4 (fun ht26=>?_) (fun ht26=>?_)
  ·have hb':b=false:=by simpa using ht26
   subst hb'
   obtain ⟨j,hj,h1,h2,h3⟩:=hc
   refine Z2 ?_;refine Z76 ?_;refine Z51 ?_
   have hil:=we d0 e hlt
   refine Aa (Ai A7) (Or.inr ⟨1+(Bs (d0+1) (e.kids.take x)).length+j,by omega,fun i hi=>?_,by rwa [Km] at h2,rfl,by rwa [Km] at h3⟩)
   rcases Bp i (1+(Bs (d0+1) (e.kids.take x)).length) with h|h
   ·exact hx.2 i h
   have:=h1 (i-(1+(Bs (d0+1) (e.kids.take x)).length)) (by omega)
   rwa [show k0+(1+(Bs (d0+1) (e.kids.take x)).length)+(i-(1+(Bs (d0+1) (e.kids.take x)).length))=k0+i by omega] at this
  have hb':b=true:=by simpa using ht26
  subst hb'
  obtain ⟨h1,h3⟩:=hc
  refine Z68 ?_;refine A2 [1,2,15,16,17] ?_
  subst h3
  have hll:=jv (d0+1) e.kids hlt
  have e1:k0+(1+(Bs (d0+1) (e.kids.take (x+1))).length)=k0+(1+(Bs (d0+1) (e.kids.take x)).length)+(Bu (d0+1) e.kids[x]).length:=by omega
  refine Bm (x+1) ⟨hlt,fun j hj=>?_⟩ (by omega) ?_
  ·rcases Bp j (1+(Bs (d0+1) (e.kids.take x)).length) with h|h
   ·exact hx.2 j h
   have:=h1 (j-(1+(Bs (d0+1) (e.kids.take x)).length)) (by omega)
   rwa [show k0+(1+(Bs (d0+1) (e.kids.take x)).length)+(j-(1+(Bs (d0+1) (e.kids.take x)).length))=k0+j by omega] at this
  simp only [e1]
  exact D0 (own:=[]) (fun _=>.refl _) (by repeat (first|exact Bc|refine Bb (by first|(simp [Am];done)|(have:=T.lt;simp [T.lenU];omega)) ?_)) (by simp) (by simp)
 have hxe:e.kids.take x=e.kids:=Ej (by simp at ht18;omega)
 refine nq ?_;refine Z76 ?_
 have hl2:(Bu d0 e).length=1+(Bs (d0+1) (e.kids.take x)).length:=by rw [Jf,hxe,B2];omega
 exact Aa (Ai A7) (Or.inl ⟨fun j hj=>hx.2 j (by omega),rfl,by rw [hl2]⟩)

def Nl:=@ObjLow.le
abbrev El (e:Expr):List AV:=[.v (.int .i64 e.op),.v (sv e.text),.v (.int .i64 e.val.kind),.v (.int .i64 e.val.n),.v (sv e.val.s),.slice false 6 (e.kids.map A8)]
/-- What taking all of a tree comes to. -/
def Mp (go:Nat→Bool) (U F:Nat→List AObj) (n:Nat) (H':List AObj):Prop:=
 ((∀j,j<n→go j=true)∧H'=U n)∨(∃j,j<n∧(∀i,i<j→go i=true)∧go j=false∧H'=F j)
theorem AIw {l:Nat} {e:Expr} {go:Nat→Bool} {U F:Nat→List AObj} {n0:Nat} (T:Takes Tryz.prog l (Bu 1 e) go U F n0) (n:Nat) (hok:okE n e) (hn:n≤1048576):ACall Tryz.prog 173 [.yield l,.ro (El e)] (U 0) (fun r H'=>Mp go U F (Bu 1 e).length H'):=by
 refine Ae [] [0,1] Tryz.func173 Tryz.ntmps173 (fun d=>?_)
 refine Z22 ?_;refine R.callG Tryz.call174 (args:=[A8 e,A3 1,.yield l]) (AP4 T n e hok 1 0 [] (by omega) (by omega) (fun j it hj=>by rwa [Bq]) (fun j hj=>by omega)) ?_
 intro r Vv O hV hp
 have hO:O=[]:=by
  have h1:(Vv++O).length=n0:=by rcases hp with ⟨_,_,h⟩|⟨j,_,_,_,_,h⟩<;>rw [h]<;>simp [T.lenU,T.lenF]
  have h2:=T.lenU 0
  rw [At,hV,h2] at h1
  exact dl (by omega)
 subst hO
 rw [Gm] at hp
 have hq:Mp go U F (Bu 1 e).length Vv:=by
  rcases hp with ⟨h1,_,h⟩|⟨j,h1,h2,h3,_,h⟩
  ·exact .inl ⟨fun j hj=>by have:=h1 j hj;rwa [Bq] at this,by rw [h];simp⟩
  exact .inr ⟨j,h1,fun i hi=>by have:=h2 i hi;rwa [Bq] at this,by rwa [Bq] at h3,by rw [h];simp⟩
 refine ⟨fun h=>?_,fun o ho=>by simp at ho,?_⟩
 ·rcases hq with ⟨_,h⟩|⟨j,_,_,_,h⟩<;>rw [h]
  ·rw [T.lenU];exact T.lowU _
  rw [T.lenF];exact T.lowF _
 refine A2 [] ?_;exact F3 .nores (hp:=hq)

theorem AP5 (e:Expr) (Hp:List AObj):AFun Tryz.prog 139 [A8 e] Hp (.fn (.func 173) [] [.ro (El e)]):=by
 refine Ae [.tmp 2] [0] Tryz.func139 Tryz.ntmps139 (fun d=>?_)
 refine Z97 ?_;refine vi ?_;refine Z4 ?_;exact Aa (Ai A7) (hlow:=by have:=Am Hp.length e;rw [Al] at this;simpa using this)

def goM (e:Expr) (k:Nat):Bool:=match (Bu 1 e)[k]? with
 | some it => !((!Es it.2 || decide ((30:Int)<it.1)) || decide ((300:Int)<(k:Int)+1))
 | none=>true
def Au (e:Expr):Bool:=(List.range (Bu 1 e).length).all (goM e)
mutual
theorem bc:∀(n:Nat) (e:Expr),okE n e→∀d,∀it∈Bu d e,it.2.text.length≤1048576
 | 0,_,h,_,_,_=>h.elim
 | n+1,e,h,d,it,hit=>by
  rw [Jf] at hit
  rcases B3.1 hit with rfl|h'
  ·exact h.1
  exact be n e.kids h.2.2 (d+1) it h'
 termination_by n e=>(n,0)
theorem be:∀(n:Nat) (l:List Expr),(∀y∈l,okE n y)→∀d,∀it∈Bs d l,it.2.text.length≤1048576
  | n,[],_,_,_,h=>by cases h
  | n,e::r,h,d,it,hit=>by
    rw [Bs] at hit
    rcases E4.1 hit with h'|h'
    · exact bc n e (h e (by simp)) d it h'
    exact be n r (fun y hy=>h y (by simp [hy])) d it h'
  termination_by n l=>(n,l.length+1)
 end
theorem oi {U:List AObj} {i j:Nat} {x y:AObj} (h:U[i]? = some x) (hne:j≠i):(U.set j y)[i]? = some x:=by rw [Bx hne];exact h
theorem AIx {e:Expr} {k:Nat} {it:Int×Expr} (hit:(Bu 1 e)[k]? = some it) (h:∀j,j<k→goM e j=true):(k:Int)≤300:=by
 rcases Nat.eq_zero_or_pos k with h0|h0
 ·omega
 have hl:=(Ad.1 hit).1
 have:=h (k-1) (by omega)
 unfold goM at this
 rw [Ab (by omega)] at this
 simp at this
 omega
theorem gg {e:Expr} {k:Nat} {it:Int×Expr} (hit:(Bu 1 e)[k]? = some it):goM e k = !((!Es it.2 || decide ((30:Int)<it.1)) || decide ((300:Int)<(k:Int)+1)):=by
 unfold goM;rw [hit]
theorem c96 (n:Nat) (e:Expr) (hok:okE n e) (hn:n≤1048576) (Hp:List AObj):AFun Tryz.prog 96 [A8 e] Hp (B0 (Au e)):=by
 refine Ae [.cell 2 4] [0,4,5] Tryz.func96 Tryz.ntmps96 (fun d=>?_)
 refine AA9 ?_;refine A2 [1,2,4,5] ?_;refine fh ?_;refine A2 [1,2,3,4,5] ?_;refine Z62 ?_
 refine Ma (fun hlow=>?_)
 refine AIf ?_;refine A2 [2,3,4,5,7] ?_;refine Lo ?_
 refine Nh (m:=2) Tryz.call173 (fun FR as' bd' hFR has hbd=>?_)
 have hFRl:∀s,Low (Hp.length+4) (FR s):=by
  intro s
  rw [hFR]
  refine Oi ?_
  revert s
  repeat (first|exact Bc|refine Bb (by simp [oid,Am]<;>try omega) ?_)
 have hOl:∀{k:Nat},∀x∈[AObj.cells 4 [B0 false],AObj.cells 3 [A3 (k:Nat)],AObj.defs,AObj.loop LoopState.ready none FR 23 #[8,9] as' bd' (oid Hp.length 2)],ObjLow (Hp.length+4) x:=by
  intro k x hx
  simp only [B3,Et,or_false] at hx
  rcases hx with rfl|rfl|rfl|rfl
  ·exact AE2
  ·exact AE2
  ·trivial
  exact AAd
 have hOf:∀{k:Nat},∀x∈[AObj.cells 4 [B0 false],AObj.cells 3 [A3 ((k:Nat)+1)],AObj.defs,AObj.loop LoopState.done (some Code.ret) FR 23 #[8,9] as' bd' (oid Hp.length 2)],ObjLow (Hp.length+4) x:=by
  intro k x hx
  simp only [B3,Et,or_false] at hx
  rcases hx with rfl|rfl|rfl|rfl
  ·exact AE2
  ·exact AE2
  ·trivial
  exact AAd
 refine ⟨fun _ H'=>Mp (goM e) (fun k=>Hp++[AObj.cells 4 [B0 false],AObj.cells 3 [A3 (k:Nat)],AObj.defs,AObj.loop LoopState.ready none FR 23 #[8,9] as' bd' (oid Hp.length 2)]) (fun k=>Hp++[AObj.cells 4 [B0 false],AObj.cells 3 [A3 ((k:Nat)+1)],AObj.defs,AObj.loop LoopState.done (some Code.ret) FR 23 #[8,9] as' bd' (oid Hp.length 2)]) (Bu 1 e).length H',AIw (l:=oid Hp.length 3) (go:=goM e) (U:=fun k=>Hp++[AObj.cells 4 [B0 false],AObj.cells 3 [A3 (k:Nat)],AObj.defs,AObj.loop LoopState.ready none FR 23 #[8,9] as' bd' (oid Hp.length 2)]) (F:=fun k=>Hp++[AObj.cells 4 [B0 false],AObj.cells 3 [A3 ((k:Nat)+1)],AObj.defs,AObj.loop LoopState.done (some Code.ret) FR 23 #[8,9] as' bd' (oid Hp.length 2)]) (n0:=Hp.length+4) ⟨fun k=>by simp,fun k=>by simp,fun k x hx=>?_,fun k x hx=>?_,by simp [oid],fun X k it hit hgo=>?_⟩ n hok hn,?_⟩
 ·exact AAe
 ·exact Kp (fun x hx=>Nl (by omega) (hlow x hx)) hOf x hx
 ·have hk3:=AIx hit hgo
  generalize hV:(Hp++[AObj.cells 4 [B0 false],AObj.cells 3 [A3 (k:Nat)],AObj.defs,AObj.loop LoopState.ready none FR 23 #[8,9] as' bd' (oid Hp.length 2)]++X)=V
  have hL:V[oid Hp.length 3]? = some (AObj.loop LoopState.ready none FR 23 #[8,9] as' bd' (oid Hp.length 2)):=by rw [←hV,B8,Ax];rfl
  have hA0:V[oid Hp.length 1]? = some (AObj.cells 3 [A3 (k:Nat)]):=by rw [←hV,B8,Ax];rfl
  have hB0:V[oid Hp.length 0]? = some (AObj.cells 4 [B0 false]):=by rw [←hV,B8,Ax];rfl
  refine L8 (pd:=none) (fr:=FR) (sz:=23) (ps:=#[8,9]) (df:=oid Hp.length 2) (asg:=as') (bd:=bd') hL rfl (by decide) (fun d=>?_)
  subst hFR has hbd
  refine G9 [2,3,8,9] ?_;refine Z2 ?_;refine A2 [2,3,4,9] ?_;refine Hj ?_;refine Z14 ?_;refine A2 [2,3,4,5] ?_
  refine ⟨rfl,none,hL,?_⟩
  generalize hbz:(AObj.loop LoopState.busy _ _ _ _ _ _ _)=bz
  have hA:(V.set (oid Hp.length 3) bz)[oid Hp.length 1]? = some (AObj.cells 3 [A3 (k:Nat)]):=by rw [Bx (Cb (by decide))];exact hA0
  have hB:(V.set (oid Hp.length 3) bz)[oid Hp.length 0]? = some (AObj.cells 4 [B0 false]):=by rw [Bx (Cb (by decide))];exact hB0
  refine Lo ?_;refine Ez ?_
  refine A5 (h:=Bh hA) (hr:=?_)
  refine A5 ?_
  refine Dp jS hA ?_ ?_
  ·simp
  refine A2 [2,3,4,5] ?_;refine Z2 ?_;refine A9 Tryz.call140 (AP3 it.2 (bc n e hok 1 it (Aw hit)) _) ?_;refine Z36 ?_;refine Z0 ?_
  refine Cp (h:=Bh (getset hA)) (hr:=?_)
  refine Z53 ?_;refine A2 [2,22] ?_
  refine A4 (fun ht22=>?_) (fun ht22=>?_)
  ·have hgf:goM e k=false:=by rw [gg hit,ht22];rfl
   refine Ez ?_
   refine Dp jS (oi (j:=oid Hp.length 1) hB (Cb (by decide))) ?_ ?_
   ·simp
   refine A2 [] ?_;refine G5 ?_;refine K.blR ?_
   subst hbz
   refine AEp ?_
   refine ⟨hgf.symm,?_⟩
   rw [if_neg (by rw [hgf];simp)]
   subst hV
   simp only [B8,Dm,E9,E5,List.set_cons_succ,List.set_cons_zero]
   try rfl
  have hgt:goM e k=true:=by rw [gg hit,ht22];rfl
  refine vf ?_
  subst hbz
  refine K.rdN (iw hL (Cb (by decide))) ?_
  refine ⟨hgt.symm,?_⟩
  rw [if_pos hgt]
  subst hV
  simp only [B8,Dm,E9,E5,List.set_cons_succ,List.set_cons_zero]
  try rfl
 rintro r H' (⟨h1,rfl⟩|⟨j,hj,h1,h2,rfl⟩)
 ·refine ⟨Hp,_,_,_,rfl,rfl,fun h=>h,?_,rfl,by simp,?_⟩
  ·intro o ho
   have:o=oid Hp.length 2:=by simpa using ho
   subst this
   rw [Ax]
   rfl
  refine Z11 ?_;refine Ez ?_;refine Z38 ?_;exact Aa (Ai (Fp jA)) ⟨by rw [show Au e=true from Az.2 fun j hj=>h1 j (Ps.1 hj)],rfl⟩
 refine ⟨Hp,_,_,_,rfl,rfl,fun h=>h,?_,rfl,by simp,?_⟩
 ·intro o ho
  have:o=oid Hp.length 2:=by simpa using ho
  subst this
  rw [Ax]
  rfl
 refine jb ?_;exact Aa (Ai (Fp jA)) ⟨by rw [show Au e=false from List.all_eq_false.2 ⟨j,Ps.2 hj,by rw [h2];simp⟩],rfl⟩

def Cu (s:Str):Expr:=.mk 2 s ⟨0,0,[]⟩ []
theorem jx (s:Str):Le (.agg [A3 2,Ac s,A3 0,A3 0,Ac [],.nil]) (A8 (Cu s)):=by
 rw [Al]
 refine .agg _ _ rfl (by simp [AV.one,Value.oneCell',sv]) fun i y y' h1 h2=>?_
 match i with
 | 0=>simp at h1 h2;subst h1;subst h2;exact .inl rfl
 | 1=>simp at h1 h2;subst h1;subst h2;exact .inl rfl
 | 2=>simp at h1 h2;subst h1;subst h2;exact .inl rfl
 | 3=>simp at h1 h2;subst h1;subst h2;exact .inl rfl
 | 4=>simp at h1 h2;subst h1;subst h2;exact .inl rfl
 | 5=>simp at h1 h2;subst h1;subst h2;exact .inr ⟨rfl,6,rfl⟩
 | i+6=>simp at h1
theorem jy (s:Str) (h:s.length≤1048576):okE 1 (Cu s):=⟨h,by simp [Cu,Expr.kids],fun y hy=>by cases hy⟩
def U9 (c:List Col) (x:Nat) (y:Col):Bool := !(((!Au (Cu y.name)) || (Cw y.kind==[])) || (Ay y.name c != (x:Int)))
def Io (c:List Col):Bool:=c.zipIdx.all fun x=>U9 c x.2 x.1
theorem colsP_true {c:List Col}:Io c=true↔∀(j:Nat) (y:Col),c[j]? = some y→U9 c j y=true:=Rd
theorem c50 (c:List Col) (hc:OkCols c) (Hp:List AObj):AFun Tryz.prog 50 [Ar c] Hp (B0 (Io c)):=by
 refine Ae [.tmp 2] [0] Tryz.func50 Tryz.ntmps50 (fun d=>?_)
 refine jf ?_;refine A2 [0,5,6,7] ?_
 refine Bg (α:=Nat) (fun x=>⟨32,A6 0 (Ar c) (A6 5 (Ar c) (A6 6 (A3 c.length) (A6 7 (A3 (x:Nat)) (fun _=>.any)))),Hp,[],[],none⟩) (fun x=>x≤c.length∧∀(j:Nat) (y:Col),j<x→c[j]? = some y→U9 c j y=true) (fun x=>c.length-x) (0) (by simp) (Bl (by simp)) rfl (fun x hx=>?_)
 refine Z2 ?_;refine A2 [0,5,6,7,8] ?_
 refine Co (fun ht8=>?_) (fun ht8=>?_)
 ·have hlt:x<c.length:=by simpa using ht8
  have hcl:=hc.len
  refine Qg ?_
  refine A5 (h:=Ah (x) (C2 c[x]) (fun _=>B7 hlt)) (hr:=?_)
  refine ja ?_;refine A2 [0,3,4,5,6,7] ?_;refine AE3 ?_;refine R.wk 14 _ (jx c[x].name) ?_;refine A9 Tryz.call96 (c96 1 (Cu c[x].name) (jy _ (hc.names _ (Bf hlt))) (by decide) _) ?_;refine Z36 ?_;refine C1 Tryz.call97 (fun hB=>c97 c[x].kind _) ?_;refine Cp ?_;refine fj ?_;refine C1 Tryz.call60 (fun hB=>c60 c hc c[x].name _) ?_;refine fl ?_;refine A2 [0,5,6,7,30] ?_
  refine A4 (fun ht30=>?_) (fun ht30=>?_)
  ·refine Z42 ?_;refine Z51 ?_
   exact Aa (Ai A7) ⟨by rw [show Io c=false from K5.2 fun h=>by have:=colsP_true.1 h x c[x] (Ab hlt);unfold U9 at this;rw [ht30] at this;cases this],rfl⟩
  refine Z68 ?_;refine A2 [0,5,6,7] ?_
  refine Bm (x+1) ⟨hlt,Ld hlt hx.2 (by unfold U9;rw [ht30];rfl)⟩ (by omega) ?_
  exact D0 (own:=[]) (fun _=>.refl _) (by repeat (first|exact Bc|refine Bb (by simp) ?_)) (by simp) (by simp)
 refine Z27 ?_;refine Z42 ?_;exact Aa (Ai A7) ⟨by rw [colsP_true.2 (Tz (by simp at ht8;omega) hx.2)],rfl⟩

def Xq (c:List Col):Bool:=decide ((c.length:Int)≤12)&&Io c
theorem AMw (c:List Col) (hc:OkCols c) (Hp:List AObj):AFun Tryz.prog 125 [Ar c] Hp (B0 (Xq c)):=by
 refine Ae [.tmp 2] [0] Tryz.func125 Tryz.ntmps125 (fun d=>?_)
 refine Z41 ?_;refine vl ?_;refine C1 Tryz.call50 (fun hB=>c50 c hc _) ?_;refine Z65 ?_;exact Aa (Ai A7) ⟨by unfold Xq;simp,rfl⟩

theorem gh (s:Str) (h:s≠[]):Lib.contains [] s=false:=by
 cases s with
 | nil=>exact absurd rfl h
 | cons a r=>rfl
theorem contains_cons (b:UInt8) (l s:Str):Lib.contains (b::l) s=(s.isPrefixOf (b::l) || Lib.contains l s):=by
 unfold Lib.contains
 have hge:=Lib.index_ge l s
 rw [Lib.index]
 by_cases hp:s.isPrefixOf (b::l)=true
 ·rw [if_pos hp,hp];rfl
 rw [if_neg hp]
 have hp':s.isPrefixOf (b::l)=false:=K5.2 hp
 rw [hp',F1]
 by_cases hi:Lib.index l s = -1
 ·rw [hi];rfl
 have:(Lib.index l s == -1)=false:=by simpa using hi
 rw [this,if_neg (by simp)]
 rw [decide_eq_decide]
 omega
/-- Words between blanks. -/
def P7:List Str→Str
 | []=>[32]
 | w::r=>32::(w++P7 r)
theorem bf (sub:Str):∀(w R:Str),(32:UInt8)∉w→Lib.contains (w++R) (32::sub)=Lib.contains R (32::sub)
 | [],R,_=>rfl
 | b::w,R,h=>by
  have hb:b≠32:=fun e=>h (by simp [e])
  rw [E9,contains_cons,bf sub w R (fun hm=>h (by simp [hm]))]
  have:(32::sub).isPrefixOf (b::(w++R))=false:=by
   simp [List.isPrefixOf,Ne.symm hb]
  rw [this,F1]
theorem Vb:∀(s w:Str) (R:Str),(32:UInt8)∉s→(32:UInt8)∉w→(s++[32]).isPrefixOf (w++32::R)=(s==w)
 | [],[],R,_,_=>by simp [List.isPrefixOf]
 | [],b::w,R,_,hw=>by
  have hb:(32:UInt8)≠b:=fun e=>hw (by simp [e])
  simp [List.isPrefixOf,hb]
 | a::s,[],R,hs,_=>by
  have hb:a≠(32:UInt8):=fun e=>hs (by simp [e])
  simp [List.isPrefixOf,hb]
 | a::s,b::w,R,hs,hw=>by
  have ih:=Vb s w R (fun h=>hs (by simp [h])) (fun h=>hw (by simp [h]))
  rw [E9,E9,List.isPrefixOf,ih]
  rfl
theorem jz:∀ws,∃R,P7 ws=32::R
 | []=>⟨[],rfl⟩
 | w::r=>⟨_,rfl⟩
theorem Lf (s:Str) (hs:(32:UInt8)∉s):∀(ws:List Str),(∀w∈ws,(32:UInt8)∉w)→Lib.contains (P7 ws) ([32]++s++[32])=ws.any (·==s)
 | [],_=>by
  rw [P7,contains_cons,gh _ (by simp),Of]
  cases s<;>simp [List.isPrefixOf]
 | w::r,h=>by
  have hw:=h w (by simp)
  obtain ⟨R,hR⟩:=jz r
  have ih:=Lf s hs r (fun x hx=>h x (by simp [hx]))
  have e1:([32]++s++[32]:Str)=32::(s++[32]):=rfl
  rw [P7,contains_cons,e1,bf _ w _ hw,←e1,ih,List.any_cons]
  congr 1
  rw [e1,hR]
  have:=Vb s w R hs hw
  rw [List.isPrefixOf,this]
  simp only [beq_self_eq_true,Qz]
  by_cases hsw:s=w
  ·subst hsw;rfl
  rw [beq_eq_false_iff_ne.2 hsw,beq_eq_false_iff_ne.2 (Ne.symm hsw)]
theorem aa:Nj=P7 words:=by kernel_rfl
theorem k7:∀w∈words,(32:UInt8)∉w:=by decide
theorem k8 (s:Str):Lib.contains s [32]=s.contains 32:=by
 induction s with
 | nil=>rfl
 | cons b l ih =>
  rw [contains_cons,ih,List.contains_cons]
  congr 1
  simp [List.isPrefixOf]
theorem Xr (s:Str) (h1:s≠[]) (h2:(32:UInt8)∉s):Hb s=Ty s:=by
 unfold Hb
 rw [k8,aa,Lf s h2 words k7]
 have e1:(s==[])=false:=by simpa using h1
 have e2:s.contains 32=false:=by simpa using h2
 rw [e1,e2]
 rfl
set_option maxRecDepth 8000
theorem AB6 {p:UInt8→Bool} (h:((List.range 256).all fun n=>p (UInt8.ofNat n))=true) (c:UInt8):p c=true:=by
 have:=Az.1 h c.toNat (Ps.2 c.toNat_lt)
 simpa using this
theorem ol (c:UInt8):tails.contains c=Xb c:=by
 have:=AB6 (p:=fun c=>tails.contains c==Xb c) (by kernel_rfl) c
 simpa using this
theorem gi (c:UInt8):letters.contains c=Q4 c:=by
 have:=AB6 (p:=fun c=>letters.contains c==Q4 c) (by kernel_rfl) c
 simpa using this
theorem oo:Xb 32=false:=by kernel_rfl
theorem rr (s of:Str):(Se s of==(s.length:Int))=s.all (of.contains ·):=by
 unfold Se Lib.trimLeftS
 induction s with
 | nil=>rfl
 | cons c r ih =>
  rw [Tm,List.all_cons]
  cases hc:of.contains c with
  | true =>
   simp only [if_true,Qz]
   rw [←ih,Tj]
   have:=(mu (fun x=>of.contains x) (l:=r)).length_le
   simp only [beq_iff_eq,B2]
   omega
  | false =>
   simp only [Bd,if_false,mr]
   rw [beq_eq_false_iff_ne]
   simp only [B2]
   omega
theorem I1 (s:Str):Dy s=Qq s:=by
 cases s with
 | nil=>rfl
 | cons c r =>
  unfold Dy
  rw [rr]
  have e1:((c::r).all fun x=>tails.contains x)=(c::r).all Xb:=by
   congr 1
   funext x
   exact ol x
  have e2:(Se ((c::r).take 1) letters==1)=Q4 c:=by
   have:=rr [c] letters
   rw [←gi c]
   simpa using this
  rw [e1,e2]
  have e3:((c::r:Str)==[])=false:=rfl
  have e4:decide (((c::r).length:Int)≤16)=decide ((c::r).length≤16):=by
   rw [decide_eq_decide];omega
  rw [e3,e4]
  show _=(decide ((c::r).length≤16)&&Q4 c && !Ty (c::r)&&(c::r).all Xb)
  cases ha:(c::r).all Xb with
  | false=>simp
  | true =>
   have hb:(32:UInt8)∉(c::r):=fun hm=>by
    have:=Az.1 ha 32 hm
    rw [oo] at this
    cases this
   rw [Xr _ (by simp) hb]
   simp
theorem Ri (s:Str):Au (Cu s)=Qq s:=by
 have e:Bu 1 (Cu s)=[(1,Cu s)]:=by rw [Jf];rfl
 unfold Au
 rw [e]
 show ((List.range 1).all (goM (Cu s)))=_
 have g:goM (Cu s) 0=Es (Cu s):=by
  unfold goM
  rw [e]
  simp
 simp only [du,List.range_zero,E5,List.all_cons,List.all_nil,Wm]
 rw [g,←I1]
 simp [Es,Cu,Expr.op,Expr.val,Expr.text,Expr.kids,O8]
theorem gj (k:Int):(Cw k==[])=(decide (k<1) || decide ((3:Int)<k)):=by
 unfold Cw
 by_cases h:k<1∨3<k
 ·rw [if_pos h]
  have:(decide (k<1) || decide ((3:Int)<k))=true:=by simpa using h
  rw [this];rfl
 rw [if_neg h]
 have:(decide (k<1) || decide ((3:Int)<k))=false:=by simp;omega
 rw [this]
 have hk:k=1∨k=2∨k=3:=by omega
 rcases hk with rfl|rfl|rfl<;>rfl
theorem Lz (c:List Col):Io c=J3 c:=by
 unfold Io J3
 congr 1
 funext x
 unfold U9 rh
 rw [Ri,gj,←Bool.or_assoc (!Qq x.1.name)]
theorem Mq (c:List Col):Xq c=D4 c:=by unfold Xq D4;rw [Lz]
set_option maxRecDepth 4000
def Af (l:List Tok) (i:Nat):Tok:=l.getD i ⟨0,[],0⟩
theorem Mf {l:List Tok} {i:Nat} (h:i<l.length):(l.map Id)[i]? = some (Id (Af l i)):=by
 rw [C5,Ab h]
 unfold Af
 rw [Cc,Ab h]
 rfl
end Go.SX.Nb
