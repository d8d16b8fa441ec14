/- On the way (part 5). -/
import Derived.Test.YtekiioamifokoaaGreatDoorRewriteBackCardSaidPart4
set_option linter.all false
namespace Go.SX.Nb
open Go Go.SX Go.Proofs
variable [ErrAt]
set_option maxRecDepth 4000
def wAt (s:Str) (k:Nat):Int×Str×Int×Int:=Cv (s.drop k)
theorem Qa {f k:Nat} {s:Str} (h:s≠[]):K5 (f+1) k s=(⟨(Cv s).1,(Cv s).2.1,k⟩,(Cv s).2.2.2)::(if (Cv s).2.2.2==0 then K5 f (k+(Cv s).2.2.1.toNat+gapM (s.drop (Cv s).2.2.1.toNat)) ((s.drop (Cv s).2.2.1.toNat).drop (gapM (s.drop (Cv s).2.2.1.toNat))) else []):=by
 rw [K5,if_neg (by simpa using h)]
/-- Where the reader is, with k words behind it. -/
def We (s:Str) (k p:Nat):Prop:=(∃f,(s.drop p).length<f∧(Ct s).drop k=K5 f p (s.drop p))∧p≤s.length∧∀j,j<k→∃it,(Ct s)[j]? = some it∧it.2=0
theorem r6 (s:Str):We s 0 (gapM s):=⟨⟨s.length+1,by rw [H9];omega,by rw [g9];rfl⟩,qx s,fun j hj=>by omega⟩
theorem yl {s:Str} {k p:Nat} (h:We s k p):k≤(Ct s).length:=by
 refine H3 fun hn=>?_
 obtain ⟨it,hit,_⟩:=h.2.2 (Ct s).length (by omega)
 rw [Gg (Al _)] at hit
 cases hit
theorem ym {s:Str} {k p:Nat} (h:We s k p) (hp:s.length≤p):k=(Ct s).length∧∀it∈Ct s,it.2=0:=by
 have hl:=yl h
 obtain ⟨⟨f,_,hd⟩,_,h0⟩:=h
 have e:s.drop p=[]:=by rw [oo];exact hp
 rw [e] at hd
 have:(Ct s).drop k=[]:=by rw [hd];cases f<;>rfl
 rw [oo] at this
 have hk:k=(Ct s).length:=by omega
 refine ⟨hk,fun it hit=>?_⟩
 obtain ⟨j,hj,rfl⟩:=List.mem_iff_getElem.1 hit
 obtain ⟨it',h1,h2⟩:=h0 j (by omega)
 rw [Ab hj] at h1
 injection h1 with h1
 rw [h1];exact h2
theorem Yl {s:Str} {k p:Nat} (h:We s k p) (hp:p<s.length):∃f,(s.drop p).length<f+1∧(Ct s).drop k=K5 (f+1) p (s.drop p)∧s.drop p≠[]:=by
 obtain ⟨⟨f,hf,hd⟩,_,_⟩:=h
 obtain ⟨g,rfl⟩:∃g,f=g+1:=⟨f-1,by omega⟩
 exact ⟨g,hf,hd,fun e=>by rw [oo] at e;omega⟩
theorem Sk {s:Str} {k p:Nat} (h:We s k p) (hp:p<s.length):(Ct s)[k]? = some (⟨(wAt s p).1,(wAt s p).2.1,p⟩,(wAt s p).2.2.2):=by
 obtain ⟨f,_,hd,hne⟩:=Yl h hp
 rw [Qa hne] at hd
 have:=congrArg (·[0]?) hd
 unfold wAt
 simpa using this
theorem r7 {s:Str} {k p:Nat} (h:We s k p) (hp:p<s.length) (he:(wAt s p).2.2.2=0):∃n:Nat,(wAt s p).2.2.1=(n:Int)∧1≤n∧p+n≤s.length∧We s (k+1) (p+n+gapM (s.drop (p+n))):=by
 have hi:=Sk h hp
 obtain ⟨f,hf,hd,hne⟩:=Yl h hp
 obtain ⟨n,hn,h1,h2⟩:=ue (s:=s.drop p) (by rw [H9];omega) he
 rw [H9] at h2 hf
 have hg:=qx (s.drop (p+n))
 rw [H9] at hg
 refine ⟨n,hn,h1,by omega,⟨f,by rw [H9];omega,?_⟩,by omega,fun j hj=>?_⟩
 ·rw [Qa hne] at hd
  have:=congrArg (·.drop 1) hd
  simp only [g8,ou,g9] at this
  unfold wAt at he
  rw [this,hn,he]
  simp only [beq_self_eq_true,if_true,Int.toNat_natCast,g8]
 rcases Bw j k with h'|h'
 ·exact h.2.2 j h'
 have:j=k:=by omega
 subst this
 exact ⟨_,hi,he⟩
theorem AS2 (l:Nat) (s:Str) (hs:s.length≤1048576) (U F:Nat→List AObj) (hlen:∀k,(U k).length=(U 0).length) (hll:l<(U 0).length)
  (hy:∀k it,(Ct s)[k]? = some it→AYield Tryz.prog l [Ix it.1,A3 it.2] (U k) (fun b H'=>if it.2=0 then b=true∧H'=U (k+1) else b=false∧H'=F k)):ACall Tryz.prog 148 [.yield l,.ro [Ac s]] (U 0) (fun r H'=>((∀it∈Ct s,it.2=0)∧H'=U (Ct s).length)∨∃k it,(Ct s)[k]? = some it∧it.2≠0∧(∀j,j<k→∃it',(Ct s)[j]? = some it'∧it'.2=0)∧H'=F k):=by
 refine Ae [] [0,1] Tryz.func148 Tryz.ntmps148 (fun d=>?_)
 refine Z2 ?_;refine A7 Tryz.call149 (APo s hs _) ?_;refine A5 ?_;refine A2 [0,1,3] ?_
 refine Bi (α:=Nat×Nat) (fun x=>⟨44,A6 0 (.yield l) (A6 1 (.ro [Ac s]) (A6 3 (A3 (x.2:Nat)) (fun _=>.any))),U x.1,[],[],none⟩) (fun x=>We s x.1 x.2) (fun x=>s.length-x.2) (0,gapM s) (r6 s) (N8 _) rfl (fun x hx=>?_)
 obtain ⟨k,p⟩:=x
 simp only at hx ⊢
 refine Z79 ?_;refine A2 [0,1,3,13] ?_
 refine A4 (fun ht13=>?_) (fun ht13=>?_)
 ·have hpl:p<s.length:=by simpa using ht13
  refine Tg ?_;refine Z1 ?_
  refine A5 (h:=Q.scutL p (fun _=>hx.2.1) (fun _=>Al _)) (hr:=?_)
  refine A7 Tryz.call150 (AS0 (s.drop p) (by rw [H9];omega) (by rw [H9];omega) _) ?_
  refine Z68 ?_;refine Z59 ?_;refine A2 [0,1,3,4,5,6,7] ?_;refine Z79 ?_;refine xw ?_;refine A5 ?_;refine R.yield0 (hy k _ (Sk hx hpl)) ?_
  intro b V hV hb
  refine Z38 ?_;refine A5 ?_;refine A2 [0,1,3,6,40] ?_
  refine A4 (fun ht40=>?_) (fun ht40=>?_)
  ·have hbe:(Cv (s.drop p)).2.2.2≠0∧V=F k:=by
    split at hb
    ·rename_i h0
     obtain ⟨rfl,_⟩:=hb
     have h0':(Cv (s.drop p)).2.2.2=0:=h0
     simp [h0'] at ht40
    rename_i h0
    exact ⟨h0,hb.2⟩
   refine Z34 ?_;refine Z26 ?_;exact A9 .nores (hp:=.inr ⟨k,_,Sk hx hpl,hbe.1,hx.2.2,hbe.2⟩)
  have hbe:(Cv (s.drop p)).2.2.2=0∧V=U (k+1):=by
   split at hb
   ·rename_i h0
    exact ⟨h0,hb.2⟩
   obtain ⟨rfl,_⟩:=hb
   simp at ht40
  obtain ⟨n,hn,hn1,hnl,hnx⟩:=r7 hx hpl hbe.1
  unfold wAt at hn
  rw [hn]
  have hgl:=qx (s.drop (p+n))
  rw [H9] at hgl
  refine Z3 ?_;refine Z21 ?_;refine Z0 ?_;refine A2 [0,1,3] ?_;refine Z13 ?_;refine Z49 ?_
  refine A5 (h:=Q.scutL (p+n) (fun _=>hnl) (fun _=>Al _)) (hr:=?_)
  refine A7 Tryz.call149 (APo (s.drop (p+n)) (by rw [H9];omega) _) ?_
  refine Z0 ?_;refine A2 [0,1,3] ?_;exact Bt (k+1,p+n+gapM (s.drop (p+n))) hnx (by show s.length-_<s.length-p;omega) (Dx (by rw [hbe.2];simp))
 have hpl:s.length≤p:=by simpa using ht13
 obtain ⟨hk,hz⟩:=ym hx hpl
 refine Z52 ?_;refine K.lpE ?_;exact F4 .nores (hp:=.inl ⟨hz,by rw [hk]⟩)

theorem AS3 (s:Str) (Hp:List AObj):AFun Tryz.prog 113 [Ac s] Hp (.fn (.func 148) [] [.ro [Ac s]]):=by
 refine Ae [.tmp 2] [0] Tryz.func113 Tryz.ntmps113 (fun d=>?_)
 refine Z92 ?_;refine pz ?_;exact AGk

def Bs (s:Str):List Tok×Int×Nat:=if 4000<s.length then ([],3,0) else
 match (Ct s).find? (fun it=>it.2 != 0) with
 | some it=>([],it.2,it.1.at_)
 | none=>((Ct s).map (·.1)++[⟨0,[],s.length⟩],0,0)
theorem AH5 {s:Str} {k:Nat} {it:Tok×Int} (hit:(Ct s)[k]? = some it) (he:it.2≠0) (h0:∀j,j<k→∃it',(Ct s)[j]? = some it'∧it'.2=0):(Ct s).find? (fun it=>it.2 != 0)=some it:=by
 rw [AB4]
 obtain ⟨hk,e⟩:=Ad.1 hit
 refine ⟨by simpa using he,k,hk,e,fun j hj=>?_⟩
 obtain ⟨it',h1,h2⟩:=h0 j hj
 rw [Ab (by omega)] at h1
 injection h1 with h1
 rw [h1,h2];rfl
theorem AD5 {s:Str} (h:∀it∈Ct s,it.2=0):(Ct s).find? (fun it=>it.2 != 0)=none:=by
 rw [N3]
 intro it hit
 simp [h it hit]
def dg (s:Str) (k:Nat):Int×Nat:=match (Ct s)[k]? with|some it=>(it.2,it.1.at_)|none=>(0,0)
theorem Ym:∀(f k:Nat) (s:Str),(K5 f k s).length≤f
 | 0,_,_=>Au _
 | f+1,k,s=>by
  rw [K5]
  split
  ·exact qd
  rw [B0]
  split
  ·have:=Ym f (k+(Cv s).2.2.1.toNat+gapM (s.drop (Cv s).2.2.1.toNat)) ((s.drop (Cv s).2.2.1.toNat).drop (gapM (s.drop (Cv s).2.2.1.toNat)))
   omega
  simp
theorem Yn (s:Str):(Ct s).length≤s.length+1:=Ym _ _ _
def Np (s:Str) (k:Nat):List Tok:=((Ct s).take k).map (·.1)
theorem V7 (s:Str) (k:Nat):(Np s k).length≤s.length+1:=by
 have:=Yn s
 unfold Np
 rw [Ah,C1]
 omega
theorem r8 {s:Str} {k:Nat} {it:Tok×Int} (hit:(Ct s)[k]? = some it):Np s (k+1)=Np s k++[it.1]:=by
 unfold Np
 rw [O6,hit,Bj]
 rfl
theorem yn (s:Str):Np s (Ct s).length=(Ct s).map (·.1):=by unfold Np;rw [Mp]
theorem yo {s:Str} {k:Nat} {it:Tok×Int} (hl4:¬4000<s.length) (hit:(Ct s)[k]? = some it) (he:it.2≠0) (h0:∀j,j<k→∃it',(Ct s)[j]? = some it'∧it'.2=0):Bs s=([],it.2,it.1.at_):=by
 unfold Bs
 rw [if_neg hl4,AH5 hit he h0]
theorem AD6 {s:Str} (hl4:¬4000<s.length) (hz:∀it∈Ct s,it.2=0):Bs s=(Np s (Ct s).length++[⟨0,[],s.length⟩],0,0):=by
 unfold Bs
 rw [if_neg hl4,AD5 hz,yn]
theorem c66 (s:Str) (hs:s.length≤1048576) (Hp:List AObj):AFun Tryz.prog 66 [Ac s] Hp (.tup [uc (Bs s).1,.agg [A3 (Bs s).2.1,A3 (Bs s).2.2]]):=by
 refine Ae [.cell 2 104,.cell 3 73] [0,5,6] Tryz.func66 Tryz.ntmps66 (fun d=>?_)
 refine xk ?_;refine A2 [0,2,3,5,6] ?_;refine Z29 ?_;refine A2 [0,2,3,5,6,9] ?_
 refine A4 (fun ht9=>?_) (fun ht9=>?_)
 ·have hlm:Bs s=([],3,0):=by unfold Bs;rw [if_pos (by simp at ht9;omega)]
  refine F0 ?_;refine Z22 ?_;refine L1 0 3 ?_;refine ABx ?_;refine Z34 ?_;exact A9 (B1 (Dw jA) (B6 jA jS)) ⟨by rw [hlm];rfl,rfl⟩
 have hl4:¬4000<s.length:=by simp at ht9;omega
 refine Z3 ?_;refine Z24 ?_;refine A2 [0,2,3,4,5,6] ?_;refine Z43 ?_;refine L1 2 3 ?_;refine A5 ?_;refine A7 Tryz.call113 (AS3 s _) ?_;refine A2 [0,2,3,4,5,6,12] ?_;refine K1 ?_
 refine L2 (m:=3) Tryz.call148 (fun FR as' bd' hFR has hbd=>?_)
 refine ⟨_,AS2 (oid Hp.length 4) s hs (fun k=>Hp++[AObj.cells 104 [AV.nil],AObj.cells 73 [A3 0,A3 0],AObj.cells 104 [AV.slice true 3 ((Np s k).map Ix)],AObj.defs,AObj.loop LoopState.ready none FR 32 #[13,14] as' bd' (oid Hp.length 3)]) (fun k=>Hp++[AObj.cells 104 [AV.nil],AObj.cells 73 [A3 (dg s k).1,A3 (dg s k).2],AObj.cells 104 [AV.slice true 3 ((Np s k).map Ix)],AObj.defs,AObj.loop LoopState.done (some Code.ret) FR 32 #[13,14] as' bd' (oid Hp.length 3)]) (fun k=>by simp) (by simp [oid]) (fun k it hit=>?_),?_⟩
 ·generalize hV:Hp++[AObj.cells 104 [AV.nil],AObj.cells 73 [A3 0,A3 0],AObj.cells 104 [AV.slice true 3 ((Np s k).map Ix)],AObj.defs,AObj.loop LoopState.ready none FR 32 #[13,14] as' bd' (oid Hp.length 3)]=V
  have hL:V[oid Hp.length 4]? = some (AObj.loop LoopState.ready none FR 32 #[13,14] as' bd' (oid Hp.length 3)):=by rw [←hV,Ar];rfl
  have hA0:V[oid Hp.length 2]? = some (AObj.cells 104 [AV.slice true 3 ((Np s k).map Ix)]):=by rw [←hV,Ar];rfl
  have hB0:V[oid Hp.length 0]? = some (AObj.cells 104 [AV.nil]):=by rw [←hV,Ar];rfl
  have hC0:V[oid Hp.length 1]? = some (AObj.cells 73 [A3 0,A3 0]):=by rw [←hV,Ar];rfl
  refine J8 (pd:=none) (fr:=FR) (sz:=32) (ps:=#[13,14]) (df:=oid Hp.length 3) (asg:=as') (bd:=bd') hL rfl (by decide) (fun d=>?_)
  subst hFR has hbd
  refine Fo [2,3,4,13,14] ?_;refine bo ?_;refine A2 [2,3,4,5,14] ?_;refine Z50 ?_;refine A2 [2,3,4,5,6] ?_
  refine ⟨rfl,none,hL,?_⟩
  generalize hbz:(AObj.loop LoopState.busy _ _ _ _ _ _ _)=bz
  have hA:(V.set (oid Hp.length 4) bz)[oid Hp.length 2]? = some (AObj.cells 104 [AV.slice true 3 ((Np s k).map Ix)]):=by rw [Bk (Bf (by decide))];exact hA0
  have hB:(V.set (oid Hp.length 4) bz)[oid Hp.length 0]? = some (AObj.cells 104 [AV.nil]):=by rw [Bk (Bf (by decide))];exact hB0
  have hC:(V.set (oid Hp.length 4) bz)[oid Hp.length 1]? = some (AObj.cells 73 [A3 0,A3 0]):=by rw [Bk (Bf (by decide))];exact hC0
  refine py ?_;refine A2 [2,3,4,5,6,16] ?_
  refine A4 (fun ht16=>?_) (fun ht16=>?_)
  ·have hne:it.2≠0:=by simpa using ht16
   refine Fd [0,0,2,7,0,31] [4] [.q 4 [] [],.s [] (some 0) [] []] (fun _=>V.set (oid Hp.length 4) bz) (fun _=>[AObj.cells 118 [A3 it.1.kind,Ac it.1.text,A3 it.1.at_]]) An (by kernel_rfl) rfl rfl (fun _=>rfl) ?_
   apply Y.q
   ·intro B hT hF
    refine Z35 ?_;exact ANl
   case hTF=>decide
   refine Y.storeUp (o:=oid Hp.length 0) (ys:=[.nil]) (t':=104) (cs:=[AV.nil]) (cs':=[AV.nil]) jS (fun _ _=>⟨hB,(Cm hB).symm,rfl,by simp⟩) ?_;refine Ej (tn:=[4]) (U:=V.set (oid Hp.length 4) bz) ?_
   refine Cx jS hC ?_ ?_
   ·simp
   refine xm ?_
   subst hbz
   refine K.rdR (ABp hL (Bf (by decide))) ?_
   rw [if_neg hne]
   refine ⟨rfl,?_⟩
   subst hV
   simp only [Cp,List.set_cons_succ,List.set_cons_zero]
   rw [show dg s k=(it.2,it.1.at_) by unfold dg;rw [hit]]
  have heq:it.2=0:=by simpa using ht16
  refine Z3 ?_;refine Ih ?_
  have hl3:=V7 s k
  refine AGq ?_
  refine E6 jU Tryz.type118 ?_ ?_ ?_
  ·simp [hl3,Tryz.t118];omega
  ·simp [hl3,Tryz.t118];omega
  refine Gm jS (getset hA) ?_ ?_
  ·simp [or_imp,forall_and]
  refine Z91 ?_
  subst hbz
  refine xy ?_
  rw [if_pos heq]
  refine ⟨rfl,?_⟩
  subst hV
  simp only [Cp,List.set_cons_succ,List.set_cons_zero]
  rw [r8 hit,Bj]
  rfl
 rintro r H' (⟨hz,rfl⟩|⟨k,it,hit,hne,h0,rfl⟩)
 ·refine ⟨Hp,_,_,_,rfl,rfl,fun h=>h,?_,rfl,by simp,?_⟩
  ·intro o ho
   have:o=oid Hp.length 3:=by simpa using ho
   subst this
   rw [Ar]
   rfl
  refine Z13 ?_;refine F0 ?_;refine Y0 jA ?_;refine Z0 ?_;refine xw ?_;refine Ti ?_
  refine E6 jU Tryz.type118 ?_ ?_ ?_
  ·have:=V7 s (Ct s).length;simp [Tryz.t118];omega
  ·have:=V7 s (Ct s).length;simp [Tryz.t118];omega
  refine lb ?_;refine Y1 jS ?_;refine Hh ?_;refine Z62 ?_;exact A9 (B1 (Dw jA) (B6 jA jS)) ⟨by rw [AD6 hl4 hz,uc,Bj];rfl,rfl⟩ (hlow:=by simp [or_imp,forall_and])
 refine ⟨Hp,_,_,_,rfl,rfl,fun h=>h,?_,rfl,by simp,?_⟩
 ·intro o ho
  have:o=oid Hp.length 3:=by simpa using ho
  subst this
  rw [Ar]
  rfl
 refine Uz 0 3 ?_;refine bn ?_;exact A9 (B1 (Dw jA) (B6 jA jS)) ⟨by rw [yo hl4 hit hne h0,show dg s k=(it.2,it.1.at_) by unfold dg;rw [hit]];rfl,rfl⟩

inductive Expr where
 | mk (op:Int) (text:Str) (val:Val) (kids:List Expr)
def Expr.op:Expr→Int|.mk o _ _ _=>o
def Expr.text:Expr→Str|.mk _ t _ _=>t
def Expr.val:Expr→Val|.mk _ _ v _=>v
def Expr.kids:Expr→List Expr|.mk _ _ _ k=>k
mutual
def Aa:Expr→AV
 | .mk o t v k=>.agg [.v (.int .i64 o),.v (sv t),.v (.int .i64 v.kind),.v (.int .i64 v.n),.v (sv v.s),.slice false 6 (V8 k)]
def V8:List Expr→List AV
  | []=>[]
  | e::r=>Aa e::V8 r
 end
theorem Yo:∀l,V8 l=l.map Aa
 | []=>rfl
 | e::r=>by rw [V8,Yo r];rfl
theorem Ap (e:Expr):Aa e=.agg [.v (.int .i64 e.op),.v (sv e.text),.v (.int .i64 e.val.kind),.v (.int .i64 e.val.n),.v (sv e.val.s),.slice false 6 (e.kids.map Aa)]:=by
 cases e with
 | mk o t v k=>rw [Aa,Yo];rfl
attribute [go_sem] Ap
def R8:Str:=[32,111,114,32,32,97,110,100,32,32,61,32,33,61,32,60,32,60,61,32,62,32,62,61,32,32,43,32,45,32,38,32,32,42,32,47,32,37,32]
def Pb (v:Val):Bool:=v.kind==0&&v.n==0&&v.s==[]
def F1 (e:Expr):Bool:=
 if e.op==1 then ((Er e.val&&decide (0≤e.val.n))&&(e.text==[]))&&((e.kids.length:Int)==0)
 else if e.op==2 then (Pb e.val&&Eb e.text)&&((e.kids.length:Int)==0)
 else if e.op==3 || e.op==4 then (Pb e.val&&(e.text==[]))&&((e.kids.length:Int)==1)
 else if e.op==5 then (Pb e.val&&R7 e.text R8)&&((e.kids.length:Int)==2)
 else if e.op==6 then Pb e.val&&(Cn e.text==(e.kids.length:Int))
 else false
theorem AS4 (e:Expr) (hs:e.text.length≤1048576) (Hp:List AObj):AFun Tryz.prog 140 [Aa e] Hp (B4 (F1 e)):=by
 refine ACall.body [.tmp 2] [0] Tryz.func140 Tryz.ntmps140 (fun d=>?_)
 refine Z92 ?_;refine Z1 ?_;refine xw ?_
 refine R.go (h:=Q.eqlAgg bv (Kh e.val.kind e.val.n 0 0 e.val.s [])) (hr:=?_)
 refine R.go ?_;refine R.fin [1,3] ?_;refine Z7 ?_;refine R.fin [1,3,9] ?_;refine X0 ?_;refine R.fin [1,3,9,10] ?_
 refine W.cond (fun ht10=>?_) (fun ht10=>?_)
 ·refine Z1 ?_;refine R.call Tryz.call93 (c93 e.val _) ?_;refine R.go ?_;refine Q5 ?_;refine il ?_;exact ABy
 refine Z1 ?_;refine R.fin [1,3,9,32] ?_
 refine W.cond (fun ht32=>?_) (fun ht32=>?_)
 ·refine Z1 ?_;refine Z6 ?_;refine G.call Tryz.call105 (fun hB=>ACt e.text hs _) ?_;exact ABy
 refine Z7 ?_;refine R.fin [1,3,9,46] ?_
 refine W.cond (fun ht46=>?_) (fun ht46=>?_)
 ·refine Z3 ?_
  refine W.cond (fun ht46=>?_) (fun ht46=>?_)
  ·refine Z1 ?_;refine Z77 ?_;exact ABy
  refine Z1 ?_;refine R.fin [1,3,9,61] ?_
  refine W.cond (fun ht61=>?_) (fun ht61=>?_)
  ·refine Z1 ?_;refine Z6 ?_;exact ANm
  refine Z1 ?_;refine R.fin [1,3,75] ?_
  refine W.cond (fun ht75=>?_) (fun ht75=>?_)
  ·refine AO7 ?_;refine Z87 ?_;refine H.call Tryz.call176 (fun hB=>ALa e.text _) ?_;refine Z87 ?_;refine H.go ?_;refine D.tail ?_;refine G.go ?_;exact AKp
  refine Z20 ?_;exact ANq
 refine Z21 ?_;refine R.fin [1,3,9,46] ?_;refine K.thN ?_
 refine W.cond (fun ht46=>?_) (fun ht46=>?_)
 ·refine Z1 ?_;refine Z77 ?_;exact ABy
 refine Z1 ?_;refine R.fin [1,3,9,61] ?_
 refine W.cond (fun ht61=>?_) (fun ht61=>?_)
 ·refine Z1 ?_;refine Z6 ?_;exact ANm
 refine Z1 ?_;refine R.fin [1,3,75] ?_
 refine W.cond (fun ht75=>?_) (fun ht75=>?_)
 ·refine AO7 ?_;refine Z87 ?_;refine H.call Tryz.call176 (fun hB=>ALa e.text _) ?_;refine Z87 ?_;refine H.go ?_;refine D.tail ?_;refine G.go ?_;exact AKp
 refine Z20 ?_;exact ANq

mutual
def C3 (d:Int):Expr→List (Int×Expr)
 | .mk o t v k=>(d,.mk o t v k)::C0 (d+1) k
def C0 (d:Int):List Expr→List (Int×Expr)
  | []=>[]
  | e::r=>C3 d e++C0 d r
 end
theorem K6 (d:Int) (e:Expr):C3 d e=(d,e)::C0 (d+1) e.kids:=by cases e;rfl
theorem Nf (d:Int):∀a b,C0 d (a++b)=C0 d a++C0 d b
 | [],b=>rfl
 | e::r,b=>by rw [Dh,C0,C0,Nf d r b,Ax]
theorem ln (d:Int) (l:List Expr) {x:Nat} (h:x<l.length):C0 d (l.take (x+1))=C0 d (l.take x)++C3 d l[x]:=by
 rw [J4 h,Nf]
 simp [C0]
theorem Tl (d:Int) (l:List Expr) {x:Nat} (h:x<l.length):C0 d l=C0 d (l.take x)++(C3 d l[x]++C0 d (l.drop (x+1))):=by
 have e:l=l.take x++(l[x]::l.drop (x+1)):=by rw [←J1 h,tr]
 conv=>lhs;rw [e]
 rw [Nf,C0]
mutual
def sizeE:Expr→Nat
 | .mk _ _ _ k=>1+Eg k
def Eg:List Expr→Nat
  | []=>0
  | e::r=>sizeE e+Eg r
 end
theorem Tm (e:Expr):sizeE e=1+Eg e.kids:=by cases e;rfl
theorem dh:∀(l:List Expr) {x:Nat} (h:x<l.length),sizeE l[x]≤Eg l
 | e::r,0,_=>by simp only [List.getElem_cons_zero,Eg];omega
 | e::r,x+1,h=>by
  have:=dh r (x:=x) (by simpa using h)
  simp only [List.getElem_cons_succ,Eg]
  omega
/-- Each node has few kids. -/
def okE:Nat→Expr→Prop
 | 0,_=>False
 | n+1,e=>e.text.length≤1048576∧e.kids.length≤1048576∧∀y∈e.kids,okE n y
/-- Who takes what a tree yields: item k is taken at U k; it goes on (go k) to U (k + 1), or ends at F k. Behind U k there may stand others' objects. -/
structure Takes (P:Program) (l:Nat) (L:List (Int×Expr)) (go:Nat→Bool) (U F:Nat→List AObj) (n0:Nat):Prop where
 lenU:∀k,(U k).length=n0
 lenF:∀k,(F k).length=n0
 lowU:∀k,∀x∈U k,ObjLow n0 x
 lowF:∀k,∀x∈F k,ObjLow n0 x
 lt:l<n0
 y:∀(X:List AObj) (k:Nat) (it:Int×Expr),L[k]? = some it→(∀j,j<k→go j=true)→AYield P l [A3 it.1,Aa it.2] (U k++X) (fun b H'=>b=go k∧H'=(if go k then U (k+1) else F k)++X)
theorem ObjLow.le {m m':Nat} (h:m≤m') {x:AObj} (hx:ObjLow m x):ObjLow m' x:=by
 cases x with
 | cells t cs=>exact fun y hy=>(hx y hy).mono h
 | loop s pd fr sz ps as' bd df=>exact ⟨fun s=>(hx.1 s).mono h,Gi hx.2 h⟩
 | defs=>trivial
 | dead=>trivial
 | bld _ _ _=>trivial
 | gone=>trivial
/-- What the walk over n items from k0 on comes to. -/
def lq (go:Nat→Bool) (U F:Nat→List AObj) (k0 n:Nat) (X:List AObj):AV→List AObj→Prop:=fun r H' =>
 ((∀j,j<n→go (k0+j)=true)∧r=B4 true∧H'=U (k0+n)++X)∨(∃j,j<n∧(∀i,i<j→go (k0+i)=true)∧go (k0+j)=false∧r=B4 false∧H'=F (k0+j)++X)
mutual
theorem Ak (m:Nat):∀e,Low m (Aa e)
 | .mk o t v k=>by
  rw [Aa]
  refine .agg _ fun y hy=>?_
  simp only [B3,E5,or_false] at hy
  rcases hy with rfl|rfl|rfl|rfl|rfl|rfl
  ·exact .v _
  ·exact .v _
  ·exact .v _
  ·exact .v _
  ·exact .v _
  exact low_slice.2 (Yp m k)
theorem Yp (m:Nat):∀l,∀y∈V8 l,Low m y
  | [],y,hy=>by cases hy
  | e::r,y,hy=>by
    rw [V8] at hy
    rcases B3.1 hy with rfl|h
    · exact Ak m e
    exact Yp m r y h
 end
theorem Tn {V O A B own:List AObj} (h:V++O=A++(B++own)) (hl:V.length=(A++B).length):V=A++B∧O=own:=by
 rw [←Ax] at h
 exact J0 h hl
theorem Id {m:Nat} {A X:List AObj} (hA:∀x∈A,ObjLow m x) (hX:∀x∈X,ObjLow m x):∀x∈A++X,ObjLow m x:=fun x hx=>by
 rcases El.1 hx with h|h
 ·exact hA x h
 exact hX x h
theorem r9 {P:Program} {l:Nat} {L:List (Int×Expr)} {go:Nat→Bool} {U F:Nat→List AObj} {n0 k n K:Nat} {X own V O:List AObj} {r:AV} (T:Takes P l L go U F n0) (hV:V.length=(U K++X).length) (hp:lq go U F k n (X++own) r (V++O)):
  ∃b,r=B4 b∧O=own∧(if b then (∀j,j<n→go (k+j)=true)∧V=U (k+n)++X else ∃j,j<n∧(∀i,i<j→go (k+i)=true)∧go (k+j)=false∧V=F (k+j)++X)∧((∀x∈U K++X,ObjLow V.length x)→∀x∈V,ObjLow V.length x):=by
 have hn:n0≤V.length:=by rw [hV,Ai,T.lenU];omega
 rcases hp with ⟨h1,h2,h3⟩|⟨j,hj,h1,h2,h3,h4⟩
 ·obtain ⟨e1,e2⟩:=Tn h3 (by rw [hV];simp [T.lenU])
  refine ⟨true,h2,e2,⟨h1,e1⟩,fun h=>?_⟩
  rw [e1] at h ⊢
  exact Id (fun x hx=>ObjLow.le (by rw [Ai,T.lenU];omega) (T.lowU _ x hx)) (fun x hx=>h x (T5 _ hx))
 obtain ⟨e1,e2⟩:=Tn h4 (by rw [hV];simp [T.lenU,T.lenF])
 refine ⟨false,h3,e2,⟨j,hj,h1,h2,e1⟩,fun h=>?_⟩
 rw [e1] at h ⊢
 exact Id (fun x hx=>ObjLow.le (by rw [Ai,T.lenF];omega) (T.lowF _ x hx)) (fun x hx=>h x (T5 _ hx))
theorem lr (d:Int) (l:List Expr) {x:Nat} (h:x<l.length):(C0 d (l.take (x+1))).length=(C0 d (l.take x)).length+(C3 d l[x]).length:=by rw [ln d l h,Ai]
theorem AD7 {d0:Int} {e:Expr} {x:Nat} (h:x<e.kids.length) {j:Nat} {it:Int×Expr} (hj:(C3 (d0+1) e.kids[x])[j]? = some it):(C3 d0 e)[1+(C0 (d0+1) (e.kids.take x)).length+j]? = some it:=by
 rw [K6 d0 e,show 1+(C0 (d0+1) (e.kids.take x)).length+j=((C0 (d0+1) (e.kids.take x)).length+j)+1 by omega,S6,Tl (d0+1) e.kids h,Dn (by omega)]
 rw [show (C0 (d0+1) (e.kids.take x)).length+j-(C0 (d0+1) (e.kids.take x)).length=j by omega,Dm (Ad.1 hj).1]
 exact hj
theorem yp (d0:Int) (e:Expr) {x:Nat} (h:x<e.kids.length):1+(C0 (d0+1) (e.kids.take x)).length+(C3 (d0+1) e.kids[x]).length≤(C3 d0 e).length:=by
 rw [K6 d0 e,B0,Tl (d0+1) e.kids h]
 simp only [Ai]
 omega
theorem AS5 {l:Nat} {L:List (Int×Expr)} {go:Nat→Bool} {U F:Nat→List AObj} {n0:Nat} (T:Takes Tryz.prog l L go U F n0):∀(n:Nat) (e:Expr),okE n e→∀(d0:Int) (k0:Nat) (X:List AObj),0≤d0→d0+n≤1099511627776→(∀(j:Nat) (it:Int×Expr),(C3 d0 e)[j]? = some it→L[k0+j]? = some it)→(∀j,j<k0→go j=true)→ACall Tryz.prog 174 [Aa e,A3 d0,.yield l] (U k0++X) (lq go U F k0 (C3 d0 e).length X):=by
 intro n
 induction n with
 | zero=>exact fun e h=>h.elim
 | succ n ih =>
 intro e hok d0 k0 X hd hdn hit hgo
 have hlen0:(U k0++X).length=n0+X.length:=by rw [Ai,T.lenU]
 refine Ae [.tmp 6] [0,1,2] Tryz.func174 Tryz.ntmps174 (fun d=>?_)
 refine Z1 ?_;refine A2 [1,2,3] ?_;refine Z29 ?_
 refine R.yield0 (T.y X k0 (d0,e) (hit 0 _ (by rw [K6];rfl)) hgo) ?_
 intro b Vv hV hb
 refine A5 ?_;refine A2 [1,2,3,13] ?_
 refine A4 (fun ht13=>?_) (fun ht13=>?_)
 ·have hb':b=false:=by simpa using ht13
  subst hb'
  refine Z2 ?_;refine pw ?_;exact A9 (Ao A8) (Or.inr ⟨0,by rw [K6];simp,fun i hi=>by omega,hb.1.symm,rfl,by have:=hb.2;rw [show go k0=false from hb.1.symm] at this;exact this⟩)
 have hb':b=true:=by simpa using ht13
 subst hb'
 have hgo0:go (k0+0)=true:=hb.1.symm
 have hVe:Vv=U (k0+1)++X:=by have:=hb.2;rw [show go k0=true from hb.1.symm] at this;exact this
 subst hVe
 have h0x:0≤e.kids.length∧∀j,j<1+(C0 (d0+1) (e.kids.take 0)).length→go (k0+j)=true:=⟨Au _,fun j hj=>by
  have:j=0:=by simp [C0] at hj;omega
  subst this
  exact hgo0⟩
 refine Z3 ?_;refine Z79 ?_;refine A2 [1,2,15,16,17] ?_
 refine Bi (α:=Nat) (fun x=>⟨28,A6 1 (A3 d0) (A6 2 (.yield l) (A6 15 (.slice false 6 (e.kids.map Aa)) (A6 16 (A3 e.kids.length) (A6 17 (A3 (x:Nat)) (fun _=>.any))))),U (k0+(1+(C0 (d0+1) (e.kids.take x)).length))++X,[],[],none⟩) (fun x=>x≤e.kids.length∧∀j,j<1+(C0 (d0+1) (e.kids.take x)).length→go (k0+j)=true) (fun x=>e.kids.length-x) (0) h0x (Bo (by simp [C0])) rfl (fun x hx=>?_)
 refine Z2 ?_;refine A2 [1,2,15,16,17,18] ?_
 refine Ck (fun ht18=>?_) (fun ht18=>?_)
 ·have hlt:x<e.kids.length:=by simpa using ht18
  have hkl:=hok.2.1
  refine Z73 ?_
  refine A5 (h:=Ag (x) (Aa e.kids[x]) (fun _=>B7 hlt)) (hr:=?_)
  refine Z99 ?_;refine A2 [1,2,8,15,16,17] ?_;refine Z23 ?_
  refine R.callG Tryz.call174 (args:=[Aa e.kids[x],A3 (d0+1),.yield l]) (by rw [Ax];exact ih e.kids[x] (hok.2.2 _ (Bl hlt)) (d0+1) (k0+(1+(C0 (d0+1) (e.kids.take x)).length)) (X++_) (by omega) (by omega) (fun j it hj=>by have:=hit _ it (AD7 hlt hj);rwa [←Li] at this) (fun j hj=>by rcases Bw j k0 with h|h;exact hgo j h;have:=hx.2 (j-k0) (by omega);rwa [show k0+(j-k0)=j by omega] at this)) ?_
  intro r Vv O hV hp
  obtain ⟨b,rfl,rfl,hc,hlowV⟩:=r9 T hV hp
  refine ⟨hlowV,fun o ho=>by simp at ho,?_⟩
  refine A5 ?_;refine A2 [1,2,15,16,17,26] ?_
  refine A4 (fun ht26=>?_) (fun ht26=>?_)
  ·have hb':b=false:=by simpa using ht26
   subst hb'
   obtain ⟨j,hj,h1,h2,h3⟩:=hc
   refine Z2 ?_;refine Z75 ?_;refine Z48 ?_
   have hil:=yp d0 e hlt
   refine A9 (Ao A8) (Or.inr ⟨1+(C0 (d0+1) (e.kids.take x)).length+j,by omega,fun i hi=>?_,by rwa [Li] at h2,rfl,by rwa [Li] at h3⟩)
   rcases Bw i (1+(C0 (d0+1) (e.kids.take x)).length) with h|h
   ·exact hx.2 i h
   have:=h1 (i-(1+(C0 (d0+1) (e.kids.take x)).length)) (by omega)
   rwa [show k0+(1+(C0 (d0+1) (e.kids.take x)).length)+(i-(1+(C0 (d0+1) (e.kids.take x)).length))=k0+i by omega] at this
  have hb':b=true:=by simpa using ht26
  subst hb'
  obtain ⟨h1,h3⟩:=hc
  refine Z70 ?_;refine A2 [1,2,15,16,17] ?_
  subst h3
  have hll:=lr (d0+1) e.kids hlt
  have e1:k0+(1+(C0 (d0+1) (e.kids.take (x+1))).length)=k0+(1+(C0 (d0+1) (e.kids.take x)).length)+(C3 (d0+1) e.kids[x]).length:=by omega
  refine Bt (x+1) ⟨hlt,fun j hj=>?_⟩ (by omega) ?_
  ·rcases Bw j (1+(C0 (d0+1) (e.kids.take x)).length) with h|h
   ·exact hx.2 j h
   have:=h1 (j-(1+(C0 (d0+1) (e.kids.take x)).length)) (by omega)
   rwa [show k0+(1+(C0 (d0+1) (e.kids.take x)).length)+(j-(1+(C0 (d0+1) (e.kids.take x)).length))=k0+j by omega] at this
  simp only [e1]
  exact D0 (own:=[]) (fun _=>.refl _) (by repeat (first|exact Bb|refine Ba (by first|(simp [Ak];done)|(have:=T.lt;simp [T.lenU];omega)) ?_)) (by simp) (by simp)
 have hxe:e.kids.take x=e.kids:=E9 (by simp at ht18;omega)
 refine qc ?_;refine Z75 ?_
 have hl2:(C3 d0 e).length=1+(C0 (d0+1) (e.kids.take x)).length:=by rw [K6,hxe,B0];omega
 exact A9 (Ao A8) (Or.inl ⟨fun j hj=>hx.2 j (by omega),rfl,by rw [hl2]⟩)

def L3:=@ObjLow.le
abbrev Ex (e:Expr):List AV:=[.v (.int .i64 e.op),.v (sv e.text),.v (.int .i64 e.val.kind),.v (.int .i64 e.val.n),.v (sv e.val.s),.slice false 6 (e.kids.map Aa)]
/-- What taking all of a tree comes to. -/
def Nq (go:Nat→Bool) (U F:Nat→List AObj) (n:Nat) (H':List AObj):Prop:=
 ((∀j,j<n→go j=true)∧H'=U n)∨(∃j,j<n∧(∀i,i<j→go i=true)∧go j=false∧H'=F j)
theorem ALg {l:Nat} {e:Expr} {go:Nat→Bool} {U F:Nat→List AObj} {n0:Nat} (T:Takes Tryz.prog l (C3 1 e) go U F n0) (n:Nat) (hok:okE n e) (hn:n≤1048576):ACall Tryz.prog 173 [.yield l,.ro (Ex e)] (U 0) (fun r H'=>Nq go U F (C3 1 e).length H'):=by
 refine Ae [] [0,1] Tryz.func173 Tryz.ntmps173 (fun d=>?_)
 refine Z21 ?_;refine R.callG Tryz.call174 (args:=[Aa e,A3 1,.yield l]) (AS5 T n e hok 1 0 [] (by omega) (by omega) (fun j it hj=>by rwa [Bz]) (fun j hj=>by omega)) ?_
 intro r Vv O hV hp
 have hO:O=[]:=by
  have h1:(Vv++O).length=n0:=by rcases hp with ⟨_,_,h⟩|⟨j,_,_,_,_,h⟩<;>rw [h]<;>simp [T.lenU,T.lenF]
  have h2:=T.lenU 0
  rw [Ai,hV,h2] at h1
  exact ga (by omega)
 subst hO
 rw [H4] at hp
 have hq:Nq go U F (C3 1 e).length Vv:=by
  rcases hp with ⟨h1,_,h⟩|⟨j,h1,h2,h3,_,h⟩
  ·exact .inl ⟨fun j hj=>by have:=h1 j hj;rwa [Bz] at this,by rw [h];simp⟩
  exact .inr ⟨j,h1,fun i hi=>by have:=h2 i hi;rwa [Bz] at this,by rwa [Bz] at h3,by rw [h];simp⟩
 refine ⟨fun h=>?_,fun o ho=>by simp at ho,?_⟩
 ·rcases hq with ⟨_,h⟩|⟨j,_,_,_,h⟩<;>rw [h]
  ·rw [T.lenU];exact T.lowU _
  rw [T.lenF];exact T.lowF _
 refine Mk ?_;exact F4 .nores (hp:=hq)

theorem AS6 (e:Expr) (Hp:List AObj):AFun Tryz.prog 139 [Aa e] Hp (.fn (.func 173) [] [.ro (Ex e)]):=by
 refine Ae [.tmp 2] [0] Tryz.func139 Tryz.ntmps139 (fun d=>?_)
 refine Z92 ?_;refine pz ?_;refine Z4 ?_;exact A9 (Ao A8) (hlow:=by have:=Ak Hp.length e;rw [Ap] at this;simpa using this)

def goM (e:Expr) (k:Nat):Bool:=match (C3 1 e)[k]? with
 | some it => !((!F1 it.2 || decide ((30:Int)<it.1)) || decide ((300:Int)<(k:Int)+1))
 | none=>true
def Az (e:Expr):Bool:=(List.range (C3 1 e).length).all (goM e)
mutual
theorem di:∀(n:Nat) (e:Expr),okE n e→∀d,∀it∈C3 d e,it.2.text.length≤1048576
 | 0,_,h,_,_,_=>h.elim
 | n+1,e,h,d,it,hit=>by
  rw [K6] at hit
  rcases B3.1 hit with rfl|h'
  ·exact h.1
  exact dj n e.kids h.2.2 (d+1) it h'
 termination_by n e=>(n,0)
theorem dj:∀(n:Nat) (l:List Expr),(∀y∈l,okE n y)→∀d,∀it∈C0 d l,it.2.text.length≤1048576
  | n,[],_,_,_,h=>by cases h
  | n,e::r,h,d,it,hit=>by
    rw [C0] at hit
    rcases El.1 hit with h'|h'
    · exact di n e (h e (by simp)) d it h'
    exact dj n r (fun y hy=>h y (by simp [hy])) d it h'
  termination_by n l=>(n,l.length+1)
 end
theorem rc {U:List AObj} {i j:Nat} {x y:AObj} (h:U[i]? = some x) (hne:j≠i):(U.set j y)[i]? = some x:=by rw [Bk hne];exact h
theorem ALh {e:Expr} {k:Nat} {it:Int×Expr} (hit:(C3 1 e)[k]? = some it) (h:∀j,j<k→goM e j=true):(k:Int)≤300:=by
 rcases Nat.eq_zero_or_pos k with h0|h0
 ·omega
 have hl:=(Ad.1 hit).1
 have:=h (k-1) (by omega)
 unfold goM at this
 rw [Ab (by omega)] at this
 simp at this
 omega
theorem j9 {e:Expr} {k:Nat} {it:Int×Expr} (hit:(C3 1 e)[k]? = some it):goM e k = !((!F1 it.2 || decide ((30:Int)<it.1)) || decide ((300:Int)<(k:Int)+1)):=by
 unfold goM;rw [hit]
theorem c96 (n:Nat) (e:Expr) (hok:okE n e) (hn:n≤1048576) (Hp:List AObj):AFun Tryz.prog 96 [Aa e] Hp (B4 (Az e)):=by
 refine Ae [.cell 2 4] [0,4,5] Tryz.func96 Tryz.ntmps96 (fun d=>?_)
 refine ACc ?_;refine A2 [1,2,4,5] ?_;refine bo ?_;refine A2 [1,2,3,4,5] ?_;refine Z43 ?_
 refine Jx (fun hlow=>?_)
 refine AKx ?_;refine A2 [2,3,4,5,7] ?_;refine K1 ?_
 refine L2 (m:=2) Tryz.call173 (fun FR as' bd' hFR has hbd=>?_)
 have hFRl:∀s,Low (Hp.length+4) (FR s):=by
  intro s
  rw [hFR]
  refine Lz ?_
  revert s
  repeat (first|exact Bb|refine Ba (by simp [oid,Ak]<;>try omega) ?_)
 have hOl:∀{k:Nat},∀x∈[AObj.cells 4 [B4 false],AObj.cells 3 [A3 (k:Nat)],AObj.defs,AObj.loop LoopState.ready none FR 23 #[8,9] as' bd' (oid Hp.length 2)],ObjLow (Hp.length+4) x:=by
  intro k x hx
  simp only [B3,E5,or_false] at hx
  rcases hx with rfl|rfl|rfl|rfl
  ·exact AGd
  ·exact AGd
  ·trivial
  exact ACg
 have hOf:∀{k:Nat},∀x∈[AObj.cells 4 [B4 false],AObj.cells 3 [A3 ((k:Nat)+1)],AObj.defs,AObj.loop LoopState.done (some Code.ret) FR 23 #[8,9] as' bd' (oid Hp.length 2)],ObjLow (Hp.length+4) x:=by
  intro k x hx
  simp only [B3,E5,or_false] at hx
  rcases hx with rfl|rfl|rfl|rfl
  ·exact AGd
  ·exact AGd
  ·trivial
  exact ACg
 refine ⟨fun _ H'=>Nq (goM e) (fun k=>Hp++[AObj.cells 4 [B4 false],AObj.cells 3 [A3 (k:Nat)],AObj.defs,AObj.loop LoopState.ready none FR 23 #[8,9] as' bd' (oid Hp.length 2)]) (fun k=>Hp++[AObj.cells 4 [B4 false],AObj.cells 3 [A3 ((k:Nat)+1)],AObj.defs,AObj.loop LoopState.done (some Code.ret) FR 23 #[8,9] as' bd' (oid Hp.length 2)]) (C3 1 e).length H',ALg (l:=oid Hp.length 3) (go:=goM e) (U:=fun k=>Hp++[AObj.cells 4 [B4 false],AObj.cells 3 [A3 (k:Nat)],AObj.defs,AObj.loop LoopState.ready none FR 23 #[8,9] as' bd' (oid Hp.length 2)]) (F:=fun k=>Hp++[AObj.cells 4 [B4 false],AObj.cells 3 [A3 ((k:Nat)+1)],AObj.defs,AObj.loop LoopState.done (some Code.ret) FR 23 #[8,9] as' bd' (oid Hp.length 2)]) (n0:=Hp.length+4) ⟨fun k=>by simp,fun k=>by simp,fun k x hx=>?_,fun k x hx=>?_,by simp [oid],fun X k it hit hgo=>?_⟩ n hok hn,?_⟩
 ·exact ACh
 ·exact Id (fun x hx=>L3 (by omega) (hlow x hx)) hOf x hx
 ·have hk3:=ALh hit hgo
  generalize hV:(Hp++[AObj.cells 4 [B4 false],AObj.cells 3 [A3 (k:Nat)],AObj.defs,AObj.loop LoopState.ready none FR 23 #[8,9] as' bd' (oid Hp.length 2)]++X)=V
  have hL:V[oid Hp.length 3]? = some (AObj.loop LoopState.ready none FR 23 #[8,9] as' bd' (oid Hp.length 2)):=by rw [←hV,Ax,Ar];rfl
  have hA0:V[oid Hp.length 1]? = some (AObj.cells 3 [A3 (k:Nat)]):=by rw [←hV,Ax,Ar];rfl
  have hB0:V[oid Hp.length 0]? = some (AObj.cells 4 [B4 false]):=by rw [←hV,Ax,Ar];rfl
  refine J8 (pd:=none) (fr:=FR) (sz:=23) (ps:=#[8,9]) (df:=oid Hp.length 2) (asg:=as') (bd:=bd') hL rfl (by decide) (fun d=>?_)
  subst hFR has hbd
  refine Fo [2,3,8,9] ?_;refine Z2 ?_;refine A2 [2,3,4,9] ?_;refine AC8 ?_;refine A2 [2,3,4,5] ?_
  refine ⟨rfl,none,hL,?_⟩
  generalize hbz:(AObj.loop LoopState.busy _ _ _ _ _ _ _)=bz
  have hA:(V.set (oid Hp.length 3) bz)[oid Hp.length 1]? = some (AObj.cells 3 [A3 (k:Nat)]):=by rw [Bk (Bf (by decide))];exact hA0
  have hB:(V.set (oid Hp.length 3) bz)[oid Hp.length 0]? = some (AObj.cells 4 [B4 false]):=by rw [Bk (Bf (by decide))];exact hB0
  refine K1 ?_;refine F0 ?_
  refine A5 (h:=Bd hA) (hr:=?_)
  refine A5 ?_
  refine Cx jS hA ?_ ?_
  ·simp
  refine A2 [2,3,4,5] ?_;refine Z2 ?_;refine A7 Tryz.call140 (AS4 it.2 (di n e hok 1 it (Aw hit)) _) ?_;refine Z38 ?_;refine Z0 ?_
  refine Cw (h:=Bd (getset hA)) (hr:=?_)
  refine Z55 ?_;refine A2 [2,22] ?_
  refine A4 (fun ht22=>?_) (fun ht22=>?_)
  ·have hgf:goM e k=false:=by rw [j9 hit,ht22];rfl
   refine F0 ?_
   refine Cx jS (rc (j:=oid Hp.length 1) hB (Bf (by decide))) ?_ ?_
   ·simp
   refine Mk ?_;refine Fc ?_;refine K.blR ?_
   subst hbz
   refine xz ?_
   refine ⟨hgf.symm,?_⟩
   rw [if_neg (by rw [hgf];simp)]
   subst hV
   simp only [Ax,Cp,Dh,D9,List.set_cons_succ,List.set_cons_zero]
   try rfl
  have hgt:goM e k=true:=by rw [j9 hit,ht22];rfl
  refine px ?_
  subst hbz
  refine ACi ?_
  refine ⟨hgt.symm,?_⟩
  rw [if_pos hgt]
  subst hV
  simp only [Ax,Cp,Dh,D9,List.set_cons_succ,List.set_cons_zero]
  try rfl
 rintro r H' (⟨h1,rfl⟩|⟨j,hj,h1,h2,rfl⟩)
 ·refine ⟨Hp,_,_,_,rfl,rfl,fun h=>h,?_,rfl,by simp,?_⟩
  ·intro o ho
   have:o=oid Hp.length 2:=by simpa using ho
   subst this
   rw [Ar]
   rfl
  refine Z13 ?_;refine F0 ?_;refine Z40 ?_;exact A9 (Ao (Dw jA)) ⟨by rw [show Az e=true from B5.2 fun j hj=>h1 j (Qv.1 hj)],rfl⟩
 refine ⟨Hp,_,_,_,rfl,rfl,fun h=>h,?_,rfl,by simp,?_⟩
 ·intro o ho
  have:o=oid Hp.length 2:=by simpa using ho
  subst this
  rw [Ar]
  rfl
 refine bn ?_;exact A9 (Ao (Dw jA)) ⟨by rw [show Az e=false from List.all_eq_false.2 ⟨j,Qv.2 hj,by rw [h2];simp⟩],rfl⟩

def D6 (s:Str):Expr:=.mk 2 s ⟨0,0,[]⟩ []
theorem ls (s:Str):Le (.agg [A3 2,Ac s,A3 0,A3 0,Ac [],.nil]) (Aa (D6 s)):=by
 rw [Ap]
 refine .agg _ _ rfl (by simp [AV.one,Value.oneCell',sv]) fun i y y' h1 h2=>?_
 match i with
 | 0=>simp at h1 h2;subst h1;subst h2;exact .inl rfl
 | 1=>simp at h1 h2;subst h1;subst h2;exact .inl rfl
 | 2=>simp at h1 h2;subst h1;subst h2;exact .inl rfl
 | 3=>simp at h1 h2;subst h1;subst h2;exact .inl rfl
 | 4=>simp at h1 h2;subst h1;subst h2;exact .inl rfl
 | 5=>simp at h1 h2;subst h1;subst h2;exact .inr ⟨rfl,6,rfl⟩
 | i+6=>simp at h1
theorem lu (s:Str) (h:s.length≤1048576):okE 1 (D6 s):=⟨h,by simp [D6,Expr.kids],fun y hy=>by cases hy⟩
def V9 (c:List Col) (x:Nat) (y:Col):Bool := !(((!Az (D6 y.name)) || (Db y.kind==[])) || (Ay y.name c != (x:Int)))
def Jb (c:List Col):Bool:=c.zipIdx.all fun x=>V9 c x.2 x.1
theorem colsP_true {c:List Col}:Jb c=true↔∀(j:Nat) (y:Col),c[j]? = some y→V9 c j y=true:=Sg
theorem c50 (c:List Col) (hc:OkCols c) (Hp:List AObj):AFun Tryz.prog 50 [Am c] Hp (B4 (Jb c)):=by
 refine Ae [.tmp 2] [0] Tryz.func50 Tryz.ntmps50 (fun d=>?_)
 refine la ?_;refine A2 [0,5,6,7] ?_
 refine Bi (α:=Nat) (fun x=>⟨32,A6 0 (Am c) (A6 5 (Am c) (A6 6 (A3 c.length) (A6 7 (A3 (x:Nat)) (fun _=>.any)))),Hp,[],[],none⟩) (fun x=>x≤c.length∧∀(j:Nat) (y:Col),j<x→c[j]? = some y→V9 c j y=true) (fun x=>c.length-x) (0) (by simp) (Bo (by simp)) rfl (fun x hx=>?_)
 refine Z2 ?_;refine A2 [0,5,6,7,8] ?_
 refine Ck (fun ht8=>?_) (fun ht8=>?_)
 ·have hlt:x<c.length:=by simpa using ht8
  have hcl:=hc.len
  refine Rh ?_
  refine A5 (h:=Ag (x) (Cc c[x]) (fun _=>B7 hlt)) (hr:=?_)
  refine l7 ?_;refine A2 [0,3,4,5,6,7] ?_;refine AKj ?_;refine R.wk 14 _ (ls c[x].name) ?_;refine A7 Tryz.call96 (c96 1 (D6 c[x].name) (lu _ (hc.names _ (Bl hlt))) (by decide) _) ?_;refine Z38 ?_;refine Ca Tryz.call97 (fun hB=>c97 c[x].kind _) ?_;refine Cw ?_;refine il ?_;refine Ca Tryz.call60 (fun hB=>c60 c hc c[x].name _) ?_;refine ip ?_;refine A2 [0,5,6,7,30] ?_
  refine A4 (fun ht30=>?_) (fun ht30=>?_)
  ·refine xp ?_
   exact A9 (Ao A8) ⟨by rw [show Jb c=false from Ky.2 fun h=>by have:=colsP_true.1 h x c[x] (Ab hlt);unfold V9 at this;rw [ht30] at this;cases this],rfl⟩
  refine Z70 ?_;refine A2 [0,5,6,7] ?_
  refine Bt (x+1) ⟨hlt,K3 hlt hx.2 (by unfold V9;rw [ht30];rfl)⟩ (by omega) ?_
  exact D0 (own:=[]) (fun _=>.refl _) (by repeat (first|exact Bb|refine Ba (by simp) ?_)) (by simp) (by simp)
 refine Z27 ?_;refine Z46 ?_;exact A9 (Ao A8) ⟨by rw [colsP_true.2 (R6 (by simp at ht8;omega) hx.2)],rfl⟩

def Yq (c:List Col):Bool:=decide ((c.length:Int)≤12)&&Jb c
theorem APp (c:List Col) (hc:OkCols c) (Hp:List AObj):AFun Tryz.prog 125 [Am c] Hp (B4 (Yq c)):=by
 refine Ae [.tmp 2] [0] Tryz.func125 Tryz.ntmps125 (fun d=>?_)
 refine Z42 ?_;refine xu ?_;refine Ca Tryz.call50 (fun hB=>c50 c hc _) ?_;refine Z66 ?_;exact A9 (Ao A8) ⟨by unfold Yq;simp,rfl⟩

theorem ja (s:Str) (h:s≠[]):Lib.contains [] s=false:=by
 cases s with
 | nil=>exact absurd rfl h
 | cons a r=>rfl
theorem contains_cons (b:UInt8) (l s:Str):Lib.contains (b::l) s=(s.isPrefixOf (b::l) || Lib.contains l s):=by
 unfold Lib.contains
 have hge:=Lib.index_ge l s
 rw [Lib.index]
 by_cases hp:s.isPrefixOf (b::l)=true
 ·rw [if_pos hp,hp];rfl
 rw [if_neg hp]
 have hp':s.isPrefixOf (b::l)=false:=Ky.2 hp
 rw [hp',Fb]
 by_cases hi:Lib.index l s = -1
 ·rw [hi];rfl
 have:(Lib.index l s == -1)=false:=by simpa using hi
 rw [this,if_neg (by simp)]
 rw [decide_eq_decide]
 omega
/-- Words between blanks. -/
def Qb:List Str→Str
 | []=>[32]
 | w::r=>32::(w++Qb r)
theorem dk (sub:Str):∀(w R:Str),(32:UInt8)∉w→Lib.contains (w++R) (32::sub)=Lib.contains R (32::sub)
 | [],R,_=>rfl
 | b::w,R,h=>by
  have hb:b≠32:=fun e=>h (by simp [e])
  rw [Dh,contains_cons,dk sub w R (fun hm=>h (by simp [hm]))]
  have:(32::sub).isPrefixOf (b::(w++R))=false:=by
   simp [List.isPrefixOf,Ne.symm hb]
  rw [this,Fb]
theorem Wf:∀(s w:Str) (R:Str),(32:UInt8)∉s→(32:UInt8)∉w→(s++[32]).isPrefixOf (w++32::R)=(s==w)
 | [],[],R,_,_=>by simp [List.isPrefixOf]
 | [],b::w,R,_,hw=>by
  have hb:(32:UInt8)≠b:=fun e=>hw (by simp [e])
  simp [List.isPrefixOf,hb]
 | a::s,[],R,hs,_=>by
  have hb:a≠(32:UInt8):=fun e=>hs (by simp [e])
  simp [List.isPrefixOf,hb]
 | a::s,b::w,R,hs,hw=>by
  have ih:=Wf s w R (fun h=>hs (by simp [h])) (fun h=>hw (by simp [h]))
  rw [Dh,Dh,List.isPrefixOf,ih]
  rfl
theorem lv:∀ws,∃R,Qb ws=32::R
 | []=>⟨[],rfl⟩
 | w::r=>⟨_,rfl⟩
theorem M8 (s:Str) (hs:(32:UInt8)∉s):∀(ws:List Str),(∀w∈ws,(32:UInt8)∉w)→Lib.contains (Qb ws) ([32]++s++[32])=ws.any (·==s)
 | [],_=>by
  rw [Qb,contains_cons,ja _ (by simp),Pi]
  cases s<;>simp [List.isPrefixOf]
 | w::r,h=>by
  have hw:=h w (by simp)
  obtain ⟨R,hR⟩:=lv r
  have ih:=M8 s hs r (fun x hx=>h x (by simp [hx]))
  have e1:([32]++s++[32]:Str)=32::(s++[32]):=rfl
  rw [Qb,contains_cons,e1,dk _ w _ hw,←e1,ih,List.any_cons]
  congr 1
  rw [e1,hR]
  have:=Wf s w R hs hw
  rw [List.isPrefixOf,this]
  simp only [beq_self_eq_true,S4]
  by_cases hsw:s=w
  ·subst hsw;rfl
  rw [beq_eq_false_iff_ne.2 hsw,beq_eq_false_iff_ne.2 (Ne.symm hsw)]
theorem cd:Ok=Qb words:=by kernel_rfl
theorem lw:∀w∈words,(32:UInt8)∉w:=by decide
theorem lx (s:Str):Lib.contains s [32]=s.contains 32:=by
 induction s with
 | nil=>rfl
 | cons b l ih =>
  rw [contains_cons,ih,List.contains_cons]
  congr 1
  simp [List.isPrefixOf]
theorem Yr (s:Str) (h1:s≠[]) (h2:(32:UInt8)∉s):Hr s=V0 s:=by
 unfold Hr
 rw [lx,cd,M8 s h2 words lw]
 have e1:(s==[])=false:=by simpa using h1
 have e2:s.contains 32=false:=by simpa using h2
 rw [e1,e2]
 rfl
set_option maxRecDepth 8000
theorem AD8 {p:UInt8→Bool} (h:((List.range 256).all fun n=>p (UInt8.ofNat n))=true) (c:UInt8):p c=true:=by
 have:=B5.1 h c.toNat (Qv.2 c.toNat_lt)
 simpa using this
theorem rd (c:UInt8):tails.contains c=Yb c:=by
 have:=AD8 (p:=fun c=>tails.contains c==Yb c) (by kernel_rfl) c
 simpa using this
theorem jb (c:UInt8):letters.contains c=R5 c:=by
 have:=AD8 (p:=fun c=>letters.contains c==R5 c) (by kernel_rfl) c
 simpa using this
theorem re:Yb 32=false:=by kernel_rfl
theorem uf (s of:Str):(Tj s of==(s.length:Int))=s.all (of.contains ·):=by
 unfold Tj Lib.trimLeftS
 induction s with
 | nil=>rfl
 | cons c r ih =>
  rw [Uq,List.all_cons]
  cases hc:of.contains c with
  | true =>
   simp only [if_true,S4]
   rw [←ih,Un]
   have:=(ol (fun x=>of.contains x) (l:=r)).length_le
   simp only [beq_iff_eq,B0]
   omega
  | false =>
   simp only [Bg,if_false,oh]
   rw [beq_eq_false_iff_ne]
   simp only [B0]
   omega
theorem Im (s:Str):Eb s=Rr s:=by
 cases s with
 | nil=>rfl
 | cons c r =>
  unfold Eb
  rw [uf]
  have e1:((c::r).all fun x=>tails.contains x)=(c::r).all Yb:=by
   congr 1
   funext x
   exact rd x
  have e2:(Tj ((c::r).take 1) letters==1)=R5 c:=by
   have:=uf [c] letters
   rw [←jb c]
   simpa using this
  rw [e1,e2]
  have e3:((c::r:Str)==[])=false:=rfl
  have e4:decide (((c::r).length:Int)≤16)=decide ((c::r).length≤16):=by
   rw [decide_eq_decide];omega
  rw [e3,e4]
  show _=(decide ((c::r).length≤16)&&R5 c && !V0 (c::r)&&(c::r).all Yb)
  cases ha:(c::r).all Yb with
  | false=>simp
  | true =>
   have hb:(32:UInt8)∉(c::r):=fun hm=>by
    have:=B5.1 ha 32 hm
    rw [re] at this
    cases this
   rw [Yr _ (by simp) hb]
   simp
theorem Sl (s:Str):Az (D6 s)=Rr s:=by
 have e:C3 1 (D6 s)=[(1,D6 s)]:=by rw [K6];rfl
 unfold Az
 rw [e]
 show ((List.range 1).all (goM (D6 s)))=_
 have g:goM (D6 s) 0=F1 (D6 s):=by
  unfold goM
  rw [e]
  simp
 simp only [gj,List.range_zero,D9,List.all_cons,List.all_nil,Xk]
 rw [g,←Im]
 simp [F1,D6,Expr.op,Expr.val,Expr.text,Expr.kids,Pb]
theorem jc (k:Int):(Db k==[])=(decide (k<1) || decide ((3:Int)<k)):=by
 unfold Db
 by_cases h:k<1∨3<k
 ·rw [if_pos h]
  have:(decide (k<1) || decide ((3:Int)<k))=true:=by simpa using h
  rw [this];rfl
 rw [if_neg h]
 have:(decide (k<1) || decide ((3:Int)<k))=false:=by simp;omega
 rw [this]
 have hk:k=1∨k=2∨k=3:=by omega
 rcases hk with rfl|rfl|rfl<;>rfl
theorem Mw (c:List Col):Jb c=Jq c:=by
 unfold Jb Jq
 congr 1
 funext x
 unfold V9 u6
 rw [Sl,jc,←Bool.or_assoc (!Rr x.1.name)]
theorem Kq (c:List Col):Yq c=Cs c:=by unfold Yq Cs;rw [Mw]
set_option maxRecDepth 4000
def Af (l:List Tok) (i:Nat):Tok:=l.getD i ⟨0,[],0⟩
theorem Ng {l:List Tok} {i:Nat} (h:i<l.length):(l.map Ix)[i]? = some (Ix (Af l i)):=by
 rw [C5,Ab h]
 unfold Af
 rw [Bv,Ab h]
 rfl
end Go.SX.Nb
