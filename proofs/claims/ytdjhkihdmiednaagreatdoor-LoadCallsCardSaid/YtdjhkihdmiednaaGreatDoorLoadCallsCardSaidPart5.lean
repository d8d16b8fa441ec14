/- On the way (part 5). -/
import Derived.Test.YtdjhkihdmiednaaGreatDoorLoadCallsCardSaidPart4
set_option linter.all false
namespace Go.SX.Nb
open Go Go.SX Go.Proofs
variable [ErrAt]
set_option maxRecDepth 4000
def wAt (s:Str) (k:Nat):Int×Str×Int×Int:=Bj (s.drop k)
theorem Ju {f k:Nat} {s:Str} (h:s≠[]):Gb (f+1) k s=(⟨(Bj s).1,(Bj s).2.1,k⟩,(Bj s).2.2.2)::(if (Bj s).2.2.2==0 then Gb f (k+(Bj s).2.2.1.toNat+gapM (s.drop (Bj s).2.2.1.toNat)) ((s.drop (Bj s).2.2.1.toNat).drop (gapM (s.drop (Bj s).2.2.1.toNat))) else []):=by
 rw [Gb,if_neg (by simpa using h)]
/-- Where the reader is, with k words behind it. -/
def No (s:Str) (k p:Nat):Prop:=(∃f,(s.drop p).length<f∧(Bi s).drop k=Gb f p (s.drop p))∧p≤s.length∧∀j,j<k→∃it,(Bi s)[j]? = some it∧it.2=0
theorem Xp (s:Str):No s 0 (gapM s):=⟨⟨s.length+1,by rw [Ep];omega,by rw [Ov];rfl⟩,Xm s,fun j hj=>by omega⟩
theorem b9 {s:Str} {k p:Nat} (h:No s k p):k≤(Bi s).length:=by
 refine Fz fun hn=>?_
 obtain ⟨it,hit,_⟩:=h.2.2 (Bi s).length (by omega)
 rw [Dx (Ah _)] at hit
 cases hit
theorem ba {s:Str} {k p:Nat} (h:No s k p) (hp:s.length≤p):k=(Bi s).length∧∀it∈Bi s,it.2=0:=by
 have hl:=b9 h
 obtain ⟨⟨f,_,hd⟩,_,h0⟩:=h
 have e:s.drop p=[]:=by rw [Sc];exact hp
 rw [e] at hd
 have:(Bi s).drop k=[]:=by rw [hd];cases f<;>rfl
 rw [Sc] at this
 have hk:k=(Bi s).length:=by omega
 refine ⟨hk,fun it hit=>?_⟩
 obtain ⟨j,hj,rfl⟩:=List.mem_iff_getElem.1 hit
 obtain ⟨it',h1,h2⟩:=h0 j (by omega)
 rw [Ad hj] at h1
 injection h1 with h1
 rw [h1];exact h2
theorem Pl {s:Str} {k p:Nat} (h:No s k p) (hp:p<s.length):∃f,(s.drop p).length<f+1∧(Bi s).drop k=Gb (f+1) p (s.drop p)∧s.drop p≠[]:=by
 obtain ⟨⟨f,hf,hd⟩,_,_⟩:=h
 obtain ⟨g,rfl⟩:∃g,f=g+1:=⟨f-1,by omega⟩
 exact ⟨g,hf,hd,fun e=>by rw [Sc] at e;omega⟩
theorem L9 {s:Str} {k p:Nat} (h:No s k p) (hp:p<s.length):(Bi s)[k]? = some (⟨(wAt s p).1,(wAt s p).2.1,p⟩,(wAt s p).2.2.2):=by
 obtain ⟨f,_,hd,hne⟩:=Pl h hp
 rw [Ju hne] at hd
 have:=congrArg (·[0]?) hd
 unfold wAt
 simpa using this
theorem Xq {s:Str} {k p:Nat} (h:No s k p) (hp:p<s.length) (he:(wAt s p).2.2.2=0):∃n:Nat,(wAt s p).2.2.1=(n:Int)∧1≤n∧p+n≤s.length∧No s (k+1) (p+n+gapM (s.drop (p+n))):=by
 have hi:=L9 h hp
 obtain ⟨f,hf,hd,hne⟩:=Pl h hp
 obtain ⟨n,hn,h1,h2⟩:=Yl (s:=s.drop p) (by rw [Ep];omega) he
 rw [Ep] at h2 hf
 have hg:=Xm (s.drop (p+n))
 rw [Ep] at hg
 refine ⟨n,hn,h1,by omega,⟨f,by rw [Ep];omega,?_⟩,by omega,fun j hj=>?_⟩
 ·rw [Ju hne] at hd
  have:=congrArg (·.drop 1) hd
  simp only [Sa,Mf,Ov] at this
  unfold wAt at he
  rw [this,hn,he]
  simp only [beq_self_eq_true,if_true,Int.toNat_natCast,Sa]
 rcases B0 j k with h'|h'
 ·exact h.2.2 j h'
 have:j=k:=by omega
 subst this
 exact ⟨_,hi,he⟩
theorem rx (l:Nat) (s:Str) (hs:s.length≤1048576) (U F:Nat→List AObj) (hlen:∀k,(U k).length=(U 0).length) (hll:l<(U 0).length)
  (hy:∀k it,(Bi s)[k]? = some it→AYield Tryz.prog l [Ga it.1,A3 it.2] (U k) (fun b H'=>if it.2=0 then b=true∧H'=U (k+1) else b=false∧H'=F k)):ACall Tryz.prog 219 [.yield l,.ro [A8 s]] (U 0) (fun r H'=>((∀it∈Bi s,it.2=0)∧H'=U (Bi s).length)∨∃k it,(Bi s)[k]? = some it∧it.2≠0∧(∀j,j<k→∃it',(Bi s)[j]? = some it'∧it'.2=0)∧H'=F k):=by
 refine Ai [] [0,1] Tryz.func219 Tryz.ntmps219 (fun d=>?_)
 refine Z2 ?_;refine Ab Tryz.call220 (pk s hs _) ?_;refine A4 ?_;refine A2 [0,1,3] ?_
 refine C8 (α:=Nat×Nat) (fun x=>⟨44,Aa 0 (.yield l) (Aa 1 (.ro [A8 s]) (Aa 3 (A3 (x.2:Nat)) (fun _=>.any))),U x.1,[],[],none⟩) (fun x=>No s x.1 x.2) (fun x=>s.length-x.2) (0,gapM s) (Xp s) (Es _) rfl (fun x hx=>?_)
 obtain ⟨k,p⟩:=x
 simp only at hx ⊢
 refine Z36 ?_;refine A2 [0,1,3,13] ?_
 refine A6 (fun ht13=>?_) (fun ht13=>?_)
 ·have hpl:p<s.length:=by simpa using ht13
  refine T9 ?_
  refine A4 (h:=I0 p (fun _=>hx.2.1) (fun _=>Ah _)) (hr:=?_)
  refine Ab Tryz.call221 (ru (s.drop p) (by rw [Ep];omega) (by rw [Ep];omega) _) ?_
  refine Z66 ?_;refine Z33 ?_;refine A2 [0,1,3,4,5,6,7] ?_;refine Z36 ?_;refine V1 ?_;refine A4 ?_;refine R.yield0 (hy k _ (L9 hx hpl)) ?_
  intro b V hV hb
  refine Z15 ?_;refine A4 ?_;refine A2 [0,1,3,6,40] ?_
  refine A6 (fun ht40=>?_) (fun ht40=>?_)
  ·have hbe:(Bj (s.drop p)).2.2.2≠0∧V=F k:=by
    split at hb
    ·rename_i h0
     obtain ⟨rfl,_⟩:=hb
     have h0':(Bj (s.drop p)).2.2.2=0:=h0
     simp [h0'] at ht40
    rename_i h0
    exact ⟨h0,hb.2⟩
   refine Z28 ?_;refine Z10 ?_;refine K.lpR ?_;exact A9 .nores (hp:=.inr ⟨k,_,L9 hx hpl,hbe.1,hx.2.2,hbe.2⟩)
  have hbe:(Bj (s.drop p)).2.2.2=0∧V=U (k+1):=by
   split at hb
   ·rename_i h0
    exact ⟨h0,hb.2⟩
   obtain ⟨rfl,_⟩:=hb
   simp at ht40
  obtain ⟨n,hn,hn1,hnl,hnx⟩:=Xq hx hpl hbe.1
  unfold wAt at hn
  rw [hn]
  have hgl:=Xm (s.drop (p+n))
  rw [Ep] at hgl
  refine Z5 ?_;refine Z41 ?_;refine Z0 ?_;refine A2 [0,1,3] ?_;refine Z17 ?_;refine Z6 ?_
  refine A4 (h:=I0 (p+n) (fun _=>hnl) (fun _=>Ah _)) (hr:=?_)
  refine Ab Tryz.call220 (pk (s.drop (p+n)) (by rw [Ep];omega) _) ?_
  refine Z0 ?_;refine A2 [0,1,3] ?_;exact C0 (k+1,p+n+gapM (s.drop (p+n))) hnx (by show s.length-_<s.length-p;omega) (Cm (by rw [hbe.2];simp))
 have hpl:s.length≤p:=by simpa using ht13
 obtain ⟨hk,hz⟩:=ba hx hpl
 refine Z29 ?_;refine K.lpE ?_;exact L2 .nores (hp:=.inl ⟨hz,by rw [hk]⟩)

theorem ry (s:Str) (Hp:List AObj):AFun Tryz.prog 179 [A8 s] Hp (.fn (.func 219) [] [.ro [A8 s]]):=by
 refine Ai [.tmp 2] [0] Tryz.func179 Tryz.ntmps179 (fun d=>?_)
 refine Z83 ?_;refine Df ?_;refine Hc ?_;exact ip

def B4 (s:Str):List Tok×Int×Nat:=if 4000<s.length then ([],3,0) else
 match (Bi s).find? (fun it=>it.2 != 0) with
 | some it=>([],it.2,it.1.at_)
 | none=>((Bi s).map (·.1)++[⟨0,[],s.length⟩],0,0)
theorem j3 {s:Str} {k:Nat} {it:Tok×Int} (hit:(Bi s)[k]? = some it) (he:it.2≠0) (h0:∀j,j<k→∃it',(Bi s)[j]? = some it'∧it'.2=0):(Bi s).find? (fun it=>it.2 != 0)=some it:=by
 rw [cz]
 obtain ⟨hk,e⟩:=Ac.1 hit
 refine ⟨by simpa using he,k,hk,e,fun j hj=>?_⟩
 obtain ⟨it',h1,h2⟩:=h0 j hj
 rw [Ad (by omega)] at h1
 injection h1 with h1
 rw [h1,h2];rfl
theorem ff {s:Str} (h:∀it∈Bi s,it.2=0):(Bi s).find? (fun it=>it.2 != 0)=none:=by
 rw [Se]
 intro it hit
 simp [h it hit]
def Rl (s:Str) (k:Nat):Int×Nat:=match (Bi s)[k]? with|some it=>(it.2,it.1.at_)|none=>(0,0)
theorem Pm:∀(f k:Nat) (s:Str),(Gb f k s).length≤f
 | 0,_,_=>Aw _
 | f+1,k,s=>by
  rw [Gb]
  split
  ·exact Aw _
  rw [Ar]
  split
  ·have:=Pm f (k+(Bj s).2.2.1.toNat+gapM (s.drop (Bj s).2.2.1.toNat)) ((s.drop (Bj s).2.2.1.toNat).drop (gapM (s.drop (Bj s).2.2.1.toNat)))
   omega
  simp
theorem Pn (s:Str):(Bi s).length≤s.length+1:=Pm _ _ _
def Id (s:Str) (k:Nat):List Tok:=((Bi s).take k).map (·.1)
theorem Mw (s:Str) (k:Nat):(Id s k).length≤s.length+1:=by
 have:=Pn s
 unfold Id
 rw [Bs,Gt]
 omega
theorem Xr {s:Str} {k:Nat} {it:Tok×Int} (hit:(Bi s)[k]? = some it):Id s (k+1)=Id s k++[it.1]:=by
 unfold Id
 rw [List.take_succ,hit,Dy]
 rfl
theorem bb (s:Str):Id s (Bi s).length=(Bi s).map (·.1):=by unfold Id;rw [K7]
theorem bc {s:Str} {k:Nat} {it:Tok×Int} (hl4:¬4000<s.length) (hit:(Bi s)[k]? = some it) (he:it.2≠0) (h0:∀j,j<k→∃it',(Bi s)[j]? = some it'∧it'.2=0):B4 s=([],it.2,it.1.at_):=by
 unfold B4
 rw [if_neg hl4,j3 hit he h0]
theorem fg {s:Str} (hl4:¬4000<s.length) (hz:∀it∈Bi s,it.2=0):B4 s=(Id s (Bi s).length++[⟨0,[],s.length⟩],0,0):=by
 unfold B4
 rw [if_neg hl4,ff hz,bb]
theorem rz (s:Str) (hs:s.length≤1048576) (Hp:List AObj):AFun Tryz.prog 129 [A8 s] Hp (.tup [fc (B4 s).1,.agg [A3 (B4 s).2.1,A3 (B4 s).2.2]]):=by
 refine Ai [.cell 2 93,.cell 3 67] [0,5,6] Tryz.func129 Tryz.ntmps129 (fun d=>?_)
 refine Z18 ?_;refine I1 jZ ?_;refine A2 [0,2,3,5,6] ?_;refine Z30 ?_;refine A2 [0,2,3,5,6,9] ?_
 refine A6 (fun ht9=>?_) (fun ht9=>?_)
 ·have hlm:B4 s=([],3,0):=by unfold B4;rw [if_pos (by simp at ht9;omega)]
  refine Df ?_;refine Z87 ?_;refine R.nilOwn 0 3 ?_;refine dz ?_;refine Dn ?_;exact A9 (Cr (V.cell jA) (B3 jA jS)) ⟨by rw [hlm];rfl,rfl⟩
 have hl4:¬4000<s.length:=by simp at ht9;omega
 refine Z5 ?_;refine Z18 ?_;refine A2 [0,2,3,4,5,6] ?_;refine Z53 ?_;refine R.nilOwn 2 3 ?_;refine A4 ?_;refine Ab Tryz.call179 (ry s _) ?_;refine A2 [0,2,3,4,5,6,12] ?_;refine Gy ?_
 refine W.rangeV (m:=3) Tryz.call219 (fun FR as' bd' hFR has hbd=>?_)
 refine ⟨_,rx (oid Hp.length 4) s hs (fun k=>Hp++[AObj.cells 93 [AV.nil],AObj.cells 67 [A3 0,A3 0],AObj.cells 93 [AV.slice true 3 ((Id s k).map Ga)],AObj.defs,AObj.loop LoopState.ready none FR 32 #[13,14] as' bd' (oid Hp.length 3)]) (fun k=>Hp++[AObj.cells 93 [AV.nil],AObj.cells 67 [A3 (Rl s k).1,A3 (Rl s k).2],AObj.cells 93 [AV.slice true 3 ((Id s k).map Ga)],AObj.defs,AObj.loop LoopState.done (some Code.ret) FR 32 #[13,14] as' bd' (oid Hp.length 3)]) (fun k=>by simp) (by simp [oid]) (fun k it hit=>?_),?_⟩
 ·generalize hV:Hp++[AObj.cells 93 [AV.nil],AObj.cells 67 [A3 0,A3 0],AObj.cells 93 [AV.slice true 3 ((Id s k).map Ga)],AObj.defs,AObj.loop LoopState.ready none FR 32 #[13,14] as' bd' (oid Hp.length 3)]=V
  have hL:V[oid Hp.length 4]? = some (AObj.loop LoopState.ready none FR 32 #[13,14] as' bd' (oid Hp.length 3)):=by rw [←hV,Bk];rfl
  have hA0:V[oid Hp.length 2]? = some (AObj.cells 93 [AV.slice true 3 ((Id s k).map Ga)]):=by rw [←hV,Bk];rfl
  have hB0:V[oid Hp.length 0]? = some (AObj.cells 93 [AV.nil]):=by rw [←hV,Bk];rfl
  have hC0:V[oid Hp.length 1]? = some (AObj.cells 67 [A3 0,A3 0]):=by rw [←hV,Bk];rfl
  refine Sx (pd:=none) (fr:=FR) (sz:=32) (ps:=#[13,14]) (df:=oid Hp.length 3) (asg:=as') (bd:=bd') hL rfl (by decide) (fun d=>?_)
  subst hFR has hbd
  refine F9 [2,3,4,13,14] ?_;refine Df ?_;refine Z8 ?_;refine A2 [2,3,4,5,14] ?_;refine Z27 ?_;refine A2 [2,3,4,5,6] ?_
  refine ⟨rfl,none,hL,?_⟩
  generalize hbz:(AObj.loop LoopState.busy _ _ _ _ _ _ _)=bz
  have hA:(V.set (oid Hp.length 4) bz)[oid Hp.length 2]? = some (AObj.cells 93 [AV.slice true 3 ((Id s k).map Ga)]):=by rw [Cd (Eu (by decide))];exact hA0
  have hB:(V.set (oid Hp.length 4) bz)[oid Hp.length 0]? = some (AObj.cells 93 [AV.nil]):=by rw [Cd (Eu (by decide))];exact hB0
  have hC:(V.set (oid Hp.length 4) bz)[oid Hp.length 1]? = some (AObj.cells 67 [A3 0,A3 0]):=by rw [Cd (Eu (by decide))];exact hC0
  refine Gy ?_;refine Z7 ?_;refine A2 [2,3,4,5,6,16] ?_
  refine A6 (fun ht16=>?_) (fun ht16=>?_)
  ·have hne:it.2≠0:=by simpa using ht16
   refine F7 [0,0,2,7,0,31] [4] [.q 4 [] [],.s [] (some 0) [] []] (fun _=>V.set (oid Hp.length 4) bz) (fun _=>[AObj.cells 102 [A3 it.1.kind,A8 it.1.text,A3 it.1.at_]]) Av (by kernel_rfl) rfl rfl (fun _=>rfl) ?_
   apply Y.q
   ·intro B hT hF
    refine Z34 ?_;exact ns
   case hTF=>decide
   refine Y.storeUp (o:=oid Hp.length 0) (ys:=[.nil]) (t':=93) (cs:=[AV.nil]) (cs':=[AV.nil]) jS (fun _ _=>⟨hB,(Bv hB).symm,rfl,by simp⟩) ?_;refine Et (tn:=[4]) (U:=V.set (oid Hp.length 4) bz) ?_
   refine Di jS hC ?_ ?_
   ·simp
   refine A2 [] ?_;refine Z28 ?_;refine K.blR ?_
   subst hbz
   refine K.rdR (Ur hL (Eu (by decide))) ?_
   rw [if_neg hne]
   refine ⟨rfl,?_⟩
   subst hV
   simp only [Ei,List.set_cons_succ,List.set_cons_zero]
   rw [show Rl s k=(it.2,it.1.at_) by unfold Rl;rw [hit]]
  have heq:it.2=0:=by simpa using ht16
  refine Z5 ?_;refine Jb ?_
  have hl3:=Mw s k
  refine R.loadUpT jA hA ?_;refine Z74 ?_
  refine F6 jU Tryz.type102 ?_ ?_ ?_
  ·simp [hl3,Tryz.t102];omega
  ·simp [hl3,Tryz.t102];omega
  refine dl jS (Az hA) ?_ ?_
  ·simp [or_imp,forall_and]
  refine A2 [] ?_;refine F8 ?_
  subst hbz
  refine K.rdN (lg hL (Eu (by decide)) (Eu (by decide))) ?_
  rw [if_pos heq]
  refine ⟨rfl,?_⟩
  subst hV
  simp only [Ei,List.set_cons_succ,List.set_cons_zero]
  rw [Xr hit,Dy]
  rfl
 rintro r H' (⟨hz,rfl⟩|⟨k,it,hit,hne,h0,rfl⟩)
 ·refine ⟨Hp,_,_,_,rfl,rfl,fun h=>h,?_,rfl,by simp,?_⟩
  ·intro o ho
   have:o=oid Hp.length 3:=by simpa using ho
   subst this
   rw [Bk]
   rfl
  refine Z12 ?_;refine Df ?_;refine R.loadOwnT jA ?_;refine Z0 ?_;refine V1 ?_;refine O5 ?_
  refine F6 jU Tryz.type102 ?_ ?_ ?_
  ·have:=Mw s (Bi s).length;simp [Tryz.t102];omega
  ·have:=Mw s (Bi s).length;simp [Tryz.t102];omega
  refine m4 ?_;refine R.storeOwnT jS ?_;refine dz ?_;exact A9 (Cr (V.cell jA) (B3 jA jS)) ⟨by rw [fg hl4 hz,fc,Dy];rfl,rfl⟩ (hlow:=by simp [or_imp,forall_and])
 refine ⟨Hp,_,_,_,rfl,rfl,fun h=>h,?_,rfl,by simp,?_⟩
 ·intro o ho
  have:o=oid Hp.length 3:=by simpa using ho
  subst this
  rw [Bk]
  rfl
 refine W.nilOwn 0 3 ?_;refine Z40 ?_;exact A9 (Cr (V.cell jA) (B3 jA jS)) ⟨by rw [bc hl4 hit hne h0,show Rl s k=(it.2,it.1.at_) by unfold Rl;rw [hit]];rfl,rfl⟩

inductive Expr where
 | mk (op:Int) (text:Str) (val:Val) (kids:List Expr)
def Expr.op:Expr→Int|.mk o _ _ _=>o
def Expr.text:Expr→Str|.mk _ t _ _=>t
def Expr.val:Expr→Val|.mk _ _ v _=>v
def Expr.kids:Expr→List Expr|.mk _ _ _ k=>k
mutual
def Aq:Expr→AV
 | .mk o t v k=>.agg [.v (.int .i64 o),.v (sv t),.v (.int .i64 v.kind),.v (.int .i64 v.n),.v (sv v.s),.slice false 6 (Mx k)]
def Mx:List Expr→List AV
  | []=>[]
  | e::r=>Aq e::Mx r
 end
theorem Po:∀l,Mx l=l.map Aq
 | []=>rfl
 | e::r=>by rw [Mx,Po r];rfl
theorem Ao (e:Expr):Aq e=.agg [.v (.int .i64 e.op),.v (sv e.text),.v (.int .i64 e.val.kind),.v (.int .i64 e.val.n),.v (sv e.val.s),.slice false 6 (e.kids.map Aq)]:=by
 cases e with
 | mk o t v k=>rw [Aq,Po];rfl
attribute [go_sem] Ao
def Rm:Str:=[32,111,114,32,32,97,110,100,32,32,61,32,33,61,32,60,32,60,61,32,62,32,62,61,32,32,43,32,45,32,38,32,32,42,32,47,32,37,32]
def Rn (v:Val):Bool:=v.kind==0&&v.n==0&&v.s==[]
def Ko (e:Expr):Bool:=
 if e.op==1 then ((E0 e.val&&decide (0≤e.val.n))&&(e.text==[]))&&((e.kids.length:Int)==0)
 else if e.op==2 then (Rn e.val&&Ew e.text)&&((e.kids.length:Int)==0)
 else if e.op==3 || e.op==4 then (Rn e.val&&(e.text==[]))&&((e.kids.length:Int)==1)
 else if e.op==5 then (Rn e.val&&Te e.text Rm)&&((e.kids.length:Int)==2)
 else if e.op==6 then Rn e.val&&(Jt e.text==(e.kids.length:Int))
 else false
theorem s6 (e:Expr) (hs:e.text.length≤1048576) (Hp:List AObj):AFun Tryz.prog 149 [Aq e] Hp (Aj (Ko e)):=by
 refine ACall.body [.tmp 2] [0] Tryz.func149 Tryz.ntmps149 (fun d=>?_)
 refine Z83 ?_;refine Z1 ?_;refine V1 ?_
 refine R.go (h:=Q.eqlAgg eo (Ls e.val.kind e.val.n 0 0 e.val.s [])) (hr:=?_)
 refine R.go ?_;refine R.fin [1,3] ?_;refine Z7 ?_;refine R.fin [1,3,9] ?_;refine Z97 ?_;refine R.fin [1,3,9,10] ?_
 refine W.cond (fun ht10=>?_) (fun ht10=>?_)
 ·refine Z1 ?_;refine R.call Tryz.call51 (c51 e.val _) ?_;refine R.go ?_;refine Z3 ?_;refine Z3 ?_;refine Z15 ?_;refine Z52 ?_;exact Us
 refine Z1 ?_;refine R.fin [1,3,9,32] ?_
 refine W.cond (fun ht32=>?_) (fun ht32=>?_)
 ·refine Z1 ?_;refine Z3 ?_;refine G.call Tryz.call113 (fun hB=>mc e.text hs _) ?_;refine Z24 ?_;exact Us
 refine Z7 ?_;refine R.fin [1,3,9,46] ?_
 refine W.cond (fun ht46=>?_) (fun ht46=>?_)
 ·refine Z5 ?_
  refine W.cond (fun ht46=>?_) (fun ht46=>?_)
  ·refine Z1 ?_;refine Z3 ?_;refine Z52 ?_;exact Us
  refine Z1 ?_;refine R.fin [1,3,9,61] ?_
  refine W.cond (fun ht61=>?_) (fun ht61=>?_)
  ·refine Z1 ?_;refine Z3 ?_;refine o9 ?_;exact Us
  refine Z1 ?_;refine R.fin [1,3,75] ?_
  refine W.cond (fun ht75=>?_) (fun ht75=>?_)
  ·refine o8 ?_;refine Z62 ?_;refine H.call Tryz.call196 (fun hB=>me e.text _) ?_;refine Uw ?_;refine D.tail ?_;refine G.go ?_;exact Us
  refine Z55 ?_;exact nu
 refine Z41 ?_;refine R.fin [1,3,9,46] ?_;refine K.thN ?_
 refine W.cond (fun ht46=>?_) (fun ht46=>?_)
 ·refine Z1 ?_;refine Z3 ?_;refine Z52 ?_;exact Us
 refine Z1 ?_;refine R.fin [1,3,9,61] ?_
 refine W.cond (fun ht61=>?_) (fun ht61=>?_)
 ·refine Z1 ?_;refine Z3 ?_;refine o9 ?_;exact Us
 refine Z1 ?_;refine R.fin [1,3,75] ?_
 refine W.cond (fun ht75=>?_) (fun ht75=>?_)
 ·refine o8 ?_;refine Z62 ?_;refine H.call Tryz.call196 (fun hB=>me e.text _) ?_;refine Uw ?_;refine D.tail ?_;refine G.go ?_;exact Us
 refine Z55 ?_;exact nu

mutual
def B5 (d:Int):Expr→List (Int×Expr)
 | .mk o t v k=>(d,.mk o t v k)::B2 (d+1) k
def B2 (d:Int):List Expr→List (Int×Expr)
  | []=>[]
  | e::r=>B5 d e++B2 d r
 end
theorem Gc (d:Int) (e:Expr):B5 d e=(d,e)::B2 (d+1) e.kids:=by cases e;rfl
theorem I2 (d:Int):∀a b,B2 d (a++b)=B2 d a++B2 d b
 | [],b=>rfl
 | e::r,b=>by rw [Dd,B2,B2,I2 d r b,Br]
theorem Vb (d:Int) (l:List Expr) {x:Nat} (h:x<l.length):B2 d (l.take (x+1))=B2 d (l.take x)++B5 d l[x]:=by
 rw [K8 h,I2]
 simp [B2]
theorem Lx (d:Int) (l:List Expr) {x:Nat} (h:x<l.length):B2 d l=B2 d (l.take x)++(B5 d l[x]++B2 d (l.drop (x+1))):=by
 have e:l=l.take x++(l[x]::l.drop (x+1)):=by rw [←Sb h,i5]
 conv=>lhs;rw [e]
 rw [I2,B2]
mutual
def sizeE:Expr→Nat
 | .mk _ _ _ k=>1+El k
def El:List Expr→Nat
  | []=>0
  | e::r=>sizeE e+El r
 end
theorem fh (e:Expr):sizeE e=1+El e.kids:=by cases e;rfl
/-- Each node has few kids. -/
def okE:Nat→Expr→Prop
 | 0,_=>False
 | n+1,e=>e.text.length≤1048576∧e.kids.length≤1048576∧∀y∈e.kids,okE n y
/-- Who takes what a tree yields: item k is taken at U k; it goes on (go k) to U (k + 1), or ends at F k. Behind U k there may stand others' objects. -/
structure Takes (P:Program) (l:Nat) (L:List (Int×Expr)) (go:Nat→Bool) (U F:Nat→List AObj) (n0:Nat):Prop where
 lenU:∀k,(U k).length=n0
 lenF:∀k,(F k).length=n0
 lowU:∀k,∀x∈U k,ObjLow n0 x
 lowF:∀k,∀x∈F k,ObjLow n0 x
 lt:l<n0
 y:∀(X:List AObj) (k:Nat) (it:Int×Expr),L[k]? = some it→(∀j,j<k→go j=true)→AYield P l [A3 it.1,Aq it.2] (U k++X) (fun b H'=>b=go k∧H'=(if go k then U (k+1) else F k)++X)
theorem ObjLow.le {m m':Nat} (h:m≤m') {x:AObj} (hx:ObjLow m x):ObjLow m' x:=by
 cases x with
 | cells t cs=>exact fun y hy=>(hx y hy).mono h
 | loop s pd fr sz ps as' bd df=>exact ⟨fun s=>(hx.1 s).mono h,E4 hx.2 h⟩
 | defs=>trivial
 | dead=>trivial
 | bld _ _ _=>trivial
 | gone=>trivial
/-- What the walk over n items from k0 on comes to. -/
def Vc (go:Nat→Bool) (U F:Nat→List AObj) (k0 n:Nat) (X:List AObj):AV→List AObj→Prop:=fun r H' =>
 ((∀j,j<n→go (k0+j)=true)∧r=Aj true∧H'=U (k0+n)++X)∨(∃j,j<n∧(∀i,i<j→go (k0+i)=true)∧go (k0+j)=false∧r=Aj false∧H'=F (k0+j)++X)
mutual
theorem Au (m:Nat):∀e,Low m (Aq e)
 | .mk o t v k=>by
  rw [Aq]
  refine .agg _ fun y hy=>?_
  simp only [Bt,K3,or_false] at hy
  rcases hy with rfl|rfl|rfl|rfl|rfl|rfl
  ·exact .v _
  ·exact .v _
  ·exact .v _
  ·exact .v _
  ·exact .v _
  exact low_slice.2 (Pp m k)
theorem Pp (m:Nat):∀l,∀y∈Mx l,Low m y
  | [],y,hy=>by cases hy
  | e::r,y,hy=>by
    rw [Mx] at hy
    rcases Bt.1 hy with rfl|h
    · exact Au m e
    exact Pp m r y h
 end
theorem Ly {V O A B own:List AObj} (h:V++O=A++(B++own)) (hl:V.length=(A++B).length):V=A++B∧O=own:=by
 rw [←Br] at h
 exact List.append_inj h hl
theorem Oj {m:Nat} {A X:List AObj} (hA:∀x∈A,ObjLow m x) (hX:∀x∈X,ObjLow m x):∀x∈A++X,ObjLow m x:=fun x hx=>by
 rcases D6.1 hx with h|h
 ·exact hA x h
 exact hX x h
theorem Xs {P:Program} {l:Nat} {L:List (Int×Expr)} {go:Nat→Bool} {U F:Nat→List AObj} {n0 k n K:Nat} {X own V O:List AObj} {r:AV} (T:Takes P l L go U F n0) (hV:V.length=(U K++X).length) (hp:Vc go U F k n (X++own) r (V++O)):
  ∃b,r=Aj b∧O=own∧(if b then (∀j,j<n→go (k+j)=true)∧V=U (k+n)++X else ∃j,j<n∧(∀i,i<j→go (k+i)=true)∧go (k+j)=false∧V=F (k+j)++X)∧((∀x∈U K++X,ObjLow V.length x)→∀x∈V,ObjLow V.length x):=by
 have hn:n0≤V.length:=by rw [hV,Am,T.lenU];omega
 rcases hp with ⟨h1,h2,h3⟩|⟨j,hj,h1,h2,h3,h4⟩
 ·obtain ⟨e1,e2⟩:=Ly h3 (by rw [hV];simp [T.lenU])
  refine ⟨true,h2,e2,⟨h1,e1⟩,fun h=>?_⟩
  rw [e1] at h ⊢
  exact Oj (fun x hx=>ObjLow.le (by rw [Am,T.lenU];omega) (T.lowU _ x hx)) (fun x hx=>h x (Kv _ hx))
 obtain ⟨e1,e2⟩:=Ly h4 (by rw [hV];simp [T.lenU,T.lenF])
 refine ⟨false,h3,e2,⟨j,hj,h1,h2,e1⟩,fun h=>?_⟩
 rw [e1] at h ⊢
 exact Oj (fun x hx=>ObjLow.le (by rw [Am,T.lenF];omega) (T.lowF _ x hx)) (fun x hx=>h x (Kv _ hx))
theorem Vd (d:Int) (l:List Expr) {x:Nat} (h:x<l.length):(B2 d (l.take (x+1))).length=(B2 d (l.take x)).length+(B5 d l[x]).length:=by rw [Vb d l h,Am]
theorem fj {d0:Int} {e:Expr} {x:Nat} (h:x<e.kids.length) {j:Nat} {it:Int×Expr} (hj:(B5 (d0+1) e.kids[x])[j]? = some it):(B5 d0 e)[1+(B2 (d0+1) (e.kids.take x)).length+j]? = some it:=by
 rw [Gc d0 e,show 1+(B2 (d0+1) (e.kids.take x)).length+j=((B2 (d0+1) (e.kids.take x)).length+j)+1 by omega,Ii,Lx (d0+1) e.kids h,Cp (by omega)]
 rw [show (B2 (d0+1) (e.kids.take x)).length+j-(B2 (d0+1) (e.kids.take x)).length=j by omega,Cx (Ac.1 hj).1]
 exact hj
theorem be (d0:Int) (e:Expr) {x:Nat} (h:x<e.kids.length):1+(B2 (d0+1) (e.kids.take x)).length+(B5 (d0+1) e.kids[x]).length≤(B5 d0 e).length:=by
 rw [Gc d0 e,Ar,Lx (d0+1) e.kids h]
 simp only [Am]
 omega
theorem s7 {l:Nat} {L:List (Int×Expr)} {go:Nat→Bool} {U F:Nat→List AObj} {n0:Nat} (T:Takes Tryz.prog l L go U F n0):∀(n:Nat) (e:Expr),okE n e→∀(d0:Int) (k0:Nat) (X:List AObj),0≤d0→d0+n≤1099511627776→(∀(j:Nat) (it:Int×Expr),(B5 d0 e)[j]? = some it→L[k0+j]? = some it)→(∀j,j<k0→go j=true)→ACall Tryz.prog 194 [Aq e,A3 d0,.yield l] (U k0++X) (Vc go U F k0 (B5 d0 e).length X):=by
 intro n
 induction n with
 | zero=>exact fun e h=>h.elim
 | succ n ih =>
 intro e hok d0 k0 X hd hdn hit hgo
 have hlen0:(U k0++X).length=n0+X.length:=by rw [Am,T.lenU]
 refine Ai [.tmp 6] [0,1,2] Tryz.func194 Tryz.ntmps194 (fun d=>?_)
 refine Z1 ?_;refine A2 [1,2,3] ?_;refine Z30 ?_
 refine R.yield0 (T.y X k0 (d0,e) (hit 0 _ (by rw [Gc];rfl)) hgo) ?_
 intro b Vv hV hb
 refine A4 ?_;refine A2 [1,2,3,13] ?_
 refine A6 (fun ht13=>?_) (fun ht13=>?_)
 ·have hb':b=false:=by simpa using ht13
  subst hb'
  refine am ?_;refine Z28 ?_;exact A9 (Af A7) (Or.inr ⟨0,by rw [Gc];simp,fun i hi=>by omega,hb.1.symm,rfl,by have:=hb.2;rw [show go k0=false from hb.1.symm] at this;exact this⟩)
 have hb':b=true:=by simpa using ht13
 subst hb'
 have hgo0:go (k0+0)=true:=hb.1.symm
 have hVe:Vv=U (k0+1)++X:=by have:=hb.2;rw [show go k0=true from hb.1.symm] at this;exact this
 subst hVe
 have h0x:0≤e.kids.length∧∀j,j<1+(B2 (d0+1) (e.kids.take 0)).length→go (k0+j)=true:=⟨Aw _,fun j hj=>by
  have:j=0:=by simp [B2] at hj;omega
  subst this
  exact hgo0⟩
 refine Z5 ?_;refine Z36 ?_;refine A2 [1,2,15,16,17] ?_
 refine C8 (α:=Nat) (fun x=>⟨28,Aa 1 (A3 d0) (Aa 2 (.yield l) (Aa 15 (.slice false 6 (e.kids.map Aq)) (Aa 16 (A3 e.kids.length) (Aa 17 (A3 (x:Nat)) (fun _=>.any))))),U (k0+(1+(B2 (d0+1) (e.kids.take x)).length))++X,[],[],none⟩) (fun x=>x≤e.kids.length∧∀j,j<1+(B2 (d0+1) (e.kids.take x)).length→go (k0+j)=true) (fun x=>e.kids.length-x) (0) h0x (C1 (by simp [B2])) rfl (fun x hx=>?_)
 refine Z2 ?_;refine A2 [1,2,15,16,17,18] ?_
 refine Fl (fun ht18=>?_) (fun ht18=>?_)
 ·have hlt:x<e.kids.length:=by simpa using ht18
  have hkl:=hok.2.1
  refine Ut ?_
  refine A4 (h:=Ay (x) (Aq e.kids[x]) (fun _=>Bg hlt)) (hr:=?_)
  refine X5 ?_;refine A2 [1,2,8,15,16,17] ?_;refine Z21 ?_
  refine R.callG Tryz.call194 (args:=[Aq e.kids[x],A3 (d0+1),.yield l]) (by rw [Br];exact ih e.kids[x] (hok.2.2 _ (C7 hlt)) (d0+1) (k0+(1+(B2 (d0+1) (e.kids.take x)).length)) (X++_) (by omega) (by omega) (fun j it hj=>by have:=hit _ it (fj hlt hj);rwa [←Ho] at this) (fun j hj=>by rcases B0 j k0 with h|h;exact hgo j h;have:=hx.2 (j-k0) (by omega);rwa [show k0+(j-k0)=j by omega] at this)) ?_
  intro r Vv O hV hp
  obtain ⟨b,rfl,rfl,hc,hlowV⟩:=Xs T hV hp
  refine ⟨hlowV,fun o ho=>by simp at ho,?_⟩
  refine A4 ?_;refine A2 [1,2,15,16,17,26] ?_
  refine A6 (fun ht26=>?_) (fun ht26=>?_)
  ·have hb':b=false:=by simpa using ht26
   subst hb'
   obtain ⟨j,hj,h1,h2,h3⟩:=hc
   refine am ?_;refine Z40 ?_;refine Z42 ?_
   have hil:=be d0 e hlt
   refine A9 (Af A7) (Or.inr ⟨1+(B2 (d0+1) (e.kids.take x)).length+j,by omega,fun i hi=>?_,by rwa [Ho] at h2,rfl,by rwa [Ho] at h3⟩)
   rcases B0 i (1+(B2 (d0+1) (e.kids.take x)).length) with h|h
   ·exact hx.2 i h
   have:=h1 (i-(1+(B2 (d0+1) (e.kids.take x)).length)) (by omega)
   rwa [show k0+(1+(B2 (d0+1) (e.kids.take x)).length)+(i-(1+(B2 (d0+1) (e.kids.take x)).length))=k0+i by omega] at this
  have hb':b=true:=by simpa using ht26
  subst hb'
  obtain ⟨h1,h3⟩:=hc
  refine Uz ?_;refine A2 [1,2,15,16,17] ?_
  subst h3
  have hll:=Vd (d0+1) e.kids hlt
  have e1:k0+(1+(B2 (d0+1) (e.kids.take (x+1))).length)=k0+(1+(B2 (d0+1) (e.kids.take x)).length)+(B5 (d0+1) e.kids[x]).length:=by omega
  refine C0 (x+1) ⟨hlt,fun j hj=>?_⟩ (by omega) ?_
  ·rcases B0 j (1+(B2 (d0+1) (e.kids.take x)).length) with h|h
   ·exact hx.2 j h
   have:=h1 (j-(1+(B2 (d0+1) (e.kids.take x)).length)) (by omega)
   rwa [show k0+(1+(B2 (d0+1) (e.kids.take x)).length)+(j-(1+(B2 (d0+1) (e.kids.take x)).length))=k0+j by omega] at this
  simp only [e1]
  exact Dj (own:=[]) (fun _=>.refl _) (by repeat (first|exact Bx|refine Bw (by first|(simp [Au];done)|(have:=T.lt;simp [T.lenU];omega)) ?_)) (by simp) (by simp)
 have hxe:e.kids.take x=e.kids:=E3 (by simp at ht18;omega)
 refine Z23 ?_;refine am ?_;refine Dg ?_
 have hl2:(B5 d0 e).length=1+(B2 (d0+1) (e.kids.take x)).length:=by rw [Gc,hxe,Ar];omega
 exact A9 (Af A7) (Or.inl ⟨fun j hj=>hx.2 j (by omega),rfl,by rw [hl2]⟩)

abbrev Gs (e:Expr):List AV:=[.v (.int .i64 e.op),.v (sv e.text),.v (.int .i64 e.val.kind),.v (.int .i64 e.val.n),.v (sv e.val.s),.slice false 6 (e.kids.map Aq)]
/-- What taking all of a tree comes to. -/
def Ie (go:Nat→Bool) (U F:Nat→List AObj) (n:Nat) (H':List AObj):Prop:=
 ((∀j,j<n→go j=true)∧H'=U n)∨(∃j,j<n∧(∀i,i<j→go i=true)∧go j=false∧H'=F j)
theorem mj {l:Nat} {e:Expr} {go:Nat→Bool} {U F:Nat→List AObj} {n0:Nat} (T:Takes Tryz.prog l (B5 1 e) go U F n0) (n:Nat) (hok:okE n e) (hn:n≤1048576):ACall Tryz.prog 193 [.yield l,.ro (Gs e)] (U 0) (fun r H'=>Ie go U F (B5 1 e).length H'):=by
 refine Ai [] [0,1] Tryz.func193 Tryz.ntmps193 (fun d=>?_)
 refine Z41 ?_;refine R.callG Tryz.call194 (args:=[Aq e,A3 1,.yield l]) (s7 T n e hok 1 0 [] (by omega) (by omega) (fun j it hj=>by rwa [B7]) (fun j hj=>by omega)) ?_
 intro r Vv O hV hp
 have hO:O=[]:=by
  have h1:(Vv++O).length=n0:=by rcases hp with ⟨_,_,h⟩|⟨j,_,_,_,_,h⟩<;>rw [h]<;>simp [T.lenU,T.lenF]
  have h2:=T.lenU 0
  rw [Am,hV,h2] at h1
  exact Sd (by omega)
 subst hO
 rw [Hw] at hp
 have hq:Ie go U F (B5 1 e).length Vv:=by
  rcases hp with ⟨h1,_,h⟩|⟨j,h1,h2,h3,_,h⟩
  ·exact .inl ⟨fun j hj=>by have:=h1 j hj;rwa [B7] at this,by rw [h];simp⟩
  exact .inr ⟨j,h1,fun i hi=>by have:=h2 i hi;rwa [B7] at this,by rwa [B7] at h3,by rw [h];simp⟩
 refine ⟨fun h=>?_,fun o ho=>by simp at ho,?_⟩
 ·rcases hq with ⟨_,h⟩|⟨j,_,_,_,h⟩<;>rw [h]
  ·rw [T.lenU];exact T.lowU _
  rw [T.lenF];exact T.lowF _
 refine A2 [] ?_;exact L2 .nores (hp:=hq)

theorem s8 (e:Expr) (Hp:List AObj):AFun Tryz.prog 148 [Aq e] Hp (.fn (.func 193) [] [.ro (Gs e)]):=by
 refine Ai [.tmp 2] [0] Tryz.func148 Tryz.ntmps148 (fun d=>?_)
 refine Z83 ?_;refine Df ?_;refine Hc ?_;refine A4 ?_;refine Z4 ?_;exact A9 (Af A7) (hlow:=by have:=Au Hp.length e;rw [Ao] at this;simpa using this)

def goM (e:Expr) (k:Nat):Bool:=match (B5 1 e)[k]? with
 | some it => !((!Ko it.2 || decide ((30:Int)<it.1)) || decide ((300:Int)<(k:Int)+1))
 | none=>true
def Do (e:Expr):Bool:=(List.range (B5 1 e).length).all (goM e)
mutual
theorem Ro:∀(n:Nat) (e:Expr),okE n e→∀d,∀it∈B5 d e,it.2.text.length≤1048576
 | 0,_,h,_,_,_=>h.elim
 | n+1,e,h,d,it,hit=>by
  rw [Gc] at hit
  rcases Bt.1 hit with rfl|h'
  ·exact h.1
  exact Rp n e.kids h.2.2 (d+1) it h'
 termination_by n e=>(n,0)
theorem Rp:∀(n:Nat) (l:List Expr),(∀y∈l,okE n y)→∀d,∀it∈B2 d l,it.2.text.length≤1048576
  | n,[],_,_,_,h=>by cases h
  | n,e::r,h,d,it,hit=>by
    rw [B2] at hit
    rcases D6.1 hit with h'|h'
    · exact Ro n e (h e (by simp)) d it h'
    exact Rp n r (fun y hy=>h y (by simp [hy])) d it h'
  termination_by n l=>(n,l.length+1)
 end
theorem Xt {U:List AObj} {i j:Nat} {x y:AObj} (h:U[i]? = some x) (hne:j≠i):(U.set j y)[i]? = some x:=by rw [Cd hne];exact h
theorem ml {e:Expr} {k:Nat} {it:Int×Expr} (hit:(B5 1 e)[k]? = some it) (h:∀j,j<k→goM e j=true):(k:Int)≤300:=by
 rcases Nat.eq_zero_or_pos k with h0|h0
 ·omega
 have hl:=(Ac.1 hit).1
 have:=h (k-1) (by omega)
 unfold goM at this
 rw [Ad (by omega)] at this
 simp at this
 omega
theorem Tk {e:Expr} {k:Nat} {it:Int×Expr} (hit:(B5 1 e)[k]? = some it):goM e k = !((!Ko it.2 || decide ((30:Int)<it.1)) || decide ((300:Int)<(k:Int)+1)):=by
 unfold goM;rw [hit]
theorem pl (n:Nat) (e:Expr) (hok:okE n e) (hn:n≤1048576) (Hp:List AObj):AFun Tryz.prog 100 [Aq e] Hp (Aj (Do e)):=by
 refine Ai [.cell 2 4] [0,4,5] Tryz.func100 Tryz.ntmps100 (fun d=>?_)
 refine Z2 ?_;refine I1 jZ ?_;refine A2 [1,2,4,5] ?_;refine Df ?_;refine Z8 ?_;refine A2 [1,2,3,4,5] ?_;refine Z53 ?_
 refine R.assumeLow (fun hlow=>?_)
 refine lx ?_;refine A2 [2,3,4,5,7] ?_;refine Gy ?_
 refine W.rangeV (m:=2) Tryz.call193 (fun FR as' bd' hFR has hbd=>?_)
 have hFRl:∀s,Low (Hp.length+4) (FR s):=by
  intro s
  rw [hFR]
  refine Low.strip ?_
  revert s
  repeat (first|exact Bx|refine Bw (by simp [oid,Au]<;>try omega) ?_)
 have hOl:∀{k:Nat},∀x∈[AObj.cells 4 [Aj false],AObj.cells 3 [A3 (k:Nat)],AObj.defs,AObj.loop LoopState.ready none FR 23 #[8,9] as' bd' (oid Hp.length 2)],ObjLow (Hp.length+4) x:=by
  intro k x hx
  simp only [Bt,K3,or_false] at hx
  rcases hx with rfl|rfl|rfl|rfl
  ·exact Lr
  ·exact Lr
  ·trivial
  exact iq
 have hOf:∀{k:Nat},∀x∈[AObj.cells 4 [Aj false],AObj.cells 3 [A3 ((k:Nat)+1)],AObj.defs,AObj.loop LoopState.done (some Code.ret) FR 23 #[8,9] as' bd' (oid Hp.length 2)],ObjLow (Hp.length+4) x:=by
  intro k x hx
  simp only [Bt,K3,or_false] at hx
  rcases hx with rfl|rfl|rfl|rfl
  ·exact Lr
  ·exact Lr
  ·trivial
  exact iq
 refine ⟨fun _ H'=>Ie (goM e) (fun k=>Hp++[AObj.cells 4 [Aj false],AObj.cells 3 [A3 (k:Nat)],AObj.defs,AObj.loop LoopState.ready none FR 23 #[8,9] as' bd' (oid Hp.length 2)]) (fun k=>Hp++[AObj.cells 4 [Aj false],AObj.cells 3 [A3 ((k:Nat)+1)],AObj.defs,AObj.loop LoopState.done (some Code.ret) FR 23 #[8,9] as' bd' (oid Hp.length 2)]) (B5 1 e).length H',mj (l:=oid Hp.length 3) (go:=goM e) (U:=fun k=>Hp++[AObj.cells 4 [Aj false],AObj.cells 3 [A3 (k:Nat)],AObj.defs,AObj.loop LoopState.ready none FR 23 #[8,9] as' bd' (oid Hp.length 2)]) (F:=fun k=>Hp++[AObj.cells 4 [Aj false],AObj.cells 3 [A3 ((k:Nat)+1)],AObj.defs,AObj.loop LoopState.done (some Code.ret) FR 23 #[8,9] as' bd' (oid Hp.length 2)]) (n0:=Hp.length+4) ⟨fun k=>by simp,fun k=>by simp,fun k x hx=>?_,fun k x hx=>?_,by simp [oid],fun X k it hit hgo=>?_⟩ n hok hn,?_⟩
 ·exact ek
 ·exact Oj (fun x hx=>ObjLow.le (by omega) (hlow x hx)) hOf x hx
 ·have hk3:=ml hit hgo
  generalize hV:(Hp++[AObj.cells 4 [Aj false],AObj.cells 3 [A3 (k:Nat)],AObj.defs,AObj.loop LoopState.ready none FR 23 #[8,9] as' bd' (oid Hp.length 2)]++X)=V
  have hL:V[oid Hp.length 3]? = some (AObj.loop LoopState.ready none FR 23 #[8,9] as' bd' (oid Hp.length 2)):=by rw [←hV,Br,Bk];rfl
  have hA0:V[oid Hp.length 1]? = some (AObj.cells 3 [A3 (k:Nat)]):=by rw [←hV,Br,Bk];rfl
  have hB0:V[oid Hp.length 0]? = some (AObj.cells 4 [Aj false]):=by rw [←hV,Br,Bk];rfl
  refine Sx (pd:=none) (fr:=FR) (sz:=23) (ps:=#[8,9]) (df:=oid Hp.length 2) (asg:=as') (bd:=bd') hL rfl (by decide) (fun d=>?_)
  subst hFR has hbd
  refine F9 [2,3,8,9] ?_;refine Z2 ?_;refine A2 [2,3,4,9] ?_;refine Jb ?_;refine Z8 ?_;refine X9 ?_
  refine ⟨rfl,none,hL,?_⟩
  generalize hbz:(AObj.loop LoopState.busy _ _ _ _ _ _ _)=bz
  have hA:(V.set (oid Hp.length 3) bz)[oid Hp.length 1]? = some (AObj.cells 3 [A3 (k:Nat)]):=by rw [Cd (Eu (by decide))];exact hA0
  have hB:(V.set (oid Hp.length 3) bz)[oid Hp.length 0]? = some (AObj.cells 4 [Aj false]):=by rw [Cd (Eu (by decide))];exact hB0
  refine ea ?_
  refine A4 (h:=Bp hA) (hr:=?_)
  refine A4 ?_
  refine Di jS hA ?_ ?_
  ·simp
  refine X9 ?_;refine Z2 ?_;refine Ab Tryz.call149 (s6 it.2 (Ro n e hok 1 it (Ax hit)) _) ?_;refine Z15 ?_;refine Z0 ?_
  refine B9 (h:=Bp (Az hA)) (hr:=?_)
  refine Z57 ?_;refine A2 [2,22] ?_
  refine A6 (fun ht22=>?_) (fun ht22=>?_)
  ·have hgf:goM e k=false:=by rw [Tk hit,ht22];rfl
   refine Df ?_
   refine Di jS (Xt (j:=oid Hp.length 1) hB (Eu (by decide))) ?_ ?_
   ·simp
   refine A2 [] ?_;refine Dg ?_;refine K.blR ?_
   subst hbz
   refine K.rdR (lg hL (Eu (by decide)) (Eu (by decide))) ?_
   refine ⟨hgf.symm,?_⟩
   rw [if_neg (by rw [hgf];simp)]
   subst hV
   simp only [Br,Ei,Dd,F1,List.set_cons_succ,List.set_cons_zero]
   try rfl
  have hgt:goM e k=true:=by rw [Tk hit,ht22];rfl
  refine eb ?_
  subst hbz
  refine K.rdN (Ur hL (Eu (by decide))) ?_
  refine ⟨hgt.symm,?_⟩
  rw [if_pos hgt]
  subst hV
  simp only [Br,Ei,Dd,F1,List.set_cons_succ,List.set_cons_zero]
  try rfl
 rintro r H' (⟨h1,rfl⟩|⟨j,hj,h1,h2,rfl⟩)
 ·refine ⟨Hp,_,_,_,rfl,rfl,fun h=>h,?_,rfl,by simp,?_⟩
  ·intro o ho
   have:o=oid Hp.length 2:=by simpa using ho
   subst this
   rw [Bk]
   rfl
  refine Z12 ?_;refine Df ?_;refine Z22 ?_;exact A9 (Af (V.cell jA)) ⟨by rw [show Do e=true from Ap.2 fun j hj=>h1 j (Dm.1 hj)],rfl⟩
 refine ⟨Hp,_,_,_,rfl,rfl,fun h=>h,?_,rfl,by simp,?_⟩
 ·intro o ho
  have:o=oid Hp.length 2:=by simpa using ho
  subst this
  rw [Bk]
  rfl
 refine Z40 ?_;exact A9 (Af (V.cell jA)) ⟨by rw [show Do e=false from List.all_eq_false.2 ⟨j,Dm.2 hj,by rw [h2];simp⟩],rfl⟩

def Hg (s:Str):Expr:=.mk 2 s ⟨0,0,[]⟩ []
theorem Ve (s:Str):Le (.agg [A3 2,A8 s,A3 0,A3 0,A8 [],.nil]) (Aq (Hg s)):=by
 rw [Ao]
 refine .agg _ _ rfl (by simp [AV.one,Value.oneCell',sv]) fun i y y' h1 h2=>?_
 match i with
 | 0=>simp at h1 h2;subst h1;subst h2;exact .inl rfl
 | 1=>simp at h1 h2;subst h1;subst h2;exact .inl rfl
 | 2=>simp at h1 h2;subst h1;subst h2;exact .inl rfl
 | 3=>simp at h1 h2;subst h1;subst h2;exact .inl rfl
 | 4=>simp at h1 h2;subst h1;subst h2;exact .inl rfl
 | 5=>simp at h1 h2;subst h1;subst h2;exact .inr ⟨rfl,6,rfl⟩
 | i+6=>simp at h1
theorem Vf (s:Str) (h:s.length≤1048576):okE 1 (Hg s):=⟨h,by simp [Hg,Expr.kids],fun y hy=>by cases hy⟩
def My (c:List Col) (x:Nat) (y:Col):Bool := !(((!Do (Hg y.name)) || (H7 y.kind==[])) || (Kn y.name c != (x:Int)))
def Rq (c:List Col):Bool:=c.zipIdx.all fun x=>My c x.2 x.1
theorem colsP_true {c:List Col}:Rq c=true↔∀(j:Nat) (y:Col),c[j]? = some y→My c j y=true:=Xb
theorem c64 (c:List Col) (hc:OkCols c) (Hp:List AObj):AFun Tryz.prog 64 [Cu c] Hp (Aj (Rq c)):=by
 refine Ai [.tmp 2] [0] Tryz.func64 Tryz.ntmps64 (fun d=>?_)
 refine Z31 ?_;refine Z30 ?_;refine A2 [0,5,6,7] ?_
 refine C8 (α:=Nat) (fun x=>⟨32,Aa 0 (Cu c) (Aa 5 (Cu c) (Aa 6 (A3 c.length) (Aa 7 (A3 (x:Nat)) (fun _=>.any)))),Hp,[],[],none⟩) (fun x=>x≤c.length∧∀(j:Nat) (y:Col),j<x→c[j]? = some y→My c j y=true) (fun x=>c.length-x) (0) (by simp) (C1 (by simp)) rfl (fun x hx=>?_)
 refine Z2 ?_;refine A2 [0,5,6,7,8] ?_
 refine Fl (fun ht8=>?_) (fun ht8=>?_)
 ·have hlt:x<c.length:=by simpa using ht8
  have hcl:=hc.len
  refine Z14 ?_;refine Z2 ?_
  refine A4 (h:=Ay (x) (Jp c[x]) (fun _=>Bg hlt)) (hr:=?_)
  refine A4 ?_;refine Z90 ?_;refine Fu ?_;refine A2 [0,3,4,5,6,7] ?_;refine Z54 ?_;refine R.wk 14 _ (Ve c[x].name) ?_;refine Ab Tryz.call100 (pl 1 (Hg c[x].name) (Vf _ (hc.names _ (C7 hlt))) (by decide) _) ?_;refine Z15 ?_;refine Bh Tryz.call101 (fun hB=>rh c[x].kind _) ?_;refine B9 ?_;refine Qy ?_;refine Bh Tryz.call102 (fun hB=>rf c hc c[x].name _) ?_;refine Uy ?_;refine A2 [0,5,6,7,30] ?_
  refine A6 (fun ht30=>?_) (fun ht30=>?_)
  ·refine Z45 ?_;refine Z61 ?_
   exact A9 (Af A7) ⟨by rw [show Rq c=false from Mb.2 fun h=>by have:=colsP_true.1 h x c[x] (Ad hlt);unfold My at this;rw [ht30] at this;cases this],rfl⟩
  refine Uz ?_;refine A2 [0,5,6,7] ?_
  refine C0 (x+1) ⟨hlt,L5 hlt hx.2 (by unfold My;rw [ht30];rfl)⟩ (by omega) ?_
  exact Dj (own:=[]) (fun _=>.refl _) (by repeat (first|exact Bx|refine Bw (by simp) ?_)) (by simp) (by simp)
 refine Z23 ?_;refine Z45 ?_;exact A9 (Af A7) ⟨by rw [colsP_true.2 (Ms (by simp at ht8;omega) hx.2)],rfl⟩

def Iv (c:List Col):Bool:=decide ((c.length:Int)≤12)&&Rq c
theorem c34 (c:List Col) (hc:OkCols c) (Hp:List AObj):AFun Tryz.prog 34 [Cu c] Hp (Aj (Iv c)):=by
 refine Ai [.tmp 2] [0] Tryz.func34 Tryz.ntmps34 (fun d=>?_)
 refine Z31 ?_;refine aq ?_;refine Bh Tryz.call64 (fun hB=>c64 c hc _) ?_;refine Z64 ?_;exact A9 (Af A7) ⟨by unfold Iv;simp,rfl⟩

theorem Tl (s:Str) (h:s≠[]):Lib.contains [] s=false:=by
 cases s with
 | nil=>exact absurd rfl h
 | cons a r=>rfl
theorem contains_cons (b:UInt8) (l s:Str):Lib.contains (b::l) s=(s.isPrefixOf (b::l) || Lib.contains l s):=by
 unfold Lib.contains
 have hge:=Lib.index_ge l s
 rw [Lib.index]
 by_cases hp:s.isPrefixOf (b::l)=true
 ·rw [if_pos hp,hp];rfl
 rw [if_neg hp]
 have hp':s.isPrefixOf (b::l)=false:=Mb.2 hp
 rw [hp',Mc]
 by_cases hi:Lib.index l s = -1
 ·rw [hi];rfl
 have:(Lib.index l s == -1)=false:=by simpa using hi
 rw [this,if_neg (by simp)]
 rw [decide_eq_decide]
 omega
/-- Words between blanks. -/
def Mz:List Str→Str
 | []=>[32]
 | w::r=>32::(w++Mz r)
theorem Rr (sub:Str):∀(w R:Str),(32:UInt8)∉w→Lib.contains (w++R) (32::sub)=Lib.contains R (32::sub)
 | [],R,_=>rfl
 | b::w,R,h=>by
  have hb:b≠32:=fun e=>h (by simp [e])
  rw [Dd,contains_cons,Rr sub w R (fun hm=>h (by simp [hm]))]
  have:(32::sub).isPrefixOf (b::(w++R))=false:=by
   simp [List.isPrefixOf,Ne.symm hb]
  rw [this,Mc]
theorem Np:∀(s w:Str) (R:Str),(32:UInt8)∉s→(32:UInt8)∉w→(s++[32]).isPrefixOf (w++32::R)=(s==w)
 | [],[],R,_,_=>by simp [List.isPrefixOf]
 | [],b::w,R,_,hw=>by
  have hb:(32:UInt8)≠b:=fun e=>hw (by simp [e])
  simp [List.isPrefixOf,hb]
 | a::s,[],R,hs,_=>by
  have hb:a≠(32:UInt8):=fun e=>hs (by simp [e])
  simp [List.isPrefixOf,hb]
 | a::s,b::w,R,hs,hw=>by
  have ih:=Np s w R (fun h=>hs (by simp [h])) (fun h=>hw (by simp [h]))
  rw [Dd,Dd,List.isPrefixOf,ih]
  rfl
theorem Vg:∀ws,∃R,Mz ws=32::R
 | []=>⟨[],rfl⟩
 | w::r=>⟨_,rfl⟩
theorem Jv (s:Str) (hs:(32:UInt8)∉s):∀(ws:List Str),(∀w∈ws,(32:UInt8)∉w)→Lib.contains (Mz ws) ([32]++s++[32])=ws.any (·==s)
 | [],_=>by
  rw [Mz,contains_cons,Tl _ (by simp),Bool.or_false]
  cases s<;>simp [List.isPrefixOf]
 | w::r,h=>by
  have hw:=h w (by simp)
  obtain ⟨R,hR⟩:=Vg r
  have ih:=Jv s hs r (fun x hx=>h x (by simp [hx]))
  have e1:([32]++s++[32]:Str)=32::(s++[32]):=rfl
  rw [Mz,contains_cons,e1,Rr _ w _ hw,←e1,ih,List.any_cons]
  congr 1
  rw [e1,hR]
  have:=Np s w R hs hw
  rw [List.isPrefixOf,this]
  simp only [beq_self_eq_true,Ou]
  by_cases hsw:s=w
  ·subst hsw;rfl
  rw [beq_eq_false_iff_ne.2 hsw,beq_eq_false_iff_ne.2 (Ne.symm hsw)]
theorem R4:It=Mz words:=by kernel_rfl
theorem Vh:∀w∈words,(32:UInt8)∉w:=by decide
theorem fk (s:Str):Lib.contains s [32]=s.contains 32:=by
 induction s with
 | nil=>rfl
 | cons b l ih =>
  rw [contains_cons,ih,List.contains_cons]
  congr 1
  simp [List.isPrefixOf]
theorem Pq (s:Str) (h1:s≠[]) (h2:(32:UInt8)∉s):Ej s=G7 s:=by
 unfold Ej
 rw [fk,R4,Jv s h2 words Vh]
 have e1:(s==[])=false:=by simpa using h1
 have e2:s.contains 32=false:=by simpa using h2
 rw [e1,e2]
 rfl
set_option maxRecDepth 8000
theorem fl {p:UInt8→Bool} (h:((List.range 256).all fun n=>p (UInt8.ofNat n))=true) (c:UInt8):p c=true:=by
 have:=Ap.1 h c.toNat (Dm.2 c.toNat_lt)
 simpa using this
theorem Xu (c:UInt8):tails.contains c=Ic c:=by
 have:=fl (p:=fun c=>tails.contains c==Ic c) (by kernel_rfl) c
 simpa using this
theorem Tm (c:UInt8):letters.contains c=F3 c:=by
 have:=fl (p:=fun c=>letters.contains c==F3 c) (by kernel_rfl) c
 simpa using this
theorem Xv:Ic 32=false:=by kernel_rfl
theorem Ym (s of:Str):(Lu s of==(s.length:Int))=s.all (of.contains ·):=by
 unfold Lu Lib.trimLeftS
 induction s with
 | nil=>rfl
 | cons c r ih =>
  rw [Me,List.all_cons]
  cases hc:of.contains c with
  | true =>
   simp only [if_true,Ou]
   rw [←ih,We]
   have:=(Wg (fun x=>of.contains x) (l:=r)).length_le
   simp only [beq_iff_eq,Ar]
   omega
  | false =>
   simp only [Co,if_false,Ot]
   rw [beq_eq_false_iff_ne]
   simp only [Ar]
   omega
theorem Pr (s:Str):Ew s=Nj s:=by
 cases s with
 | nil=>rfl
 | cons c r =>
  unfold Ew
  rw [Ym]
  have e1:((c::r).all fun x=>tails.contains x)=(c::r).all Ic:=by
   congr 1
   funext x
   exact Xu x
  have e2:(Lu ((c::r).take 1) letters==1)=F3 c:=by
   have:=Ym [c] letters
   rw [←Tm c]
   simpa using this
  rw [e1,e2]
  have e3:((c::r:Str)==[])=false:=rfl
  have e4:decide (((c::r).length:Int)≤16)=decide ((c::r).length≤16):=by
   rw [decide_eq_decide];omega
  rw [e3,e4]
  show _=(decide ((c::r).length≤16)&&F3 c && !G7 (c::r)&&(c::r).all Ic)
  cases ha:(c::r).all Ic with
  | false=>simp
  | true =>
   have hb:(32:UInt8)∉(c::r):=fun hm=>by
    have:=Ap.1 ha 32 hm
    rw [Xv] at this
    cases this
   rw [Pq _ (by simp) hb]
   simp
theorem Xw (s:Str):Do (Hg s)=Nj s:=by
 have e:B5 1 (Hg s)=[(1,Hg s)]:=by rw [Gc];rfl
 unfold Do
 rw [e]
 show ((List.range 1).all (goM (Hg s)))=_
 have g:goM (Hg s) 0=Ko (Hg s):=by
  unfold goM
  rw [e]
  simp
 simp only [Si,List.range_zero,F1,List.all_cons,List.all_nil,Wd]
 rw [g,←Pr]
 simp [Ko,Hg,Expr.op,Expr.val,Expr.text,Expr.kids,Rn]
theorem Tn (k:Int):(H7 k==[])=(decide (k<1) || decide ((3:Int)<k)):=by
 unfold H7
 by_cases h:k<1∨3<k
 ·rw [if_pos h]
  have:(decide (k<1) || decide ((3:Int)<k))=true:=by simpa using h
  rw [this];rfl
 rw [if_neg h]
 have:(decide (k<1) || decide ((3:Int)<k))=false:=by simp;omega
 rw [this]
 have hk:k=1∨k=2∨k=3:=by omega
 rcases hk with rfl|rfl|rfl<;>rfl
theorem j4 (c:List Col):Rq c=Nk c:=by
 unfold Rq Nk
 congr 1
 funext x
 unfold My Pc
 rw [Xw,Tn,←Bool.or_assoc (!Nj x.1.name)]
theorem Ps (c:List Col):Iv c=Is c:=by unfold Iv Is;rw [j4]
set_option maxRecDepth 4000
def Ae (l:List Tok) (i:Nat):Tok:=l.getD i ⟨0,[],0⟩
theorem Iw {l:List Tok} {i:Nat} (h:i<l.length):(l.map Ga)[i]? = some (Ga (Ae l i)):=by
 rw [C4,Ad h]
 unfold Ae
 rw [Dw,Ad h]
 rfl
end Go.SX.Nb
