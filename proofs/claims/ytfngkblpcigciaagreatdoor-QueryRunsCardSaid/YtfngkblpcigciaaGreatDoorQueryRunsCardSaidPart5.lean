/- On the way (part 5). -/
import Derived.Test.YtfngkblpcigciaaGreatDoorQueryRunsCardSaidPart4
set_option linter.all false
namespace Go.SX.Nb
open Go Go.SX Go.Proofs
variable [ErrAt]
set_option maxRecDepth 4000
def wAt (s:Str) (k:Nat):Int×Str×Int×Int:=Cf (s.drop k)
theorem N8 {f k:Nat} {s:Str} (h:s≠[]):Id (f+1) k s=(⟨(Cf s).1,(Cf s).2.1,k⟩,(Cf s).2.2.2)::(if (Cf s).2.2.2==0 then Id f (k+(Cf s).2.2.1.toNat+gapM (s.drop (Cf s).2.2.1.toNat)) ((s.drop (Cf s).2.2.1.toNat).drop (gapM (s.drop (Cf s).2.2.1.toNat))) else []):=by
 rw [Id,if_neg (by simpa using h)]
/-- Where the reader is, with k words behind it. -/
def Sz (s:Str) (k p:Nat):Prop:=(∃f,(s.drop p).length<f∧(Cd s).drop k=Id f p (s.drop p))∧p≤s.length∧∀j,j<k→∃it,(Cd s)[j]? = some it∧it.2=0
theorem ku (s:Str):Sz s 0 (gapM s):=⟨⟨s.length+1,by rw [F5];omega,by rw [Zq];rfl⟩,kq s,fun j hj=>by omega⟩
theorem qq {s:Str} {k p:Nat} (h:Sz s k p):k≤(Cd s).length:=by
 refine I8 fun hn=>?_
 obtain ⟨it,hit,_⟩:=h.2.2 (Cd s).length (by omega)
 rw [G4 (Ap _)] at hit
 cases hit
theorem qr {s:Str} {k p:Nat} (h:Sz s k p) (hp:s.length≤p):k=(Cd s).length∧∀it∈Cd s,it.2=0:=by
 have hl:=qq h
 obtain ⟨⟨f,_,hd⟩,_,h0⟩:=h
 have e:s.drop p=[]:=by rw [j6];exact hp
 rw [e] at hd
 have:(Cd s).drop k=[]:=by rw [hd];cases f<;>rfl
 rw [j6] at this
 have hk:k=(Cd s).length:=by omega
 refine ⟨hk,fun it hit=>?_⟩
 obtain ⟨j,hj,rfl⟩:=List.mem_iff_getElem.1 hit
 obtain ⟨it',h1,h2⟩:=h0 j (by omega)
 rw [Aa hj] at h1
 injection h1 with h1
 rw [h1];exact h2
theorem Vu {s:Str} {k p:Nat} (h:Sz s k p) (hp:p<s.length):∃f,(s.drop p).length<f+1∧(Cd s).drop k=Id (f+1) p (s.drop p)∧s.drop p≠[]:=by
 obtain ⟨⟨f,hf,hd⟩,_,_⟩:=h
 obtain ⟨g,rfl⟩:∃g,f=g+1:=⟨f-1,by omega⟩
 exact ⟨g,hf,hd,fun e=>by rw [j6] at e;omega⟩
theorem Pf {s:Str} {k p:Nat} (h:Sz s k p) (hp:p<s.length):(Cd s)[k]? = some (⟨(wAt s p).1,(wAt s p).2.1,p⟩,(wAt s p).2.2.2):=by
 obtain ⟨f,_,hd,hne⟩:=Vu h hp
 rw [N8 hne] at hd
 have:=congrArg (·[0]?) hd
 unfold wAt
 simpa using this
theorem kv {s:Str} {k p:Nat} (h:Sz s k p) (hp:p<s.length) (he:(wAt s p).2.2.2=0):∃n:Nat,(wAt s p).2.2.1=(n:Int)∧1≤n∧p+n≤s.length∧Sz s (k+1) (p+n+gapM (s.drop (p+n))):=by
 have hi:=Pf h hp
 obtain ⟨f,hf,hd,hne⟩:=Vu h hp
 obtain ⟨n,hn,h1,h2⟩:=ml (s:=s.drop p) (by rw [F5];omega) he
 rw [F5] at h2 hf
 have hg:=kq (s.drop (p+n))
 rw [F5] at hg
 refine ⟨n,hn,h1,by omega,⟨f,by rw [F5];omega,?_⟩,by omega,fun j hj=>?_⟩
 ·rw [N8 hne] at hd
  have:=congrArg (·.drop 1) hd
  simp only [Zp,j7,Zq] at this
  unfold wAt at he
  rw [this,hn,he]
  simp only [beq_self_eq_true,if_true,Int.toNat_natCast,Zp]
 rcases Bf j k with h'|h'
 ·exact h.2.2 j h'
 have:j=k:=by omega
 subst this
 exact ⟨_,hi,he⟩
theorem ALv (l:Nat) (s:Str) (hs:s.length≤1048576) (U F:Nat→List AObj) (hlen:∀k,(U k).length=(U 0).length) (hll:l<(U 0).length)
  (hy:∀k it,(Cd s)[k]? = some it→AYield Tryz.prog l [Ic it.1,A5 it.2] (U k) (fun b H'=>if it.2=0 then b=true∧H'=U (k+1) else b=false∧H'=F k)):ACall Tryz.prog 105 [.yield l,.ro [Ac s]] (U 0) (fun r H'=>((∀it∈Cd s,it.2=0)∧H'=U (Cd s).length)∨∃k it,(Cd s)[k]? = some it∧it.2≠0∧(∀j,j<k→∃it',(Cd s)[j]? = some it'∧it'.2=0)∧H'=F k):=by
 refine Ah [] [0,1] Tryz.func105 Tryz.ntmps105 (fun d=>?_)
 refine Z2 ?_;refine A7 Tryz.call106 (AK2 s hs _) ?_;refine A4 ?_;refine A2 [0,1,3] ?_
 refine Bh (α:=Nat×Nat) (fun x=>⟨44,A9 0 (.yield l) (A9 1 (.ro [Ac s]) (A9 3 (A5 (x.2:Nat)) (fun _=>.any))),U x.1,[],[],none⟩) (fun x=>Sz s x.1 x.2) (fun x=>s.length-x.2) (0,gapM s) (ku s) (Fq _) rfl (fun x hx=>?_)
 obtain ⟨k,p⟩:=x
 simp only at hx ⊢
 refine Z48 ?_;refine A2 [0,1,3,13] ?_
 refine A3 (fun ht13=>?_) (fun ht13=>?_)
 ·have hpl:p<s.length:=by simpa using ht13
  refine Xo ?_
  refine A4 (h:=P7 p (fun _=>hx.2.1) (fun _=>Ap _)) (hr:=?_)
  refine A7 Tryz.call107 (ALu (s.drop p) (by rw [F5];omega) (by rw [F5];omega) _) ?_
  refine Z61 ?_;refine Z86 ?_;refine A2 [0,1,3,4,5,6,7] ?_;refine Z48 ?_;refine Xq ?_;refine A4 ?_;refine R.yield0 (hy k _ (Pf hx hpl)) ?_
  intro b V hV hb
  refine Z46 ?_;refine A4 ?_;refine A2 [0,1,3,6,40] ?_
  refine A3 (fun ht40=>?_) (fun ht40=>?_)
  ·have hbe:(Cf (s.drop p)).2.2.2≠0∧V=F k:=by
    split at hb
    ·rename_i h0
     obtain ⟨rfl,_⟩:=hb
     have h0':(Cf (s.drop p)).2.2.2=0:=h0
     simp [h0'] at ht40
    rename_i h0
    exact ⟨h0,hb.2⟩
   refine Z9 ?_;refine Z5 ?_;refine K.lpR ?_;exact A8 .nores (hp:=.inr ⟨k,_,Pf hx hpl,hbe.1,hx.2.2,hbe.2⟩)
  have hbe:(Cf (s.drop p)).2.2.2=0∧V=U (k+1):=by
   split at hb
   ·rename_i h0
    exact ⟨h0,hb.2⟩
   obtain ⟨rfl,_⟩:=hb
   simp at ht40
  obtain ⟨n,hn,hn1,hnl,hnx⟩:=kv hx hpl hbe.1
  unfold wAt at hn
  rw [hn]
  have hgl:=kq (s.drop (p+n))
  rw [F5] at hgl
  refine Z3 ?_;refine Z28 ?_;refine Z0 ?_;refine A2 [0,1,3] ?_;refine N3 ?_
  refine A4 (h:=P7 (p+n) (fun _=>hnl) (fun _=>Ap _)) (hr:=?_)
  refine A7 Tryz.call106 (AK2 (s.drop (p+n)) (by rw [F5];omega) _) ?_
  refine Z0 ?_;refine A2 [0,1,3] ?_;exact B5 (k+1,p+n+gapM (s.drop (p+n))) hnx (by show s.length-_<s.length-p;omega) (Bx (by rw [hbe.2];simp))
 have hpl:s.length≤p:=by simpa using ht13
 obtain ⟨hk,hz⟩:=qr hx hpl
 refine Z36 ?_;refine K.lpE ?_;exact Jz .nores (hp:=.inl ⟨hz,by rw [hk]⟩)

theorem c71 (s:Str) (Hp:List AObj):AFun Tryz.prog 71 [Ac s] Hp (.fn (.func 105) [] [.ro [Ac s]]):=by
 refine Ah [.tmp 2] [0] Tryz.func71 Tryz.ntmps71 (fun d=>?_)
 refine Z87 ?_;refine Eg ?_;refine I9 ?_;refine A4 ?_;exact AF5

def Bp (s:Str):List Tok×Int×Nat:=if 4000<s.length then ([],3,0) else
 match (Cd s).find? (fun it=>it.2 != 0) with
 | some it=>([],it.2,it.1.at_)
 | none=>((Cd s).map (·.1)++[⟨0,[],s.length⟩],0,0)
theorem ABa {s:Str} {k:Nat} {it:Tok×Int} (hit:(Cd s)[k]? = some it) (he:it.2≠0) (h0:∀j,j<k→∃it',(Cd s)[j]? = some it'∧it'.2=0):(Cd s).find? (fun it=>it.2 != 0)=some it:=by
 rw [uf]
 obtain ⟨hk,e⟩:=Ad.1 hit
 refine ⟨by simpa using he,k,hk,e,fun j hj=>?_⟩
 obtain ⟨it',h1,h2⟩:=h0 j hj
 rw [Aa (by omega)] at h1
 injection h1 with h1
 rw [h1,h2];rfl
theorem x7 {s:Str} (h:∀it∈Cd s,it.2=0):(Cd s).find? (fun it=>it.2 != 0)=none:=by
 rw [Km]
 intro it hit
 simp [h it hit]
def Yg (s:Str) (k:Nat):Int×Nat:=match (Cd s)[k]? with|some it=>(it.2,it.1.at_)|none=>(0,0)
theorem Vw:∀(f k:Nat) (s:Str),(Id f k s).length≤f
 | 0,_,_=>Av _
 | f+1,k,s=>by
  rw [Id]
  split
  ·exact Av _
  rw [Aw]
  split
  ·have:=Vw f (k+(Cf s).2.2.1.toNat+gapM (s.drop (Cf s).2.2.1.toNat)) ((s.drop (Cf s).2.2.1.toNat).drop (gapM (s.drop (Cf s).2.2.1.toNat)))
   omega
  simp
theorem Vx (s:Str):(Cd s).length≤s.length+1:=Vw _ _ _
def L5 (s:Str) (k:Nat):List Tok:=((Cd s).take k).map (·.1)
theorem Ru (s:Str) (k:Nat):(L5 s k).length≤s.length+1:=by
 have:=Vx s
 unfold L5
 rw [B6,Ei]
 omega
theorem kw {s:Str} {k:Nat} {it:Tok×Int} (hit:(Cd s)[k]? = some it):L5 s (k+1)=L5 s k++[it.1]:=by
 unfold L5
 rw [Px,hit,Cs]
 rfl
theorem qt (s:Str):L5 s (Cd s).length=(Cd s).map (·.1):=by unfold L5;rw [U6]
theorem qu {s:Str} {k:Nat} {it:Tok×Int} (hl4:¬4000<s.length) (hit:(Cd s)[k]? = some it) (he:it.2≠0) (h0:∀j,j<k→∃it',(Cd s)[j]? = some it'∧it'.2=0):Bp s=([],it.2,it.1.at_):=by
 unfold Bp
 rw [if_neg hl4,ABa hit he h0]
theorem x8 {s:Str} (hl4:¬4000<s.length) (hz:∀it∈Cd s,it.2=0):Bp s=(L5 s (Cd s).length++[⟨0,[],s.length⟩],0,0):=by
 unfold Bp
 rw [if_neg hl4,x7 hz,qt]
theorem c37 (s:Str) (hs:s.length≤1048576) (Hp:List AObj):AFun Tryz.prog 37 [Ac s] Hp (.tup [x5 (Bp s).1,.agg [A5 (Bp s).2.1,A5 (Bp s).2.2]]):=by
 refine Ah [.cell 2 72,.cell 3 50] [0,5,6] Tryz.func37 Tryz.ntmps37 (fun d=>?_)
 refine Z33 ?_;refine Ks ?_;refine A2 [0,2,3,5,6] ?_;refine Z32 ?_;refine A2 [0,2,3,5,6,9] ?_
 refine A3 (fun ht9=>?_) (fun ht9=>?_)
 ·have hlm:Bp s=([],3,0):=by unfold Bp;rw [if_pos (by simp at ht9;omega)]
  refine Eg ?_;refine Z26 ?_;refine R.nilOwn 0 3 ?_;refine F1 ?_;refine Z54 ?_;exact A8 (B4 (Jx jA) (Az jA jS)) ⟨by rw [hlm];rfl,rfl⟩
 have hl4:¬4000<s.length:=by simp at ht9;omega
 refine Z3 ?_;refine Z33 ?_;refine A2 [0,2,3,4,5,6] ?_;refine Rk ?_;refine R.nilOwn 2 3 ?_;refine A4 ?_;refine A7 Tryz.call71 (c71 s _) ?_;refine A2 [0,2,3,4,5,6,12] ?_;refine Et ?_
 refine Vc (m:=3) Tryz.call105 (fun FR as' bd' hFR has hbd=>?_)
 refine ⟨_,ALv (oid Hp.length 4) s hs (fun k=>Hp++[AObj.cells 72 [AV.nil],AObj.cells 50 [A5 0,A5 0],AObj.cells 72 [AV.slice true 3 ((L5 s k).map Ic)],AObj.defs,AObj.loop LoopState.ready none FR 32 #[13,14] as' bd' (oid Hp.length 3)]) (fun k=>Hp++[AObj.cells 72 [AV.nil],AObj.cells 50 [A5 (Yg s k).1,A5 (Yg s k).2],AObj.cells 72 [AV.slice true 3 ((L5 s k).map Ic)],AObj.defs,AObj.loop LoopState.done (some Code.ret) FR 32 #[13,14] as' bd' (oid Hp.length 3)]) (fun k=>by simp) (by simp [oid]) (fun k it hit=>?_),?_⟩
 ·generalize hV:Hp++[AObj.cells 72 [AV.nil],AObj.cells 50 [A5 0,A5 0],AObj.cells 72 [AV.slice true 3 ((L5 s k).map Ic)],AObj.defs,AObj.loop LoopState.ready none FR 32 #[13,14] as' bd' (oid Hp.length 3)]=V
  have hL:V[oid Hp.length 4]? = some (AObj.loop LoopState.ready none FR 32 #[13,14] as' bd' (oid Hp.length 3)):=by rw [←hV,Bi];rfl
  have hA0:V[oid Hp.length 2]? = some (AObj.cells 72 [AV.slice true 3 ((L5 s k).map Ic)]):=by rw [←hV,Bi];rfl
  have hB0:V[oid Hp.length 0]? = some (AObj.cells 72 [AV.nil]):=by rw [←hV,Bi];rfl
  have hC0:V[oid Hp.length 1]? = some (AObj.cells 50 [A5 0,A5 0]):=by rw [←hV,Bi];rfl
  refine Rh (pd:=none) (fr:=FR) (sz:=32) (ps:=#[13,14]) (df:=oid Hp.length 3) (asg:=as') (bd:=bd') hL rfl (by decide) (fun d=>?_)
  subst hFR has hbd
  refine Dg [2,3,4,13,14] ?_;refine js ?_;refine A2 [2,3,4,5,14] ?_;refine Z43 ?_;refine A2 [2,3,4,5,6] ?_
  refine ⟨rfl,none,hL,?_⟩
  generalize hbz:(AObj.loop LoopState.busy _ _ _ _ _ _ _)=bz
  have hA:(V.set (oid Hp.length 4) bz)[oid Hp.length 2]? = some (AObj.cells 72 [AV.slice true 3 ((L5 s k).map Ic)]):=by rw [Cr (Dh (by decide))];exact hA0
  have hB:(V.set (oid Hp.length 4) bz)[oid Hp.length 0]? = some (AObj.cells 72 [AV.nil]):=by rw [Cr (Dh (by decide))];exact hB0
  have hC:(V.set (oid Hp.length 4) bz)[oid Hp.length 1]? = some (AObj.cells 50 [A5 0,A5 0]):=by rw [Cr (Dh (by decide))];exact hC0
  refine Et ?_;refine Z8 ?_;refine A2 [2,3,4,5,6,16] ?_
  refine A3 (fun ht16=>?_) (fun ht16=>?_)
  ·have hne:it.2≠0:=by simpa using ht16
   refine Fs [0,0,2,7,0,31] [4] [.q 4 [] [],.s [] (some 0) [] []] (fun _=>V.set (oid Hp.length 4) bz) (fun _=>[AObj.cells 82 [A5 it.1.kind,Ac it.1.text,A5 it.1.at_]]) Aj (by kernel_rfl) rfl rfl (fun _=>rfl) ?_
   apply Y.q
   ·intro B hT hF
    refine Z34 ?_;exact AHq
   case hTF=>decide
   refine Y.storeUp (o:=oid Hp.length 0) (ys:=[.nil]) (t':=72) (cs:=[AV.nil]) (cs':=[AV.nil]) jS (fun _ _=>⟨hB,(Cp hB).symm,rfl,by simp⟩) ?_;refine F7 (tn:=[4]) (U:=V.set (oid Hp.length 4) bz) ?_
   refine Ew jS hC ?_ ?_
   ·simp
   refine w5 ?_;refine Ko ?_
   subst hbz
   refine K.rdR (dr hL (Dh (by decide))) ?_
   rw [if_neg hne]
   refine ⟨rfl,?_⟩
   subst hV
   simp only [F3,List.set_cons_succ,List.set_cons_zero]
   rw [show Yg s k=(it.2,it.1.at_) by unfold Yg;rw [hit]]
  have heq:it.2=0:=by simpa using ht16
  refine Z3 ?_;refine Hs ?_
  have hl3:=Ru s k
  refine R.loadUpT jA hA ?_;refine AHc ?_
  refine Ix jU Tryz.type82 ?_ ?_ ?_
  ·simp [hl3,Tryz.t82];omega
  ·simp [hl3,Tryz.t82];omega
  refine jk jS (As hA) ?_ ?_
  ·simp [or_imp,forall_and]
  refine A2 [] ?_;refine Hc ?_
  subst hbz
  refine K.rdN (dt hL (Dh (by decide)) (Dh (by decide))) ?_
  rw [if_pos heq]
  refine ⟨rfl,?_⟩
  subst hV
  simp only [F3,List.set_cons_succ,List.set_cons_zero]
  rw [kw hit,Cs]
  rfl
 rintro r H' (⟨hz,rfl⟩|⟨k,it,hit,hne,h0,rfl⟩)
 ·refine ⟨Hp,_,_,_,rfl,rfl,fun h=>h,?_,rfl,by simp,?_⟩
  ·intro o ho
   have:o=oid Hp.length 3:=by simpa using ho
   subst this
   rw [Bi]
   rfl
  refine Z12 ?_;refine Eg ?_;refine R.loadOwnT jA ?_;refine Z0 ?_;refine Xq ?_;refine bn ?_
  refine Ix jU Tryz.type82 ?_ ?_ ?_
  ·have:=Ru s (Cd s).length;simp [Tryz.t82];omega
  ·have:=Ru s (Cd s).length;simp [Tryz.t82];omega
  refine k7 ?_;refine R.storeOwnT jS ?_;refine F1 ?_;refine Z65 ?_;exact A8 (B4 (Jx jA) (Az jA jS)) ⟨by rw [x8 hl4 hz,x5,Cs];rfl,rfl⟩ (hlow:=by simp [or_imp,forall_and])
 refine ⟨Hp,_,_,_,rfl,rfl,fun h=>h,?_,rfl,by simp,?_⟩
 ·intro o ho
  have:o=oid Hp.length 3:=by simpa using ho
  subst this
  rw [Bi]
  rfl
 refine W.nilOwn 0 3 ?_;refine Z41 ?_;exact A8 (B4 (Jx jA) (Az jA jS)) ⟨by rw [qu hl4 hit hne h0,show Yg s k=(it.2,it.1.at_) by unfold Yg;rw [hit]];rfl,rfl⟩

inductive Expr where
 | mk (op:Int) (text:Str) (val:Val) (kids:List Expr)
def Expr.op:Expr→Int|.mk o _ _ _=>o
def Expr.text:Expr→Str|.mk _ t _ _=>t
def Expr.val:Expr→Val|.mk _ _ v _=>v
def Expr.kids:Expr→List Expr|.mk _ _ _ k=>k
mutual
def Ae:Expr→AV
 | .mk o t v k=>.agg [.v (.int .i64 o),.v (sv t),.v (.int .i64 v.kind),.v (.int .i64 v.n),.v (sv v.s),.slice false 6 (Rv k)]
def Rv:List Expr→List AV
  | []=>[]
  | e::r=>Ae e::Rv r
 end
theorem Vy:∀l,Rv l=l.map Ae
 | []=>rfl
 | e::r=>by rw [Rv,Vy r];rfl
theorem Ax (e:Expr):Ae e=.agg [.v (.int .i64 e.op),.v (sv e.text),.v (.int .i64 e.val.kind),.v (.int .i64 e.val.n),.v (sv e.val.s),.slice false 6 (e.kids.map Ae)]:=by
 cases e with
 | mk o t v k=>rw [Ae,Vy];rfl
attribute [go_sem] Ax
def O4:Str:=[32,111,114,32,32,97,110,100,32,32,61,32,33,61,32,60,32,60,61,32,62,32,62,61,32,32,43,32,45,32,38,32,32,42,32,47,32,37,32]
def L6 (v:Val):Bool:=v.kind==0&&v.n==0&&v.s==[]
def Cu (e:Expr):Bool:=
 if e.op==1 then ((Bu e.val&&decide (0≤e.val.n))&&(e.text==[]))&&((e.kids.length:Int)==0)
 else if e.op==2 then (L6 e.val&&Fj e.text)&&((e.kids.length:Int)==0)
 else if e.op==3 || e.op==4 then (L6 e.val&&(e.text==[]))&&((e.kids.length:Int)==1)
 else if e.op==5 then (L6 e.val&&O3 e.text O4)&&((e.kids.length:Int)==2)
 else if e.op==6 then L6 e.val&&(Bv e.text==(e.kids.length:Int))
 else false
theorem c93 (e:Expr) (hs:e.text.length≤1048576) (Hp:List AObj):AFun Tryz.prog 93 [Ae e] Hp (At (Cu e)):=by
 refine ACall.body [.tmp 2] [0] Tryz.func93 Tryz.ntmps93 (fun d=>?_)
 refine Z87 ?_;refine Z1 ?_;refine Xq ?_
 refine R.go (h:=Q.eqlAgg Rn (Gn e.val.kind e.val.n 0 0 e.val.s [])) (hr:=?_)
 refine R.go ?_;refine Tw ?_;refine Z8 ?_;refine R.fin [1,3,9] ?_;refine Z91 ?_;refine R.fin [1,3,9,10] ?_
 refine W.cond (fun ht10=>?_) (fun ht10=>?_)
 ·refine Z1 ?_;refine R.call Tryz.call120 (wn e.val _) ?_;refine R.go ?_;refine Q8 ?_;refine Z0 ?_;refine Z29 ?_;exact vh
 refine Z1 ?_;refine R.fin [1,3,9,32] ?_
 refine W.cond (fun ht32=>?_) (fun ht32=>?_)
 ·refine Z1 ?_;refine Z6 ?_;refine G.call Tryz.call60 (fun hB=>c60 e.text hs _) ?_;exact vh
 refine Z8 ?_;refine R.fin [1,3,9,46] ?_
 refine W.cond (fun ht46=>?_) (fun ht46=>?_)
 ·refine Z3 ?_
  refine W.cond (fun ht46=>?_) (fun ht46=>?_)
  ·refine Z1 ?_;refine Z29 ?_;exact vh
  refine Z1 ?_;refine R.fin [1,3,9,61] ?_
  refine W.cond (fun ht61=>?_) (fun ht61=>?_)
  ·refine Z1 ?_;refine Z6 ?_;exact AHr
  refine Z1 ?_;refine R.fin [1,3,75] ?_
  refine W.cond (fun ht75=>?_) (fun ht75=>?_)
  ·refine AIj ?_;refine Z72 ?_;refine H.call Tryz.call129 (fun hB=>AFm e.text _) ?_;refine Z72 ?_;refine H.go ?_;refine D.tail ?_;refine G.go ?_;exact AEw
  refine Z18 ?_;exact AI0
 refine Z28 ?_;refine R.fin [1,3,9,46] ?_;refine K.thN ?_
 refine W.cond (fun ht46=>?_) (fun ht46=>?_)
 ·refine Z1 ?_;refine Z29 ?_;exact vh
 refine Z1 ?_;refine R.fin [1,3,9,61] ?_
 refine W.cond (fun ht61=>?_) (fun ht61=>?_)
 ·refine Z1 ?_;refine Z6 ?_;exact AHr
 refine Z1 ?_;refine R.fin [1,3,75] ?_
 refine W.cond (fun ht75=>?_) (fun ht75=>?_)
 ·refine AIj ?_;refine Z72 ?_;refine H.call Tryz.call129 (fun hB=>AFm e.text _) ?_;refine Z72 ?_;refine H.go ?_;refine D.tail ?_;refine G.go ?_;exact AEw
 refine Z18 ?_;exact AI0

mutual
def Bs (d:Int):Expr→List (Int×Expr)
 | .mk o t v k=>(d,.mk o t v k)::Bo (d+1) k
def Bo (d:Int):List Expr→List (Int×Expr)
  | []=>[]
  | e::r=>Bs d e++Bo d r
 end
theorem Ie (d:Int) (e:Expr):Bs d e=(d,e)::Bo (d+1) e.kids:=by cases e;rfl
theorem Ku (d:Int):∀a b,Bo d (a++b)=Bo d a++Bo d b
 | [],b=>rfl
 | e::r,b=>by rw [Dz,Bo,Bo,Ku d r b,C2]
theorem f8 (d:Int) (l:List Expr) {x:Nat} (h:x<l.length):Bo d (l.take (x+1))=Bo d (l.take x)++Bs d l[x]:=by
 rw [Fw h,Ku]
 simp [Bo]
theorem Qd (d:Int) (l:List Expr) {x:Nat} (h:x<l.length):Bo d l=Bo d (l.take x)++(Bs d l[x]++Bo d (l.drop (x+1))):=by
 have e:l=l.take x++(l[x]::l.drop (x+1)):=by rw [←Gx h,af]
 conv=>lhs;rw [e]
 rw [Ku,Bo]
mutual
def sizeE:Expr→Nat
 | .mk _ _ _ k=>1+C6 k
def C6:List Expr→Nat
  | []=>0
  | e::r=>sizeE e+C6 r
 end
theorem H1 (e:Expr):sizeE e=1+C6 e.kids:=by cases e;rfl
theorem Rw:∀(l:List Expr) {x:Nat} (h:x<l.length),sizeE l[x]≤C6 l
 | e::r,0,_=>by simp only [List.getElem_cons_zero,C6];omega
 | e::r,x+1,h=>by
  have:=Rw r (x:=x) (by simpa using h)
  simp only [List.getElem_cons_succ,C6]
  omega
theorem Vz (e:Expr) {x:Nat} (h:x<e.kids.length):sizeE e.kids[x]+1≤sizeE e:=by
 have:=Rw e.kids h
 rw [H1 e]
 omega
/-- Each node has few kids. -/
def okE:Nat→Expr→Prop
 | 0,_=>False
 | n+1,e=>e.text.length≤1048576∧e.kids.length≤1048576∧∀y∈e.kids,okE n y
/-- Who takes what a tree yields: item k is taken at U k; it goes on (go k) to U (k + 1), or ends at F k. Behind U k there may stand others' objects. -/
structure Takes (P:Program) (l:Nat) (L:List (Int×Expr)) (go:Nat→Bool) (U F:Nat→List AObj) (n0:Nat):Prop where
 lenU:∀k,(U k).length=n0
 lenF:∀k,(F k).length=n0
 lowU:∀k,∀x∈U k,ObjLow n0 x
 lowF:∀k,∀x∈F k,ObjLow n0 x
 lt:l<n0
 y:∀(X:List AObj) (k:Nat) (it:Int×Expr),L[k]? = some it→(∀j,j<k→go j=true)→AYield P l [A5 it.1,Ae it.2] (U k++X) (fun b H'=>b=go k∧H'=(if go k then U (k+1) else F k)++X)
theorem ObjLow.le {m m':Nat} (h:m≤m') {x:AObj} (hx:ObjLow m x):ObjLow m' x:=by
 cases x with
 | cells t cs=>exact fun y hy=>(hx y hy).mono h
 | loop s pd fr sz ps as' bd df=>exact ⟨fun s=>(hx.1 s).mono h,Cc hx.2 h⟩
 | defs=>trivial
 | dead=>trivial
 | bld _ _ _=>trivial
 | gone=>trivial
/-- What the walk over n items from k0 on comes to. -/
def f9 (go:Nat→Bool) (U F:Nat→List AObj) (k0 n:Nat) (X:List AObj):AV→List AObj→Prop:=fun r H' =>
 ((∀j,j<n→go (k0+j)=true)∧r=At true∧H'=U (k0+n)++X)∨(∃j,j<n∧(∀i,i<j→go (k0+i)=true)∧go (k0+j)=false∧r=At false∧H'=F (k0+j)++X)
mutual
theorem B2 (m:Nat):∀e,Low m (Ae e)
 | .mk o t v k=>by
  rw [Ae]
  refine .agg _ fun y hy=>?_
  simp only [By,J7,or_false] at hy
  rcases hy with rfl|rfl|rfl|rfl|rfl|rfl
  ·exact .v _
  ·exact .v _
  ·exact .v _
  ·exact .v _
  ·exact .v _
  exact low_slice.2 (W0 m k)
theorem W0 (m:Nat):∀l,∀y∈Rv l,Low m y
  | [],y,hy=>by cases hy
  | e::r,y,hy=>by
    rw [Rv] at hy
    rcases By.1 hy with rfl|h
    · exact B2 m e
    exact W0 m r y h
 end
theorem Qe {V O A B own:List AObj} (h:V++O=A++(B++own)) (hl:V.length=(A++B).length):V=A++B∧O=own:=by
 rw [←C2] at h
 exact Zo h hl
theorem Qf {m:Nat} {A X:List AObj} (hA:∀x∈A,ObjLow m x) (hX:∀x∈X,ObjLow m x):∀x∈A++X,ObjLow m x:=fun x hx=>by
 rcases H7.1 hx with h|h
 ·exact hA x h
 exact hX x h
theorem kx {P:Program} {l:Nat} {L:List (Int×Expr)} {go:Nat→Bool} {U F:Nat→List AObj} {n0 k n K:Nat} {X own V O:List AObj} {r:AV} (T:Takes P l L go U F n0) (hV:V.length=(U K++X).length) (hp:f9 go U F k n (X++own) r (V++O)):
  ∃b,r=At b∧O=own∧(if b then (∀j,j<n→go (k+j)=true)∧V=U (k+n)++X else ∃j,j<n∧(∀i,i<j→go (k+i)=true)∧go (k+j)=false∧V=F (k+j)++X)∧((∀x∈U K++X,ObjLow V.length x)→∀x∈V,ObjLow V.length x):=by
 have hn:n0≤V.length:=by rw [hV,Aq,T.lenU];omega
 rcases hp with ⟨h1,h2,h3⟩|⟨j,hj,h1,h2,h3,h4⟩
 ·obtain ⟨e1,e2⟩:=Qe h3 (by rw [hV];simp [T.lenU])
  refine ⟨true,h2,e2,⟨h1,e1⟩,fun h=>?_⟩
  rw [e1] at h ⊢
  exact Qf (fun x hx=>ObjLow.le (by rw [Aq,T.lenU];omega) (T.lowU _ x hx)) (fun x hx=>h x (Pu _ hx))
 obtain ⟨e1,e2⟩:=Qe h4 (by rw [hV];simp [T.lenU,T.lenF])
 refine ⟨false,h3,e2,⟨j,hj,h1,h2,e1⟩,fun h=>?_⟩
 rw [e1] at h ⊢
 exact Qf (fun x hx=>ObjLow.le (by rw [Aq,T.lenF];omega) (T.lowF _ x hx)) (fun x hx=>h x (Pu _ hx))
theorem fc (d:Int) (l:List Expr) {x:Nat} (h:x<l.length):(Bo d (l.take (x+1))).length=(Bo d (l.take x)).length+(Bs d l[x]).length:=by rw [f8 d l h,Aq]
theorem x9 {d0:Int} {e:Expr} {x:Nat} (h:x<e.kids.length) {j:Nat} {it:Int×Expr} (hj:(Bs (d0+1) e.kids[x])[j]? = some it):(Bs d0 e)[1+(Bo (d0+1) (e.kids.take x)).length+j]? = some it:=by
 rw [Ie d0 e,show 1+(Bo (d0+1) (e.kids.take x)).length+j=((Bo (d0+1) (e.kids.take x)).length+j)+1 by omega,Ra,Qd (d0+1) e.kids h,Ed (by omega)]
 rw [show (Bo (d0+1) (e.kids.take x)).length+j-(Bo (d0+1) (e.kids.take x)).length=j by omega,Ec (Ad.1 hj).1]
 exact hj
theorem qv (d0:Int) (e:Expr) {x:Nat} (h:x<e.kids.length):1+(Bo (d0+1) (e.kids.take x)).length+(Bs (d0+1) e.kids[x]).length≤(Bs d0 e).length:=by
 rw [Ie d0 e,Aw,Qd (d0+1) e.kids h]
 simp only [Aq]
 omega
theorem ALw {l:Nat} {L:List (Int×Expr)} {go:Nat→Bool} {U F:Nat→List AObj} {n0:Nat} (T:Takes Tryz.prog l L go U F n0):∀(n:Nat) (e:Expr),okE n e→∀(d0:Int) (k0:Nat) (X:List AObj),0≤d0→d0+n≤1099511627776→(∀(j:Nat) (it:Int×Expr),(Bs d0 e)[j]? = some it→L[k0+j]? = some it)→(∀j,j<k0→go j=true)→ACall Tryz.prog 127 [Ae e,A5 d0,.yield l] (U k0++X) (f9 go U F k0 (Bs d0 e).length X):=by
 intro n
 induction n with
 | zero=>exact fun e h=>h.elim
 | succ n ih =>
 intro e hok d0 k0 X hd hdn hit hgo
 have hlen0:(U k0++X).length=n0+X.length:=by rw [Aq,T.lenU]
 refine Ah [.tmp 6] [0,1,2] Tryz.func127 Tryz.ntmps127 (fun d=>?_)
 refine Z1 ?_;refine A2 [1,2,3] ?_;refine Z32 ?_
 refine R.yield0 (T.y X k0 (d0,e) (hit 0 _ (by rw [Ie];rfl)) hgo) ?_
 intro b Vv hV hb
 refine A4 ?_;refine A2 [1,2,3,13] ?_
 refine A3 (fun ht13=>?_) (fun ht13=>?_)
 ·have hb':b=false:=by simpa using ht13
  subst hb'
  refine pv ?_;refine Z9 ?_;exact A8 (Ai A6) (Or.inr ⟨0,by rw [Ie];simp,fun i hi=>by omega,hb.1.symm,rfl,by have:=hb.2;rw [show go k0=false from hb.1.symm] at this;exact this⟩)
 have hb':b=true:=by simpa using ht13
 subst hb'
 have hgo0:go (k0+0)=true:=hb.1.symm
 have hVe:Vv=U (k0+1)++X:=by have:=hb.2;rw [show go k0=true from hb.1.symm] at this;exact this
 subst hVe
 have h0x:0≤e.kids.length∧∀j,j<1+(Bo (d0+1) (e.kids.take 0)).length→go (k0+j)=true:=⟨Av _,fun j hj=>by
  have:j=0:=by simp [Bo] at hj;omega
  subst this
  exact hgo0⟩
 refine jy ?_;refine A2 [1,2,15,16,17] ?_
 refine Bh (α:=Nat) (fun x=>⟨28,A9 1 (A5 d0) (A9 2 (.yield l) (A9 15 (.slice false 6 (e.kids.map Ae)) (A9 16 (A5 e.kids.length) (A9 17 (A5 (x:Nat)) (fun _=>.any))))),U (k0+(1+(Bo (d0+1) (e.kids.take x)).length))++X,[],[],none⟩) (fun x=>x≤e.kids.length∧∀j,j<1+(Bo (d0+1) (e.kids.take x)).length→go (k0+j)=true) (fun x=>e.kids.length-x) (0) h0x (Bc (by simp [Bo])) rfl (fun x hx=>?_)
 refine Z2 ?_;refine A2 [1,2,15,16,17,18] ?_
 refine Gz (fun ht18=>?_) (fun ht18=>?_)
 ·have hlt:x<e.kids.length:=by simpa using ht18
  have hkl:=hok.2.1
  refine jq ?_
  refine A4 (h:=Ag (x) (Ae e.kids[x]) (fun _=>B7 hlt)) (hr:=?_)
  refine ju ?_;refine A2 [1,2,8,15,16,17] ?_;refine Z20 ?_
  refine R.callG Tryz.call127 (args:=[Ae e.kids[x],A5 (d0+1),.yield l]) (by rw [C2];exact ih e.kids[x] (hok.2.2 _ (Br hlt)) (d0+1) (k0+(1+(Bo (d0+1) (e.kids.take x)).length)) (X++_) (by omega) (by omega) (fun j it hj=>by have:=hit _ it (x9 hlt hj);rwa [←J9] at this) (fun j hj=>by rcases Bf j k0 with h|h;exact hgo j h;have:=hx.2 (j-k0) (by omega);rwa [show k0+(j-k0)=j by omega] at this)) ?_
  intro r Vv O hV hp
  obtain ⟨b,rfl,rfl,hc,hlowV⟩:=kx T hV hp
  refine ⟨hlowV,fun o ho=>by simp at ho,?_⟩
  refine A4 ?_;refine A2 [1,2,15,16,17,26] ?_
  refine A3 (fun ht26=>?_) (fun ht26=>?_)
  ·have hb':b=false:=by simpa using ht26
   subst hb'
   obtain ⟨j,hj,h1,h2,h3⟩:=hc
   refine pv ?_;refine Z41 ?_;refine Z37 ?_
   have hil:=qv d0 e hlt
   refine A8 (Ai A6) (Or.inr ⟨1+(Bo (d0+1) (e.kids.take x)).length+j,by omega,fun i hi=>?_,by rwa [J9] at h2,rfl,by rwa [J9] at h3⟩)
   rcases Bf i (1+(Bo (d0+1) (e.kids.take x)).length) with h|h
   ·exact hx.2 i h
   have:=h1 (i-(1+(Bo (d0+1) (e.kids.take x)).length)) (by omega)
   rwa [show k0+(1+(Bo (d0+1) (e.kids.take x)).length)+(i-(1+(Bo (d0+1) (e.kids.take x)).length))=k0+i by omega] at this
  have hb':b=true:=by simpa using ht26
  subst hb'
  obtain ⟨h1,h3⟩:=hc
  refine Vf ?_;refine A2 [1,2,15,16,17] ?_
  subst h3
  have hll:=fc (d0+1) e.kids hlt
  have e1:k0+(1+(Bo (d0+1) (e.kids.take (x+1))).length)=k0+(1+(Bo (d0+1) (e.kids.take x)).length)+(Bs (d0+1) e.kids[x]).length:=by omega
  refine B5 (x+1) ⟨hlt,fun j hj=>?_⟩ (by omega) ?_
  ·rcases Bf j (1+(Bo (d0+1) (e.kids.take x)).length) with h|h
   ·exact hx.2 j h
   have:=h1 (j-(1+(Bo (d0+1) (e.kids.take x)).length)) (by omega)
   rwa [show k0+(1+(Bo (d0+1) (e.kids.take x)).length)+(j-(1+(Bo (d0+1) (e.kids.take x)).length))=k0+j by omega] at this
  simp only [e1]
  exact E5 (own:=[]) (fun _=>.refl _) (by repeat (first|exact C5|refine C4 (by first|(simp [B2];done)|(have:=T.lt;simp [T.lenU];omega)) ?_)) (by simp) (by simp)
 have hxe:e.kids.take x=e.kids:=De (by simp at ht18;omega)
 refine Z31 ?_;refine Z2 ?_;refine Ts ?_
 have hl2:(Bs d0 e).length=1+(Bo (d0+1) (e.kids.take x)).length:=by rw [Ie,hxe,Aw];omega
 exact A8 (Ai A6) (Or.inl ⟨fun j hj=>hx.2 j (by omega),rfl,by rw [hl2]⟩)

abbrev Ey (e:Expr):List AV:=[.v (.int .i64 e.op),.v (sv e.text),.v (.int .i64 e.val.kind),.v (.int .i64 e.val.n),.v (sv e.val.s),.slice false 6 (e.kids.map Ae)]
/-- What taking all of a tree comes to. -/
def L7 (go:Nat→Bool) (U F:Nat→List AObj) (n:Nat) (H':List AObj):Prop:=
 ((∀j,j<n→go j=true)∧H'=U n)∨(∃j,j<n∧(∀i,i<j→go i=true)∧go j=false∧H'=F j)
theorem AFs {l:Nat} {e:Expr} {go:Nat→Bool} {U F:Nat→List AObj} {n0:Nat} (T:Takes Tryz.prog l (Bs 1 e) go U F n0) (n:Nat) (hok:okE n e) (hn:n≤1048576):ACall Tryz.prog 126 [.yield l,.ro (Ey e)] (U 0) (fun r H'=>L7 go U F (Bs 1 e).length H'):=by
 refine Ah [] [0,1] Tryz.func126 Tryz.ntmps126 (fun d=>?_)
 refine Z28 ?_;refine R.callG Tryz.call127 (args:=[Ae e,A5 1,.yield l]) (ALw T n e hok 1 0 [] (by omega) (by omega) (fun j it hj=>by rwa [Bm]) (fun j hj=>by omega)) ?_
 intro r Vv O hV hp
 have hO:O=[]:=by
  have h1:(Vv++O).length=n0:=by rcases hp with ⟨_,_,h⟩|⟨j,_,_,_,_,h⟩<;>rw [h]<;>simp [T.lenU,T.lenF]
  have h2:=T.lenU 0
  rw [Aq,hV,h2] at h1
  exact Zr (by omega)
 subst hO
 rw [Fz] at hp
 have hq:L7 go U F (Bs 1 e).length Vv:=by
  rcases hp with ⟨h1,_,h⟩|⟨j,h1,h2,h3,_,h⟩
  ·exact .inl ⟨fun j hj=>by have:=h1 j hj;rwa [Bm] at this,by rw [h];simp⟩
  exact .inr ⟨j,h1,fun i hi=>by have:=h2 i hi;rwa [Bm] at this,by rwa [Bm] at h3,by rw [h];simp⟩
 refine ⟨fun h=>?_,fun o ho=>by simp at ho,?_⟩
 ·rcases hq with ⟨_,h⟩|⟨j,_,_,_,h⟩<;>rw [h]
  ·rw [T.lenU];exact T.lowU _
  rw [T.lenF];exact T.lowF _
 refine A2 [] ?_;exact Jz .nores (hp:=hq)

theorem c92 (e:Expr) (Hp:List AObj):AFun Tryz.prog 92 [Ae e] Hp (.fn (.func 126) [] [.ro (Ey e)]):=by
 refine Ah [.tmp 2] [0] Tryz.func92 Tryz.ntmps92 (fun d=>?_)
 refine Z87 ?_;refine Eg ?_;refine I9 ?_;refine A4 ?_;refine Z4 ?_;exact A8 (Ai A6) (hlow:=by have:=B2 Hp.length e;rw [Ax] at this;simpa using this)

def goM (e:Expr) (k:Nat):Bool:=match (Bs 1 e)[k]? with
 | some it => !((!Cu it.2 || decide ((30:Int)<it.1)) || decide ((300:Int)<(k:Int)+1))
 | none=>true
def C3 (e:Expr):Bool:=(List.range (Bs 1 e).length).all (goM e)
mutual
theorem Yh:∀(n:Nat) (e:Expr),okE n e→∀d,∀it∈Bs d e,it.2.text.length≤1048576
 | 0,_,h,_,_,_=>h.elim
 | n+1,e,h,d,it,hit=>by
  rw [Ie] at hit
  rcases By.1 hit with rfl|h'
  ·exact h.1
  exact Yi n e.kids h.2.2 (d+1) it h'
 termination_by n e=>(n,0)
theorem Yi:∀(n:Nat) (l:List Expr),(∀y∈l,okE n y)→∀d,∀it∈Bo d l,it.2.text.length≤1048576
  | n,[],_,_,_,h=>by cases h
  | n,e::r,h,d,it,hit=>by
    rw [Bo] at hit
    rcases H7.1 hit with h'|h'
    · exact Yh n e (h e (by simp)) d it h'
    exact Yi n r (fun y hy=>h y (by simp [hy])) d it h'
  termination_by n l=>(n,l.length+1)
 end
theorem ky {U:List AObj} {i j:Nat} {x y:AObj} (h:U[i]? = some x) (hne:j≠i):(U.set j y)[i]? = some x:=by rw [Cr hne];exact h
theorem AFt {e:Expr} {k:Nat} {it:Int×Expr} (hit:(Bs 1 e)[k]? = some it) (h:∀j,j<k→goM e j=true):(k:Int)≤300:=by
 rcases Nat.eq_zero_or_pos k with h0|h0
 ·omega
 have hl:=(Ad.1 hit).1
 have:=h (k-1) (by omega)
 unfold goM at this
 rw [Aa (by omega)] at this
 simp at this
 omega
theorem bv {e:Expr} {k:Nat} {it:Int×Expr} (hit:(Bs 1 e)[k]? = some it):goM e k = !((!Cu it.2 || decide ((30:Int)<it.1)) || decide ((300:Int)<(k:Int)+1)):=by
 unfold goM;rw [hit]
theorem c61 (n:Nat) (e:Expr) (hok:okE n e) (hn:n≤1048576) (Hp:List AObj):AFun Tryz.prog 61 [Ae e] Hp (At (C3 e)):=by
 refine Ah [.cell 2 4] [0,4,5] Tryz.func61 Tryz.ntmps61 (fun d=>?_)
 refine Z2 ?_;refine Ks ?_;refine A2 [1,2,4,5] ?_;refine js ?_;refine A2 [1,2,3,4,5] ?_;refine Rk ?_
 refine bf (fun hlow=>?_)
 refine AF9 ?_;refine A2 [2,3,4,5,7] ?_;refine Et ?_
 refine Vc (m:=2) Tryz.call126 (fun FR as' bd' hFR has hbd=>?_)
 have hFRl:∀s,Low (Hp.length+4) (FR s):=by
  intro s
  rw [hFR]
  refine am ?_
  revert s
  repeat (first|exact C5|refine C4 (by simp [oid,B2]<;>try omega) ?_)
 have hOl:∀{k:Nat},∀x∈[AObj.cells 4 [At false],AObj.cells 3 [A5 (k:Nat)],AObj.defs,AObj.loop LoopState.ready none FR 23 #[8,9] as' bd' (oid Hp.length 2)],ObjLow (Hp.length+4) x:=by
  intro k x hx
  simp only [By,J7,or_false] at hx
  rcases hx with rfl|rfl|rfl|rfl
  ·exact AAe
  ·exact AAe
  ·trivial
  exact AAy
 have hOf:∀{k:Nat},∀x∈[AObj.cells 4 [At false],AObj.cells 3 [A5 ((k:Nat)+1)],AObj.defs,AObj.loop LoopState.done (some Code.ret) FR 23 #[8,9] as' bd' (oid Hp.length 2)],ObjLow (Hp.length+4) x:=by
  intro k x hx
  simp only [By,J7,or_false] at hx
  rcases hx with rfl|rfl|rfl|rfl
  ·exact AAe
  ·exact AAe
  ·trivial
  exact AAy
 refine ⟨fun _ H'=>L7 (goM e) (fun k=>Hp++[AObj.cells 4 [At false],AObj.cells 3 [A5 (k:Nat)],AObj.defs,AObj.loop LoopState.ready none FR 23 #[8,9] as' bd' (oid Hp.length 2)]) (fun k=>Hp++[AObj.cells 4 [At false],AObj.cells 3 [A5 ((k:Nat)+1)],AObj.defs,AObj.loop LoopState.done (some Code.ret) FR 23 #[8,9] as' bd' (oid Hp.length 2)]) (Bs 1 e).length H',AFs (l:=oid Hp.length 3) (go:=goM e) (U:=fun k=>Hp++[AObj.cells 4 [At false],AObj.cells 3 [A5 (k:Nat)],AObj.defs,AObj.loop LoopState.ready none FR 23 #[8,9] as' bd' (oid Hp.length 2)]) (F:=fun k=>Hp++[AObj.cells 4 [At false],AObj.cells 3 [A5 ((k:Nat)+1)],AObj.defs,AObj.loop LoopState.done (some Code.ret) FR 23 #[8,9] as' bd' (oid Hp.length 2)]) (n0:=Hp.length+4) ⟨fun k=>by simp,fun k=>by simp,fun k x hx=>?_,fun k x hx=>?_,by simp [oid],fun X k it hit hgo=>?_⟩ n hok hn,?_⟩
 ·exact w9
 ·exact Qf (fun x hx=>ObjLow.le (by omega) (hlow x hx)) hOf x hx
 ·have hk3:=AFt hit hgo
  generalize hV:(Hp++[AObj.cells 4 [At false],AObj.cells 3 [A5 (k:Nat)],AObj.defs,AObj.loop LoopState.ready none FR 23 #[8,9] as' bd' (oid Hp.length 2)]++X)=V
  have hL:V[oid Hp.length 3]? = some (AObj.loop LoopState.ready none FR 23 #[8,9] as' bd' (oid Hp.length 2)):=by rw [←hV,C2,Bi];rfl
  have hA0:V[oid Hp.length 1]? = some (AObj.cells 3 [A5 (k:Nat)]):=by rw [←hV,C2,Bi];rfl
  have hB0:V[oid Hp.length 0]? = some (AObj.cells 4 [At false]):=by rw [←hV,C2,Bi];rfl
  refine Rh (pd:=none) (fr:=FR) (sz:=23) (ps:=#[8,9]) (df:=oid Hp.length 2) (asg:=as') (bd:=bd') hL rfl (by decide) (fun d=>?_)
  subst hFR has hbd
  refine Dg [2,3,8,9] ?_;refine Z2 ?_;refine A2 [2,3,4,9] ?_;refine Hs ?_;refine Z16 ?_;refine Vh ?_
  refine ⟨rfl,none,hL,?_⟩
  generalize hbz:(AObj.loop LoopState.busy _ _ _ _ _ _ _)=bz
  have hA:(V.set (oid Hp.length 3) bz)[oid Hp.length 1]? = some (AObj.cells 3 [A5 (k:Nat)]):=by rw [Cr (Dh (by decide))];exact hA0
  have hB:(V.set (oid Hp.length 3) bz)[oid Hp.length 0]? = some (AObj.cells 4 [At false]):=by rw [Cr (Dh (by decide))];exact hB0
  refine Et ?_;refine Eg ?_
  refine A4 (h:=Cn hA) (hr:=?_)
  refine A4 ?_
  refine Ew jS hA ?_ ?_
  ·simp
  refine Vh ?_;refine Z2 ?_;refine A7 Tryz.call93 (c93 it.2 (Yh n e hok 1 it (Be hit)) _) ?_;refine Z46 ?_;refine Z0 ?_
  refine B3 (h:=Cn (As hA)) (hr:=?_)
  refine Z95 ?_;refine A2 [2,22] ?_
  refine A3 (fun ht22=>?_) (fun ht22=>?_)
  ·have hgf:goM e k=false:=by rw [bv hit,ht22];rfl
   refine Eg ?_
   refine Ew jS (ky (j:=oid Hp.length 1) hB (Dh (by decide))) ?_ ?_
   ·simp
   refine A2 [] ?_;refine Eu ?_;refine Ko ?_
   subst hbz
   refine K.rdR (dt hL (Dh (by decide)) (Dh (by decide))) ?_
   refine ⟨hgf.symm,?_⟩
   rw [if_neg (by rw [hgf];simp)]
   subst hV
   simp only [C2,F3,Dz,Dr,List.set_cons_succ,List.set_cons_zero]
   try rfl
  have hgt:goM e k=true:=by rw [bv hit,ht22];rfl
  refine G5 ?_;refine Hc ?_
  subst hbz
  refine K.rdN (dr hL (Dh (by decide))) ?_
  refine ⟨hgt.symm,?_⟩
  rw [if_pos hgt]
  subst hV
  simp only [C2,F3,Dz,Dr,List.set_cons_succ,List.set_cons_zero]
  try rfl
 rintro r H' (⟨h1,rfl⟩|⟨j,hj,h1,h2,rfl⟩)
 ·refine ⟨Hp,_,_,_,rfl,rfl,fun h=>h,?_,rfl,by simp,?_⟩
  ·intro o ho
   have:o=oid Hp.length 2:=by simpa using ho
   subst this
   rw [Bi]
   rfl
  refine Z12 ?_;refine Eg ?_;refine Z38 ?_;exact A8 (Ai (Jx jA)) ⟨by rw [show C3 e=true from B1.2 fun j hj=>h1 j (Nq.1 hj)],rfl⟩
 refine ⟨Hp,_,_,_,rfl,rfl,fun h=>h,?_,rfl,by simp,?_⟩
 ·intro o ho
  have:o=oid Hp.length 2:=by simpa using ho
  subst this
  rw [Bi]
  rfl
 refine Z41 ?_;exact A8 (Ai (Jx jA)) ⟨by rw [show C3 e=false from List.all_eq_false.2 ⟨j,Nq.2 hj,by rw [h2];simp⟩],rfl⟩

def F8 (s:Str):Expr:=.mk 2 s ⟨0,0,[]⟩ []
theorem fe (s:Str):Le (.agg [A5 2,Ac s,A5 0,A5 0,Ac [],.nil]) (Ae (F8 s)):=by
 rw [Ax]
 refine .agg _ _ rfl (by simp [AV.one,Value.oneCell',sv]) fun i y y' h1 h2=>?_
 match i with
 | 0=>simp at h1 h2;subst h1;subst h2;exact .inl rfl
 | 1=>simp at h1 h2;subst h1;subst h2;exact .inl rfl
 | 2=>simp at h1 h2;subst h1;subst h2;exact .inl rfl
 | 3=>simp at h1 h2;subst h1;subst h2;exact .inl rfl
 | 4=>simp at h1 h2;subst h1;subst h2;exact .inl rfl
 | 5=>simp at h1 h2;subst h1;subst h2;exact .inr ⟨rfl,6,rfl⟩
 | i+6=>simp at h1
theorem ff (s:Str) (h:s.length≤1048576):okE 1 (F8 s):=⟨h,by simp [F8,Expr.kids],fun y hy=>by cases hy⟩
def Rx (c:List Col) (x:Nat) (y:Col):Bool := !(((!C3 (F8 y.name)) || (Jo y.kind==[])) || (Co y.name c != (x:Int)))
def N9 (c:List Col):Bool:=c.zipIdx.all fun x=>Rx c x.2 x.1
theorem colsP_true {c:List Col}:N9 c=true↔∀(j:Nat) (y:Col),c[j]? = some y→Rx c j y=true:=kb
theorem c26 (c:List Col) (hc:OkCols c) (Hp:List AObj):AFun Tryz.prog 26 [Ce c] Hp (At (N9 c)):=by
 refine Ah [.tmp 2] [0] Tryz.func26 Tryz.ntmps26 (fun d=>?_)
 refine Z58 ?_;refine Z32 ?_;refine A2 [0,5,6,7] ?_
 refine Bh (α:=Nat) (fun x=>⟨32,A9 0 (Ce c) (A9 5 (Ce c) (A9 6 (A5 c.length) (A9 7 (A5 (x:Nat)) (fun _=>.any)))),Hp,[],[],none⟩) (fun x=>x≤c.length∧∀(j:Nat) (y:Col),j<x→c[j]? = some y→Rx c j y=true) (fun x=>c.length-x) (0) (by simp) (Bc (by simp)) rfl (fun x hx=>?_)
 refine Z2 ?_;refine A2 [0,5,6,7,8] ?_
 refine Gz (fun ht8=>?_) (fun ht8=>?_)
 ·have hlt:x<c.length:=by simpa using ht8
  have hcl:=hc.len
  refine Xp ?_
  refine A4 (h:=Ag (x) (N5 c[x]) (fun _=>B7 hlt)) (hr:=?_)
  refine A4 ?_;refine vl ?_;refine A2 [0,3,4,5,6,7] ?_;refine Z82 ?_;refine R.wk 14 _ (fe c[x].name) ?_;refine A7 Tryz.call61 (c61 1 (F8 c[x].name) (ff _ (hc.names _ (Br hlt))) (by decide) _) ?_;refine Z46 ?_;refine Bw Tryz.call62 (fun hB=>c62 c[x].kind _) ?_;refine B3 ?_;refine Z0 ?_;refine Z29 ?_;refine Bw Tryz.call29 (fun hB=>c29 c hc c[x].name _) ?_;refine Qa ?_;refine A2 [0,5,6,7,30] ?_
  refine A3 (fun ht30=>?_) (fun ht30=>?_)
  ·refine dy ?_
   exact A8 (Ai A6) ⟨by rw [show N9 c=false from I7.2 fun h=>by have:=colsP_true.1 h x c[x] (Aa hlt);unfold Rx at this;rw [ht30] at this;cases this],rfl⟩
  refine Vf ?_;refine A2 [0,5,6,7] ?_
  refine B5 (x+1) ⟨hlt,K3 hlt hx.2 (by unfold Rx;rw [ht30];rfl)⟩ (by omega) ?_
  exact E5 (own:=[]) (fun _=>.refl _) (by repeat (first|exact C5|refine C4 (by simp) ?_)) (by simp) (by simp)
 refine Z31 ?_;refine Z24 ?_;exact A8 (Ai A6) ⟨by rw [colsP_true.2 (Yb (by simp at ht8;omega) hx.2)],rfl⟩

theorem bw (s:Str) (h:s≠[]):Lib.contains [] s=false:=by
 cases s with
 | nil=>exact absurd rfl h
 | cons a r=>rfl
theorem contains_cons (b:UInt8) (l s:Str):Lib.contains (b::l) s=(s.isPrefixOf (b::l) || Lib.contains l s):=by
 unfold Lib.contains
 have hge:=Lib.index_ge l s
 rw [Lib.index]
 by_cases hp:s.isPrefixOf (b::l)=true
 ·rw [if_pos hp,hp];rfl
 rw [if_neg hp]
 have hp':s.isPrefixOf (b::l)=false:=I7.2 hp
 rw [hp',Dd]
 by_cases hi:Lib.index l s = -1
 ·rw [hi];rfl
 have:(Lib.index l s == -1)=false:=by simpa using hi
 rw [this,if_neg (by simp)]
 rw [decide_eq_decide]
 omega
/-- Words between blanks. -/
def Na:List Str→Str
 | []=>[32]
 | w::r=>32::(w++Na r)
theorem Yj (sub:Str):∀(w R:Str),(32:UInt8)∉w→Lib.contains (w++R) (32::sub)=Lib.contains R (32::sub)
 | [],R,_=>rfl
 | b::w,R,h=>by
  have hb:b≠32:=fun e=>h (by simp [e])
  rw [Dz,contains_cons,Yj sub w R (fun hm=>h (by simp [hm]))]
  have:(32::sub).isPrefixOf (b::(w++R))=false:=by
   simp [List.isPrefixOf,Ne.symm hb]
  rw [this,Dd]
theorem T0:∀(s w:Str) (R:Str),(32:UInt8)∉s→(32:UInt8)∉w→(s++[32]).isPrefixOf (w++32::R)=(s==w)
 | [],[],R,_,_=>by simp [List.isPrefixOf]
 | [],b::w,R,_,hw=>by
  have hb:(32:UInt8)≠b:=fun e=>hw (by simp [e])
  simp [List.isPrefixOf,hb]
 | a::s,[],R,hs,_=>by
  have hb:a≠(32:UInt8):=fun e=>hs (by simp [e])
  simp [List.isPrefixOf,hb]
 | a::s,b::w,R,hs,hw=>by
  have ih:=T0 s w R (fun h=>hs (by simp [h])) (fun h=>hw (by simp [h]))
  rw [Dz,Dz,List.isPrefixOf,ih]
  rfl
theorem fg:∀ws,∃R,Na ws=32::R
 | []=>⟨[],rfl⟩
 | w::r=>⟨_,rfl⟩
theorem K4 (s:Str) (hs:(32:UInt8)∉s):∀(ws:List Str),(∀w∈ws,(32:UInt8)∉w)→Lib.contains (Na ws) ([32]++s++[32])=ws.any (·==s)
 | [],_=>by
  rw [Na,contains_cons,bw _ (by simp),Bool.or_false]
  cases s<;>simp [List.isPrefixOf]
 | w::r,h=>by
  have hw:=h w (by simp)
  obtain ⟨R,hR⟩:=fg r
  have ih:=K4 s hs r (fun x hx=>h x (by simp [hx]))
  have e1:([32]++s++[32]:Str)=32::(s++[32]):=rfl
  rw [Na,contains_cons,e1,Yj _ w _ hw,←e1,ih,List.any_cons]
  congr 1
  rw [e1,hR]
  have:=T0 s w R hs hw
  rw [List.isPrefixOf,this]
  simp only [beq_self_eq_true,Cw]
  by_cases hsw:s=w
  ·subst hsw;rfl
  rw [beq_eq_false_iff_ne.2 hsw,beq_eq_false_iff_ne.2 (Ne.symm hsw)]
theorem Xy:Lw=Na words:=by kernel_rfl
theorem fh:∀w∈words,(32:UInt8)∉w:=by decide
theorem fj (s:Str):Lib.contains s [32]=s.contains 32:=by
 induction s with
 | nil=>rfl
 | cons b l ih =>
  rw [contains_cons,ih,List.contains_cons]
  congr 1
  simp [List.isPrefixOf]
theorem W1 (s:Str) (h1:s≠[]) (h2:(32:UInt8)∉s):Gp s=Ia s:=by
 unfold Gp
 rw [fj,Xy,K4 s h2 words fh]
 have e1:(s==[])=false:=by simpa using h1
 have e2:s.contains 32=false:=by simpa using h2
 rw [e1,e2]
 rfl
set_option maxRecDepth 8000
theorem xa {p:UInt8→Bool} (h:((List.range 256).all fun n=>p (UInt8.ofNat n))=true) (c:UInt8):p c=true:=by
 have:=B1.1 h c.toNat (Nq.2 c.toNat_lt)
 simpa using this
theorem kz (c:UInt8):tails.contains c=L4 c:=by
 have:=xa (p:=fun c=>tails.contains c==L4 c) (by kernel_rfl) c
 simpa using this
theorem bx (c:UInt8):letters.contains c=H8 c:=by
 have:=xa (p:=fun c=>letters.contains c==H8 c) (by kernel_rfl) c
 simpa using this
theorem l3:L4 32=false:=by kernel_rfl
theorem mm (s of:Str):(Qb s of==(s.length:Int))=s.all (of.contains ·):=by
 unfold Qb Lib.trimLeftS
 induction s with
 | nil=>rfl
 | cons c r ih =>
  rw [R6,List.all_cons]
  cases hc:of.contains c with
  | true =>
   simp only [if_true,Cw]
   rw [←ih,Js]
   have:=(j5 (fun x=>of.contains x) (l:=r)).length_le
   simp only [beq_iff_eq,Aw]
   omega
  | false =>
   simp only [Af,if_false,Dy]
   rw [beq_eq_false_iff_ne]
   simp only [Aw]
   omega
theorem Ly (s:Str):Fj s=K2 s:=by
 cases s with
 | nil=>rfl
 | cons c r =>
  unfold Fj
  rw [mm]
  have e1:((c::r).all fun x=>tails.contains x)=(c::r).all L4:=by
   congr 1
   funext x
   exact kz x
  have e2:(Qb ((c::r).take 1) letters==1)=H8 c:=by
   have:=mm [c] letters
   rw [←bx c]
   simpa using this
  rw [e1,e2]
  have e3:((c::r:Str)==[])=false:=rfl
  have e4:decide (((c::r).length:Int)≤16)=decide ((c::r).length≤16):=by
   rw [decide_eq_decide];omega
  rw [e3,e4]
  show _=(decide ((c::r).length≤16)&&H8 c && !Ia (c::r)&&(c::r).all L4)
  cases ha:(c::r).all L4 with
  | false=>simp
  | true =>
   have hb:(32:UInt8)∉(c::r):=fun hm=>by
    have:=B1.1 ha 32 hm
    rw [l3] at this
    cases this
   rw [W1 _ (by simp) hb]
   simp
theorem l4 (s:Str):C3 (F8 s)=K2 s:=by
 have e:Bs 1 (F8 s)=[(1,F8 s)]:=by rw [Ie];rfl
 unfold C3
 rw [e]
 show ((List.range 1).all (goM (F8 s)))=_
 have g:goM (F8 s) 0=Cu (F8 s):=by
  unfold goM
  rw [e]
  simp
 simp only [ae,List.range_zero,Dr,List.all_cons,List.all_nil,P4]
 rw [g,←Ly]
 simp [Cu,F8,Expr.op,Expr.val,Expr.text,Expr.kids,L6]
theorem c8 (k:Int):(Jo k==[])=(decide (k<1) || decide ((3:Int)<k)):=by
 unfold Jo
 by_cases h:k<1∨3<k
 ·rw [if_pos h]
  have:(decide (k<1) || decide ((3:Int)<k))=true:=by simpa using h
  rw [this];rfl
 rw [if_neg h]
 have:(decide (k<1) || decide ((3:Int)<k))=false:=by simp;omega
 rw [this]
 have hk:k=1∨k=2∨k=3:=by omega
 rcases hk with rfl|rfl|rfl<;>rfl
theorem Lz (c:List Col):N9 c=Mb c:=by
 unfold N9 Mb
 congr 1
 funext x
 unfold Rx Ya
 rw [l4,c8,←Bool.or_assoc (!K2 x.1.name)]
set_option maxRecDepth 4000
def Ak (l:List Tok) (i:Nat):Tok:=l.getD i ⟨0,[],0⟩
theorem M0 {l:List Tok} {i:Nat} (h:i<l.length):(l.map Ic)[i]? = some (Ic (Ak l i)):=by
 rw [C8,Aa h]
 unfold Ak
 rw [D6,Aa h]
 rfl
end Go.SX.Nb
