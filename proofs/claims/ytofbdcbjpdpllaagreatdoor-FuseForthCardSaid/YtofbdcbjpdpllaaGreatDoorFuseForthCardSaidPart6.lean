/- On the way (part 6). -/
import Derived.Test.YtofbdcbjpdpllaaGreatDoorFuseForthCardSaidPart5
set_option linter.all false
namespace Go.SX.Nb
open Go Go.SX Go.Proofs
variable [ErrAt]
set_option maxRecDepth 4000
def wAt (s:Str) (k:Nat):Int×Str×Int×Int:=D0 (s.drop k)
theorem Pq {f k:Nat} {s:Str} (h:s≠[]):Kg (f+1) k s=(⟨(D0 s).1,(D0 s).2.1,k⟩,(D0 s).2.2.2)::(if (D0 s).2.2.2==0 then Kg f (k+(D0 s).2.2.1.toNat+gapM (s.drop (D0 s).2.2.1.toNat)) ((s.drop (D0 s).2.2.1.toNat).drop (gapM (s.drop (D0 s).2.2.1.toNat))) else []):=by
 rw [Kg,if_neg (by simpa using h)]
/-- Where the reader is, with k words behind it. -/
def Vf (s:Str) (k p:Nat):Prop:=(∃f,(s.drop p).length<f∧(Cy s).drop k=Kg f p (s.drop p))∧p≤s.length∧∀j,j<k→∃it,(Cy s)[j]? = some it∧it.2=0
theorem pz (s:Str):Vf s 0 (gapM s):=⟨⟨s.length+1,by rw [I1];omega,by rw [en];rfl⟩,pw s,fun j hj=>by omega⟩
theorem xn {s:Str} {k p:Nat} (h:Vf s k p):k≤(Cy s).length:=by
 refine Hm fun hn=>?_
 obtain ⟨it,hit,_⟩:=h.2.2 (Cy s).length (by omega)
 rw [Ho (Ak _)] at hit
 cases hit
theorem xp {s:Str} {k p:Nat} (h:Vf s k p) (hp:s.length≤p):k=(Cy s).length∧∀it∈Cy s,it.2=0:=by
 have hl:=xn h
 obtain ⟨⟨f,_,hd⟩,_,h0⟩:=h
 have e:s.drop p=[]:=by rw [nf];exact hp
 rw [e] at hd
 have:(Cy s).drop k=[]:=by rw [hd];cases f<;>rfl
 rw [nf] at this
 have hk:k=(Cy s).length:=by omega
 refine ⟨hk,fun it hit=>?_⟩
 obtain ⟨j,hj,rfl⟩:=List.mem_iff_getElem.1 hit
 obtain ⟨it',h1,h2⟩:=h0 j (by omega)
 rw [Ab hj] at h1
 injection h1 with h1
 rw [h1];exact h2
theorem Y0 {s:Str} {k p:Nat} (h:Vf s k p) (hp:p<s.length):∃f,(s.drop p).length<f+1∧(Cy s).drop k=Kg (f+1) p (s.drop p)∧s.drop p≠[]:=by
 obtain ⟨⟨f,hf,hd⟩,_,_⟩:=h
 obtain ⟨g,rfl⟩:∃g,f=g+1:=⟨f-1,by omega⟩
 exact ⟨g,hf,hd,fun e=>by rw [nf] at e;omega⟩
theorem Rv {s:Str} {k p:Nat} (h:Vf s k p) (hp:p<s.length):(Cy s)[k]? = some (⟨(wAt s p).1,(wAt s p).2.1,p⟩,(wAt s p).2.2.2):=by
 obtain ⟨f,_,hd,hne⟩:=Y0 h hp
 rw [Pq hne] at hd
 have:=congrArg (·[0]?) hd
 unfold wAt
 simpa using this
theorem q8 {s:Str} {k p:Nat} (h:Vf s k p) (hp:p<s.length) (he:(wAt s p).2.2.2=0):∃n:Nat,(wAt s p).2.2.1=(n:Int)∧1≤n∧p+n≤s.length∧Vf s (k+1) (p+n+gapM (s.drop (p+n))):=by
 have hi:=Rv h hp
 obtain ⟨f,hf,hd,hne⟩:=Y0 h hp
 obtain ⟨n,hn,h1,h2⟩:=tj (s:=s.drop p) (by rw [I1];omega) he
 rw [I1] at h2 hf
 have hg:=pw (s.drop (p+n))
 rw [I1] at hg
 refine ⟨n,hn,h1,by omega,⟨f,by rw [I1];omega,?_⟩,by omega,fun j hj=>?_⟩
 ·rw [Pq hne] at hd
  have:=congrArg (·.drop 1) hd
  simp only [el,nh,en] at this
  unfold wAt at he
  rw [this,hn,he]
  simp only [beq_self_eq_true,if_true,Int.toNat_natCast,el]
 rcases Bv j k with h'|h'
 ·exact h.2.2 j h'
 have:j=k:=by omega
 subst this
 exact ⟨_,hi,he⟩
theorem APp (l:Nat) (s:Str) (hs:s.length≤1048576) (U F:Nat→List AObj) (hlen:∀k,(U k).length=(U 0).length) (hll:l<(U 0).length)
  (hy:∀k it,(Cy s)[k]? = some it→AYield Tryz.prog l [Me it.1,A5 it.2] (U k) (fun b H'=>if it.2=0 then b=true∧H'=U (k+1) else b=false∧H'=F k)):ACall Tryz.prog 153 [.yield l,.ro [Ae s]] (U 0) (fun r H'=>((∀it∈Cy s,it.2=0)∧H'=U (Cy s).length)∨∃k it,(Cy s)[k]? = some it∧it.2≠0∧(∀j,j<k→∃it',(Cy s)[j]? = some it'∧it'.2=0)∧H'=F k):=by
 refine Af [] [0,1] Tryz.func153 Tryz.ntmps153 (fun d=>?_)
 refine Z2 ?_;refine Aa Tryz.call154 (ANq s hs _) ?_;refine A4 ?_;refine A2 [0,1,3] ?_
 refine B7 (α:=Nat×Nat) (fun x=>⟨44,A7 0 (.yield l) (A7 1 (.ro [Ae s]) (A7 3 (A5 (x.2:Nat)) (fun _=>.any))),U x.1,[],[],none⟩) (fun x=>Vf s x.1 x.2) (fun x=>s.length-x.2) (0,gapM s) (pz s) (G8 _) rfl (fun x hx=>?_)
 obtain ⟨k,p⟩:=x
 simp only at hx ⊢
 refine Z60 ?_;refine A2 [0,1,3,13] ?_
 refine A3 (fun ht13=>?_) (fun ht13=>?_)
 ·have hpl:p<s.length:=by simpa using ht13
  refine Su ?_
  refine A4 (h:=Q.scutL p (fun _=>hx.2.1) (fun _=>Ak _)) (hr:=?_)
  refine Aa Tryz.call155 (APn (s.drop p) (by rw [I1];omega) (by rw [I1];omega) _) ?_
  refine Z89 ?_;refine Z75 ?_;refine A2 [0,1,3,4,5,6,7] ?_;refine Z60 ?_;refine oy ?_;refine A4 ?_;refine R.yield0 (hy k _ (Rv hx hpl)) ?_
  intro b V hV hb
  refine Z47 ?_;refine A4 ?_;refine A2 [0,1,3,6,40] ?_
  refine A3 (fun ht40=>?_) (fun ht40=>?_)
  ·have hbe:(D0 (s.drop p)).2.2.2≠0∧V=F k:=by
    split at hb
    ·rename_i h0
     obtain ⟨rfl,_⟩:=hb
     have h0':(D0 (s.drop p)).2.2.2=0:=h0
     simp [h0'] at ht40
    rename_i h0
    exact ⟨h0,hb.2⟩
   refine AB3 ?_;refine Z33 ?_;exact A8 .nores (hp:=.inr ⟨k,_,Rv hx hpl,hbe.1,hx.2.2,hbe.2⟩)
  have hbe:(D0 (s.drop p)).2.2.2=0∧V=U (k+1):=by
   split at hb
   ·rename_i h0
    exact ⟨h0,hb.2⟩
   obtain ⟨rfl,_⟩:=hb
   simp at ht40
  obtain ⟨n,hn,hn1,hnl,hnx⟩:=q8 hx hpl hbe.1
  unfold wAt at hn
  rw [hn]
  have hgl:=pw (s.drop (p+n))
  rw [I1] at hgl
  refine Z5 ?_;refine Z12 ?_;refine Z0 ?_;refine A2 [0,1,3] ?_;refine Xl ?_
  refine A4 (h:=Q.scutL (p+n) (fun _=>hnl) (fun _=>Ak _)) (hr:=?_)
  refine Aa Tryz.call154 (ANq (s.drop (p+n)) (by rw [I1];omega) _) ?_
  refine Z0 ?_;refine A2 [0,1,3] ?_;exact Bb (k+1,p+n+gapM (s.drop (p+n))) hnx (by show s.length-_<s.length-p;omega) (Cg (by rw [hbe.2];simp))
 have hpl:s.length≤p:=by simpa using ht13
 obtain ⟨hk,hz⟩:=xp hx hpl
 refine x7 ?_;exact Fv .nores (hp:=.inl ⟨hz,by rw [hk]⟩)

theorem APq (s:Str) (Hp:List AObj):AFun Tryz.prog 113 [Ae s] Hp (.fn (.func 153) [] [.ro [Ae s]]):=by
 refine Af [.tmp 2] [0] Tryz.func113 Tryz.ntmps113 (fun d=>?_)
 refine Z90 ?_;refine ABi ?_;exact AF4

def Ic (s:Str):List Tok×Int×Nat:=if 4000<s.length then ([],3,0) else
 match (Cy s).find? (fun it=>it.2 != 0) with
 | some it=>([],it.2,it.1.at_)
 | none=>((Cy s).map (·.1)++[⟨0,[],s.length⟩],0,0)
theorem AG2 {s:Str} {k:Nat} {it:Tok×Int} (hit:(Cy s)[k]? = some it) (he:it.2≠0) (h0:∀j,j<k→∃it',(Cy s)[j]? = some it'∧it'.2=0):(Cy s).find? (fun it=>it.2 != 0)=some it:=by
 rw [AAd]
 obtain ⟨hk,e⟩:=Ad.1 hit
 refine ⟨by simpa using he,k,hk,e,fun j hj=>?_⟩
 obtain ⟨it',h1,h2⟩:=h0 j hj
 rw [Ab (by omega)] at h1
 injection h1 with h1
 rw [h1,h2];rfl
theorem ACa {s:Str} (h:∀it∈Cy s,it.2=0):(Cy s).find? (fun it=>it.2 != 0)=none:=by
 rw [M2]
 intro it hit
 simp [h it hit]
def bx (s:Str) (k:Nat):Int×Nat:=match (Cy s)[k]? with|some it=>(it.2,it.1.at_)|none=>(0,0)
theorem Y1:∀(f k:Nat) (s:Str),(Kg f k s).length≤f
 | 0,_,_=>Ar _
 | f+1,k,s=>by
  rw [Kg]
  split
  ·exact oz
  rw [Aw]
  split
  ·have:=Y1 f (k+(D0 s).2.2.1.toNat+gapM (s.drop (D0 s).2.2.1.toNat)) ((s.drop (D0 s).2.2.1.toNat).drop (gapM (s.drop (D0 s).2.2.1.toNat)))
   omega
  simp
theorem Y2 (s:Str):(Cy s).length≤s.length+1:=Y1 _ _ _
def Nj (s:Str) (k:Nat):List Tok:=((Cy s).take k).map (·.1)
theorem Ud (s:Str) (k:Nat):(Nj s k).length≤s.length+1:=by
 have:=Y2 s
 unfold Nj
 rw [Aj,Ci]
 omega
theorem q9 {s:Str} {k:Nat} {it:Tok×Int} (hit:(Cy s)[k]? = some it):Nj s (k+1)=Nj s k++[it.1]:=by
 unfold Nj
 rw [Wi,hit,By]
 rfl
theorem xq (s:Str):Nj s (Cy s).length=(Cy s).map (·.1):=by unfold Nj;rw [Mu]
theorem xt {s:Str} {k:Nat} {it:Tok×Int} (hl4:¬4000<s.length) (hit:(Cy s)[k]? = some it) (he:it.2≠0) (h0:∀j,j<k→∃it',(Cy s)[j]? = some it'∧it'.2=0):Ic s=([],it.2,it.1.at_):=by
 unfold Ic
 rw [if_neg hl4,AG2 hit he h0]
theorem ACb {s:Str} (hl4:¬4000<s.length) (hz:∀it∈Cy s,it.2=0):Ic s=(Nj s (Cy s).length++[⟨0,[],s.length⟩],0,0):=by
 unfold Ic
 rw [if_neg hl4,ACa hz,xq]
theorem c71 (s:Str) (hs:s.length≤1048576) (Hp:List AObj):AFun Tryz.prog 71 [Ae s] Hp (.tup [tg (Ic s).1,.agg [A5 (Ic s).2.1,A5 (Ic s).2.2]]):=by
 refine Af [.cell 2 107,.cell 3 69] [0,5,6] Tryz.func71 Tryz.ntmps71 (fun d=>?_)
 refine Z35 ?_;refine Pm ?_;refine A2 [0,2,3,5,6] ?_;refine Z36 ?_;refine A2 [0,2,3,5,6,9] ?_
 refine A3 (fun ht9=>?_) (fun ht9=>?_)
 ·have hlm:Ic s=([],3,0):=by unfold Ic;rw [if_pos (by simp at ht9;omega)]
  refine AMp ?_;refine Iq ?_;refine Rl 0 3 ?_;refine Iq ?_;refine Z51 ?_;refine C4 ?_;exact A8 (Ay (Gv jA) (Bu jA jS)) ⟨by rw [hlm];rfl,rfl⟩
 have hl4:¬4000<s.length:=by simp at ht9;omega
 refine Z5 ?_;refine Z35 ?_;refine A2 [0,2,3,4,5,6] ?_;refine Z67 ?_;refine Rl 2 3 ?_;refine A4 ?_;refine Aa Tryz.call113 (APq s _) ?_;refine A2 [0,2,3,4,5,6,12] ?_;refine Jk ?_
 refine Ob (m:=3) Tryz.call153 (fun FR as' bd' hFR has hbd=>?_)
 refine ⟨_,APp (oid Hp.length 4) s hs (fun k=>Hp++[AObj.cells 107 [AV.nil],AObj.cells 69 [A5 0,A5 0],AObj.cells 107 [AV.slice true 3 ((Nj s k).map Me)],AObj.defs,AObj.loop LoopState.ready none FR 32 #[13,14] as' bd' (oid Hp.length 3)]) (fun k=>Hp++[AObj.cells 107 [AV.nil],AObj.cells 69 [A5 (bx s k).1,A5 (bx s k).2],AObj.cells 107 [AV.slice true 3 ((Nj s k).map Me)],AObj.defs,AObj.loop LoopState.done (some Code.ret) FR 32 #[13,14] as' bd' (oid Hp.length 3)]) (fun k=>by simp) (by simp [oid]) (fun k it hit=>?_),?_⟩
 ·generalize hV:Hp++[AObj.cells 107 [AV.nil],AObj.cells 69 [A5 0,A5 0],AObj.cells 107 [AV.slice true 3 ((Nj s k).map Me)],AObj.defs,AObj.loop LoopState.ready none FR 32 #[13,14] as' bd' (oid Hp.length 3)]=V
  have hL:V[oid Hp.length 4]? = some (AObj.loop LoopState.ready none FR 32 #[13,14] as' bd' (oid Hp.length 3)):=by rw [←hV,Bm];rfl
  have hA0:V[oid Hp.length 2]? = some (AObj.cells 107 [AV.slice true 3 ((Nj s k).map Me)]):=by rw [←hV,Bm];rfl
  have hB0:V[oid Hp.length 0]? = some (AObj.cells 107 [AV.nil]):=by rw [←hV,Bm];rfl
  have hC0:V[oid Hp.length 1]? = some (AObj.cells 69 [A5 0,A5 0]):=by rw [←hV,Bm];rfl
  refine O5 (pd:=none) (fr:=FR) (sz:=32) (ps:=#[13,14]) (df:=oid Hp.length 3) (asg:=as') (bd:=bd') hL rfl (by decide) (fun d=>?_)
  subst hFR has hbd
  refine Hq [2,3,4,13,14] ?_;refine Fp ?_;refine Z19 ?_;refine A2 [2,3,4,5,14] ?_;refine Z66 ?_;refine A2 [2,3,4,5,6] ?_
  refine ⟨rfl,none,hL,?_⟩
  generalize hbz:(AObj.loop LoopState.busy _ _ _ _ _ _ _)=bz
  have hA:(V.set (oid Hp.length 4) bz)[oid Hp.length 2]? = some (AObj.cells 107 [AV.slice true 3 ((Nj s k).map Me)]):=by rw [Dr (Cn (by decide))];exact hA0
  have hB:(V.set (oid Hp.length 4) bz)[oid Hp.length 0]? = some (AObj.cells 107 [AV.nil]):=by rw [Dr (Cn (by decide))];exact hB0
  have hC:(V.set (oid Hp.length 4) bz)[oid Hp.length 1]? = some (AObj.cells 69 [A5 0,A5 0]):=by rw [Dr (Cn (by decide))];exact hC0
  refine Jk ?_;refine Z8 ?_;refine A2 [2,3,4,5,6,16] ?_
  refine A3 (fun ht16=>?_) (fun ht16=>?_)
  ·have hne:it.2≠0:=by simpa using ht16
   refine Ip [0,0,2,7,0,31] [4] [.q 4 [] [],.s [] (some 0) [] []] (fun _=>V.set (oid Hp.length 4) bz) (fun _=>[AObj.cells 113 [A5 it.1.kind,Ae it.1.text,A5 it.1.at_]]) An (by kernel_rfl) rfl rfl (fun _=>rfl) ?_
   apply Y.q
   ·intro B hT hF
    refine Z40 ?_;exact ALf
   case hTF=>decide
   refine Y.storeUp (o:=oid Hp.length 0) (ys:=[.nil]) (t':=107) (cs:=[AV.nil]) (cs':=[AV.nil]) jS (fun _ _=>⟨hB,(Is hB).symm,rfl,by simp⟩) ?_;refine Ha (tn:=[4]) (U:=V.set (oid Hp.length 4) bz) ?_
   refine Fu jS hC ?_ ?_
   ·simp
   refine ABf ?_;refine K.blR ?_
   subst hbz
   refine K.rdR (AAw hL (Cn (by decide))) ?_
   rw [if_neg hne]
   refine ⟨rfl,?_⟩
   subst hV
   simp only [Gf,List.set_cons_succ,List.set_cons_zero]
   rw [show bx s k=(it.2,it.1.at_) by unfold bx;rw [hit]]
  have heq:it.2=0:=by simpa using ht16
  refine Z5 ?_;refine K8 ?_
  have hl3:=Ud s k
  refine R.loadUpT jA hA ?_;refine Z57 ?_
  refine Eu jU Tryz.type113 ?_ ?_ ?_
  ·simp [hl3,Tryz.t113];omega
  ·simp [hl3,Tryz.t113];omega
  refine Io jS (getset hA) ?_ ?_
  ·simp [or_imp,forall_and]
  refine Z78 ?_
  subst hbz
  refine AFp ?_
  rw [if_pos heq]
  refine ⟨rfl,?_⟩
  subst hV
  simp only [Gf,List.set_cons_succ,List.set_cons_zero]
  rw [q9 hit,By]
  rfl
 rintro r H' (⟨hz,rfl⟩|⟨k,it,hit,hne,h0,rfl⟩)
 ·refine ⟨Hp,_,_,_,rfl,rfl,fun h=>h,?_,rfl,by simp,?_⟩
  ·intro o ho
   have:o=oid Hp.length 3:=by simpa using ho
   subst this
   rw [Bm]
   rfl
  refine Z10 ?_;refine Fp ?_;refine fp jA ?_;refine Z0 ?_;refine oy ?_;refine Pn ?_
  refine Eu jU Tryz.type113 ?_ ?_ ?_
  ·have:=Ud s (Cy s).length;simp [Tryz.t113];omega
  ·have:=Ud s (Cy s).length;simp [Tryz.t113];omega
  refine gk ?_;refine Xc jS ?_;refine Iq ?_;refine Z51 ?_;exact A8 (Ay (Gv jA) (Bu jA jS)) ⟨by rw [ACb hl4 hz,tg,By];rfl,rfl⟩ (hlow:=by simp [or_imp,forall_and])
 refine ⟨Hp,_,_,_,rfl,rfl,fun h=>h,?_,rfl,by simp,?_⟩
 ·intro o ho
  have:o=oid Hp.length 3:=by simpa using ho
  subst this
  rw [Bm]
  rfl
 refine W.nilOwn 0 3 ?_;refine Gn ?_;refine Z6 ?_;exact A8 (Ay (Gv jA) (Bu jA jS)) ⟨by rw [xt hl4 hit hne h0,show bx s k=(it.2,it.1.at_) by unfold bx;rw [hit]];rfl,rfl⟩

inductive Expr where
 | mk (op:Int) (text:Str) (val:Val) (kids:List Expr)
def Expr.op:Expr→Int|.mk o _ _ _=>o
def Expr.text:Expr→Str|.mk _ t _ _=>t
def Expr.val:Expr→Val|.mk _ _ v _=>v
def Expr.kids:Expr→List Expr|.mk _ _ _ k=>k
mutual
def A9:Expr→AV
 | .mk o t v k=>.agg [.v (.int .i64 o),.v (sv t),.v (.int .i64 v.kind),.v (.int .i64 v.n),.v (sv v.s),.slice false 6 (Ue k)]
def Ue:List Expr→List AV
  | []=>[]
  | e::r=>A9 e::Ue r
 end
theorem Y3:∀l,Ue l=l.map A9
 | []=>rfl
 | e::r=>by rw [Ue,Y3 r];rfl
theorem At (e:Expr):A9 e=.agg [.v (.int .i64 e.op),.v (sv e.text),.v (.int .i64 e.val.kind),.v (.int .i64 e.val.n),.v (sv e.val.s),.slice false 6 (e.kids.map A9)]:=by
 cases e with
 | mk o t v k=>rw [A9,Y3];rfl
attribute [go_sem] At
def Qk:Str:=[32,111,114,32,32,97,110,100,32,32,61,32,33,61,32,60,32,60,61,32,62,32,62,61,32,32,43,32,45,32,38,32,32,42,32,47,32,37,32]
def Nk (v:Val):Bool:=v.kind==0&&v.n==0&&v.s==[]
def Dl (e:Expr):Bool:=
 if e.op==1 then ((E2 e.val&&decide (0≤e.val.n))&&(e.text==[]))&&((e.kids.length:Int)==0)
 else if e.op==2 then (Nk e.val&&Dk e.text)&&((e.kids.length:Int)==0)
 else if e.op==3 || e.op==4 then (Nk e.val&&(e.text==[]))&&((e.kids.length:Int)==1)
 else if e.op==5 then (Nk e.val&&Qj e.text Qk)&&((e.kids.length:Int)==2)
 else if e.op==6 then Nk e.val&&(Ch e.text==(e.kids.length:Int))
 else false
theorem c78 (e:Expr) (hs:e.text.length≤1048576) (Hp:List AObj):AFun Tryz.prog 78 [A9 e] Hp (Bk (Dl e)):=by
 refine ACall.body [.tmp 2] [0] Tryz.func78 Tryz.ntmps78 (fun d=>?_)
 refine Z90 ?_;refine Z1 ?_;refine oy ?_
 refine R.go (h:=Q.eqlAgg Xo (Jl e.val.kind e.val.n 0 0 e.val.s [])) (hr:=?_)
 refine R.go ?_;refine R.fin [1,3] ?_;refine Z8 ?_;refine R.fin [1,3,9] ?_;refine Pj ?_;refine R.fin [1,3,9,10] ?_
 refine W.cond (fun ht10=>?_) (fun ht10=>?_)
 ·refine Z1 ?_;refine R.call Tryz.call37 (c37 e.val _) ?_;refine R.go ?_;refine Z7 ?_;refine ae ?_;refine Xm ?_;exact wr
 refine Z1 ?_;refine R.fin [1,3,9,32] ?_
 refine W.cond (fun ht32=>?_) (fun ht32=>?_)
 ·refine Z1 ?_;refine Z7 ?_;refine G.call Tryz.call40 (fun hB=>c40 e.text hs _) ?_;refine Z47 ?_;exact wr
 refine Z8 ?_;refine R.fin [1,3,9,46] ?_
 refine W.cond (fun ht46=>?_) (fun ht46=>?_)
 ·refine Z5 ?_
  refine W.cond (fun ht46=>?_) (fun ht46=>?_)
  ·refine Z1 ?_;refine Xm ?_;exact wr
  refine Z1 ?_;refine R.fin [1,3,9,61] ?_
  refine W.cond (fun ht61=>?_) (fun ht61=>?_)
  ·refine Z1 ?_;refine Z7 ?_;refine AMj ?_;exact wr
  refine Z1 ?_;refine R.fin [1,3,75] ?_
  refine W.cond (fun ht75=>?_) (fun ht75=>?_)
  ·refine AM6 ?_;refine Z72 ?_;refine H.call Tryz.call126 (fun hB=>AJg e.text _) ?_;refine ag ?_;refine D.tail ?_;refine G.go ?_;refine Z49 ?_;exact Z65
  exact ALo
 refine Z12 ?_;refine R.fin [1,3,9,46] ?_;refine K.thN ?_
 refine W.cond (fun ht46=>?_) (fun ht46=>?_)
 ·refine Z1 ?_;refine Xm ?_;exact wr
 refine Z1 ?_;refine R.fin [1,3,9,61] ?_
 refine W.cond (fun ht61=>?_) (fun ht61=>?_)
 ·refine Z1 ?_;refine Z7 ?_;refine AMj ?_;exact wr
 refine Z1 ?_;refine R.fin [1,3,75] ?_
 refine W.cond (fun ht75=>?_) (fun ht75=>?_)
 ·refine AM6 ?_;refine Z72 ?_;refine H.call Tryz.call126 (fun hB=>AJg e.text _) ?_;refine ag ?_;refine D.tail ?_;refine G.go ?_;refine Z49 ?_;exact Z65
 exact ALo

mutual
def C8 (d:Int):Expr→List (Int×Expr)
 | .mk o t v k=>(d,.mk o t v k)::C5 (d+1) k
def C5 (d:Int):List Expr→List (Int×Expr)
  | []=>[]
  | e::r=>C8 d e++C5 d r
 end
theorem Kh (d:Int) (e:Expr):C8 d e=(d,e)::C5 (d+1) e.kids:=by cases e;rfl
theorem Na (d:Int):∀a b,C5 d (a++b)=C5 d a++C5 d b
 | [],b=>rfl
 | e::r,b=>by rw [Et,C5,C5,Na d r b,Bn]
theorem km (d:Int) (l:List Expr) {x:Nat} (h:x<l.length):C5 d (l.take (x+1))=C5 d (l.take x)++C8 d l[x]:=by
 rw [Hv h,Na]
 simp [C5]
theorem Sy (d:Int) (l:List Expr) {x:Nat} (h:x<l.length):C5 d l=C5 d (l.take x)++(C8 d l[x]++C5 d (l.drop (x+1))):=by
 have e:l=l.take x++(l[x]::l.drop (x+1)):=by rw [←L5 h,ey]
 conv=>lhs;rw [e]
 rw [Na,C5]
mutual
def sizeE:Expr→Nat
 | .mk _ _ _ k=>1+Cs k
def Cs:List Expr→Nat
  | []=>0
  | e::r=>sizeE e+Cs r
 end
theorem Jn (e:Expr):sizeE e=1+Cs e.kids:=by cases e;rfl
theorem Uf:∀(l:List Expr) {x:Nat} (h:x<l.length),sizeE l[x]≤Cs l
 | e::r,0,_=>by simp only [List.getElem_cons_zero,Cs];omega
 | e::r,x+1,h=>by
  have:=Uf r (x:=x) (by simpa using h)
  simp only [List.getElem_cons_succ,Cs]
  omega
theorem kn (e:Expr) {x:Nat} (h:x<e.kids.length):sizeE e.kids[x]+1≤sizeE e:=by
 have:=Uf e.kids h
 rw [Jn e]
 omega
/-- Each node has few kids. -/
def okE:Nat→Expr→Prop
 | 0,_=>False
 | n+1,e=>e.text.length≤1048576∧e.kids.length≤1048576∧∀y∈e.kids,okE n y
/-- Who takes what a tree yields: item k is taken at U k; it goes on (go k) to U (k + 1), or ends at F k. Behind U k there may stand others' objects. -/
structure Takes (P:Program) (l:Nat) (L:List (Int×Expr)) (go:Nat→Bool) (U F:Nat→List AObj) (n0:Nat):Prop where
 lenU:∀k,(U k).length=n0
 lenF:∀k,(F k).length=n0
 lowU:∀k,∀x∈U k,ObjLow n0 x
 lowF:∀k,∀x∈F k,ObjLow n0 x
 lt:l<n0
 y:∀(X:List AObj) (k:Nat) (it:Int×Expr),L[k]? = some it→(∀j,j<k→go j=true)→AYield P l [A5 it.1,A9 it.2] (U k++X) (fun b H'=>b=go k∧H'=(if go k then U (k+1) else F k)++X)
theorem ObjLow.le {m m':Nat} (h:m≤m') {x:AObj} (hx:ObjLow m x):ObjLow m' x:=by
 cases x with
 | cells t cs=>exact fun y hy=>(hx y hy).mono h
 | loop s pd fr sz ps as' bd df=>exact ⟨fun s=>(hx.1 s).mono h,H5 hx.2 h⟩
 | defs=>trivial
 | dead=>trivial
 | bld _ _ _=>trivial
 | gone=>trivial
/-- What the walk over n items from k0 on comes to. -/
def ko (go:Nat→Bool) (U F:Nat→List AObj) (k0 n:Nat) (X:List AObj):AV→List AObj→Prop:=fun r H' =>
 ((∀j,j<n→go (k0+j)=true)∧r=Bk true∧H'=U (k0+n)++X)∨(∃j,j<n∧(∀i,i<j→go (k0+i)=true)∧go (k0+j)=false∧r=Bk false∧H'=F (k0+j)++X)
mutual
theorem Av (m:Nat):∀e,Low m (A9 e)
 | .mk o t v k=>by
  rw [A9]
  refine .agg _ fun y hy=>?_
  simp only [B5,El,or_false] at hy
  rcases hy with rfl|rfl|rfl|rfl|rfl|rfl
  ·exact .v _
  ·exact .v _
  ·exact .v _
  ·exact .v _
  ·exact .v _
  exact low_slice.2 (Y4 m k)
theorem Y4 (m:Nat):∀l,∀y∈Ue l,Low m y
  | [],y,hy=>by cases hy
  | e::r,y,hy=>by
    rw [Ue] at hy
    rcases B5.1 hy with rfl|h
    · exact Av m e
    exact Y4 m r y h
 end
theorem Sz {V O A B own:List AObj} (h:V++O=A++(B++own)) (hl:V.length=(A++B).length):V=A++B∧O=own:=by
 rw [←Bn] at h
 exact Rd h hl
theorem Lp {m:Nat} {A X:List AObj} (hA:∀x∈A,ObjLow m x) (hX:∀x∈X,ObjLow m x):∀x∈A++X,ObjLow m x:=fun x hx=>by
 rcases E7.1 hx with h|h
 ·exact hA x h
 exact hX x h
theorem qb {P:Program} {l:Nat} {L:List (Int×Expr)} {go:Nat→Bool} {U F:Nat→List AObj} {n0 k n K:Nat} {X own V O:List AObj} {r:AV} (T:Takes P l L go U F n0) (hV:V.length=(U K++X).length) (hp:ko go U F k n (X++own) r (V++O)):
  ∃b,r=Bk b∧O=own∧(if b then (∀j,j<n→go (k+j)=true)∧V=U (k+n)++X else ∃j,j<n∧(∀i,i<j→go (k+i)=true)∧go (k+j)=false∧V=F (k+j)++X)∧((∀x∈U K++X,ObjLow V.length x)→∀x∈V,ObjLow V.length x):=by
 have hn:n0≤V.length:=by rw [hV,Ai,T.lenU];omega
 rcases hp with ⟨h1,h2,h3⟩|⟨j,hj,h1,h2,h3,h4⟩
 ·obtain ⟨e1,e2⟩:=Sz h3 (by rw [hV];simp [T.lenU])
  refine ⟨true,h2,e2,⟨h1,e1⟩,fun h=>?_⟩
  rw [e1] at h ⊢
  exact Lp (fun x hx=>ObjLow.le (by rw [Ai,T.lenU];omega) (T.lowU _ x hx)) (fun x hx=>h x (Sd _ hx))
 obtain ⟨e1,e2⟩:=Sz h4 (by rw [hV];simp [T.lenU,T.lenF])
 refine ⟨false,h3,e2,⟨j,hj,h1,h2,e1⟩,fun h=>?_⟩
 rw [e1] at h ⊢
 exact Lp (fun x hx=>ObjLow.le (by rw [Ai,T.lenF];omega) (T.lowF _ x hx)) (fun x hx=>h x (Sd _ hx))
theorem kp (d:Int) (l:List Expr) {x:Nat} (h:x<l.length):(C5 d (l.take (x+1))).length=(C5 d (l.take x)).length+(C8 d l[x]).length:=by rw [km d l h,Ai]
theorem ACc {d0:Int} {e:Expr} {x:Nat} (h:x<e.kids.length) {j:Nat} {it:Int×Expr} (hj:(C8 (d0+1) e.kids[x])[j]? = some it):(C8 d0 e)[1+(C5 (d0+1) (e.kids.take x)).length+j]? = some it:=by
 rw [Kh d0 e,show 1+(C5 (d0+1) (e.kids.take x)).length+j=((C5 (d0+1) (e.kids.take x)).length+j)+1 by omega,P2,Sy (d0+1) e.kids h,Dd (by omega)]
 rw [show (C5 (d0+1) (e.kids.take x)).length+j-(C5 (d0+1) (e.kids.take x)).length=j by omega,Di (Ad.1 hj).1]
 exact hj
theorem xu (d0:Int) (e:Expr) {x:Nat} (h:x<e.kids.length):1+(C5 (d0+1) (e.kids.take x)).length+(C8 (d0+1) e.kids[x]).length≤(C8 d0 e).length:=by
 rw [Kh d0 e,Aw,Sy (d0+1) e.kids h]
 simp only [Ai]
 omega
theorem APr {l:Nat} {L:List (Int×Expr)} {go:Nat→Bool} {U F:Nat→List AObj} {n0:Nat} (T:Takes Tryz.prog l L go U F n0):∀(n:Nat) (e:Expr),okE n e→∀(d0:Int) (k0:Nat) (X:List AObj),0≤d0→d0+n≤1099511627776→(∀(j:Nat) (it:Int×Expr),(C8 d0 e)[j]? = some it→L[k0+j]? = some it)→(∀j,j<k0→go j=true)→ACall Tryz.prog 124 [A9 e,A5 d0,.yield l] (U k0++X) (ko go U F k0 (C8 d0 e).length X):=by
 intro n
 induction n with
 | zero=>exact fun e h=>h.elim
 | succ n ih =>
 intro e hok d0 k0 X hd hdn hit hgo
 have hlen0:(U k0++X).length=n0+X.length:=by rw [Ai,T.lenU]
 refine Af [.tmp 6] [0,1,2] Tryz.func124 Tryz.ntmps124 (fun d=>?_)
 refine Z1 ?_;refine A2 [1,2,3] ?_;refine Z36 ?_
 refine R.yield0 (T.y X k0 (d0,e) (hit 0 _ (by rw [Kh];rfl)) hgo) ?_
 intro b Vv hV hb
 refine A4 ?_;refine A2 [1,2,3,13] ?_
 refine A3 (fun ht13=>?_) (fun ht13=>?_)
 ·have hb':b=false:=by simpa using ht13
  subst hb'
  refine aj ?_;refine C4 ?_;exact A8 (Ah A6) (Or.inr ⟨0,by rw [Kh];simp,fun i hi=>by omega,hb.1.symm,rfl,by have:=hb.2;rw [show go k0=false from hb.1.symm] at this;exact this⟩)
 have hb':b=true:=by simpa using ht13
 subst hb'
 have hgo0:go (k0+0)=true:=hb.1.symm
 have hVe:Vv=U (k0+1)++X:=by have:=hb.2;rw [show go k0=true from hb.1.symm] at this;exact this
 subst hVe
 have h0x:0≤e.kids.length∧∀j,j<1+(C5 (d0+1) (e.kids.take 0)).length→go (k0+j)=true:=⟨Ar _,fun j hj=>by
  have:j=0:=by simp [C5] at hj;omega
  subst this
  exact hgo0⟩
 refine Z5 ?_;refine Z60 ?_;refine A2 [1,2,15,16,17] ?_
 refine B7 (α:=Nat) (fun x=>⟨28,A7 1 (A5 d0) (A7 2 (.yield l) (A7 15 (.slice false 6 (e.kids.map A9)) (A7 16 (A5 e.kids.length) (A7 17 (A5 (x:Nat)) (fun _=>.any))))),U (k0+(1+(C5 (d0+1) (e.kids.take x)).length))++X,[],[],none⟩) (fun x=>x≤e.kids.length∧∀j,j<1+(C5 (d0+1) (e.kids.take x)).length→go (k0+j)=true) (fun x=>e.kids.length-x) (0) h0x (Bo (by simp [C5])) rfl (fun x hx=>?_)
 refine Z2 ?_;refine A2 [1,2,15,16,17,18] ?_
 refine Dm (fun ht18=>?_) (fun ht18=>?_)
 ·have hlt:x<e.kids.length:=by simpa using ht18
  have hkl:=hok.2.1
  refine Qr ?_
  refine A4 (h:=Ac (x) (A9 e.kids[x]) (fun _=>Ax hlt)) (hr:=?_)
  refine Rn ?_;refine A2 [1,2,8,15,16,17] ?_;refine Z27 ?_
  refine R.callG Tryz.call124 (args:=[A9 e.kids[x],A5 (d0+1),.yield l]) (by rw [Bn];exact ih e.kids[x] (hok.2.2 _ (B1 hlt)) (d0+1) (k0+(1+(C5 (d0+1) (e.kids.take x)).length)) (X++_) (by omega) (by omega) (fun j it hj=>by have:=hit _ it (ACc hlt hj);rwa [←Mv] at this) (fun j hj=>by rcases Bv j k0 with h|h;exact hgo j h;have:=hx.2 (j-k0) (by omega);rwa [show k0+(j-k0)=j by omega] at this)) ?_
  intro r Vv O hV hp
  obtain ⟨b,rfl,rfl,hc,hlowV⟩:=qb T hV hp
  refine ⟨hlowV,fun o ho=>by simp at ho,?_⟩
  refine A4 ?_;refine A2 [1,2,15,16,17,26] ?_
  refine A3 (fun ht26=>?_) (fun ht26=>?_)
  ·have hb':b=false:=by simpa using ht26
   subst hb'
   obtain ⟨j,hj,h1,h2,h3⟩:=hc
   refine aj ?_;refine Z45 ?_
   have hil:=xu d0 e hlt
   refine A8 (Ah A6) (Or.inr ⟨1+(C5 (d0+1) (e.kids.take x)).length+j,by omega,fun i hi=>?_,by rwa [Mv] at h2,rfl,by rwa [Mv] at h3⟩)
   rcases Bv i (1+(C5 (d0+1) (e.kids.take x)).length) with h|h
   ·exact hx.2 i h
   have:=h1 (i-(1+(C5 (d0+1) (e.kids.take x)).length)) (by omega)
   rwa [show k0+(1+(C5 (d0+1) (e.kids.take x)).length)+(i-(1+(C5 (d0+1) (e.kids.take x)).length))=k0+i by omega] at this
  have hb':b=true:=by simpa using ht26
  subst hb'
  obtain ⟨h1,h3⟩:=hc
  refine Z97 ?_;refine A2 [1,2,15,16,17] ?_
  subst h3
  have hll:=kp (d0+1) e.kids hlt
  have e1:k0+(1+(C5 (d0+1) (e.kids.take (x+1))).length)=k0+(1+(C5 (d0+1) (e.kids.take x)).length)+(C8 (d0+1) e.kids[x]).length:=by omega
  refine Bb (x+1) ⟨hlt,fun j hj=>?_⟩ (by omega) ?_
  ·rcases Bv j (1+(C5 (d0+1) (e.kids.take x)).length) with h|h
   ·exact hx.2 j h
   have:=h1 (j-(1+(C5 (d0+1) (e.kids.take x)).length)) (by omega)
   rwa [show k0+(1+(C5 (d0+1) (e.kids.take x)).length)+(j-(1+(C5 (d0+1) (e.kids.take x)).length))=k0+j by omega] at this
  simp only [e1]
  exact D4 (own:=[]) (fun _=>.refl _) (by repeat (first|exact Be|refine Bd (by first|(simp [Av];done)|(have:=T.lt;simp [T.lenU];omega)) ?_)) (by simp) (by simp)
 have hxe:e.kids.take x=e.kids:=E8 (by simp at ht18;omega)
 refine Z28 ?_;refine aj ?_
 have hl2:(C8 d0 e).length=1+(C5 (d0+1) (e.kids.take x)).length:=by rw [Kh,hxe,Aw];omega
 exact A8 (Ah A6) (Or.inl ⟨fun j hj=>hx.2 j (by omega),rfl,by rw [hl2]⟩)

def Oe:=@ObjLow.le
abbrev Eb (e:Expr):List AV:=[.v (.int .i64 e.op),.v (sv e.text),.v (.int .i64 e.val.kind),.v (.int .i64 e.val.n),.v (sv e.val.s),.slice false 6 (e.kids.map A9)]
/-- What taking all of a tree comes to. -/
def Nl (go:Nat→Bool) (U F:Nat→List AObj) (n:Nat) (H':List AObj):Prop:=
 ((∀j,j<n→go j=true)∧H'=U n)∨(∃j,j<n∧(∀i,i<j→go i=true)∧go j=false∧H'=F j)
theorem AJm {l:Nat} {e:Expr} {go:Nat→Bool} {U F:Nat→List AObj} {n0:Nat} (T:Takes Tryz.prog l (C8 1 e) go U F n0) (n:Nat) (hok:okE n e) (hn:n≤1048576):ACall Tryz.prog 123 [.yield l,.ro (Eb e)] (U 0) (fun r H'=>Nl go U F (C8 1 e).length H'):=by
 refine Af [] [0,1] Tryz.func123 Tryz.ntmps123 (fun d=>?_)
 refine Z12 ?_;refine R.callG Tryz.call124 (args:=[A9 e,A5 1,.yield l]) (APr T n e hok 1 0 [] (by omega) (by omega) (fun j it hj=>by rwa [C0]) (fun j hj=>by omega)) ?_
 intro r Vv O hV hp
 have hO:O=[]:=by
  have h1:(Vv++O).length=n0:=by rcases hp with ⟨_,_,h⟩|⟨j,_,_,_,_,h⟩<;>rw [h]<;>simp [T.lenU,T.lenF]
  have h2:=T.lenU 0
  rw [Ai,hV,h2] at h1
  exact Tu (by omega)
 subst hO
 rw [H4] at hp
 have hq:Nl go U F (C8 1 e).length Vv:=by
  rcases hp with ⟨h1,_,h⟩|⟨j,h1,h2,h3,_,h⟩
  ·exact .inl ⟨fun j hj=>by have:=h1 j hj;rwa [C0] at this,by rw [h];simp⟩
  exact .inr ⟨j,h1,fun i hi=>by have:=h2 i hi;rwa [C0] at this,by rwa [C0] at h3,by rw [h];simp⟩
 refine ⟨fun h=>?_,fun o ho=>by simp at ho,?_⟩
 ·rcases hq with ⟨_,h⟩|⟨j,_,_,_,h⟩<;>rw [h]
  ·rw [T.lenU];exact T.lowU _
  rw [T.lenF];exact T.lowF _
 refine A2 [] ?_;exact Fv .nores (hp:=hq)

theorem c77 (e:Expr) (Hp:List AObj):AFun Tryz.prog 77 [A9 e] Hp (.fn (.func 123) [] [.ro (Eb e)]):=by
 refine Af [.tmp 2] [0] Tryz.func77 Tryz.ntmps77 (fun d=>?_)
 refine Z90 ?_;refine ABi ?_;refine Z3 ?_;exact A8 (Ah A6) (hlow:=by have:=Av Hp.length e;rw [At] at this;simpa using this)

def goM (e:Expr) (k:Nat):Bool:=match (C8 1 e)[k]? with
 | some it => !((!Dl it.2 || decide ((30:Int)<it.1)) || decide ((300:Int)<(k:Int)+1))
 | none=>true
def B3 (e:Expr):Bool:=(List.range (C8 1 e).length).all (goM e)
mutual
theorem c6:∀(n:Nat) (e:Expr),okE n e→∀d,∀it∈C8 d e,it.2.text.length≤1048576
 | 0,_,h,_,_,_=>h.elim
 | n+1,e,h,d,it,hit=>by
  rw [Kh] at hit
  rcases B5.1 hit with rfl|h'
  ·exact h.1
  exact c8 n e.kids h.2.2 (d+1) it h'
 termination_by n e=>(n,0)
theorem c8:∀(n:Nat) (l:List Expr),(∀y∈l,okE n y)→∀d,∀it∈C5 d l,it.2.text.length≤1048576
  | n,[],_,_,_,h=>by cases h
  | n,e::r,h,d,it,hit=>by
    rw [C5] at hit
    rcases E7.1 hit with h'|h'
    · exact c6 n e (h e (by simp)) d it h'
    exact c8 n r (fun y hy=>h y (by simp [hy])) d it h'
  termination_by n l=>(n,l.length+1)
 end
theorem qc {U:List AObj} {i j:Nat} {x y:AObj} (h:U[i]? = some x) (hne:j≠i):(U.set j y)[i]? = some x:=by rw [Dr hne];exact h
theorem AJn {e:Expr} {k:Nat} {it:Int×Expr} (hit:(C8 1 e)[k]? = some it) (h:∀j,j<k→goM e j=true):(k:Int)≤300:=by
 rcases Nat.eq_zero_or_pos k with h0|h0
 ·omega
 have hl:=(Ad.1 hit).1
 have:=h (k-1) (by omega)
 unfold goM at this
 rw [Ab (by omega)] at this
 simp at this
 omega
theorem gy {e:Expr} {k:Nat} {it:Int×Expr} (hit:(C8 1 e)[k]? = some it):goM e k = !((!Dl it.2 || decide ((30:Int)<it.1)) || decide ((300:Int)<(k:Int)+1)):=by
 unfold goM;rw [hit]
theorem c38 (n:Nat) (e:Expr) (hok:okE n e) (hn:n≤1048576) (Hp:List AObj):AFun Tryz.prog 38 [A9 e] Hp (Bk (B3 e)):=by
 refine Af [.cell 2 4] [0,4,5] Tryz.func38 Tryz.ntmps38 (fun d=>?_)
 refine Z2 ?_;refine Pm ?_;refine A2 [1,2,4,5] ?_;refine Fp ?_;refine Z19 ?_;refine A2 [1,2,3,4,5] ?_;refine Z67 ?_
 refine N8 (fun hlow=>?_)
 refine AJ6 ?_;refine A2 [2,3,4,5,7] ?_;refine Jk ?_
 refine Ob (m:=2) Tryz.call123 (fun FR as' bd' hFR has hbd=>?_)
 have hFRl:∀s,Low (Hp.length+4) (FR s):=by
  intro s
  rw [hFR]
  refine P4 ?_
  revert s
  repeat (first|exact Be|refine Bd (by simp [oid,Av]<;>try omega) ?_)
 have hOl:∀{k:Nat},∀x∈[AObj.cells 4 [Bk false],AObj.cells 3 [A5 (k:Nat)],AObj.defs,AObj.loop LoopState.ready none FR 23 #[8,9] as' bd' (oid Hp.length 2)],ObjLow (Hp.length+4) x:=by
  intro k x hx
  simp only [B5,El,or_false] at hx
  rcases hx with rfl|rfl|rfl|rfl
  ·exact AEz
  ·exact AEz
  ·trivial
  exact ABk
 have hOf:∀{k:Nat},∀x∈[AObj.cells 4 [Bk false],AObj.cells 3 [A5 ((k:Nat)+1)],AObj.defs,AObj.loop LoopState.done (some Code.ret) FR 23 #[8,9] as' bd' (oid Hp.length 2)],ObjLow (Hp.length+4) x:=by
  intro k x hx
  simp only [B5,El,or_false] at hx
  rcases hx with rfl|rfl|rfl|rfl
  ·exact AEz
  ·exact AEz
  ·trivial
  exact ABk
 refine ⟨fun _ H'=>Nl (goM e) (fun k=>Hp++[AObj.cells 4 [Bk false],AObj.cells 3 [A5 (k:Nat)],AObj.defs,AObj.loop LoopState.ready none FR 23 #[8,9] as' bd' (oid Hp.length 2)]) (fun k=>Hp++[AObj.cells 4 [Bk false],AObj.cells 3 [A5 ((k:Nat)+1)],AObj.defs,AObj.loop LoopState.done (some Code.ret) FR 23 #[8,9] as' bd' (oid Hp.length 2)]) (C8 1 e).length H',AJm (l:=oid Hp.length 3) (go:=goM e) (U:=fun k=>Hp++[AObj.cells 4 [Bk false],AObj.cells 3 [A5 (k:Nat)],AObj.defs,AObj.loop LoopState.ready none FR 23 #[8,9] as' bd' (oid Hp.length 2)]) (F:=fun k=>Hp++[AObj.cells 4 [Bk false],AObj.cells 3 [A5 ((k:Nat)+1)],AObj.defs,AObj.loop LoopState.done (some Code.ret) FR 23 #[8,9] as' bd' (oid Hp.length 2)]) (n0:=Hp.length+4) ⟨fun k=>by simp,fun k=>by simp,fun k x hx=>?_,fun k x hx=>?_,by simp [oid],fun X k it hit hgo=>?_⟩ n hok hn,?_⟩
 ·exact ABl
 ·exact Lp (fun x hx=>Oe (by omega) (hlow x hx)) hOf x hx
 ·have hk3:=AJn hit hgo
  generalize hV:(Hp++[AObj.cells 4 [Bk false],AObj.cells 3 [A5 (k:Nat)],AObj.defs,AObj.loop LoopState.ready none FR 23 #[8,9] as' bd' (oid Hp.length 2)]++X)=V
  have hL:V[oid Hp.length 3]? = some (AObj.loop LoopState.ready none FR 23 #[8,9] as' bd' (oid Hp.length 2)):=by rw [←hV,Bn,Bm];rfl
  have hA0:V[oid Hp.length 1]? = some (AObj.cells 3 [A5 (k:Nat)]):=by rw [←hV,Bn,Bm];rfl
  have hB0:V[oid Hp.length 0]? = some (AObj.cells 4 [Bk false]):=by rw [←hV,Bn,Bm];rfl
  refine O5 (pd:=none) (fr:=FR) (sz:=23) (ps:=#[8,9]) (df:=oid Hp.length 2) (asg:=as') (bd:=bd') hL rfl (by decide) (fun d=>?_)
  subst hFR has hbd
  refine Hq [2,3,8,9] ?_;refine Z2 ?_;refine A2 [2,3,4,9] ?_;refine ABg ?_;refine A2 [2,3,4,5] ?_
  refine ⟨rfl,none,hL,?_⟩
  generalize hbz:(AObj.loop LoopState.busy _ _ _ _ _ _ _)=bz
  have hA:(V.set (oid Hp.length 3) bz)[oid Hp.length 1]? = some (AObj.cells 3 [A5 (k:Nat)]):=by rw [Dr (Cn (by decide))];exact hA0
  have hB:(V.set (oid Hp.length 3) bz)[oid Hp.length 0]? = some (AObj.cells 4 [Bk false]):=by rw [Dr (Cn (by decide))];exact hB0
  refine Jk ?_;refine Fp ?_
  refine A4 (h:=Ca hA) (hr:=?_)
  refine A4 ?_
  refine Fu jS hA ?_ ?_
  ·simp
  refine A2 [2,3,4,5] ?_;refine Z2 ?_;refine Aa Tryz.call78 (c78 it.2 (c6 n e hok 1 it (B0 hit)) _) ?_;refine Z47 ?_;refine Z0 ?_
  refine Bi (h:=Ca (getset hA)) (hr:=?_)
  refine Qu ?_;refine A2 [2,22] ?_
  refine A3 (fun ht22=>?_) (fun ht22=>?_)
  ·have hgf:goM e k=false:=by rw [gy hit,ht22];rfl
   refine Fp ?_
   refine Fu jS (qc (j:=oid Hp.length 1) hB (Cn (by decide))) ?_ ?_
   ·simp
   refine A2 [] ?_;refine Gn ?_;refine K.blR ?_
   subst hbz
   refine AJ7 ?_
   refine ⟨hgf.symm,?_⟩
   rw [if_neg (by rw [hgf];simp)]
   subst hV
   simp only [Bn,Gf,Et,Ec,List.set_cons_succ,List.set_cons_zero]
   try rfl
  have hgt:goM e k=true:=by rw [gy hit,ht22];rfl
  refine ww ?_
  subst hbz
  refine AFq ?_
  refine ⟨hgt.symm,?_⟩
  rw [if_pos hgt]
  subst hV
  simp only [Bn,Gf,Et,Ec,List.set_cons_succ,List.set_cons_zero]
  try rfl
 rintro r H' (⟨h1,rfl⟩|⟨j,hj,h1,h2,rfl⟩)
 ·refine ⟨Hp,_,_,_,rfl,rfl,fun h=>h,?_,rfl,by simp,?_⟩
  ·intro o ho
   have:o=oid Hp.length 2:=by simpa using ho
   subst this
   rw [Bm]
   rfl
  refine Z10 ?_;refine Fp ?_;refine Z15 ?_;exact A8 (Ah (Gv jA)) ⟨by rw [show B3 e=true from B2.2 fun j hj=>h1 j (Qa.1 hj)],rfl⟩
 refine ⟨Hp,_,_,_,rfl,rfl,fun h=>h,?_,rfl,by simp,?_⟩
 ·intro o ho
  have:o=oid Hp.length 2:=by simpa using ho
  subst this
  rw [Bm]
  rfl
 refine Gn ?_;refine Z6 ?_;exact A8 (Ah (Gv jA)) ⟨by rw [show B3 e=false from Rc.2 ⟨j,Qa.2 hj,by rw [h2];simp⟩],rfl⟩

def Cw (s:Str):Expr:=.mk 2 s ⟨0,0,[]⟩ []
theorem kq (s:Str):Le (.agg [A5 2,Ae s,A5 0,A5 0,Ae [],.nil]) (A9 (Cw s)):=by
 rw [At]
 refine .agg _ _ rfl (by simp [AV.one,Value.oneCell',sv]) fun i y y' h1 h2=>?_
 match i with
 | 0=>simp at h1 h2;subst h1;subst h2;exact .inl rfl
 | 1=>simp at h1 h2;subst h1;subst h2;exact .inl rfl
 | 2=>simp at h1 h2;subst h1;subst h2;exact .inl rfl
 | 3=>simp at h1 h2;subst h1;subst h2;exact .inl rfl
 | 4=>simp at h1 h2;subst h1;subst h2;exact .inl rfl
 | 5=>simp at h1 h2;subst h1;subst h2;exact .inr ⟨rfl,6,rfl⟩
 | i+6=>simp at h1
theorem kr (s:Str) (h:s.length≤1048576):okE 1 (Cw s):=⟨h,by simp [Cw,Expr.kids],fun y hy=>by cases hy⟩
def Uh (c:List Col) (x:Nat) (y:Col):Bool := !(((!B3 (Cw y.name)) || (Cl y.kind==[])) || (B6 y.name c != (x:Int)))
def Nm (c:List Col):Bool:=c.zipIdx.all fun x=>Uh c x.2 x.1
theorem colsP_true {c:List Col}:Nm c=true↔∀(j:Nat) (y:Col),c[j]? = some y→Uh c j y=true:=Rp
theorem c36 (c:List Col) (hc:OkCols c) (Hp:List AObj):AFun Tryz.prog 36 [Am c] Hp (Bk (Nm c)):=by
 refine Af [.tmp 2] [0] Tryz.func36 Tryz.ntmps36 (fun d=>?_)
 refine k9 ?_;refine A2 [0,5,6,7] ?_
 refine B7 (α:=Nat) (fun x=>⟨32,A7 0 (Am c) (A7 5 (Am c) (A7 6 (A5 c.length) (A7 7 (A5 (x:Nat)) (fun _=>.any)))),Hp,[],[],none⟩) (fun x=>x≤c.length∧∀(j:Nat) (y:Col),j<x→c[j]? = some y→Uh c j y=true) (fun x=>c.length-x) (0) (by simp) (Bo (by simp)) rfl (fun x hx=>?_)
 refine Z2 ?_;refine A2 [0,5,6,7,8] ?_
 refine Dm (fun ht8=>?_) (fun ht8=>?_)
 ·have hlt:x<c.length:=by simpa using ht8
  have hcl:=hc.len
  refine Pl ?_
  refine A4 (h:=Ac (x) (Bq c[x]) (fun _=>Ax hlt)) (hr:=?_)
  refine gi ?_;refine A2 [0,3,4,5,6,7] ?_;refine AMh ?_;refine R.wk 14 _ (kq c[x].name) ?_;refine Aa Tryz.call38 (c38 1 (Cw c[x].name) (kr _ (hc.names _ (B1 hlt))) (by decide) _) ?_;refine Z47 ?_;refine Bt Tryz.call76 (fun hB=>c76 c[x].kind _) ?_;refine Bi ?_;refine Z0 ?_;refine Z39 ?_;refine Bt Tryz.call58 (fun hB=>c58 c hc c[x].name _) ?_;refine Qw ?_;refine A2 [0,5,6,7,30] ?_
  refine A3 (fun ht30=>?_) (fun ht30=>?_)
  ·refine gg ?_
   exact A8 (Ah A6) ⟨by rw [show Nm c=false from Ik.2 fun h=>by have:=colsP_true.1 h x c[x] (Ab hlt);unfold Uh at this;rw [ht30] at this;cases this],rfl⟩
  refine Z97 ?_;refine A2 [0,5,6,7] ?_
  refine Bb (x+1) ⟨hlt,Ke hlt hx.2 (by unfold Uh;rw [ht30];rfl)⟩ (by omega) ?_
  exact D4 (own:=[]) (fun _=>.refl _) (by repeat (first|exact Be|refine Bd (by simp) ?_)) (by simp) (by simp)
 refine Z28 ?_;refine Z25 ?_;exact A8 (Ah A6) ⟨by rw [colsP_true.2 (Lx (by simp at ht8;omega) hx.2)],rfl⟩

def Y5 (c:List Col):Bool:=decide ((c.length:Int)≤12)&&Nm c
theorem c57 (c:List Col) (hc:OkCols c) (Hp:List AObj):AFun Tryz.prog 57 [Am c] Hp (Bk (Y5 c)):=by
 refine Af [.tmp 2] [0] Tryz.func57 Tryz.ntmps57 (fun d=>?_)
 refine Z43 ?_;refine oi ?_;refine Bt Tryz.call36 (fun hB=>c36 c hc _) ?_;refine Z49 ?_;exact A8 (Ah A6) ⟨by unfold Y5;simp,rfl⟩

theorem gz (s:Str) (h:s≠[]):Lib.contains [] s=false:=by
 cases s with
 | nil=>exact absurd rfl h
 | cons a r=>rfl
theorem contains_cons (b:UInt8) (l s:Str):Lib.contains (b::l) s=(s.isPrefixOf (b::l) || Lib.contains l s):=by
 unfold Lib.contains
 have hge:=Lib.index_ge l s
 rw [Lib.index]
 by_cases hp:s.isPrefixOf (b::l)=true
 ·rw [if_pos hp,hp];rfl
 rw [if_neg hp]
 have hp':s.isPrefixOf (b::l)=false:=Ik.2 hp
 rw [hp',B4]
 by_cases hi:Lib.index l s = -1
 ·rw [hi];rfl
 have:(Lib.index l s == -1)=false:=by simpa using hi
 rw [this,if_neg (by simp)]
 rw [decide_eq_decide]
 omega
/-- Words between blanks. -/
def Pr:List Str→Str
 | []=>[32]
 | w::r=>32::(w++Pr r)
theorem ca (sub:Str):∀(w R:Str),(32:UInt8)∉w→Lib.contains (w++R) (32::sub)=Lib.contains R (32::sub)
 | [],R,_=>rfl
 | b::w,R,h=>by
  have hb:b≠32:=fun e=>h (by simp [e])
  rw [Et,contains_cons,ca sub w R (fun hm=>h (by simp [hm]))]
  have:(32::sub).isPrefixOf (b::(w++R))=false:=by
   simp [List.isPrefixOf,Ne.symm hb]
  rw [this,B4]
theorem Vg:∀(s w:Str) (R:Str),(32:UInt8)∉s→(32:UInt8)∉w→(s++[32]).isPrefixOf (w++32::R)=(s==w)
 | [],[],R,_,_=>by simp [List.isPrefixOf]
 | [],b::w,R,_,hw=>by
  have hb:(32:UInt8)≠b:=fun e=>hw (by simp [e])
  simp [List.isPrefixOf,hb]
 | a::s,[],R,hs,_=>by
  have hb:a≠(32:UInt8):=fun e=>hs (by simp [e])
  simp [List.isPrefixOf,hb]
 | a::s,b::w,R,hs,hw=>by
  have ih:=Vg s w R (fun h=>hs (by simp [h])) (fun h=>hw (by simp [h]))
  rw [Et,Et,List.isPrefixOf,ih]
  rfl
theorem kt:∀ws,∃R,Pr ws=32::R
 | []=>⟨[],rfl⟩
 | w::r=>⟨_,rfl⟩
theorem Mf (s:Str) (hs:(32:UInt8)∉s):∀(ws:List Str),(∀w∈ws,(32:UInt8)∉w)→Lib.contains (Pr ws) ([32]++s++[32])=ws.any (·==s)
 | [],_=>by
  rw [Pr,contains_cons,gz _ (by simp),K6]
  cases s<;>simp [List.isPrefixOf]
 | w::r,h=>by
  have hw:=h w (by simp)
  obtain ⟨R,hR⟩:=kt r
  have ih:=Mf s hs r (fun x hx=>h x (by simp [hx]))
  have e1:([32]++s++[32]:Str)=32::(s++[32]):=rfl
  rw [Pr,contains_cons,e1,ca _ w _ hw,←e1,ih,List.any_cons]
  congr 1
  rw [e1,hR]
  have:=Vg s w R hs hw
  rw [List.isPrefixOf,this]
  simp only [beq_self_eq_true,Bs]
  by_cases hsw:s=w
  ·subst hsw;rfl
  rw [beq_eq_false_iff_ne.2 hsw,beq_eq_false_iff_ne.2 (Ne.symm hsw)]
theorem aw:Oc=Pr words:=by kernel_rfl
theorem ku:∀w∈words,(32:UInt8)∉w:=by decide
theorem kv (s:Str):Lib.contains s [32]=s.contains 32:=by
 induction s with
 | nil=>rfl
 | cons b l ih =>
  rw [contains_cons,ih,List.contains_cons]
  congr 1
  simp [List.isPrefixOf]
theorem Y6 (s:Str) (h1:s≠[]) (h2:(32:UInt8)∉s):Ib s=Kd s:=by
 unfold Ib
 rw [kv,aw,Mf s h2 words ku]
 have e1:(s==[])=false:=by simpa using h1
 have e2:s.contains 32=false:=by simpa using h2
 rw [e1,e2]
 rfl
set_option maxRecDepth 8000
theorem ACd {p:UInt8→Bool} (h:((List.range 256).all fun n=>p (UInt8.ofNat n))=true) (c:UInt8):p c=true:=by
 have:=B2.1 h c.toNat (Qa.2 c.toNat_lt)
 simpa using this
theorem qd (c:UInt8):tails.contains c=Nh c:=by
 have:=ACd (p:=fun c=>tails.contains c==Nh c) (by kernel_rfl) c
 simpa using this
theorem i6 (c:UInt8):letters.contains c=Ia c:=by
 have:=ACd (p:=fun c=>letters.contains c==Ia c) (by kernel_rfl) c
 simpa using this
theorem qe:Nh 32=false:=by kernel_rfl
theorem tm (s of:Str):(Sw s of==(s.length:Int))=s.all (of.contains ·):=by
 unfold Sw Lib.trimLeftS
 induction s with
 | nil=>rfl
 | cons c r ih =>
  rw [Ts,List.all_cons]
  cases hc:of.contains c with
  | true =>
   simp only [if_true,Bs]
   rw [←ih,eg]
   have:=(nd (fun x=>of.contains x) (l:=r)).length_le
   simp only [beq_iff_eq,Aw]
   omega
  | false =>
   simp only [Aq,if_false,Ei]
   rw [beq_eq_false_iff_ne]
   simp only [Aw]
   omega
theorem Fw (s:Str):Dk s=Md s:=by
 cases s with
 | nil=>rfl
 | cons c r =>
  unfold Dk
  rw [tm]
  have e1:((c::r).all fun x=>tails.contains x)=(c::r).all Nh:=by
   congr 1
   funext x
   exact qd x
  have e2:(Sw ((c::r).take 1) letters==1)=Ia c:=by
   have:=tm [c] letters
   rw [←i6 c]
   simpa using this
  rw [e1,e2]
  have e3:((c::r:Str)==[])=false:=rfl
  have e4:decide (((c::r).length:Int)≤16)=decide ((c::r).length≤16):=by
   rw [decide_eq_decide];omega
  rw [e3,e4]
  show _=(decide ((c::r).length≤16)&&Ia c && !Kd (c::r)&&(c::r).all Nh)
  cases ha:(c::r).all Nh with
  | false=>simp
  | true =>
   have hb:(32:UInt8)∉(c::r):=fun hm=>by
    have:=B2.1 ha 32 hm
    rw [qe] at this
    cases this
   rw [Y6 _ (by simp) hb]
   simp
theorem Rw (s:Str):B3 (Cw s)=Md s:=by
 have e:C8 1 (Cw s)=[(1,Cw s)]:=by rw [Kh];rfl
 unfold B3
 rw [e]
 show ((List.range 1).all (goM (Cw s)))=_
 have g:goM (Cw s) 0=Dl (Cw s):=by
  unfold goM
  rw [e]
  simp
 simp only [ew,List.range_zero,Ec,List.all_cons,List.all_nil,To]
 rw [g,←Fw]
 simp [Dl,Cw,Expr.op,Expr.val,Expr.text,Expr.kids,Nk]
theorem i7 (k:Int):(Cl k==[])=(decide (k<1) || decide ((3:Int)<k)):=by
 unfold Cl
 by_cases h:k<1∨3<k
 ·rw [if_pos h]
  have:(decide (k<1) || decide ((3:Int)<k))=true:=by simpa using h
  rw [this];rfl
 rw [if_neg h]
 have:(decide (k<1) || decide ((3:Int)<k))=false:=by simp;omega
 rw [this]
 have hk:k=1∨k=2∨k=3:=by omega
 rcases hk with rfl|rfl|rfl<;>rfl
theorem Lq (c:List Col):Nm c=Hw c:=by
 unfold Nm Hw
 congr 1
 funext x
 unfold Uh Sv
 rw [Rw,i7,←Bool.or_assoc (!Md x.1.name)]
theorem Nn (c:List Col):Y5 c=Ct c:=by unfold Y5 Ct;rw [Lq]
set_option maxRecDepth 4000
def Ao (l:List Tok) (i:Nat):Tok:=l.getD i ⟨0,[],0⟩
theorem Y7 {l:List Tok} {i:Nat} (h:i<l.length):(l.map Me)[i]? = some (Me (Ao l i)):=by
 rw [Cf,Ab h]
 unfold Ao
 rw [C9,Ab h]
 rfl
end Go.SX.Nb
