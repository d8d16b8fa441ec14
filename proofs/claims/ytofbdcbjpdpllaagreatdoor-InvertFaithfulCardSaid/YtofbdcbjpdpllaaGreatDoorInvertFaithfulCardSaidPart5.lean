/- On the way (part 5). -/
import Derived.Test.YtofbdcbjpdpllaaGreatDoorInvertFaithfulCardSaidPart4
set_option linter.all false
namespace Go.SX.Nb
open Go Go.SX Go.Proofs
variable [ErrAt]
set_option maxRecDepth 4000
def wAt (s:Str) (k:Nat):Int×Str×Int×Int:=Cl (s.drop k)
theorem Nq {f k:Nat} {s:Str} (h:s≠[]):Ik (f+1) k s=(⟨(Cl s).1,(Cl s).2.1,k⟩,(Cl s).2.2.2)::(if (Cl s).2.2.2==0 then Ik f (k+(Cl s).2.2.1.toNat+gapM (s.drop (Cl s).2.2.1.toNat)) ((s.drop (Cl s).2.2.1.toNat).drop (gapM (s.drop (Cl s).2.2.1.toNat))) else []):=by
 rw [Ik,if_neg (by simpa using h)]
/-- Where the reader is, with k words behind it. -/
def Tj (s:Str) (k p:Nat):Prop:=(∃f,(s.drop p).length<f∧(Ce s).drop k=Ik f p (s.drop p))∧p≤s.length∧∀j,j<k→∃it,(Ce s)[j]? = some it∧it.2=0
theorem kg (s:Str):Tj s 0 (gapM s):=⟨⟨s.length+1,by rw [Gm];omega,by rw [Zw];rfl⟩,kb s,fun j hj=>by omega⟩
theorem qv {s:Str} {k p:Nat} (h:Tj s k p):k≤(Ce s).length:=by
 refine Hb fun hn=>?_
 obtain ⟨it,hit,_⟩:=h.2.2 (Ce s).length (by omega)
 rw [Gb (Al _)] at hit
 cases hit
theorem qw {s:Str} {k p:Nat} (h:Tj s k p) (hp:s.length≤p):k=(Ce s).length∧∀it∈Ce s,it.2=0:=by
 have hl:=qv h
 obtain ⟨⟨f,_,hd⟩,_,h0⟩:=h
 have e:s.drop p=[]:=by rw [il];exact hp
 rw [e] at hd
 have:(Ce s).drop k=[]:=by rw [hd];cases f<;>rfl
 rw [il] at this
 have hk:k=(Ce s).length:=by omega
 refine ⟨hk,fun it hit=>?_⟩
 obtain ⟨j,hj,rfl⟩:=List.mem_iff_getElem.1 hit
 obtain ⟨it',h1,h2⟩:=h0 j (by omega)
 rw [Ae hj] at h1
 injection h1 with h1
 rw [h1];exact h2
theorem W4 {s:Str} {k p:Nat} (h:Tj s k p) (hp:p<s.length):∃f,(s.drop p).length<f+1∧(Ce s).drop k=Ik (f+1) p (s.drop p)∧s.drop p≠[]:=by
 obtain ⟨⟨f,hf,hd⟩,_,_⟩:=h
 obtain ⟨g,rfl⟩:∃g,f=g+1:=⟨f-1,by omega⟩
 exact ⟨g,hf,hd,fun e=>by rw [il] at e;omega⟩
theorem Pq {s:Str} {k p:Nat} (h:Tj s k p) (hp:p<s.length):(Ce s)[k]? = some (⟨(wAt s p).1,(wAt s p).2.1,p⟩,(wAt s p).2.2.2):=by
 obtain ⟨f,_,hd,hne⟩:=W4 h hp
 rw [Nq hne] at hd
 have:=congrArg (·[0]?) hd
 unfold wAt
 simpa using this
theorem ki {s:Str} {k p:Nat} (h:Tj s k p) (hp:p<s.length) (he:(wAt s p).2.2.2=0):∃n:Nat,(wAt s p).2.2.1=(n:Int)∧1≤n∧p+n≤s.length∧Tj s (k+1) (p+n+gapM (s.drop (p+n))):=by
 have hi:=Pq h hp
 obtain ⟨f,hf,hd,hne⟩:=W4 h hp
 obtain ⟨n,hn,h1,h2⟩:=mm (s:=s.drop p) (by rw [Gm];omega) he
 rw [Gm] at h2 hf
 have hg:=kb (s.drop (p+n))
 rw [Gm] at hg
 refine ⟨n,hn,h1,by omega,⟨f,by rw [Gm];omega,?_⟩,by omega,fun j hj=>?_⟩
 ·rw [Nq hne] at hd
  have:=congrArg (·.drop 1) hd
  simp only [Zv,io,Zw] at this
  unfold wAt at he
  rw [this,hn,he]
  simp only [beq_self_eq_true,if_true,Int.toNat_natCast,Zv]
 rcases Bo j k with h'|h'
 ·exact h.2.2 j h'
 have:j=k:=by omega
 subst this
 exact ⟨_,hi,he⟩
theorem AKm (l:Nat) (s:Str) (hs:s.length≤1048576) (U F:Nat→List AObj) (hlen:∀k,(U k).length=(U 0).length) (hll:l<(U 0).length)
  (hy:∀k it,(Ce s)[k]? = some it→AYield Tryz.prog l [Ko it.1,A4 it.2] (U k) (fun b H'=>if it.2=0 then b=true∧H'=U (k+1) else b=false∧H'=F k)):ACall Tryz.prog 153 [.yield l,.ro [Ah s]] (U 0) (fun r H'=>((∀it∈Ce s,it.2=0)∧H'=U (Ce s).length)∨∃k it,(Ce s)[k]? = some it∧it.2≠0∧(∀j,j<k→∃it',(Ce s)[j]? = some it'∧it'.2=0)∧H'=F k):=by
 refine Ak [] [0,1] Tryz.func153 Tryz.ntmps153 (fun d=>?_)
 refine Z2 ?_;refine A8 Tryz.call154 (AIr s hs _) ?_;refine A5 ?_;refine A2 [0,1,3] ?_
 refine Dp (α:=Nat×Nat) (fun x=>⟨44,Af 0 (.yield l) (Af 1 (.ro [Ah s]) (Af 3 (A4 (x.2:Nat)) (fun _=>.any))),U x.1,[],[],none⟩) (fun x=>Tj s x.1 x.2) (fun x=>s.length-x.2) (0,gapM s) (kg s) (Rr _) rfl (fun x hx=>?_)
 obtain ⟨k,p⟩:=x
 simp only at hx ⊢
 refine Z59 ?_;refine A2 [0,1,3,13] ?_
 refine A3 (fun ht13=>?_) (fun ht13=>?_)
 ·have hpl:p<s.length:=by simpa using ht13
  refine Z6 ?_;refine vo ?_
  refine A5 (h:=Q.scutL p (fun _=>hx.2.1) (fun _=>Al _)) (hr:=?_)
  refine A8 Tryz.call155 (AKk (s.drop p) (by rw [Gm];omega) (by rw [Gm];omega) _) ?_
  refine Z69 ?_;refine Z82 ?_;refine A2 [0,1,3,4,5,6,7] ?_;refine Z59 ?_;refine qd ?_;refine A5 ?_;refine R.yield0 (hy k _ (Pq hx hpl)) ?_
  intro b V hV hb
  refine S3 ?_;refine A5 ?_;refine A2 [0,1,3,6,40] ?_
  refine A3 (fun ht40=>?_) (fun ht40=>?_)
  ·have hbe:(Cl (s.drop p)).2.2.2≠0∧V=F k:=by
    split at hb
    ·rename_i h0
     obtain ⟨rfl,_⟩:=hb
     have h0':(Cl (s.drop p)).2.2.2=0:=h0
     simp [h0'] at ht40
    rename_i h0
    exact ⟨h0,hb.2⟩
   refine Z41 ?_;refine Z5 ?_;refine Jj ?_;exact A7 .nores (hp:=.inr ⟨k,_,Pq hx hpl,hbe.1,hx.2.2,hbe.2⟩)
  have hbe:(Cl (s.drop p)).2.2.2=0∧V=U (k+1):=by
   split at hb
   ·rename_i h0
    exact ⟨h0,hb.2⟩
   obtain ⟨rfl,_⟩:=hb
   simp at ht40
  obtain ⟨n,hn,hn1,hnl,hnx⟩:=ki hx hpl hbe.1
  unfold wAt at hn
  rw [hn]
  have hgl:=kb (s.drop (p+n))
  rw [Gm] at hgl
  refine Z6 ?_;refine Z19 ?_;refine Z0 ?_;refine A2 [0,1,3] ?_;refine Z15 ?_;refine Z85 ?_
  refine A5 (h:=Q.scutL (p+n) (fun _=>hnl) (fun _=>Al _)) (hr:=?_)
  refine A8 Tryz.call154 (AIr (s.drop (p+n)) (by rw [Gm];omega) _) ?_
  refine Z0 ?_;refine A2 [0,1,3] ?_;exact Cd (k+1,p+n+gapM (s.drop (p+n))) hnx (by show s.length-_<s.length-p;omega) (H4 (by rw [hbe.2];simp))
 have hpl:s.length≤p:=by simpa using ht13
 obtain ⟨hk,hz⟩:=qw hx hpl
 refine jb ?_;refine K.lpE ?_;exact Ke .nores (hp:=.inl ⟨hz,by rw [hk]⟩)

theorem AKn (s:Str) (Hp:List AObj):AFun Tryz.prog 113 [Ah s] Hp (.fn (.func 153) [] [.ro [Ah s]]):=by
 refine Ak [.tmp 2] [0] Tryz.func113 Tryz.ntmps113 (fun d=>?_)
 refine Z84 ?_;refine wd ?_;exact Z80

def Eg (s:Str):List Tok×Int×Nat:=if 4000<s.length then ([],3,0) else
 match (Ce s).find? (fun it=>it.2 != 0) with
 | some it=>([],it.2,it.1.at_)
 | none=>((Ce s).map (·.1)++[⟨0,[],s.length⟩],0,0)
theorem ABg {s:Str} {k:Nat} {it:Tok×Int} (hit:(Ce s)[k]? = some it) (he:it.2≠0) (h0:∀j,j<k→∃it',(Ce s)[j]? = some it'∧it'.2=0):(Ce s).find? (fun it=>it.2 != 0)=some it:=by
 rw [uh]
 obtain ⟨hk,e⟩:=Ac.1 hit
 refine ⟨by simpa using he,k,hk,e,fun j hj=>?_⟩
 obtain ⟨it',h1,h2⟩:=h0 j hj
 rw [Ae (by omega)] at h1
 injection h1 with h1
 rw [h1,h2];rfl
theorem x5 {s:Str} (h:∀it∈Ce s,it.2=0):(Ce s).find? (fun it=>it.2 != 0)=none:=by
 rw [M3]
 intro it hit
 simp [h it hit]
def Ym (s:Str) (k:Nat):Int×Nat:=match (Ce s)[k]? with|some it=>(it.2,it.1.at_)|none=>(0,0)
theorem W5:∀(f k:Nat) (s:Str),(Ik f k s).length≤f
 | 0,_,_=>Bc _
 | f+1,k,s=>by
  rw [Ik]
  split
  ·exact jm
  rw [At]
  split
  ·have:=W5 f (k+(Cl s).2.2.1.toNat+gapM (s.drop (Cl s).2.2.1.toNat)) ((s.drop (Cl s).2.2.1.toNat).drop (gapM (s.drop (Cl s).2.2.1.toNat)))
   omega
  simp
theorem W6 (s:Str):(Ce s).length≤s.length+1:=W5 _ _ _
def Lq (s:Str) (k:Nat):List Tok:=((Ce s).take k).map (·.1)
theorem Se (s:Str) (k:Nat):(Lq s k).length≤s.length+1:=by
 have:=W6 s
 unfold Lq
 rw [Au,Da]
 omega
theorem kj {s:Str} {k:Nat} {it:Tok×Int} (hit:(Ce s)[k]? = some it):Lq s (k+1)=Lq s k++[it.1]:=by
 unfold Lq
 rw [aj,hit,Cr]
 rfl
theorem qx (s:Str):Lq s (Ce s).length=(Ce s).map (·.1):=by unfold Lq;rw [Ob]
theorem qy {s:Str} {k:Nat} {it:Tok×Int} (hl4:¬4000<s.length) (hit:(Ce s)[k]? = some it) (he:it.2≠0) (h0:∀j,j<k→∃it',(Ce s)[j]? = some it'∧it'.2=0):Eg s=([],it.2,it.1.at_):=by
 unfold Eg
 rw [if_neg hl4,ABg hit he h0]
theorem x6 {s:Str} (hl4:¬4000<s.length) (hz:∀it∈Ce s,it.2=0):Eg s=(Lq s (Ce s).length++[⟨0,[],s.length⟩],0,0):=by
 unfold Eg
 rw [if_neg hl4,x5 hz,qx]
theorem c71 (s:Str) (hs:s.length≤1048576) (Hp:List AObj):AFun Tryz.prog 71 [Ah s] Hp (.tup [mj (Eg s).1,.agg [A4 (Eg s).2.1,A4 (Eg s).2.2]]):=by
 refine Ak [.cell 2 107,.cell 3 69] [0,5,6] Tryz.func71 Tryz.ntmps71 (fun d=>?_)
 refine w7 ?_;refine A2 [0,2,3,5,6] ?_;refine Z34 ?_;refine A2 [0,2,3,5,6,9] ?_
 refine A3 (fun ht9=>?_) (fun ht9=>?_)
 ·have hlm:Eg s=([],3,0):=by unfold Eg;rw [if_pos (by simp at ht9;omega)]
  refine Es ?_;refine jn ?_;refine I2 ?_;refine Vl 0 3 ?_;refine I2 ?_;refine Z25 ?_;refine Cu ?_;exact A7 (Aw (F5 jA) (As jA jS)) ⟨by rw [hlm];rfl,rfl⟩
 have hl4:¬4000<s.length:=by simp at ht9;omega
 refine Z6 ?_;refine Z27 ?_;refine A2 [0,2,3,4,5,6] ?_;refine Z56 ?_;refine Vl 2 3 ?_;refine A5 ?_;refine A8 Tryz.call113 (AKn s _) ?_;refine A2 [0,2,3,4,5,6,12] ?_;refine Ia ?_
 refine Kf (m:=3) Tryz.call153 (fun FR as' bd' hFR has hbd=>?_)
 refine ⟨_,AKm (oid Hp.length 4) s hs (fun k=>Hp++[AObj.cells 107 [AV.nil],AObj.cells 69 [A4 0,A4 0],AObj.cells 107 [AV.slice true 3 ((Lq s k).map Ko)],AObj.defs,AObj.loop LoopState.ready none FR 32 #[13,14] as' bd' (oid Hp.length 3)]) (fun k=>Hp++[AObj.cells 107 [AV.nil],AObj.cells 69 [A4 (Ym s k).1,A4 (Ym s k).2],AObj.cells 107 [AV.slice true 3 ((Lq s k).map Ko)],AObj.defs,AObj.loop LoopState.done (some Code.ret) FR 32 #[13,14] as' bd' (oid Hp.length 3)]) (fun k=>by simp) (by simp [oid]) (fun k it hit=>?_),?_⟩
 ·generalize hV:Hp++[AObj.cells 107 [AV.nil],AObj.cells 69 [A4 0,A4 0],AObj.cells 107 [AV.slice true 3 ((Lq s k).map Ko)],AObj.defs,AObj.loop LoopState.ready none FR 32 #[13,14] as' bd' (oid Hp.length 3)]=V
  have hL:V[oid Hp.length 4]? = some (AObj.loop LoopState.ready none FR 32 #[13,14] as' bd' (oid Hp.length 3)):=by rw [←hV,B0];rfl
  have hA0:V[oid Hp.length 2]? = some (AObj.cells 107 [AV.slice true 3 ((Lq s k).map Ko)]):=by rw [←hV,B0];rfl
  have hB0:V[oid Hp.length 0]? = some (AObj.cells 107 [AV.nil]):=by rw [←hV,B0];rfl
  have hC0:V[oid Hp.length 1]? = some (AObj.cells 69 [A4 0,A4 0]):=by rw [←hV,B0];rfl
  refine K8 (pd:=none) (fr:=FR) (sz:=32) (ps:=#[13,14]) (df:=oid Hp.length 3) (asg:=as') (bd:=bd') hL rfl (by decide) (fun d=>?_)
  subst hFR has hbd
  refine Fu [2,3,4,13,14] ?_;refine pt ?_;refine A2 [2,3,4,5,14] ?_;refine Z93 ?_;refine A2 [2,3,4,5,6] ?_
  refine ⟨rfl,none,hL,?_⟩
  generalize hbz:(AObj.loop LoopState.busy _ _ _ _ _ _ _)=bz
  have hA:(V.set (oid Hp.length 4) bz)[oid Hp.length 2]? = some (AObj.cells 107 [AV.slice true 3 ((Lq s k).map Ko)]):=by rw [D7 (By (by decide))];exact hA0
  have hB:(V.set (oid Hp.length 4) bz)[oid Hp.length 0]? = some (AObj.cells 107 [AV.nil]):=by rw [D7 (By (by decide))];exact hB0
  have hC:(V.set (oid Hp.length 4) bz)[oid Hp.length 1]? = some (AObj.cells 69 [A4 0,A4 0]):=by rw [D7 (By (by decide))];exact hC0
  refine wc ?_;refine A2 [2,3,4,5,6,16] ?_
  refine A3 (fun ht16=>?_) (fun ht16=>?_)
  ·have hne:it.2≠0:=by simpa using ht16
   refine Hd [0,0,2,7,0,31] [4] [.q 4 [] [],.s [] (some 0) [] []] (fun _=>V.set (oid Hp.length 4) bz) (fun _=>[AObj.cells 113 [A4 it.1.kind,Ah it.1.text,A4 it.1.at_]]) Ar (by kernel_rfl) rfl rfl (fun _=>rfl) ?_
   apply Y.q
   ·intro B hT hF
    refine Z35 ?_;exact AEb
   case hTF=>decide
   refine bt (o:=oid Hp.length 0) (ys:=[.nil]) (t':=107) (cs:=[AV.nil]) (cs':=[AV.nil]) jS (fun _ _=>⟨hB,(J8 hB).symm,rfl,by simp⟩) ?_;refine He (tn:=[4]) (U:=V.set (oid Hp.length 4) bz) ?_
   refine F4 jS hC ?_ ?_
   ·simp
   refine A2 [] ?_;refine je ?_
   subst hbz
   refine K.rdR (vh hL (By (by decide))) ?_
   rw [if_neg hne]
   refine ⟨rfl,?_⟩
   subst hV
   simp only [Dy,List.set_cons_succ,List.set_cons_zero]
   rw [show Ym s k=(it.2,it.1.at_) by unfold Ym;rw [hit]]
  have heq:it.2=0:=by simpa using ht16
  refine Z6 ?_;refine Mp ?_
  have hl3:=Se s k
  refine ax jA hA ?_;refine Z76 ?_
  refine Gq jU Tryz.type113 ?_ ?_ ?_
  ·simp [hl3,Tryz.t113];omega
  ·simp [hl3,Tryz.t113];omega
  refine Vi jS (getset hA) ?_ ?_
  ·simp [or_imp,forall_and]
  refine Xr ?_
  subst hbz
  refine qe ?_
  rw [if_pos heq]
  refine ⟨rfl,?_⟩
  subst hV
  simp only [Dy,List.set_cons_succ,List.set_cons_zero]
  rw [kj hit,Cr]
  rfl
 rintro r H' (⟨hz,rfl⟩|⟨k,it,hit,hne,h0,rfl⟩)
 ·refine ⟨Hp,_,_,_,rfl,rfl,fun h=>h,?_,rfl,by simp,?_⟩
  ·intro o ho
   have:o=oid Hp.length 3:=by simpa using ho
   subst this
   rw [B0]
   rfl
  refine Z15 ?_;refine Es ?_;refine R.loadOwnT jA ?_;refine Z0 ?_;refine qd ?_;refine U6 ?_
  refine Gq jU Tryz.type113 ?_ ?_ ?_
  ·have:=Se s (Ce s).length;simp [Tryz.t113];omega
  ·have:=Se s (Ce s).length;simp [Tryz.t113];omega
  refine jn ?_;refine R.storeOwnT jS ?_;refine I2 ?_;refine Z25 ?_;exact A7 (Aw (F5 jA) (As jA jS)) ⟨by rw [x6 hl4 hz,mj,Cr];rfl,rfl⟩ (hlow:=by simp [or_imp,forall_and])
 refine ⟨Hp,_,_,_,rfl,rfl,fun h=>h,?_,rfl,by simp,?_⟩
 ·intro o ho
  have:o=oid Hp.length 3:=by simpa using ho
  subst this
  rw [B0]
  rfl
 refine W.nilOwn 0 3 ?_;refine px ?_;exact A7 (Aw (F5 jA) (As jA jS)) ⟨by rw [qy hl4 hit hne h0,show Ym s k=(it.2,it.1.at_) by unfold Ym;rw [hit]];rfl,rfl⟩

inductive Expr where
 | mk (op:Int) (text:Str) (val:Val) (kids:List Expr)
def Expr.op:Expr→Int|.mk o _ _ _=>o
def Expr.text:Expr→Str|.mk _ t _ _=>t
def Expr.val:Expr→Val|.mk _ _ v _=>v
def Expr.kids:Expr→List Expr|.mk _ _ _ k=>k
mutual
def Aa:Expr→AV
 | .mk o t v k=>.agg [.v (.int .i64 o),.v (sv t),.v (.int .i64 v.kind),.v (.int .i64 v.n),.v (sv v.s),.slice false 6 (Sf k)]
def Sf:List Expr→List AV
  | []=>[]
  | e::r=>Aa e::Sf r
 end
theorem W7:∀l,Sf l=l.map Aa
 | []=>rfl
 | e::r=>by rw [Sf,W7 r];rfl
theorem Ad (e:Expr):Aa e=.agg [.v (.int .i64 e.op),.v (sv e.text),.v (.int .i64 e.val.kind),.v (.int .i64 e.val.n),.v (sv e.val.s),.slice false 6 (e.kids.map Aa)]:=by
 cases e with
 | mk o t v k=>rw [Aa,W7];rfl
attribute [go_sem] Ad
def Ok:Str:=[32,111,114,32,32,97,110,100,32,32,61,32,33,61,32,60,32,60,61,32,62,32,62,61,32,32,43,32,45,32,38,32,32,42,32,47,32,37,32]
def Mu (v:Val):Bool:=v.kind==0&&v.n==0&&v.s==[]
def Cb (e:Expr):Bool:=
 if e.op==1 then ((Cv e.val&&decide (0≤e.val.n))&&(e.text==[]))&&((e.kids.length:Int)==0)
 else if e.op==2 then (Mu e.val&&Cx e.text)&&((e.kids.length:Int)==0)
 else if e.op==3 || e.op==4 then (Mu e.val&&(e.text==[]))&&((e.kids.length:Int)==1)
 else if e.op==5 then (Mu e.val&&Oj e.text Ok)&&((e.kids.length:Int)==2)
 else if e.op==6 then Mu e.val&&(C8 e.text==(e.kids.length:Int))
 else false
theorem c78 (e:Expr) (hs:e.text.length≤1048576) (Hp:List AObj):AFun Tryz.prog 78 [Aa e] Hp (B6 (Cb e)):=by
 refine ACall.body [.tmp 2] [0] Tryz.func78 Tryz.ntmps78 (fun d=>?_)
 refine Z84 ?_;refine Z1 ?_;refine qd ?_
 refine R.go (h:=Q.eqlAgg Xw (Iy e.val.kind e.val.n 0 0 e.val.s [])) (hr:=?_)
 refine R.go ?_;refine R.fin [1,3] ?_;refine Z31 ?_;refine R.fin [1,3,9] ?_;refine Z94 ?_;refine R.fin [1,3,9,10] ?_
 refine W.cond (fun ht10=>?_) (fun ht10=>?_)
 ·refine Z1 ?_;refine R.call Tryz.call37 (c37 e.val _) ?_;refine R.go ?_;refine dp ?_;refine Z73 ?_;exact pi
 refine Z1 ?_;refine R.fin [1,3,9,32] ?_
 refine W.cond (fun ht32=>?_) (fun ht32=>?_)
 ·refine Z1 ?_;refine Z9 ?_;refine G.call Tryz.call40 (fun hB=>c40 e.text hs _) ?_;refine Z0 ?_;exact pi
 refine Z31 ?_;refine R.fin [1,3,9,46] ?_
 refine W.cond (fun ht46=>?_) (fun ht46=>?_)
 ·refine Z6 ?_
  refine W.cond (fun ht46=>?_) (fun ht46=>?_)
  ·refine Z1 ?_;refine Z73 ?_;exact pi
  refine Z1 ?_;refine R.fin [1,3,9,61] ?_
  refine W.cond (fun ht61=>?_) (fun ht61=>?_)
  ·refine Z1 ?_;refine AHr ?_;refine Z0 ?_;exact pi
  refine Z1 ?_;refine R.fin [1,3,75] ?_
  refine W.cond (fun ht75=>?_) (fun ht75=>?_)
  ·refine AHj ?_;refine Z67 ?_;refine H.call Tryz.call126 (fun hB=>AF4 e.text _) ?_;refine Z67 ?_;refine H.go ?_;refine D.tail ?_;refine Z38 ?_;exact Z45
  exact AH7
 refine Z19 ?_;refine R.fin [1,3,9,46] ?_;refine K.thN ?_
 refine W.cond (fun ht46=>?_) (fun ht46=>?_)
 ·refine Z1 ?_;refine Z73 ?_;exact pi
 refine Z1 ?_;refine R.fin [1,3,9,61] ?_
 refine W.cond (fun ht61=>?_) (fun ht61=>?_)
 ·refine Z1 ?_;refine AHr ?_;refine Z0 ?_;exact pi
 refine Z1 ?_;refine R.fin [1,3,75] ?_
 refine W.cond (fun ht75=>?_) (fun ht75=>?_)
 ·refine AHj ?_;refine Z67 ?_;refine H.call Tryz.call126 (fun hB=>AF4 e.text _) ?_;refine Z67 ?_;refine H.go ?_;refine D.tail ?_;refine Z38 ?_;exact Z45
 exact AH7

mutual
def Ba (d:Int):Expr→List (Int×Expr)
 | .mk o t v k=>(d,.mk o t v k)::Bq (d+1) k
def Bq (d:Int):List Expr→List (Int×Expr)
  | []=>[]
  | e::r=>Ba d e++Bq d r
 end
theorem Il (d:Int) (e:Expr):Ba d e=(d,e)::Bq (d+1) e.kids:=by cases e;rfl
theorem Lc (d:Int):∀a b,Bq d (a++b)=Bq d a++Bq d b
 | [],b=>rfl
 | e::r,b=>by rw [Dd,Bq,Bq,Lc d r b,B9]
theorem eh (d:Int) (l:List Expr) {x:Nat} (h:x<l.length):Bq d (l.take (x+1))=Bq d (l.take x)++Ba d l[x]:=by
 rw [Iv h,Lc]
 simp [Bq]
theorem Qp (d:Int) (l:List Expr) {x:Nat} (h:x<l.length):Bq d l=Bq d (l.take x)++(Ba d l[x]++Bq d (l.drop (x+1))):=by
 have e:l=l.take x++(l[x]::l.drop (x+1)):=by rw [←K5 h,ai]
 conv=>lhs;rw [e]
 rw [Lc,Bq]
mutual
def sizeE:Expr→Nat
 | .mk _ _ _ k=>1+Cg k
def Cg:List Expr→Nat
  | []=>0
  | e::r=>sizeE e+Cg r
 end
theorem Gt (e:Expr):sizeE e=1+Cg e.kids:=by cases e;rfl
theorem Ol:∀(l:List Expr) {x:Nat} (h:x<l.length),sizeE l[x]≤Cg l
 | e::r,0,_=>by simp only [List.getElem_cons_zero,Cg];omega
 | e::r,x+1,h=>by
  have:=Ol r (x:=x) (by simpa using h)
  simp only [List.getElem_cons_succ,Cg]
  omega
theorem ek (e:Expr) {x:Nat} (h:x<e.kids.length):sizeE e.kids[x]+1≤sizeE e:=by
 have:=Ol e.kids h
 rw [Gt e]
 omega
/-- Each node has few kids. -/
def okE:Nat→Expr→Prop
 | 0,_=>False
 | n+1,e=>e.text.length≤1048576∧e.kids.length≤1048576∧∀y∈e.kids,okE n y
/-- Who takes what a tree yields: item k is taken at U k; it goes on (go k) to U (k + 1), or ends at F k. Behind U k there may stand others' objects. -/
structure Takes (P:Program) (l:Nat) (L:List (Int×Expr)) (go:Nat→Bool) (U F:Nat→List AObj) (n0:Nat):Prop where
 lenU:∀k,(U k).length=n0
 lenF:∀k,(F k).length=n0
 lowU:∀k,∀x∈U k,ObjLow n0 x
 lowF:∀k,∀x∈F k,ObjLow n0 x
 lt:l<n0
 y:∀(X:List AObj) (k:Nat) (it:Int×Expr),L[k]? = some it→(∀j,j<k→go j=true)→AYield P l [A4 it.1,Aa it.2] (U k++X) (fun b H'=>b=go k∧H'=(if go k then U (k+1) else F k)++X)
theorem ObjLow.le {m m':Nat} (h:m≤m') {x:AObj} (hx:ObjLow m x):ObjLow m' x:=by
 cases x with
 | cells t cs=>exact fun y hy=>(hx y hy).mono h
 | loop s pd fr sz ps as' bd df=>exact ⟨fun s=>(hx.1 s).mono h,Gf hx.2 h⟩
 | defs=>trivial
 | dead=>trivial
 | bld _ _ _=>trivial
 | gone=>trivial
/-- What the walk over n items from k0 on AJe to. -/
def el (go:Nat→Bool) (U F:Nat→List AObj) (k0 n:Nat) (X:List AObj):AV→List AObj→Prop:=fun r H' =>
 ((∀j,j<n→go (k0+j)=true)∧r=B6 true∧H'=U (k0+n)++X)∨(∃j,j<n∧(∀i,i<j→go (k0+i)=true)∧go (k0+j)=false∧r=B6 false∧H'=F (k0+j)++X)
mutual
theorem Ab (m:Nat):∀e,Low m (Aa e)
 | .mk o t v k=>by
  rw [Aa]
  refine .agg _ fun y hy=>?_
  simp only [Bj,Ev,or_false] at hy
  rcases hy with rfl|rfl|rfl|rfl|rfl|rfl
  ·exact .v _
  ·exact .v _
  ·exact .v _
  ·exact .v _
  ·exact .v _
  exact low_slice.2 (W8 m k)
theorem W8 (m:Nat):∀l,∀y∈Sf l,Low m y
  | [],y,hy=>by cases hy
  | e::r,y,hy=>by
    rw [Sf] at hy
    rcases Bj.1 hy with rfl|h
    · exact Ab m e
    exact W8 m r y h
 end
theorem Qq {V O A B own:List AObj} (h:V++O=A++(B++own)) (hl:V.length=(A++B).length):V=A++B∧O=own:=by
 rw [←B9] at h
 exact N1 h hl
theorem J1 {m:Nat} {A X:List AObj} (hA:∀x∈A,ObjLow m x) (hX:∀x∈X,ObjLow m x):∀x∈A++X,ObjLow m x:=fun x hx=>by
 rcases Ds.1 hx with h|h
 ·exact hA x h
 exact hX x h
theorem km {P:Program} {l:Nat} {L:List (Int×Expr)} {go:Nat→Bool} {U F:Nat→List AObj} {n0 k n K:Nat} {X own V O:List AObj} {r:AV} (T:Takes P l L go U F n0) (hV:V.length=(U K++X).length) (hp:el go U F k n (X++own) r (V++O)):
  ∃b,r=B6 b∧O=own∧(if b then (∀j,j<n→go (k+j)=true)∧V=U (k+n)++X else ∃j,j<n∧(∀i,i<j→go (k+i)=true)∧go (k+j)=false∧V=F (k+j)++X)∧((∀x∈U K++X,ObjLow V.length x)→∀x∈V,ObjLow V.length x):=by
 have hn:n0≤V.length:=by rw [hV,Ao,T.lenU];omega
 rcases hp with ⟨h1,h2,h3⟩|⟨j,hj,h1,h2,h3,h4⟩
 ·obtain ⟨e1,e2⟩:=Qq h3 (by rw [hV];simp [T.lenU])
  refine ⟨true,h2,e2,⟨h1,e1⟩,fun h=>?_⟩
  rw [e1] at h ⊢
  exact J1 (fun x hx=>ObjLow.le (by rw [Ao,T.lenU];omega) (T.lowU _ x hx)) (fun x hx=>h x (Qa _ hx))
 obtain ⟨e1,e2⟩:=Qq h4 (by rw [hV];simp [T.lenU,T.lenF])
 refine ⟨false,h3,e2,⟨j,hj,h1,h2,e1⟩,fun h=>?_⟩
 rw [e1] at h ⊢
 exact J1 (fun x hx=>ObjLow.le (by rw [Ao,T.lenF];omega) (T.lowF _ x hx)) (fun x hx=>h x (Qa _ hx))
theorem en (d:Int) (l:List Expr) {x:Nat} (h:x<l.length):(Bq d (l.take (x+1))).length=(Bq d (l.take x)).length+(Ba d l[x]).length:=by rw [eh d l h,Ao]
theorem x7 {d0:Int} {e:Expr} {x:Nat} (h:x<e.kids.length) {j:Nat} {it:Int×Expr} (hj:(Ba (d0+1) e.kids[x])[j]? = some it):(Ba d0 e)[1+(Bq (d0+1) (e.kids.take x)).length+j]? = some it:=by
 rw [Il d0 e,show 1+(Bq (d0+1) (e.kids.take x)).length+j=((Bq (d0+1) (e.kids.take x)).length+j)+1 by omega,Pc,Qp (d0+1) e.kids h,D6 (by omega)]
 rw [show (Bq (d0+1) (e.kids.take x)).length+j-(Bq (d0+1) (e.kids.take x)).length=j by omega,D5 (Ac.1 hj).1]
 exact hj
theorem qz (d0:Int) (e:Expr) {x:Nat} (h:x<e.kids.length):1+(Bq (d0+1) (e.kids.take x)).length+(Ba (d0+1) e.kids[x]).length≤(Ba d0 e).length:=by
 rw [Il d0 e,At,Qp (d0+1) e.kids h]
 simp only [Ao]
 omega
theorem AKo {l:Nat} {L:List (Int×Expr)} {go:Nat→Bool} {U F:Nat→List AObj} {n0:Nat} (T:Takes Tryz.prog l L go U F n0):∀(n:Nat) (e:Expr),okE n e→∀(d0:Int) (k0:Nat) (X:List AObj),0≤d0→d0+n≤1099511627776→(∀(j:Nat) (it:Int×Expr),(Ba d0 e)[j]? = some it→L[k0+j]? = some it)→(∀j,j<k0→go j=true)→ACall Tryz.prog 124 [Aa e,A4 d0,.yield l] (U k0++X) (el go U F k0 (Ba d0 e).length X):=by
 intro n
 induction n with
 | zero=>exact fun e h=>h.elim
 | succ n ih =>
 intro e hok d0 k0 X hd hdn hit hgo
 have hlen0:(U k0++X).length=n0+X.length:=by rw [Ao,T.lenU]
 refine Ak [.tmp 6] [0,1,2] Tryz.func124 Tryz.ntmps124 (fun d=>?_)
 refine Z1 ?_;refine A2 [1,2,3] ?_;refine Z34 ?_
 refine R.yield0 (T.y X k0 (d0,e) (hit 0 _ (by rw [Il];rfl)) hgo) ?_
 intro b Vv hV hb
 refine A5 ?_;refine A2 [1,2,3,13] ?_
 refine A3 (fun ht13=>?_) (fun ht13=>?_)
 ·have hb':b=false:=by simpa using ht13
  subst hb'
  refine Z2 ?_;refine pm ?_;exact A7 (An A6) (Or.inr ⟨0,by rw [Il];simp,fun i hi=>by omega,hb.1.symm,rfl,by have:=hb.2;rw [show go k0=false from hb.1.symm] at this;exact this⟩)
 have hb':b=true:=by simpa using ht13
 subst hb'
 have hgo0:go (k0+0)=true:=hb.1.symm
 have hVe:Vv=U (k0+1)++X:=by have:=hb.2;rw [show go k0=true from hb.1.symm] at this;exact this
 subst hVe
 have h0x:0≤e.kids.length∧∀j,j<1+(Bq (d0+1) (e.kids.take 0)).length→go (k0+j)=true:=⟨Bc _,fun j hj=>by
  have:j=0:=by simp [Bq] at hj;omega
  subst this
  exact hgo0⟩
 refine Z6 ?_;refine Z59 ?_;refine A2 [1,2,15,16,17] ?_
 refine Dp (α:=Nat) (fun x=>⟨28,Af 1 (A4 d0) (Af 2 (.yield l) (Af 15 (.slice false 6 (e.kids.map Aa)) (Af 16 (A4 e.kids.length) (Af 17 (A4 (x:Nat)) (fun _=>.any))))),U (k0+(1+(Bq (d0+1) (e.kids.take x)).length))++X,[],[],none⟩) (fun x=>x≤e.kids.length∧∀j,j<1+(Bq (d0+1) (e.kids.take x)).length→go (k0+j)=true) (fun x=>e.kids.length-x) (0) h0x (Co (by simp [Bq])) rfl (fun x hx=>?_)
 refine Z2 ?_;refine A2 [1,2,15,16,17,18] ?_
 refine Dn (fun ht18=>?_) (fun ht18=>?_)
 ·have hlt:x<e.kids.length:=by simpa using ht18
  have hkl:=hok.2.1
  refine Z92 ?_
  refine A5 (h:=Ap (x) (Aa e.kids[x]) (fun _=>Bv hlt)) (hr:=?_)
  refine Vm ?_;refine A2 [1,2,8,15,16,17] ?_;refine Z18 ?_
  refine R.callG Tryz.call124 (args:=[Aa e.kids[x],A4 (d0+1),.yield l]) (by rw [B9];exact ih e.kids[x] (hok.2.2 _ (C4 hlt)) (d0+1) (k0+(1+(Bq (d0+1) (e.kids.take x)).length)) (X++_) (by omega) (by omega) (fun j it hj=>by have:=hit _ it (x7 hlt hj);rwa [←Kr] at this) (fun j hj=>by rcases Bo j k0 with h|h;exact hgo j h;have:=hx.2 (j-k0) (by omega);rwa [show k0+(j-k0)=j by omega] at this)) ?_
  intro r Vv O hV hp
  obtain ⟨b,rfl,rfl,hc,hlowV⟩:=km T hV hp
  refine ⟨hlowV,fun o ho=>by simp at ho,?_⟩
  refine A5 ?_;refine A2 [1,2,15,16,17,26] ?_
  refine A3 (fun ht26=>?_) (fun ht26=>?_)
  ·have hb':b=false:=by simpa using ht26
   subst hb'
   obtain ⟨j,hj,h1,h2,h3⟩:=hc
   refine Z2 ?_;refine Z75 ?_;refine Z97 ?_
   have hil:=qz d0 e hlt
   refine A7 (An A6) (Or.inr ⟨1+(Bq (d0+1) (e.kids.take x)).length+j,by omega,fun i hi=>?_,by rwa [Kr] at h2,rfl,by rwa [Kr] at h3⟩)
   rcases Bo i (1+(Bq (d0+1) (e.kids.take x)).length) with h|h
   ·exact hx.2 i h
   have:=h1 (i-(1+(Bq (d0+1) (e.kids.take x)).length)) (by omega)
   rwa [show k0+(1+(Bq (d0+1) (e.kids.take x)).length)+(i-(1+(Bq (d0+1) (e.kids.take x)).length))=k0+i by omega] at this
  have hb':b=true:=by simpa using ht26
  subst hb'
  obtain ⟨h1,h3⟩:=hc
  refine Z68 ?_;refine A2 [1,2,15,16,17] ?_
  subst h3
  have hll:=en (d0+1) e.kids hlt
  have e1:k0+(1+(Bq (d0+1) (e.kids.take (x+1))).length)=k0+(1+(Bq (d0+1) (e.kids.take x)).length)+(Ba (d0+1) e.kids[x]).length:=by omega
  refine Cd (x+1) ⟨hlt,fun j hj=>?_⟩ (by omega) ?_
  ·rcases Bo j (1+(Bq (d0+1) (e.kids.take x)).length) with h|h
   ·exact hx.2 j h
   have:=h1 (j-(1+(Bq (d0+1) (e.kids.take x)).length)) (by omega)
   rwa [show k0+(1+(Bq (d0+1) (e.kids.take x)).length)+(j-(1+(Bq (d0+1) (e.kids.take x)).length))=k0+j by omega] at this
  simp only [e1]
  exact Dk (own:=[]) (fun _=>.refl _) (by repeat (first|exact Bg|refine Bf (by first|(simp [Ab];done)|(have:=T.lt;simp [T.lenU];omega)) ?_)) (by simp) (by simp)
 have hxe:e.kids.take x=e.kids:=Fa (by simp at ht18;omega)
 refine Z39 ?_;refine Z2 ?_;refine Z75 ?_
 have hl2:(Ba d0 e).length=1+(Bq (d0+1) (e.kids.take x)).length:=by rw [Il,hxe,At];omega
 exact A7 (An A6) (Or.inl ⟨fun j hj=>hx.2 j (by omega),rfl,by rw [hl2]⟩)

def Ld:=@ObjLow.le
abbrev Bw (e:Expr):List AV:=[.v (.int .i64 e.op),.v (sv e.text),.v (.int .i64 e.val.kind),.v (.int .i64 e.val.n),.v (sv e.val.s),.slice false 6 (e.kids.map Aa)]
/-- What taking all of a tree AJe to. -/
def Ki (go:Nat→Bool) (U F:Nat→List AObj) (n:Nat) (H':List AObj):Prop:=
 ((∀j,j<n→go j=true)∧H'=U n)∨(∃j,j<n∧(∀i,i<j→go i=true)∧go j=false∧H'=F j)
theorem ABh {l:Nat} {e:Expr} {go:Nat→Bool} {U F:Nat→List AObj} {n0:Nat} (T:Takes Tryz.prog l (Ba 1 e) go U F n0) (n:Nat) (hok:okE n e) (hn:n≤1048576):ACall Tryz.prog 123 [.yield l,.ro (Bw e)] (U 0) (fun r H'=>Ki go U F (Ba 1 e).length H'):=by
 refine Ak [] [0,1] Tryz.func123 Tryz.ntmps123 (fun d=>?_)
 refine Z19 ?_;refine R.callG Tryz.call124 (args:=[Aa e,A4 1,.yield l]) (AKo T n e hok 1 0 [] (by omega) (by omega) (fun j it hj=>by rwa [Bt]) (fun j hj=>by omega)) ?_
 intro r Vv O hV hp
 have hO:O=[]:=by
  have h1:(Vv++O).length=n0:=by rcases hp with ⟨_,_,h⟩|⟨j,_,_,_,_,h⟩<;>rw [h]<;>simp [T.lenU,T.lenF]
  have h2:=T.lenU 0
  rw [Ao,hV,h2] at h1
  exact Pb (by omega)
 subst hO
 rw [Ig] at hp
 have hq:Ki go U F (Ba 1 e).length Vv:=by
  rcases hp with ⟨h1,_,h⟩|⟨j,h1,h2,h3,_,h⟩
  ·exact .inl ⟨fun j hj=>by have:=h1 j hj;rwa [Bt] at this,by rw [h];simp⟩
  exact .inr ⟨j,h1,fun i hi=>by have:=h2 i hi;rwa [Bt] at this,by rwa [Bt] at h3,by rw [h];simp⟩
 refine ⟨fun h=>?_,fun o ho=>by simp at ho,?_⟩
 ·rcases hq with ⟨_,h⟩|⟨j,_,_,_,h⟩<;>rw [h]
  ·rw [T.lenU];exact T.lowU _
  rw [T.lenF];exact T.lowF _
 refine A2 [] ?_;exact Ke .nores (hp:=hq)

theorem c77 (e:Expr) (Hp:List AObj):AFun Tryz.prog 77 [Aa e] Hp (.fn (.func 123) [] [.ro (Bw e)]):=by
 refine Ak [.tmp 2] [0] Tryz.func77 Tryz.ntmps77 (fun d=>?_)
 refine Z84 ?_;refine wd ?_;refine Z4 ?_;exact A7 (An A6) (hlow:=by have:=Ab Hp.length e;rw [Ad] at this;simpa using this)

def goM (e:Expr) (k:Nat):Bool:=match (Ba 1 e)[k]? with
 | some it => !((!Cb it.2 || decide ((30:Int)<it.1)) || decide ((300:Int)<(k:Int)+1))
 | none=>true
def Am (e:Expr):Bool:=(List.range (Ba 1 e).length).all (goM e)
mutual
theorem Yn:∀(n:Nat) (e:Expr),okE n e→∀d,∀it∈Ba d e,it.2.text.length≤1048576
 | 0,_,h,_,_,_=>h.elim
 | n+1,e,h,d,it,hit=>by
  rw [Il] at hit
  rcases Bj.1 hit with rfl|h'
  ·exact h.1
  exact Yo n e.kids h.2.2 (d+1) it h'
 termination_by n e=>(n,0)
theorem Yo:∀(n:Nat) (l:List Expr),(∀y∈l,okE n y)→∀d,∀it∈Bq d l,it.2.text.length≤1048576
  | n,[],_,_,_,h=>by cases h
  | n,e::r,h,d,it,hit=>by
    rw [Bq] at hit
    rcases Ds.1 hit with h'|h'
    · exact Yn n e (h e (by simp)) d it h'
    exact Yo n r (fun y hy=>h y (by simp [hy])) d it h'
  termination_by n l=>(n,l.length+1)
 end
theorem kn {U:List AObj} {i j:Nat} {x y:AObj} (h:U[i]? = some x) (hne:j≠i):(U.set j y)[i]? = some x:=by rw [D7 hne];exact h
theorem AFa {e:Expr} {k:Nat} {it:Int×Expr} (hit:(Ba 1 e)[k]? = some it) (h:∀j,j<k→goM e j=true):(k:Int)≤300:=by
 rcases Nat.eq_zero_or_pos k with h0|h0
 ·omega
 have hl:=(Ac.1 hit).1
 have:=h (k-1) (by omega)
 unfold goM at this
 rw [Ae (by omega)] at this
 simp at this
 omega
theorem bu {e:Expr} {k:Nat} {it:Int×Expr} (hit:(Ba 1 e)[k]? = some it):goM e k = !((!Cb it.2 || decide ((30:Int)<it.1)) || decide ((300:Int)<(k:Int)+1)):=by
 unfold goM;rw [hit]
theorem c38 (n:Nat) (e:Expr) (hok:okE n e) (hn:n≤1048576) (Hp:List AObj):AFun Tryz.prog 38 [Aa e] Hp (B6 (Am e)):=by
 refine Ak [.cell 2 4] [0,4,5] Tryz.func38 Tryz.ntmps38 (fun d=>?_)
 refine w9 ?_;refine A2 [1,2,4,5] ?_;refine pt ?_;refine A2 [1,2,3,4,5] ?_;refine Z56 ?_
 refine Ii (fun hlow=>?_)
 refine AAy ?_;refine A2 [2,3,4,5,7] ?_;refine Ia ?_
 refine Kf (m:=2) Tryz.call123 (fun FR as' bd' hFR has hbd=>?_)
 have hFRl:∀s,Low (Hp.length+4) (FR s):=by
  intro s
  rw [hFR]
  refine L7 ?_
  revert s
  repeat (first|exact Bg|refine Bf (by simp [oid,Ab]<;>try omega) ?_)
 have hOl:∀{k:Nat},∀x∈[AObj.cells 4 [B6 false],AObj.cells 3 [A4 (k:Nat)],AObj.defs,AObj.loop LoopState.ready none FR 23 #[8,9] as' bd' (oid Hp.length 2)],ObjLow (Hp.length+4) x:=by
  intro k x hx
  simp only [Bj,Ev,or_false] at hx
  rcases hx with rfl|rfl|rfl|rfl
  ·exact AAs
  ·exact AAs
  ·trivial
  exact jo
 have hOf:∀{k:Nat},∀x∈[AObj.cells 4 [B6 false],AObj.cells 3 [A4 ((k:Nat)+1)],AObj.defs,AObj.loop LoopState.done (some Code.ret) FR 23 #[8,9] as' bd' (oid Hp.length 2)],ObjLow (Hp.length+4) x:=by
  intro k x hx
  simp only [Bj,Ev,or_false] at hx
  rcases hx with rfl|rfl|rfl|rfl
  ·exact AAs
  ·exact AAs
  ·trivial
  exact jo
 refine ⟨fun _ H'=>Ki (goM e) (fun k=>Hp++[AObj.cells 4 [B6 false],AObj.cells 3 [A4 (k:Nat)],AObj.defs,AObj.loop LoopState.ready none FR 23 #[8,9] as' bd' (oid Hp.length 2)]) (fun k=>Hp++[AObj.cells 4 [B6 false],AObj.cells 3 [A4 ((k:Nat)+1)],AObj.defs,AObj.loop LoopState.done (some Code.ret) FR 23 #[8,9] as' bd' (oid Hp.length 2)]) (Ba 1 e).length H',ABh (l:=oid Hp.length 3) (go:=goM e) (U:=fun k=>Hp++[AObj.cells 4 [B6 false],AObj.cells 3 [A4 (k:Nat)],AObj.defs,AObj.loop LoopState.ready none FR 23 #[8,9] as' bd' (oid Hp.length 2)]) (F:=fun k=>Hp++[AObj.cells 4 [B6 false],AObj.cells 3 [A4 ((k:Nat)+1)],AObj.defs,AObj.loop LoopState.done (some Code.ret) FR 23 #[8,9] as' bd' (oid Hp.length 2)]) (n0:=Hp.length+4) ⟨fun k=>by simp,fun k=>by simp,fun k x hx=>?_,fun k x hx=>?_,by simp [oid],fun X k it hit hgo=>?_⟩ n hok hn,?_⟩
 ·exact jp
 ·exact J1 (fun x hx=>Ld (by omega) (hlow x hx)) hOf x hx
 ·have hk3:=AFa hit hgo
  generalize hV:(Hp++[AObj.cells 4 [B6 false],AObj.cells 3 [A4 (k:Nat)],AObj.defs,AObj.loop LoopState.ready none FR 23 #[8,9] as' bd' (oid Hp.length 2)]++X)=V
  have hL:V[oid Hp.length 3]? = some (AObj.loop LoopState.ready none FR 23 #[8,9] as' bd' (oid Hp.length 2)):=by rw [←hV,B9,B0];rfl
  have hA0:V[oid Hp.length 1]? = some (AObj.cells 3 [A4 (k:Nat)]):=by rw [←hV,B9,B0];rfl
  have hB0:V[oid Hp.length 0]? = some (AObj.cells 4 [B6 false]):=by rw [←hV,B9,B0];rfl
  refine K8 (pd:=none) (fr:=FR) (sz:=23) (ps:=#[8,9]) (df:=oid Hp.length 2) (asg:=as') (bd:=bd') hL rfl (by decide) (fun d=>?_)
  subst hFR has hbd
  refine Fu [2,3,8,9] ?_;refine Z2 ?_;refine A2 [2,3,4,9] ?_;refine pq ?_;refine bf ?_
  refine ⟨rfl,none,hL,?_⟩
  generalize hbz:(AObj.loop LoopState.busy _ _ _ _ _ _ _)=bz
  have hA:(V.set (oid Hp.length 3) bz)[oid Hp.length 1]? = some (AObj.cells 3 [A4 (k:Nat)]):=by rw [D7 (By (by decide))];exact hA0
  have hB:(V.set (oid Hp.length 3) bz)[oid Hp.length 0]? = some (AObj.cells 4 [B6 false]):=by rw [D7 (By (by decide))];exact hB0
  refine Ia ?_;refine Es ?_
  refine A5 (h:=Dz hA) (hr:=?_)
  refine A5 ?_
  refine F4 jS hA ?_ ?_
  ·simp
  refine bf ?_;refine Z2 ?_;refine A8 Tryz.call78 (c78 it.2 (Yn n e hok 1 it (Az hit)) _) ?_;refine S3 ?_;refine Z0 ?_
  refine Ca (h:=Dz (getset hA)) (hr:=?_)
  refine Z64 ?_;refine A2 [2,22] ?_
  refine A3 (fun ht22=>?_) (fun ht22=>?_)
  ·have hgf:goM e k=false:=by rw [bu hit,ht22];rfl
   refine Es ?_
   refine F4 jS (kn (j:=oid Hp.length 1) hB (By (by decide))) ?_ ?_
   ·simp
   refine A2 [] ?_;refine Gn ?_;refine K.blR ?_
   subst hbz
   refine AEu ?_
   refine ⟨hgf.symm,?_⟩
   rw [if_neg (by rw [hgf];simp)]
   subst hV
   simp only [B9,Dy,Dd,Cz,List.set_cons_succ,List.set_cons_zero]
   try rfl
  have hgt:goM e k=true:=by rw [bu hit,ht22];rfl
  refine L9 ?_;refine Kd ?_
  subst hbz
  refine ABa ?_
  refine ⟨hgt.symm,?_⟩
  rw [if_pos hgt]
  subst hV
  simp only [B9,Dy,Dd,Cz,List.set_cons_succ,List.set_cons_zero]
  try rfl
 rintro r H' (⟨h1,rfl⟩|⟨j,hj,h1,h2,rfl⟩)
 ·refine ⟨Hp,_,_,_,rfl,rfl,fun h=>h,?_,rfl,by simp,?_⟩
  ·intro o ho
   have:o=oid Hp.length 2:=by simpa using ho
   subst this
   rw [B0]
   rfl
  refine Z15 ?_;refine Es ?_;refine Z11 ?_;exact A7 (An (F5 jA)) ⟨by rw [show Am e=true from B5.2 fun j hj=>h1 j (M4.1 hj)],rfl⟩
 refine ⟨Hp,_,_,_,rfl,rfl,fun h=>h,?_,rfl,by simp,?_⟩
 ·intro o ho
  have:o=oid Hp.length 2:=by simpa using ho
  subst this
  rw [B0]
  rfl
 refine px ?_;exact A7 (An (F5 jA)) ⟨by rw [show Am e=false from List.all_eq_false.2 ⟨j,M4.2 hj,by rw [h2];simp⟩],rfl⟩

def Bb (s:Str):Expr:=.mk 2 s ⟨0,0,[]⟩ []
theorem eo (s:Str):Le (.agg [A4 2,Ah s,A4 0,A4 0,Ah [],.nil]) (Aa (Bb s)):=by
 rw [Ad]
 refine .agg _ _ rfl (by simp [AV.one,Value.oneCell',sv]) fun i y y' h1 h2=>?_
 match i with
 | 0=>simp at h1 h2;subst h1;subst h2;exact .inl rfl
 | 1=>simp at h1 h2;subst h1;subst h2;exact .inl rfl
 | 2=>simp at h1 h2;subst h1;subst h2;exact .inl rfl
 | 3=>simp at h1 h2;subst h1;subst h2;exact .inl rfl
 | 4=>simp at h1 h2;subst h1;subst h2;exact .inl rfl
 | 5=>simp at h1 h2;subst h1;subst h2;exact .inr ⟨rfl,6,rfl⟩
 | i+6=>simp at h1
theorem ep (s:Str) (h:s.length≤1048576):okE 1 (Bb s):=⟨h,by simp [Bb,Expr.kids],fun y hy=>by cases hy⟩
def Sg (c:List Col) (x:Nat) (y:Col):Bool := !(((!Am (Bb y.name)) || (Gx y.kind==[])) || (Br y.name c != (x:Int)))
def Qr (c:List Col):Bool:=c.zipIdx.all fun x=>Sg c x.2 x.1
theorem colsP_true {c:List Col}:Qr c=true↔∀(j:Nat) (y:Col),c[j]? = some y→Sg c j y=true:=Pm
theorem c36 (c:List Col) (hc:OkCols c) (Hp:List AObj):AFun Tryz.prog 36 [Ax c] Hp (B6 (Qr c)):=by
 refine Ak [.tmp 2] [0] Tryz.func36 Tryz.ntmps36 (fun d=>?_)
 refine Z57 ?_;refine Z34 ?_;refine A2 [0,5,6,7] ?_
 refine Dp (α:=Nat) (fun x=>⟨32,Af 0 (Ax c) (Af 5 (Ax c) (Af 6 (A4 c.length) (Af 7 (A4 (x:Nat)) (fun _=>.any)))),Hp,[],[],none⟩) (fun x=>x≤c.length∧∀(j:Nat) (y:Col),j<x→c[j]? = some y→Sg c j y=true) (fun x=>c.length-x) (0) (by simp) (Co (by simp)) rfl (fun x hx=>?_)
 refine Z2 ?_;refine A2 [0,5,6,7,8] ?_
 refine Dn (fun ht8=>?_) (fun ht8=>?_)
 ·have hlt:x<c.length:=by simpa using ht8
  have hcl:=hc.len
  refine Pk ?_
  refine A5 (h:=Ap (x) (El c[x]) (fun _=>Bv hlt)) (hr:=?_)
  refine dr ?_;refine A2 [0,3,4,5,6,7] ?_;refine AEf ?_;refine Ek 14 _ (eo c[x].name) ?_;refine A8 Tryz.call38 (c38 1 (Bb c[x].name) (ep _ (hc.names _ (C4 hlt))) (by decide) _) ?_;refine S3 ?_;refine C7 Tryz.call76 (fun hB=>c76 c[x].kind _) ?_;refine Z38 ?_;refine Z9 ?_;refine Ca ?_;refine C7 Tryz.call58 (fun hB=>c58 c hc c[x].name _) ?_;refine ji ?_;refine A2 [0,5,6,7,30] ?_
  refine A3 (fun ht30=>?_) (fun ht30=>?_)
  ·refine dv ?_;refine Z53 ?_
   exact A7 (An A6) ⟨by rw [show Qr c=false from L4.2 fun h=>by have:=colsP_true.1 h x c[x] (Ae hlt);unfold Sg at this;rw [ht30] at this;cases this],rfl⟩
  refine Z68 ?_;refine A2 [0,5,6,7] ?_
  refine Cd (x+1) ⟨hlt,Md hlt hx.2 (by unfold Sg;rw [ht30];rfl)⟩ (by omega) ?_
  exact Dk (own:=[]) (fun _=>.refl _) (by repeat (first|exact Bg|refine Bf (by simp) ?_)) (by simp) (by simp)
 refine Z39 ?_;refine Z98 ?_;exact A7 (An A6) ⟨by rw [colsP_true.2 (Oi (by simp at ht8;omega) hx.2)],rfl⟩

def Lf (c:List Col):Bool:=decide ((c.length:Int)≤12)&&Qr c
theorem c57 (c:List Col) (hc:OkCols c) (Hp:List AObj):AFun Tryz.prog 57 [Ax c] Hp (B6 (Lf c)):=by
 refine Ak [.tmp 2] [0] Tryz.func57 Tryz.ntmps57 (fun d=>?_)
 refine Z57 ?_;refine q8 ?_;refine C7 Tryz.call36 (fun hB=>c36 c hc _) ?_;refine Z0 ?_;refine Z4 ?_;exact A7 (An A6) ⟨by unfold Lf;simp,rfl⟩

theorem bv (s:Str) (h:s≠[]):Lib.contains [] s=false:=by
 cases s with
 | nil=>exact absurd rfl h
 | cons a r=>rfl
theorem contains_cons (b:UInt8) (l s:Str):Lib.contains (b::l) s=(s.isPrefixOf (b::l) || Lib.contains l s):=by
 unfold Lib.contains
 have hge:=Lib.index_ge l s
 rw [Lib.index]
 by_cases hp:s.isPrefixOf (b::l)=true
 ·rw [if_pos hp,hp];rfl
 rw [if_neg hp]
 have hp':s.isPrefixOf (b::l)=false:=L4.2 hp
 rw [hp',Fd]
 by_cases hi:Lib.index l s = -1
 ·rw [hi];rfl
 have:(Lib.index l s == -1)=false:=by simpa using hi
 rw [this,if_neg (by simp)]
 rw [decide_eq_decide]
 omega
/-- Words between blanks. -/
def Nr:List Str→Str
 | []=>[32]
 | w::r=>32::(w++Nr r)
theorem Yp (sub:Str):∀(w R:Str),(32:UInt8)∉w→Lib.contains (w++R) (32::sub)=Lib.contains R (32::sub)
 | [],R,_=>rfl
 | b::w,R,h=>by
  have hb:b≠32:=fun e=>h (by simp [e])
  rw [Dd,contains_cons,Yp sub w R (fun hm=>h (by simp [hm]))]
  have:(32::sub).isPrefixOf (b::(w++R))=false:=by
   simp [List.isPrefixOf,Ne.symm hb]
  rw [this,Fd]
theorem Tk:∀(s w:Str) (R:Str),(32:UInt8)∉s→(32:UInt8)∉w→(s++[32]).isPrefixOf (w++32::R)=(s==w)
 | [],[],R,_,_=>by simp [List.isPrefixOf]
 | [],b::w,R,_,hw=>by
  have hb:(32:UInt8)≠b:=fun e=>hw (by simp [e])
  simp [List.isPrefixOf,hb]
 | a::s,[],R,hs,_=>by
  have hb:a≠(32:UInt8):=fun e=>hs (by simp [e])
  simp [List.isPrefixOf,hb]
 | a::s,b::w,R,hs,hw=>by
  have ih:=Tk s w R (fun h=>hs (by simp [h])) (fun h=>hw (by simp [h]))
  rw [Dd,Dd,List.isPrefixOf,ih]
  rfl
theorem er:∀ws,∃R,Nr ws=32::R
 | []=>⟨[],rfl⟩
 | w::r=>⟨_,rfl⟩
theorem Kj (s:Str) (hs:(32:UInt8)∉s):∀(ws:List Str),(∀w∈ws,(32:UInt8)∉w)→Lib.contains (Nr ws) ([32]++s++[32])=ws.any (·==s)
 | [],_=>by
  rw [Nr,contains_cons,bv _ (by simp),P8]
  cases s<;>simp [List.isPrefixOf]
 | w::r,h=>by
  have hw:=h w (by simp)
  obtain ⟨R,hR⟩:=er r
  have ih:=Kj s hs r (fun x hx=>h x (by simp [hx]))
  have e1:([32]++s++[32]:Str)=32::(s++[32]):=rfl
  rw [Nr,contains_cons,e1,Yp _ w _ hw,←e1,ih,List.any_cons]
  congr 1
  rw [e1,hR]
  have:=Tk s w R hs hw
  rw [List.isPrefixOf,this]
  simp only [beq_self_eq_true,P9]
  by_cases hsw:s=w
  ·subst hsw;rfl
  rw [beq_eq_false_iff_ne.2 hsw,beq_eq_false_iff_ne.2 (Ne.symm hsw)]
theorem Y2:Me=Nr words:=by kernel_rfl
theorem et:∀w∈words,(32:UInt8)∉w:=by decide
theorem eu (s:Str):Lib.contains s [32]=s.contains 32:=by
 induction s with
 | nil=>rfl
 | cons b l ih =>
  rw [contains_cons,ih,List.contains_cons]
  congr 1
  simp [List.isPrefixOf]
theorem W9 (s:Str) (h1:s≠[]) (h2:(32:UInt8)∉s):Gw s=S5 s:=by
 unfold Gw
 rw [eu,Y2,Kj s h2 words et]
 have e1:(s==[])=false:=by simpa using h1
 have e2:s.contains 32=false:=by simpa using h2
 rw [e1,e2]
 rfl
set_option maxRecDepth 8000
theorem x8 {p:UInt8→Bool} (h:((List.range 256).all fun n=>p (UInt8.ofNat n))=true) (c:UInt8):p c=true:=by
 have:=B5.1 h c.toNat (M4.2 c.toNat_lt)
 simpa using this
theorem ko (c:UInt8):tails.contains c=Vq c:=by
 have:=x8 (p:=fun c=>tails.contains c==Vq c) (by kernel_rfl) c
 simpa using this
theorem bw (c:UInt8):letters.contains c=Mc c:=by
 have:=x8 (p:=fun c=>letters.contains c==Mc c) (by kernel_rfl) c
 simpa using this
theorem kp:Vq 32=false:=by kernel_rfl
theorem mn (s of:Str):(Qn s of==(s.length:Int))=s.all (of.contains ·):=by
 unfold Qn Lib.trimLeftS
 induction s with
 | nil=>rfl
 | cons c r ih =>
  rw [Rl,List.all_cons]
  cases hc:of.contains c with
  | true =>
   simp only [if_true,P9]
   rw [←ih,Rj]
   have:=(ik (fun x=>of.contains x) (l:=r)).length_le
   simp only [beq_iff_eq,At]
   omega
  | false =>
   simp only [Bd,if_false,Zu]
   rw [beq_eq_false_iff_ne]
   simp only [At]
   omega
theorem Et (s:Str):Cx s=Kh s:=by
 cases s with
 | nil=>rfl
 | cons c r =>
  unfold Cx
  rw [mn]
  have e1:((c::r).all fun x=>tails.contains x)=(c::r).all Vq:=by
   congr 1
   funext x
   exact ko x
  have e2:(Qn ((c::r).take 1) letters==1)=Mc c:=by
   have:=mn [c] letters
   rw [←bw c]
   simpa using this
  rw [e1,e2]
  have e3:((c::r:Str)==[])=false:=rfl
  have e4:decide (((c::r).length:Int)≤16)=decide ((c::r).length≤16):=by
   rw [decide_eq_decide];omega
  rw [e3,e4]
  show _=(decide ((c::r).length≤16)&&Mc c && !S5 (c::r)&&(c::r).all Vq)
  cases ha:(c::r).all Vq with
  | false=>simp
  | true =>
   have hb:(32:UInt8)∉(c::r):=fun hm=>by
    have:=B5.1 ha 32 hm
    rw [kp] at this
    cases this
   rw [W9 _ (by simp) hb]
   simp
theorem Mg (s:Str):Am (Bb s)=Kh s:=by
 have e:Ba 1 (Bb s)=[(1,Bb s)]:=by rw [Il];rfl
 unfold Am
 rw [e]
 show ((List.range 1).all (goM (Bb s)))=_
 have g:goM (Bb s) 0=Cb (Bb s):=by
  unfold goM
  rw [e]
  simp
 simp only [ag,List.range_zero,Cz,List.all_cons,List.all_nil,V2]
 rw [g,←Et]
 simp [Cb,Bb,Expr.op,Expr.val,Expr.text,Expr.kids,Mu]
theorem bx (k:Int):(Gx k==[])=(decide (k<1) || decide ((3:Int)<k)):=by
 unfold Gx
 by_cases h:k<1∨3<k
 ·rw [if_pos h]
  have:(decide (k<1) || decide ((3:Int)<k))=true:=by simpa using h
  rw [this];rfl
 rw [if_neg h]
 have:(decide (k<1) || decide ((3:Int)<k))=false:=by simp;omega
 rw [this]
 have hk:k=1∨k=2∨k=3:=by omega
 rcases hk with rfl|rfl|rfl<;>rfl
theorem Mh (c:List Col):Qr c=Ic c:=by
 unfold Qr Ic
 congr 1
 funext x
 unfold Sg dz
 rw [Mg,bx,←Bool.or_assoc (!Kh x.1.name)]
theorem H6 (c:List Col):Lf c=Ee c:=by unfold Lf Ee;rw [Mh]
set_option maxRecDepth 4000
def Av (l:List Tok) (i:Nat):Tok:=l.getD i ⟨0,[],0⟩
theorem Sh {l:List Tok} {i:Nat} (h:i<l.length):(l.map Ko)[i]? = some (Ko (Av l i)):=by
 rw [Cm,Ae h]
 unfold Av
 rw [Ch,Ae h]
 rfl
end Go.SX.Nb
