/- On the way (part 5). -/
import Derived.Test.YtofbdcbjpdpllaaGreatDoorInvertComesCardSaidPart4
set_option linter.all false
namespace Go.SX.Nb
open Go Go.SX Go.Proofs
variable [ErrAt]
set_option maxRecDepth 4000
def wAt (s:Str) (k:Nat):Int×Str×Int×Int:=C3 (s.drop k)
theorem Lf {f k:Nat} {s:Str} (h:s≠[]):H7 (f+1) k s=(⟨(C3 s).1,(C3 s).2.1,k⟩,(C3 s).2.2.2)::(if (C3 s).2.2.2==0 then H7 f (k+(C3 s).2.2.1.toNat+gapM (s.drop (C3 s).2.2.1.toNat)) ((s.drop (C3 s).2.2.1.toNat).drop (gapM (s.drop (C3 s).2.2.1.toNat))) else []):=by
 rw [H7,if_neg (by simpa using h)]
/-- Where the reader is, with k words behind it. -/
def Q7 (s:Str) (k p:Nat):Prop:=(∃f,(s.drop p).length<f∧(C0 s).drop k=H7 f p (s.drop p))∧p≤s.length∧∀j,j<k→∃it,(C0 s)[j]? = some it∧it.2=0
theorem bx (s:Str):Q7 s 0 (gapM s):=⟨⟨s.length+1,by rw [Fd];omega,by rw [Vp];rfl⟩,bu s,fun j hj=>by omega⟩
theorem j2 {s:Str} {k p:Nat} (h:Q7 s k p):k≤(C0 s).length:=by
 refine H1 fun hn=>?_
 obtain ⟨it,hit,_⟩:=h.2.2 (C0 s).length (by omega)
 rw [Fs (An _)] at hit
 cases hit
theorem j3 {s:Str} {k p:Nat} (h:Q7 s k p) (hp:s.length≤p):k=(C0 s).length∧∀it∈C0 s,it.2=0:=by
 have hl:=j2 h
 obtain ⟨⟨f,_,hd⟩,_,h0⟩:=h
 have e:s.drop p=[]:=by rw [aa];exact hp
 rw [e] at hd
 have:(C0 s).drop k=[]:=by rw [hd];cases f<;>rfl
 rw [aa] at this
 have hk:k=(C0 s).length:=by omega
 refine ⟨hk,fun it hit=>?_⟩
 obtain ⟨j,hj,rfl⟩:=List.mem_iff_getElem.1 hit
 obtain ⟨it',h1,h2⟩:=h0 j (by omega)
 rw [Al hj] at h1
 injection h1 with h1
 rw [h1];exact h2
theorem Sl {s:Str} {k p:Nat} (h:Q7 s k p) (hp:p<s.length):∃f,(s.drop p).length<f+1∧(C0 s).drop k=H7 (f+1) p (s.drop p)∧s.drop p≠[]:=by
 obtain ⟨⟨f,hf,hd⟩,_,_⟩:=h
 obtain ⟨g,rfl⟩:∃g,f=g+1:=⟨f-1,by omega⟩
 exact ⟨g,hf,hd,fun e=>by rw [aa] at e;omega⟩
theorem N2 {s:Str} {k p:Nat} (h:Q7 s k p) (hp:p<s.length):(C0 s)[k]? = some (⟨(wAt s p).1,(wAt s p).2.1,p⟩,(wAt s p).2.2.2):=by
 obtain ⟨f,_,hd,hne⟩:=Sl h hp
 rw [Lf hne] at hd
 have:=congrArg (·[0]?) hd
 unfold wAt
 simpa using this
theorem c6 {s:Str} {k p:Nat} (h:Q7 s k p) (hp:p<s.length) (he:(wAt s p).2.2.2=0):∃n:Nat,(wAt s p).2.2.1=(n:Int)∧1≤n∧p+n≤s.length∧Q7 s (k+1) (p+n+gapM (s.drop (p+n))):=by
 have hi:=N2 h hp
 obtain ⟨f,hf,hd,hne⟩:=Sl h hp
 obtain ⟨n,hn,h1,h2⟩:=dx (s:=s.drop p) (by rw [Fd];omega) he
 rw [Fd] at h2 hf
 have hg:=bu (s.drop (p+n))
 rw [Fd] at hg
 refine ⟨n,hn,h1,by omega,⟨f,by rw [Fd];omega,?_⟩,by omega,fun j hj=>?_⟩
 ·rw [Lf hne] at hd
  have:=congrArg (·.drop 1) hd
  simp only [Vo,ae,Vp] at this
  unfold wAt at he
  rw [this,hn,he]
  simp only [beq_self_eq_true,if_true,Int.toNat_natCast,Vo]
 rcases Bf j k with h'|h'
 ·exact h.2.2 j h'
 have:j=k:=by omega
 subst this
 exact ⟨_,hi,he⟩
theorem AAq (l:Nat) (s:Str) (hs:s.length≤1048576) (U F:Nat→List AObj) (hlen:∀k,(U k).length=(U 0).length) (hll:l<(U 0).length)
  (hy:∀k it,(C0 s)[k]? = some it→AYield Tryz.prog l [Iu it.1,A6 it.2] (U k) (fun b H'=>if it.2=0 then b=true∧H'=U (k+1) else b=false∧H'=F k)):ACall Tryz.prog 153 [.yield l,.ro [Ah s]] (U 0) (fun r H'=>((∀it∈C0 s,it.2=0)∧H'=U (C0 s).length)∨∃k it,(C0 s)[k]? = some it∧it.2≠0∧(∀j,j<k→∃it',(C0 s)[j]? = some it'∧it'.2=0)∧H'=F k):=by
 refine Aq [] [0,1] Tryz.func153 Tryz.ntmps153 (fun d=>?_)
 refine Z3 ?_;refine Ac Tryz.call154 (yx s hs _) ?_;refine A7 ?_;refine A2 [0,1,3] ?_
 refine Ff (α:=Nat×Nat) (fun x=>⟨44,Ao 0 (.yield l) (Ao 1 (.ro [Ah s]) (Ao 3 (A6 (x.2:Nat)) (fun _=>.any))),U x.1,[],[],none⟩) (fun x=>Q7 s x.1 x.2) (fun x=>s.length-x.2) (0,gapM s) (bx s) (Ov _) rfl (fun x hx=>?_)
 obtain ⟨k,p⟩:=x
 simp only at hx ⊢
 refine Z60 ?_;refine A2 [0,1,3,13] ?_
 refine A4 (fun ht13=>?_) (fun ht13=>?_)
 ·have hpl:p<s.length:=by simpa using ht13
  refine Z9 ?_;refine Z27 ?_;refine Z1 ?_
  refine A7 (h:=Q.scutL p (fun _=>hx.2.1) (fun _=>An _)) (hr:=?_)
  refine Ac Tryz.call155 (AAp (s.drop p) (by rw [Fd];omega) (by rw [Fd];omega) _) ?_
  refine Z64 ?_;refine Qq ?_;refine A2 [0,1,3,4,5,6,7] ?_;refine Z60 ?_;refine ij ?_;refine A7 ?_;refine R.yield0 (hy k _ (N2 hx hpl)) ?_
  intro b V hV hb
  refine Z0 ?_;refine b7 ?_;refine A2 [0,1,3,6,40] ?_
  refine A4 (fun ht40=>?_) (fun ht40=>?_)
  ·have hbe:(C3 (s.drop p)).2.2.2≠0∧V=F k:=by
    split at hb
    ·rename_i h0
     obtain ⟨rfl,_⟩:=hb
     have h0':(C3 (s.drop p)).2.2.2=0:=h0
     simp [h0'] at ht40
    rename_i h0
    exact ⟨h0,hb.2⟩
   refine Z69 ?_;refine Z65 ?_;exact A5 .nores (hp:=.inr ⟨k,_,N2 hx hpl,hbe.1,hx.2.2,hbe.2⟩)
  have hbe:(C3 (s.drop p)).2.2.2=0∧V=U (k+1):=by
   split at hb
   ·rename_i h0
    exact ⟨h0,hb.2⟩
   obtain ⟨rfl,_⟩:=hb
   simp at ht40
  obtain ⟨n,hn,hn1,hnl,hnx⟩:=c6 hx hpl hbe.1
  unfold wAt at hn
  rw [hn]
  have hgl:=bu (s.drop (p+n))
  rw [Fd] at hgl
  refine Z9 ?_;refine Z31 ?_;refine Z0 ?_;refine A2 [0,1,3] ?_;refine Z16 ?_;refine Z55 ?_
  refine A7 (h:=Q.scutL (p+n) (fun _=>hnl) (fun _=>An _)) (hr:=?_)
  refine Ac Tryz.call154 (yx (s.drop (p+n)) (by rw [Fd];omega) _) ?_
  refine Z0 ?_;refine A2 [0,1,3] ?_;exact Ct (k+1,p+n+gapM (s.drop (p+n))) hnx (by show s.length-_<s.length-p;omega) (Im (by rw [hbe.2];simp))
 have hpl:s.length≤p:=by simpa using ht13
 obtain ⟨hk,hz⟩:=j3 hx hpl
 refine Z95 ?_;refine K.lpE ?_;exact L9 .nores (hp:=.inl ⟨hz,by rw [hk]⟩)

theorem AAr (s:Str) (Hp:List AObj):AFun Tryz.prog 113 [Ah s] Hp (.fn (.func 153) [] [.ro [Ah s]]):=by
 refine Aq [.tmp 2] [0] Tryz.func113 Tryz.ntmps113 (fun d=>?_)
 refine Z93 ?_;refine Ey ?_;refine H2 ?_;refine A7 ?_;exact Z86

def Dn (s:Str):List Tok×Int×Nat:=if 4000<s.length then ([],3,0) else
 match (C0 s).find? (fun it=>it.2 != 0) with
 | some it=>([],it.2,it.1.at_)
 | none=>((C0 s).map (·.1)++[⟨0,[],s.length⟩],0,0)
theorem qq {s:Str} {k:Nat} {it:Tok×Int} (hit:(C0 s)[k]? = some it) (he:it.2≠0) (h0:∀j,j<k→∃it',(C0 s)[j]? = some it'∧it'.2=0):(C0 s).find? (fun it=>it.2 != 0)=some it:=by
 rw [l8]
 obtain ⟨hk,e⟩:=Ae.1 hit
 refine ⟨by simpa using he,k,hk,e,fun j hj=>?_⟩
 obtain ⟨it',h1,h2⟩:=h0 j hj
 rw [Al (by omega)] at h1
 injection h1 with h1
 rw [h1,h2];rfl
theorem mv {s:Str} (h:∀it∈C0 s,it.2=0):(C0 s).find? (fun it=>it.2 != 0)=none:=by
 rw [Jw]
 intro it hit
 simp [h it hit]
def Uu (s:Str) (k:Nat):Int×Nat:=match (C0 s)[k]? with|some it=>(it.2,it.1.at_)|none=>(0,0)
theorem Sm:∀(f k:Nat) (s:Str),(H7 f k s).length≤f
 | 0,_,_=>Bk _
 | f+1,k,s=>by
  rw [H7]
  split
  ·exact Bk _
  rw [Ay]
  split
  ·have:=Sm f (k+(C3 s).2.2.1.toNat+gapM (s.drop (C3 s).2.2.1.toNat)) ((s.drop (C3 s).2.2.1.toNat).drop (gapM (s.drop (C3 s).2.2.1.toNat)))
   omega
  simp
theorem Sn (s:Str):(C0 s).length≤s.length+1:=Sm _ _ _
def Jl (s:Str) (k:Nat):List Tok:=((C0 s).take k).map (·.1)
theorem Pb (s:Str) (k:Nat):(Jl s k).length≤s.length+1:=by
 have:=Sn s
 unfold Jl
 rw [Bp,Ic]
 omega
theorem c7 {s:Str} {k:Nat} {it:Tok×Int} (hit:(C0 s)[k]? = some it):Jl s (k+1)=Jl s k++[it.1]:=by
 unfold Jl
 rw [List.take_succ,hit,G7]
 rfl
theorem j4 (s:Str):Jl s (C0 s).length=(C0 s).map (·.1):=by unfold Jl;rw [Nn]
theorem j5 {s:Str} {k:Nat} {it:Tok×Int} (hl4:¬4000<s.length) (hit:(C0 s)[k]? = some it) (he:it.2≠0) (h0:∀j,j<k→∃it',(C0 s)[j]? = some it'∧it'.2=0):Dn s=([],it.2,it.1.at_):=by
 unfold Dn
 rw [if_neg hl4,qq hit he h0]
theorem mw {s:Str} (hl4:¬4000<s.length) (hz:∀it∈C0 s,it.2=0):Dn s=(Jl s (C0 s).length++[⟨0,[],s.length⟩],0,0):=by
 unfold Dn
 rw [if_neg hl4,mv hz,j4]
theorem c71 (s:Str) (hs:s.length≤1048576) (Hp:List AObj):AFun Tryz.prog 71 [Ah s] Hp (.tup [mt (Dn s).1,.agg [A6 (Dn s).2.1,A6 (Dn s).2.2]]):=by
 refine Aq [.cell 2 107,.cell 3 69] [0,5,6] Tryz.func71 Tryz.ntmps71 (fun d=>?_)
 refine Z26 ?_;refine Ij jZ ?_;refine A2 [0,2,3,5,6] ?_;refine Z39 ?_;refine A2 [0,2,3,5,6,9] ?_
 refine A4 (fun ht9=>?_) (fun ht9=>?_)
 ·have hlm:Dn s=([],3,0):=by unfold Dn;rw [if_pos (by simp at ht9;omega)]
  refine Ey ?_;refine xt ?_;refine R.nilOwn 0 3 ?_;refine gy ?_;refine Cp ?_;exact A5 (Ab (V.cell jA) (Ai jA jS)) ⟨by rw [hlm];rfl,rfl⟩
 have hl4:¬4000<s.length:=by simp at ht9;omega
 refine Z9 ?_;refine Z26 ?_;refine A2 [0,2,3,4,5,6] ?_;refine Z96 ?_;refine R.nilOwn 2 3 ?_;refine A7 ?_;refine Ac Tryz.call113 (AAr s _) ?_;refine A2 [0,2,3,4,5,6,12] ?_;refine I5 ?_
 refine My (m:=3) Tryz.call153 (fun FR as' bd' hFR has hbd=>?_)
 refine ⟨_,AAq (oid Hp.length 4) s hs (fun k=>Hp++[AObj.cells 107 [AV.nil],AObj.cells 69 [A6 0,A6 0],AObj.cells 107 [AV.slice true 3 ((Jl s k).map Iu)],AObj.defs,AObj.loop LoopState.ready none FR 32 #[13,14] as' bd' (oid Hp.length 3)]) (fun k=>Hp++[AObj.cells 107 [AV.nil],AObj.cells 69 [A6 (Uu s k).1,A6 (Uu s k).2],AObj.cells 107 [AV.slice true 3 ((Jl s k).map Iu)],AObj.defs,AObj.loop LoopState.done (some Code.ret) FR 32 #[13,14] as' bd' (oid Hp.length 3)]) (fun k=>by simp) (by simp [oid]) (fun k it hit=>?_),?_⟩
 ·generalize hV:Hp++[AObj.cells 107 [AV.nil],AObj.cells 69 [A6 0,A6 0],AObj.cells 107 [AV.slice true 3 ((Jl s k).map Iu)],AObj.defs,AObj.loop LoopState.ready none FR 32 #[13,14] as' bd' (oid Hp.length 3)]=V
  have hL:V[oid Hp.length 4]? = some (AObj.loop LoopState.ready none FR 32 #[13,14] as' bd' (oid Hp.length 3)):=by rw [←hV,Bl];rfl
  have hA0:V[oid Hp.length 2]? = some (AObj.cells 107 [AV.slice true 3 ((Jl s k).map Iu)]):=by rw [←hV,Bl];rfl
  have hB0:V[oid Hp.length 0]? = some (AObj.cells 107 [AV.nil]):=by rw [←hV,Bl];rfl
  have hC0:V[oid Hp.length 1]? = some (AObj.cells 69 [A6 0,A6 0]):=by rw [←hV,Bl];rfl
  refine Ms (pd:=none) (fr:=FR) (sz:=32) (ps:=#[13,14]) (df:=oid Hp.length 3) (asg:=as') (bd:=bd') hL rfl (by decide) (fun d=>?_)
  subst hFR has hbd
  refine G9 [2,3,4,13,14] ?_;refine i8 ?_;refine A2 [2,3,4,5,14] ?_;refine Z97 ?_;refine A2 [2,3,4,5,6] ?_
  refine ⟨rfl,none,hL,?_⟩
  generalize hbz:(AObj.loop LoopState.busy _ _ _ _ _ _ _)=bz
  have hA:(V.set (oid Hp.length 4) bz)[oid Hp.length 2]? = some (AObj.cells 107 [AV.slice true 3 ((Jl s k).map Iu)]):=by rw [El (Dr (by decide))];exact hA0
  have hB:(V.set (oid Hp.length 4) bz)[oid Hp.length 0]? = some (AObj.cells 107 [AV.nil]):=by rw [El (Dr (by decide))];exact hB0
  have hC:(V.set (oid Hp.length 4) bz)[oid Hp.length 1]? = some (AObj.cells 69 [A6 0,A6 0]):=by rw [El (Dr (by decide))];exact hC0
  refine I5 ?_;refine Z32 ?_;refine A2 [2,3,4,5,6,16] ?_
  refine A4 (fun ht16=>?_) (fun ht16=>?_)
  ·have hne:it.2≠0:=by simpa using ht16
   refine H4 [0,0,2,7,0,31] [4] [.q 4 [] [],.s [] (some 0) [] []] (fun _=>V.set (oid Hp.length 4) bz) (fun _=>[AObj.cells 113 [A6 it.1.kind,Ah it.1.text,A6 it.1.at_]]) Aw (by kernel_rfl) rfl rfl (fun _=>rfl) ?_
   apply Y.q
   ·intro B hT hF
    refine Z33 ?_;exact Z89
   case hTF=>decide
   refine Y.storeUp (o:=oid Hp.length 0) (ys:=[.nil]) (t':=107) (cs:=[AV.nil]) (cs':=[AV.nil]) jS (fun _ _=>⟨hB,(Ho hB).symm,rfl,by simp⟩) ?_;refine H5 (tn:=[4]) (U:=V.set (oid Hp.length 4) bz) ?_
   refine H3 jS hC ?_ ?_
   ·simp
   refine A2 [] ?_;refine Z69 ?_;refine K.blR ?_
   subst hbz
   refine K.rdR (Xv hL (Dr (by decide))) ?_
   rw [if_neg hne]
   refine ⟨rfl,?_⟩
   subst hV
   simp only [Fl,List.set_cons_succ,List.set_cons_zero]
   rw [show Uu s k=(it.2,it.1.at_) by unfold Uu;rw [hit]]
  have heq:it.2=0:=by simpa using ht16
  refine Z9 ?_;refine If ?_
  have hl3:=Pb s k
  refine R.loadUpT jA hA ?_;refine A7 ?_;refine S5 ?_
  refine P3 jU Tryz.type113 ?_ ?_ ?_
  ·simp [hl3,Tryz.t113];omega
  ·simp [hl3,Tryz.t113];omega
  refine au jS (Ar hA) ?_ ?_
  ·simp [or_imp,forall_and]
  refine ax ?_
  subst hbz
  refine ur ?_
  rw [if_pos heq]
  refine ⟨rfl,?_⟩
  subst hV
  simp only [Fl,List.set_cons_succ,List.set_cons_zero]
  rw [c7 hit,G7]
  rfl
 rintro r H' (⟨hz,rfl⟩|⟨k,it,hit,hne,h0,rfl⟩)
 ·refine ⟨Hp,_,_,_,rfl,rfl,fun h=>h,?_,rfl,by simp,?_⟩
  ·intro o ho
   have:o=oid Hp.length 3:=by simpa using ho
   subst this
   rw [Bl]
   rfl
  refine Z16 ?_;refine Ey ?_;refine R.loadOwnT jA ?_;refine Z0 ?_;refine ij ?_;refine S5 ?_
  refine P3 jU Tryz.type113 ?_ ?_ ?_
  ·have:=Pb s (C0 s).length;simp [Tryz.t113];omega
  ·have:=Pb s (C0 s).length;simp [Tryz.t113];omega
  refine ik ?_;refine R.storeOwnT jS ?_;refine gy ?_;exact A5 (Ab (V.cell jA) (Ai jA jS)) ⟨by rw [mw hl4 hz,mt,G7];rfl,rfl⟩ (hlow:=by simp [or_imp,forall_and])
 refine ⟨Hp,_,_,_,rfl,rfl,fun h=>h,?_,rfl,by simp,?_⟩
 ·intro o ho
  have:o=oid Hp.length 3:=by simpa using ho
  subst this
  rw [Bl]
  rfl
 refine W.nilOwn 0 3 ?_;refine Hi ?_;refine Z5 ?_;exact A5 (Ab (V.cell jA) (Ai jA jS)) ⟨by rw [j5 hl4 hit hne h0,show Uu s k=(it.2,it.1.at_) by unfold Uu;rw [hit]];rfl,rfl⟩

inductive Expr where
 | mk (op:Int) (text:Str) (val:Val) (kids:List Expr)
def Expr.op:Expr→Int|.mk o _ _ _=>o
def Expr.text:Expr→Str|.mk _ t _ _=>t
def Expr.val:Expr→Val|.mk _ _ v _=>v
def Expr.kids:Expr→List Expr|.mk _ _ _ k=>k
mutual
def Aa:Expr→AV
 | .mk o t v k=>.agg [.v (.int .i64 o),.v (sv t),.v (.int .i64 v.kind),.v (.int .i64 v.n),.v (sv v.s),.slice false 6 (Pc k)]
def Pc:List Expr→List AV
  | []=>[]
  | e::r=>Aa e::Pc r
 end
theorem So:∀l,Pc l=l.map Aa
 | []=>rfl
 | e::r=>by rw [Pc,So r];rfl
theorem Ad (e:Expr):Aa e=.agg [.v (.int .i64 e.op),.v (sv e.text),.v (.int .i64 e.val.kind),.v (.int .i64 e.val.n),.v (sv e.val.s),.slice false 6 (e.kids.map Aa)]:=by
 cases e with
 | mk o t v k=>rw [Aa,So];rfl
attribute [go_sem] Ad
def Ly:Str:=[32,111,114,32,32,97,110,100,32,32,61,32,33,61,32,60,32,60,61,32,62,32,62,61,32,32,43,32,45,32,38,32,32,42,32,47,32,37,32]
def Kl (v:Val):Bool:=v.kind==0&&v.n==0&&v.s==[]
def C1 (e:Expr):Bool:=
 if e.op==1 then ((C9 e.val&&decide (0≤e.val.n))&&(e.text==[]))&&((e.kids.length:Int)==0)
 else if e.op==2 then (Kl e.val&&Dx e.text)&&((e.kids.length:Int)==0)
 else if e.op==3 || e.op==4 then (Kl e.val&&(e.text==[]))&&((e.kids.length:Int)==1)
 else if e.op==5 then (Kl e.val&&Lx e.text Ly)&&((e.kids.length:Int)==2)
 else if e.op==6 then Kl e.val&&(Bx e.text==(e.kids.length:Int))
 else false
theorem c78 (e:Expr) (hs:e.text.length≤1048576) (Hp:List AObj):AFun Tryz.prog 78 [Aa e] Hp (B8 (C1 e)):=by
 refine ACall.body [.tmp 2] [0] Tryz.func78 Tryz.ntmps78 (fun d=>?_)
 refine Z93 ?_;refine Z1 ?_;refine ij ?_
 refine R.go (h:=Q.eqlAgg Wk (I6 e.val.kind e.val.n 0 0 e.val.s [])) (hr:=?_)
 refine R.go ?_;refine R.fin [1,3] ?_;refine Z32 ?_;refine R.fin [1,3,9] ?_;refine Z88 ?_;refine R.fin [1,3,9,10] ?_
 refine W.cond (fun ht10=>?_) (fun ht10=>?_)
 ·refine Z1 ?_;refine R.call Tryz.call37 (c37 e.val _) ?_;refine R.go ?_;refine Xw ?_;refine Z56 ?_;exact gz
 refine Z1 ?_;refine R.fin [1,3,9,32] ?_
 refine W.cond (fun ht32=>?_) (fun ht32=>?_)
 ·refine Z1 ?_;refine Z12 ?_;refine G.call Tryz.call40 (fun hB=>c40 e.text hs _) ?_;refine Z0 ?_;exact gz
 refine Z32 ?_;refine R.fin [1,3,9,46] ?_
 refine W.cond (fun ht46=>?_) (fun ht46=>?_)
 ·refine Z9 ?_
  refine W.cond (fun ht46=>?_) (fun ht46=>?_)
  ·refine Z1 ?_;refine Z56 ?_;exact gz
  refine Z1 ?_;refine R.fin [1,3,9,61] ?_
  refine W.cond (fun ht61=>?_) (fun ht61=>?_)
  ·refine Z1 ?_;refine xu ?_;refine Z0 ?_;exact gz
  refine Z1 ?_;refine R.fin [1,3,75] ?_
  refine W.cond (fun ht75=>?_) (fun ht75=>?_)
  ·refine xj ?_;refine Z72 ?_;refine H.call Tryz.call126 (fun hB=>vd e.text _) ?_;refine Z72 ?_;refine H.go ?_;refine D.tail ?_;refine Z35 ?_;exact ul
  refine Z22 ?_;exact xb
 refine Z31 ?_;refine R.fin [1,3,9,46] ?_;refine K.thN ?_
 refine W.cond (fun ht46=>?_) (fun ht46=>?_)
 ·refine Z1 ?_;refine Z56 ?_;exact gz
 refine Z1 ?_;refine R.fin [1,3,9,61] ?_
 refine W.cond (fun ht61=>?_) (fun ht61=>?_)
 ·refine Z1 ?_;refine xu ?_;refine Z0 ?_;exact gz
 refine Z1 ?_;refine R.fin [1,3,75] ?_
 refine W.cond (fun ht75=>?_) (fun ht75=>?_)
 ·refine xj ?_;refine Z72 ?_;refine H.call Tryz.call126 (fun hB=>vd e.text _) ?_;refine Z72 ?_;refine H.go ?_;refine D.tail ?_;refine Z35 ?_;exact ul
 refine Z22 ?_;exact xb

mutual
def B1 (d:Int):Expr→List (Int×Expr)
 | .mk o t v k=>(d,.mk o t v k)::Bc (d+1) k
def Bc (d:Int):List Expr→List (Int×Expr)
  | []=>[]
  | e::r=>B1 d e++Bc d r
 end
theorem H8 (d:Int) (e:Expr):B1 d e=(d,e)::Bc (d+1) e.kids:=by cases e;rfl
theorem Jd (d:Int):∀a b,Bc d (a++b)=Bc d a++Bc d b
 | [],b=>rfl
 | e::r,b=>by rw [E0,Bc,Bc,Jd d r b,Bt]
theorem Ya (d:Int) (l:List Expr) {x:Nat} (h:x<l.length):Bc d (l.take (x+1))=Bc d (l.take x)++B1 d l[x]:=by
 rw [Ix h,Jd]
 simp [Bc]
theorem Ny (d:Int) (l:List Expr) {x:Nat} (h:x<l.length):Bc d l=Bc d (l.take x)++(B1 d l[x]++Bc d (l.drop (x+1))):=by
 have e:l=l.take x++(l[x]::l.drop (x+1)):=by rw [←Kr h,dh]
 conv=>lhs;rw [e]
 rw [Jd,Bc]
mutual
def sizeE:Expr→Nat
 | .mk _ _ _ k=>1+C2 k
def C2:List Expr→Nat
  | []=>0
  | e::r=>sizeE e+C2 r
 end
theorem Fi (e:Expr):sizeE e=1+C2 e.kids:=by cases e;rfl
theorem Lz:∀(l:List Expr) {x:Nat} (h:x<l.length),sizeE l[x]≤C2 l
 | e::r,0,_=>by simp only [List.getElem_cons_zero,C2];omega
 | e::r,x+1,h=>by
  have:=Lz r (x:=x) (by simpa using h)
  simp only [List.getElem_cons_succ,C2]
  omega
theorem Yb (e:Expr) {x:Nat} (h:x<e.kids.length):sizeE e.kids[x]+1≤sizeE e:=by
 have:=Lz e.kids h
 rw [Fi e]
 omega
/-- Each node has few kids. -/
def okE:Nat→Expr→Prop
 | 0,_=>False
 | n+1,e=>e.text.length≤1048576∧e.kids.length≤1048576∧∀y∈e.kids,okE n y
/-- Who takes what a tree yields: item k is taken at U k; it goes on (go k) to U (k + 1), or ends at F k. Behind U k there may stand others' objects. -/
structure Takes (P:Program) (l:Nat) (L:List (Int×Expr)) (go:Nat→Bool) (U F:Nat→List AObj) (n0:Nat):Prop where
 lenU:∀k,(U k).length=n0
 lenF:∀k,(F k).length=n0
 lowU:∀k,∀x∈U k,ObjLow n0 x
 lowF:∀k,∀x∈F k,ObjLow n0 x
 lt:l<n0
 y:∀(X:List AObj) (k:Nat) (it:Int×Expr),L[k]? = some it→(∀j,j<k→go j=true)→AYield P l [A6 it.1,Aa it.2] (U k++X) (fun b H'=>b=go k∧H'=(if go k then U (k+1) else F k)++X)
theorem ObjLow.le {m m':Nat} (h:m≤m') {x:AObj} (hx:ObjLow m x):ObjLow m' x:=by
 cases x with
 | cells t cs=>exact fun y hy=>(hx y hy).mono h
 | loop s pd fr sz ps as' bd df=>exact ⟨fun s=>(hx.1 s).mono h,Fa hx.2 h⟩
 | defs=>trivial
 | dead=>trivial
 | bld _ _ _=>trivial
 | gone=>trivial
/-- What the walk over n items from k0 on tz to. -/
def Yc (go:Nat→Bool) (U F:Nat→List AObj) (k0 n:Nat) (X:List AObj):AV→List AObj→Prop:=fun r H' =>
 ((∀j,j<n→go (k0+j)=true)∧r=B8 true∧H'=U (k0+n)++X)∨(∃j,j<n∧(∀i,i<j→go (k0+i)=true)∧go (k0+j)=false∧r=B8 false∧H'=F (k0+j)++X)
mutual
theorem Ag (m:Nat):∀e,Low m (Aa e)
 | .mk o t v k=>by
  rw [Aa]
  refine .agg _ fun y hy=>?_
  simp only [By,Ha,or_false] at hy
  rcases hy with rfl|rfl|rfl|rfl|rfl|rfl
  ·exact .v _
  ·exact .v _
  ·exact .v _
  ·exact .v _
  ·exact .v _
  exact low_slice.2 (Sp m k)
theorem Sp (m:Nat):∀l,∀y∈Pc l,Low m y
  | [],y,hy=>by cases hy
  | e::r,y,hy=>by
    rw [Pc] at hy
    rcases By.1 hy with rfl|h
    · exact Ag m e
    exact Sp m r y h
 end
theorem Nz {V O A B own:List AObj} (h:V++O=A++(B++own)) (hl:V.length=(A++B).length):V=A++B∧O=own:=by
 rw [←Bt] at h
 exact Zx h hl
theorem M0 {m:Nat} {A X:List AObj} (hA:∀x∈A,ObjLow m x) (hX:∀x∈X,ObjLow m x):∀x∈A++X,ObjLow m x:=fun x hx=>by
 rcases Dy.1 hx with h|h
 ·exact hA x h
 exact hX x h
theorem ca {P:Program} {l:Nat} {L:List (Int×Expr)} {go:Nat→Bool} {U F:Nat→List AObj} {n0 k n K:Nat} {X own V O:List AObj} {r:AV} (T:Takes P l L go U F n0) (hV:V.length=(U K++X).length) (hp:Yc go U F k n (X++own) r (V++O)):
  ∃b,r=B8 b∧O=own∧(if b then (∀j,j<n→go (k+j)=true)∧V=U (k+n)++X else ∃j,j<n∧(∀i,i<j→go (k+i)=true)∧go (k+j)=false∧V=F (k+j)++X)∧((∀x∈U K++X,ObjLow V.length x)→∀x∈V,ObjLow V.length x):=by
 have hn:n0≤V.length:=by rw [hV,As,T.lenU];omega
 rcases hp with ⟨h1,h2,h3⟩|⟨j,hj,h1,h2,h3,h4⟩
 ·obtain ⟨e1,e2⟩:=Nz h3 (by rw [hV];simp [T.lenU])
  refine ⟨true,h2,e2,⟨h1,e1⟩,fun h=>?_⟩
  rw [e1] at h ⊢
  exact M0 (fun x hx=>ObjLow.le (by rw [As,T.lenU];omega) (T.lowU _ x hx)) (fun x hx=>h x (Nk _ hx))
 obtain ⟨e1,e2⟩:=Nz h4 (by rw [hV];simp [T.lenU,T.lenF])
 refine ⟨false,h3,e2,⟨j,hj,h1,h2,e1⟩,fun h=>?_⟩
 rw [e1] at h ⊢
 exact M0 (fun x hx=>ObjLow.le (by rw [As,T.lenF];omega) (T.lowF _ x hx)) (fun x hx=>h x (Nk _ hx))
theorem Yd (d:Int) (l:List Expr) {x:Nat} (h:x<l.length):(Bc d (l.take (x+1))).length=(Bc d (l.take x)).length+(B1 d l[x]).length:=by rw [Ya d l h,As]
theorem mx {d0:Int} {e:Expr} {x:Nat} (h:x<e.kids.length) {j:Nat} {it:Int×Expr} (hj:(B1 (d0+1) e.kids[x])[j]? = some it):(B1 d0 e)[1+(Bc (d0+1) (e.kids.take x)).length+j]? = some it:=by
 rw [H8 d0 e,show 1+(Bc (d0+1) (e.kids.take x)).length+j=((Bc (d0+1) (e.kids.take x)).length+j)+1 by omega,Ot,Ny (d0+1) e.kids h,Da (by omega)]
 rw [show (Bc (d0+1) (e.kids.take x)).length+j-(Bc (d0+1) (e.kids.take x)).length=j by omega,D0 (Ae.1 hj).1]
 exact hj
theorem j6 (d0:Int) (e:Expr) {x:Nat} (h:x<e.kids.length):1+(Bc (d0+1) (e.kids.take x)).length+(B1 (d0+1) e.kids[x]).length≤(B1 d0 e).length:=by
 rw [H8 d0 e,Ay,Ny (d0+1) e.kids h]
 simp only [As]
 omega
theorem AAs {l:Nat} {L:List (Int×Expr)} {go:Nat→Bool} {U F:Nat→List AObj} {n0:Nat} (T:Takes Tryz.prog l L go U F n0):∀(n:Nat) (e:Expr),okE n e→∀(d0:Int) (k0:Nat) (X:List AObj),0≤d0→d0+n≤1099511627776→(∀(j:Nat) (it:Int×Expr),(B1 d0 e)[j]? = some it→L[k0+j]? = some it)→(∀j,j<k0→go j=true)→ACall Tryz.prog 124 [Aa e,A6 d0,.yield l] (U k0++X) (Yc go U F k0 (B1 d0 e).length X):=by
 intro n
 induction n with
 | zero=>exact fun e h=>h.elim
 | succ n ih =>
 intro e hok d0 k0 X hd hdn hit hgo
 have hlen0:(U k0++X).length=n0+X.length:=by rw [As,T.lenU]
 refine Aq [.tmp 6] [0,1,2] Tryz.func124 Tryz.ntmps124 (fun d=>?_)
 refine Z1 ?_;refine A2 [1,2,3] ?_;refine Z39 ?_
 refine R.yield0 (T.y X k0 (d0,e) (hit 0 _ (by rw [H8];rfl)) hgo) ?_
 intro b Vv hV hb
 refine A7 ?_;refine A2 [1,2,3,13] ?_
 refine A4 (fun ht13=>?_) (fun ht13=>?_)
 ·have hb':b=false:=by simpa using ht13
  subst hb'
  refine Z3 ?_;refine A2 [6] ?_;refine Z69 ?_;exact A5 (Ap A3) (Or.inr ⟨0,by rw [H8];simp,fun i hi=>by omega,hb.1.symm,rfl,by have:=hb.2;rw [show go k0=false from hb.1.symm] at this;exact this⟩)
 have hb':b=true:=by simpa using ht13
 subst hb'
 have hgo0:go (k0+0)=true:=hb.1.symm
 have hVe:Vv=U (k0+1)++X:=by have:=hb.2;rw [show go k0=true from hb.1.symm] at this;exact this
 subst hVe
 have h0x:0≤e.kids.length∧∀j,j<1+(Bc (d0+1) (e.kids.take 0)).length→go (k0+j)=true:=⟨Bk _,fun j hj=>by
  have:j=0:=by simp [Bc] at hj;omega
  subst this
  exact hgo0⟩
 refine Z9 ?_;refine Z60 ?_;refine A2 [1,2,15,16,17] ?_
 refine Ff (α:=Nat) (fun x=>⟨28,Ao 1 (A6 d0) (Ao 2 (.yield l) (Ao 15 (.slice false 6 (e.kids.map Aa)) (Ao 16 (A6 e.kids.length) (Ao 17 (A6 (x:Nat)) (fun _=>.any))))),U (k0+(1+(Bc (d0+1) (e.kids.take x)).length))++X,[],[],none⟩) (fun x=>x≤e.kids.length∧∀j,j<1+(Bc (d0+1) (e.kids.take x)).length→go (k0+j)=true) (fun x=>e.kids.length-x) (0) h0x (E9 (by simp [Bc])) rfl (fun x hx=>?_)
 refine Z3 ?_;refine A2 [1,2,15,16,17,18] ?_
 refine Gp (fun ht18=>?_) (fun ht18=>?_)
 ·have hlt:x<e.kids.length:=by simpa using ht18
  have hkl:=hok.2.1
  refine b6 ?_
  refine A7 (h:=Ax (x) (Aa e.kids[x]) (fun _=>Cu hlt)) (hr:=?_)
  refine A7 ?_;refine Z21 ?_;refine A2 [1,2,8,15,16,17] ?_;refine Z17 ?_
  refine R.callG Tryz.call124 (args:=[Aa e.kids[x],A6 (d0+1),.yield l]) (by rw [Bt];exact ih e.kids[x] (hok.2.2 _ (Db hlt)) (d0+1) (k0+(1+(Bc (d0+1) (e.kids.take x)).length)) (X++_) (by omega) (by omega) (fun j it hj=>by have:=hit _ it (mx hlt hj);rwa [←Iy] at this) (fun j hj=>by rcases Bf j k0 with h|h;exact hgo j h;have:=hx.2 (j-k0) (by omega);rwa [show k0+(j-k0)=j by omega] at this)) ?_
  intro r Vv O hV hp
  obtain ⟨b,rfl,rfl,hc,hlowV⟩:=ca T hV hp
  refine ⟨hlowV,fun o ho=>by simp at ho,?_⟩
  refine A7 ?_;refine A2 [1,2,15,16,17,26] ?_
  refine A4 (fun ht26=>?_) (fun ht26=>?_)
  ·have hb':b=false:=by simpa using ht26
   subst hb'
   obtain ⟨j,hj,h1,h2,h3⟩:=hc
   refine Z3 ?_;refine A2 [6] ?_;refine Hi ?_;refine We ?_
   have hil:=j6 d0 e hlt
   refine A5 (Ap A3) (Or.inr ⟨1+(Bc (d0+1) (e.kids.take x)).length+j,by omega,fun i hi=>?_,by rwa [Iy] at h2,rfl,by rwa [Iy] at h3⟩)
   rcases Bf i (1+(Bc (d0+1) (e.kids.take x)).length) with h|h
   ·exact hx.2 i h
   have:=h1 (i-(1+(Bc (d0+1) (e.kids.take x)).length)) (by omega)
   rwa [show k0+(1+(Bc (d0+1) (e.kids.take x)).length)+(i-(1+(Bc (d0+1) (e.kids.take x)).length))=k0+i by omega] at this
  have hb':b=true:=by simpa using ht26
  subst hb'
  obtain ⟨h1,h3⟩:=hc
  refine U2 ?_;refine A2 [1,2,15,16,17] ?_
  subst h3
  have hll:=Yd (d0+1) e.kids hlt
  have e1:k0+(1+(Bc (d0+1) (e.kids.take (x+1))).length)=k0+(1+(Bc (d0+1) (e.kids.take x)).length)+(B1 (d0+1) e.kids[x]).length:=by omega
  refine Ct (x+1) ⟨hlt,fun j hj=>?_⟩ (by omega) ?_
  ·rcases Bf j (1+(Bc (d0+1) (e.kids.take x)).length) with h|h
   ·exact hx.2 j h
   have:=h1 (j-(1+(Bc (d0+1) (e.kids.take x)).length)) (by omega)
   rwa [show k0+(1+(Bc (d0+1) (e.kids.take x)).length)+(j-(1+(Bc (d0+1) (e.kids.take x)).length))=k0+j by omega] at this
  simp only [e1]
  exact Es (own:=[]) (fun _=>.refl _) (by repeat (first|exact C6|refine C5 (by first|(simp [Ag];done)|(have:=T.lt;simp [T.lenU];omega)) ?_)) (by simp) (by simp)
 have hxe:e.kids.take x=e.kids:=G5 (by simp at ht18;omega)
 refine Z58 ?_;refine Z3 ?_;refine A2 [6] ?_;refine Hi ?_
 have hl2:(B1 d0 e).length=1+(Bc (d0+1) (e.kids.take x)).length:=by rw [H8,hxe,Ay];omega
 exact A5 (Ap A3) (Or.inl ⟨fun j hj=>hx.2 j (by omega),rfl,by rw [hl2]⟩)

def Wr:=@ObjLow.le
abbrev Bg (e:Expr):List AV:=[.v (.int .i64 e.op),.v (sv e.text),.v (.int .i64 e.val.kind),.v (.int .i64 e.val.n),.v (sv e.val.s),.slice false 6 (e.kids.map Aa)]
/-- What taking all of a tree tz to. -/
def Ip (go:Nat→Bool) (U F:Nat→List AObj) (n:Nat) (H':List AObj):Prop:=
 ((∀j,j<n→go j=true)∧H'=U n)∨(∃j,j<n∧(∀i,i<j→go i=true)∧go j=false∧H'=F j)
theorem qr {l:Nat} {e:Expr} {go:Nat→Bool} {U F:Nat→List AObj} {n0:Nat} (T:Takes Tryz.prog l (B1 1 e) go U F n0) (n:Nat) (hok:okE n e) (hn:n≤1048576):ACall Tryz.prog 123 [.yield l,.ro (Bg e)] (U 0) (fun r H'=>Ip go U F (B1 1 e).length H'):=by
 refine Aq [] [0,1] Tryz.func123 Tryz.ntmps123 (fun d=>?_)
 refine Z31 ?_;refine R.callG Tryz.call124 (args:=[Aa e,A6 1,.yield l]) (AAs T n e hok 1 0 [] (by omega) (by omega) (fun j it hj=>by rwa [Bu]) (fun j hj=>by omega)) ?_
 intro r Vv O hV hp
 have hO:O=[]:=by
  have h1:(Vv++O).length=n0:=by rcases hp with ⟨_,_,h⟩|⟨j,_,_,_,_,h⟩<;>rw [h]<;>simp [T.lenU,T.lenF]
  have h2:=T.lenU 0
  rw [As,hV,h2] at h1
  exact Oq (by omega)
 subst hO
 rw [Hu] at hp
 have hq:Ip go U F (B1 1 e).length Vv:=by
  rcases hp with ⟨h1,_,h⟩|⟨j,h1,h2,h3,_,h⟩
  ·exact .inl ⟨fun j hj=>by have:=h1 j hj;rwa [Bu] at this,by rw [h];simp⟩
  exact .inr ⟨j,h1,fun i hi=>by have:=h2 i hi;rwa [Bu] at this,by rwa [Bu] at h3,by rw [h];simp⟩
 refine ⟨fun h=>?_,fun o ho=>by simp at ho,?_⟩
 ·rcases hq with ⟨_,h⟩|⟨j,_,_,_,h⟩<;>rw [h]
  ·rw [T.lenU];exact T.lowU _
  rw [T.lenF];exact T.lowF _
 refine A2 [] ?_;exact L9 .nores (hp:=hq)

theorem c77 (e:Expr) (Hp:List AObj):AFun Tryz.prog 77 [Aa e] Hp (.fn (.func 123) [] [.ro (Bg e)]):=by
 refine Aq [.tmp 2] [0] Tryz.func77 Tryz.ntmps77 (fun d=>?_)
 refine Z93 ?_;refine Ey ?_;refine H2 ?_;refine A7 ?_;refine Z4 ?_;exact A5 (Ap A3) (hlow:=by have:=Ag Hp.length e;rw [Ad] at this;simpa using this)

def goM (e:Expr) (k:Nat):Bool:=match (B1 1 e)[k]? with
 | some it => !((!C1 it.2 || decide ((30:Int)<it.1)) || decide ((300:Int)<(k:Int)+1))
 | none=>true
def Au (e:Expr):Bool:=(List.range (B1 1 e).length).all (goM e)
mutual
theorem Uv:∀(n:Nat) (e:Expr),okE n e→∀d,∀it∈B1 d e,it.2.text.length≤1048576
 | 0,_,h,_,_,_=>h.elim
 | n+1,e,h,d,it,hit=>by
  rw [H8] at hit
  rcases By.1 hit with rfl|h'
  ·exact h.1
  exact Uw n e.kids h.2.2 (d+1) it h'
 termination_by n e=>(n,0)
theorem Uw:∀(n:Nat) (l:List Expr),(∀y∈l,okE n y)→∀d,∀it∈Bc d l,it.2.text.length≤1048576
  | n,[],_,_,_,h=>by cases h
  | n,e::r,h,d,it,hit=>by
    rw [Bc] at hit
    rcases Dy.1 hit with h'|h'
    · exact Uv n e (h e (by simp)) d it h'
    exact Uw n r (fun y hy=>h y (by simp [hy])) d it h'
  termination_by n l=>(n,l.length+1)
 end
theorem cb {U:List AObj} {i j:Nat} {x y:AObj} (h:U[i]? = some x) (hne:j≠i):(U.set j y)[i]? = some x:=by rw [El hne];exact h
theorem vj {e:Expr} {k:Nat} {it:Int×Expr} (hit:(B1 1 e)[k]? = some it) (h:∀j,j<k→goM e j=true):(k:Int)≤300:=by
 rcases Nat.eq_zero_or_pos k with h0|h0
 ·omega
 have hl:=(Ae.1 hit).1
 have:=h (k-1) (by omega)
 unfold goM at this
 rw [Al (by omega)] at this
 simp at this
 omega
theorem Ws {e:Expr} {k:Nat} {it:Int×Expr} (hit:(B1 1 e)[k]? = some it):goM e k = !((!C1 it.2 || decide ((30:Int)<it.1)) || decide ((300:Int)<(k:Int)+1)):=by
 unfold goM;rw [hit]
theorem c38 (n:Nat) (e:Expr) (hok:okE n e) (hn:n≤1048576) (Hp:List AObj):AFun Tryz.prog 38 [Aa e] Hp (B8 (Au e)):=by
 refine Aq [.cell 2 4] [0,4,5] Tryz.func38 Tryz.ntmps38 (fun d=>?_)
 refine mb ?_;refine A2 [1,2,4,5] ?_;refine i8 ?_;refine A2 [1,2,3,4,5] ?_;refine Z96 ?_
 refine Mx (fun hlow=>?_)
 refine qc ?_;refine A2 [2,3,4,5,7] ?_;refine I5 ?_
 refine My (m:=2) Tryz.call123 (fun FR as' bd' hFR has hbd=>?_)
 have hFRl:∀s,Low (Hp.length+4) (FR s):=by
  intro s
  rw [hFR]
  refine Ou ?_
  revert s
  repeat (first|exact C6|refine C5 (by simp [oid,Ag]<;>try omega) ?_)
 have hOl:∀{k:Nat},∀x∈[AObj.cells 4 [B8 false],AObj.cells 3 [A6 (k:Nat)],AObj.defs,AObj.loop LoopState.ready none FR 23 #[8,9] as' bd' (oid Hp.length 2)],ObjLow (Hp.length+4) x:=by
  intro k x hx
  simp only [By,Ha,or_false] at hx
  rcases hx with rfl|rfl|rfl|rfl
  ·exact q8
  ·exact q8
  ·trivial
  exact il
 have hOf:∀{k:Nat},∀x∈[AObj.cells 4 [B8 false],AObj.cells 3 [A6 ((k:Nat)+1)],AObj.defs,AObj.loop LoopState.done (some Code.ret) FR 23 #[8,9] as' bd' (oid Hp.length 2)],ObjLow (Hp.length+4) x:=by
  intro k x hx
  simp only [By,Ha,or_false] at hx
  rcases hx with rfl|rfl|rfl|rfl
  ·exact q8
  ·exact q8
  ·trivial
  exact il
 refine ⟨fun _ H'=>Ip (goM e) (fun k=>Hp++[AObj.cells 4 [B8 false],AObj.cells 3 [A6 (k:Nat)],AObj.defs,AObj.loop LoopState.ready none FR 23 #[8,9] as' bd' (oid Hp.length 2)]) (fun k=>Hp++[AObj.cells 4 [B8 false],AObj.cells 3 [A6 ((k:Nat)+1)],AObj.defs,AObj.loop LoopState.done (some Code.ret) FR 23 #[8,9] as' bd' (oid Hp.length 2)]) (B1 1 e).length H',qr (l:=oid Hp.length 3) (go:=goM e) (U:=fun k=>Hp++[AObj.cells 4 [B8 false],AObj.cells 3 [A6 (k:Nat)],AObj.defs,AObj.loop LoopState.ready none FR 23 #[8,9] as' bd' (oid Hp.length 2)]) (F:=fun k=>Hp++[AObj.cells 4 [B8 false],AObj.cells 3 [A6 ((k:Nat)+1)],AObj.defs,AObj.loop LoopState.done (some Code.ret) FR 23 #[8,9] as' bd' (oid Hp.length 2)]) (n0:=Hp.length+4) ⟨fun k=>by simp,fun k=>by simp,fun k x hx=>?_,fun k x hx=>?_,by simp [oid],fun X k it hit hgo=>?_⟩ n hok hn,?_⟩
 ·exact ba
 ·exact M0 (fun x hx=>Wr (by omega) (hlow x hx)) hOf x hx
 ·have hk3:=vj hit hgo
  generalize hV:(Hp++[AObj.cells 4 [B8 false],AObj.cells 3 [A6 (k:Nat)],AObj.defs,AObj.loop LoopState.ready none FR 23 #[8,9] as' bd' (oid Hp.length 2)]++X)=V
  have hL:V[oid Hp.length 3]? = some (AObj.loop LoopState.ready none FR 23 #[8,9] as' bd' (oid Hp.length 2)):=by rw [←hV,Bt,Bl];rfl
  have hA0:V[oid Hp.length 1]? = some (AObj.cells 3 [A6 (k:Nat)]):=by rw [←hV,Bt,Bl];rfl
  have hB0:V[oid Hp.length 0]? = some (AObj.cells 4 [B8 false]):=by rw [←hV,Bt,Bl];rfl
  refine Ms (pd:=none) (fr:=FR) (sz:=23) (ps:=#[8,9]) (df:=oid Hp.length 2) (asg:=as') (bd:=bd') hL rfl (by decide) (fun d=>?_)
  subst hFR has hbd
  refine G9 [2,3,8,9] ?_;refine Z3 ?_;refine A2 [2,3,4,9] ?_;refine If ?_;refine Z21 ?_;refine A2 [2,3,4,5] ?_
  refine ⟨rfl,none,hL,?_⟩
  generalize hbz:(AObj.loop LoopState.busy _ _ _ _ _ _ _)=bz
  have hA:(V.set (oid Hp.length 3) bz)[oid Hp.length 1]? = some (AObj.cells 3 [A6 (k:Nat)]):=by rw [El (Dr (by decide))];exact hA0
  have hB:(V.set (oid Hp.length 3) bz)[oid Hp.length 0]? = some (AObj.cells 4 [B8 false]):=by rw [El (Dr (by decide))];exact hB0
  refine I5 ?_;refine Ey ?_
  refine A7 (h:=Ep hA) (hr:=?_)
  refine A7 ?_
  refine H3 jS hA ?_ ?_
  ·simp
  refine A2 [2,3,4,5] ?_;refine Z3 ?_;refine Ac Tryz.call78 (c78 it.2 (Uv n e hok 1 it (B3 hit)) _) ?_;refine Z0 ?_;refine Z12 ?_;refine Z0 ?_
  refine C4 (h:=Ep (Ar hA)) (hr:=?_)
  refine Z63 ?_;refine A2 [2,22] ?_
  refine A4 (fun ht22=>?_) (fun ht22=>?_)
  ·have hgf:goM e k=false:=by rw [Ws hit,ht22];rfl
   refine Ey ?_
   refine H3 jS (cb (j:=oid Hp.length 1) hB (Dr (by decide))) ?_ ?_
   ·simp
   refine A2 [] ?_;refine Hi ?_;refine K.blR ?_
   subst hbz
   refine K.rdR (ly hL (Dr (by decide)) (Dr (by decide))) ?_
   refine ⟨hgf.symm,?_⟩
   rw [if_neg (by rw [hgf];simp)]
   subst hV
   simp only [Bt,Fl,E0,Dz,List.set_cons_succ,List.set_cons_zero]
   try rfl
  have hgt:goM e k=true:=by rw [Ws hit,ht22];rfl
  refine K0 ?_;refine Jc ?_
  subst hbz
  refine K.rdN (Xv hL (Dr (by decide))) ?_
  refine ⟨hgt.symm,?_⟩
  rw [if_pos hgt]
  subst hV
  simp only [Bt,Fl,E0,Dz,List.set_cons_succ,List.set_cons_zero]
  try rfl
 rintro r H' (⟨h1,rfl⟩|⟨j,hj,h1,h2,rfl⟩)
 ·refine ⟨Hp,_,_,_,rfl,rfl,fun h=>h,?_,rfl,by simp,?_⟩
  ·intro o ho
   have:o=oid Hp.length 2:=by simpa using ho
   subst this
   rw [Bl]
   rfl
  refine Z16 ?_;refine Ey ?_;refine Z10 ?_;exact A5 (Ap (V.cell jA)) ⟨by rw [show Au e=true from B2.2 fun j hj=>h1 j (Jy.1 hj)],rfl⟩
 refine ⟨Hp,_,_,_,rfl,rfl,fun h=>h,?_,rfl,by simp,?_⟩
 ·intro o ho
  have:o=oid Hp.length 2:=by simpa using ho
  subst this
  rw [Bl]
  rfl
 refine Hi ?_;refine Z5 ?_;exact A5 (Ap (V.cell jA)) ⟨by rw [show Au e=false from List.all_eq_false.2 ⟨j,Jy.2 hj,by rw [h2];simp⟩],rfl⟩

def B6 (s:Str):Expr:=.mk 2 s ⟨0,0,[]⟩ []
theorem Ye (s:Str):Le (.agg [A6 2,Ah s,A6 0,A6 0,Ah [],.nil]) (Aa (B6 s)):=by
 rw [Ad]
 refine .agg _ _ rfl (by simp [AV.one,Value.oneCell',sv]) fun i y y' h1 h2=>?_
 match i with
 | 0=>simp at h1 h2;subst h1;subst h2;exact .inl rfl
 | 1=>simp at h1 h2;subst h1;subst h2;exact .inl rfl
 | 2=>simp at h1 h2;subst h1;subst h2;exact .inl rfl
 | 3=>simp at h1 h2;subst h1;subst h2;exact .inl rfl
 | 4=>simp at h1 h2;subst h1;subst h2;exact .inl rfl
 | 5=>simp at h1 h2;subst h1;subst h2;exact .inr ⟨rfl,6,rfl⟩
 | i+6=>simp at h1
theorem Yf (s:Str) (h:s.length≤1048576):okE 1 (B6 s):=⟨h,by simp [B6,Expr.kids],fun y hy=>by cases hy⟩
def Pd (c:List Col) (x:Nat) (y:Col):Bool := !(((!Au (B6 y.name)) || (I9 y.kind==[])) || (Ez y.name c != (x:Int)))
def Q8 (c:List Col):Bool:=c.zipIdx.all fun x=>Pd c x.2 x.1
theorem colsP_true {c:List Col}:Q8 c=true↔∀(j:Nat) (y:Col),c[j]? = some y→Pd c j y=true:=bi
theorem c36 (c:List Col) (hc:OkCols c) (Hp:List AObj):AFun Tryz.prog 36 [Gq c] Hp (B8 (Q8 c)):=by
 refine Aq [.tmp 2] [0] Tryz.func36 Tryz.ntmps36 (fun d=>?_)
 refine Z76 ?_;refine Z39 ?_;refine A2 [0,5,6,7] ?_
 refine Ff (α:=Nat) (fun x=>⟨32,Ao 0 (Gq c) (Ao 5 (Gq c) (Ao 6 (A6 c.length) (Ao 7 (A6 (x:Nat)) (fun _=>.any)))),Hp,[],[],none⟩) (fun x=>x≤c.length∧∀(j:Nat) (y:Col),j<x→c[j]? = some y→Pd c j y=true) (fun x=>c.length-x) (0) (by simp) (E9 (by simp)) rfl (fun x hx=>?_)
 refine Z3 ?_;refine A2 [0,5,6,7,8] ?_
 refine Gp (fun ht8=>?_) (fun ht8=>?_)
 ·have hlt:x<c.length:=by simpa using ht8
  have hcl:=hc.len
  refine Wi ?_
  refine A7 (h:=Ax (x) (U6 c[x]) (fun _=>Cu hlt)) (hr:=?_)
  refine A7 ?_;refine qi ?_;refine A2 [0,3,4,5,6,7] ?_;refine Z73 ?_;refine Ef 14 _ (Ye c[x].name) ?_;refine Ac Tryz.call38 (c38 1 (B6 c[x].name) (Yf _ (hc.names _ (Db hlt))) (by decide) _) ?_;refine Z0 ?_;refine Z12 ?_;refine Co Tryz.call76 (fun hB=>c76 c[x].kind _) ?_;refine Z35 ?_;refine Z12 ?_;refine C4 ?_;refine Co Tryz.call58 (fun hB=>c58 c hc c[x].name _) ?_;refine b7 ?_;refine A2 [0,5,6,7,30] ?_
  refine A4 (fun ht30=>?_) (fun ht30=>?_)
  ·refine Z57 ?_;refine We ?_
   exact A5 (Ap A3) ⟨by rw [show Q8 c=false from Ol.2 fun h=>by have:=colsP_true.1 h x c[x] (Al hlt);unfold Pd at this;rw [ht30] at this;cases this],rfl⟩
  refine U2 ?_;refine A2 [0,5,6,7] ?_
  refine Ct (x+1) ⟨hlt,bh hlt hx.2 (by unfold Pd;rw [ht30];rfl)⟩ (by omega) ?_
  exact Es (own:=[]) (fun _=>.refl _) (by repeat (first|exact C6|refine C5 (by simp) ?_)) (by simp) (by simp)
 refine Z58 ?_;refine Z57 ?_;exact A5 (Ap A3) ⟨by rw [colsP_true.2 (iq (by simp at ht8;omega) hx.2)],rfl⟩

theorem Wt (s:Str) (h:s≠[]):Lib.contains [] s=false:=by
 cases s with
 | nil=>exact absurd rfl h
 | cons a r=>rfl
theorem contains_cons (b:UInt8) (l s:Str):Lib.contains (b::l) s=(s.isPrefixOf (b::l) || Lib.contains l s):=by
 unfold Lib.contains
 have hge:=Lib.index_ge l s
 rw [Lib.index]
 by_cases hp:s.isPrefixOf (b::l)=true
 ·rw [if_pos hp,hp];rfl
 rw [if_neg hp]
 have hp':s.isPrefixOf (b::l)=false:=Ol.2 hp
 rw [hp',J9]
 by_cases hi:Lib.index l s = -1
 ·rw [hi];rfl
 have:(Lib.index l s == -1)=false:=by simpa using hi
 rw [this,if_neg (by simp)]
 rw [decide_eq_decide]
 omega
/-- Words between blanks. -/
def Lg:List Str→Str
 | []=>[32]
 | w::r=>32::(w++Lg r)
theorem Ux (sub:Str):∀(w R:Str),(32:UInt8)∉w→Lib.contains (w++R) (32::sub)=Lib.contains R (32::sub)
 | [],R,_=>rfl
 | b::w,R,h=>by
  have hb:b≠32:=fun e=>h (by simp [e])
  rw [E0,contains_cons,Ux sub w R (fun hm=>h (by simp [hm]))]
  have:(32::sub).isPrefixOf (b::(w++R))=false:=by
   simp [List.isPrefixOf,Ne.symm hb]
  rw [this,J9]
theorem Q9:∀(s w:Str) (R:Str),(32:UInt8)∉s→(32:UInt8)∉w→(s++[32]).isPrefixOf (w++32::R)=(s==w)
 | [],[],R,_,_=>by simp [List.isPrefixOf]
 | [],b::w,R,_,hw=>by
  have hb:(32:UInt8)≠b:=fun e=>hw (by simp [e])
  simp [List.isPrefixOf,hb]
 | a::s,[],R,hs,_=>by
  have hb:a≠(32:UInt8):=fun e=>hs (by simp [e])
  simp [List.isPrefixOf,hb]
 | a::s,b::w,R,hs,hw=>by
  have ih:=Q9 s w R (fun h=>hs (by simp [h])) (fun h=>hw (by simp [h]))
  rw [E0,E0,List.isPrefixOf,ih]
  rfl
theorem Yg:∀ws,∃R,Lg ws=32::R
 | []=>⟨[],rfl⟩
 | w::r=>⟨_,rfl⟩
theorem Iq (s:Str) (hs:(32:UInt8)∉s):∀(ws:List Str),(∀w∈ws,(32:UInt8)∉w)→Lib.contains (Lg ws) ([32]++s++[32])=ws.any (·==s)
 | [],_=>by
  rw [Lg,contains_cons,Wt _ (by simp),Bool.or_false]
  cases s<;>simp [List.isPrefixOf]
 | w::r,h=>by
  have hw:=h w (by simp)
  obtain ⟨R,hR⟩:=Yg r
  have ih:=Iq s hs r (fun x hx=>h x (by simp [hx]))
  have e1:([32]++s++[32]:Str)=32::(s++[32]):=rfl
  rw [Lg,contains_cons,e1,Ux _ w _ hw,←e1,ih,List.any_cons]
  congr 1
  rw [e1,hR]
  have:=Q9 s w R hs hw
  rw [List.isPrefixOf,this]
  simp only [beq_self_eq_true,Mj]
  by_cases hsw:s=w
  ·subst hsw;rfl
  rw [beq_eq_false_iff_ne.2 hsw,beq_eq_false_iff_ne.2 (Ne.symm hsw)]
theorem Uc:K8=Lg words:=by kernel_rfl
theorem Yh:∀w∈words,(32:UInt8)∉w:=by decide
theorem Yi (s:Str):Lib.contains s [32]=s.contains 32:=by
 induction s with
 | nil=>rfl
 | cons b l ih =>
  rw [contains_cons,ih,List.contains_cons]
  congr 1
  simp [List.isPrefixOf]
theorem Sq (s:Str) (h1:s≠[]) (h2:(32:UInt8)∉s):Fm s=P6 s:=by
 unfold Fm
 rw [Yi,Uc,Iq s h2 words Yh]
 have e1:(s==[])=false:=by simpa using h1
 have e2:s.contains 32=false:=by simpa using h2
 rw [e1,e2]
 rfl
set_option maxRecDepth 8000
theorem my {p:UInt8→Bool} (h:((List.range 256).all fun n=>p (UInt8.ofNat n))=true) (c:UInt8):p c=true:=by
 have:=B2.1 h c.toNat (Jy.2 c.toNat_lt)
 simpa using this
theorem cc (c:UInt8):tails.contains c=S7 c:=by
 have:=my (p:=fun c=>tails.contains c==S7 c) (by kernel_rfl) c
 simpa using this
theorem Wu (c:UInt8):letters.contains c=K7 c:=by
 have:=my (p:=fun c=>letters.contains c==K7 c) (by kernel_rfl) c
 simpa using this
theorem cd:S7 32=false:=by kernel_rfl
theorem dy (s of:Str):(Nw s of==(s.length:Int))=s.all (of.contains ·):=by
 unfold Nw Lib.trimLeftS
 induction s with
 | nil=>rfl
 | cons c r ih =>
  rw [On,List.all_cons]
  cases hc:of.contains c with
  | true =>
   simp only [if_true,Mj]
   rw [←ih,Rf]
   have:=(Zz (fun x=>of.contains x) (l:=r)).length_le
   simp only [beq_iff_eq,Ay]
   omega
  | false =>
   simp only [Bs,if_false,Vm]
   rw [beq_eq_false_iff_ne]
   simp only [Ay]
   omega
theorem Et (s:Str):Dx s=J3 s:=by
 cases s with
 | nil=>rfl
 | cons c r =>
  unfold Dx
  rw [dy]
  have e1:((c::r).all fun x=>tails.contains x)=(c::r).all S7:=by
   congr 1
   funext x
   exact cc x
  have e2:(Nw ((c::r).take 1) letters==1)=K7 c:=by
   have:=dy [c] letters
   rw [←Wu c]
   simpa using this
  rw [e1,e2]
  have e3:((c::r:Str)==[])=false:=rfl
  have e4:decide (((c::r).length:Int)≤16)=decide ((c::r).length≤16):=by
   rw [decide_eq_decide];omega
  rw [e3,e4]
  show _=(decide ((c::r).length≤16)&&K7 c && !P6 (c::r)&&(c::r).all S7)
  cases ha:(c::r).all S7 with
  | false=>simp
  | true =>
   have hb:(32:UInt8)∉(c::r):=fun hm=>by
    have:=B2.1 ha 32 hm
    rw [cd] at this
    cases this
   rw [Sq _ (by simp) hb]
   simp
theorem N3 (s:Str):Au (B6 s)=J3 s:=by
 have e:B1 1 (B6 s)=[(1,B6 s)]:=by rw [H8];rfl
 unfold Au
 rw [e]
 show ((List.range 1).all (goM (B6 s)))=_
 have g:goM (B6 s) 0=C1 (B6 s):=by
  unfold goM
  rw [e]
  simp
 simp only [Vw,List.range_zero,Dz,List.all_cons,List.all_nil,Vl]
 rw [g,←Et]
 simp [C1,B6,Expr.op,Expr.val,Expr.text,Expr.kids,Kl]
theorem Wv (k:Int):(I9 k==[])=(decide (k<1) || decide ((3:Int)<k)):=by
 unfold I9
 by_cases h:k<1∨3<k
 ·rw [if_pos h]
  have:(decide (k<1) || decide ((3:Int)<k))=true:=by simpa using h
  rw [this];rfl
 rw [if_neg h]
 have:(decide (k<1) || decide ((3:Int)<k))=false:=by simp;omega
 rw [this]
 have hk:k=1∨k=2∨k=3:=by omega
 rcases hk with rfl|rfl|rfl<;>rfl
theorem Ww (c:List Col):Q8 c=S9 c:=by
 unfold Q8 S9
 congr 1
 funext x
 unfold Pd Y4
 rw [N3,Wv,←Bool.or_assoc (!J3 x.1.name)]
set_option maxRecDepth 4000
def At (l:List Tok) (i:Nat):Tok:=l.getD i ⟨0,[],0⟩
theorem Pe {l:List Tok} {i:Nat} (h:i<l.length):(l.map Iu)[i]? = some (Iu (At l i)):=by
 rw [Ce,Al h]
 unfold At
 rw [Ch,Al h]
 rfl
end Go.SX.Nb
