/- On the way (part 6). -/
import Derived.Test.YtlafnblklafbkaaGreatDoorMigParsesCardSaidPart5
set_option linter.all false
namespace Go.SX.Nb
open Go Go.SX Go.Proofs
variable [ErrAt]
set_option maxRecDepth 4000
def wAt (s:Str) (k:Nat):Int×Str×Int×Int:=Bi (s.drop k)
theorem Jy {f k:Nat} {s:Str} (h:s≠[]):Gc (f+1) k s=(⟨(Bi s).1,(Bi s).2.1,k⟩,(Bi s).2.2.2)::(if (Bi s).2.2.2==0 then Gc f (k+(Bi s).2.2.1.toNat+gapM (s.drop (Bi s).2.2.1.toNat)) ((s.drop (Bi s).2.2.1.toNat).drop (gapM (s.drop (Bi s).2.2.1.toNat))) else []):=by
 rw [Gc,if_neg (by simpa using h)]
/-- Where the reader is, with k words behind it. -/
def Qk (s:Str) (k p:Nat):Prop:=(∃f,(s.drop p).length<f∧(C0 s).drop k=Gc f p (s.drop p))∧p≤s.length∧∀j,j<k→∃it,(C0 s)[j]? = some it∧it.2=0
theorem vg (s:Str):Qk s 0 (gapM s):=⟨⟨s.length+1,by rw [Dh];omega,by rw [Pf];rfl⟩,ll s,fun j hj=>by omega⟩
theorem ABl {s:Str} {k p:Nat} (h:Qk s k p):k≤(C0 s).length:=by
 refine Kw fun hn=>?_
 obtain ⟨it,hit,_⟩:=h.2.2 (C0 s).length (by omega)
 rw [Gi (Ae _)] at hit
 cases hit
theorem g9 {s:Str} {k p:Nat} (h:Qk s k p) (hp:s.length≤p):k=(C0 s).length∧∀it∈C0 s,it.2=0:=by
 have hl:=ABl h
 obtain ⟨⟨f,_,hd⟩,_,h0⟩:=h
 have e:s.drop p=[]:=by rw [M7];exact hp
 rw [e] at hd
 have:(C0 s).drop k=[]:=by rw [hd];cases f<;>rfl
 rw [M7] at this
 have hk:k=(C0 s).length:=by omega
 refine ⟨hk,fun it hit=>?_⟩
 obtain ⟨j,hj,rfl⟩:=List.mem_iff_getElem.1 hit
 obtain ⟨it',h1,h2⟩:=h0 j (by omega)
 rw [Ak hj] at h1
 injection h1 with h1
 rw [h1];exact h2
theorem Ty {s:Str} {k p:Nat} (h:Qk s k p) (hp:p<s.length):∃f,(s.drop p).length<f+1∧(C0 s).drop k=Gc (f+1) p (s.drop p)∧s.drop p≠[]:=by
 obtain ⟨⟨f,hf,hd⟩,_,_⟩:=h
 obtain ⟨g,rfl⟩:∃g,f=g+1:=⟨f-1,by omega⟩
 exact ⟨g,hf,hd,fun e=>by rw [M7] at e;omega⟩
theorem L0 {s:Str} {k p:Nat} (h:Qk s k p) (hp:p<s.length):(C0 s)[k]? = some (⟨(wAt s p).1,(wAt s p).2.1,p⟩,(wAt s p).2.2.2):=by
 obtain ⟨f,_,hd,hne⟩:=Ty h hp
 rw [Jy hne] at hd
 have:=congrArg (·[0]?) hd
 unfold wAt
 simpa using this
theorem vh {s:Str} {k p:Nat} (h:Qk s k p) (hp:p<s.length) (he:(wAt s p).2.2.2=0):∃n:Nat,(wAt s p).2.2.1=(n:Int)∧1≤n∧p+n≤s.length∧Qk s (k+1) (p+n+gapM (s.drop (p+n))):=by
 have hi:=L0 h hp
 obtain ⟨f,hf,hd,hne⟩:=Ty h hp
 obtain ⟨n,hn,h1,h2⟩:=Ut (s:=s.drop p) (by rw [Dh];omega) he
 rw [Dh] at h2 hf
 have hg:=ll (s.drop (p+n))
 rw [Dh] at hg
 refine ⟨n,hn,h1,by omega,⟨f,by rw [Dh];omega,?_⟩,by omega,fun j hj=>?_⟩
 ·rw [Jy hne] at hd
  have:=congrArg (·.drop 1) hd
  simp only [Qt,Ok,Pf] at this
  unfold wAt at he
  rw [this,hn,he]
  simp only [beq_self_eq_true,if_true,Int.toNat_natCast,Qt]
 rcases Aw j k with h'|h'
 ·exact h.2.2 j h'
 have:j=k:=by omega
 subst this
 exact ⟨_,hi,he⟩
theorem c87 (l:Nat) (s:Str) (hs:s.length≤1048576) (U F:Nat→List AObj) (hlen:∀k,(U k).length=(U 0).length) (hll:l<(U 0).length)
  (hy:∀k it,(C0 s)[k]? = some it→AYield Tryz.prog l [En it.1,A7 it.2] (U k) (fun b H'=>if it.2=0 then b=true∧H'=U (k+1) else b=false∧H'=F k)):ACall Tryz.prog 87 [.yield l,.ro [Ac s]] (U 0) (fun r H'=>((∀it∈C0 s,it.2=0)∧H'=U (C0 s).length)∨∃k it,(C0 s)[k]? = some it∧it.2≠0∧(∀j,j<k→∃it',(C0 s)[j]? = some it'∧it'.2=0)∧H'=F k):=by
 refine B0 [] [0,1] Tryz.func87 Tryz.ntmps87 (fun d=>?_)
 refine Z2 ?_;refine Ap Tryz.call88 (c88 s hs _) ?_;refine A3 ?_;refine A2 [0,1,3] ?_
 refine Bo (α:=Nat×Nat) (fun x=>⟨44,A9 0 (.yield l) (A9 1 (.ro [Ac s]) (A9 3 (A7 (x.2:Nat)) (fun _=>.any))),U x.1,[],[],none⟩) (fun x=>Qk s x.1 x.2) (fun x=>s.length-x.2) (0,gapM s) (vg s) (Gk _) rfl (fun x hx=>?_)
 obtain ⟨k,p⟩:=x
 simp only at hx ⊢
 refine Z42 ?_;refine A2 [0,1,3,13] ?_
 refine A6 (fun ht13=>?_) (fun ht13=>?_)
 ·have hpl:p<s.length:=by simpa using ht13
  refine Z56 ?_;refine Z1 ?_
  refine A3 (h:=Q.scutL p (fun _=>hx.2.1) (fun _=>Ae _)) (hr:=?_)
  refine Ap Tryz.call89 (c89 (s.drop p) (by rw [Dh];omega) (by rw [Dh];omega) _) ?_
  refine Z67 ?_;refine Z89 ?_;refine A2 [0,1,3,4,5,6,7] ?_;refine Z42 ?_;refine ABa ?_;refine A3 ?_;refine R.yield0 (hy k _ (L0 hx hpl)) ?_
  intro b V hV hb
  refine Z30 ?_;refine A3 ?_;refine A2 [0,1,3,6,40] ?_
  refine A6 (fun ht40=>?_) (fun ht40=>?_)
  ·have hbe:(Bi (s.drop p)).2.2.2≠0∧V=F k:=by
    split at hb
    ·rename_i h0
     obtain ⟨rfl,_⟩:=hb
     have h0':(Bi (s.drop p)).2.2.2=0:=h0
     simp [h0'] at ht40
    rename_i h0
    exact ⟨h0,hb.2⟩
   refine ud ?_;refine Z46 ?_;exact Ab .nores (hp:=.inr ⟨k,_,L0 hx hpl,hbe.1,hx.2.2,hbe.2⟩)
  have hbe:(Bi (s.drop p)).2.2.2=0∧V=U (k+1):=by
   split at hb
   ·rename_i h0
    exact ⟨h0,hb.2⟩
   obtain ⟨rfl,_⟩:=hb
   simp at ht40
  obtain ⟨n,hn,hn1,hnl,hnx⟩:=vh hx hpl hbe.1
  unfold wAt at hn
  rw [hn]
  have hgl:=ll (s.drop (p+n))
  rw [Dh] at hgl
  refine Z4 ?_;refine Z21 ?_;refine Z0 ?_;refine A2 [0,1,3] ?_;refine Z75 ?_
  refine A3 (h:=Q.scutL (p+n) (fun _=>hnl) (fun _=>Ae _)) (hr:=?_)
  refine Ap Tryz.call88 (c88 (s.drop (p+n)) (by rw [Dh];omega) _) ?_
  refine Z0 ?_;refine A2 [0,1,3] ?_;exact Be (k+1,p+n+gapM (s.drop (p+n))) hnx (by show s.length-_<s.length-p;omega) (Bp (by rw [hbe.2];simp))
 have hpl:s.length≤p:=by simpa using ht13
 obtain ⟨hk,hz⟩:=g9 hx hpl
 refine AB8 ?_;exact On .nores (hp:=.inl ⟨hz,by rw [hk]⟩)

theorem c46 (s:Str) (Hp:List AObj):AFun Tryz.prog 46 [Ac s] Hp (.fn (.func 87) [] [.ro [Ac s]]):=by
 refine B0 [.tmp 2] [0] Tryz.func46 Tryz.ntmps46 (fun d=>?_)
 refine Z90 ?_;refine Ei ?_;refine Jj ?_;refine A3 ?_;refine Z3 ?_;exact ul

def C4 (s:Str):List Tok×Int×Nat:=if 4000<s.length then ([],3,0) else
 match (C0 s).find? (fun it=>it.2 != 0) with
 | some it=>([],it.2,it.1.at_)
 | none=>((C0 s).map (·.1)++[⟨0,[],s.length⟩],0,0)
theorem AJ4 {s:Str} {k:Nat} {it:Tok×Int} (hit:(C0 s)[k]? = some it) (he:it.2≠0) (h0:∀j,j<k→∃it',(C0 s)[j]? = some it'∧it'.2=0):(C0 s).find? (fun it=>it.2 != 0)=some it:=by
 rw [ADz]
 obtain ⟨hk,e⟩:=Aa.1 hit
 refine ⟨by simpa using he,k,hk,e,fun j hj=>?_⟩
 obtain ⟨it',h1,h2⟩:=h0 j hj
 rw [Ak (by omega)] at h1
 injection h1 with h1
 rw [h1,h2];rfl
theorem og {s:Str} (h:∀it∈C0 s,it.2=0):(C0 s).find? (fun it=>it.2 != 0)=none:=by
 rw [W7]
 intro it hit
 simp [h it hit]
def ga (s:Str) (k:Nat):Int×Nat:=match (C0 s)[k]? with|some it=>(it.2,it.1.at_)|none=>(0,0)
theorem b9:∀(f k:Nat) (s:Str),(Gc f k s).length≤f
 | 0,_,_=>Al _
 | f+1,k,s=>by
  rw [Gc]
  split
  ·exact Al _
  rw [Aq]
  split
  ·have:=b9 f (k+(Bi s).2.2.1.toNat+gapM (s.drop (Bi s).2.2.1.toNat)) ((s.drop (Bi s).2.2.1.toNat).drop (gapM (s.drop (Bi s).2.2.1.toNat)))
   omega
  simp
theorem Tz (s:Str):(C0 s).length≤s.length+1:=b9 _ _ _
def I5 (s:Str) (k:Nat):List Tok:=((C0 s).take k).map (·.1)
theorem Jz (s:Str) (k:Nat):(I5 s k).length≤s.length+1:=by
 have:=Tz s
 unfold I5
 rw [Bh,J6]
 omega
theorem ba {s:Str} {k:Nat} {it:Tok×Int} (hit:(C0 s)[k]? = some it):I5 s (k+1)=I5 s k++[it.1]:=by
 unfold I5
 rw [List.take_succ,hit,Cu]
 rfl
theorem ABm (s:Str):I5 s (C0 s).length=(C0 s).map (·.1):=by unfold I5;rw [Yl]
theorem gc {s:Str} {k:Nat} {it:Tok×Int} (hl4:¬4000<s.length) (hit:(C0 s)[k]? = some it) (he:it.2≠0) (h0:∀j,j<k→∃it',(C0 s)[j]? = some it'∧it'.2=0):C4 s=([],it.2,it.1.at_):=by
 unfold C4
 rw [if_neg hl4,AJ4 hit he h0]
theorem oh {s:Str} (hl4:¬4000<s.length) (hz:∀it∈C0 s,it.2=0):C4 s=(I5 s (C0 s).length++[⟨0,[],s.length⟩],0,0):=by
 unfold C4
 rw [if_neg hl4,og hz,ABm]
theorem c22 (s:Str) (hs:s.length≤1048576) (Hp:List AObj):AFun Tryz.prog 22 [Ac s] Hp (.tup [Us (C4 s).1,.agg [A7 (C4 s).2.1,A7 (C4 s).2.2]]):=by
 refine B0 [.cell 2 48,.cell 3 26] [0,5,6] Tryz.func22 Tryz.ntmps22 (fun d=>?_)
 refine Z24 ?_;refine Ka jZ ?_;refine A2 [0,2,3,5,6] ?_;refine Z50 ?_;refine A2 [0,2,3,5,6,9] ?_
 refine A6 (fun ht9=>?_) (fun ht9=>?_)
 ·have hlm:C4 s=([],3,0):=by unfold C4;rw [if_pos (by simp at ht9;omega)]
  refine APh ?_;refine Ho ?_;refine R.nilOwn 0 3 ?_;refine Ho ?_;refine Z60 ?_;exact Ab (Es (R9 jA) (B5 jA jS)) ⟨by rw [hlm];rfl,rfl⟩
 have hl4:¬4000<s.length:=by simp at ht9;omega
 refine Z4 ?_;refine Z24 ?_;refine A2 [0,2,3,4,5,6] ?_;refine Z71 ?_;refine R.nilOwn 2 3 ?_;refine A3 ?_;refine Ap Tryz.call46 (c46 s _) ?_;refine A2 [0,2,3,4,5,6,12] ?_;refine Ic ?_
 refine W.rangeV (m:=3) Tryz.call87 (fun FR as' bd' hFR has hbd=>?_)
 refine ⟨_,c87 (oid Hp.length 4) s hs (fun k=>Hp++[AObj.cells 48 [AV.nil],AObj.cells 26 [A7 0,A7 0],AObj.cells 48 [AV.slice true 3 ((I5 s k).map En)],AObj.defs,AObj.loop LoopState.ready none FR 32 #[13,14] as' bd' (oid Hp.length 3)]) (fun k=>Hp++[AObj.cells 48 [AV.nil],AObj.cells 26 [A7 (ga s k).1,A7 (ga s k).2],AObj.cells 48 [AV.slice true 3 ((I5 s k).map En)],AObj.defs,AObj.loop LoopState.done (some Code.ret) FR 32 #[13,14] as' bd' (oid Hp.length 3)]) (fun k=>by simp) (by simp [oid]) (fun k it hit=>?_),?_⟩
 ·generalize hV:Hp++[AObj.cells 48 [AV.nil],AObj.cells 26 [A7 0,A7 0],AObj.cells 48 [AV.slice true 3 ((I5 s k).map En)],AObj.defs,AObj.loop LoopState.ready none FR 32 #[13,14] as' bd' (oid Hp.length 3)]=V
  have hL:V[oid Hp.length 4]? = some (AObj.loop LoopState.ready none FR 32 #[13,14] as' bd' (oid Hp.length 3)):=by rw [←hV,Cj];rfl
  have hA0:V[oid Hp.length 2]? = some (AObj.cells 48 [AV.slice true 3 ((I5 s k).map En)]):=by rw [←hV,Cj];rfl
  have hB0:V[oid Hp.length 0]? = some (AObj.cells 48 [AV.nil]):=by rw [←hV,Cj];rfl
  have hC0:V[oid Hp.length 1]? = some (AObj.cells 26 [A7 0,A7 0]):=by rw [←hV,Cj];rfl
  refine kv (pd:=none) (fr:=FR) (sz:=32) (ps:=#[13,14]) (df:=oid Hp.length 3) (asg:=as') (bd:=bd') hL rfl (by decide) (fun d=>?_)
  subst hFR has hbd
  refine Eh [2,3,4,13,14] ?_;refine Ei ?_;refine Z11 ?_;refine A2 [2,3,4,5,14] ?_;refine Z32 ?_;refine A2 [2,3,4,5,6] ?_
  refine ⟨rfl,none,hL,?_⟩
  generalize hbz:(AObj.loop LoopState.busy _ _ _ _ _ _ _)=bz
  have hA:(V.set (oid Hp.length 4) bz)[oid Hp.length 2]? = some (AObj.cells 48 [AV.slice true 3 ((I5 s k).map En)]):=by rw [Gj (Iz (by decide))];exact hA0
  have hB:(V.set (oid Hp.length 4) bz)[oid Hp.length 0]? = some (AObj.cells 48 [AV.nil]):=by rw [Gj (Iz (by decide))];exact hB0
  have hC:(V.set (oid Hp.length 4) bz)[oid Hp.length 1]? = some (AObj.cells 26 [A7 0,A7 0]):=by rw [Gj (Iz (by decide))];exact hC0
  refine Ic ?_;refine Z9 ?_;refine A2 [2,3,4,5,6,16] ?_
  refine A6 (fun ht16=>?_) (fun ht16=>?_)
  ·have hne:it.2≠0:=by simpa using ht16
   refine Fe [0,0,2,7,0,31] [4] [.q 4 [] [],.s [] (some 0) [] []] (fun _=>V.set (oid Hp.length 4) bz) (fun _=>[AObj.cells 59 [A7 it.1.kind,Ac it.1.text,A7 it.1.at_]]) Af (by kernel_rfl) rfl rfl (fun _=>rfl) ?_
   apply Y.q
   ·intro B hT hF
    refine Z19 ?_;exact Z97
   case hTF=>decide
   refine Y.storeUp (o:=oid Hp.length 0) (ys:=[.nil]) (t':=48) (cs:=[AV.nil]) (cs':=[AV.nil]) jS (fun _ _=>⟨hB,(E8 hB).symm,rfl,by simp⟩) ?_;refine Dj (tn:=[4]) (U:=V.set (oid Hp.length 4) bz) ?_
   refine Cv jS hC ?_ ?_
   ·simp
   refine Nf ?_;refine ud ?_;refine K.blR ?_
   subst hbz
   refine K.rdR (nk hL (Iz (by decide))) ?_
   rw [if_neg hne]
   refine ⟨rfl,?_⟩
   subst hV
   simp only [O8,List.set_cons_succ,List.set_cons_zero]
   rw [show ga s k=(it.2,it.1.at_) by unfold ga;rw [hit]]
  have heq:it.2=0:=by simpa using ht16
  refine Z4 ?_;refine Ky ?_
  have hl3:=Jz s k
  refine R.loadUpT jA hA ?_;refine A3 ?_;refine Rg ?_
  refine N9 jU Tryz.type59 ?_ ?_ ?_
  ·simp [hl3,Tryz.t59];omega
  ·simp [hl3,Tryz.t59];omega
  refine Iy jS (getset hA) ?_ ?_
  ·simp [or_imp,forall_and]
  refine Z96 ?_
  subst hbz
  refine K.rdN (ALj hL (Iz (by decide)) (Iz (by decide))) ?_
  rw [if_pos heq]
  refine ⟨rfl,?_⟩
  subst hV
  simp only [O8,List.set_cons_succ,List.set_cons_zero]
  rw [ba hit,Cu]
  rfl
 rintro r H' (⟨hz,rfl⟩|⟨k,it,hit,hne,h0,rfl⟩)
 ·refine ⟨Hp,_,_,_,rfl,rfl,fun h=>h,?_,rfl,by simp,?_⟩
  ·intro o ho
   have:o=oid Hp.length 3:=by simpa using ho
   subst this
   rw [Cj]
   rfl
  refine Z12 ?_;refine Ei ?_;refine R.loadOwnT jA ?_;refine Z0 ?_;refine AOt ?_
  refine N9 jU Tryz.type59 ?_ ?_ ?_
  ·have:=Jz s (C0 s).length;simp [Tryz.t59];omega
  ·have:=Jz s (C0 s).length;simp [Tryz.t59];omega
  refine ef ?_;refine Tq jS ?_;refine Ho ?_;refine Z14 ?_;exact Ab (Es (R9 jA) (B5 jA jS)) ⟨by rw [oh hl4 hz,Us,Cu];rfl,rfl⟩ (hlow:=by simp [or_imp,forall_and])
 refine ⟨Hp,_,_,_,rfl,rfl,fun h=>h,?_,rfl,by simp,?_⟩
 ·intro o ho
  have:o=oid Hp.length 3:=by simpa using ho
  subst this
  rw [Cj]
  rfl
 refine W.nilOwn 0 3 ?_;refine Kx ?_;refine Z8 ?_;exact Ab (Es (R9 jA) (B5 jA jS)) ⟨by rw [gc hl4 hit hne h0,show ga s k=(it.2,it.1.at_) by unfold ga;rw [hit]];rfl,rfl⟩

inductive Expr where
 | mk (op:Int) (text:Str) (val:Val) (kids:List Expr)
def Expr.op:Expr→Int|.mk o _ _ _=>o
def Expr.text:Expr→Str|.mk _ t _ _=>t
def Expr.val:Expr→Val|.mk _ _ v _=>v
def Expr.kids:Expr→List Expr|.mk _ _ _ k=>k
mutual
def Aj:Expr→AV
 | .mk o t v k=>.agg [.v (.int .i64 o),.v (sv t),.v (.int .i64 v.kind),.v (.int .i64 v.n),.v (sv v.s),.slice false 6 (Wl k)]
def Wl:List Expr→List AV
  | []=>[]
  | e::r=>Aj e::Wl r
 end
theorem bb:∀l,Wl l=l.map Aj
 | []=>rfl
 | e::r=>by rw [Wl,bb r];rfl
theorem Ad (e:Expr):Aj e=.agg [.v (.int .i64 e.op),.v (sv e.text),.v (.int .i64 e.val.kind),.v (.int .i64 e.val.n),.v (sv e.val.s),.slice false 6 (e.kids.map Aj)]:=by
 cases e with
 | mk o t v k=>rw [Aj,bb];rfl
attribute [go_sem] Ad
def Sr:Str:=[32,111,114,32,32,97,110,100,32,32,61,32,33,61,32,60,32,60,61,32,62,32,62,61,32,32,43,32,45,32,38,32,32,42,32,47,32,37,32]
def Ls (v:Val):Bool:=v.kind==0&&v.n==0&&v.s==[]
def Cl (e:Expr):Bool:=
 if e.op==1 then ((Dr e.val&&decide (0≤e.val.n))&&(e.text==[]))&&((e.kids.length:Int)==0)
 else if e.op==2 then (Ls e.val&&Ej e.text)&&((e.kids.length:Int)==0)
 else if e.op==3 || e.op==4 then (Ls e.val&&(e.text==[]))&&((e.kids.length:Int)==1)
 else if e.op==5 then (Ls e.val&&Fy e.text Sr)&&((e.kids.length:Int)==2)
 else if e.op==6 then Ls e.val&&(Ce e.text==(e.kids.length:Int))
 else false
theorem AS7 (e:Expr) (hs:e.text.length≤1048576) (Hp:List AObj):AFun Tryz.prog 107 [Aj e] Hp (Bz (Cl e)):=by
 refine ACall.body [.tmp 2] [0] Tryz.func107 Tryz.ntmps107 (fun d=>?_)
 refine Z90 ?_;refine APf ?_
 refine R.go (h:=Q.eqlAgg AIy (Yw e.val.kind e.val.n 0 0 e.val.s [])) (hr:=?_)
 refine R.go ?_;refine R.fin [1,3] ?_;refine Z9 ?_;refine R.fin [1,3,9] ?_;refine Z84 ?_;refine R.fin [1,3,9,10] ?_
 refine W.cond (fun ht10=>?_) (fun ht10=>?_)
 ·refine Z1 ?_;refine R.call Tryz.call143 (c143 e.val _) ?_;refine R.go ?_;refine l9 ?_;refine Z30 ?_;refine We ?_;exact nt
 refine Z1 ?_;refine R.fin [1,3,9,32] ?_
 refine W.cond (fun ht32=>?_) (fun ht32=>?_)
 ·refine Z1 ?_;refine Z6 ?_;refine G.call Tryz.call67 (fun hB=>c67 e.text hs _) ?_;refine Z48 ?_;exact nt
 refine Z9 ?_;refine R.fin [1,3,9,46] ?_
 refine W.cond (fun ht46=>?_) (fun ht46=>?_)
 ·refine Z4 ?_
  refine W.cond (fun ht46=>?_) (fun ht46=>?_)
  ·refine Z1 ?_;refine Z6 ?_;refine We ?_;exact nt
  refine Z1 ?_;refine R.fin [1,3,9,61] ?_
  refine W.cond (fun ht61=>?_) (fun ht61=>?_)
  ·refine Z1 ?_;refine Z6 ?_;refine APe ?_;exact nt
  refine Z1 ?_;refine R.fin [1,3,75] ?_
  refine W.cond (fun ht75=>?_) (fun ht75=>?_)
  ·refine AP4 ?_;refine Z58 ?_;refine H.call Tryz.call145 (fun hB=>c145 e.text _) ?_;refine Z86 ?_;refine D.tail ?_;refine G.go ?_;exact nt
  exact AOm
 refine Z21 ?_;refine R.fin [1,3,9,46] ?_;refine K.thN ?_
 refine W.cond (fun ht46=>?_) (fun ht46=>?_)
 ·refine Z1 ?_;refine Z6 ?_;refine We ?_;exact nt
 refine Z1 ?_;refine R.fin [1,3,9,61] ?_
 refine W.cond (fun ht61=>?_) (fun ht61=>?_)
 ·refine Z1 ?_;refine Z6 ?_;refine APe ?_;exact nt
 refine Z1 ?_;refine R.fin [1,3,75] ?_
 refine W.cond (fun ht75=>?_) (fun ht75=>?_)
 ·refine AP4 ?_;refine Z58 ?_;refine H.call Tryz.call145 (fun hB=>c145 e.text _) ?_;refine Z86 ?_;refine D.tail ?_;refine G.go ?_;exact nt
 exact AOm

mutual
def Bw (d:Int):Expr→List (Int×Expr)
 | .mk o t v k=>(d,.mk o t v k)::Bq (d+1) k
def Bq (d:Int):List Expr→List (Int×Expr)
  | []=>[]
  | e::r=>Bw d e++Bq d r
 end
theorem L1 (d:Int) (e:Expr):Bw d e=(d,e)::Bq (d+1) e.kids:=by cases e;rfl
theorem Ot (d:Int):∀a b,Bq d (a++b)=Bq d a++Bq d b
 | [],b=>rfl
 | e::r,b=>by rw [Ey,Bq,Bq,Ot d r b,C8]
theorem oi (d:Int) (l:List Expr) {x:Nat} (h:x<l.length):Bq d (l.take (x+1))=Bq d (l.take x)++Bw d l[x]:=by
 rw [Ld h,Ot]
 simp [Bq]
theorem Uu (d:Int) (l:List Expr) {x:Nat} (h:x<l.length):Bq d l=Bq d (l.take x)++(Bw d l[x]++Bq d (l.drop (x+1))):=by
 have e:l=l.take x++(l[x]::l.drop (x+1)):=by rw [←W5 h,Se]
 conv=>lhs;rw [e]
 rw [Ot,Bq]
mutual
def sizeE:Expr→Nat
 | .mk _ _ _ k=>1+Cs k
def Cs:List Expr→Nat
  | []=>0
  | e::r=>sizeE e+Cs r
 end
theorem Ij (e:Expr):sizeE e=1+Cs e.kids:=by cases e;rfl
theorem Wm:∀(l:List Expr) {x:Nat} (h:x<l.length),sizeE l[x]≤Cs l
 | e::r,0,_=>by simp only [List.getElem_cons_zero,Cs];omega
 | e::r,x+1,h=>by
  have:=Wm r (x:=x) (by simpa using h)
  simp only [List.getElem_cons_succ,Cs]
  omega
theorem ol (e:Expr) {x:Nat} (h:x<e.kids.length):sizeE e.kids[x]+1≤sizeE e:=by
 have:=Wm e.kids h
 rw [Ij e]
 omega
/-- Each node has few kids. -/
def okE:Nat→Expr→Prop
 | 0,_=>False
 | n+1,e=>e.text.length≤1048576∧e.kids.length≤1048576∧∀y∈e.kids,okE n y
/-- Who takes what a tree yields: item k is taken at U k; it goes on (go k) to U (k + 1), or ends at F k. Behind U k there may stand others' objects. -/
structure Takes (P:Program) (l:Nat) (L:List (Int×Expr)) (go:Nat→Bool) (U F:Nat→List AObj) (n0:Nat):Prop where
 lenU:∀k,(U k).length=n0
 lenF:∀k,(F k).length=n0
 lowU:∀k,∀x∈U k,ObjLow n0 x
 lowF:∀k,∀x∈F k,ObjLow n0 x
 lt:l<n0
 y:∀(X:List AObj) (k:Nat) (it:Int×Expr),L[k]? = some it→(∀j,j<k→go j=true)→AYield P l [A7 it.1,Aj it.2] (U k++X) (fun b H'=>b=go k∧H'=(if go k then U (k+1) else F k)++X)
theorem ObjLow.le {m m':Nat} (h:m≤m') {x:AObj} (hx:ObjLow m x):ObjLow m' x:=by
 cases x with
 | cells t cs=>exact fun y hy=>(hx y hy).mono h
 | loop s pd fr sz ps as' bd df=>exact ⟨fun s=>(hx.1 s).mono h,D7 hx.2 h⟩
 | defs=>trivial
 | dead=>trivial
 | bld _ _ _=>trivial
 | gone=>trivial
/-- What the walk over n items from k0 on comes to. -/
def oo (go:Nat→Bool) (U F:Nat→List AObj) (k0 n:Nat) (X:List AObj):AV→List AObj→Prop:=fun r H' =>
 ((∀j,j<n→go (k0+j)=true)∧r=Bz true∧H'=U (k0+n)++X)∨(∃j,j<n∧(∀i,i<j→go (k0+i)=true)∧go (k0+j)=false∧r=Bz false∧H'=F (k0+j)++X)
mutual
theorem At (m:Nat):∀e,Low m (Aj e)
 | .mk o t v k=>by
  rw [Aj]
  refine .agg _ fun y hy=>?_
  simp only [C9,Ph,or_false] at hy
  rcases hy with rfl|rfl|rfl|rfl|rfl|rfl
  ·exact .v _
  ·exact .v _
  ·exact .v _
  ·exact .v _
  ·exact .v _
  exact low_slice.2 (bc m k)
theorem bc (m:Nat):∀l,∀y∈Wl l,Low m y
  | [],y,hy=>by cases hy
  | e::r,y,hy=>by
    rw [Wl] at hy
    rcases C9.1 hy with rfl|h
    · exact At m e
    exact bc m r y h
 end
theorem Uv {V O A B own:List AObj} (h:V++O=A++(B++own)) (hl:V.length=(A++B).length):V=A++B∧O=own:=by
 rw [←C8] at h
 exact so h hl
theorem Yy {m:Nat} {A X:List AObj} (hA:∀x∈A,ObjLow m x) (hX:∀x∈X,ObjLow m x):∀x∈A++X,ObjLow m x:=fun x hx=>by
 rcases Di.1 hx with h|h
 ·exact hA x h
 exact hX x h
theorem vi {P:Program} {l:Nat} {L:List (Int×Expr)} {go:Nat→Bool} {U F:Nat→List AObj} {n0 k n K:Nat} {X own V O:List AObj} {r:AV} (T:Takes P l L go U F n0) (hV:V.length=(U K++X).length) (hp:oo go U F k n (X++own) r (V++O)):
  ∃b,r=Bz b∧O=own∧(if b then (∀j,j<n→go (k+j)=true)∧V=U (k+n)++X else ∃j,j<n∧(∀i,i<j→go (k+i)=true)∧go (k+j)=false∧V=F (k+j)++X)∧((∀x∈U K++X,ObjLow V.length x)→∀x∈V,ObjLow V.length x):=by
 have hn:n0≤V.length:=by rw [hV,Ai,T.lenU];omega
 rcases hp with ⟨h1,h2,h3⟩|⟨j,hj,h1,h2,h3,h4⟩
 ·obtain ⟨e1,e2⟩:=Uv h3 (by rw [hV];simp [T.lenU])
  refine ⟨true,h2,e2,⟨h1,e1⟩,fun h=>?_⟩
  rw [e1] at h ⊢
  exact Yy (fun x hx=>ObjLow.le (by rw [Ai,T.lenU];omega) (T.lowU _ x hx)) (fun x hx=>h x (Pg _ hx))
 obtain ⟨e1,e2⟩:=Uv h4 (by rw [hV];simp [T.lenU,T.lenF])
 refine ⟨false,h3,e2,⟨j,hj,h1,h2,e1⟩,fun h=>?_⟩
 rw [e1] at h ⊢
 exact Yy (fun x hx=>ObjLow.le (by rw [Ai,T.lenF];omega) (T.lowF _ x hx)) (fun x hx=>h x (Pg _ hx))
theorem ot (d:Int) (l:List Expr) {x:Nat} (h:x<l.length):(Bq d (l.take (x+1))).length=(Bq d (l.take x)).length+(Bw d l[x]).length:=by rw [oi d l h,Ai]
theorem AFa {d0:Int} {e:Expr} {x:Nat} (h:x<e.kids.length) {j:Nat} {it:Int×Expr} (hj:(Bw (d0+1) e.kids[x])[j]? = some it):(Bw d0 e)[1+(Bq (d0+1) (e.kids.take x)).length+j]? = some it:=by
 rw [L1 d0 e,show 1+(Bq (d0+1) (e.kids.take x)).length+j=((Bq (d0+1) (e.kids.take x)).length+j)+1 by omega,Qw,Uu (d0+1) e.kids h,Dg (by omega)]
 rw [show (Bq (d0+1) (e.kids.take x)).length+j-(Bq (d0+1) (e.kids.take x)).length=j by omega,Do (Aa.1 hj).1]
 exact hj
theorem ABn (d0:Int) (e:Expr) {x:Nat} (h:x<e.kids.length):1+(Bq (d0+1) (e.kids.take x)).length+(Bw (d0+1) e.kids[x]).length≤(Bw d0 e).length:=by
 rw [L1 d0 e,Aq,Uu (d0+1) e.kids h]
 simp only [Ai]
 omega
theorem AS8 {l:Nat} {L:List (Int×Expr)} {go:Nat→Bool} {U F:Nat→List AObj} {n0:Nat} (T:Takes Tryz.prog l L go U F n0):∀(n:Nat) (e:Expr),okE n e→∀(d0:Int) (k0:Nat) (X:List AObj),0≤d0→d0+n≤1099511627776→(∀(j:Nat) (it:Int×Expr),(Bw d0 e)[j]? = some it→L[k0+j]? = some it)→(∀j,j<k0→go j=true)→ACall Tryz.prog 142 [Aj e,A7 d0,.yield l] (U k0++X) (oo go U F k0 (Bw d0 e).length X):=by
 intro n
 induction n with
 | zero=>exact fun e h=>h.elim
 | succ n ih =>
 intro e hok d0 k0 X hd hdn hit hgo
 have hlen0:(U k0++X).length=n0+X.length:=by rw [Ai,T.lenU]
 refine B0 [.tmp 6] [0,1,2] Tryz.func142 Tryz.ntmps142 (fun d=>?_)
 refine Z1 ?_;refine A2 [1,2,3] ?_;refine Z50 ?_
 refine R.yield0 (T.y X k0 (d0,e) (hit 0 _ (by rw [L1];rfl)) hgo) ?_
 intro b Vv hV hb
 refine A3 ?_;refine A2 [1,2,3,13] ?_
 refine A6 (fun ht13=>?_) (fun ht13=>?_)
 ·have hb':b=false:=by simpa using ht13
  subst hb'
  refine Z2 ?_;refine Z69 ?_;refine Dd ?_;exact Ab (Ao Ag) (Or.inr ⟨0,by rw [L1];simp,fun i hi=>by omega,hb.1.symm,rfl,by have:=hb.2;rw [show go k0=false from hb.1.symm] at this;exact this⟩)
 have hb':b=true:=by simpa using ht13
 subst hb'
 have hgo0:go (k0+0)=true:=hb.1.symm
 have hVe:Vv=U (k0+1)++X:=by have:=hb.2;rw [show go k0=true from hb.1.symm] at this;exact this
 subst hVe
 have h0x:0≤e.kids.length∧∀j,j<1+(Bq (d0+1) (e.kids.take 0)).length→go (k0+j)=true:=⟨Al _,fun j hj=>by
  have:j=0:=by simp [Bq] at hj;omega
  subst this
  exact hgo0⟩
 refine Z4 ?_;refine Z42 ?_;refine A2 [1,2,15,16,17] ?_
 refine Bo (α:=Nat) (fun x=>⟨28,A9 1 (A7 d0) (A9 2 (.yield l) (A9 15 (.slice false 6 (e.kids.map Aj)) (A9 16 (A7 e.kids.length) (A9 17 (A7 (x:Nat)) (fun _=>.any))))),U (k0+(1+(Bq (d0+1) (e.kids.take x)).length))++X,[],[],none⟩) (fun x=>x≤e.kids.length∧∀j,j<1+(Bq (d0+1) (e.kids.take x)).length→go (k0+j)=true) (fun x=>e.kids.length-x) (0) h0x (Ar (by simp [Bq])) rfl (fun x hx=>?_)
 refine Z2 ?_;refine A2 [1,2,15,16,17,18] ?_
 refine Nc (fun ht18=>?_) (fun ht18=>?_)
 ·have hlt:x<e.kids.length:=by simpa using ht18
  have hkl:=hok.2.1
  refine AEo ?_
  refine A3 (h:=B2 (x) (Aj e.kids[x]) (fun _=>Ea hlt)) (hr:=?_)
  refine A3 ?_;refine Z11 ?_;refine A2 [1,2,8,15,16,17] ?_;refine Z33 ?_
  refine R.callG Tryz.call142 (args:=[Aj e.kids[x],A7 (d0+1),.yield l]) (by rw [C8];exact ih e.kids[x] (hok.2.2 _ (D4 hlt)) (d0+1) (k0+(1+(Bq (d0+1) (e.kids.take x)).length)) (X++_) (by omega) (by omega) (fun j it hj=>by have:=hit _ it (AFa hlt hj);rwa [←Is] at this) (fun j hj=>by rcases Aw j k0 with h|h;exact hgo j h;have:=hx.2 (j-k0) (by omega);rwa [show k0+(j-k0)=j by omega] at this)) ?_
  intro r Vv O hV hp
  obtain ⟨b,rfl,rfl,hc,hlowV⟩:=vi T hV hp
  refine ⟨hlowV,fun o ho=>by simp at ho,?_⟩
  refine A3 ?_;refine A2 [1,2,15,16,17,26] ?_
  refine A6 (fun ht26=>?_) (fun ht26=>?_)
  ·have hb':b=false:=by simpa using ht26
   subst hb'
   obtain ⟨j,hj,h1,h2,h3⟩:=hc
   refine Z2 ?_;refine Z69 ?_;refine Z66 ?_
   have hil:=ABn d0 e hlt
   refine Ab (Ao Ag) (Or.inr ⟨1+(Bq (d0+1) (e.kids.take x)).length+j,by omega,fun i hi=>?_,by rwa [Is] at h2,rfl,by rwa [Is] at h3⟩)
   rcases Aw i (1+(Bq (d0+1) (e.kids.take x)).length) with h|h
   ·exact hx.2 i h
   have:=h1 (i-(1+(Bq (d0+1) (e.kids.take x)).length)) (by omega)
   rwa [show k0+(1+(Bq (d0+1) (e.kids.take x)).length)+(i-(1+(Bq (d0+1) (e.kids.take x)).length))=k0+i by omega] at this
  have hb':b=true:=by simpa using ht26
  subst hb'
  obtain ⟨h1,h3⟩:=hc
  refine ui ?_;refine A2 [1,2,15,16,17] ?_
  subst h3
  have hll:=ot (d0+1) e.kids hlt
  have e1:k0+(1+(Bq (d0+1) (e.kids.take (x+1))).length)=k0+(1+(Bq (d0+1) (e.kids.take x)).length)+(Bw (d0+1) e.kids[x]).length:=by omega
  refine Be (x+1) ⟨hlt,fun j hj=>?_⟩ (by omega) ?_
  ·rcases Aw j (1+(Bq (d0+1) (e.kids.take x)).length) with h|h
   ·exact hx.2 j h
   have:=h1 (j-(1+(Bq (d0+1) (e.kids.take x)).length)) (by omega)
   rwa [show k0+(1+(Bq (d0+1) (e.kids.take x)).length)+(j-(1+(Bq (d0+1) (e.kids.take x)).length))=k0+j by omega] at this
  simp only [e1]
  exact Oo (own:=[]) (fun _=>.refl _) (by repeat (first|exact H3|refine H1 (by first|(simp [At];done)|(have:=T.lt;simp [T.lenU];omega)) ?_)) (by simp) (by simp)
 have hxe:e.kids.take x=e.kids:=Fw (by simp at ht18;omega)
 refine Z26 ?_;refine Z2 ?_;refine Z69 ?_
 have hl2:(Bw d0 e).length=1+(Bq (d0+1) (e.kids.take x)).length:=by rw [L1,hxe,Aq];omega
 exact Ab (Ao Ag) (Or.inl ⟨fun j hj=>hx.2 j (by omega),rfl,by rw [hl2]⟩)

abbrev E3 (e:Expr):List AV:=[.v (.int .i64 e.op),.v (sv e.text),.v (.int .i64 e.val.kind),.v (.int .i64 e.val.n),.v (sv e.val.s),.slice false 6 (e.kids.map Aj)]
/-- What taking all of a tree comes to. -/
def P5 (go:Nat→Bool) (U F:Nat→List AObj) (n:Nat) (H':List AObj):Prop:=
 ((∀j,j<n→go j=true)∧H'=U n)∨(∃j,j<n∧(∀i,i<j→go i=true)∧go j=false∧H'=F j)
theorem AMz {l:Nat} {e:Expr} {go:Nat→Bool} {U F:Nat→List AObj} {n0:Nat} (T:Takes Tryz.prog l (Bw 1 e) go U F n0) (n:Nat) (hok:okE n e) (hn:n≤1048576):ACall Tryz.prog 141 [.yield l,.ro (E3 e)] (U 0) (fun r H'=>P5 go U F (Bw 1 e).length H'):=by
 refine B0 [] [0,1] Tryz.func141 Tryz.ntmps141 (fun d=>?_)
 refine Z21 ?_;refine R.callG Tryz.call142 (args:=[Aj e,A7 1,.yield l]) (AS8 T n e hok 1 0 [] (by omega) (by omega) (fun j it hj=>by rwa [Bm]) (fun j hj=>by omega)) ?_
 intro r Vv O hV hp
 have hO:O=[]:=by
  have h1:(Vv++O).length=n0:=by rcases hp with ⟨_,_,h⟩|⟨j,_,_,_,_,h⟩<;>rw [h]<;>simp [T.lenU,T.lenF]
  have h2:=T.lenU 0
  rw [Ai,hV,h2] at h1
  exact Qu (by omega)
 subst hO
 rw [Ep] at hp
 have hq:P5 go U F (Bw 1 e).length Vv:=by
  rcases hp with ⟨h1,_,h⟩|⟨j,h1,h2,h3,_,h⟩
  ·exact .inl ⟨fun j hj=>by have:=h1 j hj;rwa [Bm] at this,by rw [h];simp⟩
  exact .inr ⟨j,h1,fun i hi=>by have:=h2 i hi;rwa [Bm] at this,by rwa [Bm] at h3,by rw [h];simp⟩
 refine ⟨fun h=>?_,fun o ho=>by simp at ho,?_⟩
 ·rcases hq with ⟨_,h⟩|⟨j,_,_,_,h⟩<;>rw [h]
  ·rw [T.lenU];exact T.lowU _
  rw [T.lenF];exact T.lowF _
 refine Nf ?_;exact On .nores (hp:=hq)

theorem AS9 (e:Expr) (Hp:List AObj):AFun Tryz.prog 106 [Aj e] Hp (.fn (.func 141) [] [.ro (E3 e)]):=by
 refine B0 [.tmp 2] [0] Tryz.func106 Tryz.ntmps106 (fun d=>?_)
 refine Z90 ?_;refine Ei ?_;refine Jj ?_;refine A3 ?_;refine Z3 ?_;exact Ab (Ao Ag) (hlow:=by have:=At Hp.length e;rw [Ad] at this;simpa using this)

def goM (e:Expr) (k:Nat):Bool:=match (Bw 1 e)[k]? with
 | some it => !((!Cl it.2 || decide ((30:Int)<it.1)) || decide ((300:Int)<(k:Int)+1))
 | none=>true
def Da (e:Expr):Bool:=(List.range (Bw 1 e).length).all (goM e)
mutual
theorem gg:∀(n:Nat) (e:Expr),okE n e→∀d,∀it∈Bw d e,it.2.text.length≤1048576
 | 0,_,h,_,_,_=>h.elim
 | n+1,e,h,d,it,hit=>by
  rw [L1] at hit
  rcases C9.1 hit with rfl|h'
  ·exact h.1
  exact gh n e.kids h.2.2 (d+1) it h'
 termination_by n e=>(n,0)
theorem gh:∀(n:Nat) (l:List Expr),(∀y∈l,okE n y)→∀d,∀it∈Bq d l,it.2.text.length≤1048576
  | n,[],_,_,_,h=>by cases h
  | n,e::r,h,d,it,hit=>by
    rw [Bq] at hit
    rcases Di.1 hit with h'|h'
    · exact gg n e (h e (by simp)) d it h'
    exact gh n r (fun y hy=>h y (by simp [hy])) d it h'
  termination_by n l=>(n,l.length+1)
 end
theorem vj {U:List AObj} {i j:Nat} {x y:AObj} (h:U[i]? = some x) (hne:j≠i):(U.set j y)[i]? = some x:=by rw [Gj hne];exact h
theorem AN0 {e:Expr} {k:Nat} {it:Int×Expr} (hit:(Bw 1 e)[k]? = some it) (h:∀j,j<k→goM e j=true):(k:Int)≤300:=by
 rcases Nat.eq_zero_or_pos k with h0|h0
 ·omega
 have hl:=(Aa.1 hit).1
 have:=h (k-1) (by omega)
 unfold goM at this
 rw [Ak (by omega)] at this
 simp at this
 omega
theorem lm {e:Expr} {k:Nat} {it:Int×Expr} (hit:(Bw 1 e)[k]? = some it):goM e k = !((!Cl it.2 || decide ((30:Int)<it.1)) || decide ((300:Int)<(k:Int)+1)):=by
 unfold goM;rw [hit]
theorem c70 (n:Nat) (e:Expr) (hok:okE n e) (hn:n≤1048576) (Hp:List AObj):AFun Tryz.prog 70 [Aj e] Hp (Bz (Da e)):=by
 refine B0 [.cell 2 4] [0,4,5] Tryz.func70 Tryz.ntmps70 (fun d=>?_)
 refine AEn ?_;refine A2 [1,2,4,5] ?_;refine Ei ?_;refine Z11 ?_;refine A2 [1,2,3,4,5] ?_;refine Z71 ?_
 refine R.assumeLow (fun hlow=>?_)
 refine AMj ?_;refine A2 [2,3,4,5,7] ?_;refine Ic ?_
 refine W.rangeV (m:=2) Tryz.call141 (fun FR as' bd' hFR has hbd=>?_)
 have hFRl:∀s,Low (Hp.length+4) (FR s):=by
  intro s
  rw [hFR]
  refine Low.strip ?_
  revert s
  repeat (first|exact H3|refine H1 (by simp [oid,At]<;>try omega) ?_)
 have hOl:∀{k:Nat},∀x∈[AObj.cells 4 [Bz false],AObj.cells 3 [A7 (k:Nat)],AObj.defs,AObj.loop LoopState.ready none FR 23 #[8,9] as' bd' (oid Hp.length 2)],ObjLow (Hp.length+4) x:=by
  intro k x hx
  simp only [C9,Ph,or_false] at hx
  rcases hx with rfl|rfl|rfl|rfl
  ·exact AIg
  ·exact AIg
  ·trivial
  exact AIs
 have hOf:∀{k:Nat},∀x∈[AObj.cells 4 [Bz false],AObj.cells 3 [A7 ((k:Nat)+1)],AObj.defs,AObj.loop LoopState.done (some Code.ret) FR 23 #[8,9] as' bd' (oid Hp.length 2)],ObjLow (Hp.length+4) x:=by
  intro k x hx
  simp only [C9,Ph,or_false] at hx
  rcases hx with rfl|rfl|rfl|rfl
  ·exact AIg
  ·exact AIg
  ·trivial
  exact AIs
 refine ⟨fun _ H'=>P5 (goM e) (fun k=>Hp++[AObj.cells 4 [Bz false],AObj.cells 3 [A7 (k:Nat)],AObj.defs,AObj.loop LoopState.ready none FR 23 #[8,9] as' bd' (oid Hp.length 2)]) (fun k=>Hp++[AObj.cells 4 [Bz false],AObj.cells 3 [A7 ((k:Nat)+1)],AObj.defs,AObj.loop LoopState.done (some Code.ret) FR 23 #[8,9] as' bd' (oid Hp.length 2)]) (Bw 1 e).length H',AMz (l:=oid Hp.length 3) (go:=goM e) (U:=fun k=>Hp++[AObj.cells 4 [Bz false],AObj.cells 3 [A7 (k:Nat)],AObj.defs,AObj.loop LoopState.ready none FR 23 #[8,9] as' bd' (oid Hp.length 2)]) (F:=fun k=>Hp++[AObj.cells 4 [Bz false],AObj.cells 3 [A7 ((k:Nat)+1)],AObj.defs,AObj.loop LoopState.done (some Code.ret) FR 23 #[8,9] as' bd' (oid Hp.length 2)]) (n0:=Hp.length+4) ⟨fun k=>by simp,fun k=>by simp,fun k x hx=>?_,fun k x hx=>?_,by simp [oid],fun X k it hit hgo=>?_⟩ n hok hn,?_⟩
 ·exact AEq
 ·exact Yy (fun x hx=>ObjLow.le (by omega) (hlow x hx)) hOf x hx
 ·have hk3:=AN0 hit hgo
  generalize hV:(Hp++[AObj.cells 4 [Bz false],AObj.cells 3 [A7 (k:Nat)],AObj.defs,AObj.loop LoopState.ready none FR 23 #[8,9] as' bd' (oid Hp.length 2)]++X)=V
  have hL:V[oid Hp.length 3]? = some (AObj.loop LoopState.ready none FR 23 #[8,9] as' bd' (oid Hp.length 2)):=by rw [←hV,C8,Cj];rfl
  have hA0:V[oid Hp.length 1]? = some (AObj.cells 3 [A7 (k:Nat)]):=by rw [←hV,C8,Cj];rfl
  have hB0:V[oid Hp.length 0]? = some (AObj.cells 4 [Bz false]):=by rw [←hV,C8,Cj];rfl
  refine kv (pd:=none) (fr:=FR) (sz:=23) (ps:=#[8,9]) (df:=oid Hp.length 2) (asg:=as') (bd:=bd') hL rfl (by decide) (fun d=>?_)
  subst hFR has hbd
  refine Eh [2,3,8,9] ?_;refine Z2 ?_;refine A2 [2,3,4,9] ?_;refine Ky ?_;refine Z11 ?_;refine ny ?_
  refine ⟨rfl,none,hL,?_⟩
  generalize hbz:(AObj.loop LoopState.busy _ _ _ _ _ _ _)=bz
  have hA:(V.set (oid Hp.length 3) bz)[oid Hp.length 1]? = some (AObj.cells 3 [A7 (k:Nat)]):=by rw [Gj (Iz (by decide))];exact hA0
  have hB:(V.set (oid Hp.length 3) bz)[oid Hp.length 0]? = some (AObj.cells 4 [Bz false]):=by rw [Gj (Iz (by decide))];exact hB0
  refine Ic ?_;refine Ei ?_
  refine A3 (h:=An hA) (hr:=?_)
  refine A3 ?_
  refine Cv jS hA ?_ ?_
  ·simp
  refine ny ?_;refine Z2 ?_;refine Ap Tryz.call107 (AS7 it.2 (gg n e hok 1 it (Bd hit)) _) ?_;refine Z30 ?_;refine Z0 ?_
  refine Bk (h:=An (getset hA)) (hr:=?_)
  refine Z55 ?_;refine A2 [2,22] ?_
  refine A6 (fun ht22=>?_) (fun ht22=>?_)
  ·have hgf:goM e k=false:=by rw [lm hit,ht22];rfl
   refine Ei ?_
   refine Cv jS (vj (j:=oid Hp.length 1) hB (Iz (by decide))) ?_ ?_
   ·simp
   refine Nf ?_;refine Kx ?_;refine K.blR ?_
   subst hbz
   refine K.rdR (ALj hL (Iz (by decide)) (Iz (by decide))) ?_
   refine ⟨hgf.symm,?_⟩
   rw [if_neg (by rw [hgf];simp)]
   subst hV
   simp only [C8,O8,Ey,Fi,List.set_cons_succ,List.set_cons_zero]
   try rfl
  have hgt:goM e k=true:=by rw [lm hit,ht22];rfl
  refine He ?_;refine Hh ?_
  subst hbz
  refine K.rdN (nk hL (Iz (by decide))) ?_
  refine ⟨hgt.symm,?_⟩
  rw [if_pos hgt]
  subst hV
  simp only [C8,O8,Ey,Fi,List.set_cons_succ,List.set_cons_zero]
  try rfl
 rintro r H' (⟨h1,rfl⟩|⟨j,hj,h1,h2,rfl⟩)
 ·refine ⟨Hp,_,_,_,rfl,rfl,fun h=>h,?_,rfl,by simp,?_⟩
  ·intro o ho
   have:o=oid Hp.length 2:=by simpa using ho
   subst this
   rw [Cj]
   rfl
  refine Z12 ?_;refine Ei ?_;refine Z18 ?_;exact Ab (Ao (R9 jA)) ⟨by rw [show Da e=true from Ay.2 fun j hj=>h1 j (Pi.1 hj)],rfl⟩
 refine ⟨Hp,_,_,_,rfl,rfl,fun h=>h,?_,rfl,by simp,?_⟩
 ·intro o ho
  have:o=oid Hp.length 2:=by simpa using ho
  subst this
  rw [Cj]
  rfl
 refine Kx ?_;refine Z8 ?_;exact Ab (Ao (R9 jA)) ⟨by rw [show Da e=false from ju.2 ⟨j,Pi.2 hj,by rw [h2];simp⟩],rfl⟩

def Bj (s:Str):Expr:=.mk 2 s ⟨0,0,[]⟩ []
theorem Uw (s:Str):Le (.agg [A7 2,Ac s,A7 0,A7 0,Ac [],.nil]) (Aj (Bj s)):=by
 rw [Ad]
 refine .agg _ _ rfl (by simp [AV.one,Value.oneCell',sv]) fun i y y' h1 h2=>?_
 match i with
 | 0=>simp at h1 h2;subst h1;subst h2;exact .inl rfl
 | 1=>simp at h1 h2;subst h1;subst h2;exact .inl rfl
 | 2=>simp at h1 h2;subst h1;subst h2;exact .inl rfl
 | 3=>simp at h1 h2;subst h1;subst h2;exact .inl rfl
 | 4=>simp at h1 h2;subst h1;subst h2;exact .inl rfl
 | 5=>simp at h1 h2;subst h1;subst h2;exact .inr ⟨rfl,6,rfl⟩
 | i+6=>simp at h1
theorem ou (s:Str) (h:s.length≤1048576):okE 1 (Bj s):=⟨h,by simp [Bj,Expr.kids],fun y hy=>by cases hy⟩
theorem contains_nil (s:Str) (h:s≠[]):Lib.contains [] s=false:=by
 cases s with
 | nil=>exact absurd rfl h
 | cons a r=>rfl
theorem contains_cons (b:UInt8) (l s:Str):Lib.contains (b::l) s=(s.isPrefixOf (b::l) || Lib.contains l s):=by
 unfold Lib.contains
 have hge:=Lib.index_ge l s
 rw [Lib.index]
 by_cases hp:s.isPrefixOf (b::l)=true
 ·rw [if_pos hp,hp];rfl
 rw [if_neg hp]
 have hp':s.isPrefixOf (b::l)=false:=Qr.2 hp
 rw [hp',Gy]
 by_cases hi:Lib.index l s = -1
 ·rw [hi];rfl
 have:(Lib.index l s == -1)=false:=by simpa using hi
 rw [this,if_neg (by simp)]
 rw [decide_eq_decide]
 omega
/-- Words between blanks. -/
def Nj:List Str→Str
 | []=>[32]
 | w::r=>32::(w++Nj r)
theorem gi (sub:Str):∀(w R:Str),(32:UInt8)∉w→Lib.contains (w++R) (32::sub)=Lib.contains R (32::sub)
 | [],R,_=>rfl
 | b::w,R,h=>by
  have hb:b≠32:=fun e=>h (by simp [e])
  rw [Ey,contains_cons,gi sub w R (fun hm=>h (by simp [hm]))]
  have:(32::sub).isPrefixOf (b::(w++R))=false:=by
   simp [List.isPrefixOf,Ne.symm hb]
  rw [this,Gy]
theorem Xo:∀(s w:Str) (R:Str),(32:UInt8)∉s→(32:UInt8)∉w→(s++[32]).isPrefixOf (w++32::R)=(s==w)
 | [],[],R,_,_=>by simp [List.isPrefixOf]
 | [],b::w,R,_,hw=>by
  have hb:(32:UInt8)≠b:=fun e=>hw (by simp [e])
  simp [List.isPrefixOf,hb]
 | a::s,[],R,hs,_=>by
  have hb:a≠(32:UInt8):=fun e=>hs (by simp [e])
  simp [List.isPrefixOf,hb]
 | a::s,b::w,R,hs,hw=>by
  have ih:=Xo s w R (fun h=>hs (by simp [h])) (fun h=>hw (by simp [h]))
  rw [Ey,Ey,List.isPrefixOf,ih]
  rfl
theorem ov:∀ws,∃R,Nj ws=32::R
 | []=>⟨[],rfl⟩
 | w::r=>⟨_,rfl⟩
theorem Nk (s:Str) (hs:(32:UInt8)∉s):∀(ws:List Str),(∀w∈ws,(32:UInt8)∉w)→Lib.contains (Nj ws) ([32]++s++[32])=ws.any (·==s)
 | [],_=>by
  rw [Nj,contains_cons,contains_nil _ (by simp),Oj]
  cases s<;>simp [List.isPrefixOf]
 | w::r,h=>by
  have hw:=h w (by simp)
  obtain ⟨R,hR⟩:=ov r
  have ih:=Nk s hs r (fun x hx=>h x (by simp [hx]))
  have e1:([32]++s++[32]:Str)=32::(s++[32]):=rfl
  rw [Nj,contains_cons,e1,gi _ w _ hw,←e1,ih,List.any_cons]
  congr 1
  rw [e1,hR]
  have:=Xo s w R hs hw
  rw [List.isPrefixOf,this]
  simp only [beq_self_eq_true,D0]
  by_cases hsw:s=w
  ·subst hsw;rfl
  rw [beq_eq_false_iff_ne.2 hsw,beq_eq_false_iff_ne.2 (Ne.symm hsw)]
theorem ep:Px=Nj words:=by kernel_rfl
theorem Xp:∀w∈words,(32:UInt8)∉w:=by decide
theorem be (s:Str):Lib.contains s [32]=s.contains 32:=by
 induction s with
 | nil=>rfl
 | cons b l ih =>
  rw [contains_cons,ih,sq]
  congr 1
  simp [List.isPrefixOf]
theorem Rk (s:Str) (h1:s≠[]) (h2:(32:UInt8)∉s):Dk s=D8 s:=by
 unfold Dk
 rw [be,ep,Nk s h2 words Xp]
 have e1:(s==[])=false:=by simpa using h1
 have e2:s.contains 32=false:=by simpa using h2
 rw [e1,e2]
 rfl
set_option maxRecDepth 8000
theorem Q0 {p:UInt8→Bool} (h:((List.range 256).all fun n=>p (UInt8.ofNat n))=true) (c:UInt8):p c=true:=by
 have:=Ay.1 h c.toNat (Pi.2 c.toNat_lt)
 simpa using this
theorem bf (c:UInt8):tails.contains c=Cr c:=by
 have:=Q0 (p:=fun c=>tails.contains c==Cr c) (by kernel_rfl) c
 simpa using this
theorem Ux (c:UInt8):letters.contains c=Cw c:=by
 have:=Q0 (p:=fun c=>letters.contains c==Cw c) (by kernel_rfl) c
 simpa using this
theorem vk:Cr 32=false:=by kernel_rfl
theorem yi (s of:Str):(Lq s of==(s.length:Int))=s.all (of.contains ·):=by
 unfold Lq Lib.trimLeftS
 induction s with
 | nil=>rfl
 | cons c r ih =>
  rw [Tm,List.all_cons]
  cases hc:of.contains c with
  | true =>
   simp only [if_true,D0]
   rw [←ih,N3]
   have:=(su (fun x=>of.contains x) (l:=r)).length_le
   simp only [beq_iff_eq,Aq]
   omega
  | false =>
   simp only [B1,if_false,N4]
   rw [beq_eq_false_iff_ne]
   simp only [Aq]
   omega
theorem Hi (s:Str):Ej s=H8 s:=by
 cases s with
 | nil=>rfl
 | cons c r =>
  unfold Ej
  rw [yi]
  have e1:((c::r).all fun x=>tails.contains x)=(c::r).all Cr:=by
   congr 1
   funext x
   exact bf x
  have e2:(Lq ((c::r).take 1) letters==1)=Cw c:=by
   have:=yi [c] letters
   rw [←Ux c]
   simpa using this
  rw [e1,e2]
  have e3:((c::r:Str)==[])=false:=rfl
  have e4:decide (((c::r).length:Int)≤16)=decide ((c::r).length≤16):=by
   rw [decide_eq_decide];omega
  rw [e3,e4]
  show _=(decide ((c::r).length≤16)&&Cw c && !D8 (c::r)&&(c::r).all Cr)
  cases ha:(c::r).all Cr with
  | false=>simp
  | true =>
   have hb:(32:UInt8)∉(c::r):=fun hm=>by
    have:=Ay.1 ha 32 hm
    rw [vk] at this
    cases this
   rw [Rk _ (by simp) hb]
   simp
theorem vl (s:Str):Da (Bj s)=H8 s:=by
 have e:Bw 1 (Bj s)=[(1,Bj s)]:=by rw [L1];rfl
 unfold Da
 rw [e]
 show ((List.range 1).all (goM (Bj s)))=_
 have g:goM (Bj s) 0=Cl (Bj s):=by
  unfold goM
  rw [e]
  simp
 simp only [k9,List.range_zero,Fi,List.all_cons,List.all_nil,jt]
 rw [g,←Hi]
 simp [Cl,Bj,Expr.op,Expr.val,Expr.text,Expr.kids,Ls]
set_option maxRecDepth 4000
def A4 (l:List Tok) (i:Nat):Tok:=l.getD i ⟨0,[],0⟩
theorem Ez {l:List Tok} {i:Nat} (h:i<l.length):(l.map En)[i]? = some (En (A4 l i)):=by
 rw [D3,Ak h]
 unfold A4
 rw [F7,Ak h]
 rfl
theorem AN1 (s:Str):Dk s=D8 s:=by
 by_cases h1:s=[]
 ·subst h1;rfl
 by_cases h2:(32:UInt8)∈s
 ·have e1:Dk s=false:=by
   unfold Dk
   rw [be,sr.2 h2]
   simp
  have e2:D8 s=false:=by
   unfold D8
   rw [jv]
   intro w hw he
   have:w=s:=by simpa using he
   subst this
   exact Xp w hw h2
  rw [e1,e2]
 exact Rk s h1 h2
end Go.SX.Nb
