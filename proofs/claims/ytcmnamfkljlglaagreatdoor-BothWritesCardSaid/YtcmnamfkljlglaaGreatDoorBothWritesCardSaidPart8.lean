/- On the way (part 8). -/
import Derived.Shelf.Strings.Builder1
import Derived.Lib.ItoaLen
import Derived.Test.YtcmnamfkljlglaaGreatDoorBothWritesCardSaidPart7
set_option linter.all false
namespace Go.SX.Nb
open Go Go.SX Go.Proofs
variable [ErrAt]
set_option maxRecDepth 4000
theorem c48 (l:List Col) (hl:l.length≤1000000) (Hp:List AObj):AFun Tryz.prog 48 [Ad l] Hp (Ad l):=by
 refine Ae [.tmp 2] [0] Tryz.func48 Tryz.ntmps48 (fun d=>?_)
 refine Z49 ?_;refine Z32 ?_
 refine R.eqlNil jU (by kernel_rfl) (fun b hb=>?_)
 refine A0 [0,4] ?_
 refine A1 (fun ht4=>?_) (fun ht4=>?_)
 ·have hl0:l=[]:=by simpa using hb ht4
  subst hl0
  refine Z2 ?_;refine R.nilTmp 2 2 false ?_;refine Z4 ?_;exact AEn
 refine Z3 ?_;refine Z86 ?_;refine A2 ?_
 refine Du jU Tryz.type46 ?_ ?_ ?_
 ·simp [Tryz.t46];omega
 ·simp [Tryz.t46];omega
 refine Ge ?_;exact AEu

theorem uc {Hp:List AObj} {y:Col} {n:Nat} (h:∀x∈Hp,ObjLow Hp.length x):∀x∈Hp++[AObj.cells 46 [],AObj.cells 46 (Ax y.name::A5 y.kind::List.replicate n AV.any)],ObjLow (Hp.length+2) x:=by
 intro x hx
 rcases G7.1 hx with hx|hx
 ·exact Ox (by omega) (h x hx)
 simp only [C2,Fd,or_false] at hx
 rcases hx with rfl|rfl
 ·intro z hz;cases hz
 intro z hz
 simp only [C2] at hz
 rcases hz with rfl|rfl|hz
 ·simp
 ·simp
 rw [List.eq_of_mem_replicate hz];simp
theorem AIt (y:Col) (Hp:List AObj):ACallO Tryz.prog 48 [Ad [y]] Hp (fun r H'=>∃cc,1≤cc∧r=.sl (oid Hp.length 1) 2 1 cc∧H'=Hp++[.cells 46 [],.cells 46 (Ax y.name::A5 y.kind::List.replicate ((cc-1)*2) AV.any)]):=by
 refine ACallO.body [.tmp 2] [0] Tryz.func48 Tryz.ntmps48 (fun d=>?_)
 refine Z49 ?_;refine Z52 ?_
 refine Qs (fun hlow=>?_)
 refine A2 ?_
 refine R.eqlNil jU (by kernel_rfl) (fun b hb=>?_)
 refine A0 [0,4] ?_
 refine A1 (fun ht4=>?_) (fun ht4=>?_)
 ·exact absurd (hb ht4) (by simp)
 refine Z3 ?_;refine Dv ?_;refine R.buildObj0 (n:=0) jU Tryz.sizeOf46 ?_;refine A2 ?_
 refine R.appendObj (k:=2) (n:=1) jU Tryz.type46 (show [Cb y]≠[] by simp) ?_ ?_ (fun cc hcc=>?_)
 ·simp [Tryz.t46]
 ·simp
 have e0:Jc [Cb y]++List.replicate ((cc-[Cb y].length)*2) AV.any=Ax y.name::A5 y.kind::List.replicate ((cc-1)*2) AV.any:=rfl
 rw [e0]
 clear e0
 refine A2 ?_;refine Z4 ?_;exact K.finO 2 (A3 (t:=2)) ⟨cc,hcc,rfl,rfl⟩ (hlow:=by simp [oid]) (hobj:=uc hlow)

theorem AGl (c:List Col) (hc:OkCols c) (m:Mov) (h:OkMov m) (h3:(m.kind==3)=false) (Hp:List AObj):AFun Tryz.prog 97 [Ad c,Fv m] Hp (Ad (B2 c m)):=by
 refine Ae [.tmp 4] [0,1] Tryz.func97 Tryz.ntmps97 (fun d=>?_)
 refine m7 ?_;refine Z1 ?_;refine A6 Tryz.call48 (c48 m.give h.gives2 _) ?_;refine A2 ?_;refine wq ?_;refine A0 [0,3,5,12] ?_
 refine A1 (fun ht12=>?_) (fun ht12=>?_)
 ·rw [h3] at ht12;cases ht12
 refine Z84 ?_;exact ADt

theorem AGm (c:List Col) (hc:OkCols c) (m:Mov) (h:OkMov m) (h3:(m.kind==3)=true) (s:Str) (y:Col) (ht:m.take=[s]) (hg:m.give=[y]) (Hp:List AObj):AFun Tryz.prog 97 [Ad c,Fv m] Hp (Ad (B2 c m)):=by
 have hgv:=ky (c:=c) h3 ht hg
 have hgy:=dl (c:=c) h3 ht hg
 obtain ⟨kd,tk,gv,ah,bk⟩:=m
 simp only at ht hg h3
 subst ht hg
 refine Ae [.tmp 4] [0,1] Tryz.func97 Tryz.ntmps97 (fun d=>?_)
 refine m7 ?_;refine Z1 ?_;refine R.callO Tryz.call48 (AIt y _) ?_
 rintro _ _ ⟨cc,hcc,rfl,rfl⟩
 refine ⟨[.cells 46 [],.cells 46 (Ax y.name::A5 y.kind::List.replicate ((cc-1)*2) AV.any)],by simp,?_⟩
 simp only [Iy,Ez]
 refine A2 ?_;refine wq ?_;refine A0 [0,3,5,12] ?_
 refine A1 (fun ht12=>?_) (fun ht12=>?_)
 ·refine Z18 ?_
  refine A2 (h:=A9 (0) (Ax s) (fun _=>rfl)) (hr:=?_)
  refine A2 ?_;refine A6 Tryz.call71 (c71 c hc s _) ?_;refine A2 ?_;refine A0 [0,5,6] ?_;refine Z1 ?_;refine A0 [0,5,6,20] ?_
  refine A1 (fun ht20=>?_) (fun ht20=>?_)
  ·have hf:¬Bg s c<0:=by simp at ht20;omega
   obtain ⟨jj,hjj,hjc⟩:=Hf hf
   refine Z28 ?_
   refine A2 (h:=A9 ((Bg s c).toNat) (Cb (c.getD (Bg s c).toNat ⟨[],0⟩)) (fun _=>Tf hf)) (hr:=?_)
   refine Z0 ?_;refine R.indexAddrSl (n:=1) 0 jU Tryz.sizeOf46 (by decide) ?_
   refine A2 (h:=Q.fieldAddrPtr (hc:=rfl)) (hr:=?_)
   refine J9 (y:=A5 (c.getD (Bg s c).toNat ⟨[],0⟩).kind) (ys:=[A5 (c.getD (Bg s c).toNat ⟨[],0⟩).kind]) (n:=1) (cs:=Ax y.name::A5 y.kind::List.replicate ((cc-1)*2) AV.any) (cs':=Ax y.name::A5 (c.getD (Bg s c).toNat ⟨[],0⟩).kind::List.replicate ((cc-1)*2) AV.any) (t':=46) jS ?_ (hc:=rfl) (hput:=rfl) (hfit:=by simp)
   refine A0 [5] ?_;refine Dk ?_;refine Z96 ?_;exact wi
  have hf:Bg s c<0:=by simp at ht20;omega
  refine Z3 ?_;refine AD1 ?_;exact wi
 rw [h3] at ht12;cases ht12

/-- What a move must have before it is turned. -/
structure MvOk (m:Mov):Prop where
 ok:OkMov m
 ahead:m.ahead.length=m.give.length
 back:m.back.length=m.take.length
 one:(m.kind==3)=true→m.take.length=1∧m.give.length=1
theorem yy {m:Mov} (h:OkMov m) (hc:En m=true):MvOk m:=⟨h,(Et hc).1,(Et hc).2,fun h3=>N2 hc (by rw [h3];rfl)⟩
theorem c97 (c:List Col) (hc:OkCols c) (m:Mov) (h:MvOk m) (Hp:List AObj):AFun Tryz.prog 97 [Ad c,Fv m] Hp (Ad (B2 c m)):=by
 cases h3:m.kind==3 with
 | false=>exact AGl c hc m h.ok h3 Hp
 | true =>
  obtain ⟨h1,h2⟩:=h.one h3
  obtain ⟨s,hs⟩:=Zo h1
  obtain ⟨y,hy⟩:=Zo h2
  exact AGm c hc m h.ok h3 s y hs hy Hp
theorem c55 (c:List Col) (hc:OkCols c) (m:Mov) (h:MvOk m) (Hp:List AObj):AFun Tryz.prog 55 [Ad c,Fv m] Hp (Ad (B2 c m)):=by
 cases h3:m.kind==3 with
 | false=>exact AIr c hc m h.ok h3 Hp
 | true =>
  obtain ⟨h1,h2⟩:=h.one h3
  obtain ⟨s,hs⟩:=Zo h1
  obtain ⟨y,hy⟩:=Zo h2
  exact AIs c hc m h.ok h3 s y hs hy Hp
theorem Vr {c:List Col} {m:Mov} (h:OkMov m):OkCols (B2 c m):=by
 refine ⟨by rw [H4];exact L4 h.gives2 (by decide),fun y hy=>?_⟩
 unfold B2 at hy
 split at hy
 ·split at hy
  ·exact h.gives.2 y hy
  cases hg:m.give with
  | nil=>rw [hg] at hy;cases hy
  | cons z r =>
   rw [hg] at hy
   rcases C2.1 hy with rfl|hy
   ·exact h.gives.2 z (by rw [hg];exact Jr)
   exact h.gives.2 y (by rw [hg];exact Pe _ hy)
 exact h.gives.2 y hy
theorem Vs {c give:List Col} {take:List Str} (hc:OkCols c) (hg:OkCols give) (hg2:give.length≤1000000):OkCols (Co c take give).1:=by
 have h0:OkCols ([]:List Col):=⟨by decide,fun y hy=>by cases hy⟩
 unfold Co
 split
 ·exact h0
 rename_i hr
 split
 ·exact h0
 split
 ·exact h0
 split
 ·exact h0
 split
 ·exact h0
 exact ik hc (by simpa using hr) hg hg2 rfl
theorem Vt {c give:List Col} {take:List Str} (h:((Co c take give).2 != 0)=false):∀s∈take,¬Bg s c<0:=by
 have ht:Fg c take=true:=by
  unfold Co at h
  split at h
  ·cases h
  split at h
  ·cases h
  rename_i ht
  simpa using ht
 intro s hs hf
 obtain ⟨j,hj⟩:=Ca hs
 have:=takenM_true.1 ht j s hj
 unfold G9 at this
 rw [show decide (Bg s c<0)=true by simpa using hf] at this
 simp at this
theorem Ro {over:List Col} {l:List Expr} {w:List Col} {x:Nat} (hl:x<l.length) (hw:x<w.length):
  Cc over (l.drop x) (w.drop x)=if Kx l[x] over w[x].kind != 0 then Kx l[x] over w[x].kind else Cc over (l.drop (x+1)) (w.drop (x+1)):=by
 rw [Gx hl,Gx hw]
 rfl
theorem Vu {over:List Col} {l:List Expr} {w:List Col} {x:Nat} (hl:l.length≤x):Cc over (l.drop x) (w.drop x)=0:=by
 rw [List.drop_eq_nil_of_le hl]
 cases w.drop x<;>rfl
theorem Hv {α β:Type} {f:α→β} {l:List α} {x:Nat} (h:x<l.length):(l.take (x+1)).map f=(l.take x).map f++[f l[x]]:=by
 rw [Gp h,Cf];rfl
theorem Zp {c:List Col} {m:Mov} (h:((Co c m.take (B2 c m)).2 != 0)=true):B4 c m=([],(Co c m.take (B2 c m)).2):=if_pos h
theorem Zq {c:List Col} {m:Mov} (h:((Co c m.take (B2 c m)).2 != 0)=false) (h2:(Cc c m.ahead (B2 c m) != 0)=true):B4 c m=([],Cc c m.ahead (B2 c m)):=by
 unfold B4;rw [if_neg (by rw [h];simp),if_pos h2]
theorem Zr {c:List Col} {m:Mov} (h:((Co c m.take (B2 c m)).2 != 0)=false) (h2:(Cc c m.ahead (B2 c m) != 0)=false) (h3:(Cc (Co c m.take (B2 c m)).1 m.back (Es c m) != 0)=true):B4 c m=([],Cc (Co c m.take (B2 c m)).1 m.back (Es c m)):=by
 unfold B4;rw [if_neg (by rw [h];simp),if_neg (by rw [h2];simp),if_pos h3]
theorem Zs {c:List Col} {m:Mov} (h:((Co c m.take (B2 c m)).2 != 0)=false) (h2:(Cc c m.ahead (B2 c m) != 0)=false) (h3:(Cc (Co c m.take (B2 c m)).1 m.back (Es c m) != 0)=false):B4 c m=((Co c m.take (B2 c m)).1,0):=by
 unfold B4;rw [if_neg (by rw [h];simp),if_neg (by rw [h2];simp),if_neg (by rw [h3];simp)]
theorem c99 (l:List Expr) (h:OkEs l) (w:List Col) (hw:w.length=l.length) (c:List Col) (hc:OkCols c) (Hp:List AObj):AFun Tryz.prog 99 [Ih l,Ad w,Ad c] Hp (A5 (Cc c l w)):=by
 refine Ae [.tmp 6] [0,1,2] Tryz.func99 Tryz.ntmps99 (fun d=>?_)
 refine Z2 ?_;refine A0 [0,1,2] ?_;refine Z27 ?_;refine A0 [1,2,11,12,13] ?_
 refine Be (α:=Nat) (fun x=>⟨37,A4 1 (Ad w) (A4 2 (Ad c) (A4 11 (Ih l) (A4 12 (A5 (l.length:Nat)) (A4 13 (A5 (x:Nat)) (fun _=>.any))))),Hp,[],[],none⟩) (fun x=>x≤l.length∧Cc c l w=Cc c (l.drop x) (w.drop x)) (fun x=>l.length-x) (0) ⟨Ah _,rfl⟩ (B0 (by simp)) rfl (fun x hx=>?_)
 refine Z2 ?_;refine A0 [1,2,11,12,13,14] ?_
 refine Dn (fun ht14=>?_) (fun ht14=>?_)
 ·have hlt:x<l.length:=by simpa using ht14
  have hlw:x<w.length:=by omega
  have hlen:=h.len
  have hst:=Ro (over:=c) hlt hlw
  refine Uh ?_
  refine A2 (h:=A9 (x) (Al l[x]) (fun _=>Ak hlt)) (hr:=?_)
  refine fy ?_;refine A0 [1,2,7,8,11,12,13] ?_;refine Z8 ?_;refine A6 Tryz.call121 (AGf 61 l[x] (h.ok _ (Az hlt)) (by decide) c hc _) ?_;refine Z67 ?_;refine A0 [1,2,7,8,10,11,12,13] ?_;refine Z1 ?_;refine A0 [1,2,7,8,10,11,12,13,25] ?_
  refine A1 (fun ht25=>?_) (fun ht25=>?_)
  ·have he:Kx l[x] c w[x].kind=(E0 l[x] c).2:=if_pos ht25
   have hm:Cc c l w=(E0 l[x] c).2:=by rw [hx.2,hst,he,if_pos ht25]
   refine Z1 ?_;refine Z75 ?_;refine C4 ?_;exact U8
  refine Z3 ?_;refine Df [0,0,0,0,12,28,60,127,255] 7 An (by kernel_rfl) ?_;refine Qx ?_
  refine Ag (h:=A9 (x) (Cb w[x]) (fun _=>Ak hlw)) (hr:=?_)
  refine Z85 ?_;refine A6 Tryz.call122 (AIp 61 l[x] (h.ok _ (Az hlt)) (by decide) c hc w[x].kind _) ?_;refine A2 ?_;refine A0 [1,2,11,12,13,35] ?_
  refine A1 (fun ht35=>?_) (fun ht35=>?_)
  ·have he:Kx l[x] c w[x].kind=10:=by unfold Kx;rw [if_neg (by rw [ht25];simp),if_pos ht35]
   have hm:Cc c l w=10:=by rw [hx.2,hst,he];rfl
   refine Sl ?_;exact U8
  have he:Kx l[x] c w[x].kind=0:=by unfold Kx;rw [if_neg (by rw [ht25];simp),if_neg (by rw [ht35];simp)]
  have hnx:Cc c l w=Cc c (l.drop (x+1)) (w.drop (x+1)):=by rw [hx.2,hst,he];rfl
  refine Ka ?_;refine A0 [1,2,11,12,13] ?_;refine As (x+1) ⟨hlt,hnx⟩ (by omega) ?_
  exact Cv (own:=[]) (fun _=>.refl _) (by repeat (first|exact Bd|refine Bc (by first|(simp [or_imp,forall_and];done)|exact Np) ?_)) (by simp) (by simp)
 have hxe:l.length≤x:=by simpa using ht14
 have hm:Cc c l w=0:=by rw [hx.2,Vu hxe]
 refine Z30 ?_;exact AEh

theorem AIu (c:List Col) (hc:OkCols c) (m:Mov) (h:OkMov m) (hf:∀s∈m.take,¬Bg s c<0) (Hp:List AObj):AFun Tryz.prog 100 [Ad c,Fv m] Hp (Ad (Es c m)):=by
 refine Ae [.tmp 4] [0,1] Tryz.func100 Tryz.ntmps100 (fun d=>?_)
 refine m7 ?_;refine Z2 ?_;refine A0 [0,3,5] ?_;refine Z52 ?_;refine Oq 5 2 ?_;refine Z93 ?_;refine A0 [0,5,9,10,11] ?_
 refine Be (α:=Nat) (fun x=>⟨26,A4 0 (Ad c) (A4 5 (.slice true 2 (((m.take.take x).map fun s=>c.getD (Bg s c).toNat ⟨[],0⟩).map Cb)) (A4 9 (Ew m.take) (A4 10 (A5 (m.take.length:Nat)) (A4 11 (A5 (x:Nat)) (fun _=>.any))))),Hp,[],[],none⟩) (fun x=>x≤m.take.length) (fun x=>m.take.length-x) (0) (Ah _) (B0 (by simp)) rfl (fun x hx=>?_)
 refine Z2 ?_;refine A0 [0,5,9,10,11,12] ?_
 refine Dn (fun ht12=>?_) (fun ht12=>?_)
 ·have hlt:x<m.take.length:=by simpa using ht12
  have htk:=h.takes
  have hfx:=hf _ (Az hlt)
  obtain ⟨jj,hjj,hjc⟩:=Hf hfx
  refine Po ?_
  refine A2 (h:=A9 (x) (Ax m.take[x]) (fun _=>Ak hlt)) (hr:=?_)
  refine Z0 ?_;refine A0 [0,5,7,9,10,11] ?_;refine Z89 ?_;refine Z13 ?_;refine A6 Tryz.call71 (c71 c hc m.take[x] _) ?_
  refine A2 (h:=A9 ((Bg m.take[x] c).toNat) (Cb (c.getD (Bg m.take[x] c).toNat ⟨[],0⟩)) (fun _=>Tf hfx)) (hr:=?_)
  refine Z60 ?_
  refine Du jU Tryz.type46 ?_ ?_ ?_
  ·simp only [Am,Bt,Bo,By,Tryz.t46];omega
  ·simp only [Am,Bt,Bo,By,Tryz.t46];omega
  refine Ge ?_;refine A0 [0,5,9,10,11] ?_;refine Uf ?_;refine A0 [0,5,9,10,11] ?_
  refine As (x+1) hlt (by omega) (Bk ?_)
  rw [Hv hlt,Cf]
  rfl
 have hxe:m.take.length≤x:=by simpa using ht12
 refine Z30 ?_;refine g9 ?_;exact A7 (Ai A3) ⟨by unfold Es;rw [D5 hxe]<;>rfl,rfl⟩ (hlow:=D7)

theorem c75 (c:List Col) (hc:OkCols c) (m:Mov) (h:MvOk m) (Hp:List AObj):AFun Tryz.prog 75 [Ad c,Fv m] Hp (.tup [Ad (B4 c m).1,A5 (B4 c m).2]):=by
 refine Ae [.tmp 4,.tmp 5] [0,1] Tryz.func75 Tryz.ntmps75 (fun d=>?_)
 refine Z18 ?_;refine M3 ?_;refine Z1 ?_;refine A6 Tryz.call97 (c97 c hc m h _) ?_;refine A2 ?_;refine A0 [0,3,6] ?_;refine Dv ?_
 have hg:=Vr (c:=c) h.ok
 have hg2:(B2 c m).length≤1000000:=by rw [H4];exact h.ok.gives2
 refine Z93 ?_;refine A6 Tryz.call98 (c98 c hc m.take h.ok.takes (B2 c m) hg hg2 _) ?_;refine Z67 ?_;refine A0 [0,3,6,7,8] ?_;refine Z8 ?_;refine A0 [0,3,6,7,8,23] ?_
 refine A1 (fun ht23=>?_) (fun ht23=>?_)
 ·have hm:=Zp ht23
  exact wm
 refine Z3 ?_;refine Z76 ?_;refine A6 Tryz.call99 (c99 m.ahead h.ok.ahead (B2 c m) (by rw [H4,h.ahead]) c hc _) ?_;refine A2 ?_;refine A0 [0,3,7,9] ?_;refine Z1 ?_;refine A0 [0,3,7,9,31] ?_
 refine A1 (fun ht31=>?_) (fun ht31=>?_)
 ·have hm:=Zq ht23 ht31
  exact wm
 refine Z3 ?_;refine K9 ?_;refine Df [0,1,0,0,12,0,63,127] 6 An (by kernel_rfl) ?_;refine Qx ?_;refine Cy Tryz.call100 (AIu c hc m h.ok (Vt ht23) _) ?_;refine Qu ?_;refine A6 Tryz.call99 (c99 m.back h.ok.back (Es c m) (by rw [Es,Am,h.back]) (Co c m.take (B2 c m)).1 (Vs hc hg hg2) _) ?_;refine A2 ?_;refine A0 [7,10] ?_;refine Z1 ?_;refine A0 [7,10,41] ?_
 refine A1 (fun ht41=>?_) (fun ht41=>?_)
 ·have hm:=Zr ht23 ht31 ht41
  exact wm
 have hm:=Zs ht23 ht31 ht41
 refine Ps ?_;exact ge

theorem c38 (c:List Col) (hc:OkCols c) (m:Mov) (h:MvOk m) (Hp:List AObj):AFun Tryz.prog 38 [Ad c,Fv m] Hp (.tup [Ad (B4 c m).1,A5 (B4 c m).2]):=by
 refine Ae [.tmp 4,.tmp 5] [0,1] Tryz.func38 Tryz.ntmps38 (fun d=>?_)
 refine Z18 ?_;refine M3 ?_;refine Z1 ?_;refine A6 Tryz.call55 (c55 c hc m h _) ?_;refine A2 ?_;refine A0 [0,3,6] ?_;refine Dv ?_
 have hg:=Vr (c:=c) h.ok
 have hg2:(B2 c m).length≤1000000:=by rw [H4];exact h.ok.gives2
 have hgl:=H4 c m
 have hah:=h.ahead
 have hbk:=h.back
 have htk:=h.ok.takes
 refine Z93 ?_;refine A6 Tryz.call56 (c56 c hc m.take h.ok.takes (B2 c m) hg hg2 _) ?_;refine Z67 ?_;refine A0 [0,3,6,7,8] ?_;refine Z8 ?_;refine A0 [0,3,6,7,8,25] ?_
 refine A1 (fun ht25=>?_) (fun ht25=>?_)
 ·have hm:=Zp ht25
  exact wm
 have hfd:=Vt ht25
 refine Pq ?_;refine A0 [0,3,6,7,9] ?_
 refine Be (α:=Nat) (fun x=>⟨77,A4 0 (Ad c) (A4 3 (.ro (Ke m)) (A4 6 (Ad (B2 c m)) (A4 7 (Ad (Co c m.take (B2 c m)).1) (A4 9 (A5 (x:Nat)) (fun _=>.any))))),Hp,[],[],none⟩) (fun x=>x≤(B2 c m).length∧Cc c m.ahead (B2 c m)=Cc c (m.ahead.drop x) ((B2 c m).drop x)) (fun x=>(B2 c m).length-x) (0) ⟨Ah _,rfl⟩ (B0 (by simp)) rfl (fun x hx=>?_)
 refine Z76 ?_;refine A0 [0,3,6,7,9,30] ?_
 refine A1 (fun ht30=>?_) (fun ht30=>?_)
 ·have hlt:x<(B2 c m).length:=by simpa using ht30
  have hla:x<m.ahead.length:=by omega
  have hst:=Ro (over:=c) hla hlt
  refine Z44 ?_;refine Df [0,1,0,7,15,0,0,96,224,480,0,2047,4095] 11 An (by kernel_rfl) ?_;refine Z45 ?_
  refine Ag (h:=A9 (x) (Al m.ahead[x]) (fun _=>Ak hla)) (hr:=?_)
  refine Z45 ?_
  refine Ag (h:=A9 (x) (Cb (B2 c m)[x]) (fun _=>Ak hlt)) (hr:=?_)
  refine Z45 ?_;refine Fx ?_;refine A6 Tryz.call57 (c57 61 m.ahead[x] (h.ok.ahead.ok _ (Az hla)) (by decide) (h.ok.ahead.size _ (Az hla)) (B2 c m)[x].kind c hc _) ?_;refine A2 ?_;refine A0 [0,3,6,7,9,10] ?_;refine Z1 ?_;refine A0 [0,3,6,7,9,10,46] ?_
  refine A1 (fun ht46=>?_) (fun ht46=>?_)
  ·have hf1:Cc c m.ahead (B2 c m)=Kx m.ahead[x] c (B2 c m)[x].kind:=by rw [hx.2,hst,if_pos ht46]
   have hm:=Zq ht25 (by rw [hf1];exact ht46)
   rw [hf1] at hm
   refine Z1 ?_;refine AB0 ?_;refine Z12 ?_;exact vh
  have hnx:Cc c m.ahead (B2 c m)=Cc c (m.ahead.drop (x+1)) ((B2 c m).drop (x+1)):=by rw [hx.2,hst,if_neg (by rw [ht46];simp)]
  refine Z79 ?_;refine A0 [0,3,6,7,9] ?_;exact As (x+1) ⟨hlt,hnx⟩ (by omega) (Bk rfl)
 have hxe:(B2 c m).length≤x:=by simpa using ht30
 have hf1:Cc c m.ahead (B2 c m)=0:=by rw [hx.2,Vu (by omega)]
 refine Z47 ?_;refine Z32 ?_;refine A0 [0,3,7,11] ?_
 refine Be (α:=Nat) (fun k=>⟨77,A4 0 (Ad c) (A4 3 (.ro (Ke m)) (A4 7 (Ad (Co c m.take (B2 c m)).1) (A4 11 (A5 (k:Nat)) (fun _=>.any)))),Hp,[],[],none⟩) (fun k=>k≤m.take.length∧Cc (Co c m.take (B2 c m)).1 m.back (Es c m)=Cc (Co c m.take (B2 c m)).1 (m.back.drop k) ((Es c m).drop k)) (fun k=>m.take.length-k) (0) ⟨Ah _,rfl⟩ (B0 (by simp)) rfl (fun k hk=>?_)
 refine M2 ?_;refine A0 [0,3,7,11,52] ?_
 refine A1 (fun ht52=>?_) (fun ht52=>?_)
 ·have hkt:k<m.take.length:=by simpa using ht52
  have hkb:k<m.back.length:=by omega
  have hfx:=hfd _ (Az hkt)
  obtain ⟨jj,hjj,hjc⟩:=Hf hfx
  have hkc:k<(Es c m).length:=by rw [Es,Am];exact hkt
  have htc:(Es c m)[k]=c.getD (Bg m.take[k] c).toNat ⟨[],0⟩:=by simp only [Es,L1]
  have hst:=Ro (over:=(Co c m.take (B2 c m)).1) hkb hkc
  rw [htc] at hst
  refine Z44 ?_;refine Df [0,1,0,7,15,0,0,0,128,0,896,1920,4032,8160,16352,32736,0,131071,262143] 17 An (by kernel_rfl) ?_;refine Z45 ?_
  refine Ag (h:=A9 (k) (Al m.back[k]) (fun _=>Ak hkb)) (hr:=?_)
  refine Qx ?_;refine Z17 ?_
  refine Ag (h:=A9 (k) (Ax m.take[k]) (fun _=>Ak hkt)) (hr:=?_)
  refine Ag ?_;refine Cy Tryz.call42 (c42 c hc m.take[k] _) ?_
  refine Ag (h:=A9 ((Bg m.take[k] c).toNat) (Cb (c.getD (Bg m.take[k] c).toNat ⟨[],0⟩)) (fun _=>Tf hfx)) (hr:=?_)
  refine Z45 ?_;refine Fx ?_;refine A6 Tryz.call57 (c57 61 m.back[k] (h.ok.back.ok _ (Az hkb)) (by decide) (h.ok.back.size _ (Az hkb)) (c.getD (Bg m.take[k] c).toNat ⟨[],0⟩).kind (Co c m.take (B2 c m)).1 (Vs hc hg hg2) _) ?_;refine A2 ?_;refine A0 [0,3,7,11,12] ?_;refine Z1 ?_;refine A0 [0,3,7,11,12,74] ?_
  refine A1 (fun ht74=>?_) (fun ht74=>?_)
  ·have hf2:=hk.2.trans hst
   rw [if_pos ht74] at hf2
   have hm:=Zr ht25 (by rw [hf1];rfl) (by rw [hf2];exact ht74)
   rw [hf2] at hm
   refine Z1 ?_;refine AB0 ?_;refine Z12 ?_;exact vh
  have hnx:=hk.2.trans hst
  rw [if_neg (by rw [ht74];simp)] at hnx
  refine Z79 ?_;refine A0 [0,3,7,11] ?_;exact As (k+1) ⟨hkt,hnx⟩ (by omega) (Bk rfl)
 have hke:m.take.length≤k:=by simpa using ht52
 have hm:=Zs ht25 (by rw [hf1];rfl) (by rw [hk.2,Vu (by omega)];rfl)
 refine Z47 ?_;refine Z18 ?_;refine Z12 ?_;exact ge

def Q9 {α:Type} (p:α→Bool) (l:List α):Int:=if l.any p then (l.findIdx p:Int) else -1
theorem ud {α:Type} {p:α→Bool} {l:List α} {i:Nat} (h:i<l.length) (hn:p l[i]=true) (hp:∀(j:Nat) (y:α),j<i→l[j]? = some y→p y=false):(i:Int)=Q9 p l:=by
 unfold Q9
 rw [if_pos (Ix.2 ⟨_,Az h,hn⟩)]
 congr 1
 refine (List.findIdx_eq h |>.2 ⟨hn,fun j hj=>?_⟩).symm
 exact hp j (l[j]'(by omega)) hj (Aa (by omega))
theorem j3 {α:Type} {p:α→Bool} {l:List α} (h:l.any p=false):(-1:Int)=Q9 p l:=by
 unfold Q9
 rw [if_neg (by rw [h];simp)]
theorem o4 {α:Type} (p:α→Bool) (l:List α):decide (0≤Q9 p l)=l.any p:=by
 unfold Q9
 cases l.any p<;>simp
def N3 (s:Str):Bool := !(D9 s)
def Kf (e:Expr):Bool := !(Bb e)
theorem dp {m:Mov} (h:(((m.ahead.length:Int) != (m.give.length:Int)) || ((m.back.length:Int) != (m.take.length:Int)))=true):En m=false:=if_pos h
theorem dq {m:Mov} (h:(((m.ahead.length:Int) != (m.give.length:Int)) || ((m.back.length:Int) != (m.take.length:Int)))=false):En m=if m.kind==1 then ((m.take.length:Int)==0)&&((m.give.length:Int)==1)
 else if m.kind==2 then ((m.take.length:Int)==1)&&((m.give.length:Int)==0)
 else if (m.kind==3) || (m.kind==6) then ((m.take.length:Int)==1)&&((m.give.length:Int)==1)
 else if m.kind==4 then ((m.take.length:Int)==1)&&decide ((1:Int)<(m.give.length:Int))
 else if m.kind==5 then decide ((1:Int)<(m.take.length:Int))&&((m.give.length:Int)==1)
 else false:=if_neg (by rw [h];simp)
theorem AIv (m:Mov) (Hp:List AObj):AFun Tryz.prog 110 [Fv m] Hp (Ar (En m)):=by
 refine Ae [.tmp 2] [0] Tryz.func110 Tryz.ntmps110 (fun d=>?_)
 refine Pp ?_;refine Df [0,1,3,0,8,24,7,127] 7 An (by kernel_rfl) ?_;refine Qx ?_;refine Z45 ?_;refine Fx ?_;refine A2 ?_;refine A0 [1,3,4] ?_;refine Z52 ?_
 simp only [Am]
 refine Z93 ?_;refine Z53 ?_;refine Z50 ?_;refine A0 [1,3,4,22] ?_
 refine A1 (fun ht22=>?_) (fun ht22=>?_)
 ·simp only [Am] at ht22
  have hm:=dp ht22
  exact qn
 simp only [Am] at ht22
 have hn:=dq ht22
 refine Mt ?_;refine A0 [3,4,24] ?_;refine Z95 ?_;refine A0 [3,4,24,25] ?_
 refine A1 (fun ht25=>?_) (fun ht25=>?_)
 ·refine Sg ?_;refine g0 ?_;exact A7 (Ai A3) ⟨by rw [hn];first|(simp only [ht22,ht25,hk3,hk6,B3,Av,Eo,Ib,if_true,if_false,A8,↓reduceIte]<;>rfl)|(simp only [ht22,ht25,hk3,B3,Av,Eo,if_true,if_false,A8,↓reduceIte]<;>rfl)|(simp only [ht22,ht25,if_true,if_false,A8,↓reduceIte]<;>rfl),rfl⟩
 refine Z1 ?_;refine A0 [3,4,24,33] ?_
 refine A1 (fun ht33=>?_) (fun ht33=>?_)
 ·refine Sg ?_;refine g0 ?_;exact A7 (Ai A3) ⟨by rw [hn];first|(simp only [ht22,ht25,ht33,hk3,hk6,B3,Av,Eo,Ib,if_true,if_false,A8,↓reduceIte]<;>rfl)|(simp only [ht22,ht25,ht33,hk3,B3,Av,Eo,if_true,if_false,A8,↓reduceIte]<;>rfl)|(simp only [ht22,ht25,ht33,if_true,if_false,A8,↓reduceIte]<;>rfl),rfl⟩
 refine Z8 ?_;refine A0 [3,4,24,41] ?_
 refine A1 (fun ht41=>?_) (fun ht41=>?_)
 ·have hk3:=ht41
  refine Z3 ?_
  refine A1 (fun ht41=>?_) (fun ht41=>?_)
  ·refine Sg ?_;refine Z56 ?_;exact Z65
  rw [hk3] at ht41;cases ht41
 have hk3:=ht41
 refine Z31 ?_;refine A0 [3,4,24,41] ?_;refine Dk ?_
 refine A1 (fun ht41=>?_) (fun ht41=>?_)
 ·have hk6:=ht41
  refine Sg ?_;refine Z56 ?_;exact Z65
 have hk6:=ht41
 refine Z1 ?_;refine A0 [3,4,24,50] ?_
 refine A1 (fun ht50=>?_) (fun ht50=>?_)
 ·refine Sg ?_;refine g0 ?_;exact A7 (Ai A3) ⟨by rw [hn];first|(simp only [ht22,ht25,ht33,ht41,ht41,ht50,hk3,hk6,B3,Av,Eo,Ib,if_true,if_false,A8,↓reduceIte]<;>rfl)|(simp only [ht22,ht25,ht33,ht41,ht41,ht50,hk3,B3,Av,Eo,if_true,if_false,A8,↓reduceIte]<;>rfl)|(simp only [ht22,ht25,ht33,ht41,ht41,ht50,if_true,if_false,A8,↓reduceIte]<;>rfl),rfl⟩
 refine Z1 ?_;refine A0 [3,4,58] ?_
 refine A1 (fun ht58=>?_) (fun ht58=>?_)
 ·refine Sg ?_;refine g0 ?_;exact AF7
 refine Z19 ?_;refine Z33 ?_;exact AF7

theorem AIw (s:Str) (hs:s.length≤1048576) (Hp:List AObj):AFun Tryz.prog 114 [Ax s] Hp (Ar (N3 s)):=by
 refine Ae [.tmp 2] [0] Tryz.func114 Tryz.ntmps114 (fun d=>?_)
 refine Z49 ?_;refine Z2 ?_;refine A6 Tryz.call111 (x6 s hs _) ?_;exact fp

theorem AIx (e:Expr) (hok:okE 61 e) (Hp:List AObj):AFun Tryz.prog 112 [Al e] Hp (Ar (Kf e)):=by
 refine Ae [.tmp 2] [0] Tryz.func112 Tryz.ntmps112 (fun d=>?_)
 refine Pp ?_;refine Z2 ?_;refine A6 Tryz.call76 (c76 61 e hok (by decide) _) ?_;exact fp

theorem AIy (l:List Str) (hl:l.length≤1048576) (hn:∀s∈l,s.length≤1048576) (Hp:List AObj):AFun Tryz.prog 138 [Ew l,.fn (.func 114) [] []] Hp (A5 (Q9 N3 l)):=by
 refine Ae [.tmp 4] [0,1] Tryz.func138 Tryz.ntmps138 (fun d=>?_)
 refine Z58 ?_;refine qi ?_
 refine Be (α:=Nat) (fun x=>⟨19,A4 0 (Ew l) (A4 1 (.fn (.func 114) [] []) (A4 7 (A5 l.length) (A4 8 (A5 (x:Nat)) (fun _=>.any)))),Hp,[],[],none⟩) (fun x=>x≤l.length∧∀(j:Nat) y,j<x→l[j]? = some y→N3 y=false) (fun x=>l.length-x) (0) ⟨Ah _,fun j y h=>by omega⟩ (B0 (by simp)) rfl (fun x hx=>?_)
 refine qh ?_
 refine Dn (fun ht9=>?_) (fun ht9=>?_)
 ·have hlt:x<l.length:=by simpa using ht9
  refine Z20 ?_;refine Z1 ?_;refine qf ?_
  refine A2 (h:=A9 (x) (Ax l[x]) (fun _=>Ak hlt)) (hr:=?_)
  refine A2 ?_;refine R.callV Tryz.call114 (AIw l[x] (hn _ (Az hlt)) _) ?_;refine qv ?_
  refine A1 (fun ht16=>?_) (fun ht16=>?_)
  ·refine g9 ?_;exact AAv
  refine Ka ?_;exact AAq
 have hxe:l.length≤x:=by simpa using ht9
 refine Z30 ?_;exact AAt

theorem AIz (l:List Str) (hl:l.length≤1048576) (hn:∀s∈l,s.length≤1048576) (Hp:List AObj):AFun Tryz.prog 113 [Ew l,.fn (.func 114) [] []] Hp (Ar (l.any N3)):=by
 refine Ae [.tmp 4] [0,1] Tryz.func113 Tryz.ntmps113 (fun d=>?_)
 refine Z58 ?_;refine Z1 ?_;refine A6 Tryz.call138 (AIy l hl hn _) ?_;exact AAw

theorem AGn (l:List Expr) (hl:l.length≤1048576) (hn:∀e∈l,okE 61 e) (Hp:List AObj):AFun Tryz.prog 139 [Ih l,.fn (.func 112) [] []] Hp (A5 (Q9 Kf l)):=by
 refine Ae [.tmp 4] [0,1] Tryz.func139 Tryz.ntmps139 (fun d=>?_)
 refine Z58 ?_;refine qi ?_
 refine Be (α:=Nat) (fun x=>⟨19,A4 0 (Ih l) (A4 1 (.fn (.func 112) [] []) (A4 7 (A5 l.length) (A4 8 (A5 (x:Nat)) (fun _=>.any)))),Hp,[],[],none⟩) (fun x=>x≤l.length∧∀(j:Nat) y,j<x→l[j]? = some y→Kf y=false) (fun x=>l.length-x) (0) ⟨Ah _,fun j y h=>by omega⟩ (B0 (by simp)) rfl (fun x hx=>?_)
 refine qh ?_
 refine Dn (fun ht9=>?_) (fun ht9=>?_)
 ·have hlt:x<l.length:=by simpa using ht9
  refine Z20 ?_;refine Z1 ?_;refine qf ?_
  refine A2 (h:=A9 (x) (Al l[x]) (fun _=>Ak hlt)) (hr:=?_)
  refine A2 ?_;refine R.callV Tryz.call112 (AIx l[x] (hn _ (Az hlt)) _) ?_;refine qv ?_
  refine A1 (fun ht16=>?_) (fun ht16=>?_)
  ·refine g9 ?_;exact AAv
  refine Ka ?_;exact AAq
 have hxe:l.length≤x:=by simpa using ht9
 refine Z30 ?_;exact AAt

theorem AAl (l:List Expr) (hl:l.length≤1048576) (hn:∀e∈l,okE 61 e) (Hp:List AObj):AFun Tryz.prog 115 [Ih l,.fn (.func 112) [] []] Hp (Ar (l.any Kf)):=by
 refine Ae [.tmp 4] [0,1] Tryz.func115 Tryz.ntmps115 (fun d=>?_)
 refine Z58 ?_;refine Z1 ?_;refine A6 Tryz.call139 (AGn l hl hn _) ?_;exact AAw

theorem AGo (s:Str) (Hp:List AObj):AFun Tryz.prog 117 [Ax s] Hp (Al (Dt s)):=by
 refine Ae [.cell 2 53] [0] Tryz.func117 Tryz.ntmps117 (fun d=>?_)
 refine b7 ?_;refine Z2 ?_;refine Mm (places:=#[(0,1),(1,1),(2,3),(5,1)]) jU (fun w=>by simp) jZ ?_;refine F9 ?_;refine R.nilCell 0 5 6 ?_;refine Z4 ?_;exact A7 (Ai (Ch jA jS)) ⟨by rw [I7];rfl,rfl⟩

theorem dr {m:Mov} {c:Col}:(((!(D9 c.name)) || (!((E3 c.kind==[])==(m.kind==3)))) || ((m.kind==3)&&(c.kind != 0))) = !Ht m c:=by
 unfold Ht
 cases D9 c.name<;>cases (E3 c.kind==([]:Str))<;>cases (m.kind==3)<;>cases (c.kind != 0)<;>rfl
theorem ACg {m:Mov} (h:(!(En m))=true):Ef m=false:=by
 have:En m=false:=by simpa using h
 unfold Ef;rw [this];rfl
theorem ACh {m:Mov} {c:Col} (hc:c∈m.give) (h:Ht m c=false):Ef m=false:=by
 have:m.give.all (Ht m)=false:=Of.2 ⟨c,hc,by rw [h];simp⟩
 unfold Ef;rw [this];simp
theorem ACi {m:Mov} (h:((m.take.any N3 || m.ahead.any Kf) || m.back.any Kf)=true):Ef m=false:=by
 unfold Ef
 rw [show N3=fun s => !(D9 s) from rfl,show Kf=fun e => !(Bb e) from rfl,Gv,Gv,Gv] at h
 cases h1:m.take.all D9<;>cases h2:m.ahead.all Bb<;>cases h3:m.back.all Bb<;>simp_all
theorem yz {m:Mov} (h1:En m=true) (h2:m.give.all (Ht m)=true) (h:((m.take.any N3 || m.ahead.any Kf) || m.back.any Kf)=false):Ef m=Jj m:=by
 unfold Ef
 rw [show N3=fun s => !(D9 s) from rfl,show Kf=fun e => !(Bb e) from rfl,Gv,Gv,Gv] at h
 rw [h1,h2]
 cases h1:m.take.all D9<;>cases h2:m.ahead.all Bb<;>cases h3:m.back.all Bb<;>simp_all
theorem Lz {α β:Type} {f:α→β} {l:List α} {d:α} (h:0<l.length):(l.map f)[0]? = some (f (l.getD 0 d)):=by
 rw [Cs,Aa h,Dd,Aa h]
 rfl
theorem Ky {α:Type} {l:List α} {d:α} (h:0<l.length):l.getD 0 d∈l:=by
 rw [Dd,Aa h]
 exact Az h
theorem ue {m:Mov} (h:(m.kind==3)=true):Jj m=(eqE (m.ahead.getD 0 Af) (Dt (m.take.getD 0 []))&&eqE (m.back.getD 0 Af) (Dt (m.give.getD 0 ⟨[],0⟩).name)):=if_pos h
theorem uf {m:Mov} (h:(m.kind==3)=false) (h6:(m.kind==6)=true):Jj m=(m.take.getD 0 []==(m.give.getD 0 ⟨[],0⟩).name):=by unfold Jj;rw [if_neg (by rw [h];simp),if_pos h6]
theorem ug {m:Mov} (h:(m.kind==3)=false) (h6:(m.kind==6)=false):Jj m=true:=by unfold Jj;rw [if_neg (by rw [h];simp),if_neg (by rw [h6];simp)]
theorem c96 (m:Mov) (h:OkMov m) (Hp:List AObj):AFun Tryz.prog 96 [Fv m] Hp (Ar (Ef m)):=by
 refine Ae [.tmp 2] [0] Tryz.func96 Tryz.ntmps96 (fun d=>?_)
 refine Pp ?_;refine Z32 ?_;refine A6 Tryz.call110 (AIv m _) ?_;refine A2 ?_;refine A0 [1,8] ?_
 refine A1 (fun ht8=>?_) (fun ht8=>?_)
 ·have hm:=ACg ht8
  exact wg
 have hct:En m=true:=by simpa using ht8
 refine Z3 ?_;refine Z76 ?_;refine A0 [1,10,11,12] ?_
 refine Be (α:=Nat) (fun x=>⟨95,A4 1 (.ro (Ke m)) (A4 10 (Ad m.give) (A4 11 (A5 (m.give.length:Nat)) (A4 12 (A5 (x:Nat)) (fun _=>.any)))),Hp,[],[],none⟩) (fun x=>x≤m.give.length∧∀(j:Nat) (y:Col),j<x→m.give[j]? = some y→(!Ht m y)=false) (fun x=>m.give.length-x) (0) ⟨Ah _,fun j y h=>by omega⟩ (B0 (by simp)) rfl (fun x hx=>?_)
 refine Z2 ?_;refine A0 [1,10,11,12,13] ?_
 refine Dn (fun ht13=>?_) (fun ht13=>?_)
 ·have hlt:x<m.give.length:=by simpa using ht13
  have hgl:=h.gives2
  refine Po ?_
  refine A2 (h:=A9 (x) (Cb m.give[x]) (fun _=>Ak hlt)) (hr:=?_)
  refine Pr ?_;refine A0 [1,4,10,11,12] ?_;refine Df [0,1,3,7,15,31,63,127,255,31,543,1567,4095,8191,16383,32767,65535,131071,262143,524287,1048575,2097151,4194303,8388607] 12 An (by kernel_rfl) ?_;refine Z17 ?_;refine Cy Tryz.call111 (x6 m.give[x].name (h.gives.2 _ (Az hlt)) _) ?_;refine Z17 ?_;refine Z63 ?_;refine H.call Tryz.call77 (fun hB=>c77 m.give[x].kind _) ?_;refine Z63 ?_;refine Z63 ?_;refine Fx ?_;refine Uc ?_;refine Z10 ?_;refine Kl ?_;refine A0 [1,10,11,12,39] ?_
  refine A1 (fun ht39=>?_) (fun ht39=>?_)
  ·rw [dr] at ht39
   have hm:=ACh (Az hlt) (by simpa using ht39)
   exact AAz
  rw [dr] at ht39
  refine Ka ?_;refine A0 [1,10,11,12] ?_;refine As (x+1) ⟨hlt,Bs hlt hx.2 ht39⟩ (by omega) ?_
  exact Cv (own:=[]) (fun _=>.refl _) (by repeat (first|exact Bd|refine Bc (by first|(simp [or_imp,forall_and];done)|exact D7|exact low_ro.2 Iq) ?_)) (by simp) (by simp)
 have hxe:m.give.length≤x:=by simpa using ht13
 have hga:m.give.all (Ht m)=true:=by have:=Gm hxe hx.2;rw [Gv] at this;simpa using this
 refine Z30 ?_;refine Z2 ?_;refine A0 [1,5] ?_;refine Z8 ?_;refine A6 Tryz.call113 (AIz m.take h.takes h.names _) ?_;refine A2 ?_;refine Z10 ?_;refine B8 ?_;refine Bj Tryz.call115 (fun hB=>AAl m.ahead h.ahead.len h.ahead.ok _) ?_;refine Z29 ?_;refine B8 ?_;refine Bj Tryz.call115 (fun hB=>AAl m.back h.back.len h.back.ok _) ?_;refine A2 ?_;refine A0 [1,55] ?_
 refine A1 (fun ht55=>?_) (fun ht55=>?_)
 ·have hm:=ACi ht55
  exact wg
 have hm0:=yz hct hga ht55
 refine Mt ?_;refine A0 [1,57] ?_;refine Z95 ?_;refine A0 [1,57,58] ?_
 refine A1 (fun ht58=>?_) (fun ht58=>?_)
 ·obtain ⟨hl1,hl2⟩:=N2 hct (by rw [ht58];simp)
  obtain ⟨hl3,hl4⟩:=Et hct
  have g1:=Lz (f:=Al) (l:=m.ahead) (d:=Af) (by omega)
  have g2:=Lz (f:=Al) (l:=m.back) (d:=Af) (by omega)
  have g3:=Lz (f:=Ax) (l:=m.take) (d:=[]) (by omega)
  have g4:=Lz (f:=Cb) (l:=m.give) (d:=⟨[],0⟩) (by omega)
  have ok1:=h.ahead.ok _ (Ky (l:=m.ahead) (d:=Af) (by omega))
  have ok2:=h.back.ok _ (Ky (l:=m.back) (d:=Af) (by omega))
  have hm:=hm0.trans (ue ht58)
  refine Df [0,1,3,7,0,16,48,112,240,511,1023,2047,4095,8191,16383,2047,34815,100351,231423,493567,1017855,2097151,4194303,8388607] 21 An (by kernel_rfl) ?_;refine Z17 ?_
  refine Ag (h:=A9 (0) (Al (m.ahead.getD 0 Af)) (fun _=>g1)) (hr:=?_)
  refine Z45 ?_
  refine Ag (h:=A9 (0) (Ax (m.take.getD 0 [])) (fun _=>g3)) (hr:=?_)
  refine Ag ?_;refine Cy Tryz.call117 (AGo (m.take.getD 0 []) _) ?_;refine Cy Tryz.call116 (AGg 61 (m.ahead.getD 0 Af) ok1 (Dt (m.take.getD 0 [])) _) ?_;refine Ag ?_;refine Z63 ?_
  refine F4 (h:=A9 (0) (Al (m.back.getD 0 Af)) (fun _=>g2)) (hr:=?_)
  refine g5 ?_
  refine F4 (h:=A9 (0) (Cb (m.give.getD 0 ⟨[],0⟩)) (fun _=>g4)) (hr:=?_)
  refine Z63 ?_;refine H.call Tryz.call117 (fun hB=>AGo (m.give.getD 0 ⟨[],0⟩).name _) ?_;refine Fx ?_;refine Bj Tryz.call116 (fun hB=>AGg 61 (m.back.getD 0 Af) ok2 (Dt (m.give.getD 0 ⟨[],0⟩).name) _) ?_;exact AE2
 refine Z1 ?_;refine A0 [1,83] ?_
 refine A1 (fun ht83=>?_) (fun ht83=>?_)
 ·obtain ⟨hl1,hl2⟩:=N2 hct (by rw [ht83];simp)
  obtain ⟨hl3,hl4⟩:=Et hct
  have g1:=Lz (f:=Al) (l:=m.ahead) (d:=Af) (by omega)
  have g2:=Lz (f:=Al) (l:=m.back) (d:=Af) (by omega)
  have g3:=Lz (f:=Ax) (l:=m.take) (d:=[]) (by omega)
  have g4:=Lz (f:=Cb) (l:=m.give) (d:=⟨[],0⟩) (by omega)
  have ok1:=h.ahead.ok _ (Ky (l:=m.ahead) (d:=Af) (by omega))
  have ok2:=h.back.ok _ (Ky (l:=m.back) (d:=Af) (by omega))
  have hm:=hm0.trans (uf ht58 ht83)
  refine AE9 ?_
  refine Ag (h:=A9 (0) (Ax (m.take.getD 0 [])) (fun _=>g3)) (hr:=?_)
  refine Z45 ?_
  refine Ag (h:=A9 (0) (Cb (m.give.getD 0 ⟨[],0⟩)) (fun _=>g4)) (hr:=?_)
  refine Z85 ?_;exact AE2
 have hm:=hm0.trans (ug ht58 ht83)
 refine Z19 ?_;refine Z33 ?_;exact r6

def o5 (m:Mov):Bool := !(Ef m)
theorem z3 (l:List Mov):(decide ((l.length:Int)≤8) && !(l.any o5))=M5 l:=by
 unfold M5
 rw [show o5=fun m => !(Ef m) from rfl,Gv]
 simp
theorem c95 (m:Mov) (h:OkMov m) (Hp:List AObj):AFun Tryz.prog 95 [Fv m] Hp (Ar (o5 m)):=by
 refine Ae [.tmp 2] [0] Tryz.func95 Tryz.ntmps95 (fun d=>?_)
 refine Pp ?_;refine Z2 ?_;refine A6 Tryz.call96 (c96 m h _) ?_;exact fp

theorem AJ0 (l:List Mov) (h:OkMovs l) (Hp:List AObj):AFun Tryz.prog 109 [D6 l,.fn (.func 95) [] []] Hp (A5 (Q9 o5 l)):=by
 refine Ae [.tmp 4] [0,1] Tryz.func109 Tryz.ntmps109 (fun d=>?_)
 refine Z58 ?_;refine qi ?_
 refine Be (α:=Nat) (fun x=>⟨19,A4 0 (D6 l) (A4 1 (.fn (.func 95) [] []) (A4 7 (A5 l.length) (A4 8 (A5 (x:Nat)) (fun _=>.any)))),Hp,[],[],none⟩) (fun x=>x≤l.length∧∀(j:Nat) (y:Mov),j<x→l[j]? = some y→o5 y=false) (fun x=>l.length-x) (0) ⟨Ah _,fun j y h=>by omega⟩ (B0 (by simp)) rfl (fun x hx=>?_)
 refine qh ?_
 refine Dn (fun ht9=>?_) (fun ht9=>?_)
 ·have hlt:x<l.length:=by simpa using ht9
  have hlen:=h.len
  refine Z20 ?_;refine Z1 ?_;refine qf ?_
  refine A2 (h:=A9 (x) (Fv l[x]) (fun _=>Ak hlt)) (hr:=?_)
  refine A2 ?_;refine R.callV Tryz.call95 (c95 l[x] (h.each _ (Az hlt)) _) ?_;refine qv ?_
  refine A1 (fun ht16=>?_) (fun ht16=>?_)
  ·refine g9 ?_;exact AAv
  refine Ka ?_;exact AAq
 have hxe:l.length≤x:=by simpa using ht9
 refine Z30 ?_;exact AAt

theorem c94 (l:List Mov) (h:OkMovs l) (Hp:List AObj):AFun Tryz.prog 94 [D6 l,.fn (.func 95) [] []] Hp (Ar (l.any o5)):=by
 refine Ae [.tmp 4] [0,1] Tryz.func94 Tryz.ntmps94 (fun d=>?_)
 refine Z58 ?_;refine Z1 ?_;refine A6 Tryz.call109 (AJ0 l h _) ?_;exact AAw

theorem c73 (l:List Mov) (h:OkMovs l) (Hp:List AObj):AFun Tryz.prog 73 [D6 l] Hp (Ar (M5 l)):=by
 refine Ae [.tmp 2] [0] Tryz.func73 Tryz.ntmps73 (fun d=>?_)
 refine Z49 ?_;refine md ?_;refine Bj Tryz.call94 (fun hB=>c94 l h _) ?_;refine B8 ?_;refine Z56 ?_;exact A7 (Ai A3) ⟨by rw [←z3,Am],rfl⟩

theorem c47 (c:List Col) (hc:OkCols c) (l:List Mov) (h:OkMovs l) (Hp:List AObj):AFun Tryz.prog 47 [Ad c,D6 l] Hp (Ar (Jk c l)):=by
 refine Ae [.tmp 4] [0,1] Tryz.func47 Tryz.ntmps47 (fun d=>?_)
 refine Z58 ?_;refine Z2 ?_;refine A6 Tryz.call72 (c72 c hc _) ?_;refine ma ?_;refine Bj Tryz.call73 (fun hB=>c73 l h _) ?_;refine Ua ?_;exact A7 (Ai A3) ⟨by unfold Jk;rw [Ks],rfl⟩

theorem o6 {Hp:List AObj} {c:List Col} (h:∀x∈Hp,ObjLow Hp.length x):∀x∈Hp++[AObj.cells 22 [Ad c]],ObjLow (Hp.length+1) x:=by
 intro x hx
 rcases G7.1 hx with hx|hx
 ·exact Ox (by omega) (h x hx)
 rw [Bz.1 hx]
 intro z hz
 rw [Bz.1 hz]
 exact D7
theorem c49 (c:List Col) (l:List Mov) (Hp:List AObj):ACallO Tryz.prog 49 [Ad c,D6 l] Hp (fun r H'=>r=.fn (.func 74) [] [.ro [D6 l],.ptr (oid Hp.length 0) 0]∧H'=Hp++[.cells 22 [Ad c]]):=by
 refine ACallO.body [.tmp 4] [0,1] Tryz.func49 Tryz.ntmps49 (fun d=>?_)
 refine bb ?_;refine Z0 ?_;refine A0 [2,3] ?_;refine Dv ?_
 refine Qs (fun hlow=>?_)
 refine U2 ?_;refine A2 ?_;refine Z21 ?_;exact K.finO 1 (A3 (t:=4)) ⟨rfl,rfl⟩ (hlow:=by simp [oid,or_imp,forall_and];exact ⟨fun m _ a _=>Dg _ a,fun m _ a _=>Dg _ a⟩) (hobj:=o6 hlow)

theorem c74 (l oc:Nat) (ms:List Mov) (hm:∀m∈ms,MvOk m) (hml:ms.length≤1048576) (C:Nat→List Col) (hC:∀k,OkCols (C k)) (U T:Nat→List AObj) (N:Nat→Prop) (Z:List AObj→Prop) (hlen:∀k,(U k).length=(U 0).length) (hlenW:∀k,(T k).length=(U 0).length) (hll:l<(U 0).length) (hol:oc<(U 0).length)
  (hlw:∀k,∀x∈U k,ObjLow (U 0).length x) (hlW:∀k,∀x∈T k,ObjLow (U 0).length x) (h0:N 0) (hc:∀k,(U k)[oc]? = some (.cells 22 [Ad (C k)])) (hcW:∀k,(T k)[oc]? = some (.cells 22 [Ad (C k)]))
  (hn:∀k m,ms[k]? = some m→(B4 (C k) m).2=0→(T k).set oc (.cells 22 [Ad (B4 (C k) m).1])=U (k+1))
  (hy:∀k m X,ms[k]? = some m→N k→AYield Tryz.prog l [Ad (B4 (C k) m).1,A5 (B4 (C k) m).2] (U k++X) (fun b H'=>((B4 (C k) m).2≠0∧∃V,H'=V++X∧V.length=(U 0).length∧(∀x∈V,ObjLow (U 0).length x)∧Z V)∨((B4 (C k) m).2=0∧b=true∧N (k+1)∧H'=T k++X)))
  (hR:N ms.length→Z (U ms.length)):ACall Tryz.prog 74 [.yield l,.ro [D6 ms],.ptr oc 0] (U 0) (fun _ H'=>Z H'):=by
 refine Ae [] [0,1,2] Tryz.func74 Tryz.ntmps74 (fun d=>?_)
 refine Z18 ?_;refine A0 [0,2,8,9,10] ?_
 refine Be (α:=Nat) (fun x=>⟨31,A4 0 (.yield l) (A4 2 (.ptr oc 0) (A4 8 (D6 ms) (A4 9 (A5 ms.length) (A4 10 (A5 (x:Nat)) (fun _=>.any))))),U x,[],[],none⟩) (fun x=>x≤ms.length∧N x) (fun x=>ms.length-x) (0) ⟨Ah _,h0⟩ (B0 (by simp)) rfl (fun x hx=>?_)
 refine Z2 ?_;refine A0 [0,2,8,9,10,11] ?_
 refine Dn (fun ht11=>?_) (fun ht11=>?_)
 ·have hlt:x<ms.length:=by simpa using ht11
  refine Po ?_
  refine A2 (h:=A9 (x) (Fv ms[x]) (fun _=>Ak hlt)) (hr:=?_)
  refine Pr ?_;refine A0 [0,2,5,8,9,10] ?_;refine Dv ?_
  refine A2 (h:=Ml (hc x)) (hr:=?_)
  refine A2 ?_;refine A6 Tryz.call75 (c75 (C x) (hC x) ms[x] (hm _ (Az hlt)) _) ?_;refine Z67 ?_;refine A0 [0,2,6,7,8,9,10] ?_;refine Z27 ?_
  refine R.yield (l:=l) (args:=[Ad (B4 (C x) ms[x]).1,A5 (B4 (C x) ms[x]).2]) (hy x ms[x] _ (Aa hlt) hx.2) ?_
  intro b V O hV hb
  have hVO:O=[AObj.cells 50 (Ke ms[x])]∧(((B4 (C x) ms[x]).2≠0∧V.length=(U 0).length∧(∀y∈V,ObjLow (U 0).length y)∧Z V)∨((B4 (C x) ms[x]).2=0∧b=true∧N (x+1)∧V=T x)):=by
   rcases hb with ⟨h1,V',h2,h3,h4,h5⟩|⟨h1,h2,h3,h4⟩
   ·obtain ⟨rfl,rfl⟩:=Qh h2 (by rw [hV,hlen x,h3])
    exact ⟨rfl,.inl ⟨h1,h3,h4,h5⟩⟩
   have h6:=Qh h4 (by rw [hV,hlen x,hlenW x])
   exact ⟨h6.2,.inr ⟨h1,h2,h3,h6.1⟩⟩
  obtain ⟨rfl,hVO⟩:=hVO
  have hVl:V.length=(U 0).length:=by rw [hV,hlen x]
  have hVw:∀y∈V,ObjLow (U 0).length y:=by
   rcases hVO with ⟨_,_,h,_⟩|⟨_,_,_,rfl⟩
   ·exact h
   exact hlW _
  refine ⟨fun _=>by rw [hVl];exact hVw,fun o ho=>(by cases ho),?_⟩
  refine Z29 ?_;refine A2 ?_;refine A0 [0,2,6,8,9,10,28] ?_
  refine A1 (fun ht28=>?_) (fun ht28=>?_)
  ·have hZ:Z V:=by
    rcases hVO with ⟨_,_,_,h⟩|⟨h1,h2,_,_⟩
    ·exact h
    rw [h1,h2] at ht28;simp at ht28
   refine Fq ?_;refine C4 ?_;refine Z35 ?_;exact A7 .nores (hp:=hZ)
  have hVn:(B4 (C x) ms[x]).2=0∧N (x+1)∧V=T x:=by
   rcases hVO with ⟨h1,_,_,_⟩|⟨h1,_,h3,h4⟩
   ·simp [h1] at ht28
   exact ⟨h1,h3,h4⟩
  obtain ⟨hz,hN,rfl⟩:=hVn
  have hnx:=hn x _ (Aa hlt) hz
  refine Z3 ?_;refine Z51 ?_
  refine Ol jS (hcW x) ?_ ?_
  ·first|exact D7|(simp [or_imp,forall_and];done)
  refine A0 [0,2,8,9,10] ?_;refine Uf ?_;refine A0 [0,2,8,9,10] ?_;refine As (x+1) ⟨hlt,hN⟩ (by omega) ?_
  rw [hnx]
  exact Cv (own:=[]) (fun _=>.refl _) (by repeat (first|exact Bd|refine Bc (by first|(simp [or_imp,forall_and];done)|exact F7|(have:=hlen (x+1);simp;omega)) ?_)) (by simp) (by simp)
 have hxe:x=ms.length:=by have:=hx.1;simp at ht11;omega
 refine K.lpE ?_;exact K.finN .nores (hp:=by rw [hxe];exact hR (hxe ▸ hx.2))

/-! The columns on the way through moves. -/
def colsAt (c:List Col) (ms:List Mov):Nat→List Col
 | 0=>c
 | k+1=>match ms[k]? with|some m=>(B4 (colsAt c ms k) m).1|none=>colsAt c ms k
def Ce (c:List Col) (ms:List Mov):Nat→List (List Col)
 | 0=>[c]
 | k+1=>Ce c ms k++[colsAt c ms (k+1)]
def NS (c:List Col) (ms:List Mov) (k:Nat):Prop:=Da c ms=((Ce c ms k).dropLast++(Da (colsAt c ms k) (ms.drop k)).1,(Da (colsAt c ms k) (ms.drop k)).2)
theorem Zt (c:List Col) (ms:List Mov) (k:Nat):(Ce c ms k).dropLast++[colsAt c ms k]=Ce c ms k:=by
 cases k with
 | zero=>rfl
 | succ k=>simp [Ce]
theorem Ei {c:List Col} {ms:List Mov} {k:Nat} {m:Mov} (h:ms[k]? = some m):colsAt c ms (k+1)=(B4 (colsAt c ms k) m).1:=by rw [colsAt,h]
theorem Vw {ms:List Mov} {k:Nat} {m:Mov} (hk:ms[k]? = some m):ms.drop k=m::ms.drop (k+1):=by
 obtain ⟨h1,h2⟩:=Ac.1 hk
 rw [Gx h1,h2]
theorem z4 {c:List Col} {ms:List Mov}:NS c ms 0:=rfl
theorem Tg {c:List Col} {ms:List Mov} {k:Nat} {m:Mov} (hk:ms[k]? = some m) (h:NS c ms k) (he:(B4 (colsAt c ms k) m).2=0):NS c ms (k+1):=by
 unfold NS at h ⊢
 rw [h,Vw hk]
 have e:Da (colsAt c ms k) (m::ms.drop (k+1))=(colsAt c ms k::(Da (B4 (colsAt c ms k) m).1 (ms.drop (k+1))).1,(Da (B4 (colsAt c ms k) m).1 (ms.drop (k+1))).2):=by
  rw [Da,if_neg (by rw [he];simp)]
 have e2:(Ce c ms (k+1)).dropLast=Ce c ms k:=by simp [Ce]
 rw [e,e2,Ei hk]
 have e3:=Zt c ms k
 refine Il ?_ rfl
 show (Ce c ms k).dropLast++(colsAt c ms k::_)=Ce c ms k++_
 conv=>rhs;rw [←e3]
 simp
theorem j4 {c:List Col} {ms:List Mov} {k:Nat} {m:Mov} (hk:ms[k]? = some m) (h:NS c ms k) (he:(B4 (colsAt c ms k) m).2≠0):(Da c ms).2=(B4 (colsAt c ms k) m).2:=by
 unfold NS at h
 rw [h,Vw hk,Da,if_pos (by simpa using he)]
theorem Zu {c:List Col} {ms:List Mov} (h:NS c ms ms.length):Da c ms=(Ce c ms ms.length,0):=by
 unfold NS at h
 rw [h,List.drop_length,Da]
 exact Il (Zt c ms ms.length) rfl
theorem dt {c:List Col} {m:Mov} (hc:OkCols c) (h:OkMov m):OkCols (B4 c m).1:=by
 have h0:OkCols ([]:List Col):=⟨by decide,fun y hy=>by cases hy⟩
 unfold B4
 split
 ·exact h0
 split
 ·exact h0
 split
 ·exact h0
 exact Vs hc (Vr h) (by rw [H4];exact h.gives2)
theorem Ej {c:List Col} {ms:List Mov} (hc:OkCols c) (h:∀m∈ms,OkMov m):∀k,OkCols (colsAt c ms k)
 | 0=>hc
 | k+1=>by
  rw [colsAt]
  cases hk:ms[k]? with
  | none=>exact Ej hc h k
  | some m=>exact dt (Ej hc h k) (h m (Ay hk))
theorem Hg (c:List Col) (ms:List Mov):∀k,(Ce c ms k).length=k+1
 | 0=>rfl
 | k+1=>by rw [Ce,Aw,Hg c ms k];rfl
theorem Zv {c:List Col} {ms:List Mov} (h:Jk c ms=true) (hk:OkMovs ms):(∀m∈ms,MvOk m)∧ms.length≤8:=by
 unfold Jk M5 at h
 simp only [Ap,decide_eq_true_eq,B9] at h
 exact ⟨fun m hm=>yy (hk.each m hm) (Iv (h.2.2 m hm)),by omega⟩
theorem Xi {c:List Col} {ms:List Mov} (h:Jk c ms=false):Cd c ms=([],1):=by
 have:F6 c ms=([],1):=if_neg (by rw [h];simp)
 unfold Cd
 rw [this];rfl
theorem Vx {c:List Col} {ms:List Mov} (h:Jk c ms=true) (he:(Da c ms).2≠0):Cd c ms=([],(Da c ms).2):=by
 have:F6 c ms=Da c ms:=if_pos h
 unfold Cd
 rw [this,if_pos (by simpa using he)]
theorem Rp {c:List Col} {ms:List Mov} {o:List (List Col)} (h:Jk c ms=true) (he:Da c ms=(o,0)):Cd c ms=(o,0):=by
 have:F6 c ms=Da c ms:=if_pos h
 unfold Cd
 rw [this,he];rfl
abbrev Jm (l:List (List Col)):AV:=.slice false 1 (l.map Ad)
theorem Dw {n k:Nat} {o:Bool} {l:List (List Col)}:Low n (.slice o k (l.map Ad)):=low_slice.2 fun y hy=>by
 obtain ⟨m,_,rfl⟩:=Db.1 hy
 exact D7
theorem Zw {U:List AObj} {i j:Nat} {x y:AObj} (h:U[i]? = some x) (hne:j≠i):(U.set j y)[i]? = some x:=by rw [Fb hne];exact h
theorem o7 {n k:Nat} {o:Bool} {l:List (List Col)} {c:List Col}:Low n (.slice o k (l.map Ad++[Ad c])):=by
 have:=Dw (n:=n) (k:=k) (o:=o) (l:=l++[c])
 rwa [Cf] at this
theorem c33 (c:List Col) (hc:OkCols c) (hc2:c.length≤1000000) (l:List Mov) (h:OkMovs l) (Hp:List AObj):AFun Tryz.prog 33 [Ad c,D6 l] Hp (.tup [Jm (Cd c l).1,A5 (Cd c l).2]):=by
 refine Ae [.cell 4 63,.cell 5 31] [0,1,7,8] Tryz.func33 Tryz.ntmps33 (fun d=>?_)
 refine Z98 ?_;refine O0 ?_;refine A0 [0,1,4,5,7,8] ?_;refine Z8 ?_;refine A6 Tryz.call47 (c47 c hc l h _) ?_;refine A2 ?_;refine A0 [0,1,4,5,7,8,12] ?_
 refine A1 (fun ht12=>?_) (fun ht12=>?_)
 ·have hm:=Xi (by simpa using ht12)
  refine Dv ?_;refine F9 ?_;refine R.nilOwn 0 1 ?_;refine F9 ?_;refine Z43 ?_;exact A7 (Aj (H9 jA) (H9 jA)) ⟨by rw [hm];rfl,rfl⟩
 have hmay:Jk c l=true:=by simpa using ht12
 obtain ⟨hmv,hl8⟩:=Zv hmay h
 refine Ja ?_;refine A6 Tryz.call48 (c48 c hc2 _) ?_;refine Ui ?_;refine O0 ?_;refine R.storeOwnT jS ?_;refine A0 [0,1,4,5,6,7,8] ?_;refine Z52 ?_
 refine Qs (fun hlow=>?_)
 refine Z0 ?_;refine R.callO Tryz.call49 (c49 c l _) ?_
 rintro _ _ ⟨rfl,rfl⟩
 refine ⟨[.cells 22 [Ad c]],by simp,?_⟩
 rw [show oid (Hp++[AObj.cells 63 [AV.nil],AObj.cells 31 [A5 0],AObj.cells 63 [AV.slice true 1 [Ad c]]]).length 0=oid Hp.length 3 by simp [oid]]
 simp only [Fa,Ez]
 refine A0 [4,5,6,7,8,18] ?_;refine Ii ?_
 refine W.rangeV (m:=4) Tryz.call74 (fun FR as' bd' hFR has hbd=>?_)
 have hFRl:∀s,Low (Hp.length+6) (FR s):=by
  intro s
  rw [hFR]
  refine Y8 ?_
  revert s
  repeat (first|exact Bd|refine Bc (by first|(simp [oid,or_imp,forall_and];done)|(simp [oid,or_imp,forall_and];exact ⟨fun m _ a _=>Dg _ a,fun m _ a _=>Dg _ a⟩)|(simp [oid,or_imp,forall_and]<;>omega)) ?_)
 have hOl:∀{e:Int} {o:List (List Col)} {q:List Col} {lp:AObj},ObjLow (Hp.length+6) lp→∀x∈Hp++[AObj.cells 63 [AV.nil],AObj.cells 31 [A5 e],AObj.cells 63 [AV.slice true 1 ((o).map Ad)],AObj.cells 22 [Ad (q)],AObj.defs,lp],ObjLow (Hp.length+6) x:=by
  intro e o q lp hlp x hx
  refine Lk (fun x hx=>Ox (by omega) (hlow x hx)) (fun x hx=>?_) x hx
  simp only [C2,Fd,or_false] at hx
  rcases hx with rfl|rfl|rfl|rfl|rfl|rfl
  ·intro y hy;rw [Bz.1 hy];simp
  ·intro y hy;rw [Bz.1 hy];simp
  ·intro y hy;rw [Bz.1 hy];exact Dw
  ·intro y hy;rw [Bz.1 hy];exact D7
  ·trivial
  exact hlp
 refine ⟨_,c74 (oid Hp.length 5) (oid Hp.length 3) l hmv (by omega) (colsAt c l) (Ej hc fun m hm=>h.each m hm) (fun k=>Hp++[AObj.cells 63 [AV.nil],AObj.cells 31 [A5 0],AObj.cells 63 [AV.slice true 1 ((Ce c l k).map Ad)],AObj.cells 22 [Ad (colsAt c l k)],AObj.defs,AObj.loop LoopState.ready none FR 29 #[19,20] as' bd' (oid Hp.length 4)]) (fun k=>Hp++[AObj.cells 63 [AV.nil],AObj.cells 31 [A5 0],AObj.cells 63 [AV.slice true 1 ((Ce c l (k+1)).map Ad)],AObj.cells 22 [Ad (colsAt c l k)],AObj.defs,AObj.loop LoopState.ready none FR 29 #[19,20] as' bd' (oid Hp.length 4)]) (NS c l) (fun V=>(∃(o:List (List Col)) (q:List Col),V=Hp++[AObj.cells 63 [AV.nil],AObj.cells 31 [A5 0],AObj.cells 63 [AV.slice true 1 ((o).map Ad)],AObj.cells 22 [Ad (q)],AObj.defs,AObj.loop LoopState.ready none FR 29 #[19,20] as' bd' (oid Hp.length 4)]∧Da c l=(o,0))∨(∃(e:Int) (o:List (List Col)) (q:List Col),V=Hp++[AObj.cells 63 [AV.nil],AObj.cells 31 [A5 e],AObj.cells 63 [AV.slice true 1 ((o).map Ad)],AObj.cells 22 [Ad (q)],AObj.defs,AObj.loop LoopState.done (some Code.ret) FR 29 #[19,20] as' bd' (oid Hp.length 4)]∧e≠0∧(Da c l).2=e)) (fun k=>by simp) (fun k=>by simp) (by simp [oid]) (by simp [oid]) (fun k=>(fun x hx=>by rw [Aw];exact hOl (lp:=AObj.loop LoopState.ready none FR 29 #[19,20] as' bd' (oid Hp.length 4)) (by exact ⟨hFRl,by simp [oid]⟩) x hx)) (fun k=>(fun x hx=>by rw [Aw];exact hOl (lp:=AObj.loop LoopState.ready none FR 29 #[19,20] as' bd' (oid Hp.length 4)) (by exact ⟨hFRl,by simp [oid]⟩) x hx)) z4 (fun k=>by rw [Dh];rfl) (fun k=>by rw [Dh];rfl) (fun k m hk he=>by rw [K1];simp only [Ei hk];rfl) (fun k m X hk hN=>?_) (fun hN=>.inl ⟨_,_,rfl,Zu hN⟩),?_⟩
 ·generalize hV:Hp++[AObj.cells 63 [AV.nil],AObj.cells 31 [A5 0],AObj.cells 63 [AV.slice true 1 ((Ce c l k).map Ad)],AObj.cells 22 [Ad (colsAt c l k)],AObj.defs,AObj.loop LoopState.ready none FR 29 #[19,20] as' bd' (oid Hp.length 4)]++X=V
  have hL:V[oid Hp.length 5]? = some (AObj.loop LoopState.ready none FR 29 #[19,20] as' bd' (oid Hp.length 4)):=by rw [←hV,C9,Dh];rfl
  have hA0:V[oid Hp.length 2]? = some (AObj.cells 63 [AV.slice true 1 ((Ce c l k).map Ad)]):=by rw [←hV,C9,Dh];rfl
  have hB0:V[oid Hp.length 0]? = some (AObj.cells 63 [AV.nil]):=by rw [←hV,C9,Dh];rfl
  have hC0:V[oid Hp.length 1]? = some (AObj.cells 31 [A5 0]):=by rw [←hV,C9,Dh];rfl
  refine Ye (pd:=none) (fr:=FR) (sz:=29) (ps:=#[19,20]) (df:=oid Hp.length 4) (asg:=as') (bd:=bd') hL rfl (by decide) (fun d=>?_)
  subst hFR has hbd
  refine Mr [4,5,6,19,20] ?_;refine Z2 ?_;refine A0 [4,5,6,7,20] ?_;refine Z51 ?_;refine A0 [4,5,6,7,8] ?_
  refine ⟨rfl,none,hL,?_⟩
  generalize hbz:(AObj.loop LoopState.busy _ _ _ _ _ _ _)=bz
  have hA:(V.set (oid Hp.length 5) bz)[oid Hp.length 2]? = some (AObj.cells 63 [AV.slice true 1 ((Ce c l k).map Ad)]):=by rw [Fb (D8 (by decide))];exact hA0
  have hB:(V.set (oid Hp.length 5) bz)[oid Hp.length 0]? = some (AObj.cells 63 [AV.nil]):=by rw [Fb (D8 (by decide))];exact hB0
  have hC:(V.set (oid Hp.length 5) bz)[oid Hp.length 1]? = some (AObj.cells 31 [A5 0]):=by rw [Fb (D8 (by decide))];exact hC0
  refine Ii ?_;refine Z8 ?_;refine A0 [4,5,6,7,8,22] ?_
  refine A1 (fun ht22=>?_) (fun ht22=>?_)
  ·have he:(B4 (colsAt c l k) m).2≠0:=by simpa using ht22
   refine Z2 ?_
   refine Ol jS hB ?_ ?_
   ·simp
   refine Ol jS (Zw hC (D8 (by decide))) ?_ ?_
   ·simp
   refine A0 [] ?_;refine Fq ?_;refine C4 ?_;refine K.blR ?_
   subst hbz
   refine K.rdR (jp hL (D8 (by decide)) (D8 (by decide))) ?_
   refine .inl ⟨he,Hp++[AObj.cells 63 [AV.nil],AObj.cells 31 [A5 (B4 (colsAt c l k) m).2],AObj.cells 63 [AV.slice true 1 ((Ce c l k).map Ad)],AObj.cells 22 [Ad (colsAt c l k)],AObj.defs,_],?_,by simp,(fun x hx=>by rw [Aw];exact hOl (lp:=_) (by exact ⟨hFRl,by simp [oid]⟩) x hx),.inr ⟨_,_,_,rfl,he,j4 hk hN he⟩⟩
   subst hV
   simp only [C9,K1,Fa,Ez,List.set_cons_succ,List.set_cons_zero]
  have he:(B4 (colsAt c l k) m).2=0:=by simpa using ht22
  refine Z3 ?_;refine Mf ?_;refine R.loadUpT jA hA ?_;refine Z60 ?_
  refine Du jU Tryz.type22 ?_ ?_ ?_
  ·have hol:=Hg c l k;have hkl:=(Ac.1 hk).1;simp [Tryz.t22];omega
  ·have hol:=Hg c l k;have hkl:=(Ac.1 hk).1;simp [Tryz.t22];omega
  refine R.storeUpT jS (U6 hA) ?_ ?_
  ·exact o7
  refine A0 [] ?_;refine K.blN ?_
  subst hbz
  refine ABc ?_
  refine .inr ⟨he,rfl,Tg hk hN he,?_⟩
  subst hV
  simp only [C9,K1,Fa,Ez,List.set_cons_succ,List.set_cons_zero]
  rw [Ce,Ei hk,Cf]
  rfl
 rintro r H' (⟨o,q,rfl,hrun⟩|⟨e,o,q,rfl,hne,hrun⟩)
 ·refine ⟨Hp,_,_,_,rfl,rfl,fun h=>h,?_,rfl,by simp,?_⟩
  ·intro o ho
   have:o=oid Hp.length 4:=by simpa using ho
   subst this
   rw [Dh]
   rfl
  refine Z11 ?_;refine Z2 ?_;refine F9 ?_;refine F9 ?_;refine Z12 ?_;exact A7 (Aj (H9 jA) (H9 jA)) ⟨by rw [Rp hmay hrun],rfl⟩ (hlow:=by simp only [Yj,C2,Fd,or_false];rintro y (rfl|rfl);exact Dw;simp)
 refine ⟨Hp,_,_,_,rfl,rfl,fun h=>h,?_,rfl,by simp,?_⟩
 ·intro o ho
  have:o=oid Hp.length 4:=by simpa using ho
  subst this
  rw [Dh]
  rfl
 refine W.nilOwn 0 1 ?_;refine Fq ?_;refine Z6 ?_;exact A7 (Aj (H9 jA) (H9 jA)) ⟨by rw [Vx hmay (by rw [hrun];exact hne),hrun];rfl,rfl⟩

theorem P8:∀(c:List Col) (ms:List Mov),(Da c ms).1.length≤ms.length+1
 | c,[]=>by simp [Da]
 | c,m::r=>by
  rw [Da]
  split
  ·simp
  have:=P8 (B4 c m).1 r
  simp only [Bo]
  omega
theorem ACall.argLe {P:Program} {g:FuncId} {args args':List AV} {H:List AObj} {post:AV→List AObj→Prop} (h:ACall P g args' H post) (hl:args.length=args'.length) (hle:∀(i:Nat) (y y':AV),args[i]? = some y→args'[i]? = some y'→Le y y'):ACall P g args H post:=
 fun d G w vs h1 h2 h3 h4=>h d G w vs (h1.trans hl) (fun i y u hy hu=>by
  have hi:i<args.length:=by rw [hl];exact (Ac.1 hy).1
  exact (h2 i _ u (Aa hi) hu).le (hle i _ y (Aa hi) hy)) h3 h4
theorem o8 (s:Str):Le (.agg [A5 2,Ax s,A5 0,A5 0,Ax [],.nil]) (Al (Dt s)):=by
 rw [I7]
 refine .agg _ _ rfl (fun y hy=>?_) (fun i y y' hy hy'=>?_)
 ·simp only [Hh,C2,Fd,or_false] at hy
  rcases hy with rfl|rfl|rfl|rfl|rfl|rfl<;>rfl
 match i with
 | 0=>simp at hy;subst hy;simp [Hh,Dt] at hy';subst hy';exact .inl rfl
 | 1=>simp at hy;subst hy;simp [Hh,Dt] at hy';subst hy';exact .inl rfl
 | 2=>simp at hy;subst hy;simp [Hh,Dt] at hy';subst hy';exact .inl rfl
 | 3=>simp at hy;subst hy;simp [Hh,Dt] at hy';subst hy';exact .inl rfl
 | 4=>simp at hy;subst hy;simp [Hh,Dt] at hy';subst hy';exact .inl rfl
 | 5=>simp at hy;subst hy;simp [Hh,Dt] at hy';subst hy';exact .inr ⟨rfl,6,rfl⟩
 | i+6=>simp at hy
theorem AGp (x:Expr) (hx:okE 61 x) (s:Str) (Hp:List AObj):AFun Tryz.prog 80 [Al x,.agg [A5 2,Ax s,A5 0,A5 0,Ax [],.nil]] Hp (Ar (eqE x (Dt s))):=
 ACall.argLe (c80 61 x hx (Dt s) Hp) rfl fun i y y' hy hy'=>by
  match i with
  | 0=>simp at hy hy';subst hy;subst hy';exact .refl _
  | 1=>simp only [Tq,eu,L8] at hy hy';subst hy;subst hy';exact o8 s
  | i+2=>simp at hy
def Jn (m:Mov):Bool:=
 if m.kind==1 then ((m.take.length:Int)==0)&&((m.give.length:Int)==1)
 else if m.kind==2 then ((m.take.length:Int)==1)&&((m.give.length:Int)==0)
 else if (m.kind==3) || (m.kind==6) then ((m.take.length:Int)==1)&&((m.give.length:Int)==1)
 else if m.kind==4 then ((m.take.length:Int)==1)&&decide ((2:Int)≤(m.give.length:Int))
 else if m.kind==5 then decide ((2:Int)≤(m.take.length:Int))&&((m.give.length:Int)==1)
 else false
theorem uh (n:Nat):decide ((1:Int)<(n:Int))=decide ((2:Int)≤(n:Int)):=by
 by_cases h:2≤n
 ·have h1:(1:Int)<n:=by omega
  have h2:(2:Int)≤n:=by omega
  simp [h1,h2]
 have h1:¬(1:Int)<n:=by omega
 have h2:¬(2:Int)≤n:=by omega
 simp [h1,h2]
theorem ui {m:Mov} (h:(((m.ahead.length:Int) != (m.give.length:Int)) || ((m.back.length:Int) != (m.take.length:Int)))=false):En m=Jn m:=by
 rw [dq h,uh,uh]
 rfl
theorem o9 (k:Int):(E3 k==([]:Str))=(decide (k<1) || decide (3<k)):=by
 unfold E3
 by_cases h:k<1∨3<k
 ·rw [if_pos (by first|exact h|omega)]
  rcases h with h|h<;>simp [h]
 rw [if_neg (by first|exact h|omega)]
 have hk:k=1∨k=2∨k=3:=by omega
 rcases hk with rfl|rfl|rfl<;>rfl
theorem Xj {m:Mov} {c:Col}:(((!(D9 c.name)) || ((m.kind==3)&&(c.kind != 0))) || ((m.kind != 3)&&(decide (c.kind<1) || decide (3<c.kind)))) = !Ht m c:=by
 rw [←o9]
 unfold Ht
 rw [show (m.kind != 3) = !(m.kind==3) from rfl]
 cases h3:(m.kind==3) with
 | false=>cases D9 c.name<;>cases (E3 c.kind==([]:Str))<;>cases (c.kind != 0)<;>rfl
 | true =>
  by_cases h0:c.kind=0
  ·have e:(E3 c.kind==([]:Str))=true:=by rw [h0];rfl
   have e0:(c.kind != 0)=false:=by rw [h0];rfl
   rw [e,e0]
   cases D9 c.name<;>rfl
  have e0:(c.kind != 0)=true:=by simpa using h0
  rw [e0]
  cases D9 c.name<;>cases (E3 c.kind==([]:Str))<;>rfl
theorem Th (l:List Expr):l.all Dr=l.all Bb:=by
 congr 1
 funext e
 exact (Em e).symm
theorem z5 {m:Mov} (h:(((((m.ahead.length:Int) != (m.give.length:Int)) || ((m.back.length:Int) != (m.take.length:Int))) || (!(m.ahead.all Dr))) || (!(m.back.all Dr)))=true):Ef m=false:=by
 rw [Th,Th] at h
 unfold Ef
 cases h1:(((m.ahead.length:Int) != (m.give.length:Int)) || ((m.back.length:Int) != (m.take.length:Int))) with
 | true=>rw [dp h1];rfl
 | false =>
  rw [h1] at h
  cases h2:m.ahead.all Bb<;>cases h3:m.back.all Bb<;>simp_all
theorem z6 {m:Mov} (h:(((((m.ahead.length:Int) != (m.give.length:Int)) || ((m.back.length:Int) != (m.take.length:Int))) || (!(m.ahead.all Dr))) || (!(m.back.all Dr)))=false):En m=Jn m∧Ef m=(((Jn m&&m.give.all (Ht m))&&m.take.all D9)&&Jj m):=by
 rw [Th,Th] at h
 simp only [Cm,Cx] at h
 have hk:=ui (m:=m) (by simp only [Cm];exact h.1.1)
 refine ⟨hk,?_⟩
 unfold Ef
 rw [hk,h.1.2,h.2]
 simp
theorem z7 {m:Mov} (h6:(m.kind==6)=false):Jj m=((m.kind != 3) || (eqE (m.ahead.getD 0 Af) (Dt (m.take.getD 0 []))&&eqE (m.back.getD 0 Af) (Dt (m.give.getD 0 ⟨[],0⟩).name))):=by
 rw [show (m.kind != 3) = !(m.kind==3) from rfl]
 cases h:(m.kind==3) with
 | true=>rw [ue h];rfl
 | false=>rw [ug h h6];rfl
theorem z8 {m:Mov} (h6:(m.kind==6)=true):Jj m=(m.take.getD 0 []==(m.give.getD 0 ⟨[],0⟩).name):=uf (by simp at h6 ⊢;omega) h6
theorem c54 (m:Mov) (h:OkMov m) (Hp:List AObj):AFun Tryz.prog 54 [Fv m] Hp (Ar (Ef m)):=by
 refine Ae [.tmp 2] [0] Tryz.func54 Tryz.ntmps54 (fun d=>?_)
 refine Pp ?_;refine Df [0,1,3,0,8,24,7,127] 7 An (by kernel_rfl) ?_;refine Qx ?_;refine Z45 ?_;refine Fx ?_;refine A2 ?_;refine A0 [1,3,4] ?_;refine Z52 ?_
 simp only [Am]
 refine Z93 ?_;refine Z53 ?_;refine Qv ?_;refine Bj Tryz.call79 (fun hB=>c79 m.ahead h.ahead _) ?_;refine Qv ?_;refine Bj Tryz.call79 (fun hB=>c79 m.back h.back _) ?_;refine Z50 ?_;refine A0 [1,3,4,38] ?_
 refine A1 (fun ht38=>?_) (fun ht38=>?_)
 ·simp only [Am] at ht38
  have hm:=z5 ht38
  exact wg
 simp only [Am] at ht38
 obtain ⟨hck,hm0⟩:=z6 ht38
 refine Ja ?_;refine A0 [1,3,4,5] ?_
 refine W.join ⟨178,A4 1 (.ro (Ke m)) (A4 3 (A5 (m.take.length:Nat)) (A4 4 (A5 (m.give.length:Nat)) (A4 5 (Ar (Jn m)) (fun _=>.any)))),Hp,[],[],none⟩ ?_ ?_
 ·refine Z1 ?_;refine A0 [1,3,4,5,40] ?_;refine Z95 ?_;refine A0 [1,3,4,5,40,41] ?_
  refine A1 (fun ht41=>?_) (fun ht41=>?_)
  ·refine m9 ?_;refine K.thJ ?_;exact B0 (by unfold Jn;first|(simp only [ht38,ht41,hk3,hk6,B3,Av,Eo,Ib,if_true,if_false,A8,↓reduceIte]<;>rfl)|(simp only [ht38,ht41,hk3,B3,Av,Eo,if_true,if_false,A8,↓reduceIte]<;>rfl)|(simp only [ht38,ht41,if_true,if_false,A8,↓reduceIte]<;>rfl))
  refine Z1 ?_;refine A0 [1,3,4,5,40,49] ?_
  refine A1 (fun ht49=>?_) (fun ht49=>?_)
  ·refine m9 ?_;refine K.thJ ?_;exact B0 (by unfold Jn;first|(simp only [ht38,ht41,ht49,hk3,hk6,B3,Av,Eo,Ib,if_true,if_false,A8,↓reduceIte]<;>rfl)|(simp only [ht38,ht41,ht49,hk3,B3,Av,Eo,if_true,if_false,A8,↓reduceIte]<;>rfl)|(simp only [ht38,ht41,ht49,if_true,if_false,A8,↓reduceIte]<;>rfl))
  refine Z8 ?_;refine A0 [1,3,4,5,40,57] ?_
  refine A1 (fun ht57=>?_) (fun ht57=>?_)
  ·have hk3:=ht57
   refine Z3 ?_
   refine A1 (fun ht57=>?_) (fun ht57=>?_)
   ·refine m9 ?_;exact Z68
   rw [hk3] at ht57;cases ht57
  have hk3:=ht57
  refine Z31 ?_;refine A0 [1,3,4,5,40,57] ?_;refine Dk ?_
  refine A1 (fun ht57=>?_) (fun ht57=>?_)
  ·have hk6:=ht57
   refine m9 ?_;exact Z68
  have hk6:=ht57
  refine Z1 ?_;refine A0 [1,3,4,5,40,66] ?_
  refine A1 (fun ht66=>?_) (fun ht66=>?_)
  ·refine m9 ?_;refine K.thJ ?_;exact B0 (by unfold Jn;first|(simp only [ht38,ht41,ht49,ht57,ht57,ht66,hk3,hk6,B3,Av,Eo,Ib,if_true,if_false,A8,↓reduceIte]<;>rfl)|(simp only [ht38,ht41,ht49,ht57,ht57,ht66,hk3,B3,Av,Eo,if_true,if_false,A8,↓reduceIte]<;>rfl)|(simp only [ht38,ht41,ht49,ht57,ht57,ht66,if_true,if_false,A8,↓reduceIte]<;>rfl))
  refine Z1 ?_;refine A0 [1,3,4,5,74] ?_
  refine A1 (fun ht74=>?_) (fun ht74=>?_)
  ·refine m9 ?_;exact Z61
  refine Mr [1,3,4,5] ?_;refine Me ?_;refine K.blN ?_;exact Z61
 refine Z8 ?_;refine A0 [1,3,4,83] ?_
 refine A1 (fun ht83=>?_) (fun ht83=>?_)
 ·have hkf:Jn m=false:=by simpa using ht83
  have hm:Ef m=false:=by rw [hm0,hkf];rfl
  exact wg
 have hkm:Jn m=true:=by simpa using ht83
 have hct:En m=true:=hck.trans hkm
 obtain ⟨hl3,hl4⟩:=Et hct
 refine Pq ?_;refine A0 [1,3,4,6] ?_
 refine Be (α:=Nat) (fun x=>⟨178,A4 1 (.ro (Ke m)) (A4 3 (A5 (m.take.length:Nat)) (A4 4 (A5 (m.give.length:Nat)) (A4 6 (A5 (x:Nat)) (fun _=>.any)))),Hp,[],[],none⟩) (fun x=>x≤m.take.length∧∀(j:Nat) (y:Str),j<x→m.take[j]? = some y→(!D9 y)=false) (fun x=>m.take.length-x) (0) ⟨Ah _,fun j y h=>by omega⟩ (B0 (by simp)) rfl (fun x hx=>?_)
 refine Z27 ?_;refine A0 [1,3,4,6,86] ?_
 refine A1 (fun ht86=>?_) (fun ht86=>?_)
 ·have hlt:x<m.take.length:=by simpa using ht86
  have htk:=h.takes
  refine Ue ?_
  refine A2 (h:=A9 (x) (Ax m.take[x]) (fun _=>Ak hlt)) (hr:=?_)
  refine A2 ?_;refine A6 Tryz.call58 (c58 m.take[x] (h.names _ (Az hlt)) _) ?_;refine A2 ?_;refine A0 [1,3,4,6,95] ?_
  refine A1 (fun ht95=>?_) (fun ht95=>?_)
  ·rw [←Ff] at ht95
   have hm:Ef m=false:=by
    rw [hm0,Of.2 ⟨_,Az hlt,by simpa using ht95⟩]
    simp
   exact AAz
  rw [←Ff] at ht95
  refine Z79 ?_;refine A0 [1,3,4,6] ?_;exact As (x+1) ⟨hlt,Bs hlt hx.2 ht95⟩ (by omega) (Bk rfl)
 have hxe:m.take.length≤x:=by simpa using ht86
 have hta:m.take.all D9=true:=by have:=Gm hxe hx.2;rw [Gv] at this;simpa using this
 refine Z47 ?_;refine Z32 ?_;refine A0 [1,4,7] ?_
 refine Be (α:=Nat) (fun k=>⟨178,A4 1 (.ro (Ke m)) (A4 4 (A5 (m.give.length:Nat)) (A4 7 (A5 (k:Nat)) (fun _=>.any))),Hp,[],[],none⟩) (fun k=>k≤m.give.length∧∀(j:Nat) (y:Col),j<k→m.give[j]? = some y→(!Ht m y)=false) (fun k=>m.give.length-k) (0) ⟨Ah _,fun j y h=>by omega⟩ (B0 (by simp)) rfl (fun k hk=>?_)
 refine Z27 ?_;refine A0 [1,4,7,98] ?_
 refine A1 (fun ht98=>?_) (fun ht98=>?_)
 ·have hlk:k<m.give.length:=by simpa using ht98
  have hgl:=h.gives2
  refine Ue ?_
  refine A2 (h:=A9 (k) (Cb m.give[k]) (fun _=>Ak hlk)) (hr:=?_)
  refine Z13 ?_;refine A0 [1,4,7,8] ?_;refine Z18 ?_
  refine A2 (h:=A9 (k) (Cb m.give[k]) (fun _=>Ak hlk)) (hr:=?_)
  refine Z0 ?_;refine A6 Tryz.call58 (c58 m.give[k].name (h.gives.2 _ (Az hlk)) _) ?_;refine Z53 ?_;refine Z10 ?_;refine Uc ?_;refine Ot ?_;refine Z10 ?_;refine Z50 ?_;refine A0 [1,4,7,136] ?_
  refine A1 (fun ht136=>?_) (fun ht136=>?_)
  ·rw [←Ff,Xj] at ht136
   have hm:Ef m=false:=by
    rw [hm0,Of.2 ⟨_,Az hlk,by simpa using ht136⟩]
    simp
   exact AAz
  rw [←Ff,Xj] at ht136
  refine Z79 ?_;refine A0 [1,4,7] ?_;exact As (k+1) ⟨hlk,Bs hlk hk.2 ht136⟩ (by omega) (Bk rfl)
 have hke:m.give.length≤k:=by simpa using ht98
 have hga:m.give.all (Ht m)=true:=by have:=Gm hke hk.2;rw [Gv] at this;simpa using this
 have hm1:Ef m=Jj m:=by rw [hm0,hkm,hga,hta];rfl
 have g1:=fun h0=>Lz (f:=Al) (l:=m.ahead) (d:=Af) h0
 have g2:=fun h0=>Lz (f:=Al) (l:=m.back) (d:=Af) h0
 have g3:=fun h0=>Lz (f:=Ax) (l:=m.take) (d:=[]) h0
 have g4:=fun h0=>Lz (f:=Cb) (l:=m.give) (d:=⟨[],0⟩) h0
 refine Z47 ?_;refine Z27 ?_;refine A0 [1,139] ?_
 refine A1 (fun ht139=>?_) (fun ht139=>?_)
 ·obtain ⟨hl1,hl2⟩:=N2 hct (by rw [ht139];simp)
  have hm:=hm1.trans (z8 ht139)
  refine AE9 ?_
  refine Ag (h:=A9 (0) (Ax (m.take.getD 0 [])) (fun _=>g3 (by omega))) (hr:=?_)
  refine Z45 ?_
  refine Ag (h:=A9 (0) (Cb (m.give.getD 0 ⟨[],0⟩)) (fun _=>g4 (by omega))) (hr:=?_)
  refine Z85 ?_;refine Z56 ?_;exact ACz
 have hm:=hm1.trans (z7 ht139)
 have len3:((m.kind != 3)==false)=true→0<m.ahead.length∧0<m.take.length∧0<m.back.length∧0<m.give.length:=fun hB=>by
  obtain ⟨a1,a2⟩:=N2 hct (by simp at hB;rw [hB];rfl)
  omega
 have and3:∀{b:Bool},(((m.kind != 3)==false)&&b)=true→((m.kind != 3)==false)=true:=fun h=>yw h
 refine Z3 ?_;refine Df [0,1,3,7,15,31,63,127,15,271,783,1807,3855,8191,16383,32767,65535,131071,262143,32767,557055,1605631,3702783,7897087,16285695,33554431,67108863,134217727,268435455] 25 An (by kernel_rfl) ?_;refine Qx ?_;refine Z63 ?_
 refine F4 (h:=A9 (0) (Al (m.ahead.getD 0 Af)) (fun hB=>g1 (len3 hB).1)) (hr:=?_)
 refine g5 ?_
 refine F4 (h:=A9 (0) (Ax (m.take.getD 0 [])) (fun hB=>g3 (len3 hB).2.1)) (hr:=?_)
 refine F4 ?_;refine H.build (places:=#[(0,1),(1,1),(2,3),(5,1)]) jU (fun w=>by simp) jZ ?_;refine H.call Tryz.call80 (fun hB=>AGp (m.ahead.getD 0 Af) (h.ahead.ok _ (Ky (len3 hB).1)) (m.take.getD 0 []) _) ?_;refine g5 ?_
 refine F4 (h:=A9 (0) (Al (m.back.getD 0 Af)) (fun hB=>g2 (len3 (and3 hB)).2.2.1)) (hr:=?_)
 refine g5 ?_
 refine F4 (h:=A9 (0) (Cb (m.give.getD 0 ⟨[],0⟩)) (fun hB=>g4 (len3 (and3 hB)).2.2.2)) (hr:=?_)
 refine Z63 ?_;refine H.build (places:=#[(0,1),(1,1),(2,3),(5,1)]) jU (fun w=>by simp) jZ ?_;refine Fx ?_;refine Bj Tryz.call80 (fun hB=>AGp (m.back.getD 0 Af) (h.back.ok _ (Ky (len3 (and3 hB)).2.2.1)) (m.give.getD 0 ⟨[],0⟩).name _) ?_;refine B8 ?_;refine Z56 ?_;exact r6

theorem c37 (l:List Mov) (h:OkMovs l) (Hp:List AObj):AFun Tryz.prog 37 [D6 l] Hp (Ar (M5 l)):=by
 refine Ae [.tmp 2] [0] Tryz.func37 Tryz.ntmps37 (fun d=>?_)
 refine ga ?_;refine A0 [0,6] ?_
 refine A1 (fun ht6=>?_) (fun ht6=>?_)
 ·rw [Am] at ht6
  have hm:M5 l=false:=by
   unfold M5
   rw [show decide ((l.length:Int)≤8)=false by simp at ht6 ⊢;omega]
   rfl
  exact qn
 rw [Am] at ht6
 have h8:decide ((l.length:Int)≤8)=true:=by simp at ht6 ⊢;omega
 have hl8:l.length≤8:=by simp at h8;omega
 refine qm ?_
 refine Be (α:=Nat) (fun x=>⟨19,A4 0 (D6 l) (A4 3 (A5 (x:Nat)) (fun _=>.any)),Hp,[],[],none⟩) (fun x=>x≤l.length∧∀(j:Nat) (y:Mov),j<x→l[j]? = some y→(!Ef y)=false) (fun x=>l.length-x) (0) ⟨Ah _,fun j y h=>by omega⟩ (B0 (by simp)) rfl (fun x hx=>?_)
 refine Z76 ?_;refine A0 [0,3,10] ?_
 refine A1 (fun ht10=>?_) (fun ht10=>?_)
 ·have hlt:x<l.length:=by simpa using ht10
  refine Qw ?_
  refine A2 (h:=A9 (x) (Fv l[x]) (fun _=>Ak hlt)) (hr:=?_)
  refine A2 ?_;refine A6 Tryz.call54 (c54 l[x] (h.each _ (Az hlt)) _) ?_;refine A2 ?_;refine A0 [0,3,18] ?_
  refine A1 (fun ht18=>?_) (fun ht18=>?_)
  ·have hm:M5 l=false:=by
    unfold M5
    rw [Of.2 ⟨_,Az hlt,by simpa using ht18⟩]
    simp
   exact wc
  refine Z79 ?_;refine M3 ?_;exact As (x+1) ⟨hlt,Bs hlt hx.2 ht18⟩ (by omega) (Bk rfl)
 have hxe:l.length≤x:=by simpa using ht10
 have hm:M5 l=true:=by
  have h2:=Gm hxe hx.2
  rw [Gv] at h2
  unfold M5
  rw [h8]
  simpa using h2
 exact qq

theorem z9 (c:List Col) (ms:List Mov):∀k,((Ce c ms k).map Ad)[k]? = some (Ad (colsAt c ms k))
 | 0=>rfl
 | k+1=>by
  have h:=Hg c ms k
  rw [Ce,Cf,Dj (by rw [Am];omega),Am,h,L7]
  rfl
theorem j5 {c:List Col} {ms:List Mov} {k:Nat} {m:Mov} (hk:ms[k]? = some m) (h:NS c ms k) (he:(B4 (colsAt c ms k) m).2≠0):Da c ms=(Ce c ms k,(B4 (colsAt c ms k) m).2):=by
 unfold NS at h
 rw [h,Vw hk,Da,if_pos (by simpa using he)]
 exact Il (Zt c ms k) rfl
theorem ACj {c:List Col} {l:List Mov} (h:((!(Ct c)) || (!(M5 l)))=true):F6 c l=([],1):=if_neg (by unfold Jk;cases h1:Ct c<;>cases h2:M5 l<;>simp_all)
theorem za {c:List Col} {l:List Mov} (h:((!(Ct c)) || (!(M5 l)))=false):Jk c l=true:=by unfold Jk;cases h1:Ct c<;>cases h2:M5 l<;>simp_all
theorem c24 (c:List Col) (hc:OkCols c) (l:List Mov) (h:OkMovs l) (Hp:List AObj):AFun Tryz.prog 24 [Ad c,D6 l] Hp (.tup [Jm (F6 c l).1,A5 (F6 c l).2]):=by
 refine Ae [.tmp 4,.tmp 5] [0,1] Tryz.func24 Tryz.ntmps24 (fun d=>?_)
 refine b8 ?_;refine Z32 ?_;refine A6 Tryz.call36 (c36 c hc _) ?_;refine gb ?_;refine Bj Tryz.call37 (fun hB=>c37 l h _) ?_;refine Z50 ?_;refine A0 [0,1,17] ?_
 refine A1 (fun ht17=>?_) (fun ht17=>?_)
 ·have hm:=ACj ht17
  refine Z2 ?_;refine R.nilTmp 4 1 false ?_;refine A2 ?_;refine Z43 ?_;exact A7 (Aj A3 A3) ⟨by rw [hm];rfl,rfl⟩
 have hmay:=za ht17
 obtain ⟨hmv,hl8⟩:=Zv hmay h
 have hmr:F6 c l=Da c l:=if_pos hmay
 refine Ja ?_;refine Ui ?_;refine Ge ?_;refine A0 [1,6] ?_;refine Z32 ?_;refine A0 [1,6,7] ?_
 refine Be (α:=Nat) (fun x=>⟨47,A4 1 (D6 l) (A4 6 (.slice true 1 ((Ce c l x).map Ad)) (A4 7 (A5 (x:Nat)) (fun _=>.any))),Hp,[],[],none⟩) (fun x=>x≤l.length∧NS c l x) (fun x=>l.length-x) (0) ⟨Ah _,z4⟩ (B0 (by simp [Ce])) rfl (fun x hx=>?_)
 refine Z76 ?_;refine A0 [1,6,7,23] ?_
 refine A1 (fun ht23=>?_) (fun ht23=>?_)
 ·have hlt:x<l.length:=by simpa using ht23
  refine Z44 ?_;refine Df [0,0,3,7,0,0,48,112,255,511,1023,1023,2047,8191] 13 An (by kernel_rfl) ?_;refine Z17 ?_
  refine Ag (h:=A9 (x) (Ad (colsAt c l x)) (fun _=>z9 c l x)) (hr:=?_)
  refine Z45 ?_
  refine Ag (h:=A9 (x) (Fv l[x]) (fun _=>Ak hlt)) (hr:=?_)
  refine Ag ?_;refine Cy Tryz.call38 (c38 (colsAt c l x) (Ej hc (fun m hm=>h.each m hm) x) l[x] (hmv _ (Az hlt)) _) ?_;refine Z17 ?_;refine g6 ?_;refine A0 [1,6,7,8,9] ?_;refine Z8 ?_;refine A0 [1,6,7,8,9,39] ?_
  refine A1 (fun ht39=>?_) (fun ht39=>?_)
  ·have he:(B4 (colsAt c l x) l[x]).2≠0:=by simpa using ht39
   have hm:F6 c l=(Ce c l x,(B4 (colsAt c l x) l[x]).2):=hmr.trans (j5 (Aa hlt) hx.2 he)
   refine Z39 ?_;refine Z43 ?_;refine Z41 ?_;exact AF8
  have he:(B4 (colsAt c l x) l[x]).2=0:=by simpa using ht39
  refine mb ?_
  refine Du jU Tryz.type22 ?_ ?_ ?_
  ·have hol:=Hg c l x;simp [Tryz.t22];omega
  ·have hol:=Hg c l x;simp [Tryz.t22];omega
  refine Ge ?_;refine A0 [1,6,7] ?_;refine Z88 ?_;refine A0 [1,6,7] ?_
  refine As (x+1) ⟨hlt,Tg (Aa hlt) hx.2 he⟩ (by omega) (Bk ?_)
  rw [Ce,Ei (Aa hlt),Cf]
  rfl
 have hxe:x=l.length:=by have:=hx.1;simp at ht23;omega
 have hm:F6 c l=(Ce c l x,0):=by rw [hmr];subst hxe;exact Zu hx.2
 refine Z47 ?_;refine Z18 ?_;refine Z12 ?_;exact AF8

theorem Eu {n k:Nat} {o:Bool} {a:List Expr}:Low n (.slice o k (a.map Al)):=low_slice.2 fun y hy=>by
 obtain ⟨m,_,rfl⟩:=Db.1 hy
 exact Dg _ _
/-! fuse: trees in columns' places. -/
set_option maxRecDepth 8000
/-! The words of a print. -/
/-! A text between marks. -/
/-! The print of a tree, and its words. -/
/-! What was parsed nests no deeper than may be. -/
/-! What nests too deep is told to be too deep. -/
def F2 (l:List Tok) (x:Expr):Prop:=∀(k:Nat) (S:PS) (rest:List TK),(k=0∨k=1∨k=4∨k=5)→k≤sq x→S.code=0→S.nest≤30→30<S.nest+k9 x→seg l S.i=V4 x++rest→so (k+1) rest→(Xa l (ofL k) (pf l (fam l S.nest) (k+1)) S).2.code=18
/-! What was parsed is right, where the words are the lexer's. -/
/-! The lexer's words. -/
/-! The parse laws where nothing is too deep. -/
/-! The parser from a word on, and of a source. -/
/-! Other trees have other words, and other prints. -/
/-! The laws of printing. -/
theorem P9 {x:Expr} (h:Dr x=true):E4 Do x=true:=by
 unfold Dr at h
 rw [Ap] at h
 exact h.2
set_option maxRecDepth 4000
end Go.SX.Nb
namespace Go.Proofs
open Go.Shelf Go.RowKit

section
variable {P:Program} (w:World)

end

section
variable {P:Program} {ρ:Ren}

set_option maxHeartbeats 1000000 in
set_option maxRecDepth 100000 in
set_option maxHeartbeats 1000000 in
set_option maxRecDepth 100000 in
set_option maxHeartbeats 2000000 in
set_option maxRecDepth 100000 in
set_option maxHeartbeats 2000000 in
set_option maxRecDepth 100000 in
end
end Go.Proofs

namespace Go.SX.Nb
open Go Go.SX Go.Proofs Go.Shelf
variable [ErrAt]
set_option maxRecDepth 8000
end Go.SX.Nb
namespace Go.SX.Nb
open Go Go.SX Go.Proofs
variable [ErrAt]
set_option maxRecDepth 4000
set_option maxRecDepth 8000
/-! How long a print is. -/
set_option maxRecDepth 4000
/-! fuse.Forth and plan.Text. -/
theorem Kz {c:List Col} {m:Mov} (h:(B4 c m).2=0):(B4 c m).1=C1 c m.take++B2 c m∧Ct c=true∧Ct (B4 c m).1=true:=by
 unfold B4 at h ⊢
 split at h
 ·rename_i h1
  exact absurd h (by simpa using h1)
 rename_i h1
 rw [if_neg h1]
 split at h
 ·rename_i h2
  exact absurd h (by simpa using h2)
 rename_i h2
 rw [if_neg h2]
 split at h
 ·rename_i h3
  exact absurd h (by simpa using h3)
 rename_i h3
 rw [if_neg h3]
 obtain ⟨a,_,b,d,e⟩:=jx (by simpa using h1:(Co c m.take (B2 c m)).2=0)
 rw [e]
 refine ⟨rfl,a,?_⟩
 unfold Ct
 rw [b,Qg]
 refine decide_eq_true ?_
 show ((C1 c m.take++B2 c m).length:Int)≤12
 omega
/-! The text. -/
/-! ONE LINE EACH. -/
theorem j6 {c:List Col} {ms:List Mov} (he:(Da c ms).2=0):∀k,k≤ms.length→NS c ms k
 | 0,_=>z4
 | k+1,h=>by
  have ih:=j6 he k (by omega)
  have hk:ms[k]? = some ms[k]:=Aa (by omega)
  by_cases ht:(B4 (colsAt c ms k) ms[k]).2=0
  ·exact Tg hk ih ht
  exact absurd ((j4 hk ih ht).symm.trans he) ht
theorem Ir {c:List Col} {ms:List Mov} (he:(Da c ms).2=0) {k:Nat} {m:Mov} (hk:ms[k]? = some m):(B4 (colsAt c ms k) m).2=0:=by
 have hl:=(Ac.1 hk).1
 by_cases ht:(B4 (colsAt c ms k) m).2=0
 ·exact ht
 exact absurd ((j4 hk (j6 he k (by omega)) ht).symm.trans he) ht
theorem N4 {c:List Col} {ms:List Mov}:∀{n k:Nat},k≤n→(Ce c ms n)[k]? = some (colsAt c ms k)
 | 0,k,h=>by
  have:k=0:=by omega
  subst this;rfl
 | n+1,k,h=>by
  have hl:=Hg c ms n
  rw [Ce]
  by_cases e:k=n+1
  ·subst e
   rw [Dj (by omega),hl,L7]
   rfl
  rw [De (by omega)]
  exact N4 (by omega)
theorem Hw {c:List Col} {ms:List Mov} (h:Jk c ms=true):∀m∈ms,Ef m=true:=by
 unfold Jk M5 at h
 simp only [Ap,B9] at h
 exact h.2.2
theorem Lo {c:List Col} {ms:List Mov} (hc:Ct c=true) (he:(Da c ms).2=0):∀k,Ct (colsAt c ms k)=true
 | 0=>hc
 | k+1=>by
  cases hk:ms[k]? with
  | none =>
   rw [colsAt,hk]
   exact Lo hc he k
  | some m =>
   rw [Ei hk]
   exact (Kz (Ir he hk)).2.2
/-- What a sound migration comes to. -/
theorem Fh {c:List Col} {ms:List Mov} (h:((Cd c ms).2 != 0)=false):Jk c ms=true∧(Da c ms).2=0∧Cd c ms=(Ce c ms ms.length,0):=by
 cases hm:Jk c ms with
 | false=>rw [Xi hm] at h;cases h
 | true =>
  by_cases he:(Da c ms).2=0
  ·have e:=Zu (j6 he ms.length (Ao _))
   exact ⟨rfl,he,Rp hm e⟩
  rw [Vx hm he] at h
  exact absurd (by simpa using h) he
/-! SoundJoins: one behind the other, in one. -/
/-! image: rows forth and back. -/
/-- image.reckon. -/
def B7 (c:List Col) (row:List Val):List Expr→List Val×Int
 | []=>([],0)
 | x::r=>if (Dy x c row).2 != 0 then ([],(Dy x c row).2) else if (B7 c row r).2 != 0 then ([],(B7 c row r).2) else ((Dy x c row).1::(B7 c row r).1,0)
theorem Lp {c:List Col} {row:List Val}:∀{l:List Expr},(∀(j:Nat) (y:Expr),l[j]? = some y→((Dy y c row).2 != 0)=false)→B7 c row l=(l.map (fun e=>(Dy e c row).1),0)
 | [],_=>rfl
 | x::r,h=>by
  rw [B7,Lp (l:=r) (fun j y hy=>h (j+1) y hy),if_neg (by rw [h 0 x rfl];simp),if_neg (by simp)]
  rfl
theorem Lq {c:List Col} {row:List Val}:∀{l:List Expr} {x:Nat} {y:Expr},(∀(j:Nat) (z:Expr),j<x→l[j]? = some z→((Dy z c row).2 != 0)=false)→l[x]? = some y→((Dy y c row).2 != 0)=true→B7 c row l=([],(Dy y c row).2)
 | [],_,_,_,h,_=>by simp at h
 | a::r,0,y,_,h,h1=>by
  have:a=y:=by simpa using h
  subst this
  rw [B7,if_pos h1]
 | a::r,x+1,y,h0,h,h1=>by
  rw [B7,if_neg (by rw [h0 0 a (by omega) rfl];simp),Lq (l:=r) (x:=x) (fun j z hj hz=>h0 (j+1) z (by omega) hz) (by simpa using h) h1,if_pos h1]
theorem oa {e:Expr} (h:Do e=true):Kv e=true:=by
 unfold Kv
 rw [Uz] at h
 cases hk:(e.op==1) with
 | false=>rfl
 | true =>
  show C8 e.val=true
  have e1:e.op=1:=by simpa using hk
  cases e with
  | mk o t v k =>
   have e1:o=1:=e1
   subst e1
   rw [V5] at h
   simp at h
   exact h.1.1.1
mutual
theorem du:∀e:Expr,E4 Do e=true→E4 Kv e=true
 | .mk o t v k,h=>by
  rw [Hb,Ap] at h ⊢
  exact ⟨oa h.1,Xk k h.2⟩
theorem Xk:∀k:List Expr,Ha Do k=true→Ha Kv k=true
 | [],_=>rfl
 | e::r,h=>by
  rw [Ha,Ap] at h ⊢
  exact ⟨du e h.1,Xk r h.2⟩
end
theorem uj {x:Expr} {c:List Col} {row:List Val} (hf:∀v∈row,Fine v) (hr:E4 Jf x=true):Fine (Dy x c row).1:=by
 show Fine (ka Au x c row).1
 unfold ka
 split
 ·exact K4
 rename_i h
 simp only [Cu,Cr,not_or,Xt] at h
 exact Nq hf x (du x (P9 (by rw [←Em];exact h.1))) hr
theorem N5 {c:List Col} {row:List Val} (hf:∀v∈row,Fine v):∀{l:List Expr},(∀e∈l,E4 Jf e=true)→∀v∈(B7 c row l).1,Fine v
 | [],_,v,h=>by cases h
 | x::r,hr,v,h=>by
  rw [B7] at h
  split at h
  ·cases h
  split at h
  ·cases h
  rcases C2.1 h with rfl|h
  ·exact uj hf (hr x Jr)
  exact N5 hf (fun e he=>hr e (.tail _ he)) v h
theorem Lr {c:List Col} {row:List Val}:∀{l:List Expr},(B7 c row l).2=0→(B7 c row l).1.length=l.length
 | [],_=>rfl
 | x::r,h=>by
  rw [B7] at h ⊢
  split at h
  ·rename_i h1
   rw [show (Dy x c row).2=0 from h] at h1
   cases h1
  rename_i h1
  rw [if_neg h1]
  split at h
  ·rename_i h2
   rw [show (B7 c row r).2=0 from h] at h2
   cases h2
  rename_i h2
  rw [if_neg h2]
  simp only [Bo]
  rw [Lr (l:=r) (by simpa using h2)]
/-- What is not taken. -/
def Ey (take:List Str) (c:List Col) (row:List Val):List Val:=((c.zip row).filter fun p => !take.contains p.1.name).map (·.2)
theorem Vy:∀{c:List Col} {row:List Val} {x:Nat} (hc:x<c.length) (hr:x<row.length),(c.take (x+1)).zip row=(c.take x).zip row++[(c[x],row[x])]
 | y::c,v::row,0,_,_=>by simp
 | y::c,v::row,x+1,hc,hr=>by
  simp only [List.take_succ_cons,List.zip_cons_cons,Fa,List.getElem_cons_succ]
  rw [Vy (by simpa using hc) (by simpa using hr)]
 | [],_,_,hc,_=>by simp at hc
 | _::_,[],_,_,hr=>by simp at hr
theorem zb {take:List Str} {c:List Col} {row:List Val} {x:Nat} (hc:x<c.length) (hr:x<row.length) (h:take.contains c[x].name=false):Ey take (c.take (x+1)) row=Ey take (c.take x) row++[row[x]]:=by
 unfold Ey
 have hb:(fun p:Col×Val => !take.contains p.1.name) (c[x],row[x])=true:=by show (!take.contains c[x].name)=true;rw [h];rfl
 rw [Vy hc hr,Xv,Cf,List.filter_cons_of_pos (p:=fun p:Col×Val => !take.contains p.1.name) hb]
 rfl
theorem uk {take:List Str} {c:List Col} {row:List Val} {x:Nat} (hc:x<c.length) (hr:x<row.length) (h:take.contains c[x].name=true):Ey take (c.take (x+1)) row=Ey take (c.take x) row:=by
 unfold Ey
 have hb:¬(fun p:Col×Val => !take.contains p.1.name) (c[x],row[x])=true:=by show ¬(!take.contains c[x].name)=true;rw [h];simp
 rw [Vy hc hr,Xv,Cf,List.filter_cons_of_neg (p:=fun p:Col×Val => !take.contains p.1.name) hb]
 simp
theorem Qa {take:List Str}:∀{c:List Col} {row:List Val},row.length=c.length→(Ey take c row).length=(C1 c take).length
 | [],[],_=>rfl
 | y::c,v::row,h=>by
  have ih:=Qa (take:=take) (c:=c) (row:=row) (by simpa using h)
  unfold Ey C1 at ih ⊢
  rw [List.zip_cons_cons,M9,M9]
  cases hc:take.contains y.name<;>simp [hc] at ih ⊢<;>exact ih
 | [],_::_,h=>by simp at h
 | _::_,[],h=>by simp at h
theorem ul {take:List Str} {c:List Col} {row:List Val} {v:Val} (h:v∈Ey take c row):v∈row:=by
 unfold Ey at h
 obtain ⟨p,hp,rfl⟩:=Db.1 h
 exact (List.of_mem_zip (N6.1 hp).1).2
/-- image.forth. -/
def Di (c:List Col) (m:Mov) (row:List Val):List Val×Int:=if (B7 c row m.ahead).2 != 0 then ([],(B7 c row m.ahead).2) else (Ey m.take c row++(B7 c row m.ahead).1,0)
/-- What a column ahead was. -/
def Jp (take:List Str) (was row:List Val) (d:List Col) (x:Col):Val:=if 0≤Fj x.name take then was.getD (Fj x.name take).toNat noV else row.getD (Bg x.name d).toNat noV
/-- image.back. -/
def C6 (a d:List Col) (m:Mov) (row:List Val):List Val×Int:=if (B7 d row m.back).2 != 0 then ([],(B7 d row m.back).2) else (a.map (Jp m.take (B7 d row m.back).1 row d),0)
/-- The row behind k moves. -/
def fwM (c:List Col) (l:List Mov) (row:List Val):Nat→List Val×Int
 | 0=>(row,0)
 | k+1=>if (fwM c l row k).2 != 0 then ([],(fwM c l row k).2) else match l[k]? with
  | none=>fwM c l row k
  | some m=>Di (colsAt c l k) m (fwM c l row k).1
/-- The row ahead of the last k moves. -/
def bkM (c:List Col) (l:List Mov) (row:List Val):Nat→List Val×Int
 | 0=>(row,0)
 | k+1=>if (bkM c l row k).2 != 0 then ([],(bkM c l row k).2) else match l[l.length-1-k]? with
  | none=>bkM c l row k
  | some m=>C6 (colsAt c l (l.length-1-k)) (colsAt c l (l.length-1-k+1)) m (bkM c l row k).1
/-- image.Forth. -/
def Bv (c:List Col) (l:List Mov) (row:List Val):List Val×Int:=if ((Cd c l).2 != 0) || !E8 c row then ([],1) else fwM c l row l.length
/-- image.Back. -/
def Cl (c:List Col) (l:List Mov) (row:List Val):List Val×Int:=if ((Cd c l).2 != 0) || !E8 (colsAt c l l.length) row then ([],1) else bkM c l row l.length
/-- image.Old. -/
def F8 (c:List Col) (l:List Mov) (row:List Val):List Val×Int:=if (Cl c l row).2 != 0 then ([],(Cl c l row).2) else if (Bv c l (Cl c l row).1).2 != 0 then ([],(Bv c l (Cl c l row).1).2) else if !decide ((Bv c l (Cl c l row).1).1=row) then ([],14) else ((Cl c l row).1,0)
/-- image.Faithful. -/
def um (c:List Col) (l:List Mov) (row:List Val):Bool:=if (Bv c l row).2 != 0 then false else ((Cl c l (Bv c l row).1).2==0)&&decide ((Cl c l (Bv c l row).1).1=row)
/-- The law of ImageOld. -/
theorem zc {c:List Col} {l:List Mov} {row:List Val} (h:(F8 c l row).2=0):Bv c l (F8 c l row).1=(row,0)∧F8 c l (Bv c l (F8 c l row).1).1=F8 c l row∧um c l (F8 c l row).1=true:=by
 have key:(Cl c l row).2=0∧Bv c l (Cl c l row).1=(row,0)∧F8 c l row=((Cl c l row).1,0):=by
  unfold F8 at h ⊢
  split at h
  ·rename_i h1
   rw [show (Cl c l row).2=0 from h] at h1
   cases h1
  rename_i h1
  rw [if_neg h1]
  split at h
  ·rename_i h2
   rw [show (Bv c l (Cl c l row).1).2=0 from h] at h2
   cases h2
  rename_i h2
  rw [if_neg h2]
  split at h
  ·cases h
  rename_i h3
  rw [if_neg h3]
  refine ⟨by simpa using h1,?_,rfl⟩
  have e1:(Bv c l (Cl c l row).1).1=row:=by simpa using h3
  have e2:(Bv c l (Cl c l row).1).2=0:=by simpa using h2
  exact Il e1 e2
 obtain ⟨k1,k2,k3⟩:=key
 rw [k3]
 refine ⟨k2,by rw [k2];exact k3,?_⟩
 unfold um
 rw [k2]
 show (if ((0:Int) != 0)=true then false else ((Cl c l row).2==0)&&decide ((Cl c l row).1=(Cl c l row).1))=true
 rw [if_neg (by decide),k1]
 simp
/-- A row that may be walked: as long as its columns are many, its values fine. -/
structure RowI (c:List Col) (row:List Val):Prop where
 len:row.length=c.length
 fine:∀v∈row,Fine v
theorem Jo {c:List Col} {row:List Val} (h:E8 c row=true) (hr:∀v∈row, -9223372036854775808≤v.n∧v.n≤9223372036854775807):RowI c row:=by
 unfold E8 at h
 simp only [Ap,beq_iff_eq,B9] at h
 refine ⟨h.1.2,fun v hv=>⟨?_,(hr v hv).1,(hr v hv).2⟩⟩
 obtain ⟨j,hj,rfl⟩:=Xw hv
 have hj2:j<c.length:=by omega
 have:=h.2 (row[j],c[j]) (Ay (i:=j) (by rw [Oi];exact ⟨Aa hj,Aa hj2⟩))
 exact this.1
theorem Rq {c:List Col} {m:Mov} {row:List Val} (ht:(B4 c m).2=0) (hm:Ef m=true) (hg:∀e∈m.ahead,E4 Jf e=true) (h:RowI c row) (hf:(Di c m row).2=0):RowI (B4 c m).1 (Di c m row).1:=by
 unfold Di at hf ⊢
 split at hf
 ·rename_i h1
  rw [show (B7 c row m.ahead).2=0 from hf] at h1
  cases h1
 rename_i h1
 rw [if_neg h1]
 have hl:=Lr (c:=c) (row:=row) (l:=m.ahead) (by simpa using h1)
 refine ⟨?_,fun v hv=>?_⟩
 ·rw [(Kz ht).1,Aw,Aw,Qa h.len,hl,H4,(Et (Iv hm)).1]
 rcases G7.1 hv with h2|h2
 ·exact h.fine v (ul h2)
 exact N5 h.fine hg v h2
theorem Xl {row:List Val} (h:∀v∈row,Fine v) (n:Nat):Fine (row.getD n noV):=by
 rw [Dd]
 cases hn:row[n]? with
 | none=>exact K4
 | some v=>exact h v (Ay hn)
theorem dv {a d:List Col} {m:Mov} {row:List Val} (hg:∀e∈m.back,E4 Jf e=true) (h:RowI d row) (hf:(C6 a d m row).2=0):RowI a (C6 a d m row).1:=by
 unfold C6 at hf ⊢
 split at hf
 ·rename_i h1
  rw [show (B7 d row m.back).2=0 from hf] at h1
  cases h1
 rename_i h1
 rw [if_neg h1]
 refine ⟨Am _,fun v hv=>?_⟩
 obtain ⟨x,_,rfl⟩:=Db.1 hv
 unfold Jp
 split
 ·exact Xl (N5 h.fine hg) _
 exact Xl h.fine _
theorem Qb {c:List Col} {l:List Mov} {row:List Val} {k:Nat} {m:Mov} (hk:l[k]? = some m) (h:(fwM c l row k).2=0):fwM c l row (k+1)=Di (colsAt c l k) m (fwM c l row k).1:=by
 rw [fwM,if_neg (by rw [h];simp),hk]
theorem Qc {c:List Col} {l:List Mov} {row:List Val} {k:Nat} {m:Mov} (hk:l[l.length-1-k]? = some m) (h:(bkM c l row k).2=0):bkM c l row (k+1)=C6 (colsAt c l (l.length-1-k)) (colsAt c l (l.length-1-k+1)) m (bkM c l row k).1:=by
 rw [bkM,if_neg (by rw [h];simp),hk]
theorem Zx {c:List Col} {l:List Mov} {row:List Val} {k:Nat} (h:(fwM c l row k).2≠0):∀n,k<n→fwM c l row n=([],(fwM c l row k).2)
 | 0,hn=>by omega
 | n+1,hn=>by
  by_cases hk:k=n
  ·subst hk
   rw [fwM,if_pos (by simpa using h)]
  rw [fwM,Zx h n (by omega),if_pos (by simpa using h)]
theorem Zy {c:List Col} {l:List Mov} {row:List Val} {k:Nat} (h:(bkM c l row k).2≠0):∀n,k<n→bkM c l row n=([],(bkM c l row k).2)
 | 0,hn=>by omega
 | n+1,hn=>by
  by_cases hk:k=n
  ·subst hk
   rw [bkM,if_pos (by simpa using h)]
  rw [bkM,Zy h n (by omega),if_pos (by simpa using h)]
theorem j7 {c:List Col} {m:Mov} {row:List Val} (h:(Di c m row).2≠0):(Di c m row).1=[]:=by
 unfold Di at h ⊢
 split
 ·rfl
 rename_i h1
 rw [if_neg h1] at h
 exact absurd rfl h
theorem ob {a d:List Col} {m:Mov} {row:List Val} (h:(C6 a d m row).2≠0):(C6 a d m row).1=[]:=by
 unfold C6 at h ⊢
 split
 ·rfl
 rename_i h1
 rw [if_neg h1] at h
 exact absurd rfl h
/-- A failing move ends it. -/
theorem l3 {c:List Col} {l:List Mov} {row:List Val} {k:Nat} {m:Mov} (hk:l[k]? = some m) (h:(fwM c l row k).2=0) (hb:(Di (colsAt c l k) m (fwM c l row k).1).2≠0):fwM c l row l.length=([],(Di (colsAt c l k) m (fwM c l row k).1).2):=by
 have e:=Qb hk h
 have hl:=(Ac.1 hk).1
 by_cases h1:k+1=l.length
 ·rw [←h1,e]
  exact Il (j7 hb) rfl
 have:=Zx (c:=c) (l:=l) (row:=row) (k:=k+1) (by rw [e];exact hb) l.length (by omega)
 rw [this,e]
theorem zd {c:List Col} {l:List Mov} {row:List Val} {k:Nat} {m:Mov} (hl:k<l.length) (hk:l[l.length-1-k]? = some m) (h:(bkM c l row k).2=0) (hb:(C6 (colsAt c l (l.length-1-k)) (colsAt c l (l.length-1-k+1)) m (bkM c l row k).1).2≠0):bkM c l row l.length=([],(C6 (colsAt c l (l.length-1-k)) (colsAt c l (l.length-1-k+1)) m (bkM c l row k).1).2):=by
 have e:=Qc hk h
 by_cases h1:k+1=l.length
 ·rw [h1] at e
  rw [e]
  exact Il (ob hb) rfl
 have:=Zy (c:=c) (l:=l) (row:=row) (k:=k+1) (by rw [e];exact hb) l.length (by omega)
 rw [this,e]
theorem Cp {n k:Nat} {o:Bool} {l:List Val}:Low n (.slice o k (l.map Ba)):=by simp [or_imp,forall_and]
theorem Fm {n k:Nat} {o:Bool} {l:List Val} {v:Val}:Low n (.slice o k (l.map Ba++[Ba v])):=by simp [or_imp,forall_and]
theorem dw {l:List Val} {j:Nat} (h:j<l.length):(l.map Ba)[j]? = some (Ba (l.getD j noV)):=by
 rw [Cs,Aa h,Dd,Aa h];rfl
theorem Qd {l:List Val} (h:∀v∈l,Fine v):∀v∈l, -9223372036854775808≤v.n∧v.n≤9223372036854775807:=fun v hv=>⟨(h v hv).lo,(h v hv).hi⟩
theorem Xm {c:List Col} {row:List Val}:∀{l:List Expr},(B7 c row l).1.length≤l.length
 | []=>Ao _
 | x::r=>by
  rw [B7]
  repeat' split
  ·exact Ah _
  ·exact Ah _
  have:=Xm (c:=c) (row:=row) (l:=r)
  simp only [Bo]
  omega
theorem l4 {take:List Str} {c:List Col} {row:List Val}:(Ey take c row).length≤c.length:=by
 unfold Ey
 rw [Am]
 refine L4 (pk _ _) ?_
 rw [List.length_zip]
 omega
theorem Ti {v:Str} {l:List Str} (h:0≤Fj v l):∃j:Nat,Fj v l=j∧j<l.length:=by
 unfold Fj at h ⊢
 cases hf:l.findIdx? (·==v) with
 | none=>rw [hf] at h;exact absurd h (by decide)
 | some i=>exact ⟨i,rfl,(Hj.1 hf).1⟩
theorem dx {nm:Str} {c:List Col} {y:Col} (h:y∈c) (hn:y.name=nm):∃j:Nat,Bg nm c=j∧j<c.length:=by
 unfold Bg
 cases hf:c.findIdx? (fun y=>y.name==nm) with
 | none =>
  rw [Oh] at hf
  have:=hf y h
  rw [hn] at this
  simp at this
 | some i=>exact ⟨i,rfl,(Hj.1 hf).1⟩
/-- A column that is not taken is there behind the move. -/
theorem un {c:List Col} {m:Mov} {y:Col} (ht:(B4 c m).2=0) (hy:y∈c) (hn:¬0≤Fj y.name m.take):∃j:Nat,Bg y.name (B4 c m).1=j∧j<(B4 c m).1.length:=by
 refine dx (y:=y) ?_ rfl
 rw [(Kz ht).1]
 refine Xy _ ?_
 unfold C1
 rw [N6]
 refine ⟨hy,?_⟩
 rw [←Yz,decide_eq_false hn]
 rfl
theorem c32 (a b:List Val) (ha:a.length≤1048576) (Hp:List AObj):AFun Tryz.prog 32 [B6 a,B6 b] Hp (Ar (decide (a=b))):=by
 refine Ae [.tmp 4] [0,1] Tryz.func32 Tryz.ntmps32 (fun d=>?_)
 refine Z58 ?_;refine M2 ?_;refine A0 [0,1,10] ?_
 refine A1 (fun ht10=>?_) (fun ht10=>?_)
 ·refine Z71 ?_;exact ADg
 refine Z66 ?_;refine A0 [0,1,12,13] ?_
 refine Be (α:=Nat) (fun x=>⟨26,A4 0 (B6 a) (A4 1 (B6 b) (A4 12 (A5 (a.length:Nat)) (A4 13 (A5 (x:Nat)) (fun _=>.any)))),Hp,[],[],none⟩) (fun x=>x≤a.length∧∀(j:Nat) (y:Val),j<x→a[j]? = some y→b[j]? = some y) (fun x=>a.length-x) (0) (by simp) (B0 (by simp)) rfl (fun x hx=>?_)
 refine Z2 ?_;refine A0 [0,1,12,13,14] ?_
 refine Dn (fun ht14=>?_) (fun ht14=>?_)
 ·have hlt:x<a.length:=by simpa using ht14
  have hlb:x<b.length:=by have:=rh ht10;omega
  refine Z20 ?_;refine Z1 ?_;refine A0 [0,1,5,12,13] ?_;refine AAy ?_
  refine Ag (h:=A9 (x) (Ba a[x]) (fun _=>Ak hlt)) (hr:=?_)
  refine Z45 ?_
  refine Ag (h:=A9 (x) (Ba b[x]) (fun _=>Ak hlb)) (hr:=?_)
  refine Qu ?_
  refine A2 (h:=Q.neqAgg Sn (Gs a[x].kind a[x].n b[x].kind b[x].n a[x].s b[x].s)) (hr:=?_)
  refine A0 [0,1,12,13,24] ?_
  refine A1 (fun ht24=>?_) (fun ht24=>?_)
  ·rw [T9] at ht24
   refine Z71 ?_;refine Z41 ?_;exact A7 (Ai A3) ⟨by rw [AFg hlt hlb (by simpa using ht24)],rfl⟩
  rw [T9] at ht24
  refine Ka ?_;refine A0 [0,1,12,13] ?_
  exact As (x+1) ⟨hlt,Fz (p:=fun j y=>b[j]? = some y) hlt hx.2 (by rw [Aa hlb];simpa using (Eq.symm (by simpa using ht24):b[x]=a[x]))⟩ (by omega) (Bk rfl)
 have hxe:a.length≤x:=by simpa using ht14
 refine Z30 ?_;refine Z71 ?_;exact A7 (Ai A3) ⟨by rw [AA5 (by simpa using ht10) (H2 hxe hx.2)],rfl⟩

theorem c20 (l:List Val) (hl:l.length≤1048576) (Hp:List AObj):AFun Tryz.prog 20 [B6 l] Hp (B6 l):=by
 refine Ae [.tmp 2] [0] Tryz.func20 Tryz.ntmps20 (fun d=>?_)
 refine Z49 ?_;refine Z32 ?_
 refine R.eqlNil jU (by kernel_rfl) (fun b hb=>?_)
 refine A0 [0,4] ?_
 refine A1 (fun ht4=>?_) (fun ht4=>?_)
 ·have hl0:l=[]:=by simpa using hb ht4
  subst hl0
  refine Z2 ?_;refine R.nilTmp 2 3 false ?_;refine Z4 ?_;exact AEn
 refine Z3 ?_;refine Z86 ?_;refine A2 ?_
 refine Du jU Tryz.type44 ?_ ?_ ?_
 ·simp [Tryz.t44];omega
 ·simp [Tryz.t44];omega
 refine Ge ?_;exact AEu

theorem c52 (c:List Col) (hc:OkCols c) (row:List Val) (hf:∀v∈row,Fine v) (hrl:row.length≤1048576) (l:List Expr) (h:OkEs l) (Hp:List AObj):AFun Tryz.prog 52 [Ih l,Ad c,B6 row] Hp (.tup [B6 (B7 c row l).1,A5 (B7 c row l).2]):=by
 refine Ae [.tmp 6,.tmp 7] [0,1,2] Tryz.func52 Tryz.ntmps52 (fun d=>?_)
 refine b6 ?_;refine Z2 ?_;refine gc ?_;refine Z52 ?_
 have hlen:=h.len
 refine Oq 8 3 ?_;refine Z13 ?_;refine A0 [1,2,8,13,14,15] ?_
 refine Be (α:=Nat) (fun x=>⟨35,A4 1 (Ad c) (A4 2 (B6 row) (A4 8 (.slice true 3 (((l.take x).map fun e=>(Dy e c row).1).map Ba)) (A4 13 (Ih l) (A4 14 (A5 (l.length:Nat)) (A4 15 (A5 (x:Nat)) (fun _=>.any)))))),Hp,[],[],none⟩) (fun x=>x≤l.length∧∀(j:Nat) (y:Expr),j<x→l[j]? = some y→((Dy y c row).2 != 0)=false) (fun x=>l.length-x) (0) ⟨Ah _,fun j y h=>by omega⟩ (B0 (by simp)) rfl (fun x hx=>?_)
 refine Z2 ?_;refine A0 [1,2,8,13,14,15,16] ?_
 refine Dn (fun ht16=>?_) (fun ht16=>?_)
 ·have hlt:x<l.length:=by simpa using ht16
  refine Po ?_
  refine A2 (h:=A9 (x) (Al l[x]) (fun _=>Ak hlt)) (hr:=?_)
  refine Pr ?_;refine A0 [1,2,8,10,13,14,15] ?_;refine Z18 ?_;refine A6 Tryz.call78 (c78 61 l[x] (h.ok _ (Az hlt)) (by decide) (h.rng _ (Az hlt)) c hc row hrl (Qd hf) _) ?_;refine Pt ?_;refine A0 [1,2,8,11,12,13,14,15] ?_;refine Z8 ?_;refine A0 [1,2,8,11,12,13,14,15,27] ?_
  refine A1 (fun ht27=>?_) (fun ht27=>?_)
  ·have hm:=Lq hx.2 (Aa hlt) ht27
   refine Z1 ?_;refine Z80 ?_;refine Z26 ?_;exact vh
  refine mb ?_
  refine Du jU Tryz.type44 ?_ ?_ ?_
  ·simp only [Am,Bt,Aw,Bo,By,Tryz.t44];omega
  ·simp only [Am,Bt,Aw,Bo,By,Tryz.t44];omega
  refine Ge ?_;refine A0 [1,2,8,13,14,15] ?_;refine Uf ?_;refine A0 [1,2,8,13,14,15] ?_;refine As (x+1) ⟨hlt,Bs hlt hx.2 ht27⟩ (by omega) ?_
  rw [Hv hlt,Cf,Cw,Fc]
  exact Cv (own:=[]) (fun _=>.refl _) (by repeat (first|exact Bd|refine Bc (by first|exact Eu|exact Cp|exact Fm|exact F7|exact D7|exact Dw|exact Low.ro _ Iq|(simp [or_imp,forall_and];done)) ?_)) (by simp) (by simp)
 have hxe:l.length≤x:=by simpa using ht16
 have hm:=Lp (c:=c) (row:=row) fun j y hy=>hx.2 j y (by have:=(Ac.1 hy).1;omega) hy
 rw [D5 hxe]
 refine Z30 ?_;refine Z18 ?_;refine Z9 ?_;exact A7 (Aj A3 A3) ⟨by rw [hm],rfl⟩ (hlow:=by simpa using (Cp (n:=Hp.length) (k:=3) (o:=false) (l:=l.map fun e=>(Dy e c row).1)))

theorem c35 (c:List Col) (hc:OkCols c) (m:Mov) (h:OkMov m) (row:List Val) (hf:∀v∈row,Fine v) (hl:row.length=c.length) (Hp:List AObj):AFun Tryz.prog 35 [Ad c,Fv m,B6 row] Hp (.tup [B6 (Di c m row).1,A5 (Di c m row).2]):=by
 have hcl:=hc.len
 have hrk:=Xm (c:=c) (row:=row) (l:=m.ahead)
 have hal:=h.ahead.len
 refine Ae [.tmp 6,.tmp 7] [0,1,2] Tryz.func35 Tryz.ntmps35 (fun d=>?_)
 refine Z18 ?_;refine A0 [0,2,4] ?_;refine Z39 ?_;refine A6 Tryz.call52 (c52 c hc row hf (by omega) m.ahead h.ahead _) ?_;refine Z67 ?_;refine A0 [0,2,4,8,9] ?_;refine Z8 ?_;refine A0 [0,2,4,8,9,22] ?_
 refine A1 (fun ht22=>?_) (fun ht22=>?_)
 ·have hm:Di c m row=([],(B7 c row m.ahead).2):=if_pos ht22
  exact qo
 have hm:Di c m row=(Ey m.take c row++(B7 c row m.ahead).1,0):=if_neg (by rw [ht22];simp)
 refine Ja ?_;refine A0 [0,2,4,8,10] ?_;refine Z52 ?_;refine Oq 10 3 ?_;refine Z13 ?_;refine A0 [2,4,8,10,24,25,26] ?_
 refine Be (α:=Nat) (fun x=>⟨48,A4 2 (B6 row) (A4 4 (.ro (Ke m)) (A4 8 (B6 (B7 c row m.ahead).1) (A4 10 (.slice true 3 ((Ey m.take (c.take x) row).map Ba)) (A4 24 (Ad c) (A4 25 (A5 (c.length:Nat)) (A4 26 (A5 (x:Nat)) (fun _=>.any))))))),Hp,[],[],none⟩) (fun x=>x≤c.length) (fun x=>c.length-x) (0) (Ah _) (B0 (by simp [Ey])) rfl (fun x hx=>?_)
 refine Z2 ?_;refine A0 [2,4,8,10,24,25,26,27] ?_
 refine Dn (fun ht27=>?_) (fun ht27=>?_)
 ·have hlt:x<c.length:=by simpa using ht27
  have hxr:x<row.length:=by omega
  have hkl:=l4 (take:=m.take) (c:=c.take x) (row:=row)
  rw [Bt] at hkl
  refine Uh ?_
  refine A2 (h:=A9 (x) (Cb c[x]) (fun _=>Ak hlt)) (hr:=?_)
  refine fy ?_;refine A0 [2,4,8,10,11,12,24,25,26] ?_;refine Z39 ?_;refine A6 Tryz.call53 (c53 m.take c[x].name h.takes _) ?_;refine A2 ?_;refine A0 [2,4,8,10,11,24,25,26,36] ?_
  refine A1 (fun ht36=>?_) (fun ht36=>?_)
  ·have hk:=zb hlt hxr (by simpa using ht36)
   refine Z89 ?_;refine Z0 ?_
   refine A2 (h:=A9 (x) (Ba row[x]) (fun _=>Ak hxr)) (hr:=?_)
   refine Z60 ?_
   refine Du jU Tryz.type44 ?_ ?_ ?_
   ·simp only [Am,Bt,Aw,Bo,By,Tryz.t44];omega
   ·simp only [Am,Bt,Aw,Bo,By,Tryz.t44];omega
   refine Ge ?_;refine A0 [2,4,8,10,24,25,26] ?_;refine Uf ?_;refine A0 [2,4,8,10,24,25,26] ?_;refine qw ?_
   simp only [hk,Cf,Cw,Fc]
   exact Cv (own:=[]) (fun _=>.refl _) (by repeat (first|exact Bd|refine Bc (by first|exact Eu|exact Cp|exact Fm|exact F7|exact D7|exact Dw|exact Low.ro _ Iq|(simp [or_imp,forall_and];done)) ?_)) (by simp) (by simp)
  have hk:=uk hlt hxr (by simpa using ht36)
  refine Ka ?_;refine A0 [2,4,8,10,24,25,26] ?_;refine qw ?_
  simp only [hk,Cf,Cw,Fc]
  exact Cv (own:=[]) (fun _=>.refl _) (by repeat (first|exact Bd|refine Bc (by first|exact Eu|exact Cp|exact Fm|exact F7|exact D7|exact Dw|exact Low.ro _ Iq|(simp [or_imp,forall_and];done)) ?_)) (by simp) (by simp)
 have hxe:c.length≤x:=by simpa using ht27
 rw [D5 hxe]
 have hkl:=l4 (take:=m.take) (c:=c) (row:=row)
 refine Z30 ?_;refine Wf ?_;refine A2 ?_
 refine Du jU Tryz.type44 ?_ ?_ ?_
 ·simp only [Am,Bt,Aw,Bo,By,Tryz.t44];omega
 ·simp only [Am,Bt,Aw,Bo,By,Tryz.t44];omega
 refine Ge ?_;refine A2 ?_;refine Z9 ?_;exact A7 (Aj A3 A3) ⟨by rw [hm,←Cf]<;>rfl,rfl⟩ (hlow:=by rw [←Cf];simpa using (Cp (n:=Hp.length) (k:=3) (o:=false) (l:=Ey m.take c row++(B7 c row m.ahead).1)))

theorem c46 (a dd:List Col) (ha:a.length≤1048576) (hd:OkCols dd) (m:Mov) (h:OkMov m) (hb:m.back.length=m.take.length) (hs:∀y∈a,¬0≤Fj y.name m.take→∃j:Nat,Bg y.name dd=j∧j<dd.length) (row:List Val) (hf:∀v∈row,Fine v) (hl:row.length=dd.length) (Hp:List AObj):AFun Tryz.prog 46 [Ad a,Ad dd,Fv m,B6 row] Hp (.tup [B6 (C6 a dd m row).1,A5 (C6 a dd m row).2]):=by
 have hdl:=hd.len
 refine Ae [.tmp 8,.tmp 9] [0,1,2,3] Tryz.func46 Tryz.ntmps46 (fun d=>?_)
 refine Z18 ?_;refine A0 [0,1,3,6] ?_;refine Z39 ?_;refine A6 Tryz.call52 (c52 dd hd row hf (by omega) m.back h.back _) ?_;refine Z67 ?_;refine A0 [0,1,3,6,10,11] ?_;refine Z8 ?_;refine A0 [0,1,3,6,10,11,25] ?_
 refine A1 (fun ht25=>?_) (fun ht25=>?_)
 ·have hm:C6 a dd m row=([],(B7 dd row m.back).2):=if_pos ht25
  refine Z1 ?_;refine R.nilTmp 8 3 false ?_;refine A2 ?_;refine A0 [8,9] ?_;refine Fq ?_;refine C4 ?_;exact ge
 have hm:C6 a dd m row=((a.map (Jp m.take (B7 dd row m.back).1 row dd)),0):=if_neg (by rw [ht25];simp)
 have hwl:=Lr (c:=dd) (row:=row) (l:=m.back) (by simpa using ht25)
 refine Ja ?_;refine A0 [0,1,3,6,10,12] ?_;refine Z52 ?_;refine Oq 12 3 ?_;refine Z13 ?_;refine r7 ?_
 refine Be (α:=Nat) (fun x=>⟨59,A4 1 (Ad dd) (A4 3 (B6 row) (A4 6 (.ro (Ke m)) (A4 10 (B6 (B7 dd row m.back).1) (A4 12 (.slice true 3 (((a.map (Jp m.take (B7 dd row m.back).1 row dd)).take x).map Ba)) (A4 27 (Ad a) (A4 28 (A5 (a.length:Nat)) (A4 29 (A5 (x:Nat)) (fun _=>.any)))))))),Hp,[],[],none⟩) (fun x=>x≤a.length) (fun x=>a.length-x) (0) (Ah _) (B0 (by simp)) rfl (fun x hx=>?_)
 refine Z2 ?_;refine A0 [1,3,6,10,12,27,28,29,30] ?_
 refine Dn (fun ht30=>?_) (fun ht30=>?_)
 ·have hlt:x<a.length:=by simpa using ht30
  have hol:((a.map (Jp m.take (B7 dd row m.back).1 row dd)).take x).length≤x:=List.length_take_le _ _
  have hon:(a.map (Jp m.take (B7 dd row m.back).1 row dd)).take (x+1)=(a.map (Jp m.take (B7 dd row m.back).1 row dd)).take x++[Jp m.take (B7 dd row m.back).1 row dd a[x]]:=by
   rw [Gp (by rw [Am];exact hlt),L1]
  refine Po ?_
  refine A2 (h:=A9 (x) (Cb a[x]) (fun _=>Ak hlt)) (hr:=?_)
  refine Pr ?_;refine A0 [1,3,6,10,12,14,27,28,29] ?_;refine Z76 ?_;refine A6 Tryz.call70 (c70 m.take a[x].name h.takes _) ?_;refine A2 ?_;refine A0 [1,3,6,10,12,14,15,27,28,29] ?_;refine Z1 ?_;refine A0 [1,3,6,10,12,14,15,27,28,29,39] ?_
  refine A1 (fun ht39=>?_) (fun ht39=>?_)
  ·have hj0:0≤Fj a[x].name m.take:=by simpa using ht39
   obtain ⟨j,hj,hjl⟩:=Ti hj0
   have hw:Jp m.take (B7 dd row m.back).1 row dd a[x]=(B7 dd row m.back).1.getD j noV:=by unfold Jp;rw [if_pos hj0,hj];rfl
   refine Wf ?_;refine Z0 ?_
   refine A2 (h:=A9 (j) (Ba ((B7 dd row m.back).1.getD j noV)) (fun _=>dw (by omega))) (hr:=?_)
   refine Z60 ?_
   refine Du jU Tryz.type44 ?_ ?_ ?_
   ·simp only [Am,Bt,Aw,Bo,By,Tryz.t44];omega
   ·simp only [Am,Bt,Aw,Bo,By,Tryz.t44];omega
   refine Ge ?_;refine r7 ?_;refine Z38 ?_;refine K.blE ?_;refine Dk ?_;refine Z31 ?_;refine r7 ?_;refine qw ?_
   rw [hon,hw,Cf,Cw,Fc]
   exact Cv (own:=[]) (fun _=>.refl _) (by repeat (first|exact Bd|refine Bc (by first|exact Eu|exact Cp|exact Fm|exact F7|exact D7|exact Dw|exact Low.ro _ Iq|(simp [or_imp,forall_and];done)) ?_)) (by simp) (by simp)
  have hjn:¬0≤Fj a[x].name m.take:=by simpa using ht39
  obtain ⟨j,hj,hjl⟩:=hs a[x] (Az hlt) hjn
  have hw:Jp m.take (B7 dd row m.back).1 row dd a[x]=row.getD j noV:=by unfold Jp;rw [if_neg hjn,hj];rfl
  refine AB6 ?_;refine Z93 ?_;refine A6 Tryz.call71 (c71 dd hd a[x].name _) ?_
  refine A2 (h:=A9 (j) (Ba (row.getD j noV)) (fun _=>dw (by omega))) (hr:=?_)
  refine Z60 ?_
  refine Du jU Tryz.type44 ?_ ?_ ?_
  ·simp only [Am,Bt,Aw,Bo,By,Tryz.t44];omega
  ·simp only [Am,Bt,Aw,Bo,By,Tryz.t44];omega
  refine Ge ?_;refine r7 ?_;refine Uf ?_;refine r7 ?_;refine qw ?_
  rw [hon,hw,Cf,Cw,Fc]
  exact Cv (own:=[]) (fun _=>.refl _) (by repeat (first|exact Bd|refine Bc (by first|exact Eu|exact Cp|exact Fm|exact F7|exact D7|exact Dw|exact Low.ro _ Iq|(simp [or_imp,forall_and];done)) ?_)) (by simp) (by simp)
 have hxe:a.length≤x:=by simpa using ht30
 rw [D5 (by rw [Am];exact hxe)]
 refine Z30 ?_;refine Z18 ?_;refine A0 [8,9] ?_;refine Fq ?_;exact A7 (Aj A3 A3) ⟨by rw [hm],rfl⟩ (hlow:=by simpa using (Cp (n:=Hp.length) (k:=3) (o:=false) (l:=(a.map (Jp m.take (B7 dd row m.back).1 row dd)))))

theorem c21 (c:List Col) (hc:OkCols c) (hc2:c.length≤1000000) (l:List Mov) (h:OkMovs l) (row:List Val) (hrr:∀v∈row, -9223372036854775808≤v.n∧v.n≤9223372036854775807) (hrl:row.length≤1048576) (Hp:List AObj):AFun Tryz.prog 21 [Ad c,D6 l,B6 row] Hp (.tup [B6 (Bv c l row).1,A5 (Bv c l row).2]):=by
 refine Ae [.tmp 6,.tmp 7] [0,1,2] Tryz.func21 Tryz.ntmps21 (fun d=>?_)
 refine b6 ?_;refine Z1 ?_;refine A6 Tryz.call33 (c33 c hc hc2 l h _) ?_;refine qg ?_;refine Z27 ?_;refine Z10 ?_;refine Bj Tryz.call34 (fun hB=>c34 c hc row hrl _) ?_;refine Z50 ?_;refine A0 [1,2,8,26] ?_
 refine A1 (fun ht26=>?_) (fun ht26=>?_)
 ·have hm:Bv c l row=([],1):=if_pos ht26
  exact wn
 have hm0:Bv c l row=fwM c l row l.length:=if_neg (by rw [ht26];simp)
 have h26:((Cd c l).2 != 0)=false∧E8 c row=true:=by simpa using ht26
 obtain ⟨hmay,hst,hss⟩:=Fh h26.1
 have hR0:=Jo h26.2 hrr
 have hmvo:=Hw hmay
 have hlen:=h.len
 rw [hss]
 refine ABa ?_;refine A2 ?_;refine A0 [1,8,10] ?_;refine Z27 ?_;refine A0 [8,10,29,30,31] ?_
 refine Be (α:=Nat) (fun x=>⟨51,A4 8 (Jm (Ce c l l.length)) (A4 10 (B6 (fwM c l row x).1) (A4 29 (D6 l) (A4 30 (A5 (l.length:Nat)) (A4 31 (A5 (x:Nat)) (fun _=>.any))))),Hp,[],[],none⟩) (fun x=>x≤l.length∧(fwM c l row x).2=0∧RowI (colsAt c l x) (fwM c l row x).1) (fun x=>l.length-x) (0) ⟨Ah _,rfl,hR0⟩ (B0 (by simp [fwM])) rfl (fun x hx=>?_)
 refine Z2 ?_;refine A0 [8,10,29,30,31,32] ?_
 refine Dn (fun ht32=>?_) (fun ht32=>?_)
 ·have hlt:x<l.length:=by simpa using ht32
  obtain ⟨hxl,hfx,hR⟩:=hx
  obtain ⟨m,hm⟩:∃m,m=l[x]:=⟨_,rfl⟩
  have hml:l[x]? = some m:=by rw [hm];exact Aa hlt
  have hmx:(l.map Fv)[x]? = some (Fv m):=by rw [hm];exact Ak hlt
  have hmo:=h.each m (Ay hml)
  have hmv:=hmvo m (Ay hml)
  have hCx:=Ej hc (fun m hm=>h.each m hm) x
  have htn:=Ir hst hml
  refine Uh ?_
  refine A2 (h:=A9 (x) (Fv m) (fun _=>hmx)) (hr:=?_)
  refine fy ?_;refine A0 [8,10,11,12,29,30,31] ?_;refine Df [0,0,3,7,0,0,63,127,255,255,511,2047] 11 An (by kernel_rfl) ?_;refine Z17 ?_
  refine Ag (h:=A9 (x) (Ad (colsAt c l x)) (fun _=>yu (N4 (by omega)))) (hr:=?_)
  refine Z45 ?_;refine Cy Tryz.call35 (c35 (colsAt c l x) hCx m hmo (fwM c l row x).1 hR.fine hR.len _) ?_;refine Z17 ?_;refine g6 ?_;refine A0 [8,9,10,29,30,31] ?_;refine Z1 ?_;refine A0 [8,9,10,29,30,31,47] ?_
  refine A1 (fun ht47=>?_) (fun ht47=>?_)
  ·have hm2:Bv c l row=([],(Di (colsAt c l x) m (fwM c l row x).1).2):=by rw [hm0];exact l3 hml hfx (by simpa using ht47)
   refine Z1 ?_;refine Z80 ?_;refine Z9 ?_;exact ADm
  have hnx:=Qb hml hfx
  have hok:(Di (colsAt c l x) m (fwM c l row x).1).2=0:=by simpa using ht47
  have hRn:=Rq htn hmv (fun e he=>hmo.ahead.rng e he) hR hok
  refine Ka ?_;refine A0 [8,10,29,30,31] ?_
  refine As (x+1) ⟨hlt,by rw [hnx];exact hok,by rw [hnx,Ei hml];exact hRn⟩ (by omega) ?_
  rw [hnx]
  exact Cv (own:=[]) (fun _=>.refl _) (by repeat (first|exact Bd|refine Bc (by first|exact Eu|exact Cp|exact Fm|exact F7|exact D7|exact Dw|exact Low.ro _ Iq|(simp [or_imp,forall_and];done)) ?_)) (by simp) (by simp)
 have hxe:x=l.length:=by simp at ht32;have:=hx.1;omega
 subst hxe
 have hm1:Bv c l row=((fwM c l row l.length).1,0):=by rw [hm0];exact Il rfl hx.2.1
 refine Z30 ?_;refine Z18 ?_;exact AD0

/-! slices.Backward of moves. -/
theorem c91 (l0:Nat) (ms:List Mov) (hml:ms.length≤1048576) (U:Nat→List AObj) (N:Nat→Prop) (Z:List AObj→Prop) (hlen:∀k,(U k).length=(U 0).length) (hll:l0<(U 0).length)
  (hlw:∀k,∀x∈U k,ObjLow (U 0).length x) (h0:N 0)
  (hy:∀k m X,k<ms.length→ms[ms.length-1-k]? = some m→N k→AYield Tryz.prog l0 [A5 ((ms.length-1-k:Nat):Int),Fv m] (U k++X) (fun b H'=>(b=true∧N (k+1)∧H'=U (k+1)++X)∨(b=false∧∃V,H'=V++X∧V.length=(U 0).length∧(∀x∈V,ObjLow (U 0).length x)∧Z V)))
  (hR:N ms.length→Z (U ms.length)):ACall Tryz.prog 91 [.yield l0,.ro [D6 ms]] (U 0) (fun _ H'=>Z H'):=by
 refine Ae [] [0,1] Tryz.func91 Tryz.ntmps91 (fun d=>?_)
 refine Z1 ?_
 refine A2 (h:=J8 (h2:=fun _=>by simp only [Am];omega)) (hr:=?_)
 refine A2 ?_;refine A0 [0,1,3] ?_
 refine Be (α:=Nat×Int) (fun s=>⟨19,A4 0 (.yield l0) (A4 1 (.ro [D6 ms]) (A4 3 (A5 s.2) (fun _=>.any))),U s.1,[],[],none⟩) (fun s=>s.1≤ms.length∧N s.1∧s.2=(ms.length:Int)-1-(s.1:Int)) (fun s=>ms.length-s.1) ((0,(ms.length:Int)-1)) ⟨Ah _,h0,by simp⟩ (B0 (by simp)) rfl (fun s hs=>?_)
 obtain ⟨x,i⟩:=s
 obtain ⟨hx,hN,hi⟩:=hs
 dsimp only at hx hN hi ⊢
 refine Z8 ?_;refine A0 [0,1,3,8] ?_
 refine A1 (fun ht8=>?_) (fun ht8=>?_)
 ·have hlt:x<ms.length:=by simp at ht8;omega
  have hlt2:ms.length-1-x<ms.length:=by omega
  have hi2:i=((ms.length-1-x:Nat):Int):=by omega
  subst hi2
  refine Z44 ?_;refine Z39 ?_
  refine A2 (h:=A9 (ms.length-1-x) (Fv ms[ms.length-1-x]) (fun _=>Ak hlt2)) (hr:=?_)
  refine A2 ?_
  refine R.yield (l:=l0) (args:=[A5 ((ms.length-1-x:Nat):Int),Fv ms[ms.length-1-x]]) (hy x ms[ms.length-1-x] _ hlt (Aa hlt2) hN) ?_
  intro b V O hV hb
  have hVO:O=[]∧((b=true∧N (x+1)∧V=U (x+1))∨(b=false∧V.length=(U 0).length∧(∀y∈V,ObjLow (U 0).length y)∧Z V)):=by
   rcases hb with ⟨h1,h2,h3⟩|⟨h1,V',h2,h3,h4,h5⟩
   ·have h6:=Qh h3 (by rw [hV,hlen x,hlen (x+1)])
    exact ⟨h6.2,.inl ⟨h1,h2,h6.1⟩⟩
   obtain ⟨rfl,rfl⟩:=Qh h2 (by rw [hV,hlen x,h3])
   exact ⟨rfl,.inr ⟨h1,h3,h4,h5⟩⟩
  obtain ⟨rfl,hVO⟩:=hVO
  have hVl:V.length=(U 0).length:=by rw [hV,hlen x]
  have hVw:∀y∈V,ObjLow (U 0).length y:=by
   rcases hVO with ⟨_,_,rfl⟩|⟨_,_,h,_⟩
   ·exact hlw _
   exact h
  refine ⟨fun _=>by rw [hVl];exact hVw,fun o ho=>(by cases ho),?_⟩
  refine A2 ?_;refine A0 [0,1,3,18] ?_
  refine A1 (fun ht18=>?_) (fun ht18=>?_)
  ·have hZ:Z V:=by
    rcases hVO with ⟨h1,_,_⟩|⟨_,_,_,h⟩
    ·rw [h1] at ht18;cases ht18
    exact h
   refine Fq ?_;refine Z35 ?_;exact A7 .nores (hp:=hZ)
  have hVn:N (x+1)∧V=U (x+1):=by
   rcases hVO with ⟨_,h2,h3⟩|⟨h1,_,_,_⟩
   ·exact ⟨h2,h3⟩
   rw [h1] at ht18;cases ht18
  obtain ⟨hN1,rfl⟩:=hVn
  refine Z79 ?_;refine A0 [0,1,3] ?_
  refine As (x+1,((ms.length-1-x:Nat):Int)-1) ⟨hlt,hN1,by dsimp only;omega⟩ (by dsimp only;omega) ?_
  exact Bk rfl
 have hxe:x=ms.length:=by simp at ht8;omega
 refine Z38 ?_;refine K.lpE ?_;exact K.finN .nores (hp:=by rw [hxe];exact hR (hxe ▸ hN))

theorem c69 (l:List Mov) (Hp:List AObj):AFun Tryz.prog 69 [D6 l] Hp (.fn (.func 91) [] [.ro [D6 l]]):=by
 refine Ae [.tmp 2] [0] Tryz.func69 Tryz.ntmps69 (fun d=>?_)
 refine Pp ?_;refine Dv ?_;refine U2 ?_;refine A2 ?_;exact AD2

theorem Vz {n k:Nat} {o:Bool} {l:List Val}:∀z∈[AV.slice o k (l.map Ba)],Low n z:=fun z hz=>by rw [Bz.1 hz];exact Cp
/-- Where the way back stands behind k moves. -/
structure BkAt (c:List Col) (l:List Mov) (row:List Val) (k:Nat):Prop where
 ok:(bkM c l row k).2=0
 row:RowI (colsAt c l (l.length-k)) (bkM c l row k).1
theorem BkAt.zero {c:List Col} {l:List Mov} {row:List Val} (h:RowI (colsAt c l l.length) row):BkAt c l row 0:=⟨rfl,h⟩
theorem BkAt.fin {c:List Col} {l:List Mov} {row:List Val} (h:BkAt c l row l.length):bkM c l row l.length=((bkM c l row l.length).1,0):=Il rfl h.ok
theorem BkAt.next {c:List Col} {l:List Mov} {row:List Val} {k:Nat} {m:Mov} (h:BkAt c l row k) (hk:k<l.length) (hm:l[l.length-1-k]? = some m) (hg:∀e∈m.back,E4 Jf e=true) (he:(C6 (colsAt c l (l.length-1-k)) (colsAt c l (l.length-1-k+1)) m (bkM c l row k).1).2=0):BkAt c l row (k+1):=by
 have e:=Qc hm h.ok
 have hr:=h.row
 rw [show l.length-k=l.length-1-k+1 by omega] at hr
 refine ⟨by rw [e];exact he,?_⟩
 rw [e,show l.length-(k+1)=l.length-1-k by omega]
 exact dv hg hr he
theorem Ny {c:List Col} {l:List Mov} {row:List Val} (h:(((Cd c l).2 != 0) || !E8 (colsAt c l l.length) row)=false):Cl c l row=bkM c l row l.length:=if_neg (by rw [h];simp)
theorem AGq {U:List AObj} {l a b c e:Nat} {x y X Y Z T:AObj} (h:U[l]? = some x) (ha:a≠l) (hb:b≠l) (hc:c≠l) (he:e≠l):(((((U.set l y).set a X).set b Y).set c Z).set e T)[l]? = some y:=by rw [Fb he];exact ACx h ha hb hc
theorem od (c:List Col) (l:List Mov):(Cd c l).1.length≤l.length+1:=by
 unfold Cd F6
 repeat' split
 all_goals first|exact Ah _|exact P8 c l
theorem Rr {c:List Col} {l:List Mov} (h:((Cd c l).2 != 0)=false):((Cd c l).1.map Ad)[l.length]? = some (Ad (colsAt c l l.length))∧((((Cd c l).1.map Ad).length:Nat):Int)-1=((l.length:Nat):Int):=by
 obtain ⟨_,_,hss⟩:=Fh h
 rw [hss]
 refine ⟨yu (N4 (Ao _)),?_⟩
 rw [Am,Hg]
 omega
theorem c45 (l:List Mov) (Hp:List AObj):AFun Tryz.prog 45 [D6 l] Hp (.fn (.func 91) [] [.ro [D6 l]]):=by
 refine Ae [.tmp 2] [0] Tryz.func45 Tryz.ntmps45 (fun d=>?_)
 refine Z49 ?_;refine Z2 ?_;refine A6 Tryz.call69 (c69 l _) ?_;refine A2 ?_;exact AD2

theorem c31 (c:List Col) (hc:OkCols c) (hc2:c.length≤1000000) (l:List Mov) (h:OkMovs l) (row:List Val) (hrr:∀v∈row, -9223372036854775808≤v.n∧v.n≤9223372036854775807) (hrl:row.length≤1048576) (Hp:List AObj):AFun Tryz.prog 31 [Ad c,D6 l,B6 row] Hp (.tup [B6 (Cl c l row).1,A5 (Cl c l row).2]):=by
 refine Ae [.cell 6 24,.cell 7 31] [0,1,2] Tryz.func31 Tryz.ntmps31 (fun d=>?_)
 refine Z98 ?_;refine O0 ?_;refine A0 [0,1,2,6,7] ?_;refine Z1 ?_;refine A6 Tryz.call33 (c33 c hc hc2 l h _) ?_;refine Z97 ?_;refine ql ?_;refine A0 [1,2,6,7,8,9] ?_;refine Z52 ?_
 have hlen:=h.len
 have hsl:((Cd c l).1.map Ad).length≤2000000:=by rw [Am];have:=od c l;omega
 have hcn:=Ej hc (fun m hm=>h.each m hm) l.length
 refine Z13 ?_;refine Ot ?_
 refine B8 (h:=A9 (l.length) (Ad (colsAt c l l.length)) (fun hB=>(Rr (by simpa using hB)).1) (hn:=fun hB=>(Rr (by simpa using hB)).2)) (hr:=?_)
 refine Z10 ?_;refine Bj Tryz.call34 (fun hB=>c34 (colsAt c l l.length) hcn row hrl _) ?_;refine Z50 ?_;refine A0 [1,2,6,7,8,9,31] ?_
 refine A1 (fun ht31=>?_) (fun ht31=>?_)
 ·have hm:Cl c l row=([],1):=if_pos ht31
  refine Dv ?_;refine F9 ?_;refine R.nilOwn 0 3 ?_;refine F9 ?_;refine Z26 ?_;exact A7 (Aj (H9 jA) (H9 jA)) ⟨by rw [hm]<;>rfl,rfl⟩
 have hm:=Ny ht31
 have h31:((Cd c l).2 != 0)=false∧E8 (colsAt c l l.length) row=true:=by simpa using ht31
 obtain ⟨hmay,hst,hss⟩:=Fh h31.1
 have hmvo:=Hw hmay
 have hlen:=h.len
 have hR0:=Jo h31.2 hrr
 have hol:((Ce c l l.length).map Ad).length=l.length+1:=by rw [Am,Hg]
 rw [hss]
 refine ABa ?_;refine Z34 ?_;refine A0 [1,6,7,8,9,10] ?_;refine Z52 ?_
 refine Qs (fun hlow=>?_)
 refine A2 ?_;refine A6 Tryz.call45 (c45 l _) ?_;refine A0 [6,7,8,9,10,35] ?_;refine Ii ?_
 refine W.rangeV (m:=5) Tryz.call91 (fun FR as' bd' hFR has hbd=>?_)
 have hFRl:∀s,Low (Hp.length+7) (FR s):=by
  intro s
  rw [hFR]
  refine Y8 ?_
  revert s
  repeat (first|exact Bd|refine Bc (by first|(simp [oid,or_imp,forall_and];done)|exact F7|exact D7|exact Cp|(simp [oid,or_imp,forall_and];exact ⟨fun m _ a _=>Dg _ a,fun m _ a _=>Dg _ a⟩)|(simp [oid,or_imp,forall_and]<;>omega)) ?_)
 have hOl:∀{e e2:Int} {t:List Val} {lp:AObj},ObjLow (Hp.length+7) lp→∀x∈Hp++[AObj.cells 24 [AV.nil],AObj.cells 31 [A5 e],AObj.cells 63 [Jm (Ce c l l.length)],AObj.cells 31 [A5 e2],AObj.cells 24 [B6 (t)],AObj.defs,lp],ObjLow (Hp.length+7) x:=by
  intro e e2 t lp hlp x hx
  refine Lk (fun x hx=>Ox (by omega) (hlow x hx)) (fun x hx=>?_) x hx
  simp only [C2,Fd,or_false] at hx
  rcases hx with rfl|rfl|rfl|rfl|rfl|rfl|rfl
  ·intro y hy;rw [Bz.1 hy];simp
  ·intro y hy;rw [Bz.1 hy];simp
  ·intro y hy;rw [Bz.1 hy];exact Dw
  ·intro y hy;rw [Bz.1 hy];simp
  ·exact Vz
  ·trivial
  exact hlp
 refine ⟨_,c91 (oid Hp.length 6) l h.len (fun k=>Hp++[AObj.cells 24 [AV.nil],AObj.cells 31 [A5 0],AObj.cells 63 [Jm (Ce c l l.length)],AObj.cells 31 [A5 0],AObj.cells 24 [B6 ((bkM c l row k).1)],AObj.defs,AObj.loop LoopState.ready none FR 57 #[36,37] as' bd' (oid Hp.length 5)]) (BkAt c l row) (fun V=>(∃t,V=Hp++[AObj.cells 24 [AV.nil],AObj.cells 31 [A5 0],AObj.cells 63 [Jm (Ce c l l.length)],AObj.cells 31 [A5 0],AObj.cells 24 [B6 (t)],AObj.defs,AObj.loop LoopState.ready none FR 57 #[36,37] as' bd' (oid Hp.length 5)]∧Cl c l row=(t,0)∧RowI c t)∨(∃(e:Int) (t:List Val),V=Hp++[AObj.cells 24 [AV.nil],AObj.cells 31 [A5 e],AObj.cells 63 [Jm (Ce c l l.length)],AObj.cells 31 [A5 e],AObj.cells 24 [B6 (t)],AObj.defs,AObj.loop LoopState.done (some Code.ret) FR 57 #[36,37] as' bd' (oid Hp.length 5)]∧Cl c l row=([],e))) (fun k=>by simp) (by simp [oid]) (fun k=>(fun x hx=>by rw [Aw];exact hOl (lp:=AObj.loop LoopState.ready none FR 57 #[36,37] as' bd' (oid Hp.length 5)) (by exact ⟨hFRl,by simp [oid]⟩) x hx)) (.zero hR0) (fun k m X hk hm hN=>?_) (fun hN=>.inl ⟨_,rfl,by rw [Ny ht31];exact hN.fin,by have:=hN.row;rw [L7] at this;exact this⟩),?_⟩
 ·generalize hV:Hp++[AObj.cells 24 [AV.nil],AObj.cells 31 [A5 0],AObj.cells 63 [Jm (Ce c l l.length)],AObj.cells 31 [A5 0],AObj.cells 24 [B6 ((bkM c l row k).1)],AObj.defs,AObj.loop LoopState.ready none FR 57 #[36,37] as' bd' (oid Hp.length 5)]++X=V
  have hL:V[oid Hp.length 6]? = some (AObj.loop LoopState.ready none FR 57 #[36,37] as' bd' (oid Hp.length 5)):=by rw [←hV,C9,Dh];rfl
  have hA0:V[oid Hp.length 0]? = some (AObj.cells 24 [AV.nil]):=by rw [←hV,C9,Dh];rfl
  have hB0:V[oid Hp.length 1]? = some (AObj.cells 31 [A5 0]):=by rw [←hV,C9,Dh];rfl
  have hS0:V[oid Hp.length 2]? = some (AObj.cells 63 [Jm (Ce c l l.length)]):=by rw [←hV,C9,Dh];rfl
  have hE0:V[oid Hp.length 3]? = some (AObj.cells 31 [A5 0]):=by rw [←hV,C9,Dh];rfl
  have hZ0:V[oid Hp.length 4]? = some (AObj.cells 24 [B6 (bkM c l row k).1]):=by rw [←hV,C9,Dh];rfl
  refine Ye (pd:=none) (fr:=FR) (sz:=57) (ps:=#[36,37]) (df:=oid Hp.length 5) (asg:=as') (bd:=bd') hL rfl (by decide) (fun d=>?_)
  subst hFR has hbd
  refine Mr [6,7,8,9,10,36,37] ?_
  have hmo:=h.each m (Ay hm)
  have hmv:=hmvo m (Ay hm)
  have htn:=Ir hst hm
  have hcn:=Ei (c:=c) hm
  have hCo:=Ej hc (fun m hm=>h.each m hm) (l.length-1-k+1)
  have hCi:=Ej hc (fun m hm=>h.each m hm) (l.length-1-k)
  have herr:=fun hb=>zd (row:=row) hk hm hN.ok hb
  have hnxt:=hN.next hk hm (fun e he=>hmo.back.rng e he)
  have htb:=Qc hm hN.ok
  have htl:=hN.row
  rw [show l.length-k=l.length-1-k+1 by omega] at htl
  have hik:l.length-1-k<l.length:=by omega
  have hsy:∀y∈colsAt c l (l.length-1-k),¬0≤Fj y.name m.take→∃j:Nat,Bg y.name (colsAt c l (l.length-1-k+1))=j∧j<(colsAt c l (l.length-1-k+1)).length:=fun y hy hn=>by
   rw [hcn]
   exact un htn hy hn
  generalize l.length-1-k=i at *
  refine Z2 ?_;refine A0 [6,7,8,9,10,11,37] ?_;refine Mf ?_;refine Z34 ?_;refine A0 [6,7,8,9,10,11,12] ?_
  refine ⟨rfl,none,hL,?_⟩
  generalize hbz:(AObj.loop LoopState.busy _ _ _ _ _ _ _)=bz
  have hA:(V.set (oid Hp.length 6) bz)[oid Hp.length 0]? = some (AObj.cells 24 [AV.nil]):=by rw [Fb (D8 (by decide))];exact hA0
  have hB:(V.set (oid Hp.length 6) bz)[oid Hp.length 1]? = some (AObj.cells 31 [A5 0]):=by rw [Fb (D8 (by decide))];exact hB0
  have hS:(V.set (oid Hp.length 6) bz)[oid Hp.length 2]? = some (AObj.cells 63 [Jm (Ce c l l.length)]):=by rw [Fb (D8 (by decide))];exact hS0
  have hE:(V.set (oid Hp.length 6) bz)[oid Hp.length 3]? = some (AObj.cells 31 [A5 0]):=by rw [Fb (D8 (by decide))];exact hE0
  have hZ:(V.set (oid Hp.length 6) bz)[oid Hp.length 4]? = some (AObj.cells 24 [B6 (bkM c l row k).1]):=by rw [Fb (D8 (by decide))];exact hZ0
  refine Ii ?_
  refine Mp [0,0,3,7,0,0,32,112,240,0,0,2047,4095,8191,8191,16383,65535] [15] [.q 14 [] [0],.q 1 [] [],.s [] (some 0) [] []] (fun B=>if B 0=true then ((V.set (oid Hp.length 6) bz).set (oid Hp.length 4) (AObj.cells 24 [B6 (C6 (colsAt c l i) (colsAt c l (i+1)) m (bkM c l row k).1).1])) else (V.set (oid Hp.length 6) bz)) (fun _=>[AObj.cells 50 (Ke m)]) An (by kernel_rfl) rfl rfl (fun B=>by split<;>simp) ?_
  apply Y.q
  ·intro B hT hF
   first|simp only [hF 0 (jf 0),A8,if_false]|skip
   refine Ag (h:=Ml hS) (hr:=?_)
   refine Ag ?_
   refine Ag (h:=A9 (i) (Ad (colsAt c l i)) (fun _=>yu (N4 (by omega)))) (hr:=?_)
   refine Ag ?_
   refine Ag (h:=Ml hS) (hr:=?_)
   refine Z17 ?_
   refine Ag (h:=A9 ((i+1)) (Ad (colsAt c l (i+1))) (fun _=>yu (N4 (by omega)))) (hr:=?_)
   refine Z17 ?_
   refine Ag (h:=Ml hZ) (hr:=?_)
   refine Cy Tryz.call46 (c46 (colsAt c l i) (colsAt c l (i+1)) hCi.len hCo m hmo (Et (Iv hmv)).2 hsy (bkM c l row k).1 htl.fine htl.len _) ?_;refine Z17 ?_;exact D.end rfl rfl
  case hTF=>decide
  apply Y.q
  ·intro B hT hF
   first|simp only [hF 0 (jf 0),A8,if_false]|skip
   refine Ag ?_;exact D.end rfl rfl
  case hTF=>decide
  refine Y.storeUp (o:=oid Hp.length 4) (t':=24) (ys:=[B6 (C6 (colsAt c l i) (colsAt c l (i+1)) m (bkM c l row k).1).1]) (cs:=[B6 (bkM c l row k).1]) (cs':=[B6 (C6 (colsAt c l i) (colsAt c l (i+1)) m (bkM c l row k).1).1]) Tryz.sizeOf24 (fun B hB=>⟨by simp only [hB];exact hZ,by simp [upd,hB],rfl,Vz⟩) ?_
  refine Oo (tn:=[15]) (U:=((V.set (oid Hp.length 6) bz).set (oid Hp.length 4) (AObj.cells 24 [B6 (C6 (colsAt c l i) (colsAt c l (i+1)) m (bkM c l row k).1).1]))) ?_
  refine Ol jS (Zw hE (D8 (by decide))) ?_ ?_
  ·simp
  refine A0 [6,7,9] ?_;refine Dv ?_
  have hE2:(((V.set (oid Hp.length 6) bz).set (oid Hp.length 4) (AObj.cells 24 [B6 (C6 (colsAt c l i) (colsAt c l (i+1)) m (bkM c l row k).1).1])).set (oid Hp.length 3) (AObj.cells 31 [A5 (C6 (colsAt c l i) (colsAt c l (i+1)) m (bkM c l row k).1).2]))[oid Hp.length 3]? = some (AObj.cells 31 [A5 (C6 (colsAt c l i) (colsAt c l (i+1)) m (bkM c l row k).1).2]):=U6 (Zw hE (D8 (by decide)))
  refine A2 (h:=Ml hE2) (hr:=?_)
  refine A2 ?_;refine A0 [6,7,9,54] ?_
  refine A1 (fun ht54=>?_) (fun ht54=>?_)
  ·have herr:=herr (by simpa using ht54)
   refine Mp [0,0,3] [1] [.q 1 [] [],.s [] (some 0) [] []] (fun B=>if B 0=true then ((((V.set (oid Hp.length 6) bz).set (oid Hp.length 4) (AObj.cells 24 [B6 (C6 (colsAt c l i) (colsAt c l (i+1)) m (bkM c l row k).1).1])).set (oid Hp.length 3) (AObj.cells 31 [A5 (C6 (colsAt c l i) (colsAt c l (i+1)) m (bkM c l row k).1).2])).set (oid Hp.length 0) (AObj.cells 24 [AV.nil])) else (((V.set (oid Hp.length 6) bz).set (oid Hp.length 4) (AObj.cells 24 [B6 (C6 (colsAt c l i) (colsAt c l (i+1)) m (bkM c l row k).1).1])).set (oid Hp.length 3) (AObj.cells 31 [A5 (C6 (colsAt c l i) (colsAt c l (i+1)) m (bkM c l row k).1).2]))) (fun _=>[AObj.cells 50 (Ke m)]) An (by kernel_rfl) rfl rfl (fun B=>by split<;>simp) ?_
   apply Y.q
   ·intro B hT hF
    refine Ag (h:=Ml (show (if B 0=true then ((((V.set (oid Hp.length 6) bz).set (oid Hp.length 4) (AObj.cells 24 [B6 (C6 (colsAt c l i) (colsAt c l (i+1)) m (bkM c l row k).1).1])).set (oid Hp.length 3) (AObj.cells 31 [A5 (C6 (colsAt c l i) (colsAt c l (i+1)) m (bkM c l row k).1).2])).set (oid Hp.length 0) (AObj.cells 24 [AV.nil])) else (((V.set (oid Hp.length 6) bz).set (oid Hp.length 4) (AObj.cells 24 [B6 (C6 (colsAt c l i) (colsAt c l (i+1)) m (bkM c l row k).1).1])).set (oid Hp.length 3) (AObj.cells 31 [A5 (C6 (colsAt c l i) (colsAt c l (i+1)) m (bkM c l row k).1).2])))[oid Hp.length 3]? = some (AObj.cells 31 [A5 (C6 (colsAt c l i) (colsAt c l (i+1)) m (bkM c l row k).1).2]) by split;exact Zw hE2 (D8 (by decide));exact hE2)) (hr:=?_)
    exact D.end rfl rfl
   case hTF=>decide
   refine Y.storeUp (o:=oid Hp.length 0) (t':=24) (ys:=[.nil]) (cs:=[.nil]) (cs':=[.nil]) Tryz.sizeOf24 (fun B hB=>⟨by simp only [hB];exact Zw (Zw hA (D8 (by decide))) (D8 (by decide)),by simp [upd,hB],rfl,by simp⟩) ?_
   refine Oo (tn:=[1]) (U:=((((V.set (oid Hp.length 6) bz).set (oid Hp.length 4) (AObj.cells 24 [B6 (C6 (colsAt c l i) (colsAt c l (i+1)) m (bkM c l row k).1).1])).set (oid Hp.length 3) (AObj.cells 31 [A5 (C6 (colsAt c l i) (colsAt c l (i+1)) m (bkM c l row k).1).2])).set (oid Hp.length 0) (AObj.cells 24 [AV.nil]))) ?_
   refine Ol jS (Zw (Zw (Zw hB (D8 (by decide))) (D8 (by decide))) (D8 (by decide))) ?_ ?_
   ·simp
   refine A0 [] ?_;refine Fq ?_;refine K.blR ?_
   subst hbz
   refine K.rdR (AGq hL (D8 (by decide)) (D8 (by decide)) (D8 (by decide)) (D8 (by decide))) ?_
   refine .inr ⟨rfl,Hp++[AObj.cells 24 [AV.nil],AObj.cells 31 [A5 (C6 (colsAt c l i) (colsAt c l (i+1)) m (bkM c l row k).1).2],AObj.cells 63 [Jm (Ce c l l.length)],AObj.cells 31 [A5 (C6 (colsAt c l i) (colsAt c l (i+1)) m (bkM c l row k).1).2],AObj.cells 24 [B6 ((C6 (colsAt c l i) (colsAt c l (i+1)) m (bkM c l row k).1).1)],AObj.defs,_],?_,by simp,(fun x hx=>by rw [Aw];exact hOl (lp:=_) (by exact ⟨hFRl,by simp [oid]⟩) x hx),.inr ⟨_,_,rfl,by rw [Ny ht31];exact herr⟩⟩
   subst hV
   simp only [C9,K1,Fa,Ez,List.set_cons_succ,List.set_cons_zero]
  have hB1:=hnxt (by simpa using ht54)
  refine Me ?_;refine K.blN ?_
  subst hbz
  refine ABc ?_
  refine .inl ⟨rfl,hB1,?_⟩
  subst hV
  simp only [C9,K1,Fa,Ez,List.set_cons_succ,List.set_cons_zero]
  rw [htb,show (C6 (colsAt c l i) (colsAt c l (i+1)) m (bkM c l row k).1).2=0 by simpa using ht54]
 rintro r H' (⟨t,rfl,hrun,_⟩|⟨e,t,rfl,hrun⟩)
 ·refine ⟨Hp,_,_,_,rfl,rfl,fun h=>h,?_,rfl,by simp,?_⟩
  ·intro o ho
   have:o=oid Hp.length 5:=by simpa using ho
   subst this
   rw [Dh]
   rfl
  refine Z11 ?_;refine Z2 ?_;refine F9 ?_;refine F9 ?_;refine Z9 ?_;exact A7 (Aj (H9 jA) (H9 jA)) ⟨by rw [hrun],rfl⟩ (hlow:=by simp only [Yj,C2,Fd,or_false];rintro y (rfl|rfl);exact Cp;simp)
 refine ⟨Hp,_,_,_,rfl,rfl,fun h=>h,?_,rfl,by simp,?_⟩
 ·intro o ho
  have:o=oid Hp.length 5:=by simpa using ho
  subst this
  rw [Dh]
  rfl
 refine W.nilOwn 0 3 ?_;refine Fq ?_;refine Z6 ?_;exact A7 (Aj (H9 jA) (H9 jA)) ⟨by rw [hrun];rfl,rfl⟩

theorem Zz {c:List Col} {l:List Mov} {row:List Val} (h:OkMovs l) (h0:RowI (colsAt c l l.length) row):∀k,k≤l.length→(bkM c l row k).2=0→BkAt c l row k
 | 0,_,_=>.zero h0
 | k+1,hk,he=>by
  have h1:(bkM c l row k).2=0:=H5 fun hn=>by
   rw [Zy hn (k+1) (by omega)] at he
   exact hn he
  obtain ⟨m,hm⟩:∃m,l[l.length-1-k]? = some m:=⟨l[l.length-1-k],Aa (by omega)⟩
  refine (Zz h h0 k (by omega) h1).next (by omega) hm (fun e he=>(h.each m (Ay hm)).back.rng e he) ?_
  rw [←Qc hm h1]
  exact he
theorem Xn {c:List Col} {l:List Mov} {row:List Val} (h:OkMovs l) (hrr:∀v∈row, -9223372036854775808≤v.n∧v.n≤9223372036854775807) (hb:(Cl c l row).2=0):RowI c (Cl c l row).1:=by
 unfold Cl at hb ⊢
 split at hb
 ·cases hb
 rename_i h1
 rw [if_neg h1]
 have h2:E8 (colsAt c l l.length) row=true:=by
  simp only [Cu,Cr,not_or,Xt] at h1
  exact h1.2
 have:=(Zz h (Jo h2 hrr) l.length (Ao _) hb).row
 rw [L7] at this
 exact this
theorem W0 {c:List Col} {l:List Mov} {row:List Val} (h:OkMovs l) (hs:((Cd c l).2 != 0)=false) (h0:RowI c row):∀k,k≤l.length→(fwM c l row k).2=0→RowI (colsAt c l k) (fwM c l row k).1
 | 0,_,_=>h0
 | k+1,hk,he=>by
  obtain ⟨hmay,hst,_⟩:=Fh hs
  have h1:(fwM c l row k).2=0:=H5 fun hn=>by
   rw [Zx hn (k+1) (by omega)] at he
   exact hn he
  obtain ⟨m,hm⟩:∃m,l[k]? = some m:=⟨l[k],Aa (by omega)⟩
  have hml:=Ay hm
  have e:=Qb hm h1
  rw [e,Ei hm]
  exact Rq (Ir hst hm) (Hw hmay m hml) (fun e he=>(h.each m hml).ahead.rng e he) (W0 h hs h0 k (by omega) h1) (by rw [←e];exact he)
theorem W1 {c:List Col} {l:List Mov} {row:List Val} (h:OkMovs l) (hrr:∀v∈row, -9223372036854775808≤v.n∧v.n≤9223372036854775807) (hb:(Bv c l row).2=0):RowI (colsAt c l l.length) (Bv c l row).1:=by
 unfold Bv at hb ⊢
 split at hb
 ·cases hb
 rename_i h1
 rw [if_neg h1]
 have h2:((Cd c l).2 != 0)=false∧E8 c row=true:=by
  simp only [Cu,Cr,not_or,Xt,eg] at h1
  exact h1
 exact W0 h h2.1 (Jo h2.2 hrr) l.length (Ao _) hb
theorem ze {c:List Col} {l:List Mov} {row:List Val} (h:OkMovs l) (hrr:∀v∈row, -9223372036854775808≤v.n∧v.n≤9223372036854775807) (ho:(F8 c l row).2=0):RowI c (F8 c l row).1:=by
 unfold F8 at ho ⊢
 split at ho
 ·rename_i h1
  rw [show (Cl c l row).2=0 from ho] at h1
  cases h1
 rename_i h1
 rw [if_neg h1]
 split at ho
 ·rename_i h2
  rw [show (Bv c l (Cl c l row).1).2=0 from ho] at h2
  cases h2
 rename_i h2
 rw [if_neg h2]
 split at ho
 ·cases ho
 rename_i h3
 rw [if_neg h3]
 exact Xn h hrr (by simpa using h1)
theorem c19 (c:List Col) (hc:OkCols c) (hc2:c.length≤1000000) (l:List Mov) (h:OkMovs l) (row:List Val) (hrr:∀v∈row, -9223372036854775808≤v.n∧v.n≤9223372036854775807) (hrl:row.length≤1048576) (Hp:List AObj):AFun Tryz.prog 19 [Ad c,D6 l,B6 row] Hp (.tup [B6 (F8 c l row).1,A5 (F8 c l row).2]):=by
 refine Ae [.tmp 6,.tmp 7] [0,1,2] Tryz.func19 Tryz.ntmps19 (fun d=>?_)
 refine b6 ?_;refine Z18 ?_;refine A6 Tryz.call31 (c31 c hc hc2 l h row hrr hrl _) ?_;refine qg ?_;refine Z8 ?_;refine A0 [0,1,2,8,9,19] ?_
 refine A1 (fun ht19=>?_) (fun ht19=>?_)
 ·have hm:F8 c l row=([],(Cl c l row).2):=if_pos ht19
  exact qo
 have n1:¬((Cl c l row).2 != 0)=true:=by rw [ht19];simp
 have hB:=Xn h hrr (by simpa using ht19:(Cl c l row).2=0)
 refine Z77 ?_
 refine A6 Tryz.call21 (c21 c hc hc2 l h (Cl c l row).1 (Qd hB.fine) (by rw [hB.len];exact hc.len) _) ?_
 refine Z67 ?_;refine A0 [2,8,9,10] ?_;refine Z20 ?_;refine Z18 ?_;refine A0 [2,8,9,10,28] ?_
 refine A1 (fun ht28=>?_) (fun ht28=>?_)
 ·have hm:F8 c l row=([],(Bv c l (Cl c l row).1).2):=by unfold F8;rw [if_neg n1,if_pos ht28]
  refine Z1 ?_;refine Z80 ?_;exact ADu
 have n2:¬((Bv c l (Cl c l row).1).2 != 0)=true:=by rw [ht28];simp
 have hF:=W1 h (Qd hB.fine) (by simpa using ht28:(Bv c l (Cl c l row).1).2=0)
 refine Z1 ?_
 refine A6 Tryz.call32 (c32 (Bv c l (Cl c l row).1).1 row (by rw [hF.len];exact (Ej hc (fun m hm=>h.each m hm) l.length).len) _) ?_
 refine Z0 ?_;refine A0 [8,32] ?_
 refine A1 (fun ht32=>?_) (fun ht32=>?_)
 ·have hm:F8 c l row=([],14):=by unfold F8;rw [if_neg n1,if_neg n2,if_pos ht32]
  refine Z2 ?_;refine Z80 ?_;exact ADu
 have hm:F8 c l row=((Cl c l row).1,0):=by unfold F8;rw [if_neg n1,if_neg n2,if_neg (by rw [ht32];simp)]
 refine Z19 ?_;refine Z18 ?_;refine Z9 ?_;exact A7 (Aj A3 A3) ⟨by rw [hm]<;>rfl,rfl⟩ (hlow:=by simpa using (Cp (n:=Hp.length) (k:=3) (o:=false) (l:=(Cl c l row).1)))
/-! ImageJoins: rows forth and back, move by move. -/
theorem Rt {over:List Col}:∀{l:List Expr} {w:List Col},Cc over l w=0→∀(j:Nat) (x:Expr) (y:Col),l[j]? = some x→w[j]? = some y→Kx x over y.kind=0
 | [],_,_,j,x,y,h,_=>by simp at h
 | _::_,[],_,j,x,y,_,h=>by simp at h
 | a::l,b::w,h,j,x,y,h1,h2=>by
  rw [Cc] at h
  by_cases h0:(Kx a over b.kind != 0)=true
  ·rw [if_pos h0] at h
   rw [h] at h0
   cases h0
  rw [if_neg h0] at h
  cases j with
  | zero =>
   have e1:a=x:=by simpa using h1
   have e2:b=y:=by simpa using h2
   rw [←e1,←e2]
   simpa using h0
  | succ j=>exact Rt h j x y (by simpa using h1) (by simpa using h2)
theorem l5 {x:Expr} {c:List Col} {k:Int} {row:List Val} (h:Kx x c k=0) (hr:E8 c row=true) (he:(Dy x c row).2=0):(Dy x c row).1.kind=0∨(Dy x c row).1.kind=k:=by
 unfold Kx at h
 by_cases h1:((E0 x c).2 != 0)=true
 ·rw [if_pos h1] at h
  rw [h] at h1
  cases h1
 rw [if_neg h1] at h
 have h1:(E0 x c).2=0:=by simpa using h1
 by_cases h2:(!Sa x c k)=true
 ·rw [if_pos h2] at h
  cases h
 have h2:Sa x c k=true:=by simpa using h2
 unfold Sa at h2
 simp only [Ap,Cu,beq_iff_eq] at h2
 have:=(nx h1 hr).kind he
 rcases h2.2 with h3|h3<;>omega
theorem W3 {c:List Col} {m:Mov} (h:(B4 c m).2=0):Cc c m.ahead (B2 c m)=0∧Cc (B4 c m).1 m.back (Es c m)=0:=by
 by_cases h1:((Co c m.take (B2 c m)).2 != 0)=true
 ·rw [Zp h1] at h
  rw [show (Co c m.take (B2 c m)).2=0 from h] at h1
  cases h1
 have h1:((Co c m.take (B2 c m)).2 != 0)=false:=by simpa using h1
 by_cases h2:(Cc c m.ahead (B2 c m) != 0)=true
 ·rw [Zq h1 h2] at h
  rw [show Cc c m.ahead (B2 c m)=0 from h] at h2
  cases h2
 have h2:(Cc c m.ahead (B2 c m) != 0)=false:=by simpa using h2
 by_cases h3:(Cc (Co c m.take (B2 c m)).1 m.back (Es c m) != 0)=true
 ·rw [Zr h1 h2 h3] at h
  rw [show Cc (Co c m.take (B2 c m)).1 m.back (Es c m)=0 from h] at h3
  cases h3
 have h3:(Cc (Co c m.take (B2 c m)).1 m.back (Es c m) != 0)=false:=by simpa using h3
 rw [Zs h1 h2 h3]
 exact ⟨by simpa using h2,by simpa using h3⟩
theorem Pa {c:List Col} {row:List Val}:∀{l:List Expr},(B7 c row l).2=0→∀(j:Nat) (x:Expr),l[j]? = some x→(Dy x c row).2=0∧(B7 c row l).1[j]? = some (Dy x c row).1
 | [],_,j,x,h=>by simp at h
 | a::r,h,j,x,hx=>by
  rw [B7] at h ⊢
  by_cases h1:((Dy a c row).2 != 0)=true
  ·rw [if_pos h1] at h
   rw [show (Dy a c row).2=0 from h] at h1
   cases h1
  rw [if_neg h1] at h ⊢
  by_cases h2:((B7 c row r).2 != 0)=true
  ·rw [if_pos h2] at h
   rw [show (B7 c row r).2=0 from h] at h2
   cases h2
  rw [if_neg h2]
  cases j with
  | zero =>
   have e1:a=x:=by simpa using hx
   rw [←e1]
   exact ⟨by simpa using h1,rfl⟩
  | succ j=>exact Pa (l:=r) (by simpa using h2) j x (by simpa using hx)
theorem Xo {take:List Str}:∀{c:List Col} {row:List Val},row.length=c.length→∀(i:Nat) (v:Val) (y:Col),(Ey take c row)[i]? = some v→(C1 c take)[i]? = some y→∃j:Nat,row[j]? = some v∧c[j]? = some y
 | [],[],_,i,v,y,h,_=>by simp [Ey] at h
 | a::c,b::row,hl,i,v,y,h1,h2=>by
  have hl2:row.length=c.length:=by simpa using hl
  unfold Ey at h1
  unfold C1 at h2
  rw [List.zip_cons_cons,M9] at h1
  rw [M9] at h2
  have ih:=Xo (take:=take) hl2
  by_cases ht:(!take.contains a.name)=true
  ·rw [if_pos ht] at h1 h2
   cases i with
   | zero=>exact ⟨0,by simpa using h1,by simpa using h2⟩
   | succ i =>
    obtain ⟨j,e1,e2⟩:=ih i v y (by simpa [Ey] using h1) (by simpa [C1] using h2)
    exact ⟨j+1,by simpa using e1,by simpa using e2⟩
  rw [if_neg ht] at h1 h2
  obtain ⟨j,e1,e2⟩:=ih i v y (by simpa [Ey] using h1) (by simpa [C1] using h2)
  exact ⟨j+1,by simpa using e1,by simpa using e2⟩
 | [],_::_,hl,_,_,_,_,_=>by simp at hl
 | _::_,[],hl,_,_,_,_,_=>by simp at hl
theorem Sb {c:List Col} (h:Ct c=true):Fi c=true:=by
 unfold Ct at h
 simp only [Ap] at h
 exact h.2
/-- What comes forth is a row over the columns behind. -/
theorem j8 {c:List Col} {m:Mov} {row:List Val} (ht:(B4 c m).2=0) (hm:Ef m=true) (hg:∀e∈m.ahead,E4 Jf e=true) (h:RowI c row) (hp:E8 c row=true) (hf:(Di c m row).2=0):E8 (B4 c m).1 (Di c m row).1=true:=by
 have hR:=Rq ht hm hg h hf
 obtain ⟨e1,hrc,hrt⟩:=Kz ht
 obtain ⟨p1,p2,p3⟩:=row_iff.1 hp
 refine row_iff.2 ⟨Sb hrt,hR.len,fun i v y hv hy=>?_⟩
 refine ⟨(hR.fine v (Ay hv)).plain,?_⟩
 have hk:(B7 c row m.ahead).2=0:=by
  unfold Di at hf
  by_cases h1:((B7 c row m.ahead).2 != 0)=true
  ·rw [if_pos h1] at hf
   exact hf
  simpa using h1
 have ev:Di c m row=(Ey m.take c row++(B7 c row m.ahead).1,0):=if_neg (by rw [hk];simp)
 rw [ev] at hv
 rw [e1] at hy
 have hlen:=Qa (take:=m.take) h.len
 rcases Bh i (Ey m.take c row).length with hi|hi
 ·rw [De hi] at hv
  rw [De (by omega)] at hy
  obtain ⟨j,j1,j2⟩:=Xo h.len i v y hv hy
  exact (p3 j v y j1 j2).2
 rw [Dj hi] at hv
 rw [Dj (by omega),←hlen] at hy
 generalize i-(Ey m.take c row).length=j at hv hy
 have hj:j<m.ahead.length:=by
  have:=(Ac.1 hv).1
  rw [Lr hk] at this
  exact this
 obtain ⟨a1,a2⟩:=Pa hk j m.ahead[j] (Aa hj)
 rw [a2] at hv
 injection hv with hv
 rw [←hv]
 exact l5 (Rt (W3 ht).1 j _ y (Aa hj) hy) hp a1
theorem zf {v:Str} {l:List Str} {j:Nat} (h:Fj v l=(j:Int)):l[j]? = some v:=by
 unfold Fj at h
 cases hf:l.findIdx? (·==v) with
 | none=>rw [hf] at h;exact absurd (show (-1:Int)=(j:Int) from h) (by omega)
 | some i =>
  rw [hf] at h
  have h:(i:Int)=(j:Int):=h
  have e:i=j:=by omega
  obtain ⟨a,b,_⟩:=Hj.1 hf
  rw [←e,Aa a]
  have:l[i]=v:=by simpa using b
  rw [this]
theorem l6 {c:List Col} (h:Ct c=true):(c.map (·.name)).Nodup:=(cb (by rw [Ks];exact h)).2.2
/-- What comes back is a row over the columns ahead. -/
theorem oe {c:List Col} {m:Mov} {row:List Val} (ht:(B4 c m).2=0) (hm:Ef m=true) (hg:∀e∈m.back,E4 Jf e=true) (h:RowI (B4 c m).1 row) (hp:E8 (B4 c m).1 row=true) (hf:(C6 c (B4 c m).1 m row).2=0):E8 c (C6 c (B4 c m).1 m row).1=true:=by
 have hR:=dv (a:=c) hg h hf
 obtain ⟨e1,hrc,hrt⟩:=Kz ht
 obtain ⟨p1,p2,p3⟩:=row_iff.1 hp
 refine row_iff.2 ⟨Sb hrc,hR.len,fun i v y hv hy=>?_⟩
 refine ⟨(hR.fine v (Ay hv)).plain,?_⟩
 have hk:(B7 (B4 c m).1 row m.back).2=0:=by
  unfold C6 at hf
  by_cases h1:((B7 (B4 c m).1 row m.back).2 != 0)=true
  ·rw [if_pos h1] at hf
   exact hf
  simpa using h1
 have ev:C6 c (B4 c m).1 m row=(c.map (Jp m.take (B7 (B4 c m).1 row m.back).1 row (B4 c m).1),0):=if_neg (by rw [hk];simp)
 rw [ev] at hv
 simp only [Cs,hy,Option.map_some,L8] at hv
 rw [←hv]
 unfold Jp
 have hfy:=P0 (l6 hrc) hy
 by_cases h0:0≤Fj y.name m.take
 ·rw [if_pos h0]
  obtain ⟨j,hj,hjl⟩:=Ti h0
  have hb:=(Et (Iv hm)).2
  have hjb:j<m.back.length:=by omega
  obtain ⟨a1,a2⟩:=Pa hk j m.back[j] (Aa hjb)
  have hty:(Es c m)[j]? = some y:=by
   unfold Es
   rw [Cs,zf hj]
   simp only [Option.map_some,L8]
   rw [hfy,Int.toNat_natCast,Dd,hy]
   rfl
  have:=l5 (Rt (W3 ht).2 j _ y (Aa hjb) hty) hp a1
  rw [hj,Int.toNat_natCast,Dd,a2]
  exact this
 rw [if_neg h0]
 have hmem:y∈(B4 c m).1:=by
  rw [e1]
  refine Xy _ ?_
  unfold C1
  rw [N6]
  refine ⟨Ay hy,?_⟩
  rw [←Yz,decide_eq_false h0]
  rfl
 obtain ⟨j,hj⟩:=Ca hmem
 rw [P0 (l6 hrt) hj,Int.toNat_natCast,Dd]
 have hjr:j<row.length:=by rw [h.len];exact (Ac.1 hj).1
 rw [Aa hjr]
 exact (p3 j row[j] y (Aa hjr) hj).2
/-! Columns of parts of moves. -/
theorem L0 {c:List Col} {l:List Mov} {k:Nat}:∀j,colsAt (colsAt c l k) (l.drop k) j=colsAt c l (k+j)
 | 0=>rfl
 | j+1=>by
  rw [colsAt,L0 j,F1,←N9,colsAt]
theorem uo {c:List Col} {l:List Mov} (hm:Jk c l=true) (h:∀(j:Nat) (m:Mov),l[j]? = some m→(B4 (colsAt c l j) m).2=0):((Cd c l).2 != 0)=false:=by
 have key:∀k,k≤l.length→NS c l k:=by
  intro k
  induction k with
  | zero=>exact fun _=>z4
  | succ k ih =>
   intro hk
   have hg:=Aa (l:=l) (i:=k) (by omega)
   exact Tg hg (ih (by omega)) (h k _ hg)
 rw [Rp hm (Zu (key l.length (Ao _)))]
 rfl
theorem zg {c d:List Col} {l l':List Mov} (h:Jk c l=true) (hd:Ct d=true) (hl:l'.length≤l.length) (hs:∀m∈l',m∈l):Jk d l'=true:=by
 unfold Jk M5 at h ⊢
 simp only [Ap,decide_eq_true_eq,B9] at h ⊢
 exact ⟨hd,by omega,fun m hm=>h.2.2 m (hs m hm)⟩
theorem j9 {c:List Col} {l:List Mov} {k:Nat} (h:((Cd c l).2 != 0)=false):((Cd (colsAt c l k) (l.drop k)).2 != 0)=false:=by
 obtain ⟨hmay,hst,_⟩:=Fh h
 have hc:Ct c=true:=by unfold Jk at hmay;simp only [Ap] at hmay;exact hmay.1
 refine uo (zg hmay (Lo hc hst k) (by rw [Xx];omega) (fun m hm=>N7 hm)) fun j m hj=>?_
 rw [L0]
 rw [F1] at hj
 exact Ir hst hj
theorem l7 {c:List Col} {l:List Mov} {x:List Val} {k:Nat} (hk:k≤l.length):∀j,j≤l.length-k→bkM (colsAt c l k) (l.drop k) x j=bkM c l x j
 | 0,_=>rfl
 | j+1,h=>by
  rw [bkM,bkM,l7 hk j (by omega),Xx,F1,L0,L0,show k+(l.length-k-1-j)=l.length-1-j by omega,show k+(l.length-k-1-j+1)=l.length-1-j+1 by omega]
/-- Rows on the way forth are rows. -/
theorem aa {c:List Col} {l:List Mov} {row:List Val} (h:OkMovs l) (hs:((Cd c l).2 != 0)=false) (h0:RowI c row) (hp:E8 c row=true):∀k,k≤l.length→(fwM c l row k).2=0→E8 (colsAt c l k) (fwM c l row k).1=true
 | 0,_,_=>hp
 | k+1,hk,he=>by
  obtain ⟨hmay,hst,_⟩:=Fh hs
  have h1:(fwM c l row k).2=0:=H5 fun hn=>by
   rw [Zx hn (k+1) (by omega)] at he
   exact hn he
  obtain ⟨m,hm⟩:∃m,l[k]? = some m:=⟨l[k],Aa (by omega)⟩
  have hml:=Ay hm
  have e:=Qb hm h1
  rw [e,Ei hm]
  exact j8 (Ir hst hm) (Hw hmay m hml) (fun e he=>(h.each m hml).ahead.rng e he) (W0 h hs h0 k (by omega) h1) (aa h hs h0 hp k (by omega) h1) (by rw [←e];exact he)
/-- And on the way back. -/
theorem l8 {c:List Col} {l:List Mov} {x:List Val} (h:OkMovs l) (hs:((Cd c l).2 != 0)=false) (h0:RowI (colsAt c l l.length) x) (hp:E8 (colsAt c l l.length) x=true):∀k,k≤l.length→(bkM c l x k).2=0→E8 (colsAt c l (l.length-k)) (bkM c l x k).1=true
 | 0,_,_=>hp
 | k+1,hk,he=>by
  obtain ⟨hmay,hst,_⟩:=Fh hs
  have h1:(bkM c l x k).2=0:=H5 fun hn=>by
   rw [Zy hn (k+1) (by omega)] at he
   exact hn he
  obtain ⟨m,hm⟩:∃m,l[l.length-1-k]? = some m:=⟨l[l.length-1-k],Aa (by omega)⟩
  have hml:=Ay hm
  have e:=Qc hm h1
  have hR:=(Zz h h0 k (by omega) h1).row
  have ih:=l8 h hs h0 hp k (by omega) h1
  rw [show l.length-k=l.length-1-k+1 by omega,Ei hm] at hR ih
  rw [e] at he ⊢
  rw [Ei hm] at he ⊢
  rw [show l.length-(k+1)=l.length-1-k by omega]
  exact oe (Ir hst hm) (Hw hmay m hml) (fun e he=>(h.each m hml).back.rng e he) hR ih he
theorem dy {c:List Col} {l:List Mov} {row:List Val} (hs:((Cd c l).2 != 0)=false) (hp:E8 c row=true):Bv c l row=fwM c l row l.length:=if_neg (by rw [hs,hp];simp)
theorem ACk {l l':List Mov} (h:OkMovs l) (hl:l'.length≤l.length) (hs:∀m∈l',m∈l):OkMovs l':=⟨L4 hl h.len,fun m hm=>h.each m (hs m hm)⟩
theorem dz {c:List Col} {l:List Mov} {row:List Val} (h:OkMovs l) (hs:((Cd c l).2 != 0)=false) (h0:RowI c row) (hp:E8 c row=true) (hf:(Bv c l row).2=0):RowI (colsAt c l l.length) (Bv c l row).1∧E8 (colsAt c l l.length) (Bv c l row).1=true:=by
 rw [dy hs hp] at hf ⊢
 exact ⟨W0 h hs h0 _ (Ao _) hf,aa h hs h0 hp _ (Ao _) hf⟩
end Go.SX.Nb
namespace Go.SX
variable [GI:GlobInv]
open Classical
section
variable {P:Program} {d:Nat} {st:St} {dst:Option Tmp} {ty:TypeId} {pos:String} {aft:Array Edge} {gd:Option (Nat×Bool)}
variable {sz:Nat} {fr:Nat→AV} {up own own':List AObj} {dfs:List Nat} {rnd:Option Nat} {Q:St→Prop} {ops:Array Oper} {rest:List Oper} {s:Nat}
theorem OpV.le {o:Oper} {st:St} {y y':AV} (h:OpV P d o st y) (hl:Le y y'):OpV P d o st y':=fun G a w hrel Q' =>
 J1 (fun a w ⟨G',v,e,r,k,hrep⟩=>⟨G',v,e,r,k,hrep.le hl⟩) (h G a w hrel Q')
theorem Q.indexAddrSl {t e:TypeId} {x i:Operand} {o k n c off:Nat} {q:IntKind} {z:Int} {C:Bool} [i0:JU P t (.slice e)] [i1:JS P e k] (m:Nat) (hm:C=true→m<n) (hz:C=true→z=(m:Int):=by intro hB;first|rfl|omega) (ho:m*k=off:=by first|rfl|simp):OpW P d up own (.indexAddr t x i) C [.sl o k n c,.v (.int q z)] (.ptr o off):=fun hB=>fun hs=>by
 have e:=hz hB
 subst e;subst ho
 exact OpV.indexAddrSl i0.h i1.h (hm hB) (o1 hs) (o2 hs)
variable {l0:List Oper} {E:List Oper→(Nat→AV)→Prop} {kd:Nat}
end
end Go.SX
namespace Go.SX
variable [GI:GlobInv]
open Classical
variable {k:IntKind} {m:Int} {n:Nat} {t u:TypeId} {x y:Operand} {z:Value}
section
variable {P:Program} {d:Nat} {st:St} {ty:TypeId} {pos:String} {aft:Array Edge} {gd:Option (Nat×Bool)} {ats:Array TypeId}
/-- A call that is handed what slot r owns, as its argument i0; it leaves the objects alone. -/
theorem AOp.callT {g:FuncId} {xs:List Operand} {args:List AV} {r i0 s:Nat} {y:AV} (hcall:∀args w,(callFunc g args).run P w=.ok (.enter g args) w) (hx:xs[i0]? = some (.tmp r)) (hargs:(xs.map st.ev).set i0 (st.fr r)=args)
  (h:AFun P g args (st.up++st.own) y) (hs:s<st.sz):AOp P d ⟨some s,.call ⟨.value (.func g),xs.toArray,ats⟩,ty,pos,aft,gd⟩ st (·=(st.set r (st.fr r).strip).set s y):=by
 intro G a w hr Q'
 have hm:=(hr.slots r).moved (B:=.slot (d+1) i0)
 have hxr:=Ni hr xs
 obtain ⟨h0,k0⟩:=hr.giveSlot r (.slot (d+1) i0)
 subst hargs
 have hfv:a.eval (.func g)=.func (.func g) #[] #[]:=rfl
 have hrun:=Lg (dst:=some s) (ty:=ty) (pos:=pos) (aft:=aft) (gd:=gd) (ats:=ats) (xs:=xs) (w:=w) hcall hfv
 have ha:(#[]++(xs.map a.eval).toArray)++#[]=(xs.map a.eval).toArray:=by simp
 rw [ha] at hrun
 refine Lf (by intro c h;cases h) hrun (h d (G.retag (.slot d r) (.slot (d+1) i0)) w _ (by simp) (fun i z u hz hu=>?_) h0.heap h0.tags h0.top) ?_
 ·rw [Ma] at hz
  by_cases hi:i0=i
  ·subst hi
   rw [if_pos rfl] at hz
   split at hz
   ·injection hz with hz
    subst hz
    simp only [Tr,Cs,hx,Option.map_some] at hu
    injection hu with hu
    subst hu
    exact hm
   cases hz
  rw [if_neg hi] at hz
  exact ((hxr i z u hz hu).retag (by simp)).lift
 rintro e w' ⟨v,G',r',H',rfl,hrep,hH,hT,hk,hlen,rfl,rfl⟩
 have h3:=h0.called hH hT hk rfl rfl hr.defsAt hr.low
 obtain ⟨h4,k4⟩:=h3.took hrep (s:=s) hs
 exact ⟨v,rfl,_,_,h4,(k0.trans (hk.less (Jv d))).trans k4,rfl,rfl,rfl,rfl⟩
variable {sz:Nat} {fr:Nat→AV} {up own own':List AObj} {dfs:List Nat} {rnd:Option Nat} {Q:St→Prop} {ops:Array Oper} {rest:List Oper} {s:Nat}
theorem R.callT {g:FuncId} {xs:List Operand} {args:List AV} {y:AV} (i0 r:Nat) (hcall:∀args w,(callFunc g args).run P w=.ok (.enter g args) w) (h:AFun P g args (up++own) y) {z:AV} (hr:ARun P d ops rest ⟨sz,A4 s y (A4 r z fr),up,own,dfs,rnd⟩ Q)
  (hx:xs[i0]? = some (.tmp r):=by rfl) (ha:(xs.map (Bw fr)).set i0 (fr r)=args:=by exact sL0) (hz:(fr r).strip=z:=by exact sL0) (hs:Nat.blt s sz=true:=by rfl):
  ARun P d ops (⟨some s,.call ⟨.value (.func g),xs.toArray,ats⟩,ty,pos,aft,none⟩::rest) ⟨sz,fr,up,own,dfs,rnd⟩ Q:=by
 subst hz
 exact pv rfl (AOp.callT (st:=⟨sz,fr,up,own,dfs,rnd⟩) hcall hx (by rw [←ha];simp [St.ev]<;>rfl) h (by simpa using hs)) hr
/-- A literal slice of one element of one cell, over an object of its own. -/
theorem AOp.buildSl1 {t e:TypeId} {zv z:Value} {x:Operand} {s n:Nat} (hu:P.underlying t=some (.slice e)) (hsz:∀w,(sizeOf e).run P w=.ok 1 w) (hz:∀w,(zeroValue e).run P w=.ok zv w) (hzc:zv.cells.size=1) (hx:st.ev x=.v z) (hc:z.cells=#[z]) (hn:st.own.length=n) (hs:s<st.sz):
  AOp P d ⟨some s,.buildSlice t 1 #[(0,x)],ty,pos,aft,gd⟩ st (·=({ st with own:=st.own++[.cells e [.v z]] }:St).set s (.sl (st.up.length+n) 1 1 1)):=by
 intro G a w h Q'
 have hx':=C7 h hx
 obtain ⟨G',h1,T,hb,hlt⟩:=Ki h e [.v z] #[z] rfl (fun j y u h1 h2=>by
  rcases j with _|j
  ·simp at h1 h2;subst h1;subst h2;exact .v _ _
  simp at h1)
 have hlen:(st.up++st.own).length=st.up.length+n:=by rw [Aw,hn]
 rw [hlen] at hb hlt
 obtain ⟨q,hq⟩:∃q,zv.cells=#[q]:=by
  match hh:zv.cells,hzc with
  | ⟨[q]⟩,_=>exact ⟨q,rfl⟩
 have hrun:(execOp a.eval (⟨some s,.buildSlice t 1 #[(0,x)],ty,pos,aft,gd⟩:Oper)).run P w=.ok (.value (.slice (some ⟨w.heap.size,0,none⟩) 1 1)) (w.alloc (.cells #[z] e)):=by
  simp [execOp,Instr.buildSlice,run_underlying hu,hsz,hz,newRow,Instr.fill,hx',hc,hq]
  refine congrArg (fun v=>w.alloc (.cells v e)) (jd (by simp) fun j h1 h2=>?_)
  have:j=0:=by simp at h2;omega
  subst this
  simp
 refine D3 (by intro c h;cases h) hrun ⟨G',_,h1.put (s:=s) (y:=.sl (st.up.length+n) 1 1 1) hs ?_,T.keep d,rfl,rfl,rfl,rfl⟩
 rw [←hb]
 exact .sl _ _ _ _ _ hlt
/-- The elements of a full slice over object i of ours are written no more; the slot owns the slice: it may be appended to. -/
theorem StRel.freezeT {G:Gh} {a:Act} {w:World} (h:StRel d G st a w) {r i k:Nat} {t:TypeId} {cs xs:List AV} (hr:st.fr r=.sl (st.up.length+i) k xs.length xs.length) (ho:st.own[i]? = some (.cells t cs)) (hne:xs≠[])
  (hcs:cs.take (xs.length*k)=Jc xs) (hk:∀x∈xs,x.cells.length=k) (h1:∀x∈xs,∀y∈x.cells,y.one=true) (hst:∀x∈xs,∀y∈x.cells,y.strip=y):
  ∃G',StRel d G' { st with fr:=A4 r (.slice true k xs) st.fr,own:=st.own.set i .gone } a w∧Keep d G w G' w:=by
 obtain ⟨G',h',k'⟩:=h.freeze hr ho (Ao _) hcs hk h1 hst
 refine ⟨G',⟨h'.size,fun s=>?_,h'.heap,h'.defs,h'.defsAt,h'.defsNodup,h'.defsGe,h'.tags,h'.rnd,h'.low,h'.top⟩,k'⟩
 have hv:=h'.slots s
 show Rep G' w _ (A4 r (.slice true k xs) st.fr s) _
 have hv:Rep G' w (some (.slot d s)) (A4 r (.slice false k xs) st.fr s) (a.tmps.getD s undef):=hv
 unfold A4 at hv ⊢
 by_cases hs:s=r
 ·subst hs
  rw [if_pos rfl] at hv ⊢
  have hsl:=h.slots s
  rw [hr] at hsl
  generalize a.tmps.getD s undef=v at hv hsl
  cases hsl with
  | sl l o k n c ho' =>
   cases hv with
   | sliceE=>exact absurd rfl hne
   | slice _ _ _ _ ad n c f e1 e2 e3 e4 e5 e6 e7 e8=>exact .slice _ true k xs _ _ _ f e1 e2 e3 e4 e5 e6 e7 (fun _=>⟨_,rfl,fun o h1 h2=>by omega⟩)
 rw [if_neg hs] at hv ⊢
 exact hv
theorem R.buildSl1 {t e:TypeId} {zv z:Value} {x:Operand} {n:Nat} (hu:P.underlying t=some (.slice e)) (hsz:∀w,(Go.sizeOf e).run P w=.ok 1 w) (hz:∀w,(Go.zeroValue e).run P w=.ok zv w) (hr:ARun P d ops rest ⟨sz,A4 s (.sl (oid up.length n) 1 1 1) fr,up,own',dfs,rnd⟩ Q)
  (hzc:zv.cells.size=1:=by rfl) (hx:Bw fr x=.v z:=by exact sL0) (hc:z.cells=#[z]:=by rfl) (hn:own.length=n:=by rfl) (ho:own++[.cells e [.v z]]=own':=by rfl) (hs:Nat.blt s sz=true:=by rfl):
  ARun P d ops (⟨some s,.buildSlice t 1 #[(0,x)],ty,pos,aft,none⟩::rest) ⟨sz,fr,up,own,dfs,rnd⟩ Q:=by
 subst ho
 exact pv rfl (AOp.buildSl1 (st:=⟨sz,fr,up,own,dfs,rnd⟩) hu hsz hz hzc hx hc hn (by simpa using hs)) hr
theorem R.freezeT {l:List Oper} (r i:Nat) {k n:Nat} {t:TypeId} {cs:List AV} (xs:List AV) (hne:xs≠[]) (hn:n=xs.length) (hcs:cs.take (n*k)=Jc xs) (hk:∀x∈xs,x.cells.length=k) (h1:∀x∈xs,∀y∈x.cells,y.one=true) (hst:∀x∈xs,∀y∈x.cells,y.strip=y)
  (hr:ARun P d ops l ⟨sz,A4 r (.slice true k xs) fr,up,own',dfs,rnd⟩ Q) (hf:fr r=.sl (oid up.length i) k n n:=by exact sL0) (ho:own[i]? = some (.cells t cs):=by rfl) (hset:own.set i .gone=own':=by rfl):
  ARun P d ops l ⟨sz,fr,up,own,dfs,rnd⟩ Q:=by
 subst hset
 subst hn
 exact ARun.turnSt (fun G a w h=>h.freezeT (st:=⟨sz,fr,up,own,dfs,rnd⟩) hf ho hne hcs hk h1 hst) rfl rfl rfl hr
/-- A struct that is built, whose nil slices are taken as empty ones. -/
theorem R.buildLe {t:TypeId} {fs:Array Field} {places:Array (Nat×Nat)} {parts:List (Nat×Operand)} {z:Value} {zs cs:List AV} {ys:List (Nat×AV)} (y':AV) (hle:Le (.agg cs) y') (hu:P.underlying t=some (.struct fs))
  (hpl:∀w,(fs.mapM (m:=Sem) fun f=>do Pure.pure (f.offset,←Go.sizeOf f.type)).run P w=.ok places w) (hz:∀w,(zeroValue t).run P w=.ok z w) (hr:ARun P d ops rest ⟨sz,A4 s y' fr,up,own,dfs,rnd⟩ Q)
  (hzs:z.cells.toList.map Dz=zs:=by exact sL0) (hone:zs.all AV.one=true:=by exact sL1) (hys:(parts.map fun p=>(p.1,Bw fr p.2))=ys:=by exact sL0)
  (hf:Hl (fun i=>places[i]?) zs ys=some cs:=by simp [Hl,go_sem]<;>rfl) (hs:Nat.blt s sz=true:=by rfl):
  ARun P d ops (⟨some s,.build t parts.toArray,ty,pos,aft,none⟩::rest) ⟨sz,fr,up,own,dfs,rnd⟩ Q:=by
 subst hys
 exact O6 rfl rfl hs (OpV.le (pm hu hpl hz hzs.symm hone hf) hle) hr
theorem OpV.shl {t u:TypeId} {x y:Operand} {k k':IntKind} {m:Int} {n:Nat} {dst:Option Tmp} {gd:Option (Nat×Bool)} (hx:st.ev x=.v (.int k m)) (hy:st.ev y=.v (.int k' n)) (hn:n≤k.bits):OpV P d ⟨dst,.binOp .shl t x y u,ty,pos,aft,gd⟩ st (.v (.int k (k.wrap (m*2 ^ n)))):=
 C0 (by intro c h;cases h) fun _ a w h=>⟨_,by
  have h0:¬((n:Int)<0):=by omega
  have h1:min ((n:Int).toNat) k.bits=n:=by simp;omega
  simp only [execOp,C7 h hx,C7 h hy,eqGuard,binOp,Op.shift,if_neg h0,h1]
  simp,.v _ _⟩
theorem Q.shl {k':IntKind} {C:Bool} (n:Nat) (hn:n≤k.bits:=by decide):OpW P d up own (.binOp .shl t x y u) C [.v (.int k m),.v (.int k' (n:Int))] (.v (.int k (k.wrap (m*2 ^ n)))):=fun hB=>fun hs=>OpV.shl (o1 hs) (o2 hs) hn
/-- The bits of either. -/
def ACl (k:IntKind) (m n:Int):Int:=k.wrap ((BitVec.ofInt k.bits m ||| BitVec.ofInt k.bits n).toNat:Int)
theorem OpV.bor {t u:TypeId} {x y:Operand} {k:IntKind} {m n:Int} {dst:Option Tmp} {gd:Option (Nat×Bool)} (hx:st.ev x=.v (.int k m)) (hy:st.ev y=.v (.int k n)):OpV P d ⟨dst,.binOp .or t x y u,ty,pos,aft,gd⟩ st (.v (.int k (ACl k m n))):=
 C0 (by intro c h;cases h) fun _ a w h=>⟨_,by simp [execOp,C7 h hx,C7 h hy,eqGuard,binOp,Op.intBits,ACl],.v _ _⟩
theorem Q.or {n:Int} {C:Bool}:OpW P d up own (.binOp .or t x y u) C [.v (.int k m),.v (.int k n)] (.v (.int k (ACl k m n))):=fun hB=>fun hs=>OpV.bor (o1 hs) (o2 hs)
end
end Go.SX
