/- On the way (part 10). -/
import Derived.Shelf.Strings.Builder1
import Derived.Lib.ItoaLen
import Derived.Test.YtejjpdbfdmdgpaaGreatDoorImageBackCardSaidPart9
set_option linter.all false
namespace Go.SX.Nb
open Go Go.SX Go.Proofs
variable [ErrAt]
set_option maxRecDepth 4000
theorem c41 (l:List Col) (hl:l.length≤1000000) (Hp:List AObj):AFun Tryz.prog 41 [An l] Hp (An l):=by
 refine Ah [.tmp 2] [0] Tryz.func41 Tryz.ntmps41 (fun d=>?_)
 refine rr ?_
 refine R.eqlNil jU (by kernel_rfl) (fun b hb=>?_)
 refine A2 [0,4] ?_
 refine A3 (fun ht4=>?_) (fun ht4=>?_)
 ·have hl0:l=[]:=by simpa using hb ht4
  subst hl0
  refine Z2 ?_;refine R.nilTmp 2 2 false ?_;refine Z3 ?_;exact AQ2
 refine Z4 ?_;refine Z84 ?_;refine A4 ?_
 refine Ee jU Tryz.type36 ?_ ?_ ?_
 ·simp [Tryz.t36];omega
 ·simp [Tryz.t36];omega
 refine Lr ?_;exact AQ7

theorem AG8 {Hp:List AObj} {y:Col} {n:Nat} (h:∀x∈Hp,ObjLow Hp.length x):∀x∈Hp++[AObj.cells 36 [],AObj.cells 36 (Af y.name::A5 y.kind::List.replicate n AV.any)],ObjLow (Hp.length+2) x:=by
 intro x hx
 rcases Eo.1 hx with hx|hx
 ·exact Vg (by omega) (h x hx)
 simp only [Bu,Fi,or_false] at hx
 rcases hx with rfl|rfl
 ·intro z hz;cases hz
 intro z hz
 simp only [Bu] at hz
 rcases hz with rfl|rfl|hz
 ·simp
 ·simp
 rw [List.eq_of_mem_replicate hz];simp
theorem AV1 (y:Col) (Hp:List AObj):ACallO Tryz.prog 41 [An [y]] Hp (fun r H'=>∃cc,1≤cc∧r=.sl (oid Hp.length 1) 2 1 cc∧H'=Hp++[.cells 36 [],.cells 36 (Af y.name::A5 y.kind::List.replicate ((cc-1)*2) AV.any)]):=by
 refine ACallO.body [.tmp 2] [0] Tryz.func41 Tryz.ntmps41 (fun d=>?_)
 refine Z49 ?_;refine Z74 ?_
 refine Pu (fun hlow=>?_)
 refine A4 ?_
 refine R.eqlNil jU (by kernel_rfl) (fun b hb=>?_)
 refine A2 [0,4] ?_
 refine A3 (fun ht4=>?_) (fun ht4=>?_)
 ·exact absurd (hb ht4) (by simp)
 refine rk ?_;refine R.buildObj0 (n:=0) jU Tryz.sizeOf36 ?_;refine A4 ?_
 refine R.appendObj (k:=2) (n:=1) jU Tryz.type36 (show [Bj y]≠[] by simp) ?_ ?_ (fun cc hcc=>?_)
 ·simp [Tryz.t36]
 ·simp
 have e0:Ns [Bj y]++List.replicate ((cc-[Bj y].length)*2) AV.any=Af y.name::A5 y.kind::List.replicate ((cc-1)*2) AV.any:=rfl
 rw [e0]
 clear e0
 refine A4 ?_;refine Z3 ?_;exact K.finO 2 (A7 (t:=2)) ⟨cc,hcc,rfl,rfl⟩ (hlow:=by simp [oid]) (hobj:=AG8 hlow)

theorem AS6 (c:List Col) (hc:OkCols c) (m:Mov) (h:OkMov m) (h3:(m.kind==3)=false) (Hp:List AObj):AFun Tryz.prog 100 [An c,Fv m] Hp (An (Ba c m)):=by
 refine Ah [.tmp 4] [0,1] Tryz.func100 Tryz.ntmps100 (fun d=>?_)
 refine rg ?_;refine Z1 ?_;refine A9 Tryz.call41 (c41 m.give h.gives2 _) ?_;refine A4 ?_;refine AHn ?_;refine A2 [0,3,5,12] ?_
 refine A3 (fun ht12=>?_) (fun ht12=>?_)
 ·rw [h3] at ht12;cases ht12
 refine Lq ?_;exact AP8

theorem AS7 (c:List Col) (hc:OkCols c) (m:Mov) (h:OkMov m) (h3:(m.kind==3)=true) (s:Str) (y:Col) (ht:m.take=[s]) (hg:m.give=[y]) (Hp:List AObj):AFun Tryz.prog 100 [An c,Fv m] Hp (An (Ba c m)):=by
 have hgv:=x8 (c:=c) h3 ht hg
 have hgy:=ow (c:=c) h3 ht hg
 obtain ⟨kd,tk,gv,ah,bk⟩:=m
 simp only at ht hg h3
 subst ht hg
 refine Ah [.tmp 4] [0,1] Tryz.func100 Tryz.ntmps100 (fun d=>?_)
 refine rg ?_;refine Z1 ?_;refine R.callO Tryz.call41 (AV1 y _) ?_
 rintro _ _ ⟨cc,hcc,rfl,rfl⟩
 refine ⟨[.cells 36 [],.cells 36 (Af y.name::A5 y.kind::List.replicate ((cc-1)*2) AV.any)],by simp,?_⟩
 simp only [Ht,F5]
 refine A4 ?_;refine AHn ?_;refine A2 [0,3,5,12] ?_
 refine A3 (fun ht12=>?_) (fun ht12=>?_)
 ·refine Z19 ?_
  refine A4 (h:=Ac (0) (Af s) (fun _=>rfl)) (hr:=?_)
  refine A4 ?_;refine A9 Tryz.call46 (c46 c hc s _) ?_;refine A4 ?_;refine A2 [0,5,6] ?_;refine Z1 ?_;refine A2 [0,5,6,20] ?_
  refine A3 (fun ht20=>?_) (fun ht20=>?_)
  ·have hf:¬Bn s c<0:=by simp at ht20;omega
   obtain ⟨jj,hjj,hjc⟩:=Jm hf
   refine Z23 ?_
   refine A4 (h:=Ac ((Bn s c).toNat) (Bj (c.getD (Bn s c).toNat ⟨[],0⟩)) (fun _=>Xz hf)) (hr:=?_)
   refine Z0 ?_;refine R.indexAddrSl (n:=1) 0 jU Tryz.sizeOf36 (by decide) ?_
   refine A4 (h:=Q.fieldAddrPtr (hc:=rfl)) (hr:=?_)
   refine Nf (y:=A5 (c.getD (Bn s c).toNat ⟨[],0⟩).kind) (ys:=[A5 (c.getD (Bn s c).toNat ⟨[],0⟩).kind]) (n:=1) (cs:=Af y.name::A5 y.kind::List.replicate ((cc-1)*2) AV.any) (cs':=Af y.name::A5 (c.getD (Bn s c).toNat ⟨[],0⟩).kind::List.replicate ((cc-1)*2) AV.any) (t':=36) jS ?_ (hc:=rfl) (hput:=rfl) (hfit:=by simp)
   refine A2 [5] ?_;refine Es ?_;refine Z98 ?_;exact AHg
  have hf:Bn s c<0:=by simp at ht20;omega
  refine Z4 ?_;refine AOd ?_;exact AHg
 rw [h3] at ht12;cases ht12

/-- What a move must have before it is turned. -/
structure MvOk (m:Mov):Prop where
 ok:OkMov m
 ahead:m.ahead.length=m.give.length
 back:m.back.length=m.take.length
 one:(m.kind==3)=true→m.take.length=1∧m.give.length=1
theorem AJs {m:Mov} (h:OkMov m) (hc:G7 m=true):MvOk m:=⟨h,(Ge hc).1,(Ge hc).2,fun h3=>Qa hc (by rw [h3];rfl)⟩
theorem AV2 (c:List Col) (hc:OkCols c) (m:Mov) (h:MvOk m) (Hp:List AObj):AFun Tryz.prog 100 [An c,Fv m] Hp (An (Ba c m)):=by
 cases h3:m.kind==3 with
 | false=>exact AS6 c hc m h.ok h3 Hp
 | true =>
  obtain ⟨h1,h2⟩:=h.one h3
  obtain ⟨s,hs⟩:=ka h1
  obtain ⟨y,hy⟩:=ka h2
  exact AS7 c hc m h.ok h3 s y hs hy Hp
theorem c48 (c:List Col) (hc:OkCols c) (m:Mov) (h:MvOk m) (Hp:List AObj):AFun Tryz.prog 48 [An c,Fv m] Hp (An (Ba c m)):=by
 cases h3:m.kind==3 with
 | false=>exact AUz c hc m h.ok h3 Hp
 | true =>
  obtain ⟨h1,h2⟩:=h.one h3
  obtain ⟨s,hs⟩:=ka h1
  obtain ⟨y,hy⟩:=ka h2
  exact AV0 c hc m h.ok h3 s y hs hy Hp
theorem bg {c:List Col} {m:Mov} (h:OkMov m):OkCols (Ba c m):=by
 refine ⟨by rw [J9];exact Ir h.gives2 (by decide),fun y hy=>?_⟩
 unfold Ba at hy
 split at hy
 ·split at hy
  ·exact h.gives.2 y hy
  cases hg:m.give with
  | nil=>rw [hg] at hy;cases hy
  | cons z r =>
   rw [hg] at hy
   rcases Bu.1 hy with rfl|hy
   ·exact h.gives.2 z (by rw [hg];exact Lj)
   exact h.gives.2 y (by rw [hg];exact Qj _ hy)
 exact h.gives.2 y hy
theorem bh {c give:List Col} {take:List Str} (hc:OkCols c) (hg:OkCols give) (hg2:give.length≤1000000):OkCols (D5 c take give).1:=by
 have h0:OkCols ([]:List Col):=⟨by decide,fun y hy=>by cases hy⟩
 unfold D5
 split
 ·exact h0
 rename_i hr
 split
 ·exact h0
 split
 ·exact h0
 split
 ·exact h0
 split
 ·exact h0
 exact u4 hc (by simpa using hr) hg hg2 rfl
theorem bi {c give:List Col} {take:List Str} (h:((D5 c take give).2 != 0)=false):∀s∈take,¬Bn s c<0:=by
 have ht:Gz c take=true:=by
  unfold D5 at h
  split at h
  ·cases h
  split at h
  ·cases h
  rename_i ht
  simpa using ht
 intro s hs hf
 obtain ⟨j,hj⟩:=Cf hs
 have:=takenM_true.1 ht j s hj
 unfold I8 at this
 rw [show decide (Bn s c<0)=true by simpa using hf] at this
 simp at this
theorem W4 {over:List Col} {l:List Expr} {w:List Col} {x:Nat} (hl:x<l.length) (hw:x<w.length):
  Cs over (l.drop x) (w.drop x)=if O1 l[x] over w[x].kind != 0 then O1 l[x] over w[x].kind else Cs over (l.drop (x+1)) (w.drop (x+1)):=by
 rw [Hd hl,Hd hw]
 rfl
theorem bj {over:List Col} {l:List Expr} {w:List Col} {x:Nat} (hl:l.length≤x):Cs over (l.drop x) (w.drop x)=0:=by
 rw [List.drop_eq_nil_of_le hl]
 cases w.drop x<;>rfl
theorem Kd {α β:Type} {f:α→β} {l:List α} {x:Nat} (h:x<l.length):(l.take (x+1)).map f=(l.take x).map f++[f l[x]]:=by
 rw [Ip h,C4];rfl
theorem kb {c:List Col} {m:Mov} (h:((D5 c m.take (Ba c m)).2 != 0)=true):Bc c m=([],(D5 c m.take (Ba c m)).2):=if_pos h
theorem kc {c:List Col} {m:Mov} (h:((D5 c m.take (Ba c m)).2 != 0)=false) (h2:(Cs c m.ahead (Ba c m) != 0)=true):Bc c m=([],Cs c m.ahead (Ba c m)):=by
 unfold Bc;rw [if_neg (by rw [h];simp),if_pos h2]
theorem ke {c:List Col} {m:Mov} (h:((D5 c m.take (Ba c m)).2 != 0)=false) (h2:(Cs c m.ahead (Ba c m) != 0)=false) (h3:(Cs (D5 c m.take (Ba c m)).1 m.back (Gd c m) != 0)=true):Bc c m=([],Cs (D5 c m.take (Ba c m)).1 m.back (Gd c m)):=by
 unfold Bc;rw [if_neg (by rw [h];simp),if_neg (by rw [h2];simp),if_pos h3]
theorem kg {c:List Col} {m:Mov} (h:((D5 c m.take (Ba c m)).2 != 0)=false) (h2:(Cs c m.ahead (Ba c m) != 0)=false) (h3:(Cs (D5 c m.take (Ba c m)).1 m.back (Gd c m) != 0)=false):Bc c m=((D5 c m.take (Ba c m)).1,0):=by
 unfold Bc;rw [if_neg (by rw [h];simp),if_neg (by rw [h2];simp),if_neg (by rw [h3];simp)]
theorem AS8 (l:List Expr) (h:OkEs l) (w:List Col) (hw:w.length=l.length) (c:List Col) (hc:OkCols c) (Hp:List AObj):AFun Tryz.prog 102 [L8 l,An w,An c] Hp (A5 (Cs c l w)):=by
 refine Ah [.tmp 6] [0,1,2] Tryz.func102 Tryz.ntmps102 (fun d=>?_)
 refine Z2 ?_;refine cu ?_;refine Z33 ?_;refine A2 [1,2,11,12,13] ?_
 refine Az (α:=Nat) (fun x=>⟨37,A6 1 (An w) (A6 2 (An c) (A6 11 (L8 l) (A6 12 (A5 (l.length:Nat)) (A6 13 (A5 (x:Nat)) (fun _=>.any))))),Hp,[],[],none⟩) (fun x=>x≤l.length∧Cs c l w=Cs c (l.drop x) (w.drop x)) (fun x=>l.length-x) (0) ⟨Ap _,rfl⟩ (B2 (by simp)) rfl (fun x hx=>?_)
 refine Z2 ?_;refine A2 [1,2,11,12,13,14] ?_
 refine Ej (fun ht14=>?_) (fun ht14=>?_)
 ·have hlt:x<l.length:=by simpa using ht14
  have hlw:x<w.length:=by omega
  have hlen:=h.len
  have hst:=W4 (over:=c) hlt hlw
  refine Tr ?_
  refine A4 (h:=Ac (x) (Ab l[x]) (fun _=>Aw hlt)) (hr:=?_)
  refine rl ?_;refine A2 [1,2,7,8,11,12,13] ?_;refine Z8 ?_;refine A9 Tryz.call141 (ARz 61 l[x] (h.ok _ (Av hlt)) (by decide) c hc _) ?_;refine Z63 ?_;refine A2 [1,2,7,8,10,11,12,13] ?_;refine Z1 ?_;refine A2 [1,2,7,8,10,11,12,13,25] ?_
  refine A3 (fun ht25=>?_) (fun ht25=>?_)
  ·have he:O1 l[x] c w[x].kind=(Eu l[x] c).2:=if_pos ht25
   have hm:Cs c l w=(Eu l[x] c).2:=by rw [hx.2,hst,he,if_pos ht25]
   refine Z1 ?_;refine iy ?_;exact rd
  refine Z4 ?_;refine Cb [0,0,0,0,12,28,60,127,255] 7 Ai (by kernel_rfl) ?_;refine Tq ?_
  refine Ak (h:=Ac (x) (Bj w[x]) (fun _=>Aw hlw)) (hr:=?_)
  refine Z88 ?_;refine A9 Tryz.call142 (AUx 61 l[x] (h.ok _ (Av hlt)) (by decide) c hc w[x].kind _) ?_;refine A4 ?_;refine A2 [1,2,11,12,13,35] ?_
  refine A3 (fun ht35=>?_) (fun ht35=>?_)
  ·have he:O1 l[x] c w[x].kind=10:=by unfold O1;rw [if_neg (by rw [ht25];simp),if_pos ht35]
   have hm:Cs c l w=10:=by rw [hx.2,hst,he];rfl
   refine Z2 ?_;refine A2 [6] ?_;exact AHd
  have he:O1 l[x] c w[x].kind=0:=by unfold O1;rw [if_neg (by rw [ht25];simp),if_neg (by rw [ht35];simp)]
  have hnx:Cs c l w=Cs c (l.drop (x+1)) (w.drop (x+1)):=by rw [hx.2,hst,he];rfl
  refine Nm ?_;refine A2 [1,2,11,12,13] ?_;refine Ay (x+1) ⟨hlt,hnx⟩ (by omega) ?_
  exact Dq (own:=[]) (fun _=>.refl _) (by repeat (first|exact Bq|refine Bp (by first|(simp [or_imp,forall_and];done)|exact Fx) ?_)) (by simp) (by simp)
 have hxe:l.length≤x:=by simpa using ht14
 have hm:Cs c l w=0:=by rw [hx.2,bj hxe]
 refine Ts ?_;exact APx

theorem AV3 (c:List Col) (hc:OkCols c) (m:Mov) (h:OkMov m) (hf:∀s∈m.take,¬Bn s c<0) (Hp:List AObj):AFun Tryz.prog 103 [An c,Fv m] Hp (An (Gd c m)):=by
 refine Ah [.tmp 4] [0,1] Tryz.func103 Tryz.ntmps103 (fun d=>?_)
 refine rg ?_;refine Z2 ?_;refine A2 [0,3,5] ?_;refine Z74 ?_;refine S9 5 2 ?_;refine Z70 ?_;refine A2 [0,5,9,10,11] ?_
 refine Az (α:=Nat) (fun x=>⟨26,A6 0 (An c) (A6 5 (.slice true 2 (((m.take.take x).map fun s=>c.getD (Bn s c).toNat ⟨[],0⟩).map Bj)) (A6 9 (Gg m.take) (A6 10 (A5 (m.take.length:Nat)) (A6 11 (A5 (x:Nat)) (fun _=>.any))))),Hp,[],[],none⟩) (fun x=>x≤m.take.length) (fun x=>m.take.length-x) (0) (Ap _) (B2 (by simp)) rfl (fun x hx=>?_)
 refine Z2 ?_;refine A2 [0,5,9,10,11,12] ?_
 refine Ej (fun ht12=>?_) (fun ht12=>?_)
 ·have hlt:x<m.take.length:=by simpa using ht12
  have htk:=h.takes
  have hfx:=hf _ (Av hlt)
  obtain ⟨jj,hjj,hjc⟩:=Jm hfx
  refine X6 ?_
  refine A4 (h:=Ac (x) (Af m.take[x]) (fun _=>Aw hlt)) (hr:=?_)
  refine Z0 ?_;refine A2 [0,5,7,9,10,11] ?_;refine Z91 ?_;refine Z10 ?_;refine A9 Tryz.call46 (c46 c hc m.take[x] _) ?_
  refine A4 (h:=Ac ((Bn m.take[x] c).toNat) (Bj (c.getD (Bn m.take[x] c).toNat ⟨[],0⟩)) (fun _=>Xz hfx)) (hr:=?_)
  refine Z54 ?_
  refine Ee jU Tryz.type36 ?_ ?_ ?_
  ·simp only [Am,Bx,B6,Bw,Tryz.t36];omega
  ·simp only [Am,Bx,B6,Bw,Tryz.t36];omega
  refine Lr ?_;refine A2 [0,5,9,10,11] ?_;refine iz ?_;refine A2 [0,5,9,10,11] ?_
  refine Ay (x+1) hlt (by omega) (Bh ?_)
  rw [Kd hlt,C4]
  rfl
 have hxe:m.take.length≤x:=by simpa using ht12
 refine Z26 ?_;refine Z1 ?_;refine Z39 ?_;exact A8 (Ae A7) ⟨by unfold Gd;rw [D9 hxe]<;>rfl,rfl⟩ (hlow:=Dj)

theorem c71 (c:List Col) (hc:OkCols c) (m:Mov) (h:MvOk m) (Hp:List AObj):AFun Tryz.prog 71 [An c,Fv m] Hp (.tup [An (Bc c m).1,A5 (Bc c m).2]):=by
 refine Ah [.tmp 4,.tmp 5] [0,1] Tryz.func71 Tryz.ntmps71 (fun d=>?_)
 refine Z19 ?_;refine Oj ?_;refine Z1 ?_;refine A9 Tryz.call100 (AV2 c hc m h _) ?_;refine A4 ?_;refine A2 [0,3,6] ?_;refine Ec ?_
 have hg:=bg (c:=c) h.ok
 have hg2:(Ba c m).length≤1000000:=by rw [J9];exact h.ok.gives2
 refine Z70 ?_;refine A9 Tryz.call101 (AUw c hc m.take h.ok.takes (Ba c m) hg hg2 _) ?_;refine Z63 ?_;refine A2 [0,3,6,7,8] ?_;refine Z8 ?_;refine A2 [0,3,6,7,8,23] ?_
 refine A3 (fun ht23=>?_) (fun ht23=>?_)
 ·have hm:=kb ht23
  exact AHk
 refine ma ?_;refine A9 Tryz.call102 (AS8 m.ahead h.ok.ahead (Ba c m) (by rw [J9,h.ahead]) c hc _) ?_;refine A4 ?_;refine A2 [0,3,7,9] ?_;refine Z1 ?_;refine A2 [0,3,7,9,31] ?_
 refine A3 (fun ht31=>?_) (fun ht31=>?_)
 ·have hm:=kc ht23 ht31
  exact AHk
 refine Z4 ?_;refine Mh ?_;refine Cb [0,1,0,0,12,0,63,127] 6 Ai (by kernel_rfl) ?_;refine Tq ?_;refine De Tryz.call103 (AV3 c hc m h.ok (bi ht23) _) ?_;refine Sc ?_;refine A9 Tryz.call102 (AS8 m.back h.ok.back (Gd c m) (by rw [Gd,Am,h.back]) (D5 c m.take (Ba c m)).1 (bh hc hg hg2) _) ?_;refine A4 ?_;refine A2 [7,10] ?_;refine Z1 ?_;refine A2 [7,10,41] ?_
 refine A3 (fun ht41=>?_) (fun ht41=>?_)
 ·have hm:=ke ht23 ht31 ht41
  exact AHk
 have hm:=kg ht23 ht31 ht41
 refine No ?_;exact APe

theorem c29 (c:List Col) (hc:OkCols c) (m:Mov) (h:MvOk m) (Hp:List AObj):AFun Tryz.prog 29 [An c,Fv m] Hp (.tup [An (Bc c m).1,A5 (Bc c m).2]):=by
 refine Ah [.tmp 4,.tmp 5] [0,1] Tryz.func29 Tryz.ntmps29 (fun d=>?_)
 refine Z19 ?_;refine Oj ?_;refine Z1 ?_;refine A9 Tryz.call48 (c48 c hc m h _) ?_;refine A4 ?_;refine A2 [0,3,6] ?_;refine Ec ?_
 have hg:=bg (c:=c) h.ok
 have hg2:(Ba c m).length≤1000000:=by rw [J9];exact h.ok.gives2
 have hgl:=J9 c m
 have hah:=h.ahead
 have hbk:=h.back
 have htk:=h.ok.takes
 refine Z70 ?_;refine A9 Tryz.call49 (c49 c hc m.take h.ok.takes (Ba c m) hg hg2 _) ?_;refine Z63 ?_;refine A2 [0,3,6,7,8] ?_;refine Z8 ?_;refine A2 [0,3,6,7,8,25] ?_
 refine A3 (fun ht25=>?_) (fun ht25=>?_)
 ·have hm:=kb ht25
  exact AHk
 have hfd:=bi ht25
 refine Sd ?_;refine A2 [0,3,6,7,9] ?_
 refine Az (α:=Nat) (fun x=>⟨77,A6 0 (An c) (A6 3 (.ro (Nj m)) (A6 6 (An (Ba c m)) (A6 7 (An (D5 c m.take (Ba c m)).1) (A6 9 (A5 (x:Nat)) (fun _=>.any))))),Hp,[],[],none⟩) (fun x=>x≤(Ba c m).length∧Cs c m.ahead (Ba c m)=Cs c (m.ahead.drop x) ((Ba c m).drop x)) (fun x=>(Ba c m).length-x) (0) ⟨Ap _,rfl⟩ (B2 (by simp)) rfl (fun x hx=>?_)
 refine Z50 ?_;refine A2 [0,3,6,7,9,30] ?_
 refine A3 (fun ht30=>?_) (fun ht30=>?_)
 ·have hlt:x<(Ba c m).length:=by simpa using ht30
  have hla:x<m.ahead.length:=by omega
  have hst:=W4 (over:=c) hla hlt
  refine Z42 ?_;refine Cb [0,1,0,7,15,0,0,96,224,480,0,2047,4095] 11 Ai (by kernel_rfl) ?_;refine Z40 ?_
  refine Ak (h:=Ac (x) (Ab m.ahead[x]) (fun _=>Aw hla)) (hr:=?_)
  refine Z40 ?_
  refine Ak (h:=Ac (x) (Bj (Ba c m)[x]) (fun _=>Aw hlt)) (hr:=?_)
  refine z7 ?_;refine A9 Tryz.call50 (c50 61 m.ahead[x] (h.ok.ahead.ok _ (Av hla)) (by decide) (h.ok.ahead.size _ (Av hla)) (Ba c m)[x].kind c hc _) ?_;refine A4 ?_;refine A2 [0,3,6,7,9,10] ?_;refine Z1 ?_;refine A2 [0,3,6,7,9,10,46] ?_
  refine A3 (fun ht46=>?_) (fun ht46=>?_)
  ·have hf1:Cs c m.ahead (Ba c m)=O1 m.ahead[x] c (Ba c m)[x].kind:=by rw [hx.2,hst,if_pos ht46]
   have hm:=kc ht25 (by rw [hf1];exact ht46)
   rw [hf1] at hm
   refine Z1 ?_;refine ALv ?_;refine Z75 ?_;exact AP1
  have hnx:Cs c m.ahead (Ba c m)=Cs c (m.ahead.drop (x+1)) ((Ba c m).drop (x+1)):=by rw [hx.2,hst,if_neg (by rw [ht46];simp)]
  refine Z71 ?_;refine A2 [0,3,6,7,9] ?_;exact Ay (x+1) ⟨hlt,hnx⟩ (by omega) (Bh rfl)
 have hxe:(Ba c m).length≤x:=by simpa using ht30
 have hf1:Cs c m.ahead (Ba c m)=0:=by rw [hx.2,bj (by omega)]
 refine Z45 ?_;refine Z29 ?_;refine A2 [0,3,7,11] ?_
 refine Az (α:=Nat) (fun k=>⟨77,A6 0 (An c) (A6 3 (.ro (Nj m)) (A6 7 (An (D5 c m.take (Ba c m)).1) (A6 11 (A5 (k:Nat)) (fun _=>.any)))),Hp,[],[],none⟩) (fun k=>k≤m.take.length∧Cs (D5 c m.take (Ba c m)).1 m.back (Gd c m)=Cs (D5 c m.take (Ba c m)).1 (m.back.drop k) ((Gd c m).drop k)) (fun k=>m.take.length-k) (0) ⟨Ap _,rfl⟩ (B2 (by simp)) rfl (fun k hk=>?_)
 refine Oi ?_;refine A2 [0,3,7,11,52] ?_
 refine A3 (fun ht52=>?_) (fun ht52=>?_)
 ·have hkt:k<m.take.length:=by simpa using ht52
  have hkb:k<m.back.length:=by omega
  have hfx:=hfd _ (Av hkt)
  obtain ⟨jj,hjj,hjc⟩:=Jm hfx
  have hkc:k<(Gd c m).length:=by rw [Gd,Am];exact hkt
  have htc:(Gd c m)[k]=c.getD (Bn m.take[k] c).toNat ⟨[],0⟩:=by simp only [Gd,Li]
  have hst:=W4 (over:=(D5 c m.take (Ba c m)).1) hkb hkc
  rw [htc] at hst
  refine Z42 ?_;refine Cb [0,1,0,7,15,0,0,0,128,0,896,1920,4032,8160,16352,32736,0,131071,262143] 17 Ai (by kernel_rfl) ?_;refine Z40 ?_
  refine Ak (h:=Ac (k) (Ab m.back[k]) (fun _=>Aw hkb)) (hr:=?_)
  refine Tq ?_;refine Z12 ?_
  refine Ak (h:=Ac (k) (Af m.take[k]) (fun _=>Aw hkt)) (hr:=?_)
  refine Ak ?_;refine De Tryz.call33 (c33 c hc m.take[k] _) ?_
  refine Ak (h:=Ac ((Bn m.take[k] c).toNat) (Bj (c.getD (Bn m.take[k] c).toNat ⟨[],0⟩)) (fun _=>Xz hfx)) (hr:=?_)
  refine z7 ?_;refine A9 Tryz.call50 (c50 61 m.back[k] (h.ok.back.ok _ (Av hkb)) (by decide) (h.ok.back.size _ (Av hkb)) (c.getD (Bn m.take[k] c).toNat ⟨[],0⟩).kind (D5 c m.take (Ba c m)).1 (bh hc hg hg2) _) ?_;refine A4 ?_;refine A2 [0,3,7,11,12] ?_;refine Z1 ?_;refine A2 [0,3,7,11,12,74] ?_
  refine A3 (fun ht74=>?_) (fun ht74=>?_)
  ·have hf2:=hk.2.trans hst
   rw [if_pos ht74] at hf2
   have hm:=ke ht25 (by rw [hf1];rfl) (by rw [hf2];exact ht74)
   rw [hf2] at hm
   refine Z1 ?_;refine ALv ?_;refine Z75 ?_;exact AP1
  have hnx:=hk.2.trans hst
  rw [if_neg (by rw [ht74];simp)] at hnx
  refine Z71 ?_;refine A2 [0,3,7,11] ?_;exact Ay (k+1) ⟨hkt,hnx⟩ (by omega) (Bh rfl)
 have hke:m.take.length≤k:=by simpa using ht52
 have hm:=kg ht25 (by rw [hf1];rfl) (by rw [hk.2,bj (by omega)];rfl)
 refine Z45 ?_;refine Z19 ?_;exact APe

def Ue {α:Type} (p:α→Bool) (l:List α):Int:=if l.any p then (l.findIdx p:Int) else -1
theorem AG9 {α:Type} {p:α→Bool} {l:List α} {i:Nat} (h:i<l.length) (hn:p l[i]=true) (hp:∀(j:Nat) (y:α),j<i→l[j]? = some y→p y=false):(i:Int)=Ue p l:=by
 unfold Ue
 rw [if_pos (Jx.2 ⟨_,Av h,hn⟩)]
 congr 1
 refine (List.findIdx_eq h |>.2 ⟨hn,fun j hj=>?_⟩).symm
 exact hp j (l[j]'(by omega)) hj (Aa (by omega))
theorem uk {α:Type} {p:α→Bool} {l:List α} (h:l.any p=false):(-1:Int)=Ue p l:=by
 unfold Ue
 rw [if_neg (by rw [h];simp)]
theorem AB9 {α:Type} (p:α→Bool) (l:List α):decide (0≤Ue p l)=l.any p:=by
 unfold Ue
 cases l.any p<;>simp
def Qb (s:Str):Bool := !(Dg s)
def Nk (e:Expr):Bool := !(Bk e)
theorem p8 {m:Mov} (h:(((m.ahead.length:Int) != (m.give.length:Int)) || ((m.back.length:Int) != (m.take.length:Int)))=true):G7 m=false:=if_pos h
theorem p9 {m:Mov} (h:(((m.ahead.length:Int) != (m.give.length:Int)) || ((m.back.length:Int) != (m.take.length:Int)))=false):G7 m=if m.kind==1 then ((m.take.length:Int)==0)&&((m.give.length:Int)==1)
 else if m.kind==2 then ((m.take.length:Int)==1)&&((m.give.length:Int)==0)
 else if (m.kind==3) || (m.kind==6) then ((m.take.length:Int)==1)&&((m.give.length:Int)==1)
 else if m.kind==4 then ((m.take.length:Int)==1)&&decide ((1:Int)<(m.give.length:Int))
 else if m.kind==5 then decide ((1:Int)<(m.take.length:Int))&&((m.give.length:Int)==1)
 else false:=if_neg (by rw [h];simp)
theorem AV4 (m:Mov) (Hp:List AObj):AFun Tryz.prog 131 [Fv m] Hp (B4 (G7 m)):=by
 refine Ah [.tmp 2] [0] Tryz.func131 Tryz.ntmps131 (fun d=>?_)
 refine Pv ?_;refine Cb [0,1,3,0,8,24,7,127] 7 Ai (by kernel_rfl) ?_;refine Tq ?_;refine z7 ?_;refine A4 ?_;refine j8 ?_;refine Z74 ?_
 simp only [Am]
 refine Z70 ?_;refine Z44 ?_;refine Oh ?_;refine A2 [1,3,4,22] ?_
 refine A3 (fun ht22=>?_) (fun ht22=>?_)
 ·simp only [Am] at ht22
  have hm:=p8 ht22
  exact ADb
 simp only [Am] at ht22
 have hn:=p9 ht22
 refine Xd ?_;refine A2 [3,4,24] ?_;refine P8 ?_;refine A2 [3,4,24,25] ?_
 refine A3 (fun ht25=>?_) (fun ht25=>?_)
 ·refine lu ?_;refine Z6 ?_;exact A8 (Ae A7) ⟨by rw [hn];first|(simp only [ht22,ht25,hk3,hk6,Db,C7,Fp,Ky,if_true,if_false,Ag,↓reduceIte]<;>rfl)|(simp only [ht22,ht25,hk3,Db,C7,Fp,if_true,if_false,Ag,↓reduceIte]<;>rfl)|(simp only [ht22,ht25,if_true,if_false,Ag,↓reduceIte]<;>rfl),rfl⟩
 refine Z1 ?_;refine A2 [3,4,24,33] ?_
 refine A3 (fun ht33=>?_) (fun ht33=>?_)
 ·refine lu ?_;refine Z6 ?_;exact A8 (Ae A7) ⟨by rw [hn];first|(simp only [ht22,ht25,ht33,hk3,hk6,Db,C7,Fp,Ky,if_true,if_false,Ag,↓reduceIte]<;>rfl)|(simp only [ht22,ht25,ht33,hk3,Db,C7,Fp,if_true,if_false,Ag,↓reduceIte]<;>rfl)|(simp only [ht22,ht25,ht33,if_true,if_false,Ag,↓reduceIte]<;>rfl),rfl⟩
 refine Z8 ?_;refine A2 [3,4,24,41] ?_
 refine A3 (fun ht41=>?_) (fun ht41=>?_)
 ·have hk3:=ht41
  refine Z4 ?_
  refine A3 (fun ht41=>?_) (fun ht41=>?_)
  ·refine lu ?_;exact Z66
  rw [hk3] at ht41;cases ht41
 have hk3:=ht41
 refine Z31 ?_;refine A2 [3,4,24,41] ?_;refine Es ?_
 refine A3 (fun ht41=>?_) (fun ht41=>?_)
 ·have hk6:=ht41
  refine lu ?_;exact Z66
 have hk6:=ht41
 refine Z1 ?_;refine A2 [3,4,24,50] ?_
 refine A3 (fun ht50=>?_) (fun ht50=>?_)
 ·refine lu ?_;refine Z6 ?_;exact A8 (Ae A7) ⟨by rw [hn];first|(simp only [ht22,ht25,ht33,ht41,ht41,ht50,hk3,hk6,Db,C7,Fp,Ky,if_true,if_false,Ag,↓reduceIte]<;>rfl)|(simp only [ht22,ht25,ht33,ht41,ht41,ht50,hk3,Db,C7,Fp,if_true,if_false,Ag,↓reduceIte]<;>rfl)|(simp only [ht22,ht25,ht33,ht41,ht41,ht50,if_true,if_false,Ag,↓reduceIte]<;>rfl),rfl⟩
 refine Z1 ?_;refine A2 [3,4,58] ?_
 refine A3 (fun ht58=>?_) (fun ht58=>?_)
 ·refine lu ?_;refine Z6 ?_;exact AQr
 refine Z17 ?_;refine Z28 ?_;exact AQr

theorem AV5 (s:Str) (hs:s.length≤1048576) (Hp:List AObj):AFun Tryz.prog 134 [Af s] Hp (B4 (Qb s)):=by
 refine Ah [.tmp 2] [0] Tryz.func134 Tryz.ntmps134 (fun d=>?_)
 refine Z49 ?_;refine Z2 ?_;refine A9 Tryz.call111 (AE7 s hs _) ?_;exact AD4

theorem AV6 (e:Expr) (hok:okE 61 e) (Hp:List AObj):AFun Tryz.prog 132 [Ab e] Hp (B4 (Nk e)):=by
 refine Ah [.tmp 2] [0] Tryz.func132 Tryz.ntmps132 (fun d=>?_)
 refine Pv ?_;refine Z2 ?_;refine A9 Tryz.call59 (c59 61 e hok (by decide) _) ?_;exact AD4

theorem AV7 (l:List Str) (hl:l.length≤1048576) (hn:∀s∈l,s.length≤1048576) (Hp:List AObj):AFun Tryz.prog 164 [Gg l,.fn (.func 134) [] []] Hp (A5 (Ue Qb l)):=by
 refine Ah [.tmp 4] [0,1] Tryz.func164 Tryz.ntmps164 (fun d=>?_)
 refine Z61 ?_;refine AD9 ?_
 refine Az (α:=Nat) (fun x=>⟨19,A6 0 (Gg l) (A6 1 (.fn (.func 134) [] []) (A6 7 (A5 l.length) (A6 8 (A5 (x:Nat)) (fun _=>.any)))),Hp,[],[],none⟩) (fun x=>x≤l.length∧∀(j:Nat) y,j<x→l[j]? = some y→Qb y=false) (fun x=>l.length-x) (0) ⟨Ap _,fun j y h=>by omega⟩ (B2 (by simp)) rfl (fun x hx=>?_)
 refine AD7 ?_
 refine Ej (fun ht9=>?_) (fun ht9=>?_)
 ·have hlt:x<l.length:=by simpa using ht9
  refine Z18 ?_;refine Z1 ?_;refine AD5 ?_
  refine A4 (h:=Ac (x) (Af l[x]) (fun _=>Aw hlt)) (hr:=?_)
  refine A4 ?_;refine R.callV Tryz.call134 (AV5 l[x] (hn _ (Av hlt)) _) ?_;refine ADm ?_
  refine A3 (fun ht16=>?_) (fun ht16=>?_)
  ·refine yz ?_;exact ALm
  refine Nm ?_;exact ALf
 have hxe:l.length≤x:=by simpa using ht9
 refine Ts ?_;exact ALk

theorem AV8 (l:List Str) (hl:l.length≤1048576) (hn:∀s∈l,s.length≤1048576) (Hp:List AObj):AFun Tryz.prog 133 [Gg l,.fn (.func 134) [] []] Hp (B4 (l.any Qb)):=by
 refine Ah [.tmp 4] [0,1] Tryz.func133 Tryz.ntmps133 (fun d=>?_)
 refine Z61 ?_;refine Z1 ?_;refine A9 Tryz.call164 (AV7 l hl hn _) ?_;refine Z0 ?_;exact ALo

theorem AS9 (l:List Expr) (hl:l.length≤1048576) (hn:∀e∈l,okE 61 e) (Hp:List AObj):AFun Tryz.prog 165 [L8 l,.fn (.func 132) [] []] Hp (A5 (Ue Nk l)):=by
 refine Ah [.tmp 4] [0,1] Tryz.func165 Tryz.ntmps165 (fun d=>?_)
 refine Z61 ?_;refine AD9 ?_
 refine Az (α:=Nat) (fun x=>⟨19,A6 0 (L8 l) (A6 1 (.fn (.func 132) [] []) (A6 7 (A5 l.length) (A6 8 (A5 (x:Nat)) (fun _=>.any)))),Hp,[],[],none⟩) (fun x=>x≤l.length∧∀(j:Nat) y,j<x→l[j]? = some y→Nk y=false) (fun x=>l.length-x) (0) ⟨Ap _,fun j y h=>by omega⟩ (B2 (by simp)) rfl (fun x hx=>?_)
 refine AD7 ?_
 refine Ej (fun ht9=>?_) (fun ht9=>?_)
 ·have hlt:x<l.length:=by simpa using ht9
  refine Z18 ?_;refine Z1 ?_;refine AD5 ?_
  refine A4 (h:=Ac (x) (Ab l[x]) (fun _=>Aw hlt)) (hr:=?_)
  refine A4 ?_;refine R.callV Tryz.call132 (AV6 l[x] (hn _ (Av hlt)) _) ?_;refine ADm ?_
  refine A3 (fun ht16=>?_) (fun ht16=>?_)
  ·refine yz ?_;exact ALm
  refine Nm ?_;exact ALf
 have hxe:l.length≤x:=by simpa using ht9
 refine Ts ?_;exact ALk

theorem AL5 (l:List Expr) (hl:l.length≤1048576) (hn:∀e∈l,okE 61 e) (Hp:List AObj):AFun Tryz.prog 135 [L8 l,.fn (.func 132) [] []] Hp (B4 (l.any Nk)):=by
 refine Ah [.tmp 4] [0,1] Tryz.func135 Tryz.ntmps135 (fun d=>?_)
 refine Z61 ?_;refine Z1 ?_;refine A9 Tryz.call165 (AS9 l hl hn _) ?_;refine Z0 ?_;exact ALo

theorem AJt (s:Str) (Hp:List AObj):AFun Tryz.prog 137 [Af s] Hp (Ab (Dt s)):=by
 refine Ah [.cell 2 62] [0] Tryz.func137 Tryz.ntmps137 (fun d=>?_)
 refine Z67 ?_;refine Z2 ?_;refine APd ?_;refine Sa 0 5 6 ?_;refine Z3 ?_;exact A8 (Ae (B8 jA jS)) ⟨by rw [Ax];rfl,rfl⟩

theorem pc {m:Mov} {c:Col}:(((!(Dg c.name)) || (!((Ci c.kind==[])==(m.kind==3)))) || ((m.kind==3)&&(c.kind != 0))) = !Kc m c:=by
 unfold Kc
 cases Dg c.name<;>cases (Ci c.kind==([]:Str))<;>cases (m.kind==3)<;>cases (c.kind != 0)<;>rfl
theorem ANn {m:Mov} (h:(!(G7 m))=true):Fo m=false:=by
 have:G7 m=false:=by simpa using h
 unfold Fo;rw [this];rfl
theorem ANo {m:Mov} {c:Col} (hc:c∈m.give) (h:Kc m c=false):Fo m=false:=by
 have:m.give.all (Kc m)=false:=Rv.2 ⟨c,hc,by rw [h];simp⟩
 unfold Fo;rw [this];simp
theorem ANp {m:Mov} (h:((m.take.any Qb || m.ahead.any Nk) || m.back.any Nk)=true):Fo m=false:=by
 unfold Fo
 rw [show Qb=fun s => !(Dg s) from rfl,show Nk=fun e => !(Bk e) from rfl,Iv,Iv,Iv] at h
 cases h1:m.take.all Dg<;>cases h2:m.ahead.all Bk<;>cases h3:m.back.all Bk<;>simp_all
theorem AJu {m:Mov} (h1:G7 m=true) (h2:m.give.all (Kc m)=true) (h:((m.take.any Qb || m.ahead.any Nk) || m.back.any Nk)=false):Fo m=Mq m:=by
 unfold Fo
 rw [show Qb=fun s => !(Dg s) from rfl,show Nk=fun e => !(Bk e) from rfl,Iv,Iv,Iv] at h
 rw [h1,h2]
 cases h1:m.take.all Dg<;>cases h2:m.ahead.all Bk<;>cases h3:m.back.all Bk<;>simp_all
theorem P6 {α β:Type} {f:α→β} {l:List α} {d:α} (h:0<l.length):(l.map f)[0]? = some (f (l.getD 0 d)):=by
 rw [Ce,Aa h,D4,Aa h]
 rfl
theorem O2 {α:Type} {l:List α} {d:α} (h:0<l.length):l.getD 0 d∈l:=by
 rw [D4,Aa h]
 exact Av h
theorem AGa {m:Mov} (h:(m.kind==3)=true):Mq m=(eqE (m.ahead.getD 0 At) (Dt (m.take.getD 0 []))&&eqE (m.back.getD 0 At) (Dt (m.give.getD 0 ⟨[],0⟩).name)):=if_pos h
theorem AGb {m:Mov} (h:(m.kind==3)=false) (h6:(m.kind==6)=true):Mq m=(m.take.getD 0 []==(m.give.getD 0 ⟨[],0⟩).name):=by unfold Mq;rw [if_neg (by rw [h];simp),if_pos h6]
theorem AGc {m:Mov} (h:(m.kind==3)=false) (h6:(m.kind==6)=false):Mq m=true:=by unfold Mq;rw [if_neg (by rw [h];simp),if_neg (by rw [h6];simp)]
theorem c99 (m:Mov) (h:OkMov m) (Hp:List AObj):AFun Tryz.prog 99 [Fv m] Hp (B4 (Fo m)):=by
 refine Ah [.tmp 2] [0] Tryz.func99 Tryz.ntmps99 (fun d=>?_)
 refine Pv ?_;refine Z29 ?_;refine A9 Tryz.call131 (AV4 m _) ?_;refine A4 ?_;refine A2 [1,8] ?_
 refine A3 (fun ht8=>?_) (fun ht8=>?_)
 ·have hm:=ANn ht8
  exact ADe
 have hct:G7 m=true:=by simpa using ht8
 refine ma ?_;refine A2 [1,10,11,12] ?_
 refine Az (α:=Nat) (fun x=>⟨95,A6 1 (.ro (Nj m)) (A6 10 (An m.give) (A6 11 (A5 (m.give.length:Nat)) (A6 12 (A5 (x:Nat)) (fun _=>.any)))),Hp,[],[],none⟩) (fun x=>x≤m.give.length∧∀(j:Nat) (y:Col),j<x→m.give[j]? = some y→(!Kc m y)=false) (fun x=>m.give.length-x) (0) ⟨Ap _,fun j y h=>by omega⟩ (B2 (by simp)) rfl (fun x hx=>?_)
 refine Z2 ?_;refine A2 [1,10,11,12,13] ?_
 refine Ej (fun ht13=>?_) (fun ht13=>?_)
 ·have hlt:x<m.give.length:=by simpa using ht13
  have hgl:=h.gives2
  refine X6 ?_
  refine A4 (h:=Ac (x) (Bj m.give[x]) (fun _=>Aw hlt)) (hr:=?_)
  refine X9 ?_;refine A2 [1,4,10,11,12] ?_;refine Cb [0,1,3,7,15,31,63,127,255,31,543,1567,4095,8191,16383,32767,65535,131071,262143,524287,1048575,2097151,4194303,8388607] 12 Ai (by kernel_rfl) ?_;refine Z12 ?_;refine De Tryz.call111 (AE7 m.give[x].name (h.gives.2 _ (Av hlt)) _) ?_;refine Z12 ?_;refine Z56 ?_;refine V1 Tryz.call60 (fun hB=>c60 m.give[x].kind _) ?_;refine Z56 ?_;refine Z56 ?_;refine J0 ?_;refine Bd ?_;refine Z44 ?_;refine Pw ?_;refine Z97 ?_;refine A2 [1,10,11,12,39] ?_
  refine A3 (fun ht39=>?_) (fun ht39=>?_)
  ·rw [pc] at ht39
   have hm:=ANo (Av hlt) (by simpa using ht39)
   exact ALt
  rw [pc] at ht39
  refine Nm ?_;refine A2 [1,10,11,12] ?_;refine Ay (x+1) ⟨hlt,C1 hlt hx.2 ht39⟩ (by omega) ?_
  exact Dq (own:=[]) (fun _=>.refl _) (by repeat (first|exact Bq|refine Bp (by first|(simp [or_imp,forall_and];done)|exact Dj|exact low_ro.2 Lw) ?_)) (by simp) (by simp)
 have hxe:m.give.length≤x:=by simpa using ht13
 have hga:m.give.all (Kc m)=true:=by have:=Il hxe hx.2;rw [Iv] at this;simpa using this
 refine Ts ?_;refine A2 [1,5] ?_;refine Z8 ?_;refine A9 Tryz.call133 (AV8 m.take h.takes h.names _) ?_;refine A4 ?_;refine Z38 ?_;refine Bm Tryz.call135 (fun hB=>AL5 m.ahead h.ahead.len h.ahead.ok _) ?_;refine Z0 ?_;refine Z38 ?_;refine Bm Tryz.call135 (fun hB=>AL5 m.back h.back.len h.back.ok _) ?_;refine A4 ?_;refine A2 [1,55] ?_
 refine A3 (fun ht55=>?_) (fun ht55=>?_)
 ·have hm:=ANp ht55
  exact ADe
 have hm0:=AJu hct hga ht55
 refine Xd ?_;refine A2 [1,57] ?_;refine P8 ?_;refine A2 [1,57,58] ?_
 refine A3 (fun ht58=>?_) (fun ht58=>?_)
 ·obtain ⟨hl1,hl2⟩:=Qa hct (by rw [ht58];simp)
  obtain ⟨hl3,hl4⟩:=Ge hct
  have g1:=P6 (f:=Ab) (l:=m.ahead) (d:=At) (by omega)
  have g2:=P6 (f:=Ab) (l:=m.back) (d:=At) (by omega)
  have g3:=P6 (f:=Af) (l:=m.take) (d:=[]) (by omega)
  have g4:=P6 (f:=Bj) (l:=m.give) (d:=⟨[],0⟩) (by omega)
  have ok1:=h.ahead.ok _ (O2 (l:=m.ahead) (d:=At) (by omega))
  have ok2:=h.back.ok _ (O2 (l:=m.back) (d:=At) (by omega))
  have hm:=hm0.trans (AGa ht58)
  refine Cb [0,1,3,7,0,16,48,112,240,511,1023,2047,4095,8191,16383,2047,34815,100351,231423,493567,1017855,2097151,4194303,8388607] 21 Ai (by kernel_rfl) ?_;refine Z12 ?_
  refine Ak (h:=Ac (0) (Ab (m.ahead.getD 0 At)) (fun _=>g1)) (hr:=?_)
  refine Z40 ?_
  refine Ak (h:=Ac (0) (Af (m.take.getD 0 [])) (fun _=>g3)) (hr:=?_)
  refine Ak ?_;refine De Tryz.call137 (AJt (m.take.getD 0 []) _) ?_;refine De Tryz.call136 (AS0 61 (m.ahead.getD 0 At) ok1 (Dt (m.take.getD 0 [])) _) ?_;refine Ak ?_;refine Z56 ?_
  refine Ei (h:=Ac (0) (Ab (m.back.getD 0 At)) (fun _=>g2)) (hr:=?_)
  refine lv ?_
  refine Ei (h:=Ac (0) (Bj (m.give.getD 0 ⟨[],0⟩)) (fun _=>g4)) (hr:=?_)
  refine Z56 ?_;refine V1 Tryz.call137 (fun hB=>AJt (m.give.getD 0 ⟨[],0⟩).name _) ?_;refine J0 ?_;refine Bm Tryz.call136 (fun hB=>AS0 61 (m.back.getD 0 At) ok2 (Dt (m.give.getD 0 ⟨[],0⟩).name) _) ?_;refine Z53 ?_;exact APm
 refine Z1 ?_;refine A2 [1,83] ?_
 refine A3 (fun ht83=>?_) (fun ht83=>?_)
 ·obtain ⟨hl1,hl2⟩:=Qa hct (by rw [ht83];simp)
  obtain ⟨hl3,hl4⟩:=Ge hct
  have g1:=P6 (f:=Ab) (l:=m.ahead) (d:=At) (by omega)
  have g2:=P6 (f:=Ab) (l:=m.back) (d:=At) (by omega)
  have g3:=P6 (f:=Af) (l:=m.take) (d:=[]) (by omega)
  have g4:=P6 (f:=Bj) (l:=m.give) (d:=⟨[],0⟩) (by omega)
  have ok1:=h.ahead.ok _ (O2 (l:=m.ahead) (d:=At) (by omega))
  have ok2:=h.back.ok _ (O2 (l:=m.back) (d:=At) (by omega))
  have hm:=hm0.trans (AGb ht58 ht83)
  refine APq ?_
  refine Ak (h:=Ac (0) (Af (m.take.getD 0 [])) (fun _=>g3)) (hr:=?_)
  refine Z40 ?_
  refine Ak (h:=Ac (0) (Bj (m.give.getD 0 ⟨[],0⟩)) (fun _=>g4)) (hr:=?_)
  refine Z88 ?_;refine Z53 ?_;exact APm
 have hm:=hm0.trans (AGc ht58 ht83)
 refine Z17 ?_;refine Z28 ?_;exact ADv

def ABa (m:Mov):Bool := !(Fo m)
theorem AJv (l:List Mov):(decide ((l.length:Int)≤8) && !(l.any ABa))=Pa l:=by
 unfold Pa
 rw [show ABa=fun m => !(Fo m) from rfl,Iv]
 simp
theorem c98 (m:Mov) (h:OkMov m) (Hp:List AObj):AFun Tryz.prog 98 [Fv m] Hp (B4 (ABa m)):=by
 refine Ah [.tmp 2] [0] Tryz.func98 Tryz.ntmps98 (fun d=>?_)
 refine Pv ?_;refine Z2 ?_;refine A9 Tryz.call99 (c99 m h _) ?_;exact AD4

theorem AV9 (l:List Mov) (h:OkMovs l) (Hp:List AObj):AFun Tryz.prog 130 [E6 l,.fn (.func 98) [] []] Hp (A5 (Ue ABa l)):=by
 refine Ah [.tmp 4] [0,1] Tryz.func130 Tryz.ntmps130 (fun d=>?_)
 refine Z61 ?_;refine AD9 ?_
 refine Az (α:=Nat) (fun x=>⟨19,A6 0 (E6 l) (A6 1 (.fn (.func 98) [] []) (A6 7 (A5 l.length) (A6 8 (A5 (x:Nat)) (fun _=>.any)))),Hp,[],[],none⟩) (fun x=>x≤l.length∧∀(j:Nat) (y:Mov),j<x→l[j]? = some y→ABa y=false) (fun x=>l.length-x) (0) ⟨Ap _,fun j y h=>by omega⟩ (B2 (by simp)) rfl (fun x hx=>?_)
 refine AD7 ?_
 refine Ej (fun ht9=>?_) (fun ht9=>?_)
 ·have hlt:x<l.length:=by simpa using ht9
  have hlen:=h.len
  refine Z18 ?_;refine Z1 ?_;refine AD5 ?_
  refine A4 (h:=Ac (x) (Fv l[x]) (fun _=>Aw hlt)) (hr:=?_)
  refine A4 ?_;refine R.callV Tryz.call98 (c98 l[x] (h.each _ (Av hlt)) _) ?_;refine ADm ?_
  refine A3 (fun ht16=>?_) (fun ht16=>?_)
  ·refine yz ?_;exact ALm
  refine Nm ?_;exact ALf
 have hxe:l.length≤x:=by simpa using ht9
 refine Ts ?_;exact ALk

theorem c97 (l:List Mov) (h:OkMovs l) (Hp:List AObj):AFun Tryz.prog 97 [E6 l,.fn (.func 98) [] []] Hp (B4 (l.any ABa)):=by
 refine Ah [.tmp 4] [0,1] Tryz.func97 Tryz.ntmps97 (fun d=>?_)
 refine Z61 ?_;refine Z1 ?_;refine A9 Tryz.call130 (AV9 l h _) ?_;refine Z0 ?_;exact ALo

theorem c69 (l:List Mov) (h:OkMovs l) (Hp:List AObj):AFun Tryz.prog 69 [E6 l] Hp (B4 (Pa l)):=by
 refine Ah [.tmp 2] [0] Tryz.func69 Tryz.ntmps69 (fun d=>?_)
 refine Z49 ?_;refine rp ?_;refine Bm Tryz.call97 (fun hB=>c97 l h _) ?_;refine Bd ?_;refine Z53 ?_;exact A8 (Ae A7) ⟨by rw [←AJv,Am],rfl⟩

theorem c40 (c:List Col) (hc:OkCols c) (l:List Mov) (h:OkMovs l) (Hp:List AObj):AFun Tryz.prog 40 [An c,E6 l] Hp (B4 (Mr c l)):=by
 refine Ah [.tmp 4] [0,1] Tryz.func40 Tryz.ntmps40 (fun d=>?_)
 refine Z61 ?_;refine Z2 ?_;refine A9 Tryz.call68 (c68 c hc _) ?_;refine z6 ?_;refine Bm Tryz.call69 (fun hB=>c69 l h _) ?_;refine Z0 ?_;refine Z39 ?_;exact A8 (Ae A7) ⟨by unfold Mr;rw [Nw],rfl⟩

theorem ABb {Hp:List AObj} {c:List Col} (h:∀x∈Hp,ObjLow Hp.length x):∀x∈Hp++[AObj.cells 22 [An c]],ObjLow (Hp.length+1) x:=by
 intro x hx
 rcases Eo.1 hx with hx|hx
 ·exact Vg (by omega) (h x hx)
 rw [Bs.1 hx]
 intro z hz
 rw [Bs.1 hz]
 exact Dj
theorem c42 (c:List Col) (l:List Mov) (Hp:List AObj):ACallO Tryz.prog 42 [An c,E6 l] Hp (fun r H'=>r=.fn (.func 70) [] [.ro [E6 l],.ptr (oid Hp.length 0) 0]∧H'=Hp++[.cells 22 [An c]]):=by
 refine ACallO.body [.tmp 4] [0,1] Tryz.func42 Tryz.ntmps42 (fun d=>?_)
 refine ri ?_;refine Z0 ?_;refine Ja ?_;refine Ec ?_
 refine Pu (fun hlow=>?_)
 refine ADh ?_;refine Z39 ?_;exact K.finO 1 (A7 (t:=4)) ⟨rfl,rfl⟩ (hlow:=by simp [oid,or_imp,forall_and];exact ⟨fun m _ a _=>B7 _ a,fun m _ a _=>B7 _ a⟩) (hobj:=ABb hlow)

theorem c70 (l oc:Nat) (ms:List Mov) (hm:∀m∈ms,MvOk m) (hml:ms.length≤1048576) (C:Nat→List Col) (hC:∀k,OkCols (C k)) (U T:Nat→List AObj) (N:Nat→Prop) (Z:List AObj→Prop) (hlen:∀k,(U k).length=(U 0).length) (hlenW:∀k,(T k).length=(U 0).length) (hll:l<(U 0).length) (hol:oc<(U 0).length)
  (hlw:∀k,∀x∈U k,ObjLow (U 0).length x) (hlW:∀k,∀x∈T k,ObjLow (U 0).length x) (h0:N 0) (hc:∀k,(U k)[oc]? = some (.cells 22 [An (C k)])) (hcW:∀k,(T k)[oc]? = some (.cells 22 [An (C k)]))
  (hn:∀k m,ms[k]? = some m→(Bc (C k) m).2=0→(T k).set oc (.cells 22 [An (Bc (C k) m).1])=U (k+1))
  (hy:∀k m X,ms[k]? = some m→N k→AYield Tryz.prog l [An (Bc (C k) m).1,A5 (Bc (C k) m).2] (U k++X) (fun b H'=>((Bc (C k) m).2≠0∧∃V,H'=V++X∧V.length=(U 0).length∧(∀x∈V,ObjLow (U 0).length x)∧Z V)∨((Bc (C k) m).2=0∧b=true∧N (k+1)∧H'=T k++X)))
  (hR:N ms.length→Z (U ms.length)):ACall Tryz.prog 70 [.yield l,.ro [E6 ms],.ptr oc 0] (U 0) (fun _ H'=>Z H'):=by
 refine Ah [] [0,1,2] Tryz.func70 Tryz.ntmps70 (fun d=>?_)
 refine Z19 ?_;refine A2 [0,2,8,9,10] ?_
 refine Az (α:=Nat) (fun x=>⟨31,A6 0 (.yield l) (A6 2 (.ptr oc 0) (A6 8 (E6 ms) (A6 9 (A5 ms.length) (A6 10 (A5 (x:Nat)) (fun _=>.any))))),U x,[],[],none⟩) (fun x=>x≤ms.length∧N x) (fun x=>ms.length-x) (0) ⟨Ap _,h0⟩ (B2 (by simp)) rfl (fun x hx=>?_)
 refine Z2 ?_;refine A2 [0,2,8,9,10,11] ?_
 refine Ej (fun ht11=>?_) (fun ht11=>?_)
 ·have hlt:x<ms.length:=by simpa using ht11
  refine X6 ?_
  refine A4 (h:=Ac (x) (Fv ms[x]) (fun _=>Aw hlt)) (hr:=?_)
  refine X9 ?_;refine A2 [0,2,5,8,9,10] ?_;refine Ec ?_
  refine A4 (h:=Cm (hc x)) (hr:=?_)
  refine A4 ?_;refine A9 Tryz.call71 (c71 (C x) (hC x) ms[x] (hm _ (Av hlt)) _) ?_;refine Z63 ?_;refine A2 [0,2,6,7,8,9,10] ?_;refine Z33 ?_
  refine R.yield (l:=l) (args:=[An (Bc (C x) ms[x]).1,A5 (Bc (C x) ms[x]).2]) (hy x ms[x] _ (Aa hlt) hx.2) ?_
  intro b V O hV hb
  have hVO:O=[AObj.cells 54 (Nj ms[x])]∧(((Bc (C x) ms[x]).2≠0∧V.length=(U 0).length∧(∀y∈V,ObjLow (U 0).length y)∧Z V)∨((Bc (C x) ms[x]).2=0∧b=true∧N (x+1)∧V=T x)):=by
   rcases hb with ⟨h1,V',h2,h3,h4,h5⟩|⟨h1,h2,h3,h4⟩
   ·obtain ⟨rfl,rfl⟩:=Ur h2 (by rw [hV,hlen x,h3])
    exact ⟨rfl,.inl ⟨h1,h3,h4,h5⟩⟩
   have h6:=Ur h4 (by rw [hV,hlen x,hlenW x])
   exact ⟨h6.2,.inr ⟨h1,h2,h3,h6.1⟩⟩
  obtain ⟨rfl,hVO⟩:=hVO
  have hVl:V.length=(U 0).length:=by rw [hV,hlen x]
  have hVw:∀y∈V,ObjLow (U 0).length y:=by
   rcases hVO with ⟨_,_,h,_⟩|⟨_,_,_,rfl⟩
   ·exact h
   exact hlW _
  refine ⟨fun _=>by rw [hVl];exact hVw,fun o ho=>(by cases ho),?_⟩
  refine Z44 ?_;refine A4 ?_;refine A2 [0,2,6,8,9,10,28] ?_
  refine A3 (fun ht28=>?_) (fun ht28=>?_)
  ·have hZ:Z V:=by
    rcases hVO with ⟨_,_,_,h⟩|⟨h1,h2,_,_⟩
    ·exact h
    rw [h1,h2] at ht28;simp at ht28
   refine Z13 ?_;refine Z6 ?_;refine Mg ?_;exact A8 .nores (hp:=hZ)
  have hVn:(Bc (C x) ms[x]).2=0∧N (x+1)∧V=T x:=by
   rcases hVO with ⟨h1,_,_,_⟩|⟨h1,_,h3,h4⟩
   ·simp [h1] at ht28
   exact ⟨h1,h3,h4⟩
  obtain ⟨hz,hN,rfl⟩:=hVn
  have hnx:=hn x _ (Aa hlt) hz
  refine Z4 ?_;refine Z52 ?_
  refine Gm jS (hcW x) ?_ ?_
  ·first|exact Dj|(simp [or_imp,forall_and];done)
  refine A2 [0,2,8,9,10] ?_;refine iz ?_;refine A2 [0,2,8,9,10] ?_;refine Ay (x+1) ⟨hlt,hN⟩ (by omega) ?_
  rw [hnx]
  exact Dq (own:=[]) (fun _=>.refl _) (by repeat (first|exact Bq|refine Bp (by first|(simp [or_imp,forall_and];done)|exact Fg|(have:=hlen (x+1);simp;omega)) ?_)) (by simp) (by simp)
 have hxe:x=ms.length:=by have:=hx.1;simp at ht11;omega
 refine K.lpE ?_;exact Gn .nores (hp:=by rw [hxe];exact hR (hxe ▸ hx.2))

/-! The columns on the way through moves. -/
def colsAt (c:List Col) (ms:List Mov):Nat→List Col
 | 0=>c
 | k+1=>match ms[k]? with|some m=>(Bc (colsAt c ms k) m).1|none=>colsAt c ms k
def Cu (c:List Col) (ms:List Mov):Nat→List (List Col)
 | 0=>[c]
 | k+1=>Cu c ms k++[colsAt c ms (k+1)]
def NS (c:List Col) (ms:List Mov) (k:Nat):Prop:=Dw c ms=((Cu c ms k).dropLast++(Dw (colsAt c ms k) (ms.drop k)).1,(Dw (colsAt c ms k) (ms.drop k)).2)
theorem ki (c:List Col) (ms:List Mov) (k:Nat):(Cu c ms k).dropLast++[colsAt c ms k]=Cu c ms k:=by
 cases k with
 | zero=>rfl
 | succ k=>simp [Cu]
theorem Fz {c:List Col} {ms:List Mov} {k:Nat} {m:Mov} (h:ms[k]? = some m):colsAt c ms (k+1)=(Bc (colsAt c ms k) m).1:=by rw [colsAt,h]
theorem bn {ms:List Mov} {k:Nat} {m:Mov} (hk:ms[k]? = some m):ms.drop k=m::ms.drop (k+1):=by
 obtain ⟨h1,h2⟩:=Ad.1 hk
 rw [Hd h1,h2]
theorem AJw {c:List Col} {ms:List Mov}:NS c ms 0:=rfl
theorem Y0 {c:List Col} {ms:List Mov} {k:Nat} {m:Mov} (hk:ms[k]? = some m) (h:NS c ms k) (he:(Bc (colsAt c ms k) m).2=0):NS c ms (k+1):=by
 unfold NS at h ⊢
 rw [h,bn hk]
 have e:Dw (colsAt c ms k) (m::ms.drop (k+1))=(colsAt c ms k::(Dw (Bc (colsAt c ms k) m).1 (ms.drop (k+1))).1,(Dw (Bc (colsAt c ms k) m).1 (ms.drop (k+1))).2):=by
  rw [Dw,if_neg (by rw [he];simp)]
 have e2:(Cu c ms (k+1)).dropLast=Cu c ms k:=by simp [Cu]
 rw [e,e2,Fz hk]
 have e3:=ki c ms k
 refine N1 ?_ rfl
 show (Cu c ms k).dropLast++(colsAt c ms k::_)=Cu c ms k++_
 conv=>rhs;rw [←e3]
 simp
theorem ul {c:List Col} {ms:List Mov} {k:Nat} {m:Mov} (hk:ms[k]? = some m) (h:NS c ms k) (he:(Bc (colsAt c ms k) m).2≠0):(Dw c ms).2=(Bc (colsAt c ms k) m).2:=by
 unfold NS at h
 rw [h,bn hk,Dw,if_pos (by simpa using he)]
theorem kj {c:List Col} {ms:List Mov} (h:NS c ms ms.length):Dw c ms=(Cu c ms ms.length,0):=by
 unfold NS at h
 rw [h,List.drop_length,Dw]
 exact N1 (ki c ms ms.length) rfl
theorem pe {c:List Col} {m:Mov} (hc:OkCols c) (h:OkMov m):OkCols (Bc c m).1:=by
 have h0:OkCols ([]:List Col):=⟨by decide,fun y hy=>by cases hy⟩
 unfold Bc
 split
 ·exact h0
 split
 ·exact h0
 split
 ·exact h0
 exact bh hc (bg h) (by rw [J9];exact h.gives2)
theorem Gr {c:List Col} {ms:List Mov} (hc:OkCols c) (h:∀m∈ms,OkMov m):∀k,OkCols (colsAt c ms k)
 | 0=>hc
 | k+1=>by
  rw [colsAt]
  cases hk:ms[k]? with
  | none=>exact Gr hc h k
  | some m=>exact pe (Gr hc h k) (h m (B3 hk))
theorem Jo (c:List Col) (ms:List Mov):∀k,(Cu c ms k).length=k+1
 | 0=>rfl
 | k+1=>by rw [Cu,Ao,Jo c ms k];rfl
theorem km {c:List Col} {ms:List Mov} (h:Mr c ms=true) (hk:OkMovs ms):(∀m∈ms,MvOk m)∧ms.length≤8:=by
 unfold Mr Pa at h
 simp only [As,decide_eq_true_eq,B5] at h
 exact ⟨fun m hm=>AJs (hk.each m hm) (M5 (h.2.2 m hm)),by omega⟩
theorem fm {c:List Col} {ms:List Mov} (h:Mr c ms=false):Ct c ms=([],1):=by
 have:Gq c ms=([],1):=if_neg (by rw [h];simp)
 unfold Ct
 rw [this];rfl
theorem bo {c:List Col} {ms:List Mov} (h:Mr c ms=true) (he:(Dw c ms).2≠0):Ct c ms=([],(Dw c ms).2):=by
 have:Gq c ms=Dw c ms:=if_pos h
 unfold Ct
 rw [this,if_pos (by simpa using he)]
theorem W5 {c:List Col} {ms:List Mov} {o:List (List Col)} (h:Mr c ms=true) (he:Dw c ms=(o,0)):Ct c ms=(o,0):=by
 have:Gq c ms=Dw c ms:=if_pos h
 unfold Ct
 rw [this,he];rfl
abbrev Mt (l:List (List Col)):AV:=.slice false 1 (l.map An)
theorem Em {n k:Nat} {o:Bool} {l:List (List Col)}:Low n (.slice o k (l.map An)):=low_slice.2 fun y hy=>by
 obtain ⟨m,_,rfl⟩:=D6.1 hy
 exact Dj
theorem kn {U:List AObj} {i j:Nat} {x y:AObj} (h:U[i]? = some x) (hne:j≠i):(U.set j y)[i]? = some x:=by rw [Ed hne];exact h
theorem ABc {n k:Nat} {o:Bool} {l:List (List Col)} {c:List Col}:Low n (.slice o k (l.map An++[An c])):=by
 have:=Em (n:=n) (k:=k) (o:=o) (l:=l++[c])
 rwa [C4] at this
theorem c22 (c:List Col) (hc:OkCols c) (hc2:c.length≤1000000) (l:List Mov) (h:OkMovs l) (Hp:List AObj):AFun Tryz.prog 22 [An c,E6 l] Hp (.tup [Mt (Ct c l).1,A5 (Ct c l).2]):=by
 refine Ah [.cell 4 30,.cell 5 27] [0,1,7,8] Tryz.func22 Tryz.ntmps22 (fun d=>?_)
 refine Z37 ?_;refine Mj ?_;refine A2 [0,1,4,5,7,8] ?_;refine Z8 ?_;refine A9 Tryz.call40 (c40 c hc l h _) ?_;refine A4 ?_;refine A2 [0,1,4,5,7,8,12] ?_
 refine A3 (fun ht12=>?_) (fun ht12=>?_)
 ·have hm:=fm (by simpa using ht12)
  refine Ec ?_;refine Gc ?_;refine Yn 0 1 ?_;refine Gc ?_;refine Z85 ?_;exact A8 (B1 (Hg jA) (Hg jA)) ⟨by rw [hm];rfl,rfl⟩
 have hmay:Mr c l=true:=by simpa using ht12
 obtain ⟨hmv,hl8⟩:=km hmay h
 refine Z92 ?_;refine A9 Tryz.call41 (c41 c hc2 _) ?_;refine Ra ?_;refine Mj ?_;refine ip jS ?_;refine A2 [0,1,4,5,6,7,8] ?_;refine Z74 ?_
 refine Pu (fun hlow=>?_)
 refine Z0 ?_;refine R.callO Tryz.call42 (c42 c l _) ?_
 rintro _ _ ⟨rfl,rfl⟩
 refine ⟨[.cells 22 [An c]],by simp,?_⟩
 rw [show oid (Hp++[AObj.cells 30 [AV.nil],AObj.cells 27 [A5 0],AObj.cells 30 [AV.slice true 1 [An c]]]).length 0=oid Hp.length 3 by simp [oid]]
 simp only [Fe,F5]
 refine A2 [4,5,6,7,8,18] ?_;refine Mi ?_
 refine Sb (m:=4) Tryz.call70 (fun FR as' bd' hFR has hbd=>?_)
 have hFRl:∀s,Low (Hp.length+6) (FR s):=by
  intro s
  rw [hFR]
  refine Uw ?_
  revert s
  repeat (first|exact Bq|refine Bp (by first|(simp [oid,or_imp,forall_and];done)|(simp [oid,or_imp,forall_and];exact ⟨fun m _ a _=>B7 _ a,fun m _ a _=>B7 _ a⟩)|(simp [oid,or_imp,forall_and]<;>omega)) ?_)
 have hOl:∀{e:Int} {o:List (List Col)} {q:List Col} {lp:AObj},ObjLow (Hp.length+6) lp→∀x∈Hp++[AObj.cells 30 [AV.nil],AObj.cells 27 [A5 e],AObj.cells 30 [AV.slice true 1 ((o).map An)],AObj.cells 22 [An (q)],AObj.defs,lp],ObjLow (Hp.length+6) x:=by
  intro e o q lp hlp x hx
  refine Om (fun x hx=>Vg (by omega) (hlow x hx)) (fun x hx=>?_) x hx
  simp only [Bu,Fi,or_false] at hx
  rcases hx with rfl|rfl|rfl|rfl|rfl|rfl
  ·intro y hy;rw [Bs.1 hy];simp
  ·intro y hy;rw [Bs.1 hy];simp
  ·intro y hy;rw [Bs.1 hy];exact Em
  ·intro y hy;rw [Bs.1 hy];exact Dj
  ·trivial
  exact hlp
 refine ⟨_,c70 (oid Hp.length 5) (oid Hp.length 3) l hmv (by omega) (colsAt c l) (Gr hc fun m hm=>h.each m hm) (fun k=>Hp++[AObj.cells 30 [AV.nil],AObj.cells 27 [A5 0],AObj.cells 30 [AV.slice true 1 ((Cu c l k).map An)],AObj.cells 22 [An (colsAt c l k)],AObj.defs,AObj.loop LoopState.ready none FR 29 #[19,20] as' bd' (oid Hp.length 4)]) (fun k=>Hp++[AObj.cells 30 [AV.nil],AObj.cells 27 [A5 0],AObj.cells 30 [AV.slice true 1 ((Cu c l (k+1)).map An)],AObj.cells 22 [An (colsAt c l k)],AObj.defs,AObj.loop LoopState.ready none FR 29 #[19,20] as' bd' (oid Hp.length 4)]) (NS c l) (fun V=>(∃(o:List (List Col)) (q:List Col),V=Hp++[AObj.cells 30 [AV.nil],AObj.cells 27 [A5 0],AObj.cells 30 [AV.slice true 1 ((o).map An)],AObj.cells 22 [An (q)],AObj.defs,AObj.loop LoopState.ready none FR 29 #[19,20] as' bd' (oid Hp.length 4)]∧Dw c l=(o,0))∨(∃(e:Int) (o:List (List Col)) (q:List Col),V=Hp++[AObj.cells 30 [AV.nil],AObj.cells 27 [A5 e],AObj.cells 30 [AV.slice true 1 ((o).map An)],AObj.cells 22 [An (q)],AObj.defs,AObj.loop LoopState.done (some Code.ret) FR 29 #[19,20] as' bd' (oid Hp.length 4)]∧e≠0∧(Dw c l).2=e)) (fun k=>by simp) (fun k=>by simp) (by simp [oid]) (by simp [oid]) (fun k=>(fun x hx=>by rw [Ao];exact hOl (lp:=AObj.loop LoopState.ready none FR 29 #[19,20] as' bd' (oid Hp.length 4)) (by exact ⟨hFRl,by simp [oid]⟩) x hx)) (fun k=>(fun x hx=>by rw [Ao];exact hOl (lp:=AObj.loop LoopState.ready none FR 29 #[19,20] as' bd' (oid Hp.length 4)) (by exact ⟨hFRl,by simp [oid]⟩) x hx)) AJw (fun k=>by rw [C0];rfl) (fun k=>by rw [C0];rfl) (fun k m hk he=>by rw [Hm];simp only [Fz hk];rfl) (fun k m X hk hN=>?_) (fun hN=>.inl ⟨_,_,rfl,kj hN⟩),?_⟩
 ·generalize hV:Hp++[AObj.cells 30 [AV.nil],AObj.cells 27 [A5 0],AObj.cells 30 [AV.slice true 1 ((Cu c l k).map An)],AObj.cells 22 [An (colsAt c l k)],AObj.defs,AObj.loop LoopState.ready none FR 29 #[19,20] as' bd' (oid Hp.length 4)]++X=V
  have hL:V[oid Hp.length 5]? = some (AObj.loop LoopState.ready none FR 29 #[19,20] as' bd' (oid Hp.length 4)):=by rw [←hV,C9,C0];rfl
  have hA0:V[oid Hp.length 2]? = some (AObj.cells 30 [AV.slice true 1 ((Cu c l k).map An)]):=by rw [←hV,C9,C0];rfl
  have hB0:V[oid Hp.length 0]? = some (AObj.cells 30 [AV.nil]):=by rw [←hV,C9,C0];rfl
  have hC0:V[oid Hp.length 1]? = some (AObj.cells 27 [A5 0]):=by rw [←hV,C9,C0];rfl
  refine S3 (pd:=none) (fr:=FR) (sz:=29) (ps:=#[19,20]) (df:=oid Hp.length 4) (asg:=as') (bd:=bd') hL rfl (by decide) (fun d=>?_)
  subst hFR has hbd
  refine Hh [4,5,6,19,20] ?_;refine Z2 ?_;refine A2 [4,5,6,7,20] ?_;refine Z52 ?_;refine A2 [4,5,6,7,8] ?_
  refine ⟨rfl,none,hL,?_⟩
  generalize hbz:(AObj.loop LoopState.busy _ _ _ _ _ _ _)=bz
  have hA:(V.set (oid Hp.length 5) bz)[oid Hp.length 2]? = some (AObj.cells 30 [AV.slice true 1 ((Cu c l k).map An)]):=by rw [Ed (Cv (by decide))];exact hA0
  have hB:(V.set (oid Hp.length 5) bz)[oid Hp.length 0]? = some (AObj.cells 30 [AV.nil]):=by rw [Ed (Cv (by decide))];exact hB0
  have hC:(V.set (oid Hp.length 5) bz)[oid Hp.length 1]? = some (AObj.cells 27 [A5 0]):=by rw [Ed (Cv (by decide))];exact hC0
  refine Mi ?_;refine Z8 ?_;refine A2 [4,5,6,7,8,22] ?_
  refine A3 (fun ht22=>?_) (fun ht22=>?_)
  ·have he:(Bc (colsAt c l k) m).2≠0:=by simpa using ht22
   refine Z2 ?_
   refine Gm jS hB ?_ ?_
   ·simp
   refine Gm jS (kn hC (Cv (by decide))) ?_ ?_
   ·simp
   refine A2 [] ?_;refine Z13 ?_;refine Mf ?_
   subst hbz
   refine K.rdR (vj hL (Cv (by decide)) (Cv (by decide))) ?_
   refine .inl ⟨he,Hp++[AObj.cells 30 [AV.nil],AObj.cells 27 [A5 (Bc (colsAt c l k) m).2],AObj.cells 30 [AV.slice true 1 ((Cu c l k).map An)],AObj.cells 22 [An (colsAt c l k)],AObj.defs,_],?_,by simp,(fun x hx=>by rw [Ao];exact hOl (lp:=_) (by exact ⟨hFRl,by simp [oid]⟩) x hx),.inr ⟨_,_,_,rfl,he,ul hk hN he⟩⟩
   subst hV
   simp only [C9,Hm,Fe,F5,List.set_cons_succ,List.set_cons_zero]
  have he:(Bc (colsAt c l k) m).2=0:=by simpa using ht22
  refine Z4 ?_;refine Ix ?_;refine R.loadUpT jA hA ?_;refine Z54 ?_
  refine Ee jU Tryz.type22 ?_ ?_ ?_
  ·have hol:=Jo c l k;have hkl:=(Ad.1 hk).1;simp [Tryz.t22];omega
  ·have hol:=Jo c l k;have hkl:=(Ad.1 hk).1;simp [Tryz.t22];omega
  refine J1 jS (getset hA) ?_ ?_
  ·exact ABc
  refine Yq ?_
  subst hbz
  refine AHq ?_
  refine .inr ⟨he,rfl,Y0 hk hN he,?_⟩
  subst hV
  simp only [C9,Hm,Fe,F5,List.set_cons_succ,List.set_cons_zero]
  rw [Cu,Fz hk,C4]
  rfl
 rintro r H' (⟨o,q,rfl,hrun⟩|⟨e,o,q,rfl,hne,hrun⟩)
 ·refine ⟨Hp,_,_,_,rfl,rfl,fun h=>h,?_,rfl,by simp,?_⟩
  ·intro o ho
   have:o=oid Hp.length 4:=by simpa using ho
   subst this
   rw [C0]
   rfl
  refine Z11 ?_;refine Z2 ?_;refine Gc ?_;refine Gc ?_;refine Z77 ?_;exact A8 (B1 (Hg jA) (Hg jA)) ⟨by rw [W5 hmay hrun],rfl⟩ (hlow:=by simp only [io,Bu,Fi,or_false];rintro y (rfl|rfl);exact Em;simp)
 refine ⟨Hp,_,_,_,rfl,rfl,fun h=>h,?_,rfl,by simp,?_⟩
 ·intro o ho
  have:o=oid Hp.length 4:=by simpa using ho
  subst this
  rw [C0]
  rfl
 refine W.nilOwn 0 1 ?_;refine Z21 ?_;exact A8 (B1 (Hg jA) (Hg jA)) ⟨by rw [bo hmay (by rw [hrun];exact hne),hrun];rfl,rfl⟩

theorem Sy:∀(c:List Col) (ms:List Mov),(Dw c ms).1.length≤ms.length+1
 | c,[]=>by simp [Dw]
 | c,m::r=>by
  rw [Dw]
  split
  ·simp
  have:=Sy (Bc c m).1 r
  simp only [B6]
  omega
theorem ACall.argLe {P:Program} {g:FuncId} {args args':List AV} {H:List AObj} {post:AV→List AObj→Prop} (h:ACall P g args' H post) (hl:args.length=args'.length) (hle:∀(i:Nat) (y y':AV),args[i]? = some y→args'[i]? = some y'→Le y y'):ACall P g args H post:=
 fun d G w vs h1 h2 h3 h4=>h d G w vs (h1.trans hl) (fun i y u hy hu=>by
  have hi:i<args.length:=by rw [hl];exact (Ad.1 hy).1
  exact (h2 i _ u (Aa hi) hu).le (hle i _ y (Aa hi) hy)) h3 h4
theorem ABd (s:Str):Le (.agg [A5 2,Af s,A5 0,A5 0,Af [],.nil]) (Ab (Dt s)):=by
 rw [Ax]
 refine .agg _ _ rfl (fun y hy=>?_) (fun i y y' hy hy'=>?_)
 ·simp only [Dz,Bu,Fi,or_false] at hy
  rcases hy with rfl|rfl|rfl|rfl|rfl|rfl<;>rfl
 match i with
 | 0=>simp at hy;subst hy;simp [Dz,Dt] at hy';subst hy';exact .inl rfl
 | 1=>simp at hy;subst hy;simp [Dz,Dt] at hy';subst hy';exact .inl rfl
 | 2=>simp at hy;subst hy;simp [Dz,Dt] at hy';subst hy';exact .inl rfl
 | 3=>simp at hy;subst hy;simp [Dz,Dt] at hy';subst hy';exact .inl rfl
 | 4=>simp at hy;subst hy;simp [Dz,Dt] at hy';subst hy';exact .inl rfl
 | 5=>simp at hy;subst hy;simp [Dz,Dt] at hy';subst hy';exact .inr ⟨rfl,6,rfl⟩
 | i+6=>simp at hy
theorem ASa (x:Expr) (hx:okE 61 x) (s:Str) (Hp:List AObj):AFun Tryz.prog 77 [Ab x,.agg [A5 2,Af s,A5 0,A5 0,Af [],.nil]] Hp (B4 (eqE x (Dt s))):=
 ACall.argLe (c77 61 x hx (Dt s) Hp) rfl fun i y y' hy hy'=>by
  match i with
  | 0=>simp at hy hy';subst hy;subst hy';exact .refl _
  | 1=>simp only [Pf,qi,O9] at hy hy';subst hy;subst hy';exact ABd s
  | i+2=>simp at hy
def Mu (m:Mov):Bool:=
 if m.kind==1 then ((m.take.length:Int)==0)&&((m.give.length:Int)==1)
 else if m.kind==2 then ((m.take.length:Int)==1)&&((m.give.length:Int)==0)
 else if (m.kind==3) || (m.kind==6) then ((m.take.length:Int)==1)&&((m.give.length:Int)==1)
 else if m.kind==4 then ((m.take.length:Int)==1)&&decide ((2:Int)≤(m.give.length:Int))
 else if m.kind==5 then decide ((2:Int)≤(m.take.length:Int))&&((m.give.length:Int)==1)
 else false
theorem AGd (n:Nat):decide ((1:Int)<(n:Int))=decide ((2:Int)≤(n:Int)):=by
 by_cases h:2≤n
 ·have h1:(1:Int)<n:=by omega
  have h2:(2:Int)≤n:=by omega
  simp [h1,h2]
 have h1:¬(1:Int)<n:=by omega
 have h2:¬(2:Int)≤n:=by omega
 simp [h1,h2]
theorem AGe {m:Mov} (h:(((m.ahead.length:Int) != (m.give.length:Int)) || ((m.back.length:Int) != (m.take.length:Int)))=false):G7 m=Mu m:=by
 rw [p9 h,AGd,AGd]
 rfl
theorem ABe (k:Int):(Ci k==([]:Str))=(decide (k<1) || decide (3<k)):=by
 unfold Ci
 by_cases h:k<1∨3<k
 ·rw [if_pos (by first|exact h|omega)]
  rcases h with h|h<;>simp [h]
 rw [if_neg (by first|exact h|omega)]
 have hk:k=1∨k=2∨k=3:=by omega
 rcases hk with rfl|rfl|rfl<;>rfl
theorem fp {m:Mov} {c:Col}:(((!(Dg c.name)) || ((m.kind==3)&&(c.kind != 0))) || ((m.kind != 3)&&(decide (c.kind<1) || decide (3<c.kind)))) = !Kc m c:=by
 rw [←ABe]
 unfold Kc
 rw [show (m.kind != 3) = !(m.kind==3) from rfl]
 cases h3:(m.kind==3) with
 | false=>cases Dg c.name<;>cases (Ci c.kind==([]:Str))<;>cases (c.kind != 0)<;>rfl
 | true =>
  by_cases h0:c.kind=0
  ·have e:(Ci c.kind==([]:Str))=true:=by rw [h0];rfl
   have e0:(c.kind != 0)=false:=by rw [h0];rfl
   rw [e,e0]
   cases Dg c.name<;>rfl
  have e0:(c.kind != 0)=true:=by simpa using h0
  rw [e0]
  cases Dg c.name<;>cases (Ci c.kind==([]:Str))<;>rfl
theorem Y1 (l:List Expr):l.all Eb=l.all Bk:=by
 congr 1
 funext e
 exact (G5 e).symm
theorem AJx {m:Mov} (h:(((((m.ahead.length:Int) != (m.give.length:Int)) || ((m.back.length:Int) != (m.take.length:Int))) || (!(m.ahead.all Eb))) || (!(m.back.all Eb)))=true):Fo m=false:=by
 rw [Y1,Y1] at h
 unfold Fo
 cases h1:(((m.ahead.length:Int) != (m.give.length:Int)) || ((m.back.length:Int) != (m.take.length:Int))) with
 | true=>rw [p8 h1];rfl
 | false =>
  rw [h1] at h
  cases h2:m.ahead.all Bk<;>cases h3:m.back.all Bk<;>simp_all
theorem AJy {m:Mov} (h:(((((m.ahead.length:Int) != (m.give.length:Int)) || ((m.back.length:Int) != (m.take.length:Int))) || (!(m.ahead.all Eb))) || (!(m.back.all Eb)))=false):G7 m=Mu m∧Fo m=(((Mu m&&m.give.all (Kc m))&&m.take.all Dg)&&Mq m):=by
 rw [Y1,Y1] at h
 simp only [Cq,Jw] at h
 have hk:=AGe (m:=m) (by simp only [Cq];exact h.1.1)
 refine ⟨hk,?_⟩
 unfold Fo
 rw [hk,h.1.2,h.2]
 simp
theorem AJz {m:Mov} (h6:(m.kind==6)=false):Mq m=((m.kind != 3) || (eqE (m.ahead.getD 0 At) (Dt (m.take.getD 0 []))&&eqE (m.back.getD 0 At) (Dt (m.give.getD 0 ⟨[],0⟩).name))):=by
 rw [show (m.kind != 3) = !(m.kind==3) from rfl]
 cases h:(m.kind==3) with
 | true=>rw [AGa h];rfl
 | false=>rw [AGc h h6];rfl
theorem AK0 {m:Mov} (h6:(m.kind==6)=true):Mq m=(m.take.getD 0 []==(m.give.getD 0 ⟨[],0⟩).name):=AGb (by simp at h6 ⊢;omega) h6
theorem c47 (m:Mov) (h:OkMov m) (Hp:List AObj):AFun Tryz.prog 47 [Fv m] Hp (B4 (Fo m)):=by
 refine Ah [.tmp 2] [0] Tryz.func47 Tryz.ntmps47 (fun d=>?_)
 refine Pv ?_;refine Cb [0,1,3,0,8,24,7,127] 7 Ai (by kernel_rfl) ?_;refine Tq ?_;refine z7 ?_;refine A4 ?_;refine j8 ?_;refine Z74 ?_
 simp only [Am]
 refine Z70 ?_;refine Z44 ?_;refine Xb ?_;refine Bm Tryz.call76 (fun hB=>c76 m.ahead h.ahead _) ?_;refine Bd ?_;refine Z44 ?_;refine Bm Tryz.call76 (fun hB=>c76 m.back h.back _) ?_;refine Z93 ?_;refine A2 [1,3,4,38] ?_
 refine A3 (fun ht38=>?_) (fun ht38=>?_)
 ·simp only [Am] at ht38
  have hm:=AJx ht38
  exact ADe
 simp only [Am] at ht38
 obtain ⟨hck,hm0⟩:=AJy ht38
 refine Z92 ?_;refine A2 [1,3,4,5] ?_
 refine W.join ⟨178,A6 1 (.ro (Nj m)) (A6 3 (A5 (m.take.length:Nat)) (A6 4 (A5 (m.give.length:Nat)) (A6 5 (B4 (Mu m)) (fun _=>.any)))),Hp,[],[],none⟩ ?_ ?_
 ·refine Z1 ?_;refine A2 [1,3,4,5,40] ?_;refine P8 ?_;refine A2 [1,3,4,5,40,41] ?_
  refine A3 (fun ht41=>?_) (fun ht41=>?_)
  ·refine z8 ?_;refine Z90 ?_;exact B2 (by unfold Mu;first|(simp only [ht38,ht41,hk3,hk6,Db,C7,Fp,Ky,if_true,if_false,Ag,↓reduceIte]<;>rfl)|(simp only [ht38,ht41,hk3,Db,C7,Fp,if_true,if_false,Ag,↓reduceIte]<;>rfl)|(simp only [ht38,ht41,if_true,if_false,Ag,↓reduceIte]<;>rfl))
  refine Z1 ?_;refine A2 [1,3,4,5,40,49] ?_
  refine A3 (fun ht49=>?_) (fun ht49=>?_)
  ·refine z8 ?_;refine Z90 ?_;exact B2 (by unfold Mu;first|(simp only [ht38,ht41,ht49,hk3,hk6,Db,C7,Fp,Ky,if_true,if_false,Ag,↓reduceIte]<;>rfl)|(simp only [ht38,ht41,ht49,hk3,Db,C7,Fp,if_true,if_false,Ag,↓reduceIte]<;>rfl)|(simp only [ht38,ht41,ht49,if_true,if_false,Ag,↓reduceIte]<;>rfl))
  refine Z8 ?_;refine A2 [1,3,4,5,40,57] ?_
  refine A3 (fun ht57=>?_) (fun ht57=>?_)
  ·have hk3:=ht57
   refine Z4 ?_
   refine A3 (fun ht57=>?_) (fun ht57=>?_)
   ·refine z8 ?_;refine L3 ?_;exact Z68
   rw [hk3] at ht57;cases ht57
  have hk3:=ht57
  refine Z31 ?_;refine A2 [1,3,4,5,40,57] ?_;refine Es ?_
  refine A3 (fun ht57=>?_) (fun ht57=>?_)
  ·have hk6:=ht57
   refine z8 ?_;refine L3 ?_;exact Z68
  have hk6:=ht57
  refine Z1 ?_;refine A2 [1,3,4,5,40,66] ?_
  refine A3 (fun ht66=>?_) (fun ht66=>?_)
  ·refine z8 ?_;refine Z90 ?_;exact B2 (by unfold Mu;first|(simp only [ht38,ht41,ht49,ht57,ht57,ht66,hk3,hk6,Db,C7,Fp,Ky,if_true,if_false,Ag,↓reduceIte]<;>rfl)|(simp only [ht38,ht41,ht49,ht57,ht57,ht66,hk3,Db,C7,Fp,if_true,if_false,Ag,↓reduceIte]<;>rfl)|(simp only [ht38,ht41,ht49,ht57,ht57,ht66,if_true,if_false,Ag,↓reduceIte]<;>rfl))
  refine Z1 ?_;refine A2 [1,3,4,5,74] ?_
  refine A3 (fun ht74=>?_) (fun ht74=>?_)
  ·refine z8 ?_;refine L3 ?_;exact Z59
  refine Hh [1,3,4,5] ?_;refine ADi ?_;exact Z59
 refine Z8 ?_;refine A2 [1,3,4,83] ?_
 refine A3 (fun ht83=>?_) (fun ht83=>?_)
 ·have hkf:Mu m=false:=by simpa using ht83
  have hm:Fo m=false:=by rw [hm0,hkf];rfl
  exact ADe
 have hkm:Mu m=true:=by simpa using ht83
 have hct:G7 m=true:=hck.trans hkm
 obtain ⟨hl3,hl4⟩:=Ge hct
 refine Sd ?_;refine A2 [1,3,4,6] ?_
 refine Az (α:=Nat) (fun x=>⟨178,A6 1 (.ro (Nj m)) (A6 3 (A5 (m.take.length:Nat)) (A6 4 (A5 (m.give.length:Nat)) (A6 6 (A5 (x:Nat)) (fun _=>.any)))),Hp,[],[],none⟩) (fun x=>x≤m.take.length∧∀(j:Nat) (y:Str),j<x→m.take[j]? = some y→(!Dg y)=false) (fun x=>m.take.length-x) (0) ⟨Ap _,fun j y h=>by omega⟩ (B2 (by simp)) rfl (fun x hx=>?_)
 refine Z33 ?_;refine A2 [1,3,4,6,86] ?_
 refine A3 (fun ht86=>?_) (fun ht86=>?_)
 ·have hlt:x<m.take.length:=by simpa using ht86
  have htk:=h.takes
  refine Xa ?_
  refine A4 (h:=Ac (x) (Af m.take[x]) (fun _=>Aw hlt)) (hr:=?_)
  refine A4 ?_;refine A9 Tryz.call51 (c51 m.take[x] (h.names _ (Av hlt)) _) ?_;refine A4 ?_;refine A2 [1,3,4,6,95] ?_
  refine A3 (fun ht95=>?_) (fun ht95=>?_)
  ·rw [←Gy] at ht95
   have hm:Fo m=false:=by
    rw [hm0,Rv.2 ⟨_,Av hlt,by simpa using ht95⟩]
    simp
   exact ALt
  rw [←Gy] at ht95
  refine Z71 ?_;refine A2 [1,3,4,6] ?_;exact Ay (x+1) ⟨hlt,C1 hlt hx.2 ht95⟩ (by omega) (Bh rfl)
 have hxe:m.take.length≤x:=by simpa using ht86
 have hta:m.take.all Dg=true:=by have:=Il hxe hx.2;rw [Iv] at this;simpa using this
 refine Z45 ?_;refine Z29 ?_;refine A2 [1,4,7] ?_
 refine Az (α:=Nat) (fun k=>⟨178,A6 1 (.ro (Nj m)) (A6 4 (A5 (m.give.length:Nat)) (A6 7 (A5 (k:Nat)) (fun _=>.any))),Hp,[],[],none⟩) (fun k=>k≤m.give.length∧∀(j:Nat) (y:Col),j<k→m.give[j]? = some y→(!Kc m y)=false) (fun k=>m.give.length-k) (0) ⟨Ap _,fun j y h=>by omega⟩ (B2 (by simp)) rfl (fun k hk=>?_)
 refine Z33 ?_;refine A2 [1,4,7,98] ?_
 refine A3 (fun ht98=>?_) (fun ht98=>?_)
 ·have hlk:k<m.give.length:=by simpa using ht98
  have hgl:=h.gives2
  refine Xa ?_
  refine A4 (h:=Ac (k) (Bj m.give[k]) (fun _=>Aw hlk)) (hr:=?_)
  refine Z10 ?_;refine A2 [1,4,7,8] ?_;refine Z19 ?_
  refine A4 (h:=Ac (k) (Bj m.give[k]) (fun _=>Aw hlk)) (hr:=?_)
  refine Z0 ?_;refine A9 Tryz.call51 (c51 m.give[k].name (h.gives.2 _ (Av hlk)) _) ?_;refine rt ?_;refine Xb ?_;refine Pw ?_;refine Z7 ?_;refine Oh ?_;refine A2 [1,4,7,136] ?_
  refine A3 (fun ht136=>?_) (fun ht136=>?_)
  ·rw [←Gy,fp] at ht136
   have hm:Fo m=false:=by
    rw [hm0,Rv.2 ⟨_,Av hlk,by simpa using ht136⟩]
    simp
   exact ALt
  rw [←Gy,fp] at ht136
  refine Z71 ?_;refine A2 [1,4,7] ?_;exact Ay (k+1) ⟨hlk,C1 hlk hk.2 ht136⟩ (by omega) (Bh rfl)
 have hke:m.give.length≤k:=by simpa using ht98
 have hga:m.give.all (Kc m)=true:=by have:=Il hke hk.2;rw [Iv] at this;simpa using this
 have hm1:Fo m=Mq m:=by rw [hm0,hkm,hga,hta];rfl
 have g1:=fun h0=>P6 (f:=Ab) (l:=m.ahead) (d:=At) h0
 have g2:=fun h0=>P6 (f:=Ab) (l:=m.back) (d:=At) h0
 have g3:=fun h0=>P6 (f:=Af) (l:=m.take) (d:=[]) h0
 have g4:=fun h0=>P6 (f:=Bj) (l:=m.give) (d:=⟨[],0⟩) h0
 refine Z45 ?_;refine Z33 ?_;refine A2 [1,139] ?_
 refine A3 (fun ht139=>?_) (fun ht139=>?_)
 ·obtain ⟨hl1,hl2⟩:=Qa hct (by rw [ht139];simp)
  have hm:=hm1.trans (AK0 ht139)
  refine APq ?_
  refine Ak (h:=Ac (0) (Af (m.take.getD 0 [])) (fun _=>g3 (by omega))) (hr:=?_)
  refine Z40 ?_
  refine Ak (h:=Ac (0) (Bj (m.give.getD 0 ⟨[],0⟩)) (fun _=>g4 (by omega))) (hr:=?_)
  refine Z88 ?_;refine Z53 ?_;exact Z95
 have hm:=hm1.trans (AJz ht139)
 have len3:((m.kind != 3)==false)=true→0<m.ahead.length∧0<m.take.length∧0<m.back.length∧0<m.give.length:=fun hB=>by
  obtain ⟨a1,a2⟩:=Qa hct (by simp at hB;rw [hB];rfl)
  omega
 have and3:∀{b:Bool},(((m.kind != 3)==false)&&b)=true→((m.kind != 3)==false)=true:=fun h=>AJq h
 refine Z4 ?_;refine Cb [0,1,3,7,15,31,63,127,15,271,783,1807,3855,8191,16383,32767,65535,131071,262143,32767,557055,1605631,3702783,7897087,16285695,33554431,67108863,134217727,268435455] 25 Ai (by kernel_rfl) ?_;refine Tq ?_;refine Z56 ?_
 refine Ei (h:=Ac (0) (Ab (m.ahead.getD 0 At)) (fun hB=>g1 (len3 hB).1)) (hr:=?_)
 refine lv ?_
 refine Ei (h:=Ac (0) (Af (m.take.getD 0 [])) (fun hB=>g3 (len3 hB).2.1)) (hr:=?_)
 refine Ei ?_;refine H.build (places:=#[(0,1),(1,1),(2,3),(5,1)]) jU (fun w=>by simp) jZ ?_;refine V1 Tryz.call77 (fun hB=>ASa (m.ahead.getD 0 At) (h.ahead.ok _ (O2 (len3 hB).1)) (m.take.getD 0 []) _) ?_;refine lv ?_
 refine Ei (h:=Ac (0) (Ab (m.back.getD 0 At)) (fun hB=>g2 (len3 (and3 hB)).2.2.1)) (hr:=?_)
 refine lv ?_
 refine Ei (h:=Ac (0) (Bj (m.give.getD 0 ⟨[],0⟩)) (fun hB=>g4 (len3 (and3 hB)).2.2.2)) (hr:=?_)
 refine Z56 ?_;refine H.build (places:=#[(0,1),(1,1),(2,3),(5,1)]) jU (fun w=>by simp) jZ ?_;refine J0 ?_;refine Bm Tryz.call77 (fun hB=>ASa (m.back.getD 0 At) (h.back.ok _ (O2 (len3 (and3 hB)).2.2.1)) (m.give.getD 0 ⟨[],0⟩).name _) ?_;refine Bd ?_;exact APo

theorem c28 (l:List Mov) (h:OkMovs l) (Hp:List AObj):AFun Tryz.prog 28 [E6 l] Hp (B4 (Pa l)):=by
 refine Ah [.tmp 2] [0] Tryz.func28 Tryz.ntmps28 (fun d=>?_)
 refine j4 ?_;refine A2 [0,6] ?_
 refine A3 (fun ht6=>?_) (fun ht6=>?_)
 ·rw [Am] at ht6
  have hm:Pa l=false:=by
   unfold Pa
   rw [show decide ((l.length:Int)≤8)=false by simp at ht6 ⊢;omega]
   rfl
  exact ADb
 rw [Am] at ht6
 have h8:decide ((l.length:Int)≤8)=true:=by simp at ht6 ⊢;omega
 have hl8:l.length≤8:=by simp at h8;omega
 refine yt ?_
 refine Az (α:=Nat) (fun x=>⟨19,A6 0 (E6 l) (A6 3 (A5 (x:Nat)) (fun _=>.any)),Hp,[],[],none⟩) (fun x=>x≤l.length∧∀(j:Nat) (y:Mov),j<x→l[j]? = some y→(!Fo y)=false) (fun x=>l.length-x) (0) ⟨Ap _,fun j y h=>by omega⟩ (B2 (by simp)) rfl (fun x hx=>?_)
 refine AHh ?_
 refine A3 (fun ht10=>?_) (fun ht10=>?_)
 ·have hlt:x<l.length:=by simpa using ht10
  refine Se ?_
  refine A4 (h:=Ac (x) (Fv l[x]) (fun _=>Aw hlt)) (hr:=?_)
  refine A4 ?_;refine A9 Tryz.call47 (c47 l[x] (h.each _ (Av hlt)) _) ?_;refine A4 ?_;refine A2 [0,3,18] ?_
  refine A3 (fun ht18=>?_) (fun ht18=>?_)
  ·have hm:Pa l=false:=by
    unfold Pa
    rw [Rv.2 ⟨_,Av hlt,by simpa using ht18⟩]
    simp
   exact AHa
  refine re ?_;exact Ay (x+1) ⟨hlt,C1 hlt hx.2 ht18⟩ (by omega) (Bh rfl)
 have hxe:l.length≤x:=by simpa using ht10
 have hm:Pa l=true:=by
  have h2:=Il hxe hx.2
  rw [Iv] at h2
  unfold Pa
  rw [h8]
  simpa using h2
 exact ADf

theorem AK1 (c:List Col) (ms:List Mov):∀k,((Cu c ms k).map An)[k]? = some (An (colsAt c ms k))
 | 0=>rfl
 | k+1=>by
  have h:=Jo c ms k
  rw [Cu,C4,Dn (by rw [Am];omega),Am,h,O8]
  rfl
theorem um {c:List Col} {ms:List Mov} {k:Nat} {m:Mov} (hk:ms[k]? = some m) (h:NS c ms k) (he:(Bc (colsAt c ms k) m).2≠0):Dw c ms=(Cu c ms k,(Bc (colsAt c ms k) m).2):=by
 unfold NS at h
 rw [h,bn hk,Dw,if_pos (by simpa using he)]
 exact N1 (ki c ms k) rfl
theorem ANq {c:List Col} {l:List Mov} (h:((!(D8 c)) || (!(Pa l)))=true):Gq c l=([],1):=if_neg (by unfold Mr;cases h1:D8 c<;>cases h2:Pa l<;>simp_all)
theorem AK2 {c:List Col} {l:List Mov} (h:((!(D8 c)) || (!(Pa l)))=false):Mr c l=true:=by unfold Mr;cases h1:D8 c<;>cases h2:Pa l<;>simp_all
theorem c9 (c:List Col) (hc:OkCols c) (l:List Mov) (h:OkMovs l) (Hp:List AObj):AFun Tryz.prog 9 [An c,E6 l] Hp (.tup [Mt (Gq c l).1,A5 (Gq c l).2]):=by
 refine Ah [.tmp 4,.tmp 5] [0,1] Tryz.func9 Tryz.ntmps9 (fun d=>?_)
 refine ln ?_;refine Z29 ?_;refine A9 Tryz.call27 (c27 c hc _) ?_;refine Sf ?_;refine Bm Tryz.call28 (fun hB=>c28 l h _) ?_;refine Z93 ?_;refine A2 [0,1,17] ?_
 refine A3 (fun ht17=>?_) (fun ht17=>?_)
 ·have hm:=ANq ht17
  refine Z2 ?_;refine R.nilTmp 4 1 false ?_;refine A4 ?_;refine Z85 ?_;exact A8 (B1 A7 A7) ⟨by rw [hm];rfl,rfl⟩
 have hmay:=AK2 ht17
 obtain ⟨hmv,hl8⟩:=km hmay h
 have hmr:Gq c l=Dw c l:=if_pos hmay
 refine Z92 ?_;refine Ra ?_;refine Lr ?_;refine A2 [1,6] ?_;refine Z29 ?_;refine A2 [1,6,7] ?_
 refine Az (α:=Nat) (fun x=>⟨47,A6 1 (E6 l) (A6 6 (.slice true 1 ((Cu c l x).map An)) (A6 7 (A5 (x:Nat)) (fun _=>.any))),Hp,[],[],none⟩) (fun x=>x≤l.length∧NS c l x) (fun x=>l.length-x) (0) ⟨Ap _,AJw⟩ (B2 (by simp [Cu])) rfl (fun x hx=>?_)
 refine Z50 ?_;refine A2 [1,6,7,23] ?_
 refine A3 (fun ht23=>?_) (fun ht23=>?_)
 ·have hlt:x<l.length:=by simpa using ht23
  refine Z42 ?_;refine Cb [0,0,3,7,0,0,48,112,255,511,1023,1023,2047,8191] 13 Ai (by kernel_rfl) ?_;refine Z12 ?_
  refine Ak (h:=Ac (x) (An (colsAt c l x)) (fun _=>AK1 c l x)) (hr:=?_)
  refine Z40 ?_
  refine Ak (h:=Ac (x) (Fv l[x]) (fun _=>Aw hlt)) (hr:=?_)
  refine Ak ?_;refine De Tryz.call29 (c29 (colsAt c l x) (Gr hc (fun m hm=>h.each m hm) x) l[x] (hmv _ (Av hlt)) _) ?_;refine Z12 ?_;refine rn ?_;refine A2 [1,6,7,8,9] ?_;refine Z8 ?_;refine A2 [1,6,7,8,9,39] ?_
  refine A3 (fun ht39=>?_) (fun ht39=>?_)
  ·have he:(Bc (colsAt c l x) l[x]).2≠0:=by simpa using ht39
   have hm:Gq c l=(Cu c l x,(Bc (colsAt c l x) l[x]).2):=hmr.trans (um (Aa hlt) hx.2 he)
   refine Z25 ?_;refine Z85 ?_;refine Z73 ?_;exact AQs
  have he:(Bc (colsAt c l x) l[x]).2=0:=by simpa using ht39
  refine z9 ?_
  refine Ee jU Tryz.type22 ?_ ?_ ?_
  ·have hol:=Jo c l x;simp [Tryz.t22];omega
  ·have hol:=Jo c l x;simp [Tryz.t22];omega
  refine Lr ?_;refine A2 [1,6,7] ?_;refine Z83 ?_;refine A2 [1,6,7] ?_
  refine Ay (x+1) ⟨hlt,Y0 (Aa hlt) hx.2 he⟩ (by omega) (Bh ?_)
  rw [Cu,Fz (Aa hlt),C4]
  rfl
 have hxe:x=l.length:=by have:=hx.1;simp at ht23;omega
 have hm:Gq c l=(Cu c l x,0):=by rw [hmr];subst hxe;exact kj hx.2
 refine Z45 ?_;refine Z19 ?_;refine Z77 ?_;exact AQs

theorem un {n k:Nat} {o:Bool} {a:List Expr} {e:Expr}:Low n (.slice o k (a.map Ab++[Ab e])):=low_slice.2 fun y hy=>by
 rcases Eo.1 hy with h|h
 ·obtain ⟨m,_,rfl⟩:=D6.1 h
  exact B7 _ _
 rw [Bs.1 h]
 exact B7 _ _
theorem Gf {n k:Nat} {o:Bool} {a:List Expr}:Low n (.slice o k (a.map Ab)):=low_slice.2 fun y hy=>by
 obtain ⟨m,_,rfl⟩:=D6.1 hy
 exact B7 _ _
/-! fuse: trees in columns' places. -/
mutual
def putF (c:List Col) (l:List Expr):Expr→Option Expr
 | .mk o t v k=>if o==2 then (if Bn t c<0 then none else some (l.getD (Bn t c).toNat At)) else (AL6 c l k).map fun k'=>.mk o t v k'
def AL6 (c:List Col) (l:List Expr):List Expr→Option (List Expr)
  | []=>some []
  | e::r=>match putF c l e with
    | none=>none
    | some y=>(AL6 c l r).map fun s=>y::s
 end
set_option maxRecDepth 8000
/-! The words of a print. -/
/-! A text between marks. -/
/-! The print of a tree, and its words. -/
/-! What was parsed nests no deeper than may be. -/
/-! What nests too deep is told to be too deep. -/
def F2 (l:List Tok) (x:Expr):Prop:=∀(k:Nat) (S:PS) (rest:List TK),(k=0∨k=1∨k=4∨k=5)→k≤AFa x→S.code=0→S.nest≤30→30<S.nest+wi x→seg l S.i=aj x++rest→AF9 (k+1) rest→(Ho l (ofL k) (pf l (fam l S.nest) (k+1)) S).2.code=18
/-! What was parsed is right, where the words are the lexer's. -/
/-! The lexer's words. -/
/-! The parse laws where nothing is too deep. -/
/-! The parser from a word on, and of a source. -/
/-! Other trees have other words, and other prints. -/
/-! The laws of printing. -/
theorem Sz {x:Expr} (h:Eb x=true):Et E9 x=true:=by
 unfold Eb at h
 rw [As] at h
 exact h.2
set_option maxRecDepth 4000
end Go.SX.Nb
namespace Go.Proofs
open Go.Shelf Go.RowKit

section
variable {P:Program} (w:World)

end

section
variable {P:Program} {ρ:Ren}

set_option maxHeartbeats 1000000 in
set_option maxRecDepth 100000 in
set_option maxHeartbeats 1000000 in
set_option maxRecDepth 100000 in
set_option maxHeartbeats 2000000 in
set_option maxRecDepth 100000 in
set_option maxHeartbeats 2000000 in
set_option maxRecDepth 100000 in
end
end Go.Proofs

namespace Go.SX.Nb
open Go Go.SX Go.Proofs Go.Shelf
variable [ErrAt]
set_option maxRecDepth 8000
/-! show's builder. -/
end Go.SX.Nb
namespace Go.SX.Nb
open Go Go.SX Go.Proofs
variable [ErrAt]
set_option maxRecDepth 4000
set_option maxRecDepth 8000
/-! How long a print is. -/
set_option maxRecDepth 4000
/-! fuse.Forth and plan.Text. -/
theorem O3 {c:List Col} {m:Mov} (h:(Bc c m).2=0):(Bc c m).1=Ch c m.take++Ba c m∧D8 c=true∧D8 (Bc c m).1=true:=by
 unfold Bc at h ⊢
 split at h
 ·rename_i h1
  exact AMd
 rename_i h1
 rw [if_neg h1]
 split at h
 ·rename_i h2
  exact absurd h (by simpa using h2)
 rename_i h2
 rw [if_neg h2]
 split at h
 ·rename_i h3
  exact absurd h (by simpa using h3)
 rename_i h3
 rw [if_neg h3]
 obtain ⟨a,_,b,d,e⟩:=w6 (by simpa using h1:(D5 c m.take (Ba c m)).2=0)
 rw [e]
 refine ⟨rfl,a,?_⟩
 unfold D8
 rw [b,Pc]
 refine decide_eq_true ?_
 show ((Ch c m.take++Ba c m).length:Int)≤12
 omega
/-! The text. -/
/-! ONE LINE EACH. -/
theorem uo {c:List Col} {ms:List Mov} (he:(Dw c ms).2=0):∀k,k≤ms.length→NS c ms k
 | 0,_=>AJw
 | k+1,h=>by
  have ih:=uo he k (by omega)
  have hk:ms[k]? = some ms[k]:=Aa (by omega)
  by_cases ht:(Bc (colsAt c ms k) ms[k]).2=0
  ·exact Y0 hk ih ht
  exact absurd ((ul hk ih ht).symm.trans he) ht
theorem Lx {c:List Col} {ms:List Mov} (he:(Dw c ms).2=0) {k:Nat} {m:Mov} (hk:ms[k]? = some m):(Bc (colsAt c ms k) m).2=0:=by
 have hl:=(Ad.1 hk).1
 by_cases ht:(Bc (colsAt c ms k) m).2=0
 ·exact ht
 exact absurd ((ul hk (uo he k (by omega)) ht).symm.trans he) ht
theorem Qc {c:List Col} {ms:List Mov}:∀{n k:Nat},k≤n→(Cu c ms n)[k]? = some (colsAt c ms k)
 | 0,k,h=>by
  have:k=0:=by omega
  subst this;rfl
 | n+1,k,h=>by
  have hl:=Jo c ms n
  rw [Cu]
  by_cases e:k=n+1
  ·subst e
   rw [Dn (by omega),hl,O8]
   rfl
  rw [Dh (by omega)]
  exact Qc (by omega)
theorem Ke {c:List Col} {ms:List Mov} (h:Mr c ms=true):∀m∈ms,Fo m=true:=by
 unfold Mr Pa at h
 simp only [As,B5] at h
 exact h.2.2
theorem Ot {c:List Col} {ms:List Mov} (hc:D8 c=true) (he:(Dw c ms).2=0):∀k,D8 (colsAt c ms k)=true
 | 0=>hc
 | k+1=>by
  cases hk:ms[k]? with
  | none =>
   rw [colsAt,hk]
   exact Ot hc he k
  | some m =>
   rw [Fz hk]
   exact (O3 (Lx he hk)).2.2
/-- What a sound migration comes to. -/
theorem H3 {c:List Col} {ms:List Mov} (h:((Ct c ms).2 != 0)=false):Mr c ms=true∧(Dw c ms).2=0∧Ct c ms=(Cu c ms ms.length,0):=by
 cases hm:Mr c ms with
 | false=>rw [fm hm] at h;cases h
 | true =>
  by_cases he:(Dw c ms).2=0
  ·have e:=kj (uo he ms.length (Aj _))
   exact ⟨rfl,he,W5 hm e⟩
  rw [bo hm he] at h
  exact absurd (by simpa using h) he
/-! SoundJoins: one behind the other, in one. -/
/-! image: rows forth and back. -/
/-- image.reckon. -/
def Bf (c:List Col) (row:List Val):List Expr→List Val×Int
 | []=>([],0)
 | x::r=>if (En x c row).2 != 0 then ([],(En x c row).2) else if (Bf c row r).2 != 0 then ([],(Bf c row r).2) else ((En x c row).1::(Bf c row r).1,0)
theorem Ou {c:List Col} {row:List Val}:∀{l:List Expr},(∀(j:Nat) (y:Expr),l[j]? = some y→((En y c row).2 != 0)=false)→Bf c row l=(l.map (fun e=>(En e c row).1),0)
 | [],_=>rfl
 | x::r,h=>by
  rw [Bf,Ou (l:=r) (fun j y hy=>h (j+1) y hy),if_neg (by rw [h 0 x rfl];simp),if_neg (by simp)]
  rfl
theorem Ov {c:List Col} {row:List Val}:∀{l:List Expr} {x:Nat} {y:Expr},(∀(j:Nat) (z:Expr),j<x→l[j]? = some z→((En z c row).2 != 0)=false)→l[x]? = some y→((En y c row).2 != 0)=true→Bf c row l=([],(En y c row).2)
 | [],_,_,_,h,_=>by simp at h
 | a::r,0,y,_,h,h1=>by
  have:a=y:=by simpa using h
  subst this
  rw [Bf,if_pos h1]
 | a::r,x+1,y,h0,h,h1=>by
  rw [Bf,if_neg (by rw [h0 0 a (by omega) rfl];simp),Ov (l:=r) (x:=x) (fun j z hj hz=>h0 (j+1) z (by omega) hz) (by simpa using h) h1,if_pos h1]
theorem ABf {e:Expr} (h:E9 e=true):Nz e=true:=by
 unfold Nz
 rw [Zw] at h
 cases hk:(e.op==1) with
 | false=>rfl
 | true =>
  show Cg e.val=true
  have e1:e.op=1:=by simpa using hk
  cases e with
  | mk o t v k =>
   have e1:o=1:=e1
   subst e1
   rw [ak] at h
   simp at h
   exact h.1.1.1
mutual
theorem pg:∀e:Expr,Et E9 e=true→Et Nz e=true
 | .mk o t v k,h=>by
  rw [Jk,As] at h ⊢
  exact ⟨ABf h.1,fq k h.2⟩
theorem fq:∀k:List Expr,Jj E9 k=true→Jj Nz k=true
 | [],_=>rfl
 | e::r,h=>by
  rw [Jj,As] at h ⊢
  exact ⟨pg e h.1,fq r h.2⟩
end
theorem AGf {x:Expr} {c:List Col} {row:List Val} (hf:∀v∈row,Fine v) (hr:Et L5 x=true):Fine (En x c row).1:=by
 show Fine (wj B0 x c row).1
 unfold wj
 split
 ·exact N7
 rename_i h
 simp only [Co,Jc,not_or,gj] at h
 exact R0 hf x (pg x (Sz (by rw [←G5];exact h.1))) hr
theorem Qd {c:List Col} {row:List Val} (hf:∀v∈row,Fine v):∀{l:List Expr},(∀e∈l,Et L5 e=true)→∀v∈(Bf c row l).1,Fine v
 | [],_,v,h=>by cases h
 | x::r,hr,v,h=>by
  rw [Bf] at h
  split at h
  ·cases h
  split at h
  ·cases h
  rcases Bu.1 h with rfl|h
  ·exact AGf hf (hr x Lj)
  exact Qd hf (fun e he=>hr e (.tail _ he)) v h
theorem Ow {c:List Col} {row:List Val}:∀{l:List Expr},(Bf c row l).2=0→(Bf c row l).1.length=l.length
 | [],_=>rfl
 | x::r,h=>by
  rw [Bf] at h ⊢
  split at h
  ·rename_i h1
   rw [show (En x c row).2=0 from h] at h1
   cases h1
  rename_i h1
  rw [if_neg h1]
  split at h
  ·rename_i h2
   rw [show (Bf c row r).2=0 from h] at h2
   cases h2
  rename_i h2
  rw [if_neg h2]
  simp only [B6]
  rw [Ow (l:=r) (by simpa using h2)]
/-- What is not taken. -/
def Gj (take:List Str) (c:List Col) (row:List Val):List Val:=((c.zip row).filter fun p => !take.contains p.1.name).map (·.2)
theorem bq:∀{c:List Col} {row:List Val} {x:Nat} (hc:x<c.length) (hr:x<row.length),(c.take (x+1)).zip row=(c.take x).zip row++[(c[x],row[x])]
 | y::c,v::row,0,_,_=>by simp
 | y::c,v::row,x+1,hc,hr=>by
  simp only [List.take_succ_cons,List.zip_cons_cons,Fe,List.getElem_cons_succ]
  rw [bq (by simpa using hc) (by simpa using hr)]
 | [],_,_,hc,_=>by simp at hc
 | _::_,[],_,_,hr=>by simp at hr
theorem AK3 {take:List Str} {c:List Col} {row:List Val} {x:Nat} (hc:x<c.length) (hr:x<row.length) (h:take.contains c[x].name=false):Gj take (c.take (x+1)) row=Gj take (c.take x) row++[row[x]]:=by
 unfold Gj
 have hb:(fun p:Col×Val => !take.contains p.1.name) (c[x],row[x])=true:=by show (!take.contains c[x].name)=true;rw [h];rfl
 rw [bq hc hr,gn,C4,List.filter_cons_of_pos (p:=fun p:Col×Val => !take.contains p.1.name) hb]
 rfl
theorem AGg {take:List Str} {c:List Col} {row:List Val} {x:Nat} (hc:x<c.length) (hr:x<row.length) (h:take.contains c[x].name=true):Gj take (c.take (x+1)) row=Gj take (c.take x) row:=by
 unfold Gj
 have hb:¬(fun p:Col×Val => !take.contains p.1.name) (c[x],row[x])=true:=by show ¬(!take.contains c[x].name)=true;rw [h];simp
 rw [bq hc hr,gn,C4,List.filter_cons_of_neg (p:=fun p:Col×Val => !take.contains p.1.name) hb]
 simp
theorem Uf {take:List Str}:∀{c:List Col} {row:List Val},row.length=c.length→(Gj take c row).length=(Ch c take).length
 | [],[],_=>rfl
 | y::c,v::row,h=>by
  have ih:=Uf (take:=take) (c:=c) (row:=row) (by simpa using h)
  unfold Gj Ch at ih ⊢
  rw [List.zip_cons_cons,Pe,Pe]
  cases hc:take.contains y.name<;>simp [hc] at ih ⊢<;>exact ih
 | [],_::_,h=>by simp at h
 | _::_,[],h=>by simp at h
theorem AGh {take:List Str} {c:List Col} {row:List Val} {v:Val} (h:v∈Gj take c row):v∈row:=by
 unfold Gj at h
 obtain ⟨p,hp,rfl⟩:=D6.1 h
 exact (List.of_mem_zip (Qk.1 hp).1).2
/-- image.forth. -/
def E1 (c:List Col) (m:Mov) (row:List Val):List Val×Int:=if (Bf c row m.ahead).2 != 0 then ([],(Bf c row m.ahead).2) else (Gj m.take c row++(Bf c row m.ahead).1,0)
/-- What a column ahead was. -/
def Mx (take:List Str) (was row:List Val) (d:List Col) (x:Col):Val:=if 0≤H6 x.name take then was.getD (H6 x.name take).toNat noV else row.getD (Bn x.name d).toNat noV
/-- image.back. -/
def Cn (a d:List Col) (m:Mov) (row:List Val):List Val×Int:=if (Bf d row m.back).2 != 0 then ([],(Bf d row m.back).2) else (a.map (Mx m.take (Bf d row m.back).1 row d),0)
/-- The row behind k moves. -/
def fwM (c:List Col) (l:List Mov) (row:List Val):Nat→List Val×Int
 | 0=>(row,0)
 | k+1=>if (fwM c l row k).2 != 0 then ([],(fwM c l row k).2) else match l[k]? with
  | none=>fwM c l row k
  | some m=>E1 (colsAt c l k) m (fwM c l row k).1
/-- The row ahead of the last k moves. -/
def bkM (c:List Col) (l:List Mov) (row:List Val):Nat→List Val×Int
 | 0=>(row,0)
 | k+1=>if (bkM c l row k).2 != 0 then ([],(bkM c l row k).2) else match l[l.length-1-k]? with
  | none=>bkM c l row k
  | some m=>Cn (colsAt c l (l.length-1-k)) (colsAt c l (l.length-1-k+1)) m (bkM c l row k).1
/-- image.Forth. -/
def Cx (c:List Col) (l:List Mov) (row:List Val):List Val×Int:=if ((Ct c l).2 != 0) || !F9 c row then ([],1) else fwM c l row l.length
/-- image.Back. -/
def Ca (c:List Col) (l:List Mov) (row:List Val):List Val×Int:=if ((Ct c l).2 != 0) || !F9 (colsAt c l l.length) row then ([],1) else bkM c l row l.length
/-- image.Old. -/
def Rg (c:List Col) (l:List Mov) (row:List Val):List Val×Int:=if (Ca c l row).2 != 0 then ([],(Ca c l row).2) else if (Cx c l (Ca c l row).1).2 != 0 then ([],(Cx c l (Ca c l row).1).2) else if !decide ((Cx c l (Ca c l row).1).1=row) then ([],14) else ((Ca c l row).1,0)
/-- A row that may be walked: as long as its columns are many, its values fine. -/
structure RowI (c:List Col) (row:List Val):Prop where
 len:row.length=c.length
 fine:∀v∈row,Fine v
theorem Qe {c:List Col} {row:List Val} (h:F9 c row=true) (hr:∀v∈row, -9223372036854775808≤v.n∧v.n≤9223372036854775807):RowI c row:=by
 unfold F9 at h
 simp only [As,beq_iff_eq,B5] at h
 refine ⟨h.1.2,fun v hv=>⟨?_,(hr v hv).1,(hr v hv).2⟩⟩
 obtain ⟨j,hj,rfl⟩:=Qh hv
 have hj2:j<c.length:=by omega
 have:=h.2 (row[j],c[j]) (B3 (i:=j) (by rw [Rx];exact ⟨Aa hj,Aa hj2⟩))
 exact this.1
theorem W6 {c:List Col} {m:Mov} {row:List Val} (ht:(Bc c m).2=0) (hm:Fo m=true) (hg:∀e∈m.ahead,Et L5 e=true) (h:RowI c row) (hf:(E1 c m row).2=0):RowI (Bc c m).1 (E1 c m row).1:=by
 unfold E1 at hf ⊢
 split at hf
 ·rename_i h1
  rw [show (Bf c row m.ahead).2=0 from hf] at h1
  cases h1
 rename_i h1
 rw [if_neg h1]
 have hl:=Ow (c:=c) (row:=row) (l:=m.ahead) (by simpa using h1)
 refine ⟨?_,fun v hv=>?_⟩
 ·rw [(O3 ht).1,Ao,Ao,Uf h.len,hl,J9,(Ge (M5 hm)).1]
 rcases Eo.1 hv with h2|h2
 ·exact h.fine v (AGh h2)
 exact Qd h.fine hg v h2
theorem fu {row:List Val} (h:∀v∈row,Fine v) (n:Nat):Fine (row.getD n noV):=by
 rw [D4]
 cases hn:row[n]? with
 | none=>exact N7
 | some v=>exact h v (B3 hn)
theorem ph {a d:List Col} {m:Mov} {row:List Val} (hg:∀e∈m.back,Et L5 e=true) (h:RowI d row) (hf:(Cn a d m row).2=0):RowI a (Cn a d m row).1:=by
 unfold Cn at hf ⊢
 split at hf
 ·rename_i h1
  rw [show (Bf d row m.back).2=0 from hf] at h1
  cases h1
 rename_i h1
 rw [if_neg h1]
 refine ⟨Am _,fun v hv=>?_⟩
 obtain ⟨x,_,rfl⟩:=D6.1 hv
 unfold Mx
 split
 ·exact fu (Qd h.fine hg) _
 exact fu h.fine _
theorem Uh {c:List Col} {l:List Mov} {row:List Val} {k:Nat} {m:Mov} (hk:l[k]? = some m) (h:(fwM c l row k).2=0):fwM c l row (k+1)=E1 (colsAt c l k) m (fwM c l row k).1:=by
 rw [fwM,if_neg (by rw [h];simp),hk]
theorem Ui {c:List Col} {l:List Mov} {row:List Val} {k:Nat} {m:Mov} (hk:l[l.length-1-k]? = some m) (h:(bkM c l row k).2=0):bkM c l row (k+1)=Cn (colsAt c l (l.length-1-k)) (colsAt c l (l.length-1-k+1)) m (bkM c l row k).1:=by
 rw [bkM,if_neg (by rw [h];simp),hk]
theorem ko {c:List Col} {l:List Mov} {row:List Val} {k:Nat} (h:(fwM c l row k).2≠0):∀n,k<n→fwM c l row n=([],(fwM c l row k).2)
 | 0,hn=>by omega
 | n+1,hn=>by
  by_cases hk:k=n
  ·subst hk
   rw [fwM,if_pos (by simpa using h)]
  rw [fwM,ko h n (by omega),if_pos (by simpa using h)]
theorem kp {c:List Col} {l:List Mov} {row:List Val} {k:Nat} (h:(bkM c l row k).2≠0):∀n,k<n→bkM c l row n=([],(bkM c l row k).2)
 | 0,hn=>by omega
 | n+1,hn=>by
  by_cases hk:k=n
  ·subst hk
   rw [bkM,if_pos (by simpa using h)]
  rw [bkM,kp h n (by omega),if_pos (by simpa using h)]
theorem br {c:List Col} {m:Mov} {row:List Val} (h:(E1 c m row).2≠0):(E1 c m row).1=[]:=by
 unfold E1 at h ⊢
 split
 ·rfl
 rename_i h1
 rw [if_neg h1] at h
 exact absurd rfl h
theorem fw {a d:List Col} {m:Mov} {row:List Val} (h:(Cn a d m row).2≠0):(Cn a d m row).1=[]:=by
 unfold Cn at h ⊢
 split
 ·rfl
 rename_i h1
 rw [if_neg h1] at h
 exact absurd rfl h
/-- A failing move ends it. -/
theorem xa {c:List Col} {l:List Mov} {row:List Val} {k:Nat} {m:Mov} (hk:l[k]? = some m) (h:(fwM c l row k).2=0) (hb:(E1 (colsAt c l k) m (fwM c l row k).1).2≠0):fwM c l row l.length=([],(E1 (colsAt c l k) m (fwM c l row k).1).2):=by
 have e:=Uh hk h
 have hl:=(Ad.1 hk).1
 by_cases h1:k+1=l.length
 ·rw [←h1,e]
  exact N1 (br hb) rfl
 have:=ko (c:=c) (l:=l) (row:=row) (k:=k+1) (by rw [e];exact hb) l.length (by omega)
 rw [this,e]
theorem AK4 {c:List Col} {l:List Mov} {row:List Val} {k:Nat} {m:Mov} (hl:k<l.length) (hk:l[l.length-1-k]? = some m) (h:(bkM c l row k).2=0) (hb:(Cn (colsAt c l (l.length-1-k)) (colsAt c l (l.length-1-k+1)) m (bkM c l row k).1).2≠0):bkM c l row l.length=([],(Cn (colsAt c l (l.length-1-k)) (colsAt c l (l.length-1-k+1)) m (bkM c l row k).1).2):=by
 have e:=Ui hk h
 by_cases h1:k+1=l.length
 ·rw [h1] at e
  rw [e]
  exact N1 (fw hb) rfl
 have:=kp (c:=c) (l:=l) (row:=row) (k:=k+1) (by rw [e];exact hb) l.length (by omega)
 rw [this,e]
theorem Dc {n k:Nat} {o:Bool} {l:List Val}:Low n (.slice o k (l.map Bi)):=by simp [or_imp,forall_and]
theorem Hc {n k:Nat} {o:Bool} {l:List Val} {v:Val}:Low n (.slice o k (l.map Bi++[Bi v])):=by simp [or_imp,forall_and]
theorem pi {l:List Val} {j:Nat} (h:j<l.length):(l.map Bi)[j]? = some (Bi (l.getD j noV)):=by
 rw [Ce,Aa h,D4,Aa h];rfl
theorem bt {l:List Val} (h:∀v∈l,Fine v):∀v∈l, -9223372036854775808≤v.n∧v.n≤9223372036854775807:=fun v hv=>⟨(h v hv).lo,(h v hv).hi⟩
theorem fx {c:List Col} {row:List Val}:∀{l:List Expr},(Bf c row l).1.length≤l.length
 | []=>Aj _
 | x::r=>by
  rw [Bf]
  repeat' split
  ·exact ru
  ·exact ru
  have:=fx (c:=c) (row:=row) (l:=r)
  simp only [B6]
  omega
theorem xb {take:List Str} {c:List Col} {row:List Val}:(Gj take c row).length≤c.length:=by
 unfold Gj
 rw [Am]
 refine Ir (uz _ _) ?_
 rw [List.length_zip]
 omega
theorem Y2 {v:Str} {l:List Str} (h:0≤H6 v l):∃j:Nat,H6 v l=j∧j<l.length:=by
 unfold H6 at h ⊢
 cases hf:l.findIdx? (·==v) with
 | none=>rw [hf] at h;exact absurd h (by decide)
 | some i=>exact ⟨i,rfl,(Jy.1 hf).1⟩
theorem pj {nm:Str} {c:List Col} {y:Col} (h:y∈c) (hn:y.name=nm):∃j:Nat,Bn nm c=j∧j<c.length:=by
 unfold Bn
 cases hf:c.findIdx? (fun y=>y.name==nm) with
 | none =>
  rw [Rw] at hf
  have:=hf y h
  rw [hn] at this
  simp at this
 | some i=>exact ⟨i,rfl,(Jy.1 hf).1⟩
/-- A column that is not taken is there behind the move. -/
theorem AGi {c:List Col} {m:Mov} {y:Col} (ht:(Bc c m).2=0) (hy:y∈c) (hn:¬0≤H6 y.name m.take):∃j:Nat,Bn y.name (Bc c m).1=j∧j<(Bc c m).1.length:=by
 refine pj (y:=y) ?_ rfl
 rw [(O3 ht).1]
 refine Xk _ ?_
 unfold Ch
 rw [Qk]
 refine ⟨hy,?_⟩
 rw [←jn,decide_eq_false hn]
 rfl
theorem c26 (a b:List Val) (ha:a.length≤1048576) (Hp:List AObj):AFun Tryz.prog 26 [Br a,Br b] Hp (B4 (decide (a=b))):=by
 refine Ah [.tmp 4] [0,1] Tryz.func26 Tryz.ntmps26 (fun d=>?_)
 refine Z61 ?_;refine Oi ?_;refine A2 [0,1,10] ?_
 refine A3 (fun ht10=>?_) (fun ht10=>?_)
 ·refine Z89 ?_;exact AOx
 refine Nn ?_;refine A2 [0,1,12,13] ?_
 refine Az (α:=Nat) (fun x=>⟨26,A6 0 (Br a) (A6 1 (Br b) (A6 12 (A5 (a.length:Nat)) (A6 13 (A5 (x:Nat)) (fun _=>.any)))),Hp,[],[],none⟩) (fun x=>x≤a.length∧∀(j:Nat) (y:Val),j<x→a[j]? = some y→b[j]? = some y) (fun x=>a.length-x) (0) (by simp) (B2 (by simp)) rfl (fun x hx=>?_)
 refine Z2 ?_;refine A2 [0,1,12,13,14] ?_
 refine Ej (fun ht14=>?_) (fun ht14=>?_)
 ·have hlt:x<a.length:=by simpa using ht14
  have hlb:x<b.length:=by have:=AE6 ht10;omega
  refine Z18 ?_;refine Z1 ?_;refine A2 [0,1,5,12,13] ?_;refine ALs ?_
  refine Ak (h:=Ac (x) (Bi a[x]) (fun _=>Aw hlt)) (hr:=?_)
  refine Z40 ?_
  refine Ak (h:=Ac (x) (Bi b[x]) (fun _=>Aw hlb)) (hr:=?_)
  refine Sc ?_
  refine A4 (h:=Q.neqAgg Tt (Hn a[x].kind a[x].n b[x].kind b[x].n a[x].s b[x].s)) (hr:=?_)
  refine A2 [0,1,12,13,24] ?_
  refine A3 (fun ht24=>?_) (fun ht24=>?_)
  ·rw [Xu] at ht24
   refine Z89 ?_;refine Tp ?_;exact A8 (Ae A7) ⟨by rw [AR5 hlt hlb (by simpa using ht24)],rfl⟩
  rw [Xu] at ht24
  refine Nm ?_;refine A2 [0,1,12,13] ?_
  exact Ay (x+1) ⟨hlt,I1 (p:=fun j y=>b[j]? = some y) hlt hx.2 (by rw [Aa hlb];simpa using (Eq.symm (by simpa using ht24):b[x]=a[x]))⟩ (by omega) (Bh rfl)
 have hxe:a.length≤x:=by simpa using ht14
 refine Ts ?_;refine Z39 ?_;exact A8 (Ae A7) ⟨by rw [AKw (by simpa using ht10) (J5 hxe hx.2)],rfl⟩

theorem c23 (l:List Val) (hl:l.length≤1048576) (Hp:List AObj):AFun Tryz.prog 23 [Br l] Hp (Br l):=by
 refine Ah [.tmp 2] [0] Tryz.func23 Tryz.ntmps23 (fun d=>?_)
 refine rr ?_
 refine R.eqlNil jU (by kernel_rfl) (fun b hb=>?_)
 refine A2 [0,4] ?_
 refine A3 (fun ht4=>?_) (fun ht4=>?_)
 ·have hl0:l=[]:=by simpa using hb ht4
  subst hl0
  refine Z2 ?_;refine R.nilTmp 2 3 false ?_;refine Z3 ?_;exact AQ2
 refine Z4 ?_;refine Z84 ?_;refine A4 ?_
 refine Ee jU Tryz.type42 ?_ ?_ ?_
 ·simp [Tryz.t42];omega
 ·simp [Tryz.t42];omega
 refine Lr ?_;exact AQ7

theorem c44 (c:List Col) (hc:OkCols c) (row:List Val) (hf:∀v∈row,Fine v) (hrl:row.length≤1048576) (l:List Expr) (h:OkEs l) (Hp:List AObj):AFun Tryz.prog 44 [L8 l,An c,Br row] Hp (.tup [Br (Bf c row l).1,A5 (Bf c row l).2]):=by
 refine Ah [.tmp 6,.tmp 7] [0,1,2] Tryz.func44 Tryz.ntmps44 (fun d=>?_)
 refine yr ?_;refine Z2 ?_;refine rx ?_;refine Z74 ?_
 have hlen:=h.len
 refine S9 8 3 ?_;refine Z10 ?_;refine A2 [1,2,8,13,14,15] ?_
 refine Az (α:=Nat) (fun x=>⟨35,A6 1 (An c) (A6 2 (Br row) (A6 8 (.slice true 3 (((l.take x).map fun e=>(En e c row).1).map Bi)) (A6 13 (L8 l) (A6 14 (A5 (l.length:Nat)) (A6 15 (A5 (x:Nat)) (fun _=>.any)))))),Hp,[],[],none⟩) (fun x=>x≤l.length∧∀(j:Nat) (y:Expr),j<x→l[j]? = some y→((En y c row).2 != 0)=false) (fun x=>l.length-x) (0) ⟨Ap _,fun j y h=>by omega⟩ (B2 (by simp)) rfl (fun x hx=>?_)
 refine Z2 ?_;refine A2 [1,2,8,13,14,15,16] ?_
 refine Ej (fun ht16=>?_) (fun ht16=>?_)
 ·have hlt:x<l.length:=by simpa using ht16
  refine X6 ?_
  refine A4 (h:=Ac (x) (Ab l[x]) (fun _=>Aw hlt)) (hr:=?_)
  refine X9 ?_;refine A2 [1,2,8,10,13,14,15] ?_;refine Z19 ?_;refine A9 Tryz.call73 (c73 61 l[x] (h.ok _ (Av hlt)) (by decide) (h.rng _ (Av hlt)) c hc row hrl (bt hf) _) ?_;refine Ys ?_;refine A2 [1,2,8,11,12,13,14,15] ?_;refine Z8 ?_;refine A2 [1,2,8,11,12,13,14,15,27] ?_
  refine A3 (fun ht27=>?_) (fun ht27=>?_)
  ·have hm:=Ov hx.2 (Aa hlt) ht27
   refine lw ?_;refine Z13 ?_;exact AP2
  refine z9 ?_
  refine Ee jU Tryz.type42 ?_ ?_ ?_
  ·simp only [Am,Bx,Ao,B6,Bw,Tryz.t42];omega
  ·simp only [Am,Bx,Ao,B6,Bw,Tryz.t42];omega
  refine Lr ?_;refine A2 [1,2,8,13,14,15] ?_;refine iz ?_;refine A2 [1,2,8,13,14,15] ?_;refine Ay (x+1) ⟨hlt,C1 hlt hx.2 ht27⟩ (by omega) ?_
  rw [Kd hlt,C4,C5,Ef]
  exact Dq (own:=[]) (fun _=>.refl _) (by repeat (first|exact Bq|refine Bp (by first|exact Gf|exact Dc|exact Hc|exact Fg|exact Dj|exact Em|exact Low.ro _ Lw|(simp [or_imp,forall_and];done)) ?_)) (by simp) (by simp)
 have hxe:l.length≤x:=by simpa using ht16
 have hm:=Ou (c:=c) (row:=row) fun j y hy=>hx.2 j y (by have:=(Ad.1 hy).1;omega) hy
 rw [D9 hxe]
 refine Z26 ?_;refine rf ?_;refine Dd ?_;exact A8 (B1 A7 A7) ⟨by rw [hm],rfl⟩ (hlow:=by simpa using (Dc (n:=Hp.length) (k:=3) (o:=false) (l:=l.map fun e=>(En e c row).1)))

theorem c36 (c:List Col) (hc:OkCols c) (m:Mov) (h:OkMov m) (row:List Val) (hf:∀v∈row,Fine v) (hl:row.length=c.length) (Hp:List AObj):AFun Tryz.prog 36 [An c,Fv m,Br row] Hp (.tup [Br (E1 c m row).1,A5 (E1 c m row).2]):=by
 have hcl:=hc.len
 have hrk:=fx (c:=c) (row:=row) (l:=m.ahead)
 have hal:=h.ahead.len
 refine Ah [.tmp 6,.tmp 7] [0,1,2] Tryz.func36 Tryz.ntmps36 (fun d=>?_)
 refine Z19 ?_;refine A2 [0,2,4] ?_;refine Z25 ?_;refine A9 Tryz.call44 (c44 c hc row hf (by omega) m.ahead h.ahead _) ?_;refine Z63 ?_;refine A2 [0,2,4,8,9] ?_;refine Z8 ?_;refine A2 [0,2,4,8,9,22] ?_
 refine A3 (fun ht22=>?_) (fun ht22=>?_)
 ·have hm:E1 c m row=([],(Bf c row m.ahead).2):=if_pos ht22
  refine lw ?_;exact Z55
 have hm:E1 c m row=(Gj m.take c row++(Bf c row m.ahead).1,0):=if_neg (by rw [ht22];simp)
 refine Z92 ?_;refine A2 [0,2,4,8,10] ?_;refine Z74 ?_;refine S9 10 3 ?_;refine Z10 ?_;refine A2 [2,4,8,10,24,25,26] ?_
 refine Az (α:=Nat) (fun x=>⟨48,A6 2 (Br row) (A6 4 (.ro (Nj m)) (A6 8 (Br (Bf c row m.ahead).1) (A6 10 (.slice true 3 ((Gj m.take (c.take x) row).map Bi)) (A6 24 (An c) (A6 25 (A5 (c.length:Nat)) (A6 26 (A5 (x:Nat)) (fun _=>.any))))))),Hp,[],[],none⟩) (fun x=>x≤c.length) (fun x=>c.length-x) (0) (Ap _) (B2 (by simp [Gj])) rfl (fun x hx=>?_)
 refine Z2 ?_;refine A2 [2,4,8,10,24,25,26,27] ?_
 refine Ej (fun ht27=>?_) (fun ht27=>?_)
 ·have hlt:x<c.length:=by simpa using ht27
  have hxr:x<row.length:=by omega
  have hkl:=xb (take:=m.take) (c:=c.take x) (row:=row)
  rw [Bx] at hkl
  refine Tr ?_
  refine A4 (h:=Ac (x) (Bj c[x]) (fun _=>Aw hlt)) (hr:=?_)
  refine rl ?_;refine A2 [2,4,8,10,11,12,24,25,26] ?_;refine Z25 ?_;refine A9 Tryz.call61 (c61 m.take c[x].name h.takes _) ?_;refine A4 ?_;refine A2 [2,4,8,10,11,24,25,26,36] ?_
  refine A3 (fun ht36=>?_) (fun ht36=>?_)
  ·have hk:=AK3 hlt hxr (by simpa using ht36)
   refine Z91 ?_;refine Z0 ?_
   refine A4 (h:=Ac (x) (Bi row[x]) (fun _=>Aw hxr)) (hr:=?_)
   refine Z54 ?_
   refine Ee jU Tryz.type42 ?_ ?_ ?_
   ·simp only [Am,Bx,Ao,B6,Bw,Tryz.t42];omega
   ·simp only [Am,Bx,Ao,B6,Bw,Tryz.t42];omega
   refine Lr ?_;refine A2 [2,4,8,10,24,25,26] ?_;refine iz ?_;refine A2 [2,4,8,10,24,25,26] ?_;refine ADq ?_
   simp only [hk,C4,C5,Ef]
   exact Dq (own:=[]) (fun _=>.refl _) (by repeat (first|exact Bq|refine Bp (by first|exact Gf|exact Dc|exact Hc|exact Fg|exact Dj|exact Em|exact Low.ro _ Lw|(simp [or_imp,forall_and];done)) ?_)) (by simp) (by simp)
  have hk:=AGg hlt hxr (by simpa using ht36)
  refine Nm ?_;refine A2 [2,4,8,10,24,25,26] ?_;refine ADq ?_
  simp only [hk,C4,C5,Ef]
  exact Dq (own:=[]) (fun _=>.refl _) (by repeat (first|exact Bq|refine Bp (by first|exact Gf|exact Dc|exact Hc|exact Fg|exact Dj|exact Em|exact Low.ro _ Lw|(simp [or_imp,forall_and];done)) ?_)) (by simp) (by simp)
 have hxe:c.length≤x:=by simpa using ht27
 rw [D9 hxe]
 have hkl:=xb (take:=m.take) (c:=c) (row:=row)
 refine Z26 ?_;refine Ec ?_;refine R.moveT ?_;refine A4 ?_
 refine Ee jU Tryz.type42 ?_ ?_ ?_
 ·simp only [Am,Bx,Ao,B6,Bw,Tryz.t42];omega
 ·simp only [Am,Bx,Ao,B6,Bw,Tryz.t42];omega
 refine Lr ?_;refine Z60 ?_;refine Dd ?_;exact A8 (B1 A7 A7) ⟨by rw [hm,←C4]<;>rfl,rfl⟩ (hlow:=by rw [←C4];simpa using (Dc (n:=Hp.length) (k:=3) (o:=false) (l:=Gj m.take c row++(Bf c row m.ahead).1)))

theorem c25 (a dd:List Col) (ha:a.length≤1048576) (hd:OkCols dd) (m:Mov) (h:OkMov m) (hb:m.back.length=m.take.length) (hs:∀y∈a,¬0≤H6 y.name m.take→∃j:Nat,Bn y.name dd=j∧j<dd.length) (row:List Val) (hf:∀v∈row,Fine v) (hl:row.length=dd.length) (Hp:List AObj):AFun Tryz.prog 25 [An a,An dd,Fv m,Br row] Hp (.tup [Br (Cn a dd m row).1,A5 (Cn a dd m row).2]):=by
 have hdl:=hd.len
 refine Ah [.tmp 8,.tmp 9] [0,1,2,3] Tryz.func25 Tryz.ntmps25 (fun d=>?_)
 refine Z19 ?_;refine A2 [0,1,3,6] ?_;refine Z25 ?_;refine A9 Tryz.call44 (c44 dd hd row hf (by omega) m.back h.back _) ?_;refine Z63 ?_;refine A2 [0,1,3,6,10,11] ?_;refine Z8 ?_;refine A2 [0,1,3,6,10,11,25] ?_
 refine A3 (fun ht25=>?_) (fun ht25=>?_)
 ·have hm:Cn a dd m row=([],(Bf dd row m.back).2):=if_pos ht25
  refine Z1 ?_;refine R.nilTmp 8 3 false ?_;refine A4 ?_;refine A2 [8,9] ?_;exact Z55
 have hm:Cn a dd m row=((a.map (Mx m.take (Bf dd row m.back).1 row dd)),0):=if_neg (by rw [ht25];simp)
 have hwl:=Ow (c:=dd) (row:=row) (l:=m.back) (by simpa using ht25)
 refine Z92 ?_;refine A2 [0,1,3,6,10,12] ?_;refine Z74 ?_;refine S9 12 3 ?_;refine Z10 ?_;refine ADw ?_
 refine Az (α:=Nat) (fun x=>⟨59,A6 1 (An dd) (A6 3 (Br row) (A6 6 (.ro (Nj m)) (A6 10 (Br (Bf dd row m.back).1) (A6 12 (.slice true 3 (((a.map (Mx m.take (Bf dd row m.back).1 row dd)).take x).map Bi)) (A6 27 (An a) (A6 28 (A5 (a.length:Nat)) (A6 29 (A5 (x:Nat)) (fun _=>.any)))))))),Hp,[],[],none⟩) (fun x=>x≤a.length) (fun x=>a.length-x) (0) (Ap _) (B2 (by simp)) rfl (fun x hx=>?_)
 refine Z2 ?_;refine A2 [1,3,6,10,12,27,28,29,30] ?_
 refine Ej (fun ht30=>?_) (fun ht30=>?_)
 ·have hlt:x<a.length:=by simpa using ht30
  have hol:((a.map (Mx m.take (Bf dd row m.back).1 row dd)).take x).length≤x:=List.length_take_le _ _
  have hon:(a.map (Mx m.take (Bf dd row m.back).1 row dd)).take (x+1)=(a.map (Mx m.take (Bf dd row m.back).1 row dd)).take x++[Mx m.take (Bf dd row m.back).1 row dd a[x]]:=by
   rw [Ip (by rw [Am];exact hlt),Li]
  refine X6 ?_
  refine A4 (h:=Ac (x) (Bj a[x]) (fun _=>Aw hlt)) (hr:=?_)
  refine X9 ?_;refine A2 [1,3,6,10,12,14,27,28,29] ?_;refine Z50 ?_;refine A9 Tryz.call45 (c45 m.take a[x].name h.takes _) ?_;refine A4 ?_;refine A2 [1,3,6,10,12,14,15,27,28,29] ?_;refine Z1 ?_;refine A2 [1,3,6,10,12,14,15,27,28,29,39] ?_
  refine A3 (fun ht39=>?_) (fun ht39=>?_)
  ·have hj0:0≤H6 a[x].name m.take:=by simpa using ht39
   obtain ⟨j,hj,hjl⟩:=Y2 hj0
   have hw:Mx m.take (Bf dd row m.back).1 row dd a[x]=(Bf dd row m.back).1.getD j noV:=by unfold Mx;rw [if_pos hj0,hj];rfl
   refine Ec ?_;refine R.moveT ?_;refine Z0 ?_
   refine A4 (h:=Ac (j) (Bi ((Bf dd row m.back).1.getD j noV)) (fun _=>pi (by omega))) (hr:=?_)
   refine Z54 ?_
   refine Ee jU Tryz.type42 ?_ ?_ ?_
   ·simp only [Am,Bx,Ao,B6,Bw,Tryz.t42];omega
   ·simp only [Am,Bx,Ao,B6,Bw,Tryz.t42];omega
   refine Lr ?_;refine ADw ?_;refine Z32 ?_;refine K.blE ?_;refine Es ?_;refine Z31 ?_;refine ADw ?_;refine ADq ?_
   rw [hon,hw,C4,C5,Ef]
   exact Dq (own:=[]) (fun _=>.refl _) (by repeat (first|exact Bq|refine Bp (by first|exact Gf|exact Dc|exact Hc|exact Fg|exact Dj|exact Em|exact Low.ro _ Lw|(simp [or_imp,forall_and];done)) ?_)) (by simp) (by simp)
  have hjn:¬0≤H6 a[x].name m.take:=by simpa using ht39
  obtain ⟨j,hj,hjl⟩:=hs a[x] (Av hlt) hjn
  have hw:Mx m.take (Bf dd row m.back).1 row dd a[x]=row.getD j noV:=by unfold Mx;rw [if_neg hjn,hj];rfl
  refine AM4 ?_;refine Z70 ?_;refine A9 Tryz.call46 (c46 dd hd a[x].name _) ?_
  refine A4 (h:=Ac (j) (Bi (row.getD j noV)) (fun _=>pi (by omega))) (hr:=?_)
  refine Z54 ?_
  refine Ee jU Tryz.type42 ?_ ?_ ?_
  ·simp only [Am,Bx,Ao,B6,Bw,Tryz.t42];omega
  ·simp only [Am,Bx,Ao,B6,Bw,Tryz.t42];omega
  refine Lr ?_;refine ADw ?_;refine iz ?_;refine ADw ?_;refine ADq ?_
  rw [hon,hw,C4,C5,Ef]
  exact Dq (own:=[]) (fun _=>.refl _) (by repeat (first|exact Bq|refine Bp (by first|exact Gf|exact Dc|exact Hc|exact Fg|exact Dj|exact Em|exact Low.ro _ Lw|(simp [or_imp,forall_and];done)) ?_)) (by simp) (by simp)
 have hxe:a.length≤x:=by simpa using ht30
 rw [D9 (by rw [Am];exact hxe)]
 refine Z26 ?_;refine Z19 ?_;refine A2 [8,9] ?_;refine Dd ?_;exact A8 (B1 A7 A7) ⟨by rw [hm],rfl⟩ (hlow:=by simpa using (Dc (n:=Hp.length) (k:=3) (o:=false) (l:=(a.map (Mx m.take (Bf dd row m.back).1 row dd)))))

theorem O4 {ks:List Expr} {i:Nat} (h:i<ks.length):(ks.map Ab)[i]? = some (Ab (ks.getD i At)):=by
 rw [Ce,Aa h,D4,Aa h]
 rfl
theorem AK5 (v:Val) (k n:Int) (s:Str):(v.kind==k&&v.n==n&&v.s==s)=(v==⟨k,n,s⟩):=by
 obtain ⟨a,b,c⟩:=v
 rw [N9]
 simp [Val.mk.injEq,and_assoc]
theorem Y3 (v s:Val):(v.kind==s.kind&&v.n==s.n&&v.s==s.s)=(v==s):=AK5 v s.kind s.n s.s
theorem AK6 {x:Expr} (k6:x.op=6→Cc x.text=(x.kids.length:Int)) (h:(x.op==6)=true) (ht:(x.text==P9)=true):1<x.kids.length:=by
 have e:=eq_of_beq ht
 rcases Kb (k6 (eq_of_beq h)) with ⟨q,_⟩|⟨q,_⟩|⟨q,_⟩|⟨q,_⟩|⟨_,q⟩|⟨q,_⟩|⟨q,_⟩|⟨q,_⟩
 all_goals first|omega|(rw [e] at q;exact absurd q (by decide))
theorem ANr {x:Expr} (k6:x.op=6→Cc x.text=(x.kids.length:Int)) (h:(x.op==6)=true) (ht:(x.text==ifW)=true):2<x.kids.length:=by
 have e:=eq_of_beq ht
 rcases Kb (k6 (eq_of_beq h)) with ⟨q,_⟩|⟨q,_⟩|⟨q,_⟩|⟨q,_⟩|⟨q,_⟩|⟨q,_⟩|⟨q,_⟩|⟨_,q⟩
 all_goals first|omega|(rw [e] at q;exact absurd q (by decide))
theorem AGj {l:List Val} {i:Nat} (h:i<l.length):(l.map Bi)[i]? = some (Bi (l.getD i noV)):=by
 rw [Ce,Aa h,D4,Aa h]
 rfl
/-- What the second kid comes to. -/
def bR (c:List Col) (l:List Val) (x:Expr):Val:=if x.kids.length=2 then (Al c l (x.kids.getD 1 At)).1 else ⟨9,0,[]⟩
theorem ABg (n:Int) (k:Nat):∃m:Nat,Oq n (k:Int)=(m:Int)∧m≤k:=by
 unfold Oq
 split
 ·exact ⟨0,rfl,Ap _⟩
 split
 ·rename_i h h2
  simp at h h2
  exact ⟨n.toNat,by omega,by omega⟩
 exact ⟨k,rfl,Aj _⟩




set_option maxHeartbeats 8000000 in
theorem c32 (c:List Col) (l:List Val) (hc:OkCols c) (hl:l.length=c.length) (hf:∀v∈l,Fine v):∀(n:Nat) (x:Expr),okE n x→Et E9 x=true→Et L5 x=true→∀Hp:List AObj,AFun Tryz.prog 32 [Ab x,An c,Br l] Hp (Q6 (Al c l x)):=by
 intro n
 induction n with
 | zero=>exact fun x h=>h.elim
 | succ n ih =>
 intro x hok hnode hrng Hp
 have hn0:=hnode
 have hr0:=hrng
 rw [Jk,As] at hn0 hr0
 have hev:∀y∈x.kids,∀Hp:List AObj,AFun Tryz.prog 32 [Ab y,An c,Br l] Hp (Q6 (Al c l y)):=fun y hy=>ih y (hok.2.2 y hy) ((F3 _ _).1 hn0.2 y hy) ((F3 _ _).1 hr0.2 y hy)
 have hfe:∀y∈x.kids,Fine (Al c l y).1∧Mp (Al c l y):=fun y hy=>⟨R0 hf y (k7 y ((F3 _ _).1 hn0.2 y hy)) ((F3 _ _).1 hr0.2 y hy),b8 c l _ y (Aj _)⟩
 obtain ⟨k5,k34,k6,kall⟩:=Vy hn0.1
 have hev0:Al c l x=J8 B0 c l x.op x.text x.val (x.kids.map (Al c l)):=U6 _ _ _ _
 refine Ah [.cell 6 42,.tmp 7] [0,1,2] Tryz.func32 Tryz.ntmps32 (fun d=>?_)
 refine Z2 ?_;refine Z80 ?_;refine A2 [1,2,3,6] ?_;refine Z34 ?_;refine Z20 ?_;refine A2 [1,2,3,6,8] ?_;refine Z18 ?_;refine Z25 ?_;refine A2 [1,2,3,6,8,23] ?_
 refine A3 (fun ht23=>?_) (fun ht23=>?_)
 ·have hm:Al c l x=(x.val,0):=by rw [hev0];unfold J8;rw [if_pos ht23]
  refine Z1 ?_;refine Z27 ?_;exact Z24
 refine Z25 ?_;refine A2 [1,2,3,6,8,29] ?_
 refine A3 (fun ht29=>?_) (fun ht29=>?_)
 ·have hm0:Al c l x=Lf c l x.text:=by rw [hev0];unfold J8;rw [if_neg (by rw [ht23];simp),if_pos ht29]
  refine Z19 ?_;refine A9 Tryz.call33 (c33 c hc x.text _) ?_;refine A4 ?_;refine A2 [2,6,8,9] ?_;refine Z8 ?_;refine A2 [2,6,8,9,38] ?_
  refine A3 (fun ht38=>?_) (fun ht38=>?_)
  ·have hm:Al c l x=(noV,9):=by rw [hm0];exact if_pos (by simpa using ht38)
   refine za ?_;exact AOv
  have hnn:¬Bn x.text c<0:=by simpa using ht38
  obtain ⟨j,hj,hjc⟩:=Jm hnn
  have hm:Al c l x=(l.getD j noV,0):=by
   rw [hm0]
   unfold Lf
   rw [if_neg hnn,hj]
   rfl
  rw [hj]
  refine Lq ?_
  refine A4 (h:=Ac (j) (Bi (l.getD j noV)) (fun _=>AGj (by omega))) (hr:=?_)
  refine A4 ?_;refine Z27 ?_;exact Z24
 have href:=ANh hn0.1 hfe ht23 ht29
 clear hev0
 simp only [Ka,AFu,ifW,P9,C6,orW,Rc] at href
 have hk0:0<x.kids.length:=by
  simp only [beq_eq_false_iff_ne,ne_eq] at ht23 ht29
  rcases kall with h|h|h|h|h|h
  ·exact absurd h ht23
  ·exact absurd h ht29
  ·have:=k34 (.inl h);omega
  ·have:=k34 (.inr h);omega
  ·have:=k5 h;omega
  have:=k6 h
  rcases Kb this with ⟨_,e⟩|⟨_,e⟩|⟨_,e⟩|⟨_,e⟩|⟨_,e⟩|⟨_,e⟩|⟨_,e⟩|⟨_,e⟩<;>omega
 have fa:=(hfe _ (R7 hk0)).1
 refine j6 ?_
 refine A4 (h:=Ac (0) (Ab (x.kids.getD 0 At)) (fun _=>O4 hk0)) (hr:=?_)
 refine Z10 ?_;refine A9 Tryz.call32 (hev (x.kids.getD 0 At) (R7 hk0) _) ?_;refine Ys ?_;refine A2 [1,2,3,6,8,10,11] ?_;refine Z8 ?_;refine A2 [1,2,3,6,8,10,11,55] ?_
 refine A3 (fun ht55=>?_) (fun ht55=>?_)
 ·refine Z1 ?_;refine Z64 ?_
  try simp only [*,Ag,C8,D3,↓reduceIte] at href
  exact Jb
 refine Yt ?_;refine Z94 ?_;refine A2 [1,2,3,6,8,10,12] ?_;refine Z8 ?_;refine Z44 ?_;refine Pw ?_;refine Z97 ?_;refine A2 [1,2,3,6,8,10,12,78] ?_
 refine A3 (fun ht78=>?_) (fun ht78=>?_)
 ·have hk2l:x.kids.length=2:=k5 (by simp only [As,beq_iff_eq] at ht78;exact ht78.1)
  refine Z19 ?_;refine A9 Tryz.call52 (c52 _ _) ?_;refine Z20 ?_;refine A2 [1,2,3,6,8,10,12,13] ?_;refine Z8 ?_;refine A2 [1,2,3,6,8,10,13,84] ?_
  refine A3 (fun ht84=>?_) (fun ht84=>?_)
  ·refine ls ?_
   try simp only [*,Ag,C8,D3,↓reduceIte] at href
   exact Jb
  refine Xd ?_
  refine A4 (h:=Oc Tt (fun w=>Hn (Al c l (x.kids.getD 0 At)).1.kind (Al c l (x.kids.getD 0 At)).1.n (E4 (x.text==[111,114])).kind (E4 (x.text==[111,114])).n (Al c l (x.kids.getD 0 At)).1.s (E4 (x.text==[111,114])).s w)) (hr:=?_)
  refine A2 [1,2,3,6,8,10,13,88] ?_
  refine A3 (fun ht88=>?_) (fun ht88=>?_)
  ·rw [Y3] at ht88
   refine ls ?_
   try simp only [*,Ag,C8,D3,↓reduceIte] at href
   exact Jb
  rw [Y3] at ht88
  refine Lq ?_
  refine A4 (h:=Ac (1) (Ab (x.kids.getD 1 At)) (fun _=>O4 (by omega))) (hr:=?_)
  refine Z10 ?_;refine A9 Tryz.call32 (hev (x.kids.getD 1 At) (R7 (by omega)) _) ?_;refine Ys ?_;refine A2 [3,6,8,10,13,14,15] ?_;refine Z8 ?_;refine A2 [3,6,8,10,13,14,15,101] ?_
  refine A3 (fun ht101=>?_) (fun ht101=>?_)
  ·refine Z1 ?_;refine yp ?_
   try simp only [*,Ag,C8,D3,↓reduceIte] at href
   exact Jb
  refine ma ?_;refine Oh ?_;refine A2 [3,6,8,10,13,14,111] ?_
  refine A3 (fun ht111=>?_) (fun ht111=>?_)
  ·refine ls ?_
   try simp only [*,Ag,C8,D3,↓reduceIte] at href
   exact Jb
  refine Xd ?_
  refine A4 (h:=Oc Tt (fun w=>Hn (Al c l (x.kids.getD 1 At)).1.kind (Al c l (x.kids.getD 1 At)).1.n (E4 (x.text==[111,114])).kind (E4 (x.text==[111,114])).n (Al c l (x.kids.getD 1 At)).1.s (E4 (x.text==[111,114])).s w)) (hr:=?_)
  refine A2 [3,6,8,10,14,115] ?_
  refine A3 (fun ht115=>?_) (fun ht115=>?_)
  ·rw [Y3] at ht115
   refine ls ?_
   try simp only [*,Ag,C8,D3,↓reduceIte] at href
   exact Jb
  rw [Y3] at ht115
  refine ma ?_;refine Oh ?_;refine A2 [3,6,8,124] ?_
  refine A3 (fun ht124=>?_) (fun ht124=>?_)
  ·refine ls ?_
   try simp only [*,Ag,C8,D3,↓reduceIte] at href
   exact Jb
  refine No ?_;refine AM9 ?_
  try simp only [*,Ag,C8,D3,↓reduceIte] at href
  exact Jb
 have h78:(x.op==5)=true→((x.text==[111,114]) || (x.text==[97,110,100]))=false:=fun h=>by rw [h] at ht78;exact ht78
 refine Z4 ?_
 refine W.joinP ⟨316,A6 1 (An c) (A6 2 (Br l) (A6 3 (.ro (Dz x)) (A6 6 (.ptr (oid Hp.length 0) 0) (A6 8 (.ptr (oid Hp.length 1) 0) (A6 10 (.ptr (oid Hp.length 2) 0) (fun _=>.any)))))),Hp,[.cells 42 [A5 0,A5 0,Af []],.cells 42 [A5 0,A5 0,Af []],.cells 42 [A5 (Al c l (x.kids.getD 0 At)).1.kind,A5 (Al c l (x.kids.getD 0 At)).1.n,Af (Al c l (x.kids.getD 0 At)).1.s]],[],none⟩ (Al c l x=AAw (x.kids.length:Int) x.op x.text (Al c l (x.kids.getD 0 At)).1 (Al c l (x.kids.getD 1 At))) ?_ (fun hQ=>?_)
 ·refine Z19 ?_;refine A2 [1,2,3,6,8,10,12,132] ?_
  refine A3 (fun ht132=>?_) (fun ht132=>?_)
  ·refine Z1 ?_;refine A2 [1,2,3,6,8,10,12,134] ?_;refine P8 ?_;refine A2 [1,2,3,6,8,10,12,134,135] ?_
   refine A3 (fun ht135=>?_) (fun ht135=>?_)
   ·refine Z19 ?_;refine APr ?_
    try simp only [*,Ag,C8,D3,↓reduceIte] at href
    exact Jb
   refine Z1 ?_;refine A2 [1,2,3,6,8,10,12,134,141] ?_
   refine A3 (fun ht141=>?_) (fun ht141=>?_)
   ·have hk1:1<x.kids.length:=AK6 k6 ht132 ht141
    refine Z33 ?_;refine A2 [1,2,3,6,10,145] ?_
    refine A3 (fun ht145=>?_) (fun ht145=>?_)
    ·refine za ?_;refine Z6 ?_
     try simp only [*,Ag,C8,D3,↓reduceIte] at href
     exact Jb
    refine Lq ?_
    refine A4 (h:=Ac (1) (Ab (x.kids.getD 1 At)) (fun _=>O4 hk1)) (hr:=?_)
    refine ALw ?_;refine lq ?_;refine Z21 ?_
    try simp only [*,Ag,C8,D3,↓reduceIte] at href
    exact Jb
   refine Z1 ?_;refine A2 [1,2,3,6,8,10,12,156] ?_
   refine A3 (fun ht156=>?_) (fun ht156=>?_)
   ·have hk2:2<x.kids.length:=ANr k6 ht132 ht156
    have hk1:1<x.kids.length:=by omega
    refine Z8 ?_;refine A2 [1,2,3,6,8,10,159] ?_
    refine A3 (fun ht159=>?_) (fun ht159=>?_)
    ·refine za ?_;refine Z6 ?_
     try simp only [*,Ag,C8,D3,↓reduceIte] at href
     exact Jb
    refine Nn ?_;refine A2 [1,2,3,6,163] ?_
    refine A3 (fun ht163=>?_) (fun ht163=>?_)
    ·refine Z1 ?_
     refine A4 (h:=Ac (1) (Ab (x.kids.getD 1 At)) (fun _=>O4 hk1)) (hr:=?_)
     refine ALw ?_;refine Z0 ?_;refine Z64 ?_;refine Z6 ?_
     try simp only [*,Ag,C8,D3,↓reduceIte] at href
     exact Jb
    refine Lq ?_
    refine A4 (h:=Ac (2) (Ab (x.kids.getD 2 At)) (fun _=>O4 hk2)) (hr:=?_)
    refine Z10 ?_;refine A9 Tryz.call32 (hev (x.kids.getD 2 At) (R7 hk2) _) ?_;refine lq ?_;refine Z21 ?_
    try simp only [*,Ag,C8,D3,↓reduceIte] at href
    exact Jb
   refine Hh [1,2,3,6,8,10] ?_;refine ADi ?_
   refine K.thJP ?_ ?_
   ·exact B2 rfl
   simp only [*,Ag,C8,D3,↓reduceIte] at href
   exact href
  refine Hh [1,2,3,6,8,10] ?_;refine Je ?_
  refine K.thJP ?_ ?_
  ·exact B2 rfl
  simp only [*,Ag,C8,D3,↓reduceIte] at href
  exact href
 clear href
 refine Z34 ?_;refine Z20 ?_;refine A2 [1,2,3,6,8,10,16] ?_
 refine W.joinC ⟨316,A6 3 (.ro (Dz x)) (A6 6 (.ptr (oid Hp.length 0) 0) (A6 8 (.ptr (oid Hp.length 1) 0) (A6 10 (.ptr (oid Hp.length 2) 0) (A6 16 (.ptr (oid Hp.length 3) 0) (fun _=>.any))))),Hp,[.cells 42 [A5 0,A5 0,Af []],.cells 42 [A5 0,A5 0,Af []],.cells 42 [A5 (Al c l (x.kids.getD 0 At)).1.kind,A5 (Al c l (x.kids.getD 0 At)).1.n,Af (Al c l (x.kids.getD 0 At)).1.s],.cells 42 [A5 (bR c l x).kind,A5 (bR c l x).n,Af (bR c l x).s]],[],none⟩ (Al c l x=Sw x.op x.text (Al c l (x.kids.getD 0 At)).1 (bR c l x)) ?_ (fun hQ2=>?_)
 ·refine Z25 ?_;refine A2 [1,2,3,6,8,10,16,186] ?_
  refine A3 (fun ht186=>?_) (fun ht186=>?_)
  ·rw [Am] at ht186
   have hk2:x.kids.length=2:=by simp only [beq_iff_eq] at ht186;omega
   have hk1:1<x.kids.length:=by omega
   have hB:(bR c l x)=(Al c l (x.kids.getD 1 At)).1:=if_pos hk2
   refine Z1 ?_
   refine A4 (h:=Ac (1) (Ab (x.kids.getD 1 At)) (fun _=>O4 hk1)) (hr:=?_)
   refine ALw ?_;refine Ys ?_;refine A2 [3,6,8,10,16,17,18] ?_;refine Z8 ?_;refine A2 [3,6,8,10,16,17,18,198] ?_
   refine A3 (fun ht198=>?_) (fun ht198=>?_)
   ·have href:Al c l x=(noV,(Al c l (x.kids.getD 1 At)).2):=by rw [hQ];unfold AAw;rw [if_pos ht186,if_pos ht198]
    clear hQ
    refine Z1 ?_;refine yp ?_
    try simp only [*,Ag,C8,D3,↓reduceIte] at href
    exact Jb
   refine Z4 ?_;refine Z52 ?_;refine Gc ?_;refine A2 [3,6,8,10,16] ?_
   refine K.thJC ?_ ?_
   ·rw [hB]
    exact Dq (own:=[.cells 42 [A5 0,A5 0,Af []],.cells 42 [A5 0,A5 0,Af []],.cells 42 [A5 (Al c l (x.kids.getD 0 At)).1.kind,A5 (Al c l (x.kids.getD 0 At)).1.n,Af (Al c l (x.kids.getD 0 At)).1.s],.cells 42 [A5 (Al c l (x.kids.getD 1 At)).1.kind,A5 (Al c l (x.kids.getD 1 At)).1.n,Af (Al c l (x.kids.getD 1 At)).1.s]]) (fun _=>.refl _) (by repeat (first|exact Bq|refine Bp (by first|exact Dj|(simp [oid,or_imp,forall_and,B7];done)) ?_)) (by simp [ObjLow,or_imp,forall_and]) (by simp)
   rw [hB,hQ]
   unfold AAw
   first|rw [if_pos ht186,if_neg (by rw [ht198];simp)]|rw [if_neg (by rw [ht186];simp)]
  rw [Am] at ht186
  have hB:(bR c l x)=⟨9,0,[]⟩:=if_neg (by simp only [beq_eq_false_iff_ne] at ht186;omega)
  refine Hh [3,6,8,10,16] ?_;refine Je ?_
  refine K.thJC ?_ ?_
  ·rw [hB]
   exact Bh rfl
  rw [hB,hQ]
  unfold AAw
  first|rw [if_pos ht186,if_neg (by rw [ht198];simp)]|rw [if_neg (by rw [ht186];simp)]
 have href:=hQ2
 clear hQ hQ2
 simp only [Sw,de,Rd,Re,Rf] at href
 refine Z50 ?_;refine Oh ?_;refine A2 [3,6,8,10,16,209] ?_
 refine A3 (fun ht209=>?_) (fun ht209=>?_)
 ·refine za ?_
  try simp only [*,Ag,C8,D3,↓reduceIte] at href
  exact Jb
 refine Nn ?_;refine A2 [3,6,8,10,16,213] ?_
 refine A3 (fun ht213=>?_) (fun ht213=>?_)
 ·have hk2:x.kids.length=2:=k5 (eq_of_beq ht213)
  have hk1:1<x.kids.length:=by omega
  have fb:Fine (bR c l x):=by rw [show (bR c l x)=(Al c l (x.kids.getD 1 At)).1 from if_pos hk2];exact (hfe _ (R7 hk1)).1
  have h79:=h78 ht213
  refine Z25 ?_
  refine A9 Tryz.call53 (c53 x.text (Al c l (x.kids.getD 0 At)).1 (bR c l x) fa fb (by have:=fa.len;omega) (by have:=fb.len;omega) _) ?_
  refine Z0 ?_;refine Z64 ?_
  try simp only [*,Ag,C8,D3,↓reduceIte,h79,Dm] at href
  exact Jb
 refine Nn ?_;refine A2 [3,6,8,10,16,223] ?_
 refine A3 (fun ht223=>?_) (fun ht223=>?_)
 ·refine Z33 ?_;refine A2 [6,8,10,226] ?_
  refine A3 (fun ht226=>?_) (fun ht226=>?_)
  ·refine ls ?_
   try simp only [*,Ag,C8,D3,↓reduceIte] at href
   exact Jb
  refine Lq ?_;refine A9 Tryz.call56 (AAh (Al c l (x.kids.getD 0 At)).1.n fa.lo fa.hi _) ?_;refine A9 Tryz.call55 (c55 _ _ _) ?_;refine A9 Tryz.call54 (c54 _ _ (AN5 fa.lo fa.hi).1 _) ?_;refine Z0 ?_;refine Z64 ?_
  try simp only [*,Ag,C8,D3,↓reduceIte] at href
  exact Jb
 refine Nn ?_;refine A2 [3,6,8,10,16,237] ?_
 refine A3 (fun ht237=>?_) (fun ht237=>?_)
 ·refine Z33 ?_;refine A2 [6,8,10,240] ?_
  refine A3 (fun ht240=>?_) (fun ht240=>?_)
  ·refine ls ?_
   try simp only [*,Ag,C8,D3,↓reduceIte] at href
   exact Jb
  refine No ?_;refine AM9 ?_
  try simp only [*,Ag,C8,D3,↓reduceIte] at href
  exact Jb
 refine Nn ?_;refine A2 [3,6,8,10,16,248] ?_
 refine A3 (fun ht248=>?_) (fun ht248=>?_)
 ·refine Z33 ?_;refine A2 [6,8,10,251] ?_
  refine A3 (fun ht251=>?_) (fun ht251=>?_)
  ·refine ls ?_
   try simp only [*,Ag,C8,D3,↓reduceIte] at href
   exact Jb
  refine Lq ?_;refine A9 Tryz.call57 (c57 (Al c l (x.kids.getD 0 At)).1.n ⟨fa.lo,fa.hi⟩ _) ?_;refine ALq ?_
  try simp only [*,Ag,C8,D3,↓reduceIte] at href
  exact Jb
 refine Nn ?_;refine A2 [3,6,8,10,16,259] ?_
 refine A3 (fun ht259=>?_) (fun ht259=>?_)
 ·refine za ?_
  try simp only [*,Ag,C8,D3,↓reduceIte] at href
  exact Jb
 refine Xd ?_;refine A2 [3,6,8,10,16,262] ?_;refine P8 ?_;refine A2 [3,6,8,10,16,262,263] ?_
 refine A3 (fun ht263=>?_) (fun ht263=>?_)
 ·refine Z19 ?_;refine ALr ?_;refine Z21 ?_
  try simp only [*,Ag,C8,D3,↓reduceIte] at href
  exact Jb
 refine Z1 ?_;refine A2 [3,6,8,10,16,269] ?_
 refine A3 (fun ht269=>?_) (fun ht269=>?_)
 ·refine Z1 ?_
  refine A9 Tryz.call58 (c58 (Al c l (x.kids.getD 0 At)).1.s (by have:=fa.len;omega) _) ?_
  refine Z63 ?_;refine A2 [6,8,19,20] ?_;refine Z8 ?_;refine A2 [6,8,19,20,278] ?_
  refine A3 (fun ht278=>?_) (fun ht278=>?_)
  ·refine Z1 ?_;refine Z64 ?_;refine Z6 ?_
   try simp only [*,Ag,C8,D3,↓reduceIte] at href
   exact Jb
  refine Z92 ?_;refine ALr ?_;refine Z21 ?_
  try simp only [*,Ag,C8,D3,↓reduceIte] at href
  exact Jb
 refine Z17 ?_;refine Z33 ?_;refine A2 [3,6,8,10,16,285] ?_
 refine A3 (fun ht285=>?_) (fun ht285=>?_)
 ·refine za ?_
  try simp only [*,Ag,C8,D3,↓reduceIte] at href
  exact Jb
 refine Yt ?_;refine A2 [3,6,10,16,21] ?_
 refine W.join ⟨316,A6 3 (.ro (Dz x)) (A6 6 (.ptr (oid Hp.length 0) 0) (A6 10 (.ptr (oid Hp.length 2) 0) (A6 16 (.ptr (oid Hp.length 3) 0) (A6 21 (A5 (if decide ((bR c l x).n<(((Al c l (x.kids.getD 0 At)).1.s.length:Nat):Int))=true then (bR c l x).n else (((Al c l (x.kids.getD 0 At)).1.s.length:Nat):Int))) (fun _=>.any))))),Hp,[.cells 42 [A5 0,A5 0,Af []],.cells 42 [A5 0,A5 0,Af []],.cells 42 [A5 (Al c l (x.kids.getD 0 At)).1.kind,A5 (Al c l (x.kids.getD 0 At)).1.n,Af (Al c l (x.kids.getD 0 At)).1.s],.cells 42 [A5 (bR c l x).kind,A5 (bR c l x).n,Af (bR c l x).s]],[],none⟩ ?_ ?_
 ·refine Z25 ?_;refine A2 [3,6,10,16,21,293] ?_
  refine A3 (fun ht293=>?_) (fun ht293=>?_)
  ·refine Z23 ?_;refine A2 [3,6,10,16,21] ?_;refine K.thJ ?_
   first|(rw [if_pos ht293];exact B2 rfl)|(rw [if_neg (by rw [ht293];simp)];exact B2 rfl)
  refine Hh [3,6,10,16,21] ?_;refine Je ?_;refine K.thJ ?_
  first|(rw [if_pos ht293];exact B2 rfl)|(rw [if_neg (by rw [ht293];simp)];exact B2 rfl)
 refine W.join ⟨316,A6 3 (.ro (Dz x)) (A6 6 (.ptr (oid Hp.length 0) 0) (A6 10 (.ptr (oid Hp.length 2) 0) (A6 21 (A5 (Oq (bR c l x).n (((Al c l (x.kids.getD 0 At)).1.s.length:Nat):Int))) (fun _=>.any)))),Hp,[.cells 42 [A5 0,A5 0,Af []],.cells 42 [A5 0,A5 0,Af []],.cells 42 [A5 (Al c l (x.kids.getD 0 At)).1.kind,A5 (Al c l (x.kids.getD 0 At)).1.n,Af (Al c l (x.kids.getD 0 At)).1.s],.cells 42 [A5 (bR c l x).kind,A5 (bR c l x).n,Af (bR c l x).s]],[],none⟩ ?_ ?_
 ·refine Z19 ?_;refine A2 [3,6,10,21,298] ?_
  refine A3 (fun ht298=>?_) (fun ht298=>?_)
  ·refine Z52 ?_;refine A2 [3,6,10,21] ?_;refine K.thJ ?_
   unfold Oq
   first|(rw [if_pos ht298];exact B2 rfl)|(rw [if_neg (show ¬decide ((bR c l x).n<0)=true by rw [ht298];simp)];exact B2 rfl)
  refine Hh [3,6,10,21] ?_;refine Je ?_;refine K.thJ ?_
  unfold Oq
  first|(rw [if_pos ht298];exact B2 rfl)|(rw [if_neg (show ¬decide ((bR c l x).n<0)=true by rw [ht298];simp)];exact B2 rfl)
 refine Z74 ?_
 obtain ⟨n0,hcl,hn0l⟩:=ABg (bR c l x).n (Al c l (x.kids.getD 0 At)).1.s.length
 rw [hcl]
 refine Z10 ?_;refine A2 [6,10,21,301] ?_
 refine A3 (fun ht301=>?_) (fun ht301=>?_)
 ·refine Z19 ?_
  refine A4 (h:=L1 n0 (fun _=>Ap _) (fun _=>hn0l)) (hr:=?_)
  refine ALq ?_
  try simp only [*,Ag,C8,D3,↓reduceIte,uf,Ws,hcl,Int.toNat_natCast] at href
  exact Jb
 refine Yt ?_;refine Z0 ?_
 refine A4 (h:=Q.sub64 (h1:=fun _=>by omega) (h2:=fun _=>by have:=fa.len;omega)) (hr:=?_)
 rw [show (((Al c l (x.kids.getD 0 At)).1.s.length:Int)-(n0:Int))=(((Al c l (x.kids.getD 0 At)).1.s.length-n0:Nat):Int) by omega]
 refine A4 (h:=S4 ((Al c l (x.kids.getD 0 At)).1.s.length-n0) (fun _=>show (Al c l (x.kids.getD 0 At)).1.s.length-n0≤(Al c l (x.kids.getD 0 At)).1.s.length by omega) (fun _=>Aj _)) (hr:=?_)
 refine ALr ?_;refine Dd ?_
 try simp only [*,Ag,C8,D3,↓reduceIte,uf,Ws,hcl,Int.toNat_natCast] at href
 exact Jb

theorem c15 (c:List Col) (hc:OkCols c) (hc2:c.length≤1000000) (l:List Mov) (h:OkMovs l) (row:List Val) (hrr:∀v∈row, -9223372036854775808≤v.n∧v.n≤9223372036854775807) (hrl:row.length≤1048576) (Hp:List AObj):AFun Tryz.prog 15 [An c,E6 l,Br row] Hp (.tup [Br (Cx c l row).1,A5 (Cx c l row).2]):=by
 refine Ah [.tmp 6,.tmp 7] [0,1,2] Tryz.func15 Tryz.ntmps15 (fun d=>?_)
 refine yr ?_;refine Z1 ?_;refine A9 Tryz.call22 (c22 c hc hc2 l h _) ?_;refine AH7 ?_;refine Z33 ?_;refine Z7 ?_;refine Bm Tryz.call14 (fun hB=>c14 c hc row hrl _) ?_;refine Z93 ?_;refine A2 [1,2,8,26] ?_
 refine A3 (fun ht26=>?_) (fun ht26=>?_)
 ·have hm:Cx c l row=([],1):=if_pos ht26
  refine Z2 ?_;refine ALd ?_;exact Z55
 have hm0:Cx c l row=fwM c l row l.length:=if_neg (by rw [ht26];simp)
 have h26:((Ct c l).2 != 0)=false∧F9 c row=true:=by simpa using ht26
 obtain ⟨hmay,hst,hss⟩:=H3 h26.1
 have hR0:=Qe h26.2 hrr
 have hmvo:=Ke hmay
 have hlen:=h.len
 rw [hss]
 refine Z92 ?_;refine A9 Tryz.call23 (c23 row hrl _) ?_;refine A4 ?_;refine A2 [1,8,10] ?_;refine Z33 ?_;refine A2 [8,10,29,30,31] ?_
 refine Az (α:=Nat) (fun x=>⟨51,A6 8 (Mt (Cu c l l.length)) (A6 10 (Br (fwM c l row x).1) (A6 29 (E6 l) (A6 30 (A5 (l.length:Nat)) (A6 31 (A5 (x:Nat)) (fun _=>.any))))),Hp,[],[],none⟩) (fun x=>x≤l.length∧(fwM c l row x).2=0∧RowI (colsAt c l x) (fwM c l row x).1) (fun x=>l.length-x) (0) ⟨Ap _,rfl,hR0⟩ (B2 (by simp [fwM])) rfl (fun x hx=>?_)
 refine Z2 ?_;refine A2 [8,10,29,30,31,32] ?_
 refine Ej (fun ht32=>?_) (fun ht32=>?_)
 ·have hlt:x<l.length:=by simpa using ht32
  obtain ⟨hxl,hfx,hR⟩:=hx
  obtain ⟨m,hm⟩:∃m,m=l[x]:=⟨_,rfl⟩
  have hml:l[x]? = some m:=by rw [hm];exact Aa hlt
  have hmx:(l.map Fv)[x]? = some (Fv m):=by rw [hm];exact Aw hlt
  have hmo:=h.each m (B3 hml)
  have hmv:=hmvo m (B3 hml)
  have hCx:=Gr hc (fun m hm=>h.each m hm) x
  have htn:=Lx hst hml
  refine Tr ?_
  refine A4 (h:=Ac (x) (Fv m) (fun _=>hmx)) (hr:=?_)
  refine rl ?_;refine A2 [8,10,11,12,29,30,31] ?_;refine Cb [0,0,3,7,0,0,63,127,255,255,511,2047] 11 Ai (by kernel_rfl) ?_;refine Z12 ?_
  refine Ak (h:=Ac (x) (An (colsAt c l x)) (fun _=>AJp (Qc (by omega)))) (hr:=?_)
  refine Z40 ?_;refine De Tryz.call36 (c36 (colsAt c l x) hCx m hmo (fwM c l row x).1 hR.fine hR.len _) ?_;refine Z12 ?_;refine rn ?_;refine A2 [8,9,10,29,30,31] ?_;refine Z1 ?_;refine A2 [8,9,10,29,30,31,47] ?_
  refine A3 (fun ht47=>?_) (fun ht47=>?_)
  ·have hm2:Cx c l row=([],(E1 (colsAt c l x) m (fwM c l row x).1).2):=by rw [hm0];exact xa hml hfx (by simpa using ht47)
   refine lw ?_;refine Tp ?_;exact AQt
  have hnx:=Uh hml hfx
  have hok:(E1 (colsAt c l x) m (fwM c l row x).1).2=0:=by simpa using ht47
  have hRn:=W6 htn hmv (fun e he=>hmo.ahead.rng e he) hR hok
  refine Nm ?_;refine A2 [8,10,29,30,31] ?_
  refine Ay (x+1) ⟨hlt,by rw [hnx];exact hok,by rw [hnx,Fz hml];exact hRn⟩ (by omega) ?_
  rw [hnx]
  exact Dq (own:=[]) (fun _=>.refl _) (by repeat (first|exact Bq|refine Bp (by first|exact Gf|exact Dc|exact Hc|exact Fg|exact Dj|exact Em|exact Low.ro _ Lw|(simp [or_imp,forall_and];done)) ?_)) (by simp) (by simp)
 have hxe:x=l.length:=by simp at ht32;have:=hx.1;omega
 subst hxe
 have hm1:Cx c l row=((fwM c l row l.length).1,0):=by rw [hm0];exact N1 rfl hx.2.1
 refine Z26 ?_;refine rf ?_;exact AOc

/-! slices.Backward of moves. -/
theorem c72 (l0:Nat) (ms:List Mov) (hml:ms.length≤1048576) (U:Nat→List AObj) (N:Nat→Prop) (Z:List AObj→Prop) (hlen:∀k,(U k).length=(U 0).length) (hll:l0<(U 0).length)
  (hlw:∀k,∀x∈U k,ObjLow (U 0).length x) (h0:N 0)
  (hy:∀k m X,k<ms.length→ms[ms.length-1-k]? = some m→N k→AYield Tryz.prog l0 [A5 ((ms.length-1-k:Nat):Int),Fv m] (U k++X) (fun b H'=>(b=true∧N (k+1)∧H'=U (k+1)++X)∨(b=false∧∃V,H'=V++X∧V.length=(U 0).length∧(∀x∈V,ObjLow (U 0).length x)∧Z V)))
  (hR:N ms.length→Z (U ms.length)):ACall Tryz.prog 72 [.yield l0,.ro [E6 ms]] (U 0) (fun _ H'=>Z H'):=by
 refine Ah [] [0,1] Tryz.func72 Tryz.ntmps72 (fun d=>?_)
 refine Z1 ?_
 refine A4 (h:=Q.sub64 (h2:=fun _=>by simp only [Am];omega)) (hr:=?_)
 refine A4 ?_;refine A2 [0,1,3] ?_
 refine Az (α:=Nat×Int) (fun s=>⟨19,A6 0 (.yield l0) (A6 1 (.ro [E6 ms]) (A6 3 (A5 s.2) (fun _=>.any))),U s.1,[],[],none⟩) (fun s=>s.1≤ms.length∧N s.1∧s.2=(ms.length:Int)-1-(s.1:Int)) (fun s=>ms.length-s.1) ((0,(ms.length:Int)-1)) ⟨Ap _,h0,by simp⟩ (B2 (by simp)) rfl (fun s hs=>?_)
 obtain ⟨x,i⟩:=s
 obtain ⟨hx,hN,hi⟩:=hs
 dsimp only at hx hN hi ⊢
 refine Z8 ?_;refine A2 [0,1,3,8] ?_
 refine A3 (fun ht8=>?_) (fun ht8=>?_)
 ·have hlt:x<ms.length:=by simp at ht8;omega
  have hlt2:ms.length-1-x<ms.length:=by omega
  have hi2:i=((ms.length-1-x:Nat):Int):=by omega
  subst hi2
  refine Z42 ?_;refine Z25 ?_
  refine A4 (h:=Ac (ms.length-1-x) (Fv ms[ms.length-1-x]) (fun _=>Aw hlt2)) (hr:=?_)
  refine A4 ?_
  refine R.yield (l:=l0) (args:=[A5 ((ms.length-1-x:Nat):Int),Fv ms[ms.length-1-x]]) (hy x ms[ms.length-1-x] _ hlt (Aa hlt2) hN) ?_
  intro b V O hV hb
  have hVO:O=[]∧((b=true∧N (x+1)∧V=U (x+1))∨(b=false∧V.length=(U 0).length∧(∀y∈V,ObjLow (U 0).length y)∧Z V)):=by
   rcases hb with ⟨h1,h2,h3⟩|⟨h1,V',h2,h3,h4,h5⟩
   ·have h6:=Ur h3 (by rw [hV,hlen x,hlen (x+1)])
    exact ⟨h6.2,.inl ⟨h1,h2,h6.1⟩⟩
   obtain ⟨rfl,rfl⟩:=Ur h2 (by rw [hV,hlen x,h3])
   exact ⟨rfl,.inr ⟨h1,h3,h4,h5⟩⟩
  obtain ⟨rfl,hVO⟩:=hVO
  have hVl:V.length=(U 0).length:=by rw [hV,hlen x]
  have hVw:∀y∈V,ObjLow (U 0).length y:=by
   rcases hVO with ⟨_,_,rfl⟩|⟨_,_,h,_⟩
   ·exact hlw _
   exact h
  refine ⟨fun _=>by rw [hVl];exact hVw,fun o ho=>(by cases ho),?_⟩
  refine A4 ?_;refine A2 [0,1,3,18] ?_
  refine A3 (fun ht18=>?_) (fun ht18=>?_)
  ·have hZ:Z V:=by
    rcases hVO with ⟨h1,_,_⟩|⟨_,_,_,h⟩
    ·rw [h1] at ht18;cases ht18
    exact h
   refine Z21 ?_;refine Mg ?_;exact A8 .nores (hp:=hZ)
  have hVn:N (x+1)∧V=U (x+1):=by
   rcases hVO with ⟨_,h2,h3⟩|⟨h1,_,_,_⟩
   ·exact ⟨h2,h3⟩
   rw [h1] at ht18;cases ht18
  obtain ⟨hN1,rfl⟩:=hVn
  refine Z71 ?_;refine A2 [0,1,3] ?_
  refine Ay (x+1,((ms.length-1-x:Nat):Int)-1) ⟨hlt,hN1,by dsimp only;omega⟩ (by dsimp only;omega) ?_
  exact Bh rfl
 have hxe:x=ms.length:=by simp at ht8;omega
 refine rm ?_;exact Gn .nores (hp:=by rw [hxe];exact hR (hxe ▸ hN))

theorem c43 (l:List Mov) (Hp:List AObj):AFun Tryz.prog 43 [E6 l] Hp (.fn (.func 72) [] [.ro [E6 l]]):=by
 refine Ah [.tmp 2] [0] Tryz.func43 Tryz.ntmps43 (fun d=>?_)
 refine Pv ?_;refine Ec ?_;refine ADh ?_;exact AOe

theorem bu {n k:Nat} {o:Bool} {l:List Val}:∀z∈[AV.slice o k (l.map Bi)],Low n z:=fun z hz=>by rw [Bs.1 hz];exact Dc
/-- Where the way back stands behind k moves. -/
structure BkAt (c:List Col) (l:List Mov) (row:List Val) (k:Nat):Prop where
 ok:(bkM c l row k).2=0
 row:RowI (colsAt c l (l.length-k)) (bkM c l row k).1
theorem BkAt.zero {c:List Col} {l:List Mov} {row:List Val} (h:RowI (colsAt c l l.length) row):BkAt c l row 0:=⟨rfl,h⟩
theorem BkAt.fin {c:List Col} {l:List Mov} {row:List Val} (h:BkAt c l row l.length):bkM c l row l.length=((bkM c l row l.length).1,0):=N1 rfl h.ok
theorem BkAt.next {c:List Col} {l:List Mov} {row:List Val} {k:Nat} {m:Mov} (h:BkAt c l row k) (hk:k<l.length) (hm:l[l.length-1-k]? = some m) (hg:∀e∈m.back,Et L5 e=true) (he:(Cn (colsAt c l (l.length-1-k)) (colsAt c l (l.length-1-k+1)) m (bkM c l row k).1).2=0):BkAt c l row (k+1):=by
 have e:=Ui hm h.ok
 have hr:=h.row
 rw [show l.length-k=l.length-1-k+1 by omega] at hr
 refine ⟨by rw [e];exact he,?_⟩
 rw [e,show l.length-(k+1)=l.length-1-k by omega]
 exact ph hg hr he
theorem W7 {c:List Col} {l:List Mov} {row:List Val} (h:(((Ct c l).2 != 0) || !F9 (colsAt c l l.length) row)=false):Ca c l row=bkM c l row l.length:=if_neg (by rw [h];simp)
theorem ASb {U:List AObj} {l a b c e:Nat} {x y X Y Z T:AObj} (h:U[l]? = some x) (ha:a≠l) (hb:b≠l) (hc:c≠l) (he:e≠l):(((((U.set l y).set a X).set b Y).set c Z).set e T)[l]? = some y:=by rw [Ed he];exact AOa h ha hb hc
theorem ABh (c:List Col) (l:List Mov):(Ct c l).1.length≤l.length+1:=by
 unfold Ct Gq
 repeat' split
 all_goals first|exact Ap _|exact Sy c l
theorem W8 {c:List Col} {l:List Mov} (h:((Ct c l).2 != 0)=false):((Ct c l).1.map An)[l.length]? = some (An (colsAt c l l.length))∧((((Ct c l).1.map An).length:Nat):Int)-1=((l.length:Nat):Int):=by
 obtain ⟨_,_,hss⟩:=H3 h
 rw [hss]
 refine ⟨AJp (Qc (Aj _)),?_⟩
 rw [Am,Jo]
 omega
theorem c24 (l:List Mov) (Hp:List AObj):AFun Tryz.prog 24 [E6 l] Hp (.fn (.func 72) [] [.ro [E6 l]]):=by
 refine Ah [.tmp 2] [0] Tryz.func24 Tryz.ntmps24 (fun d=>?_)
 refine Z49 ?_;refine Z2 ?_;refine A9 Tryz.call43 (c43 l _) ?_;refine A4 ?_;exact AOe

theorem c7 (c:List Col) (hc:OkCols c) (hc2:c.length≤1000000) (l:List Mov) (h:OkMovs l) (row:List Val) (hrr:∀v∈row, -9223372036854775808≤v.n∧v.n≤9223372036854775807) (hrl:row.length≤1048576) (Hp:List AObj):AFun Tryz.prog 7 [An c,E6 l,Br row] Hp (.tup [Br (Ca c l row).1,A5 (Ca c l row).2]):=by
 refine Ah [.cell 6 24,.cell 7 27] [0,1,2] Tryz.func7 Tryz.ntmps7 (fun d=>?_)
 refine Z37 ?_;refine Mj ?_;refine A2 [0,1,2,6,7] ?_;refine Z1 ?_;refine A9 Tryz.call22 (c22 c hc hc2 l h _) ?_;refine ALe ?_;refine ADd ?_;refine A2 [1,2,6,7,8,9] ?_;refine Z74 ?_
 have hlen:=h.len
 have hsl:((Ct c l).1.map An).length≤2000000:=by rw [Am];have:=ABh c l;omega
 have hcn:=Gr hc (fun m hm=>h.each m hm) l.length
 refine Z10 ?_;refine Pw ?_
 refine Bd (h:=Ac (l.length) (An (colsAt c l l.length)) (fun hB=>(W8 (by simpa using hB)).1) (hn:=fun hB=>(W8 (by simpa using hB)).2)) (hr:=?_)
 refine Z7 ?_;refine Bm Tryz.call14 (fun hB=>c14 (colsAt c l l.length) hcn row hrl _) ?_;refine Z93 ?_;refine A2 [1,2,6,7,8,9,31] ?_
 refine A3 (fun ht31=>?_) (fun ht31=>?_)
 ·have hm:Ca c l row=([],1):=if_pos ht31
  refine Ec ?_;refine Gc ?_;refine Yn 0 3 ?_;refine Gc ?_;refine A2 [6,7] ?_;refine Z13 ?_;exact A8 (B1 (Hg jA) (Hg jA)) ⟨by rw [hm]<;>rfl,rfl⟩
 have hm:=W7 ht31
 have h31:((Ct c l).2 != 0)=false∧F9 (colsAt c l l.length) row=true:=by simpa using ht31
 obtain ⟨hmay,hst,hss⟩:=H3 h31.1
 have hmvo:=Ke hmay
 have hlen:=h.len
 have hR0:=Qe h31.2 hrr
 have hol:((Cu c l l.length).map An).length=l.length+1:=by rw [Am,Jo]
 rw [hss]
 refine Z92 ?_;refine A9 Tryz.call23 (c23 row hrl _) ?_;refine Z20 ?_;refine A2 [1,6,7,8,9,10] ?_;refine Z74 ?_
 refine Pu (fun hlow=>?_)
 refine A4 ?_;refine A9 Tryz.call24 (c24 l _) ?_;refine A2 [6,7,8,9,10,35] ?_;refine Mi ?_
 refine Sb (m:=5) Tryz.call72 (fun FR as' bd' hFR has hbd=>?_)
 have hFRl:∀s,Low (Hp.length+7) (FR s):=by
  intro s
  rw [hFR]
  refine Uw ?_
  revert s
  repeat (first|exact Bq|refine Bp (by first|(simp [oid,or_imp,forall_and];done)|exact Fg|exact Dj|exact Dc|(simp [oid,or_imp,forall_and];exact ⟨fun m _ a _=>B7 _ a,fun m _ a _=>B7 _ a⟩)|(simp [oid,or_imp,forall_and]<;>omega)) ?_)
 have hOl:∀{e e2:Int} {t:List Val} {lp:AObj},ObjLow (Hp.length+7) lp→∀x∈Hp++[AObj.cells 24 [AV.nil],AObj.cells 27 [A5 e],AObj.cells 30 [Mt (Cu c l l.length)],AObj.cells 27 [A5 e2],AObj.cells 24 [Br (t)],AObj.defs,lp],ObjLow (Hp.length+7) x:=by
  intro e e2 t lp hlp x hx
  refine Om (fun x hx=>Vg (by omega) (hlow x hx)) (fun x hx=>?_) x hx
  simp only [Bu,Fi,or_false] at hx
  rcases hx with rfl|rfl|rfl|rfl|rfl|rfl|rfl
  ·intro y hy;rw [Bs.1 hy];simp
  ·intro y hy;rw [Bs.1 hy];simp
  ·intro y hy;rw [Bs.1 hy];exact Em
  ·intro y hy;rw [Bs.1 hy];simp
  ·exact bu
  ·trivial
  exact hlp
 refine ⟨_,c72 (oid Hp.length 6) l h.len (fun k=>Hp++[AObj.cells 24 [AV.nil],AObj.cells 27 [A5 0],AObj.cells 30 [Mt (Cu c l l.length)],AObj.cells 27 [A5 0],AObj.cells 24 [Br ((bkM c l row k).1)],AObj.defs,AObj.loop LoopState.ready none FR 57 #[36,37] as' bd' (oid Hp.length 5)]) (BkAt c l row) (fun V=>(∃t,V=Hp++[AObj.cells 24 [AV.nil],AObj.cells 27 [A5 0],AObj.cells 30 [Mt (Cu c l l.length)],AObj.cells 27 [A5 0],AObj.cells 24 [Br (t)],AObj.defs,AObj.loop LoopState.ready none FR 57 #[36,37] as' bd' (oid Hp.length 5)]∧Ca c l row=(t,0)∧RowI c t)∨(∃(e:Int) (t:List Val),V=Hp++[AObj.cells 24 [AV.nil],AObj.cells 27 [A5 e],AObj.cells 30 [Mt (Cu c l l.length)],AObj.cells 27 [A5 e],AObj.cells 24 [Br (t)],AObj.defs,AObj.loop LoopState.done (some Code.ret) FR 57 #[36,37] as' bd' (oid Hp.length 5)]∧Ca c l row=([],e))) (fun k=>by simp) (by simp [oid]) (fun k=>(fun x hx=>by rw [Ao];exact hOl (lp:=AObj.loop LoopState.ready none FR 57 #[36,37] as' bd' (oid Hp.length 5)) (by exact ⟨hFRl,by simp [oid]⟩) x hx)) (.zero hR0) (fun k m X hk hm hN=>?_) (fun hN=>.inl ⟨_,rfl,by rw [W7 ht31];exact hN.fin,by have:=hN.row;rw [O8] at this;exact this⟩),?_⟩
 ·generalize hV:Hp++[AObj.cells 24 [AV.nil],AObj.cells 27 [A5 0],AObj.cells 30 [Mt (Cu c l l.length)],AObj.cells 27 [A5 0],AObj.cells 24 [Br ((bkM c l row k).1)],AObj.defs,AObj.loop LoopState.ready none FR 57 #[36,37] as' bd' (oid Hp.length 5)]++X=V
  have hL:V[oid Hp.length 6]? = some (AObj.loop LoopState.ready none FR 57 #[36,37] as' bd' (oid Hp.length 5)):=by rw [←hV,C9,C0];rfl
  have hA0:V[oid Hp.length 0]? = some (AObj.cells 24 [AV.nil]):=by rw [←hV,C9,C0];rfl
  have hB0:V[oid Hp.length 1]? = some (AObj.cells 27 [A5 0]):=by rw [←hV,C9,C0];rfl
  have hS0:V[oid Hp.length 2]? = some (AObj.cells 30 [Mt (Cu c l l.length)]):=by rw [←hV,C9,C0];rfl
  have hE0:V[oid Hp.length 3]? = some (AObj.cells 27 [A5 0]):=by rw [←hV,C9,C0];rfl
  have hZ0:V[oid Hp.length 4]? = some (AObj.cells 24 [Br (bkM c l row k).1]):=by rw [←hV,C9,C0];rfl
  refine S3 (pd:=none) (fr:=FR) (sz:=57) (ps:=#[36,37]) (df:=oid Hp.length 5) (asg:=as') (bd:=bd') hL rfl (by decide) (fun d=>?_)
  subst hFR has hbd
  refine Hh [6,7,8,9,10,36,37] ?_
  have hmo:=h.each m (B3 hm)
  have hmv:=hmvo m (B3 hm)
  have htn:=Lx hst hm
  have hcn:=Fz (c:=c) hm
  have hCo:=Gr hc (fun m hm=>h.each m hm) (l.length-1-k+1)
  have hCi:=Gr hc (fun m hm=>h.each m hm) (l.length-1-k)
  have herr:=fun hb=>AK4 (row:=row) hk hm hN.ok hb
  have hnxt:=hN.next hk hm (fun e he=>hmo.back.rng e he)
  have htb:=Ui hm hN.ok
  have htl:=hN.row
  rw [show l.length-k=l.length-1-k+1 by omega] at htl
  have hik:l.length-1-k<l.length:=by omega
  have hsy:∀y∈colsAt c l (l.length-1-k),¬0≤H6 y.name m.take→∃j:Nat,Bn y.name (colsAt c l (l.length-1-k+1))=j∧j<(colsAt c l (l.length-1-k+1)).length:=fun y hy hn=>by
   rw [hcn]
   exact AGi htn hy hn
  generalize l.length-1-k=i at *
  refine Z2 ?_;refine A2 [6,7,8,9,10,11,37] ?_;refine Ix ?_;refine Z20 ?_;refine A2 [6,7,8,9,10,11,12] ?_
  refine ⟨rfl,none,hL,?_⟩
  generalize hbz:(AObj.loop LoopState.busy _ _ _ _ _ _ _)=bz
  have hA:(V.set (oid Hp.length 6) bz)[oid Hp.length 0]? = some (AObj.cells 24 [AV.nil]):=by rw [Ed (Cv (by decide))];exact hA0
  have hB:(V.set (oid Hp.length 6) bz)[oid Hp.length 1]? = some (AObj.cells 27 [A5 0]):=by rw [Ed (Cv (by decide))];exact hB0
  have hS:(V.set (oid Hp.length 6) bz)[oid Hp.length 2]? = some (AObj.cells 30 [Mt (Cu c l l.length)]):=by rw [Ed (Cv (by decide))];exact hS0
  have hE:(V.set (oid Hp.length 6) bz)[oid Hp.length 3]? = some (AObj.cells 27 [A5 0]):=by rw [Ed (Cv (by decide))];exact hE0
  have hZ:(V.set (oid Hp.length 6) bz)[oid Hp.length 4]? = some (AObj.cells 24 [Br (bkM c l row k).1]):=by rw [Ed (Cv (by decide))];exact hZ0
  refine Mi ?_
  refine Hy [0,0,3,7,0,0,32,112,240,0,0,2047,4095,8191,8191,16383,65535] [15] [.q 14 [] [0],.q 1 [] [],.s [] (some 0) [] []] (fun B=>if B 0=true then ((V.set (oid Hp.length 6) bz).set (oid Hp.length 4) (AObj.cells 24 [Br (Cn (colsAt c l i) (colsAt c l (i+1)) m (bkM c l row k).1).1])) else (V.set (oid Hp.length 6) bz)) (fun _=>[AObj.cells 54 (Nj m)]) Ai (by kernel_rfl) rfl rfl (fun B=>by split<;>simp) ?_
  apply Y.q
  ·intro B hT hF
   first|simp only [hF 0 (v6 0),Ag,if_false]|skip
   refine Ak (h:=Cm hS) (hr:=?_)
   refine Ak ?_
   refine Ak (h:=Ac (i) (An (colsAt c l i)) (fun _=>AJp (Qc (by omega)))) (hr:=?_)
   refine Ak ?_
   refine Ak (h:=Cm hS) (hr:=?_)
   refine Z12 ?_
   refine Ak (h:=Ac ((i+1)) (An (colsAt c l (i+1))) (fun _=>AJp (Qc (by omega)))) (hr:=?_)
   refine Z12 ?_
   refine Ak (h:=Cm hZ) (hr:=?_)
   refine De Tryz.call25 (c25 (colsAt c l i) (colsAt c l (i+1)) hCi.len hCo m hmo (Ge (M5 hmv)).2 hsy (bkM c l row k).1 htl.fine htl.len _) ?_;exact Z96
  case hTF=>decide
  apply Y.q
  ·intro B hT hF
   first|simp only [hF 0 (v6 0),Ag,if_false]|skip
   exact Yo
  case hTF=>decide
  refine Y.storeUp (o:=oid Hp.length 4) (t':=24) (ys:=[Br (Cn (colsAt c l i) (colsAt c l (i+1)) m (bkM c l row k).1).1]) (cs:=[Br (bkM c l row k).1]) (cs':=[Br (Cn (colsAt c l i) (colsAt c l (i+1)) m (bkM c l row k).1).1]) Tryz.sizeOf24 (fun B hB=>⟨by simp only [hB];exact hZ,by simp [upd,hB],rfl,bu⟩) ?_
  refine Gx (tn:=[15]) (U:=((V.set (oid Hp.length 6) bz).set (oid Hp.length 4) (AObj.cells 24 [Br (Cn (colsAt c l i) (colsAt c l (i+1)) m (bkM c l row k).1).1]))) ?_
  refine Gm jS (kn hE (Cv (by decide))) ?_ ?_
  ·simp
  refine A2 [6,7,9] ?_;refine Ec ?_
  have hE2:(((V.set (oid Hp.length 6) bz).set (oid Hp.length 4) (AObj.cells 24 [Br (Cn (colsAt c l i) (colsAt c l (i+1)) m (bkM c l row k).1).1])).set (oid Hp.length 3) (AObj.cells 27 [A5 (Cn (colsAt c l i) (colsAt c l (i+1)) m (bkM c l row k).1).2]))[oid Hp.length 3]? = some (AObj.cells 27 [A5 (Cn (colsAt c l i) (colsAt c l (i+1)) m (bkM c l row k).1).2]):=getset (kn hE (Cv (by decide)))
  refine A4 (h:=Cm hE2) (hr:=?_)
  refine A4 ?_;refine A2 [6,7,9,54] ?_
  refine A3 (fun ht54=>?_) (fun ht54=>?_)
  ·have herr:=herr (by simpa using ht54)
   refine Hy [0,0,3] [1] [.q 1 [] [],.s [] (some 0) [] []] (fun B=>if B 0=true then ((((V.set (oid Hp.length 6) bz).set (oid Hp.length 4) (AObj.cells 24 [Br (Cn (colsAt c l i) (colsAt c l (i+1)) m (bkM c l row k).1).1])).set (oid Hp.length 3) (AObj.cells 27 [A5 (Cn (colsAt c l i) (colsAt c l (i+1)) m (bkM c l row k).1).2])).set (oid Hp.length 0) (AObj.cells 24 [AV.nil])) else (((V.set (oid Hp.length 6) bz).set (oid Hp.length 4) (AObj.cells 24 [Br (Cn (colsAt c l i) (colsAt c l (i+1)) m (bkM c l row k).1).1])).set (oid Hp.length 3) (AObj.cells 27 [A5 (Cn (colsAt c l i) (colsAt c l (i+1)) m (bkM c l row k).1).2]))) (fun _=>[AObj.cells 54 (Nj m)]) Ai (by kernel_rfl) rfl rfl (fun B=>by split<;>simp) ?_
   apply Y.q
   ·intro B hT hF
    refine Ak (h:=Cm (show (if B 0=true then ((((V.set (oid Hp.length 6) bz).set (oid Hp.length 4) (AObj.cells 24 [Br (Cn (colsAt c l i) (colsAt c l (i+1)) m (bkM c l row k).1).1])).set (oid Hp.length 3) (AObj.cells 27 [A5 (Cn (colsAt c l i) (colsAt c l (i+1)) m (bkM c l row k).1).2])).set (oid Hp.length 0) (AObj.cells 24 [AV.nil])) else (((V.set (oid Hp.length 6) bz).set (oid Hp.length 4) (AObj.cells 24 [Br (Cn (colsAt c l i) (colsAt c l (i+1)) m (bkM c l row k).1).1])).set (oid Hp.length 3) (AObj.cells 27 [A5 (Cn (colsAt c l i) (colsAt c l (i+1)) m (bkM c l row k).1).2])))[oid Hp.length 3]? = some (AObj.cells 27 [A5 (Cn (colsAt c l i) (colsAt c l (i+1)) m (bkM c l row k).1).2]) by split;exact kn hE2 (Cv (by decide));exact hE2)) (hr:=?_)
    exact cr
   case hTF=>decide
   refine Y.storeUp (o:=oid Hp.length 0) (t':=24) (ys:=[.nil]) (cs:=[.nil]) (cs':=[.nil]) Tryz.sizeOf24 (fun B hB=>⟨by simp only [hB];exact kn (kn hA (Cv (by decide))) (Cv (by decide)),by simp [upd,hB],rfl,by simp⟩) ?_
   refine Gx (tn:=[1]) (U:=((((V.set (oid Hp.length 6) bz).set (oid Hp.length 4) (AObj.cells 24 [Br (Cn (colsAt c l i) (colsAt c l (i+1)) m (bkM c l row k).1).1])).set (oid Hp.length 3) (AObj.cells 27 [A5 (Cn (colsAt c l i) (colsAt c l (i+1)) m (bkM c l row k).1).2])).set (oid Hp.length 0) (AObj.cells 24 [AV.nil]))) ?_
   refine Gm jS (kn (kn (kn hB (Cv (by decide))) (Cv (by decide))) (Cv (by decide))) ?_ ?_
   ·simp
   refine A2 [] ?_;refine Dd ?_;refine Mf ?_
   subst hbz
   refine K.rdR (ASb hL (Cv (by decide)) (Cv (by decide)) (Cv (by decide)) (Cv (by decide))) ?_
   refine .inr ⟨rfl,Hp++[AObj.cells 24 [AV.nil],AObj.cells 27 [A5 (Cn (colsAt c l i) (colsAt c l (i+1)) m (bkM c l row k).1).2],AObj.cells 30 [Mt (Cu c l l.length)],AObj.cells 27 [A5 (Cn (colsAt c l i) (colsAt c l (i+1)) m (bkM c l row k).1).2],AObj.cells 24 [Br ((Cn (colsAt c l i) (colsAt c l (i+1)) m (bkM c l row k).1).1)],AObj.defs,_],?_,by simp,(fun x hx=>by rw [Ao];exact hOl (lp:=_) (by exact ⟨hFRl,by simp [oid]⟩) x hx),.inr ⟨_,_,rfl,by rw [W7 ht31];exact herr⟩⟩
   subst hV
   simp only [C9,Hm,Fe,F5,List.set_cons_succ,List.set_cons_zero]
  have hB1:=hnxt (by simpa using ht54)
  refine ADi ?_
  subst hbz
  refine AHq ?_
  refine .inl ⟨rfl,hB1,?_⟩
  subst hV
  simp only [C9,Hm,Fe,F5,List.set_cons_succ,List.set_cons_zero]
  rw [htb,show (Cn (colsAt c l i) (colsAt c l (i+1)) m (bkM c l row k).1).2=0 by simpa using ht54]
 rintro r H' (⟨t,rfl,hrun,_⟩|⟨e,t,rfl,hrun⟩)
 ·refine ⟨Hp,_,_,_,rfl,rfl,fun h=>h,?_,rfl,by simp,?_⟩
  ·intro o ho
   have:o=oid Hp.length 5:=by simpa using ho
   subst this
   rw [C0]
   rfl
  refine Z11 ?_;refine Z2 ?_;refine Gc ?_;refine Gc ?_;refine A2 [6,7] ?_;refine Dd ?_;exact A8 (B1 (Hg jA) (Hg jA)) ⟨by rw [hrun],rfl⟩ (hlow:=by simp only [io,Bu,Fi,or_false];rintro y (rfl|rfl);exact Dc;simp)
 refine ⟨Hp,_,_,_,rfl,rfl,fun h=>h,?_,rfl,by simp,?_⟩
 ·intro o ho
  have:o=oid Hp.length 5:=by simpa using ho
  subst this
  rw [C0]
  rfl
 refine W.nilOwn 0 3 ?_;refine Z21 ?_;exact A8 (B1 (Hg jA) (Hg jA)) ⟨by rw [hrun];rfl,rfl⟩

/-! mig.Parse: the first fault is r7. -/
inductive PR (α:Type) where
 | ok (r:α) (i:Nat)
 | bad (e a:Int)
def PR.bind {α β:Type} (x:PR α) (f:α→Nat→PR β):PR β:=match x with
 | .ok r i=>f r i
 | .bad e a=>.bad e a
def g0 {α:Type} (L:List Tok) (i:Nat) (e:Int):PR α:=.bad e (Aq L i).at_
def isP (L:List Tok) (s:Str) (i:Nat):Bool:=(((Aq L i).kind==5) || ((Aq L i).kind==2))&&((Aq L i).text==s)
def Dl (L:List Tok) (s:Str) (i:Nat):PR Unit:=if isP L s i then .ok () (i+1) else g0 L i 8
def Im (L:List Tok) (i:Nat):PR Str:=if (Aq L i).kind != 1 then g0 L i 8 else .ok (Aq L i).text (i+1)
def xc (L:List Tok) (nm:Str) (j:Nat):PR Col:=if ((Aq L j).kind != 2) || (Wo (Aq L j).text==0) then g0 L j 8 else .ok ⟨nm,Wo (Aq L j).text⟩ (j+1)
def Ly (L:List Tok) (i:Nat):PR Col:=(Im L i).bind (xc L)
def P7 (L:List Tok) (i:Nat):PR Expr:=if (atM L i).2.2.1 != 0 then .bad (atM L i).2.2.1 (atM L i).2.2.2 else .ok (atM L i).1 (atM L i).2.1.toNat
def Eh (m:Mov) (c:Col):Mov:={ m with give:=m.give++[c] }
def xd (m:Mov) (x:Expr):Mov:={ m with ahead:=m.ahead++[x] }
def G8 (L:List Tok) (m:Mov) (i:Nat):PR Mov:=(Ly L i).bind fun c j=>(Dl L [61] j).bind fun _ j=>(P7 L j).bind fun x j=>.ok (xd (Eh m c) x) j
def Wx (L:List Tok) (n:Int) (k:Nat) (i:Nat):Bool:=decide ((k:Int)<n) || ((n==0)&&(decide ((k:Int)<2) || isP L [44] i))
/-- Things with commas between, behind the first k. -/
def Uj (L:List Tok) (n:Int) (one:Mov→Nat→PR Mov):Nat→Nat→Mov→Nat→PR Mov
 | 0,_,m,i=>.ok m i
 | f+1,k,m,i=>if Wx L n k i then (Dl L [44] i).bind fun _ j=>(one m j).bind fun m j=>Uj L n one f (k+1) m j else .ok m i
def Jp (L:List Tok) (n:Int) (one:Mov→Nat→PR Mov) (m:Mov) (i:Nat):PR Mov:=(one m i).bind fun m j=>Uj L n one (L.length+1) 1 m j
def AGk:Str:=[98,97,99,107]
def Lg:Str:=[105,110,116,111]
def toW:Str:=[116,111]
def xe (m:Mov) (x:Expr):Mov:={ m with back:=m.back++[x] }
def Wy (L:List Tok) (m:Mov) (i:Nat):PR Mov:=(P7 L i).bind fun x j=>.ok (xe m x) j
def Ha (L:List Tok) (m:Mov) (i:Nat):PR Mov:=(Dl L AGk i).bind fun _ j=>Jp L m.take.length (Wy L) m j
def Lz (L:List Tok) (m:Mov) (i:Nat):PR Mov:=(Im L i).bind fun s j=>(Dl L toW j).bind fun _ j=>(Im L j).bind fun t j=>.ok ⟨m.kind,[s],[⟨t,0⟩],[Dt s],[Dt t]⟩ j
def takeS (m:Mov) (s:Str):Mov:={ m with take:=[s] }
def xf (m:Mov) (s:Str):Mov:={ m with take:=m.take++[s] }
def Uk (L:List Tok) (m:Mov) (i:Nat):PR Mov:=(Im L i).bind fun s j=>.ok (xf m s) j
def Jq (L:List Tok) (m:Mov) (i:Nat):PR Mov:=
 if m.kind==1 then G8 L m i
 else if m.kind==2 then (Im L i).bind fun s j=>Ha L (takeS m s) j
 else if m.kind==3 then Lz L m i
 else if m.kind==4 then (Im L i).bind fun s j=>(Dl L Lg j).bind fun _ j=>(Jp L 0 (G8 L) (takeS m s) j).bind fun m j=>Ha L m j
 else if m.kind==5 then (Jp L 0 (Uk L) m i).bind fun m j=>(Dl L Lg j).bind fun _ j=>(G8 L m j).bind fun m j=>Ha L m j
 else if m.kind==6 then (G8 L m i).bind fun m j=>Ha L (takeS m (m.give.getD 0 ⟨[],0⟩).name) j
 else .ok m i
def migWords:List Str:=[[],[97,100,100],[100,114,111,112],[114,101,110,97,109,101],[115,112,108,105,116],[109,101,114,103,101],[114,101,116,121,112,101]]
def Fa (k:Int):Str:=if (decide (k<1) || decide (6<k))=true then [] else migWords.getD k.toNat []
def Iw (s:Str):Int:=if Fa 1==s then 1 else if Fa 2==s then 2 else if Fa 3==s then 3 else if Fa 4==s then 4 else if Fa 5==s then 5 else if Fa 6==s then 6 else 0
def Qf (L:List Tok) (i:Nat):PR Mov:=
 if ((Aq L i).kind != 2) || (Iw (Aq L i).text==0) then g0 L i 8
 else (Jq L ⟨Iw (Aq L i).text,[],[],[],[]⟩ (i+1)).bind fun m j=>(Dl L [59] j).bind fun _ j=>.ok m j
/-- Moves, behind some. -/
def Ox (L:List Tok):Nat→List Mov→Nat→PR (List Mov)
 | 0,l,i=>.ok l i
 | f+1,l,i=>if (Aq L i).kind != 0 then (if (l.length:Int)==8 then g0 L i 3 else (Qf L i).bind fun m j=>Ox L f (l++[m]) j) else .ok l i
def L9 (L:List Tok):PR (List Mov):=Ox L 9 [] 0
/-- The moves; the fault's code and place. -/
def Xj (s:Str):List Mov×Int×Int:=
 if (I7 s).2.1 != 0 then ([],(I7 s).2.1,(I7 s).2.2)
 else match L9 (I7 s).1 with
  | .ok l _=>(l,0,0)
  | .bad e a=>([],e,a)
end Go.SX.Nb
namespace Go.SX
variable [GI:GlobInv]
open Classical
section
variable {P:Program} {d:Nat}
variable {sz:Nat} {dfs:List Nat} {rnd:Option Nat} {l0:List Oper} {up own:(Nat→Bool)→List AObj} {KP:List PanicEntry→St→Prop} {E:List Oper→(Nat→AV)→Prop} {S:List SegY} {l:List Oper} {fr:Nat→AV} {ty:TypeId} {pos:String} {aft:Array Edge} {s:Nat} {T F:List Nat}
end
section
variable {P:Program} {d:Nat} {ops:Array Oper}
theorem AW.upEq {c:Code} {sz:Nat} {fr:Nat→AV} {up up' own:List AObj} {dfs:List Nat} {rnd:Option Nat} {K:Exit→St→Prop} (e:up=up') (h:AW P d c ⟨sz,fr,up',own,dfs,rnd⟩ K):AW P d c ⟨sz,fr,up,own,dfs,rnd⟩ K:=e ▸ h
end
end Go.SX
namespace Go.SX
def T0:=@AW.upEq
end Go.SX
