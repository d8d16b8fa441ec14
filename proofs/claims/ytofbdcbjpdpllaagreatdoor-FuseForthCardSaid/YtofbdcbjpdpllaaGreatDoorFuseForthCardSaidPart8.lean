/- On the way (part 8). -/
import Derived.Lib.ParseIntBTie
import Derived.Shelf.Strings.Builder1
import Derived.Lib.ItoaLen
import Derived.Test.YtofbdcbjpdpllaaGreatDoorFuseForthCardSaidPart7
set_option linter.all false
namespace Go.SX.Nb
open Go Go.SX Go.Proofs
variable [ErrAt]
set_option maxRecDepth 4000
theorem c93 (l:List Col) (hl:l.length≤1000000) (Hp:List AObj):AFun Tryz.prog 93 [Am l] Hp (Am l):=by
 refine Af [.tmp 2] [0] Tryz.func93 Tryz.ntmps93 (fun d=>?_)
 refine k8 ?_
 refine R.eqlNil jU (by kernel_rfl) (fun b hb=>?_)
 refine A2 [0,4] ?_
 refine A3 (fun ht4=>?_) (fun ht4=>?_)
 ·have hl0:l=[]:=by simpa using hb ht4
  subst hl0
  refine Z2 ?_;refine Ru 2 2 false ?_;refine Z3 ?_;exact AMk
 refine Z5 ?_;refine jt ?_;refine A4 ?_
 refine Eu jU Tryz.type41 ?_ ?_ ?_
 ·simp [Tryz.t41];omega
 ·simp [Tryz.t41];omega
 refine L1 ?_;exact AMq

theorem AD7 {Hp:List AObj} {y:Col} {n:Nat} (h:∀x∈Hp,ObjLow Hp.length x):∀x∈Hp++[AObj.cells 41 [],AObj.cells 41 (Ae y.name::A5 y.kind::List.replicate n AV.any)],ObjLow (Hp.length+2) x:=by
 intro x hx
 rcases E7.1 hx with hx|hx
 ·exact Oe (by omega) (h x hx)
 simp only [B5,El,or_false] at hx
 rcases hx with rfl|rfl
 ·intro z hz;cases hz
 intro z hz
 simp only [B5] at hz
 rcases hz with rfl|rfl|hz
 ·simp
 ·simp
 rw [List.eq_of_mem_replicate hz];simp
theorem AQi (y:Col) (Hp:List AObj):ACallO Tryz.prog 93 [Am [y]] Hp (fun r H'=>∃cc,1≤cc∧r=.sl (oid Hp.length 1) 2 1 cc∧H'=Hp++[.cells 41 [],.cells 41 (Ae y.name::A5 y.kind::List.replicate ((cc-1)*2) AV.any)]):=by
 refine ACallO.body [.tmp 2] [0] Tryz.func93 Tryz.ntmps93 (fun d=>?_)
 refine Z43 ?_;refine Z67 ?_
 refine N8 (fun hlow=>?_)
 refine A4 ?_
 refine R.eqlNil jU (by kernel_rfl) (fun b hb=>?_)
 refine A2 [0,4] ?_
 refine A3 (fun ht4=>?_) (fun ht4=>?_)
 ·exact absurd (hb ht4) (by simp)
 refine x5 ?_;refine R.buildObj0 (n:=0) jU Tryz.sizeOf41 ?_;refine A4 ?_
 refine R.appendObj (k:=2) (n:=1) jU Tryz.type41 (show [Bq y]≠[] by simp) ?_ ?_ (fun cc hcc=>?_)
 ·simp [Tryz.t41]
 ·simp
 have e0:Ni [Bq y]++List.replicate ((cc-[Bq y].length)*2) AV.any=Ae y.name::A5 y.kind::List.replicate ((cc-1)*2) AV.any:=rfl
 rw [e0]
 clear e0
 refine A4 ?_;refine Z3 ?_;exact K.finO 2 (A6 (t:=2)) ⟨cc,hcc,rfl,rfl⟩ (hlow:=by simp [oid]) (hobj:=AD7 hlow)

theorem AO7 (c:List Col) (hc:OkCols c) (m:Mov) (h:OkMov m) (h3:(m.kind==3)=false) (Hp:List AObj):AFun Tryz.prog 185 [Am c,Gw m] Hp (Am (B8 c m)):=by
 refine Af [.tmp 4] [0,1] Tryz.func185 Tryz.ntmps185 (fun d=>?_)
 refine od ?_;refine Z1 ?_;refine Aa Tryz.call93 (c93 m.give h.gives2 _) ?_;refine A4 ?_;refine AFm ?_;refine A2 [0,3,5,12] ?_
 refine A3 (fun ht12=>?_) (fun ht12=>?_)
 ·rw [h3] at ht12;cases ht12
 refine Ro ?_;exact ALs

theorem AO8 (c:List Col) (hc:OkCols c) (m:Mov) (h:OkMov m) (h3:(m.kind==3)=true) (s:Str) (y:Col) (ht:m.take=[s]) (hg:m.give=[y]) (Hp:List AObj):AFun Tryz.prog 185 [Am c,Gw m] Hp (Am (B8 c m)):=by
 have hgv:=uk (c:=c) h3 ht hg
 have hgy:=ly (c:=c) h3 ht hg
 obtain ⟨kd,tk,gv,ah,bk⟩:=m
 simp only at ht hg h3
 subst ht hg
 refine Af [.tmp 4] [0,1] Tryz.func185 Tryz.ntmps185 (fun d=>?_)
 refine od ?_;refine Z1 ?_;refine R.callO Tryz.call93 (AQi y _) ?_
 rintro _ _ ⟨cc,hcc,rfl,rfl⟩
 refine ⟨[.cells 41 [],.cells 41 (Ae y.name::A5 y.kind::List.replicate ((cc-1)*2) AV.any)],by simp,?_⟩
 simp only [H4,Ec]
 refine A4 ?_;refine AFm ?_;refine A2 [0,3,5,12] ?_
 refine A3 (fun ht12=>?_) (fun ht12=>?_)
 ·refine Z17 ?_
  refine A4 (h:=Ac (0) (Ae s) (fun _=>rfl)) (hr:=?_)
  refine A4 ?_;refine Aa Tryz.call58 (c58 c hc s _) ?_;refine A4 ?_;refine A2 [0,5,6] ?_;refine Z1 ?_;refine A2 [0,5,6,20] ?_
  refine A3 (fun ht20=>?_) (fun ht20=>?_)
  ·have hf:¬B6 s c<0:=by simp at ht20;omega
   obtain ⟨jj,hjj,hjc⟩:=Hh hf
   refine Z34 ?_
   refine A4 (h:=Ac ((B6 s c).toNat) (Bq (c.getD (B6 s c).toNat ⟨[],0⟩)) (fun _=>Wq hf)) (hr:=?_)
   refine Z0 ?_;refine R.indexAddrSl (n:=1) 0 jU Tryz.sizeOf41 (by decide) ?_
   refine A4 (h:=Q.fieldAddrPtr (hc:=rfl)) (hr:=?_)
   refine fq (y:=A5 (c.getD (B6 s c).toNat ⟨[],0⟩).kind) (ys:=[A5 (c.getD (B6 s c).toNat ⟨[],0⟩).kind]) (n:=1) (cs:=Ae y.name::A5 y.kind::List.replicate ((cc-1)*2) AV.any) (cs':=Ae y.name::A5 (c.getD (B6 s c).toNat ⟨[],0⟩).kind::List.replicate ((cc-1)*2) AV.any) (t':=41) jS ?_ (hc:=rfl) (hput:=rfl) (hfit:=by simp)
   refine A2 [5] ?_;refine Fh ?_;refine Z94 ?_;exact AFj
  have hf:B6 s c<0:=by simp at ht20;omega
  refine Z5 ?_;refine AL5 ?_;exact AFj
 rw [h3] at ht12;cases ht12

/-- What a move must have before it is turned. -/
structure MvOk (m:Mov):Prop where
 ok:OkMov m
 ahead:m.ahead.length=m.give.length
 back:m.back.length=m.take.length
 one:(m.kind==3)=true→m.take.length=1∧m.give.length=1
theorem AH0 {m:Mov} (h:OkMov m) (hc:Gi m=true):MvOk m:=⟨h,(Fx hc).1,(Fx hc).2,fun h3=>Px hc (by rw [h3];rfl)⟩
theorem AQj (c:List Col) (hc:OkCols c) (m:Mov) (h:MvOk m) (Hp:List AObj):AFun Tryz.prog 185 [Am c,Gw m] Hp (Am (B8 c m)):=by
 cases h3:m.kind==3 with
 | false=>exact AO7 c hc m h.ok h3 Hp
 | true =>
  obtain ⟨h1,h2⟩:=h.one h3
  obtain ⟨s,hs⟩:=il h1
  obtain ⟨y,hy⟩:=il h2
  exact AO8 c hc m h.ok h3 s y hs hy Hp
theorem AQk (c:List Col) (hc:OkCols c) (m:Mov) (h:MvOk m) (Hp:List AObj):AFun Tryz.prog 107 [Am c,Gw m] Hp (Am (B8 c m)):=by
 cases h3:m.kind==3 with
 | false=>exact AQg c hc m h.ok h3 Hp
 | true =>
  obtain ⟨h1,h2⟩:=h.one h3
  obtain ⟨s,hs⟩:=il h1
  obtain ⟨y,hy⟩:=il h2
  exact AQh c hc m h.ok h3 s y hs hy Hp
theorem Yt {c:List Col} {m:Mov} (h:OkMov m):OkCols (B8 c m):=by
 refine ⟨by rw [Ie];exact Jg h.gives2 (by decide),fun y hy=>?_⟩
 unfold B8 at hy
 split at hy
 ·split at hy
  ·exact h.gives.2 y hy
  cases hg:m.give with
  | nil=>rw [hg] at hy;cases hy
  | cons z r =>
   rw [hg] at hy
   rcases B5.1 hy with rfl|hy
   ·exact h.gives.2 z (by rw [hg];exact Hu)
   exact h.gives.2 y (by rw [hg];exact Kr _ hy)
 exact h.gives.2 y hy
theorem Yu {c give:List Col} {take:List Str} (hc:OkCols c) (hg:OkCols give) (hg2:give.length≤1000000):OkCols (Da c take give).1:=by
 have h0:OkCols ([]:List Col):=⟨by decide,fun y hy=>by cases hy⟩
 unfold Da
 split
 ·exact h0
 rename_i hr
 split
 ·exact h0
 split
 ·exact h0
 split
 ·exact h0
 split
 ·exact h0
 exact qu hc (by simpa using hr) hg hg2 rfl
theorem Yv {c give:List Col} {take:List Str} (h:((Da c take give).2 != 0)=false):∀s∈take,¬B6 s c<0:=by
 have ht:Ht c take=true:=by
  unfold Da at h
  split at h
  ·cases h
  split at h
  ·cases h
  rename_i ht
  simpa using ht
 intro s hs hf
 obtain ⟨j,hj⟩:=Cm hs
 have:=takenM_true.1 ht j s hj
 unfold Iz at this
 rw [show decide (B6 s c<0)=true by simpa using hf] at this
 simp at this
theorem Us {over:List Col} {l:List Expr} {w:List Col} {x:Nat} (hl:x<l.length) (hw:x<w.length):
  Ck over (l.drop x) (w.drop x)=if Mh l[x] over w[x].kind != 0 then Mh l[x] over w[x].kind else Ck over (l.drop (x+1)) (w.drop (x+1)):=by
 rw [L5 hl,L5 hw]
 rfl
theorem Yw {over:List Col} {l:List Expr} {w:List Col} {x:Nat} (hl:l.length≤x):Ck over (l.drop x) (w.drop x)=0:=by
 rw [List.drop_eq_nil_of_le hl]
 cases w.drop x<;>rfl
theorem Ns {α β:Type} {f:α→β} {l:List α} {x:Nat} (h:x<l.length):(l.take (x+1)).map f=(l.take x).map f++[f l[x]]:=by
 rw [Hv h,By];rfl
theorem im {c:List Col} {m:Mov} (h:((Da c m.take (B8 c m)).2 != 0)=true):C1 c m=([],(Da c m.take (B8 c m)).2):=if_pos h
theorem io {c:List Col} {m:Mov} (h:((Da c m.take (B8 c m)).2 != 0)=false) (h2:(Ck c m.ahead (B8 c m) != 0)=true):C1 c m=([],Ck c m.ahead (B8 c m)):=by
 unfold C1;rw [if_neg (by rw [h];simp),if_pos h2]
theorem ip {c:List Col} {m:Mov} (h:((Da c m.take (B8 c m)).2 != 0)=false) (h2:(Ck c m.ahead (B8 c m) != 0)=false) (h3:(Ck (Da c m.take (B8 c m)).1 m.back (Gx c m) != 0)=true):C1 c m=([],Ck (Da c m.take (B8 c m)).1 m.back (Gx c m)):=by
 unfold C1;rw [if_neg (by rw [h];simp),if_neg (by rw [h2];simp),if_pos h3]
theorem iq {c:List Col} {m:Mov} (h:((Da c m.take (B8 c m)).2 != 0)=false) (h2:(Ck c m.ahead (B8 c m) != 0)=false) (h3:(Ck (Da c m.take (B8 c m)).1 m.back (Gx c m) != 0)=false):C1 c m=((Da c m.take (B8 c m)).1,0):=by
 unfold C1;rw [if_neg (by rw [h];simp),if_neg (by rw [h2];simp),if_neg (by rw [h3];simp)]
theorem AO9 (l:List Expr) (h:OkEs l) (w:List Col) (hw:w.length=l.length) (c:List Col) (hc:OkCols c) (Hp:List AObj):AFun Tryz.prog 187 [Cj l,Am w,Am c] Hp (A5 (Ck c l w)):=by
 refine Af [.tmp 6] [0,1,2] Tryz.func187 Tryz.ntmps187 (fun d=>?_)
 refine Z2 ?_;refine Wb ?_;refine Z36 ?_;refine A2 [1,2,11,12,13] ?_
 refine B7 (α:=Nat) (fun x=>⟨37,A7 1 (Am w) (A7 2 (Am c) (A7 11 (Cj l) (A7 12 (A5 (l.length:Nat)) (A7 13 (A5 (x:Nat)) (fun _=>.any))))),Hp,[],[],none⟩) (fun x=>x≤l.length∧Ck c l w=Ck c (l.drop x) (w.drop x)) (fun x=>l.length-x) (0) ⟨Ar _,rfl⟩ (Bo (by simp)) rfl (fun x hx=>?_)
 refine Z2 ?_;refine A2 [1,2,11,12,13,14] ?_
 refine Dm (fun ht14=>?_) (fun ht14=>?_)
 ·have hlt:x<l.length:=by simpa using ht14
  have hlw:x<w.length:=by omega
  have hlen:=h.len
  have hst:=Us (over:=c) hlt hlw
  refine Pl ?_
  refine A4 (h:=Ac (x) (A9 l[x]) (fun _=>Ax hlt)) (hr:=?_)
  refine gi ?_;refine A2 [1,2,7,8,11,12,13] ?_;refine Z8 ?_;refine Aa Tryz.call13 (c13 61 l[x] (h.ok _ (B1 hlt)) (by decide) c hc _) ?_;refine Z75 ?_;refine A2 [1,2,7,8,10,11,12,13] ?_;refine Z1 ?_;refine A2 [1,2,7,8,10,11,12,13,25] ?_
  refine A3 (fun ht25=>?_) (fun ht25=>?_)
  ·have he:Mh l[x] c w[x].kind=(F4 l[x] c).2:=if_pos ht25
   have hm:Ck c l w=(F4 l[x] c).2:=by rw [hx.2,hst,he,if_pos ht25]
   refine Z1 ?_;refine Z48 ?_;refine C4 ?_;exact aa
  refine Z5 ?_;refine De [0,0,0,0,12,28,60,127,255] 7 An (by kernel_rfl) ?_;refine Z84 ?_
  refine Al (h:=Ac (x) (Bq w[x]) (fun _=>Ax hlw)) (hr:=?_)
  refine Qt ?_;refine Aa Tryz.call244 (AQd 61 l[x] (h.ok _ (B1 hlt)) (by decide) c hc w[x].kind _) ?_;refine A4 ?_;refine A2 [1,2,11,12,13,35] ?_
  refine A3 (fun ht35=>?_) (fun ht35=>?_)
  ·have he:Mh l[x] c w[x].kind=10:=by unfold Mh;rw [if_neg (by rw [ht25];simp),if_pos ht35]
   have hm:Ck c l w=10:=by rw [hx.2,hst,he];rfl
   refine aj ?_;exact aa
  have he:Mh l[x] c w[x].kind=0:=by unfold Mh;rw [if_neg (by rw [ht25];simp),if_neg (by rw [ht35];simp)]
  have hnx:Ck c l w=Ck c (l.drop (x+1)) (w.drop (x+1)):=by rw [hx.2,hst,he];rfl
  refine Z97 ?_;refine A2 [1,2,11,12,13] ?_;refine Bb (x+1) ⟨hlt,hnx⟩ (by omega) ?_
  exact D4 (own:=[]) (fun _=>.refl _) (by repeat (first|exact Be|refine Bd (by first|(simp [or_imp,forall_and];done)|exact F1) ?_)) (by simp) (by simp)
 have hxe:l.length≤x:=by simpa using ht14
 have hm:Ck c l w=0:=by rw [hx.2,Yw hxe]
 refine Z28 ?_;refine aj ?_;exact ka

theorem AQl (c:List Col) (hc:OkCols c) (m:Mov) (h:OkMov m) (hf:∀s∈m.take,¬B6 s c<0) (Hp:List AObj):AFun Tryz.prog 188 [Am c,Gw m] Hp (Am (Gx c m)):=by
 refine Af [.tmp 4] [0,1] Tryz.func188 Tryz.ntmps188 (fun d=>?_)
 refine od ?_;refine Z2 ?_;refine A2 [0,3,5] ?_;refine Z67 ?_;refine N7 5 2 ?_;refine Z89 ?_;refine A2 [0,5,9,10,11] ?_
 refine B7 (α:=Nat) (fun x=>⟨26,A7 0 (Am c) (A7 5 (.slice true 2 (((m.take.take x).map fun s=>c.getD (B6 s c).toNat ⟨[],0⟩).map Bq)) (A7 9 (Gq m.take) (A7 10 (A5 (m.take.length:Nat)) (A7 11 (A5 (x:Nat)) (fun _=>.any))))),Hp,[],[],none⟩) (fun x=>x≤m.take.length) (fun x=>m.take.length-x) (0) (Ar _) (Bo (by simp)) rfl (fun x hx=>?_)
 refine Z2 ?_;refine A2 [0,5,9,10,11,12] ?_
 refine Dm (fun ht12=>?_) (fun ht12=>?_)
 ·have hlt:x<m.take.length:=by simpa using ht12
  have htk:=h.takes
  have hfx:=hf _ (B1 hlt)
  obtain ⟨jj,hjj,hjc⟩:=Hh hfx
  refine Qr ?_
  refine A4 (h:=Ac (x) (Ae m.take[x]) (fun _=>Ax hlt)) (hr:=?_)
  refine Z0 ?_;refine A2 [0,5,7,9,10,11] ?_;refine wm ?_;refine Z22 ?_;refine Aa Tryz.call58 (c58 c hc m.take[x] _) ?_
  refine A4 (h:=Ac ((B6 m.take[x] c).toNat) (Bq (c.getD (B6 m.take[x] c).toNat ⟨[],0⟩)) (fun _=>Wq hfx)) (hr:=?_)
  refine Z57 ?_
  refine Eu jU Tryz.type41 ?_ ?_ ?_
  ·simp only [Aj,Ci,Aw,Az,Tryz.t41];omega
  ·simp only [Aj,Ci,Aw,Az,Tryz.t41];omega
  refine L1 ?_;refine A2 [0,5,9,10,11] ?_;refine Qv ?_;refine A2 [0,5,9,10,11] ?_
  refine Bb (x+1) hlt (by omega) (Cg ?_)
  rw [Ns hlt,By]
  rfl
 have hxe:m.take.length≤x:=by simpa using ht12
 refine Z28 ?_;refine AB6 ?_;exact A8 (Ah A6) ⟨by unfold Gx;rw [E8 hxe]<;>rfl,rfl⟩ (hlow:=D8)

theorem AQm (c:List Col) (hc:OkCols c) (m:Mov) (h:MvOk m) (Hp:List AObj):AFun Tryz.prog 144 [Am c,Gw m] Hp (.tup [Am (C1 c m).1,A5 (C1 c m).2]):=by
 refine Af [.tmp 4,.tmp 5] [0,1] Tryz.func144 Tryz.ntmps144 (fun d=>?_)
 refine Z17 ?_;refine Ln ?_;refine Z1 ?_;refine Aa Tryz.call185 (AQj c hc m h _) ?_;refine A4 ?_;refine A2 [0,3,6] ?_;refine Fp ?_
 have hg:=Yt (c:=c) h.ok
 have hg2:(B8 c m).length≤1000000:=by rw [Ie];exact h.ok.gives2
 refine Z89 ?_;refine Aa Tryz.call186 (AQc c hc m.take h.ok.takes (B8 c m) hg hg2 _) ?_;refine Z75 ?_;refine A2 [0,3,6,7,8] ?_;refine Z8 ?_;refine A2 [0,3,6,7,8,23] ?_
 refine A3 (fun ht23=>?_) (fun ht23=>?_)
 ·have hm:=im ht23
  exact AFh
 refine Z5 ?_;refine Z60 ?_;refine Aa Tryz.call187 (AO9 m.ahead h.ok.ahead (B8 c m) (by rw [Ie,h.ahead]) c hc _) ?_;refine A4 ?_;refine A2 [0,3,7,9] ?_;refine Z1 ?_;refine A2 [0,3,7,9,31] ?_
 refine A3 (fun ht31=>?_) (fun ht31=>?_)
 ·have hm:=io ht23 ht31
  exact AFh
 refine Z5 ?_;refine Ma ?_;refine De [0,1,0,0,12,0,63,127] 6 An (by kernel_rfl) ?_;refine Z84 ?_;refine E1 Tryz.call188 (AQl c hc m h.ok (Yv ht23) _) ?_;refine Al ?_;refine Ey ?_;refine Aa Tryz.call187 (AO9 m.back h.ok.back (Gx c m) (by rw [Gx,Aj,h.back]) (Da c m.take (B8 c m)).1 (Yu hc hg hg2) _) ?_;refine A4 ?_;refine A2 [7,10] ?_;refine Z1 ?_;refine A2 [7,10,41] ?_
 refine A3 (fun ht41=>?_) (fun ht41=>?_)
 ·have hm:=ip ht23 ht31 ht41
  exact AFh
 have hm:=iq ht23 ht31 ht41
 refine Ss ?_;exact AJ8

theorem c62 (c:List Col) (hc:OkCols c) (m:Mov) (h:MvOk m) (Hp:List AObj):AFun Tryz.prog 62 [Am c,Gw m] Hp (.tup [Am (C1 c m).1,A5 (C1 c m).2]):=by
 refine Af [.tmp 4,.tmp 5] [0,1] Tryz.func62 Tryz.ntmps62 (fun d=>?_)
 refine Z17 ?_;refine Ln ?_;refine Z1 ?_;refine Aa Tryz.call107 (AQk c hc m h _) ?_;refine A4 ?_;refine A2 [0,3,6] ?_;refine Fp ?_
 have hg:=Yt (c:=c) h.ok
 have hg2:(B8 c m).length≤1000000:=by rw [Ie];exact h.ok.gives2
 have hgl:=Ie c m
 have hah:=h.ahead
 have hbk:=h.back
 have htk:=h.ok.takes
 refine Z89 ?_;refine Aa Tryz.call108 (APy c hc m.take h.ok.takes (B8 c m) hg hg2 _) ?_;refine Z75 ?_;refine A2 [0,3,6,7,8] ?_;refine Z8 ?_;refine A2 [0,3,6,7,8,25] ?_
 refine A3 (fun ht25=>?_) (fun ht25=>?_)
 ·have hm:=im ht25
  exact AFh
 have hfd:=Yv ht25
 refine Rm ?_;refine A2 [0,3,6,7,9] ?_
 refine B7 (α:=Nat) (fun x=>⟨77,A7 0 (Am c) (A7 3 (.ro (J6 m)) (A7 6 (Am (B8 c m)) (A7 7 (Am (Da c m.take (B8 c m)).1) (A7 9 (A5 (x:Nat)) (fun _=>.any))))),Hp,[],[],none⟩) (fun x=>x≤(B8 c m).length∧Ck c m.ahead (B8 c m)=Ck c (m.ahead.drop x) ((B8 c m).drop x)) (fun x=>(B8 c m).length-x) (0) ⟨Ar _,rfl⟩ (Bo (by simp)) rfl (fun x hx=>?_)
 refine Z60 ?_;refine A2 [0,3,6,7,9,30] ?_
 refine A3 (fun ht30=>?_) (fun ht30=>?_)
 ·have hlt:x<(B8 c m).length:=by simpa using ht30
  have hla:x<m.ahead.length:=by omega
  have hst:=Us (over:=c) hla hlt
  refine Z50 ?_;refine De [0,1,0,7,15,0,0,96,224,480,0,2047,4095] 11 An (by kernel_rfl) ?_;refine Z40 ?_
  refine Al (h:=Ac (x) (A9 m.ahead[x]) (fun _=>Ax hla)) (hr:=?_)
  refine Z40 ?_
  refine Al (h:=Ac (x) (Bq (B8 c m)[x]) (fun _=>Ax hlt)) (hr:=?_)
  refine Z40 ?_;refine Ey ?_;refine Aa Tryz.call109 (AO6 61 m.ahead[x] (h.ok.ahead.ok _ (B1 hla)) (by decide) (h.ok.ahead.size _ (B1 hla)) (B8 c m)[x].kind c hc _) ?_;refine A4 ?_;refine A2 [0,3,6,7,9,10] ?_;refine Z1 ?_;refine A2 [0,3,6,7,9,10,46] ?_
  refine A3 (fun ht46=>?_) (fun ht46=>?_)
  ·have hf1:Ck c m.ahead (B8 c m)=Mh m.ahead[x] c (B8 c m)[x].kind:=by rw [hx.2,hst,if_pos ht46]
   have hm:=io ht25 (by rw [hf1];exact ht46)
   rw [hf1] at hm
   refine Z1 ?_;refine AIy ?_;refine Z9 ?_;exact AFd
  have hnx:Ck c m.ahead (B8 c m)=Ck c (m.ahead.drop (x+1)) ((B8 c m).drop (x+1)):=by rw [hx.2,hst,if_neg (by rw [ht46];simp)]
  refine Z81 ?_;refine A2 [0,3,6,7,9] ?_;exact Bb (x+1) ⟨hlt,hnx⟩ (by omega) (Cg rfl)
 have hxe:(B8 c m).length≤x:=by simpa using ht30
 have hf1:Ck c m.ahead (B8 c m)=0:=by rw [hx.2,Yw (by omega)]
 refine Z55 ?_;refine Z32 ?_;refine A2 [0,3,7,11] ?_
 refine B7 (α:=Nat) (fun k=>⟨77,A7 0 (Am c) (A7 3 (.ro (J6 m)) (A7 7 (Am (Da c m.take (B8 c m)).1) (A7 11 (A5 (k:Nat)) (fun _=>.any)))),Hp,[],[],none⟩) (fun k=>k≤m.take.length∧Ck (Da c m.take (B8 c m)).1 m.back (Gx c m)=Ck (Da c m.take (B8 c m)).1 (m.back.drop k) ((Gx c m).drop k)) (fun k=>m.take.length-k) (0) ⟨Ar _,rfl⟩ (Bo (by simp)) rfl (fun k hk=>?_)
 refine W9 ?_;refine A2 [0,3,7,11,52] ?_
 refine A3 (fun ht52=>?_) (fun ht52=>?_)
 ·have hkt:k<m.take.length:=by simpa using ht52
  have hkb:k<m.back.length:=by omega
  have hfx:=hfd _ (B1 hkt)
  obtain ⟨jj,hjj,hjc⟩:=Hh hfx
  have hkc:k<(Gx c m).length:=by rw [Gx,Aj];exact hkt
  have htc:(Gx c m)[k]=c.getD (B6 m.take[k] c).toNat ⟨[],0⟩:=by simp only [Gx,Nz]
  have hst:=Us (over:=(Da c m.take (B8 c m)).1) hkb hkc
  rw [htc] at hst
  refine Z50 ?_;refine De [0,1,0,7,15,0,0,0,128,0,896,1920,4032,8160,16352,32736,0,131071,262143] 17 An (by kernel_rfl) ?_;refine Z40 ?_
  refine Al (h:=Ac (k) (A9 m.back[k]) (fun _=>Ax hkb)) (hr:=?_)
  refine Z84 ?_;refine Z11 ?_
  refine Al (h:=Ac (k) (Ae m.take[k]) (fun _=>Ax hkt)) (hr:=?_)
  refine Al ?_;refine E1 Tryz.call25 (c25 c hc m.take[k] _) ?_
  refine Al (h:=Ac ((B6 m.take[k] c).toNat) (Bq (c.getD (B6 m.take[k] c).toNat ⟨[],0⟩)) (fun _=>Wq hfx)) (hr:=?_)
  refine Z40 ?_;refine Ey ?_;refine Aa Tryz.call109 (AO6 61 m.back[k] (h.ok.back.ok _ (B1 hkb)) (by decide) (h.ok.back.size _ (B1 hkb)) (c.getD (B6 m.take[k] c).toNat ⟨[],0⟩).kind (Da c m.take (B8 c m)).1 (Yu hc hg hg2) _) ?_;refine A4 ?_;refine A2 [0,3,7,11,12] ?_;refine Z1 ?_;refine A2 [0,3,7,11,12,74] ?_
  refine A3 (fun ht74=>?_) (fun ht74=>?_)
  ·have hf2:=hk.2.trans hst
   rw [if_pos ht74] at hf2
   have hm:=ip ht25 (by rw [hf1];rfl) (by rw [hf2];exact ht74)
   rw [hf2] at hm
   refine Z1 ?_;refine AIy ?_;refine Z9 ?_;exact AFd
  have hnx:=hk.2.trans hst
  rw [if_neg (by rw [ht74];simp)] at hnx
  refine Z81 ?_;refine A2 [0,3,7,11] ?_;exact Bb (k+1) ⟨hkt,hnx⟩ (by omega) (Cg rfl)
 have hke:m.take.length≤k:=by simpa using ht52
 have hm:=iq ht25 (by rw [hf1];rfl) (by rw [hk.2,Yw (by omega)];rfl)
 refine Z55 ?_;refine Z17 ?_;refine Z9 ?_;exact AJ8

def R7 {α:Type} (p:α→Bool) (l:List α):Int:=if l.any p then (l.findIdx p:Int) else -1
theorem AD8 {α:Type} {p:α→Bool} {l:List α} {i:Nat} (h:i<l.length) (hn:p l[i]=true) (hp:∀(j:Nat) (y:α),j<i→l[j]? = some y→p y=false):(i:Int)=R7 p l:=by
 unfold R7
 rw [if_pos (K7.2 ⟨_,B1 h,hn⟩)]
 congr 1
 refine (List.findIdx_eq h |>.2 ⟨hn,fun j hj=>?_⟩).symm
 exact hp j (l[j]'(by omega)) hj (Ab (by omega))
theorem rc {α:Type} {p:α→Bool} {l:List α} (h:l.any p=false):(-1:Int)=R7 p l:=by
 unfold R7
 rw [if_neg (by rw [h];simp)]
theorem yj {α:Type} (p:α→Bool) (l:List α):decide (0≤R7 p l)=l.any p:=by
 unfold R7
 cases l.any p<;>simp
def Py (s:Str):Bool := !(Dk s)
def Gz (e:Expr):Bool := !(B3 e)
theorem m8 {m:Mov} (h:(((m.ahead.length:Int) != (m.give.length:Int)) || ((m.back.length:Int) != (m.take.length:Int)))=true):Gi m=false:=if_pos h
theorem m9 {m:Mov} (h:(((m.ahead.length:Int) != (m.give.length:Int)) || ((m.back.length:Int) != (m.take.length:Int)))=false):Gi m=if m.kind==1 then ((m.take.length:Int)==0)&&((m.give.length:Int)==1)
 else if m.kind==2 then ((m.take.length:Int)==1)&&((m.give.length:Int)==0)
 else if (m.kind==3) || (m.kind==6) then ((m.take.length:Int)==1)&&((m.give.length:Int)==1)
 else if m.kind==4 then ((m.take.length:Int)==1)&&decide ((1:Int)<(m.give.length:Int))
 else if m.kind==5 then decide ((1:Int)<(m.take.length:Int))&&((m.give.length:Int)==1)
 else false:=if_neg (by rw [h];simp)
theorem AQn (m:Mov) (Hp:List AObj):AFun Tryz.prog 235 [Gw m] Hp (Bk (Gi m)):=by
 refine Af [.tmp 2] [0] Tryz.func235 Tryz.ntmps235 (fun d=>?_)
 refine Z90 ?_;refine De [0,1,3,0,8,24,7,127] 7 An (by kernel_rfl) ?_;refine Z84 ?_;refine Z40 ?_;refine jv ?_;refine gn ?_;refine Z67 ?_
 simp only [Aj]
 refine Z89 ?_;refine Z47 ?_;refine Sr ?_;refine A2 [1,3,4,22] ?_
 refine A3 (fun ht22=>?_) (fun ht22=>?_)
 ·simp only [Aj] at ht22
  have hm:=m8 ht22
  exact ABa
 simp only [Aj] at ht22
 have hn:=m9 ht22
 refine Z5 ?_;refine Z8 ?_;refine A2 [3,4,24] ?_;refine Pj ?_;refine A2 [3,4,24,25] ?_
 refine A3 (fun ht25=>?_) (fun ht25=>?_)
 ·refine jy ?_;refine Z6 ?_;exact A8 (Ah A6) ⟨by rw [hn];first|(simp only [ht22,ht25,hk3,hk6,Bg,B4,Gm,K6,if_true,if_false,Aq,↓reduceIte]<;>rfl)|(simp only [ht22,ht25,hk3,Bg,B4,Gm,if_true,if_false,Aq,↓reduceIte]<;>rfl)|(simp only [ht22,ht25,if_true,if_false,Aq,↓reduceIte]<;>rfl),rfl⟩
 refine Z1 ?_;refine A2 [3,4,24,33] ?_
 refine A3 (fun ht33=>?_) (fun ht33=>?_)
 ·refine jy ?_;refine Z6 ?_;exact A8 (Ah A6) ⟨by rw [hn];first|(simp only [ht22,ht25,ht33,hk3,hk6,Bg,B4,Gm,K6,if_true,if_false,Aq,↓reduceIte]<;>rfl)|(simp only [ht22,ht25,ht33,hk3,Bg,B4,Gm,if_true,if_false,Aq,↓reduceIte]<;>rfl)|(simp only [ht22,ht25,ht33,if_true,if_false,Aq,↓reduceIte]<;>rfl),rfl⟩
 refine Z8 ?_;refine A2 [3,4,24,41] ?_
 refine A3 (fun ht41=>?_) (fun ht41=>?_)
 ·have hk3:=ht41
  refine Z5 ?_
  refine A3 (fun ht41=>?_) (fun ht41=>?_)
  ·refine jy ?_;exact Z59
  rw [hk3] at ht41;cases ht41
 have hk3:=ht41
 refine Z12 ?_;refine A2 [3,4,24,41] ?_;refine Fh ?_
 refine A3 (fun ht41=>?_) (fun ht41=>?_)
 ·have hk6:=ht41
  refine jy ?_;exact Z59
 have hk6:=ht41
 refine Z1 ?_;refine A2 [3,4,24,50] ?_
 refine A3 (fun ht50=>?_) (fun ht50=>?_)
 ·refine jy ?_;refine Z6 ?_;exact A8 (Ah A6) ⟨by rw [hn];first|(simp only [ht22,ht25,ht33,ht41,ht41,ht50,hk3,hk6,Bg,B4,Gm,K6,if_true,if_false,Aq,↓reduceIte]<;>rfl)|(simp only [ht22,ht25,ht33,ht41,ht41,ht50,hk3,Bg,B4,Gm,if_true,if_false,Aq,↓reduceIte]<;>rfl)|(simp only [ht22,ht25,ht33,ht41,ht41,ht50,if_true,if_false,Aq,↓reduceIte]<;>rfl),rfl⟩
 refine Z1 ?_;refine A2 [3,4,58] ?_
 refine A3 (fun ht58=>?_) (fun ht58=>?_)
 ·refine jy ?_;refine Z6 ?_;exact AN3
 refine jx ?_;exact AN3

theorem AQo (s:Str) (hs:s.length≤1048576) (Hp:List AObj):AFun Tryz.prog 238 [Ae s] Hp (Bk (Py s)):=by
 refine Af [.tmp 2] [0] Tryz.func238 Tryz.ntmps238 (fun d=>?_)
 refine Z43 ?_;refine Z2 ?_;refine Aa Tryz.call40 (c40 s hs _) ?_;exact AB2

theorem AQp (e:Expr) (hok:okE 61 e) (Hp:List AObj):AFun Tryz.prog 236 [A9 e] Hp (Bk (Gz e)):=by
 refine Af [.tmp 2] [0] Tryz.func236 Tryz.ntmps236 (fun d=>?_)
 refine ou ?_;exact AM7

theorem AQq (e:Expr) (hok:okE 61 e) (Hp:List AObj):AFun Tryz.prog 198 [A9 e] Hp (Bk (Gz e)):=by
 refine Af [.tmp 2] [0] Tryz.func198 Tryz.ntmps198 (fun d=>?_)
 refine ou ?_;exact AM7

theorem AQr (l:List Str) (hl:l.length≤1048576) (hn:∀s∈l,s.length≤1048576) (Hp:List AObj):AFun Tryz.prog 284 [Gq l,.fn (.func 238) [] []] Hp (A5 (R7 Py l)):=by
 refine Af [.tmp 4] [0,1] Tryz.func284 Tryz.ntmps284 (fun d=>?_)
 refine x9 ?_
 refine B7 (α:=Nat) (fun x=>⟨19,A7 0 (Gq l) (A7 1 (.fn (.func 238) [] []) (A7 7 (A5 l.length) (A7 8 (A5 (x:Nat)) (fun _=>.any)))),Hp,[],[],none⟩) (fun x=>x≤l.length∧∀(j:Nat) y,j<x→l[j]? = some y→Py y=false) (fun x=>l.length-x) (0) ⟨Ar _,fun j y h=>by omega⟩ (Bo (by simp)) rfl (fun x hx=>?_)
 refine wo ?_
 refine Dm (fun ht9=>?_) (fun ht9=>?_)
 ·have hlt:x<l.length:=by simpa using ht9
  refine x8 ?_
  refine A4 (h:=Ac (x) (Ae l[x]) (fun _=>Ax hlt)) (hr:=?_)
  refine A4 ?_;refine U1 Tryz.call238 (AQo l[x] (hn _ (B1 hlt)) _) ?_;refine xb ?_
  refine A3 (fun ht16=>?_) (fun ht16=>?_)
  ·exact AFa
  exact AFi
 have hxe:l.length≤x:=by simpa using ht9
 exact AFk

theorem AQs (l:List Str) (hl:l.length≤1048576) (hn:∀s∈l,s.length≤1048576) (Hp:List AObj):AFun Tryz.prog 237 [Gq l,.fn (.func 238) [] []] Hp (Bk (l.any Py)):=by
 refine Af [.tmp 4] [0,1] Tryz.func237 Tryz.ntmps237 (fun d=>?_)
 refine Z61 ?_;refine Z1 ?_;refine Aa Tryz.call284 (AQr l hl hn _) ?_;exact AFo

theorem AOa (l:List Expr) (hl:l.length≤1048576) (hn:∀e∈l,okE 61 e) (Hp:List AObj):AFun Tryz.prog 251 [Cj l,.fn (.func 236) [] []] Hp (A5 (R7 Gz l)):=by
 refine Af [.tmp 4] [0,1] Tryz.func251 Tryz.ntmps251 (fun d=>?_)
 refine x9 ?_
 refine B7 (α:=Nat) (fun x=>⟨19,A7 0 (Cj l) (A7 1 (.fn (.func 236) [] []) (A7 7 (A5 l.length) (A7 8 (A5 (x:Nat)) (fun _=>.any)))),Hp,[],[],none⟩) (fun x=>x≤l.length∧∀(j:Nat) y,j<x→l[j]? = some y→Gz y=false) (fun x=>l.length-x) (0) ⟨Ar _,fun j y h=>by omega⟩ (Bo (by simp)) rfl (fun x hx=>?_)
 refine wo ?_
 refine Dm (fun ht9=>?_) (fun ht9=>?_)
 ·have hlt:x<l.length:=by simpa using ht9
  refine x8 ?_
  refine A4 (h:=Ac (x) (A9 l[x]) (fun _=>Ax hlt)) (hr:=?_)
  refine A4 ?_;refine U1 Tryz.call236 (AQp l[x] (hn _ (B1 hlt)) _) ?_;refine xb ?_
  refine A3 (fun ht16=>?_) (fun ht16=>?_)
  ·exact AFa
  exact AFi
 have hxe:l.length≤x:=by simpa using ht9
 exact AFk

theorem AIl (l:List Expr) (hl:l.length≤1048576) (hn:∀e∈l,okE 61 e) (Hp:List AObj):AFun Tryz.prog 197 [Cj l,.fn (.func 236) [] []] Hp (Bk (l.any Gz)):=by
 refine Af [.tmp 4] [0,1] Tryz.func197 Tryz.ntmps197 (fun d=>?_)
 refine Z61 ?_;refine Z1 ?_;refine Aa Tryz.call251 (AOa l hl hn _) ?_;exact AFo

theorem AOb (l:List Expr) (hl:l.length≤1048576) (hn:∀e∈l,okE 61 e) (Hp:List AObj):AFun Tryz.prog 251 [Cj l,.fn (.func 198) [] []] Hp (A5 (R7 Gz l)):=by
 refine Af [.tmp 4] [0,1] Tryz.func251 Tryz.ntmps251 (fun d=>?_)
 refine x9 ?_
 refine B7 (α:=Nat) (fun x=>⟨19,A7 0 (Cj l) (A7 1 (.fn (.func 198) [] []) (A7 7 (A5 l.length) (A7 8 (A5 (x:Nat)) (fun _=>.any)))),Hp,[],[],none⟩) (fun x=>x≤l.length∧∀(j:Nat) y,j<x→l[j]? = some y→Gz y=false) (fun x=>l.length-x) (0) ⟨Ar _,fun j y h=>by omega⟩ (Bo (by simp)) rfl (fun x hx=>?_)
 refine wo ?_
 refine Dm (fun ht9=>?_) (fun ht9=>?_)
 ·have hlt:x<l.length:=by simpa using ht9
  refine x8 ?_
  refine A4 (h:=Ac (x) (A9 l[x]) (fun _=>Ax hlt)) (hr:=?_)
  refine A4 ?_;refine U1 Tryz.call198 (AQq l[x] (hn _ (B1 hlt)) _) ?_;refine xb ?_
  refine A3 (fun ht16=>?_) (fun ht16=>?_)
  ·exact AFa
  exact AFi
 have hxe:l.length≤x:=by simpa using ht9
 exact AFk

theorem AOc (l:List Expr) (hl:l.length≤1048576) (hn:∀e∈l,okE 61 e) (Hp:List AObj):AFun Tryz.prog 197 [Cj l,.fn (.func 198) [] []] Hp (Bk (l.any Gz)):=by
 refine Af [.tmp 4] [0,1] Tryz.func197 Tryz.ntmps197 (fun d=>?_)
 refine Z61 ?_;refine Z1 ?_;refine Aa Tryz.call251 (AOb l hl hn _) ?_;exact AFo

theorem AH1 (s:Str) (Hp:List AObj):AFun Tryz.prog 240 [Ae s] Hp (A9 (Cw s)):=by
 refine Af [.cell 2 26] [0] Tryz.func240 Tryz.ntmps240 (fun d=>?_)
 refine Z76 ?_;refine AMi ?_;refine AF6 ?_;refine Z3 ?_;exact A8 (Ah (Bu jA jS)) ⟨by rw [At];rfl,rfl⟩

theorem AQt (l:List Expr) (hl:l.length≤1048576) (hn:∀e∈l,okE 61 e) (Hp:List AObj):AFun Tryz.prog 151 [Cj l] Hp (Bk (l.any Gz)):=by
 refine Af [.tmp 2] [0] Tryz.func151 Tryz.ntmps151 (fun d=>?_)
 refine Z43 ?_;refine Z2 ?_;refine Aa Tryz.call197 (AOc l hl hn _) ?_;refine A4 ?_;exact AF4

theorem ma {m:Mov} {c:Col}:(((!(Dk c.name)) || (!((Cl c.kind==[])==(m.kind==3)))) || ((m.kind==3)&&(c.kind != 0))) = !Kk m c:=by
 unfold Kk
 cases Dk c.name<;>cases (Cl c.kind==([]:Str))<;>cases (m.kind==3)<;>cases (c.kind != 0)<;>rfl
theorem AK4 {m:Mov} (h:(!(Gi m))=true):Gj m=false:=by
 have:Gi m=false:=by simpa using h
 unfold Gj;rw [this];rfl
theorem AK5 {m:Mov} {c:Col} (hc:c∈m.give) (h:Kk m c=false):Gj m=false:=by
 have:m.give.all (Kk m)=false:=Rc.2 ⟨c,hc,by rw [h];simp⟩
 unfold Gj;rw [this];simp
theorem AK6 {m:Mov} (h:((m.take.any Py || m.ahead.any Gz) || m.back.any Gz)=true):Gj m=false:=by
 unfold Gj
 rw [show Py=fun s => !(Dk s) from rfl,show Gz=fun e => !(B3 e) from rfl,J0,J0,J0] at h
 cases h1:m.take.all Dk<;>cases h2:m.ahead.all B3<;>cases h3:m.back.all B3<;>simp_all
theorem AH2 {m:Mov} (h1:Gi m=true) (h2:m.give.all (Kk m)=true) (h:((m.take.any Py || m.ahead.any Gz) || m.back.any Gz)=false):Gj m=Mg m:=by
 unfold Gj
 rw [show Py=fun s => !(Dk s) from rfl,show Gz=fun e => !(B3 e) from rfl,J0,J0,J0] at h
 rw [h1,h2]
 cases h1:m.take.all Dk<;>cases h2:m.ahead.all B3<;>cases h3:m.back.all B3<;>simp_all
theorem Ou {α β:Type} {f:α→β} {l:List α} {d:α} (h:0<l.length):(l.map f)[0]? = some (f (l.getD 0 d)):=by
 rw [Cf,Ab h,C9,Ab h]
 rfl
theorem Nt {α:Type} {l:List α} {d:α} (h:0<l.length):l.getD 0 d∈l:=by
 rw [C9,Ab h]
 exact B1 h
theorem AD9 {m:Mov} (h:(m.kind==3)=true):Mg m=(eqE (m.ahead.getD 0 Ap) (Cw (m.take.getD 0 []))&&eqE (m.back.getD 0 Ap) (Cw (m.give.getD 0 ⟨[],0⟩).name)):=if_pos h
theorem ADa {m:Mov} (h:(m.kind==3)=false) (h6:(m.kind==6)=true):Mg m=(m.take.getD 0 []==(m.give.getD 0 ⟨[],0⟩).name):=by unfold Mg;rw [if_neg (by rw [h];simp),if_pos h6]
theorem ADb {m:Mov} (h:(m.kind==3)=false) (h6:(m.kind==6)=false):Mg m=true:=by unfold Mg;rw [if_neg (by rw [h];simp),if_neg (by rw [h6];simp)]
theorem AQu (m:Mov) (h:OkMov m) (Hp:List AObj):AFun Tryz.prog 184 [Gw m] Hp (Bk (Gj m)):=by
 refine Af [.tmp 2] [0] Tryz.func184 Tryz.ntmps184 (fun d=>?_)
 refine Z90 ?_;refine Z32 ?_;refine Aa Tryz.call235 (AQn m _) ?_;refine A4 ?_;refine A2 [1,8] ?_
 refine A3 (fun ht8=>?_) (fun ht8=>?_)
 ·have hm:=AK4 ht8
  exact ABb
 have hct:Gi m=true:=by simpa using ht8
 refine Z5 ?_;refine Z60 ?_;refine A2 [1,10,11,12] ?_
 refine B7 (α:=Nat) (fun x=>⟨95,A7 1 (.ro (J6 m)) (A7 10 (Am m.give) (A7 11 (A5 (m.give.length:Nat)) (A7 12 (A5 (x:Nat)) (fun _=>.any)))),Hp,[],[],none⟩) (fun x=>x≤m.give.length∧∀(j:Nat) (y:Col),j<x→m.give[j]? = some y→(!Kk m y)=false) (fun x=>m.give.length-x) (0) ⟨Ar _,fun j y h=>by omega⟩ (Bo (by simp)) rfl (fun x hx=>?_)
 refine Z2 ?_;refine A2 [1,10,11,12,13] ?_
 refine Dm (fun ht13=>?_) (fun ht13=>?_)
 ·have hlt:x<m.give.length:=by simpa using ht13
  have hgl:=h.gives2
  refine Qr ?_
  refine A4 (h:=Ac (x) (Bq m.give[x]) (fun _=>Ax hlt)) (hr:=?_)
  refine Rn ?_;refine A2 [1,4,10,11,12] ?_;refine De [0,1,3,7,15,31,63,127,255,31,543,1567,4095,8191,16383,32767,65535,131071,262143,524287,1048575,2097151,4194303,8388607] 12 An (by kernel_rfl) ?_;refine Z11 ?_;refine E1 Tryz.call40 (c40 m.give[x].name (h.gives.2 _ (B1 hlt)) _) ?_;refine Z11 ?_;refine Z72 ?_;refine H.call Tryz.call76 (fun hB=>c76 m.give[x].kind _) ?_;refine Z72 ?_;refine Z72 ?_;refine Ey ?_;refine Bi ?_;refine Z47 ?_;refine Wa ?_;refine Qw ?_;refine A2 [1,10,11,12,39] ?_
  refine A3 (fun ht39=>?_) (fun ht39=>?_)
  ·rw [ma] at ht39
   have hm:=AK5 (B1 hlt) (by simpa using ht39)
   exact AIx
  rw [ma] at ht39
  refine Z97 ?_;refine A2 [1,10,11,12] ?_;refine Bb (x+1) ⟨hlt,Cc hlt hx.2 ht39⟩ (by omega) ?_
  exact D4 (own:=[]) (fun _=>.refl _) (by repeat (first|exact Be|refine Bd (by first|(simp [or_imp,forall_and];done)|exact D8|exact low_ro.2 Ju) ?_)) (by simp) (by simp)
 have hxe:m.give.length≤x:=by simpa using ht13
 have hga:m.give.all (Kk m)=true:=by have:=Iu hxe hx.2;rw [J0] at this;simpa using this
 refine Z28 ?_;refine Z2 ?_;refine A2 [1,5] ?_;refine Z8 ?_;refine Aa Tryz.call237 (AQs m.take h.takes h.names _) ?_;refine A4 ?_;refine Z39 ?_;refine Bt Tryz.call197 (fun hB=>AIl m.ahead h.ahead.len h.ahead.ok _) ?_;refine Z0 ?_;refine Z39 ?_;refine Bt Tryz.call197 (fun hB=>AIl m.back h.back.len h.back.ok _) ?_;refine A4 ?_;refine A2 [1,55] ?_
 refine A3 (fun ht55=>?_) (fun ht55=>?_)
 ·have hm:=AK6 ht55
  exact ABb
 have hm0:=AH2 hct hga ht55
 refine Z5 ?_;refine Z8 ?_;refine A2 [1,57] ?_;refine Pj ?_;refine A2 [1,57,58] ?_
 refine A3 (fun ht58=>?_) (fun ht58=>?_)
 ·obtain ⟨hl1,hl2⟩:=Px hct (by rw [ht58];simp)
  obtain ⟨hl3,hl4⟩:=Fx hct
  have g1:=Ou (f:=A9) (l:=m.ahead) (d:=Ap) (by omega)
  have g2:=Ou (f:=A9) (l:=m.back) (d:=Ap) (by omega)
  have g3:=Ou (f:=Ae) (l:=m.take) (d:=[]) (by omega)
  have g4:=Ou (f:=Bq) (l:=m.give) (d:=⟨[],0⟩) (by omega)
  have ok1:=h.ahead.ok _ (Nt (l:=m.ahead) (d:=Ap) (by omega))
  have ok2:=h.back.ok _ (Nt (l:=m.back) (d:=Ap) (by omega))
  have hm:=hm0.trans (AD9 ht58)
  refine De [0,1,3,7,0,16,48,112,240,511,1023,2047,4095,8191,16383,2047,34815,100351,231423,493567,1017855,2097151,4194303,8388607] 21 An (by kernel_rfl) ?_;refine Z11 ?_
  refine Al (h:=Ac (0) (A9 (m.ahead.getD 0 Ap)) (fun _=>g1)) (hr:=?_)
  refine Z40 ?_
  refine Al (h:=Ac (0) (Ae (m.take.getD 0 [])) (fun _=>g3)) (hr:=?_)
  refine Al ?_;refine E1 Tryz.call240 (AH1 (m.take.getD 0 []) _) ?_;refine E1 Tryz.call239 (AO2 61 (m.ahead.getD 0 Ap) ok1 (Cw (m.take.getD 0 [])) _) ?_;refine Al ?_;refine Z72 ?_
  refine Ft (h:=Ac (0) (A9 (m.back.getD 0 Ap)) (fun _=>g2)) (hr:=?_)
  refine ag ?_
  refine Ft (h:=Ac (0) (Bq (m.give.getD 0 ⟨[],0⟩)) (fun _=>g4)) (hr:=?_)
  refine Z72 ?_;refine H.call Tryz.call240 (fun hB=>AH1 (m.give.getD 0 ⟨[],0⟩).name _) ?_;refine Ey ?_;refine Bt Tryz.call239 (fun hB=>AO2 61 (m.back.getD 0 Ap) ok2 (Cw (m.give.getD 0 ⟨[],0⟩).name) _) ?_;refine Z49 ?_;exact AM1
 refine Z1 ?_;refine A2 [1,83] ?_
 refine A3 (fun ht83=>?_) (fun ht83=>?_)
 ·obtain ⟨hl1,hl2⟩:=Px hct (by rw [ht83];simp)
  obtain ⟨hl3,hl4⟩:=Fx hct
  have g1:=Ou (f:=A9) (l:=m.ahead) (d:=Ap) (by omega)
  have g2:=Ou (f:=A9) (l:=m.back) (d:=Ap) (by omega)
  have g3:=Ou (f:=Ae) (l:=m.take) (d:=[]) (by omega)
  have g4:=Ou (f:=Bq) (l:=m.give) (d:=⟨[],0⟩) (by omega)
  have ok1:=h.ahead.ok _ (Nt (l:=m.ahead) (d:=Ap) (by omega))
  have ok2:=h.back.ok _ (Nt (l:=m.back) (d:=Ap) (by omega))
  have hm:=hm0.trans (ADa ht58 ht83)
  refine AM8 ?_
  refine Al (h:=Ac (0) (Ae (m.take.getD 0 [])) (fun _=>g3)) (hr:=?_)
  refine Z40 ?_
  refine Al (h:=Ac (0) (Bq (m.give.getD 0 ⟨[],0⟩)) (fun _=>g4)) (hr:=?_)
  refine Qt ?_;refine Z49 ?_;exact AM1
 have hm:=hm0.trans (ADb ht58 ht83)
 refine jx ?_;exact ABm

def yk (m:Mov):Bool := !(Gj m)
theorem AH3 (l:List Mov):(decide ((l.length:Int)≤8) && !(l.any yk))=Pw l:=by
 unfold Pw
 rw [show yk=fun m => !(Gj m) from rfl,J0]
 simp
theorem AQv (m:Mov) (h:OkMov m) (Hp:List AObj):AFun Tryz.prog 183 [Gw m] Hp (Bk (yk m)):=by
 refine Af [.tmp 2] [0] Tryz.func183 Tryz.ntmps183 (fun d=>?_)
 refine ou ?_;refine Aa Tryz.call184 (AQu m h _) ?_;exact AB2

theorem AQw (l:List Mov) (h:OkMovs l) (Hp:List AObj):AFun Tryz.prog 234 [Ew l,.fn (.func 183) [] []] Hp (A5 (R7 yk l)):=by
 refine Af [.tmp 4] [0,1] Tryz.func234 Tryz.ntmps234 (fun d=>?_)
 refine x9 ?_
 refine B7 (α:=Nat) (fun x=>⟨19,A7 0 (Ew l) (A7 1 (.fn (.func 183) [] []) (A7 7 (A5 l.length) (A7 8 (A5 (x:Nat)) (fun _=>.any)))),Hp,[],[],none⟩) (fun x=>x≤l.length∧∀(j:Nat) (y:Mov),j<x→l[j]? = some y→yk y=false) (fun x=>l.length-x) (0) ⟨Ar _,fun j y h=>by omega⟩ (Bo (by simp)) rfl (fun x hx=>?_)
 refine wo ?_
 refine Dm (fun ht9=>?_) (fun ht9=>?_)
 ·have hlt:x<l.length:=by simpa using ht9
  have hlen:=h.len
  refine x8 ?_
  refine A4 (h:=Ac (x) (Gw l[x]) (fun _=>Ax hlt)) (hr:=?_)
  refine A4 ?_;refine U1 Tryz.call183 (AQv l[x] (h.each _ (B1 hlt)) _) ?_;refine xb ?_
  refine A3 (fun ht16=>?_) (fun ht16=>?_)
  ·exact AFa
  exact AFi
 have hxe:l.length≤x:=by simpa using ht9
 exact AFk

theorem AQx (l:List Mov) (h:OkMovs l) (Hp:List AObj):AFun Tryz.prog 182 [Ew l,.fn (.func 183) [] []] Hp (Bk (l.any yk)):=by
 refine Af [.tmp 4] [0,1] Tryz.func182 Tryz.ntmps182 (fun d=>?_)
 refine Z61 ?_;refine Z1 ?_;refine Aa Tryz.call234 (AQw l h _) ?_;exact AFo

theorem AQy (l:List Mov) (h:OkMovs l) (Hp:List AObj):AFun Tryz.prog 142 [Ew l] Hp (Bk (Pw l)):=by
 refine Af [.tmp 2] [0] Tryz.func142 Tryz.ntmps142 (fun d=>?_)
 refine Z43 ?_;refine oi ?_;refine Bt Tryz.call182 (fun hB=>AQx l h _) ?_;refine Bi ?_;refine Z49 ?_;exact A8 (Ah A6) ⟨by rw [←AH3,Aj],rfl⟩

theorem c92 (c:List Col) (hc:OkCols c) (l:List Mov) (h:OkMovs l) (Hp:List AObj):AFun Tryz.prog 92 [Am c,Ew l] Hp (Bk (Og c l)):=by
 refine Af [.tmp 4] [0,1] Tryz.func92 Tryz.ntmps92 (fun d=>?_)
 refine Z61 ?_;refine Z2 ?_;refine Aa Tryz.call57 (c57 c hc _) ?_;refine x6 ?_;refine Bt Tryz.call142 (fun hB=>AQy l h _) ?_;refine Z0 ?_;refine Z26 ?_;exact A8 (Ah A6) ⟨by unfold Og;rw [Nn],rfl⟩

theorem yl {Hp:List AObj} {c:List Col} (h:∀x∈Hp,ObjLow Hp.length x):∀x∈Hp++[AObj.cells 27 [Am c]],ObjLow (Hp.length+1) x:=by
 intro x hx
 rcases E7.1 hx with hx|hx
 ·exact Oe (by omega) (h x hx)
 rw [Bl.1 hx]
 intro z hz
 rw [Bl.1 hz]
 exact D8
theorem c94 (c:List Col) (l:List Mov) (Hp:List AObj):ACallO Tryz.prog 94 [Am c,Ew l] Hp (fun r H'=>r=.fn (.func 143) [] [.ro [Ew l],.ptr (oid Hp.length 0) 0]∧H'=Hp++[.cells 27 [Am c]]):=by
 refine ACallO.body [.tmp 4] [0,1] Tryz.func94 Tryz.ntmps94 (fun d=>?_)
 refine wx ?_;refine Z0 ?_;refine Lo ?_;refine Fp ?_
 refine N8 (fun hlow=>?_)
 refine ALj ?_;refine Z26 ?_;exact K.finO 1 (A6 (t:=4)) ⟨rfl,rfl⟩ (hlow:=by simp [oid,or_imp,forall_and];exact ⟨fun m _ a _=>Av _ a,fun m _ a _=>Av _ a⟩) (hobj:=yl hlow)

theorem c143 (l oc:Nat) (ms:List Mov) (hm:∀m∈ms,MvOk m) (hml:ms.length≤1048576) (C:Nat→List Col) (hC:∀k,OkCols (C k)) (U T:Nat→List AObj) (N:Nat→Prop) (Z:List AObj→Prop) (hlen:∀k,(U k).length=(U 0).length) (hlenW:∀k,(T k).length=(U 0).length) (hll:l<(U 0).length) (hol:oc<(U 0).length)
  (hlw:∀k,∀x∈U k,ObjLow (U 0).length x) (hlW:∀k,∀x∈T k,ObjLow (U 0).length x) (h0:N 0) (hc:∀k,(U k)[oc]? = some (.cells 27 [Am (C k)])) (hcW:∀k,(T k)[oc]? = some (.cells 27 [Am (C k)]))
  (hn:∀k m,ms[k]? = some m→(C1 (C k) m).2=0→(T k).set oc (.cells 27 [Am (C1 (C k) m).1])=U (k+1))
  (hy:∀k m X,ms[k]? = some m→N k→AYield Tryz.prog l [Am (C1 (C k) m).1,A5 (C1 (C k) m).2] (U k++X) (fun b H'=>((C1 (C k) m).2≠0∧∃V,H'=V++X∧V.length=(U 0).length∧(∀x∈V,ObjLow (U 0).length x)∧Z V)∨((C1 (C k) m).2=0∧b=true∧N (k+1)∧H'=T k++X)))
  (hR:N ms.length→Z (U ms.length)):ACall Tryz.prog 143 [.yield l,.ro [Ew ms],.ptr oc 0] (U 0) (fun _ H'=>Z H'):=by
 refine Af [] [0,1,2] Tryz.func143 Tryz.ntmps143 (fun d=>?_)
 refine Z17 ?_;refine A2 [0,2,8,9,10] ?_
 refine B7 (α:=Nat) (fun x=>⟨31,A7 0 (.yield l) (A7 2 (.ptr oc 0) (A7 8 (Ew ms) (A7 9 (A5 ms.length) (A7 10 (A5 (x:Nat)) (fun _=>.any))))),U x,[],[],none⟩) (fun x=>x≤ms.length∧N x) (fun x=>ms.length-x) (0) ⟨Ar _,h0⟩ (Bo (by simp)) rfl (fun x hx=>?_)
 refine Z2 ?_;refine A2 [0,2,8,9,10,11] ?_
 refine Dm (fun ht11=>?_) (fun ht11=>?_)
 ·have hlt:x<ms.length:=by simpa using ht11
  refine Qr ?_
  refine A4 (h:=Ac (x) (Gw ms[x]) (fun _=>Ax hlt)) (hr:=?_)
  refine Rn ?_;refine A2 [0,2,5,8,9,10] ?_;refine Fp ?_
  refine A4 (h:=Ca (hc x)) (hr:=?_)
  refine A4 ?_;refine Aa Tryz.call144 (AQm (C x) (hC x) ms[x] (hm _ (B1 hlt)) _) ?_;refine Z75 ?_;refine A2 [0,2,6,7,8,9,10] ?_;refine Z36 ?_
  refine R.yield (l:=l) (args:=[Am (C1 (C x) ms[x]).1,A5 (C1 (C x) ms[x]).2]) (hy x ms[x] _ (Ab hlt) hx.2) ?_
  intro b V O hV hb
  have hVO:O=[AObj.cells 48 (J6 ms[x])]∧(((C1 (C x) ms[x]).2≠0∧V.length=(U 0).length∧(∀y∈V,ObjLow (U 0).length y)∧Z V)∨((C1 (C x) ms[x]).2=0∧b=true∧N (x+1)∧V=T x)):=by
   rcases hb with ⟨h1,V',h2,h3,h4,h5⟩|⟨h1,h2,h3,h4⟩
   ·obtain ⟨rfl,rfl⟩:=Rd h2 (by rw [hV,hlen x,h3])
    exact ⟨rfl,.inl ⟨h1,h3,h4,h5⟩⟩
   have h6:=Rd h4 (by rw [hV,hlen x,hlenW x])
   exact ⟨h6.2,.inr ⟨h1,h2,h3,h6.1⟩⟩
  obtain ⟨rfl,hVO⟩:=hVO
  have hVl:V.length=(U 0).length:=by rw [hV,hlen x]
  have hVw:∀y∈V,ObjLow (U 0).length y:=by
   rcases hVO with ⟨_,_,h,_⟩|⟨_,_,_,rfl⟩
   ·exact h
   exact hlW _
  refine ⟨fun _=>by rw [hVl];exact hVw,fun o ho=>(by cases ho),?_⟩
  refine Z47 ?_;refine A4 ?_;refine A2 [0,2,6,8,9,10,28] ?_
  refine A3 (fun ht28=>?_) (fun ht28=>?_)
  ·have hZ:Z V:=by
    rcases hVO with ⟨_,_,_,h⟩|⟨h1,h2,_,_⟩
    ·exact h
    rw [h1,h2] at ht28;simp at ht28
   refine AB3 ?_;refine Z33 ?_;exact A8 .nores (hp:=hZ)
  have hVn:(C1 (C x) ms[x]).2=0∧N (x+1)∧V=T x:=by
   rcases hVO with ⟨h1,_,_,_⟩|⟨h1,_,h3,h4⟩
   ·simp [h1] at ht28
   exact ⟨h1,h3,h4⟩
  obtain ⟨hz,hN,rfl⟩:=hVn
  have hnx:=hn x _ (Ab hlt) hz
  refine Z5 ?_;refine Z66 ?_
  refine Fu jS (hcW x) ?_ ?_
  ·first|exact D8|(simp [or_imp,forall_and];done)
  refine A2 [0,2,8,9,10] ?_;refine Qv ?_;refine A2 [0,2,8,9,10] ?_;refine Bb (x+1) ⟨hlt,hN⟩ (by omega) ?_
  rw [hnx]
  exact D4 (own:=[]) (fun _=>.refl _) (by repeat (first|exact Be|refine Bd (by first|(simp [or_imp,forall_and];done)|exact Gy|(have:=hlen (x+1);simp;omega)) ?_)) (by simp) (by simp)
 have hxe:x=ms.length:=by have:=hx.1;simp at ht11;omega
 refine K.lpE ?_;exact Fv .nores (hp:=by rw [hxe];exact hR (hxe ▸ hx.2))

/-! The columns on the way through moves. -/
def colsAt (c:List Col) (ms:List Mov):Nat→List Col
 | 0=>c
 | k+1=>match ms[k]? with|some m=>(C1 (colsAt c ms k) m).1|none=>colsAt c ms k
def Bx (c:List Col) (ms:List Mov):Nat→List (List Col)
 | 0=>[c]
 | k+1=>Bx c ms k++[colsAt c ms (k+1)]
def NS (c:List Col) (ms:List Mov) (k:Nat):Prop:=Dg c ms=((Bx c ms k).dropLast++(Dg (colsAt c ms k) (ms.drop k)).1,(Dg (colsAt c ms k) (ms.drop k)).2)
theorem ir (c:List Col) (ms:List Mov) (k:Nat):(Bx c ms k).dropLast++[colsAt c ms k]=Bx c ms k:=by
 cases k with
 | zero=>rfl
 | succ k=>simp [Bx]
theorem Fq {c:List Col} {ms:List Mov} {k:Nat} {m:Mov} (h:ms[k]? = some m):colsAt c ms (k+1)=(C1 (colsAt c ms k) m).1:=by rw [colsAt,h]
theorem Pz {ms:List Mov} {k:Nat} {m:Mov} (hk:ms[k]? = some m):ms.drop k=m::ms.drop (k+1):=by
 obtain ⟨h1,h2⟩:=Ad.1 hk
 rw [L5 h1,h2]
theorem AK7 {c:List Col} {ms:List Mov}:NS c ms 0:=rfl
theorem iu {c:List Col} {ms:List Mov} {k:Nat} {m:Mov} (hk:ms[k]? = some m) (h:NS c ms k) (he:(C1 (colsAt c ms k) m).2=0):NS c ms (k+1):=by
 unfold NS at h ⊢
 rw [h,Pz hk]
 have e:Dg (colsAt c ms k) (m::ms.drop (k+1))=(colsAt c ms k::(Dg (C1 (colsAt c ms k) m).1 (ms.drop (k+1))).1,(Dg (C1 (colsAt c ms k) m).1 (ms.drop (k+1))).2):=by
  rw [Dg,if_neg (by rw [he];simp)]
 have e2:(Bx c ms (k+1)).dropLast=Bx c ms k:=by simp [Bx]
 rw [e,e2,Fq hk]
 have e3:=ir c ms k
 refine Mw ?_ rfl
 show (Bx c ms k).dropLast++(colsAt c ms k::_)=Bx c ms k++_
 conv=>rhs;rw [←e3]
 simp
theorem rd {c:List Col} {ms:List Mov} {k:Nat} {m:Mov} (hk:ms[k]? = some m) (h:NS c ms k) (he:(C1 (colsAt c ms k) m).2≠0):(Dg c ms).2=(C1 (colsAt c ms k) m).2:=by
 unfold NS at h
 rw [h,Pz hk,Dg,if_pos (by simpa using he)]
theorem re {c:List Col} {ms:List Mov} (h:NS c ms ms.length):Dg c ms=(Bx c ms ms.length,0):=by
 unfold NS at h
 rw [h,List.drop_length,Dg]
 exact Mw (ir c ms ms.length) rfl
theorem ADc {c:List Col} {m:Mov} (hc:OkCols c) (h:OkMov m):OkCols (C1 c m).1:=by
 have h0:OkCols ([]:List Col):=⟨by decide,fun y hy=>by cases hy⟩
 unfold C1
 split
 ·exact h0
 split
 ·exact h0
 split
 ·exact h0
 exact Yu hc (Yt h) (by rw [Ie];exact h.gives2)
theorem Fe {c:List Col} {ms:List Mov} (hc:OkCols c) (h:∀m∈ms,OkMov m):∀k,OkCols (colsAt c ms k)
 | 0=>hc
 | k+1=>by
  rw [colsAt]
  cases hk:ms[k]? with
  | none=>exact Fe hc h k
  | some m=>exact ADc (Fe hc h k) (h m (B0 hk))
theorem Hi (c:List Col) (ms:List Mov):∀k,(Bx c ms k).length=k+1
 | 0=>rfl
 | k+1=>by rw [Bx,Ai,Hi c ms k];rfl
theorem ADd {c:List Col} {ms:List Mov} (h:Og c ms=true) (hk:OkMovs ms):(∀m∈ms,MvOk m)∧ms.length≤8:=by
 unfold Og Pw at h
 simp only [As,decide_eq_true_eq,B2] at h
 exact ⟨fun m hm=>AH0 (hk.each m hm) (Kl (h.2.2 m hm)),by omega⟩
theorem cv {c:List Col} {ms:List Mov} (h:Og c ms=false):Cq c ms=([],1):=by
 have:J7 c ms=([],1):=if_neg (by rw [h];simp)
 unfold Cq
 rw [this];rfl
theorem Yx {c:List Col} {ms:List Mov} (h:Og c ms=true) (he:(Dg c ms).2≠0):Cq c ms=([],(Dg c ms).2):=by
 have:J7 c ms=Dg c ms:=if_pos h
 unfold Cq
 rw [this,if_pos (by simpa using he)]
theorem cw {c:List Col} {ms:List Mov} {o:List (List Col)} (h:Og c ms=true) (he:Dg c ms=(o,0)):Cq c ms=(o,0):=by
 have:J7 c ms=Dg c ms:=if_pos h
 unfold Cq
 rw [this,he];rfl
abbrev Gb (l:List (List Col)):AV:=.slice false 1 (l.map Am)
theorem F3 {n k:Nat} {o:Bool} {l:List (List Col)}:Low n (.slice o k (l.map Am)):=low_slice.2 fun y hy=>by
 obtain ⟨m,_,rfl⟩:=Cr.1 hy
 exact D8
theorem b6 {U:List AObj} {i j:Nat} {x y:AObj} (h:U[i]? = some x) (hne:j≠i):(U.set j y)[i]? = some x:=by rw [Dr hne];exact h
theorem ym {n k:Nat} {o:Bool} {l:List (List Col)} {c:List Col}:Low n (.slice o k (l.map Am++[Am c])):=by
 have:=F3 (n:=n) (k:=k) (o:=o) (l:=l++[c])
 rwa [By] at this
theorem c48 (c:List Col) (hc:OkCols c) (hc2:c.length≤1000000) (l:List Mov) (h:OkMovs l) (Hp:List AObj):AFun Tryz.prog 48 [Am c,Ew l] Hp (.tup [Gb (Cq c l).1,A5 (Cq c l).2]):=by
 refine Af [.cell 4 59,.cell 5 35] [0,1,7,8] Tryz.func48 Tryz.ntmps48 (fun d=>?_)
 refine Z35 ?_;refine Pm ?_;refine A2 [0,1,4,5,7,8] ?_;refine Z8 ?_;refine Aa Tryz.call92 (c92 c hc l h _) ?_;refine A4 ?_;refine A2 [0,1,4,5,7,8,12] ?_
 refine A3 (fun ht12=>?_) (fun ht12=>?_)
 ·have hm:=cv (by simpa using ht12)
  refine Fp ?_;refine Iq ?_;refine Rl 0 1 ?_;refine Iq ?_;refine Z52 ?_;exact A8 (Ay (Gv jA) (Gv jA)) ⟨by rw [hm];rfl,rfl⟩
 have hmay:Og c l=true:=by simpa using ht12
 obtain ⟨hmv,hl8⟩:=ADd hmay h
 refine Lm ?_;refine Aa Tryz.call93 (c93 c hc2 _) ?_;refine Pn ?_;refine Pm ?_;refine Xc jS ?_;refine A2 [0,1,4,5,6,7,8] ?_;refine Z67 ?_
 refine N8 (fun hlow=>?_)
 refine Z0 ?_;refine R.callO Tryz.call94 (c94 c l _) ?_
 rintro _ _ ⟨rfl,rfl⟩
 refine ⟨[.cells 27 [Am c]],by simp,?_⟩
 rw [show oid (Hp++[AObj.cells 59 [AV.nil],AObj.cells 35 [A5 0],AObj.cells 59 [AV.slice true 1 [Am c]]]).length 0=oid Hp.length 3 by simp [oid]]
 simp only [Et,Ec]
 refine A2 [4,5,6,7,8,18] ?_;refine Jk ?_
 refine Ob (m:=4) Tryz.call143 (fun FR as' bd' hFR has hbd=>?_)
 have hFRl:∀s,Low (Hp.length+6) (FR s):=by
  intro s
  rw [hFR]
  refine P4 ?_
  revert s
  repeat (first|exact Be|refine Bd (by first|(simp [oid,or_imp,forall_and];done)|(simp [oid,or_imp,forall_and];exact ⟨fun m _ a _=>Av _ a,fun m _ a _=>Av _ a⟩)|(simp [oid,or_imp,forall_and]<;>omega)) ?_)
 have hOl:∀{e:Int} {o:List (List Col)} {q:List Col} {lp:AObj},ObjLow (Hp.length+6) lp→∀x∈Hp++[AObj.cells 59 [AV.nil],AObj.cells 35 [A5 e],AObj.cells 59 [AV.slice true 1 ((o).map Am)],AObj.cells 27 [Am (q)],AObj.defs,lp],ObjLow (Hp.length+6) x:=by
  intro e o q lp hlp x hx
  refine Lp (fun x hx=>Oe (by omega) (hlow x hx)) (fun x hx=>?_) x hx
  simp only [B5,El,or_false] at hx
  rcases hx with rfl|rfl|rfl|rfl|rfl|rfl
  ·intro y hy;rw [Bl.1 hy];simp
  ·intro y hy;rw [Bl.1 hy];simp
  ·intro y hy;rw [Bl.1 hy];exact F3
  ·intro y hy;rw [Bl.1 hy];exact D8
  ·trivial
  exact hlp
 refine ⟨_,c143 (oid Hp.length 5) (oid Hp.length 3) l hmv (by omega) (colsAt c l) (Fe hc fun m hm=>h.each m hm) (fun k=>Hp++[AObj.cells 59 [AV.nil],AObj.cells 35 [A5 0],AObj.cells 59 [AV.slice true 1 ((Bx c l k).map Am)],AObj.cells 27 [Am (colsAt c l k)],AObj.defs,AObj.loop LoopState.ready none FR 29 #[19,20] as' bd' (oid Hp.length 4)]) (fun k=>Hp++[AObj.cells 59 [AV.nil],AObj.cells 35 [A5 0],AObj.cells 59 [AV.slice true 1 ((Bx c l (k+1)).map Am)],AObj.cells 27 [Am (colsAt c l k)],AObj.defs,AObj.loop LoopState.ready none FR 29 #[19,20] as' bd' (oid Hp.length 4)]) (NS c l) (fun V=>(∃(o:List (List Col)) (q:List Col),V=Hp++[AObj.cells 59 [AV.nil],AObj.cells 35 [A5 0],AObj.cells 59 [AV.slice true 1 ((o).map Am)],AObj.cells 27 [Am (q)],AObj.defs,AObj.loop LoopState.ready none FR 29 #[19,20] as' bd' (oid Hp.length 4)]∧Dg c l=(o,0))∨(∃(e:Int) (o:List (List Col)) (q:List Col),V=Hp++[AObj.cells 59 [AV.nil],AObj.cells 35 [A5 e],AObj.cells 59 [AV.slice true 1 ((o).map Am)],AObj.cells 27 [Am (q)],AObj.defs,AObj.loop LoopState.done (some Code.ret) FR 29 #[19,20] as' bd' (oid Hp.length 4)]∧e≠0∧(Dg c l).2=e)) (fun k=>by simp) (fun k=>by simp) (by simp [oid]) (by simp [oid]) (fun k=>(fun x hx=>by rw [Ai];exact hOl (lp:=AObj.loop LoopState.ready none FR 29 #[19,20] as' bd' (oid Hp.length 4)) (by exact ⟨hFRl,by simp [oid]⟩) x hx)) (fun k=>(fun x hx=>by rw [Ai];exact hOl (lp:=AObj.loop LoopState.ready none FR 29 #[19,20] as' bd' (oid Hp.length 4)) (by exact ⟨hFRl,by simp [oid]⟩) x hx)) AK7 (fun k=>by rw [Bm];rfl) (fun k=>by rw [Bm];rfl) (fun k m hk he=>by rw [Gf];simp only [Fq hk];rfl) (fun k m X hk hN=>?_) (fun hN=>.inl ⟨_,_,rfl,re hN⟩),?_⟩
 ·generalize hV:Hp++[AObj.cells 59 [AV.nil],AObj.cells 35 [A5 0],AObj.cells 59 [AV.slice true 1 ((Bx c l k).map Am)],AObj.cells 27 [Am (colsAt c l k)],AObj.defs,AObj.loop LoopState.ready none FR 29 #[19,20] as' bd' (oid Hp.length 4)]++X=V
  have hL:V[oid Hp.length 5]? = some (AObj.loop LoopState.ready none FR 29 #[19,20] as' bd' (oid Hp.length 4)):=by rw [←hV,Bn,Bm];rfl
  have hA0:V[oid Hp.length 2]? = some (AObj.cells 59 [AV.slice true 1 ((Bx c l k).map Am)]):=by rw [←hV,Bn,Bm];rfl
  have hB0:V[oid Hp.length 0]? = some (AObj.cells 59 [AV.nil]):=by rw [←hV,Bn,Bm];rfl
  have hC0:V[oid Hp.length 1]? = some (AObj.cells 35 [A5 0]):=by rw [←hV,Bn,Bm];rfl
  refine O5 (pd:=none) (fr:=FR) (sz:=29) (ps:=#[19,20]) (df:=oid Hp.length 4) (asg:=as') (bd:=bd') hL rfl (by decide) (fun d=>?_)
  subst hFR has hbd
  refine Hq [4,5,6,19,20] ?_;refine Z2 ?_;refine A2 [4,5,6,7,20] ?_;refine Z66 ?_;refine A2 [4,5,6,7,8] ?_
  refine ⟨rfl,none,hL,?_⟩
  generalize hbz:(AObj.loop LoopState.busy _ _ _ _ _ _ _)=bz
  have hA:(V.set (oid Hp.length 5) bz)[oid Hp.length 2]? = some (AObj.cells 59 [AV.slice true 1 ((Bx c l k).map Am)]):=by rw [Dr (Cn (by decide))];exact hA0
  have hB:(V.set (oid Hp.length 5) bz)[oid Hp.length 0]? = some (AObj.cells 59 [AV.nil]):=by rw [Dr (Cn (by decide))];exact hB0
  have hC:(V.set (oid Hp.length 5) bz)[oid Hp.length 1]? = some (AObj.cells 35 [A5 0]):=by rw [Dr (Cn (by decide))];exact hC0
  refine Jk ?_;refine Z8 ?_;refine A2 [4,5,6,7,8,22] ?_
  refine A3 (fun ht22=>?_) (fun ht22=>?_)
  ·have he:(C1 (colsAt c l k) m).2≠0:=by simpa using ht22
   refine Z2 ?_
   refine Fu jS hB ?_ ?_
   ·simp
   refine Fu jS (b6 hC (Cn (by decide))) ?_ ?_
   ·simp
   refine ABf ?_;refine K.blR ?_
   subst hbz
   refine AJ7 ?_
   refine .inl ⟨he,Hp++[AObj.cells 59 [AV.nil],AObj.cells 35 [A5 (C1 (colsAt c l k) m).2],AObj.cells 59 [AV.slice true 1 ((Bx c l k).map Am)],AObj.cells 27 [Am (colsAt c l k)],AObj.defs,_],?_,by simp,(fun x hx=>by rw [Ai];exact hOl (lp:=_) (by exact ⟨hFRl,by simp [oid]⟩) x hx),.inr ⟨_,_,_,rfl,he,rd hk hN he⟩⟩
   subst hV
   simp only [Bn,Gf,Et,Ec,List.set_cons_succ,List.set_cons_zero]
  have he:(C1 (colsAt c l k) m).2=0:=by simpa using ht22
  refine Z5 ?_;refine K8 ?_;refine R.loadUpT jA hA ?_;refine Z57 ?_
  refine Eu jU Tryz.type27 ?_ ?_ ?_
  ·have hol:=Hi c l k;have hkl:=(Ad.1 hk).1;simp [Tryz.t27];omega
  ·have hol:=Hi c l k;have hkl:=(Ad.1 hk).1;simp [Tryz.t27];omega
  refine Io jS (getset hA) ?_ ?_
  ·exact ym
  refine Z78 ?_
  subst hbz
  refine AFp ?_
  refine .inr ⟨he,rfl,iu hk hN he,?_⟩
  subst hV
  simp only [Bn,Gf,Et,Ec,List.set_cons_succ,List.set_cons_zero]
  rw [Bx,Fq hk,By]
  rfl
 rintro r H' (⟨o,q,rfl,hrun⟩|⟨e,o,q,rfl,hne,hrun⟩)
 ·refine ⟨Hp,_,_,_,rfl,rfl,fun h=>h,?_,rfl,by simp,?_⟩
  ·intro o ho
   have:o=oid Hp.length 4:=by simpa using ho
   subst this
   rw [Bm]
   rfl
  refine Z10 ?_;refine Z2 ?_;refine AF7 ?_;refine Z9 ?_;exact A8 (Ay (Gv jA) (Gv jA)) ⟨by rw [cw hmay hrun],rfl⟩ (hlow:=by simp only [Qg,B5,El,or_false];rintro y (rfl|rfl);exact F3;simp)
 refine ⟨Hp,_,_,_,rfl,rfl,fun h=>h,?_,rfl,by simp,?_⟩
 ·intro o ho
  have:o=oid Hp.length 4:=by simpa using ho
  subst this
  rw [Bm]
  rfl
 refine W.nilOwn 0 1 ?_;refine Gn ?_;refine Z6 ?_;exact A8 (Ay (Gv jA) (Gv jA)) ⟨by rw [Yx hmay (by rw [hrun];exact hne),hrun];rfl,rfl⟩

theorem Yy:∀(c:List Col) (ms:List Mov),(Dg c ms).1.length≤ms.length+1
 | c,[]=>by simp [Dg]
 | c,m::r=>by
  rw [Dg]
  split
  ·simp
  have:=Yy (C1 c m).1 r
  simp only [Aw]
  omega
theorem ACall.argLe {P:Program} {g:FuncId} {args args':List AV} {H:List AObj} {post:AV→List AObj→Prop} (h:ACall P g args' H post) (hl:args.length=args'.length) (hle:∀(i:Nat) (y y':AV),args[i]? = some y→args'[i]? = some y'→Le y y'):ACall P g args H post:=
 fun d G w vs h1 h2 h3 h4=>h d G w vs (h1.trans hl) (fun i y u hy hu=>by
  have hi:i<args.length:=by rw [hl];exact (Ad.1 hy).1
  exact (h2 i _ u (Ab hi) hu).le (hle i _ y (Ab hi) hy)) h3 h4
theorem cx (s:Str):Le (.agg [A5 2,Ae s,A5 0,A5 0,Ae [],.nil]) (A9 (Cw s)):=by
 rw [At]
 refine .agg _ _ rfl (fun y hy=>?_) (fun i y y' hy hy'=>?_)
 ·simp only [Eb,B5,El,or_false] at hy
  rcases hy with rfl|rfl|rfl|rfl|rfl|rfl<;>rfl
 match i with
 | 0=>simp at hy;subst hy;simp [Eb,Cw] at hy';subst hy';exact .inl rfl
 | 1=>simp at hy;subst hy;simp [Eb,Cw] at hy';subst hy';exact .inl rfl
 | 2=>simp at hy;subst hy;simp [Eb,Cw] at hy';subst hy';exact .inl rfl
 | 3=>simp at hy;subst hy;simp [Eb,Cw] at hy';subst hy';exact .inl rfl
 | 4=>simp at hy;subst hy;simp [Eb,Cw] at hy';subst hy';exact .inl rfl
 | 5=>simp at hy;subst hy;simp [Eb,Cw] at hy';subst hy';exact .inr ⟨rfl,6,rfl⟩
 | i+6=>simp at hy
theorem AOd (x:Expr) (hx:okE 61 x) (s:Str) (Hp:List AObj):AFun Tryz.prog 20 [A9 x,.agg [A5 2,Ae s,A5 0,A5 0,Ae [],.nil]] Hp (Bk (eqE x (Cw s))):=
 ACall.argLe (c20 61 x hx (Cw s) Hp) rfl fun i y y' hy hy'=>by
  match i with
  | 0=>simp at hy hy';subst hy;subst hy';exact .refl _
  | 1=>simp only [P2,nl,Si] at hy hy';subst hy;subst hy';exact cx s
  | i+2=>simp at hy
def Mj (m:Mov):Bool:=
 if m.kind==1 then ((m.take.length:Int)==0)&&((m.give.length:Int)==1)
 else if m.kind==2 then ((m.take.length:Int)==1)&&((m.give.length:Int)==0)
 else if (m.kind==3) || (m.kind==6) then ((m.take.length:Int)==1)&&((m.give.length:Int)==1)
 else if m.kind==4 then ((m.take.length:Int)==1)&&decide ((2:Int)≤(m.give.length:Int))
 else if m.kind==5 then decide ((2:Int)≤(m.take.length:Int))&&((m.give.length:Int)==1)
 else false
theorem ADe (n:Nat):decide ((1:Int)<(n:Int))=decide ((2:Int)≤(n:Int)):=by
 by_cases h:2≤n
 ·have h1:(1:Int)<n:=by omega
  have h2:(2:Int)≤n:=by omega
  simp [h1,h2]
 have h1:¬(1:Int)<n:=by omega
 have h2:¬(2:Int)≤n:=by omega
 simp [h1,h2]
theorem ADf {m:Mov} (h:(((m.ahead.length:Int) != (m.give.length:Int)) || ((m.back.length:Int) != (m.take.length:Int)))=false):Gi m=Mj m:=by
 rw [m9 h,ADe,ADe]
 rfl
theorem yn (k:Int):(Cl k==([]:Str))=(decide (k<1) || decide (3<k)):=by
 unfold Cl
 by_cases h:k<1∨3<k
 ·rw [if_pos (by first|exact h|omega)]
  rcases h with h|h<;>simp [h]
 rw [if_neg (by first|exact h|omega)]
 have hk:k=1∨k=2∨k=3:=by omega
 rcases hk with rfl|rfl|rfl<;>rfl
theorem cy {m:Mov} {c:Col}:(((!(Dk c.name)) || ((m.kind==3)&&(c.kind != 0))) || ((m.kind != 3)&&(decide (c.kind<1) || decide (3<c.kind)))) = !Kk m c:=by
 rw [←yn]
 unfold Kk
 rw [show (m.kind != 3) = !(m.kind==3) from rfl]
 cases h3:(m.kind==3) with
 | false=>cases Dk c.name<;>cases (Cl c.kind==([]:Str))<;>cases (c.kind != 0)<;>rfl
 | true =>
  by_cases h0:c.kind=0
  ·have e:(Cl c.kind==([]:Str))=true:=by rw [h0];rfl
   have e0:(c.kind != 0)=false:=by rw [h0];rfl
   rw [e,e0]
   cases Dk c.name<;>rfl
  have e0:(c.kind != 0)=true:=by simpa using h0
  rw [e0]
  cases Dk c.name<;>cases (Cl c.kind==([]:Str))<;>rfl
theorem Wr (l:List Expr):l.all D3=l.all B3:=by
 congr 1
 funext e
 exact (F8 e).symm
theorem AH4 {m:Mov} (h:(((((m.ahead.length:Int) != (m.give.length:Int)) || ((m.back.length:Int) != (m.take.length:Int))) || (!(m.ahead.all D3))) || (!(m.back.all D3)))=true):Gj m=false:=by
 rw [Wr,Wr] at h
 unfold Gj
 cases h1:(((m.ahead.length:Int) != (m.give.length:Int)) || ((m.back.length:Int) != (m.take.length:Int))) with
 | true=>rw [m8 h1];rfl
 | false =>
  rw [h1] at h
  cases h2:m.ahead.all B3<;>cases h3:m.back.all B3<;>simp_all
theorem AH5 {m:Mov} (h:(((((m.ahead.length:Int) != (m.give.length:Int)) || ((m.back.length:Int) != (m.take.length:Int))) || (!(m.ahead.all D3))) || (!(m.back.all D3)))=false):Gi m=Mj m∧Gj m=(((Mj m&&m.give.all (Kk m))&&m.take.all Dk)&&Mg m):=by
 rw [Wr,Wr] at h
 simp only [Ej,Dh] at h
 have hk:=ADf (m:=m) (by simp only [Ej];exact h.1.1)
 refine ⟨hk,?_⟩
 unfold Gj
 rw [hk,h.1.2,h.2]
 simp
theorem AH6 {m:Mov} (h6:(m.kind==6)=false):Mg m=((m.kind != 3) || (eqE (m.ahead.getD 0 Ap) (Cw (m.take.getD 0 []))&&eqE (m.back.getD 0 Ap) (Cw (m.give.getD 0 ⟨[],0⟩).name))):=by
 rw [show (m.kind != 3) = !(m.kind==3) from rfl]
 cases h:(m.kind==3) with
 | true=>rw [AD9 h];rfl
 | false=>rw [ADb h h6];rfl
theorem AH7 {m:Mov} (h6:(m.kind==6)=true):Mg m=(m.take.getD 0 []==(m.give.getD 0 ⟨[],0⟩).name):=ADa (by simp at h6 ⊢;omega) h6
theorem AQz (m:Mov) (h:OkMov m) (Hp:List AObj):AFun Tryz.prog 106 [Gw m] Hp (Bk (Gj m)):=by
 refine Af [.tmp 2] [0] Tryz.func106 Tryz.ntmps106 (fun d=>?_)
 refine Z90 ?_;refine De [0,1,3,0,8,24,7,127] 7 An (by kernel_rfl) ?_;refine Z84 ?_;refine Z40 ?_;refine jv ?_;refine gn ?_;refine Z67 ?_
 simp only [Aj]
 refine Z89 ?_;refine Z47 ?_;refine Xm ?_;refine Bt Tryz.call149 (fun hB=>AO5 m.ahead h.ahead _) ?_;refine Bi ?_;refine Z47 ?_;refine Bt Tryz.call149 (fun hB=>AO5 m.back h.back _) ?_;refine Qu ?_;refine A2 [1,3,4,38] ?_
 refine A3 (fun ht38=>?_) (fun ht38=>?_)
 ·simp only [Aj] at ht38
  have hm:=AH4 ht38
  exact ABb
 simp only [Aj] at ht38
 obtain ⟨hck,hm0⟩:=AH5 ht38
 refine Lm ?_;refine A2 [1,3,4,5] ?_
 refine W.join ⟨178,A7 1 (.ro (J6 m)) (A7 3 (A5 (m.take.length:Nat)) (A7 4 (A5 (m.give.length:Nat)) (A7 5 (Bk (Mj m)) (fun _=>.any)))),Hp,[],[],none⟩ ?_ ?_
 ·refine Z1 ?_;refine A2 [1,3,4,5,40] ?_;refine Pj ?_;refine A2 [1,3,4,5,40,41] ?_
  refine A3 (fun ht41=>?_) (fun ht41=>?_)
  ·refine wz ?_;refine K.thJ ?_;exact Bo (by unfold Mj;first|(simp only [ht38,ht41,hk3,hk6,Bg,B4,Gm,K6,if_true,if_false,Aq,↓reduceIte]<;>rfl)|(simp only [ht38,ht41,hk3,Bg,B4,Gm,if_true,if_false,Aq,↓reduceIte]<;>rfl)|(simp only [ht38,ht41,if_true,if_false,Aq,↓reduceIte]<;>rfl))
  refine Z1 ?_;refine A2 [1,3,4,5,40,49] ?_
  refine A3 (fun ht49=>?_) (fun ht49=>?_)
  ·refine wz ?_;refine K.thJ ?_;exact Bo (by unfold Mj;first|(simp only [ht38,ht41,ht49,hk3,hk6,Bg,B4,Gm,K6,if_true,if_false,Aq,↓reduceIte]<;>rfl)|(simp only [ht38,ht41,ht49,hk3,Bg,B4,Gm,if_true,if_false,Aq,↓reduceIte]<;>rfl)|(simp only [ht38,ht41,ht49,if_true,if_false,Aq,↓reduceIte]<;>rfl))
  refine Z8 ?_;refine A2 [1,3,4,5,40,57] ?_
  refine A3 (fun ht57=>?_) (fun ht57=>?_)
  ·have hk3:=ht57
   refine Z5 ?_
   refine A3 (fun ht57=>?_) (fun ht57=>?_)
   ·refine wz ?_;exact Z64
   rw [hk3] at ht57;cases ht57
  have hk3:=ht57
  refine Z12 ?_;refine A2 [1,3,4,5,40,57] ?_;refine Fh ?_
  refine A3 (fun ht57=>?_) (fun ht57=>?_)
  ·have hk6:=ht57
   refine wz ?_;exact Z64
  have hk6:=ht57
  refine Z1 ?_;refine A2 [1,3,4,5,40,66] ?_
  refine A3 (fun ht66=>?_) (fun ht66=>?_)
  ·refine wz ?_;refine K.thJ ?_;exact Bo (by unfold Mj;first|(simp only [ht38,ht41,ht49,ht57,ht57,ht66,hk3,hk6,Bg,B4,Gm,K6,if_true,if_false,Aq,↓reduceIte]<;>rfl)|(simp only [ht38,ht41,ht49,ht57,ht57,ht66,hk3,Bg,B4,Gm,if_true,if_false,Aq,↓reduceIte]<;>rfl)|(simp only [ht38,ht41,ht49,ht57,ht57,ht66,if_true,if_false,Aq,↓reduceIte]<;>rfl))
  refine Z1 ?_;refine A2 [1,3,4,5,74] ?_
  refine A3 (fun ht74=>?_) (fun ht74=>?_)
  ·refine wz ?_;exact Z54
  refine Hq [1,3,4,5] ?_;refine ww ?_;exact Z54
 refine Z8 ?_;refine A2 [1,3,4,83] ?_
 refine A3 (fun ht83=>?_) (fun ht83=>?_)
 ·have hkf:Mj m=false:=by simpa using ht83
  have hm:Gj m=false:=by rw [hm0,hkf];rfl
  exact ABb
 have hkm:Mj m=true:=by simpa using ht83
 have hct:Gi m=true:=hck.trans hkm
 obtain ⟨hl3,hl4⟩:=Fx hct
 refine Rm ?_;refine A2 [1,3,4,6] ?_
 refine B7 (α:=Nat) (fun x=>⟨178,A7 1 (.ro (J6 m)) (A7 3 (A5 (m.take.length:Nat)) (A7 4 (A5 (m.give.length:Nat)) (A7 6 (A5 (x:Nat)) (fun _=>.any)))),Hp,[],[],none⟩) (fun x=>x≤m.take.length∧∀(j:Nat) (y:Str),j<x→m.take[j]? = some y→(!Dk y)=false) (fun x=>m.take.length-x) (0) ⟨Ar _,fun j y h=>by omega⟩ (Bo (by simp)) rfl (fun x hx=>?_)
 refine Z36 ?_;refine A2 [1,3,4,6,86] ?_
 refine A3 (fun ht86=>?_) (fun ht86=>?_)
 ·have hlt:x<m.take.length:=by simpa using ht86
  have htk:=h.takes
  refine ai ?_
  refine A4 (h:=Ac (x) (Ae m.take[x]) (fun _=>Ax hlt)) (hr:=?_)
  refine A4 ?_;refine Aa Tryz.call52 (c52 m.take[x] (h.names _ (B1 hlt)) _) ?_;refine A4 ?_;refine A2 [1,3,4,6,95] ?_
  refine A3 (fun ht95=>?_) (fun ht95=>?_)
  ·rw [←Fw] at ht95
   have hm:Gj m=false:=by
    rw [hm0,Rc.2 ⟨_,B1 hlt,by simpa using ht95⟩]
    simp
   exact AIx
  rw [←Fw] at ht95
  refine Z81 ?_;refine A2 [1,3,4,6] ?_;exact Bb (x+1) ⟨hlt,Cc hlt hx.2 ht95⟩ (by omega) (Cg rfl)
 have hxe:m.take.length≤x:=by simpa using ht86
 have hta:m.take.all Dk=true:=by have:=Iu hxe hx.2;rw [J0] at this;simpa using this
 refine Z55 ?_;refine Z32 ?_;refine A2 [1,4,7] ?_
 refine B7 (α:=Nat) (fun k=>⟨178,A7 1 (.ro (J6 m)) (A7 4 (A5 (m.give.length:Nat)) (A7 7 (A5 (k:Nat)) (fun _=>.any))),Hp,[],[],none⟩) (fun k=>k≤m.give.length∧∀(j:Nat) (y:Col),j<k→m.give[j]? = some y→(!Kk m y)=false) (fun k=>m.give.length-k) (0) ⟨Ar _,fun j y h=>by omega⟩ (Bo (by simp)) rfl (fun k hk=>?_)
 refine Z36 ?_;refine A2 [1,4,7,98] ?_
 refine A3 (fun ht98=>?_) (fun ht98=>?_)
 ·have hlk:k<m.give.length:=by simpa using ht98
  have hgl:=h.gives2
  refine ai ?_
  refine A4 (h:=Ac (k) (Bq m.give[k]) (fun _=>Ax hlk)) (hr:=?_)
  refine Z22 ?_;refine A2 [1,4,7,8] ?_;refine Z17 ?_
  refine A4 (h:=Ac (k) (Bq m.give[k]) (fun _=>Ax hlk)) (hr:=?_)
  refine Z0 ?_;refine Aa Tryz.call52 (c52 m.give[k].name (h.gives.2 _ (B1 hlk)) _) ?_;refine ot ?_;refine Xm ?_;refine Wa ?_;refine Z7 ?_;refine Sr ?_;refine A2 [1,4,7,136] ?_
  refine A3 (fun ht136=>?_) (fun ht136=>?_)
  ·rw [←Fw,cy] at ht136
   have hm:Gj m=false:=by
    rw [hm0,Rc.2 ⟨_,B1 hlk,by simpa using ht136⟩]
    simp
   exact AIx
  rw [←Fw,cy] at ht136
  refine Z81 ?_;refine A2 [1,4,7] ?_;exact Bb (k+1) ⟨hlk,Cc hlk hk.2 ht136⟩ (by omega) (Cg rfl)
 have hke:m.give.length≤k:=by simpa using ht98
 have hga:m.give.all (Kk m)=true:=by have:=Iu hke hk.2;rw [J0] at this;simpa using this
 have hm1:Gj m=Mg m:=by rw [hm0,hkm,hga,hta];rfl
 have g1:=fun h0=>Ou (f:=A9) (l:=m.ahead) (d:=Ap) h0
 have g2:=fun h0=>Ou (f:=A9) (l:=m.back) (d:=Ap) h0
 have g3:=fun h0=>Ou (f:=Ae) (l:=m.take) (d:=[]) h0
 have g4:=fun h0=>Ou (f:=Bq) (l:=m.give) (d:=⟨[],0⟩) h0
 refine Z55 ?_;refine Z36 ?_;refine A2 [1,139] ?_
 refine A3 (fun ht139=>?_) (fun ht139=>?_)
 ·obtain ⟨hl1,hl2⟩:=Px hct (by rw [ht139];simp)
  have hm:=hm1.trans (AH7 ht139)
  refine AM8 ?_
  refine Al (h:=Ac (0) (Ae (m.take.getD 0 [])) (fun _=>g3 (by omega))) (hr:=?_)
  refine Z40 ?_
  refine Al (h:=Ac (0) (Bq (m.give.getD 0 ⟨[],0⟩)) (fun _=>g4 (by omega))) (hr:=?_)
  refine Qt ?_;refine Z49 ?_;exact Z83
 have hm:=hm1.trans (AH6 ht139)
 have len3:((m.kind != 3)==false)=true→0<m.ahead.length∧0<m.take.length∧0<m.back.length∧0<m.give.length:=fun hB=>by
  obtain ⟨a1,a2⟩:=Px hct (by simp at hB;rw [hB];rfl)
  omega
 have and3:∀{b:Bool},(((m.kind != 3)==false)&&b)=true→((m.kind != 3)==false)=true:=fun h=>AGy h
 refine Z5 ?_;refine De [0,1,3,7,15,31,63,127,15,271,783,1807,3855,8191,16383,32767,65535,131071,262143,32767,557055,1605631,3702783,7897087,16285695,33554431,67108863,134217727,268435455] 25 An (by kernel_rfl) ?_;refine Z84 ?_;refine Z72 ?_
 refine Ft (h:=Ac (0) (A9 (m.ahead.getD 0 Ap)) (fun hB=>g1 (len3 hB).1)) (hr:=?_)
 refine ag ?_
 refine Ft (h:=Ac (0) (Ae (m.take.getD 0 [])) (fun hB=>g3 (len3 hB).2.1)) (hr:=?_)
 refine Ft ?_;refine H.build (places:=#[(0,1),(1,1),(2,3),(5,1)]) jU (fun w=>by simp) jZ ?_;refine H.call Tryz.call20 (fun hB=>AOd (m.ahead.getD 0 Ap) (h.ahead.ok _ (Nt (len3 hB).1)) (m.take.getD 0 []) _) ?_;refine ag ?_
 refine Ft (h:=Ac (0) (A9 (m.back.getD 0 Ap)) (fun hB=>g2 (len3 (and3 hB)).2.2.1)) (hr:=?_)
 refine ag ?_
 refine Ft (h:=Ac (0) (Bq (m.give.getD 0 ⟨[],0⟩)) (fun hB=>g4 (len3 (and3 hB)).2.2.2)) (hr:=?_)
 refine Z72 ?_;refine H.build (places:=#[(0,1),(1,1),(2,3),(5,1)]) jU (fun w=>by simp) jZ ?_;refine Ey ?_;refine Bt Tryz.call20 (fun hB=>AOd (m.back.getD 0 Ap) (h.back.ok _ (Nt (len3 (and3 hB)).2.2.1)) (m.give.getD 0 ⟨[],0⟩).name _) ?_;refine Bi ?_;exact AM5

theorem c61 (l:List Mov) (h:OkMovs l) (Hp:List AObj):AFun Tryz.prog 61 [Ew l] Hp (Bk (Pw l)):=by
 refine Af [.tmp 2] [0] Tryz.func61 Tryz.ntmps61 (fun d=>?_)
 refine k9 ?_;refine A2 [0,6] ?_
 refine A3 (fun ht6=>?_) (fun ht6=>?_)
 ·rw [Aj] at ht6
  have hm:Pw l=false:=by
   unfold Pw
   rw [show decide ((l.length:Int)≤8)=false by simp at ht6 ⊢;omega]
   rfl
  exact ABa
 rw [Aj] at ht6
 have h8:decide ((l.length:Int)≤8)=true:=by simp at ht6 ⊢;omega
 have hl8:l.length≤8:=by simp at h8;omega
 refine AB9 ?_
 refine B7 (α:=Nat) (fun x=>⟨19,A7 0 (Ew l) (A7 3 (A5 (x:Nat)) (fun _=>.any)),Hp,[],[],none⟩) (fun x=>x≤l.length∧∀(j:Nat) (y:Mov),j<x→l[j]? = some y→(!Gj y)=false) (fun x=>l.length-x) (0) ⟨Ar _,fun j y h=>by omega⟩ (Bo (by simp)) rfl (fun x hx=>?_)
 refine Z60 ?_;refine A2 [0,3,10] ?_
 refine A3 (fun ht10=>?_) (fun ht10=>?_)
 ·have hlt:x<l.length:=by simpa using ht10
  refine Su ?_
  refine A4 (h:=Ac (x) (Gw l[x]) (fun _=>Ax hlt)) (hr:=?_)
  refine A4 ?_;refine Aa Tryz.call106 (AQz l[x] (h.each _ (B1 hlt)) _) ?_;refine A4 ?_;refine A2 [0,3,18] ?_
  refine A3 (fun ht18=>?_) (fun ht18=>?_)
  ·have hm:Pw l=false:=by
    unfold Pw
    rw [Rc.2 ⟨_,B1 hlt,by simpa using ht18⟩]
    simp
   exact AFc
  refine wq ?_;exact Bb (x+1) ⟨hlt,Cc hlt hx.2 ht18⟩ (by omega) (Cg rfl)
 have hxe:l.length≤x:=by simpa using ht10
 have hm:Pw l=true:=by
  have h2:=Iu hxe hx.2
  rw [J0] at h2
  unfold Pw
  rw [h8]
  simpa using h2
 exact ABc

theorem AH8 (c:List Col) (ms:List Mov):∀k,((Bx c ms k).map Am)[k]? = some (Am (colsAt c ms k))
 | 0=>rfl
 | k+1=>by
  have h:=Hi c ms k
  rw [Bx,By,Dd (by rw [Aj];omega),Aj,h,O2]
  rfl
theorem rf {c:List Col} {ms:List Mov} {k:Nat} {m:Mov} (hk:ms[k]? = some m) (h:NS c ms k) (he:(C1 (colsAt c ms k) m).2≠0):Dg c ms=(Bx c ms k,(C1 (colsAt c ms k) m).2):=by
 unfold NS at h
 rw [h,Pz hk,Dg,if_pos (by simpa using he)]
 exact Mw (ir c ms k) rfl
theorem AK8 {c:List Col} {l:List Mov} (h:((!(Ct c)) || (!(Pw l)))=true):J7 c l=([],1):=if_neg (by unfold Og;cases h1:Ct c<;>cases h2:Pw l<;>simp_all)
theorem AH9 {c:List Col} {l:List Mov} (h:((!(Ct c)) || (!(Pw l)))=false):Og c l=true:=by unfold Og;cases h1:Ct c<;>cases h2:Pw l<;>simp_all
theorem c26 (c:List Col) (hc:OkCols c) (l:List Mov) (h:OkMovs l) (Hp:List AObj):AFun Tryz.prog 26 [Am c,Ew l] Hp (.tup [Gb (J7 c l).1,A5 (J7 c l).2]):=by
 refine Af [.tmp 4,.tmp 5] [0,1] Tryz.func26 Tryz.ntmps26 (fun d=>?_)
 refine ge ?_;refine Z32 ?_;refine Aa Tryz.call24 (c24 c hc _) ?_;refine Qx ?_;refine Bt Tryz.call61 (fun hB=>c61 l h _) ?_;refine Qu ?_;refine A2 [0,1,17] ?_
 refine A3 (fun ht17=>?_) (fun ht17=>?_)
 ·have hm:=AK8 ht17
  refine Z2 ?_;refine Ru 4 1 false ?_;refine A4 ?_;refine Z52 ?_;exact A8 (Ay A6 A6) ⟨by rw [hm];rfl,rfl⟩
 have hmay:=AH9 ht17
 obtain ⟨hmv,hl8⟩:=ADd hmay h
 have hmr:J7 c l=Dg c l:=if_pos hmay
 refine Lm ?_;refine Pn ?_;refine L1 ?_;refine A2 [1,6] ?_;refine Z32 ?_;refine A2 [1,6,7] ?_
 refine B7 (α:=Nat) (fun x=>⟨47,A7 1 (Ew l) (A7 6 (.slice true 1 ((Bx c l x).map Am)) (A7 7 (A5 (x:Nat)) (fun _=>.any))),Hp,[],[],none⟩) (fun x=>x≤l.length∧NS c l x) (fun x=>l.length-x) (0) ⟨Ar _,AK7⟩ (Bo (by simp [Bx])) rfl (fun x hx=>?_)
 refine Z60 ?_;refine A2 [1,6,7,23] ?_
 refine A3 (fun ht23=>?_) (fun ht23=>?_)
 ·have hlt:x<l.length:=by simpa using ht23
  refine Z50 ?_;refine De [0,0,3,7,0,0,48,112,255,511,1023,1023,2047,8191] 13 An (by kernel_rfl) ?_;refine Z11 ?_
  refine Al (h:=Ac (x) (Am (colsAt c l x)) (fun _=>AH8 c l x)) (hr:=?_)
  refine Z40 ?_
  refine Al (h:=Ac (x) (Gw l[x]) (fun _=>Ax hlt)) (hr:=?_)
  refine Al ?_;refine E1 Tryz.call62 (c62 (colsAt c l x) (Fe hc (fun m hm=>h.each m hm) x) l[x] (hmv _ (B1 hlt)) _) ?_;refine Z84 ?_;refine jv ?_;refine A2 [1,6,7,8,9] ?_;refine Z8 ?_;refine A2 [1,6,7,8,9,39] ?_
  refine A3 (fun ht39=>?_) (fun ht39=>?_)
  ·have he:(C1 (colsAt c l x) l[x]).2≠0:=by simpa using ht39
   have hm:J7 c l=(Bx c l x,(C1 (colsAt c l x) l[x]).2):=hmr.trans (rf (Ab hlt) hx.2 he)
   refine Z27 ?_;refine Z52 ?_;refine Z45 ?_;exact AN4
  have he:(C1 (colsAt c l x) l[x]).2=0:=by simpa using ht39
  refine og ?_;refine Z57 ?_
  refine Eu jU Tryz.type27 ?_ ?_ ?_
  ·have hol:=Hi c l x;simp [Tryz.t27];omega
  ·have hol:=Hi c l x;simp [Tryz.t27];omega
  refine L1 ?_;refine A2 [1,6,7] ?_;refine Xl ?_;refine A2 [1,6,7] ?_
  refine Bb (x+1) ⟨hlt,iu (Ab hlt) hx.2 he⟩ (by omega) (Cg ?_)
  rw [Bx,Fq (Ab hlt),By]
  rfl
 have hxe:x=l.length:=by have:=hx.1;simp at ht23;omega
 have hm:J7 c l=(Bx c l x,0):=by rw [hmr];subst hxe;exact re hx.2
 refine Z55 ?_;refine Z17 ?_;refine Z9 ?_;exact AN4

theorem yo {n k:Nat} {o:Bool} {l:List Str}:Low n (.slice o k (l.map Ae)):=by simp [or_imp,forall_and]
def Iv (c:List Col):List Expr:=c.map fun x=>Cw x.name
theorem Mk {n k:Nat} {o:Bool} {a:List Expr} {e:Expr}:Low n (.slice o k (a.map A9++[A9 e])):=low_slice.2 fun y hy=>by
 rcases E7.1 hy with h|h
 ·obtain ⟨m,_,rfl⟩:=Cr.1 h
  exact Av _ _
 rw [Bl.1 h]
 exact Av _ _
theorem Ce {n k:Nat} {o:Bool} {a:List Expr}:Low n (.slice o k (a.map A9)):=low_slice.2 fun y hy=>by
 obtain ⟨m,_,rfl⟩:=Cr.1 hy
 exact Av _ _
theorem c64 (c:List Col) (hc:c.length≤1048576) (Hp:List AObj):AFun Tryz.prog 64 [Am c] Hp (Cj (Iv c)):=by
 refine Af [.tmp 2] [0] Tryz.func64 Tryz.ntmps64 (fun d=>?_)
 refine Z43 ?_;refine Z2 ?_;refine Ln ?_;refine Z67 ?_;refine N7 3 6 ?_;refine Z22 ?_;refine A2 [3,6,7,8] ?_
 refine B7 (α:=Nat) (fun x=>⟨20,A7 3 (.slice true 6 (((c.take x).map fun y=>Cw y.name).map A9)) (A7 6 (Am c) (A7 7 (A5 (c.length:Nat)) (A7 8 (A5 (x:Nat)) (fun _=>.any)))),Hp,[],[],none⟩) (fun x=>x≤c.length) (fun x=>c.length-x) (0) (Ar _) (Bo (by simp)) rfl (fun x hx=>?_)
 refine Z2 ?_;refine A2 [3,6,7,8,9] ?_
 refine Dm (fun ht9=>?_) (fun ht9=>?_)
 ·have hlt:x<c.length:=by simpa using ht9
  refine Qr ?_
  refine A4 (h:=Ac (x) (Bq c[x]) (fun _=>Ax hlt)) (hr:=?_)
  refine Rn ?_;refine A2 [3,5,6,7,8] ?_;refine wm ?_;refine Z0 ?_;refine p8 ?_;refine R.wk 15 _ (cx c[x].name) ?_;refine Pn ?_
  refine Eu jU Tryz.type26 ?_ ?_ ?_
  ·simp only [Aj,Ci,Aw,Az,Tryz.t26];omega
  ·simp only [Aj,Ci,Aw,Az,Tryz.t26];omega
  refine L1 ?_;refine A2 [3,6,7,8] ?_;refine Qv ?_;refine A2 [3,6,7,8] ?_;refine gm ?_
  rw [Ns hlt,By]
  exact D4 (own:=[]) (fun _=>.refl _) (by repeat (first|exact Be|refine Bd (by first|(simp [or_imp,forall_and];done)|exact Mk|exact D8) ?_)) (by simp) (by simp)
 have hxe:c.length≤x:=by simpa using ht9
 refine Z28 ?_;refine gj ?_;exact A8 (Ah A6) ⟨by unfold Iv;rw [E8 hxe],rfl⟩ (hlow:=Ce)

/-! fuse: trees in columns' places. -/
mutual
def putF (c:List Col) (l:List Expr):Expr→Option Expr
 | .mk o t v k=>if o==2 then (if B6 t c<0 then none else some (l.getD (B6 t c).toNat Ap)) else (Ja c l k).map fun k'=>.mk o t v k'
def Ja (c:List Col) (l:List Expr):List Expr→Option (List Expr)
  | []=>some []
  | e::r=>match putF c l e with
    | none=>none
    | some y=>(Ja c l r).map fun s=>y::s
 end
/-- fuse.Over. -/
def Fj (x:Expr) (c:List Col) (l:List Expr):Expr×Int:=
 if (((!(B3 x)) || l.any Gz) || !(Nm c)) || ((c.length:Int) != (l.length:Int)) then (Ap,1)
 else match putF c l x with
  | none=>(Ap,9)
  | some y=>if B3 y then (y,0) else (Ap,3)
/-- fuse.over: the trees, till one goes wrong. -/
def C6 (c:List Col) (by_:List Expr):List Expr→List Expr×Int
 | []=>([],0)
 | x::r=>if (Fj x c by_).2 != 0 then ([],(Fj x c by_).2) else if (C6 c by_ r).2 != 0 then ([],(C6 c by_ r).2) else ((Fj x c by_).1::(C6 c by_ r).1,0)
/-- fuse.stay. -/
def Ea (take:List Str):List Col→List Expr→List Expr
 | y::c,x::l=>if take.contains y.name then Ea take c l else x::Ea take c l
 | _,_=>[]
theorem Km {take:List Str}:∀{c:List Col} {l:List Expr},c.length=l.length→(Ea take c l).length=(D6 c take).length
 | [],[],_=>rfl
 | [],_::_,h=>by simp at h
 | _::_,[],h=>by simp at h
 | y::c,x::l,h=>by
  have ih:=Km (take:=take) (c:=c) (l:=l) (by simpa using h)
  unfold Ea D6
  by_cases hc:take.contains y.name=true
  ·rw [if_pos hc]
   simp only [L6,hc,Il,Aq,if_false]
   exact ih
  rw [if_neg hc]
  have hc':take.contains y.name=false:=by simpa using hc
  simp only [L6,hc',Tq,if_true,Aw]
  exact congrArg (·+1) ih
theorem Ml {c:List Col} {by_:List Expr}:∀(l:List Expr),(C6 c by_ l).2=0→(C6 c by_ l).1.length=l.length
 | [],_=>rfl
 | x::r,h=>by
  unfold C6 at h ⊢
  split at h
  ·rename_i h1
   exact AFt
  rename_i h1
  rw [if_neg h1]
  split at h
  ·rename_i h2
   exact absurd h (by simpa using h2)
  rename_i h2
  rw [if_neg h2]
  have:=Ml (c:=c) (by_:=by_) r (by simpa using h2)
  simp [this]
theorem Yz (o:Int) (t:Str) (v:Val) (k:List Expr):A9 (.mk o t v k)=.agg [A5 o,.v (sv t),A5 v.kind,A5 v.n,.v (sv v.s),.slice false 6 (k.map A9)]:=by rw [At];rfl
theorem ADg {n:Nat} {x:Expr} {o:Bool} {l:List Expr}:ObjLow n (.cells 26 [A5 x.op,.v (sv x.text),A5 x.val.kind,A5 x.val.n,.v (sv x.val.s),.slice o 6 (l.map A9)]):=by
 show ∀z∈[A5 x.op,AV.v (sv x.text),A5 x.val.kind,A5 x.val.n,AV.v (sv x.val.s),AV.slice o 6 (l.map A9)],Low n z
 intro z hz
 simp only [B5,F5,or_false] at hz
 rcases hz with rfl|rfl|rfl|rfl|rfl|rfl
 all_goals first|exact F1|simp
theorem AR0 {α:Type} {P:α→Prop} {a b:α} (h1:P a) (h2:P b):∀x∈[a,b],P x:=by
 intro x hx
 simp only [B5,F5,or_false] at hx
 rcases hx with rfl|rfl
 ·exact h1
 exact h2
def mb (c:List Col) (l:List Expr) (e:Expr):Expr:=(putF c l e).getD Ap
theorem cz {c:List Col} {l:List Expr}:∀{k:List Expr},(∀(j:Nat) (y:Expr),k[j]? = some y→(!(putF c l y).isSome)=false)→Ja c l k=some (k.map (mb c l))
 | [],_=>rfl
 | e::r,h=>by
  have h1:=h 0 e rfl
  have h2:=cz (c:=c) (l:=l) (k:=r) (fun j y hy=>h (j+1) y hy)
  rw [Ja]
  cases he:putF c l e with
  | none=>rw [he] at h1;cases h1
  | some z=>rw [h2,Bz,show mb c l e=z by unfold mb;rw [he];rfl];rfl
theorem d7 {c:List Col} {l:List Expr}:∀{k:List Expr} {e:Expr},e∈k→putF c l e=none→Ja c l k=none
 | a::r,e,hm,h=>by
  rw [Ja]
  rcases B5.1 hm with rfl|hm
  ·rw [h]
  have:=d7 hm h
  cases ha:putF c l a with
  | none=>rfl
  | some z=>rw [this];rfl
theorem Z4 {c:List Col} {l:List Expr} {x:Expr} (h:(x.op==2)=true):putF c l x=if B6 x.text c<0 then none else some (l.getD (B6 x.text c).toNat Ap):=by
 cases x;rw [putF];exact if_pos h
theorem Za {c:List Col} {l:List Expr} {x:Expr} (h:(x.op==2)=false):putF c l x=(Ja c l x.kids).map fun k'=>.mk x.op x.text x.val k':=by
 cases x;rw [putF];exact if_neg (fun e=>Bool.false_ne_true (h.symm.trans e))
theorem mc {c:List Col} {l:List Expr} {s:Str} (hl:c.length=l.length) (hf:¬B6 s c<0):(l.map A9)[(B6 s c).toNat]? = some (A9 (l.getD (B6 s c).toNat Ap))∧(B6 s c).toNat<l.length∧0≤B6 s c:=by
 obtain ⟨j,hj,hjl⟩:=Hh hf
 rw [hj,Int.toNat_natCast]
 refine ⟨?_,by omega,by omega⟩
 rw [Cf,Ab (by omega),C9,Ab (by omega)]
 rfl
theorem AR1 (c:List Col) (hc:OkCols c) (l:List Expr) (hl:c.length=l.length):∀(n:Nat) (x:Expr),okE n x→∀Hp:List AObj,AFun Tryz.prog 152 [A9 x,Am c,Cj l] Hp (.tup [A9 ((putF c l x).getD Ap),Bk (putF c l x).isSome]):=by
 intro n
 induction n with
 | zero=>exact fun e h=>h.elim
 | succ n ih =>
 intro x hok Hp
 refine Af [.cell 6 26,.tmp 7] [0,1,2] Tryz.func152 Tryz.ntmps152 (fun d=>?_)
 refine wx ?_;refine Z73 ?_;refine A2 [1,2,3,6] ?_;refine Z36 ?_;refine A2 [1,2,3,6,16] ?_
 refine A3 (fun ht16=>?_) (fun ht16=>?_)
 ·have hpn:=Z4 (c:=c) (l:=l) ht16
  refine Z17 ?_;refine Aa Tryz.call58 (c58 c hc x.text _) ?_;refine A4 ?_;refine A2 [2,6,8] ?_;refine Z8 ?_;refine A2 [2,6,8,22] ?_
  refine A3 (fun ht22=>?_) (fun ht22=>?_)
  ·have hm:putF c l x=none:=by rw [hpn,if_pos (by simpa using ht22)]
   refine Z46 ?_;refine Iq ?_;refine N9 1 5 6 ?_;refine Z88 ?_;refine C4 ?_;refine C4 ?_;exact AN5
  have hneg:¬B6 x.text c<0:=by simpa using ht22
  have hm:putF c l x=some (l.getD (B6 x.text c).toNat Ap):=by rw [hpn,if_neg hneg]
  refine Ro ?_
  obtain ⟨_,hg1,hg2⟩:=mc hl hneg
  refine A4 (h:=Ac ((B6 x.text c).toNat) (A9 (l.getD (B6 x.text c).toNat Ap)) (fun _=>(mc hl hneg).1)) (hr:=?_)
  refine A4 ?_;refine gc ?_;refine C4 ?_;exact A8 (Ay (Bu jA jS) A6) ⟨by rw [hm];show _=AV.tup [A9 (l.getD _ Ap),Bk true];rw [At]<;>rfl,rfl⟩ (hlow:=by simp [or_imp,forall_and,Av])
 have hpk:=Za (c:=c) (l:=l) ht16
 refine Z82 ?_;refine A2 [1,2,3,6,9] ?_;refine Z2 ?_;refine Iq ?_;refine A2 [1,2,3,6,9] ?_;refine Z67 ?_;refine N9 0 5 6 ?_;refine Z22 ?_;refine A2 [1,2,3,6,31,32,33] ?_
 refine B7 (α:=Nat) (fun i=>⟨55,A7 1 (Am c) (A7 2 (Cj l) (A7 3 (.ptr (oid Hp.length 0) 0) (A7 6 (.ptr (oid Hp.length 1) 0) (A7 31 (.slice false 6 (x.kids.map A9)) (A7 32 (A5 (x.kids.length:Nat)) (A7 33 (A5 (i:Nat)) (fun _=>.any))))))),Hp,[.cells 26 [A5 x.op,Ae x.text,A5 x.val.kind,A5 x.val.n,Ae x.val.s,.slice true 6 (((x.kids.take i).map (mb c l)).map A9)],.cells 26 [A5 0,Ae [],A5 0,A5 0,Ae [],.nil]],[],none⟩) (fun i=>i≤x.kids.length∧∀(j:Nat) (y:Expr),j<i→x.kids[j]? = some y→(!(putF c l y).isSome)=false) (fun i=>x.kids.length-i) (0) ⟨Ar _,fun j y h=>by omega⟩ (Bo (by simp)) rfl (fun i hi=>?_)
 refine Z2 ?_;refine A2 [1,2,3,6,31,32,33,34] ?_
 refine Dm (fun ht34=>?_) (fun ht34=>?_)
 ·have hlt:i<x.kids.length:=by simpa using ht34
  have hkl:=hok.2.1
  refine Qr ?_
  refine A4 (h:=Ac (i) (A9 x.kids[i]) (fun _=>Ax hlt)) (hr:=?_)
  refine Rn ?_;refine A2 [1,2,3,6,11,31,32,33] ?_;refine Z17 ?_;refine Aa Tryz.call152 (ih x.kids[i] (hok.2.2 _ (B1 hlt)) _) ?_;refine Xj ?_;refine A2 [1,2,3,6,12,13,31,32,33] ?_;refine Z8 ?_;refine A2 [1,2,3,6,12,31,32,33,45] ?_
  refine A3 (fun ht45=>?_) (fun ht45=>?_)
  ·have hm:putF c l x=none:=by rw [hpk,d7 (B1 hlt) (by simpa using ht45)];rfl
   refine Z46 ?_;refine Iq ?_;refine N9 1 5 6 ?_;refine Z88 ?_;refine C4 ?_;refine Z45 ?_;exact AN5
  refine Z5 ?_;refine Z66 ?_;refine fp jA ?_;refine Z57 ?_
  refine Eu jU Tryz.type26 ?_ ?_ ?_
  ·simp only [Aj,Ci,Aw,Az,Tryz.t26];omega
  ·simp only [Aj,Ci,Aw,Az,Tryz.t26];omega
  refine A4 ?_;refine Xc jS ?_;refine A2 [1,2,3,6,31,32,33] ?_;refine Qv ?_;refine A2 [1,2,3,6,31,32,33] ?_;refine Bb (i+1) ⟨hlt,Cc hlt hi.2 ht45⟩ (by omega) ?_
  have hlo:=fun m=>ADg (n:=m) (x:=x) (o:=true) (l:=(x.kids.take i).map (mb c l)++[mb c l x.kids[i]])
  simp only [By,Bz,Ek,At] at hlo
  simp only [show Tryz.t26.size=6 from rfl]
  rw [Ns hlt,By,Bz,Ek,At]
  exact D4 (fun _=>.refl _) (by repeat (first|exact Be|refine Bd (by first|exact Ce|exact D8|(simp [oid,Av];done)|(simp [oid]<;>omega)) ?_)) (AR0 (hlo _) ig) (by simp)
 have hxe:x.kids.length≤i:=by simpa using ht34
 have hm:putF c l x=some (.mk x.op x.text x.val (x.kids.map (mb c l))):=by rw [hpk,cz (fun j y hy=>hi.2 j y (by have:=(Ad.1 hy).1;omega) hy)];rfl
 refine Z28 ?_;refine Z2 ?_;refine gc ?_;exact A8 (Ay (Bu jA jS) A6) ⟨by rw [hm];show _=AV.tup [A9 (.mk x.op x.text x.val (x.kids.map (mb c l))),Bk true];rw [Yz,E8 hxe],rfl⟩ (hlow:=by simp [or_imp,forall_and];intro y hy;obtain ⟨e,_,rfl⟩:=Cr.1 (Sf hy);exact Av _ _)

theorem S1 {c:List Col} {l:List Expr}:∀{k s:List Expr},Ja c l k=some s→s.length=k.length∧∀y∈s,∃e∈k,putF c l e=some y
 | [],s,h=>by
  rw [Ja] at h
  injection h with h
  subst h
  exact ⟨rfl,fun y hy=>by cases hy⟩
 | a::r,s,h=>by
  rw [Ja] at h
  cases ha:putF c l a with
  | none=>rw [ha] at h;cases h
  | some z =>
   rw [ha] at h
   simp only at h
   cases hr:Ja c l r with
   | none=>rw [hr] at h;cases h
   | some t =>
    rw [hr] at h
    injection h with h
    subst h
    obtain ⟨h1,h2⟩:=S1 hr
    refine ⟨by simp [h1],fun y hy=>?_⟩
    rcases B5.1 hy with rfl|hy
    ·exact ⟨a,Hu,ha⟩
    obtain ⟨e,he,hp⟩:=h2 y hy
    exact ⟨e,Kr _ he,hp⟩
theorem um {c:List Col} {l:List Expr} {m:Nat} (hl:∀e∈l,okE (m+1) e) (hc:c.length=l.length):∀(n:Nat) (x y:Expr),okE n x→putF c l x=some y→okE (m+1+n) y
 | 0,x,y,h,_=>h.elim
 | n+1,x,y,h,hp=>by
  cases h2:x.op==2 with
  | true =>
   rw [Z4 h2] at hp
   split at hp
   ·cases hp
   rename_i hf
   injection hp with hp
   subst hp
   obtain ⟨j,hj,hjl⟩:=Hh hf
   rw [hj,Int.toNat_natCast,C9,Ab (by omega)]
   exact J4 (by omega) (hl _ (B1 (by omega)))
  | false =>
   rw [Za h2] at hp
   cases hk:Ja c l x.kids with
   | none=>rw [hk] at hp;cases hp
   | some s =>
    rw [hk] at hp
    injection hp with hp
    subst hp
    obtain ⟨h3,h4⟩:=S1 hk
    refine ⟨h.1,by show s.length≤_;rw [h3];exact h.2.1,fun z hz=>?_⟩
    obtain ⟨e,he,hpe⟩:=h4 z hz
    exact um hl hc n e z (h.2.2 e he) hpe
theorem AK9 {x:Expr} {c:List Col} {l:List Expr} (h:((((!(B3 x)) || l.any Gz) || !(Nm c)) || ((c.length:Int) != (l.length:Int)))=true):Fj x c l=(Ap,1):=if_pos h
theorem ADh {x:Expr} {c:List Col} {l:List Expr} (h:((((!(B3 x)) || l.any Gz) || !(Nm c)) || ((c.length:Int) != (l.length:Int)))=false):Fj x c l=match putF c l x with
  | none=>(Ap,9)
  | some y=>if B3 y then (y,0) else (Ap,3):=if_neg (by rw [h];simp)
theorem AR2 (x:Expr) (hok:okE 61 x) (c:List Col) (hc:OkCols c) (l:List Expr) (hll:l.length≤1048576) (hlo:∀e∈l,okE 61 e) (Hp:List AObj):AFun Tryz.prog 110 [A9 x,Am c,Cj l] Hp (.tup [A9 (Fj x c l).1,A5 (Fj x c l).2]):=by
 refine Af [.cell 6 26,.tmp 7] [0,1,2] Tryz.func110 Tryz.ntmps110 (fun d=>?_)
 refine Z2 ?_;refine Z73 ?_;refine A2 [1,2,3,6] ?_;refine Z32 ?_;refine Aa Tryz.call38 (c38 61 x hok (by decide) _) ?_;refine Qx ?_;refine Bt Tryz.call151 (fun hB=>AQt l hll hlo _) ?_;refine Qx ?_;refine Bt Tryz.call36 (fun hB=>c36 c hc _) ?_;refine Bi ?_;refine Z47 ?_;refine Sr ?_;refine A2 [1,2,3,6,28] ?_
 refine A3 (fun ht28=>?_) (fun ht28=>?_)
 ·simp only [Aj] at ht28
  have hm:=AK9 ht28
  refine Z46 ?_;refine AF6 ?_;refine Z88 ?_;refine C4 ?_;exact AN6
 simp only [Aj] at ht28
 have hm0:=ADh ht28
 have hcl:c.length=l.length:=by simp only [Ej,bne_eq_false_iff_eq] at ht28;have:=ht28.2;omega
 refine Z82 ?_;refine Aa Tryz.call152 (AR1 c hc l hcl 61 x hok _) ?_;refine Xj ?_;refine A2 [6,8,9] ?_;refine k7 ?_;refine A2 [6,8,37] ?_
 refine A3 (fun ht37=>?_) (fun ht37=>?_)
 ·have hp:putF c l x=none:=by simpa using ht37
  have hm:Fj x c l=(Ap,9):=by rw [hm0,hp]
  refine Z46 ?_;refine AF6 ?_;refine Z88 ?_;exact AL4
 obtain ⟨y,hp⟩:∃y,putF c l x=some y:=by
  cases h:putF c l x with
  | none=>rw [h] at ht37;cases ht37
  | some y=>exact ⟨y,rfl⟩
 have hyo:okE 122 ((putF c l x).getD Ap):=by rw [hp];exact um (m:=60) hlo hcl 61 x y hok hp
 refine Z2 ?_;refine Aa Tryz.call38 (c38 122 ((putF c l x).getD Ap) hyo (by decide) _) ?_;refine Z0 ?_;refine A2 [6,8,41] ?_
 refine A3 (fun ht41=>?_) (fun ht41=>?_)
 ·have hm:Fj x c l=(Ap,3):=by
   rw [hp] at ht41
   rw [hm0,hp]
   exact if_neg (by simpa using ht41)
  refine Z46 ?_;refine AF6 ?_;refine Z88 ?_;exact AL4
 have hm:Fj x c l=(y,0):=by
  rw [hp] at ht41
  rw [hm0,hp]
  exact if_pos (by simpa using ht41)
 refine Z16 ?_;refine Z2 ?_;refine gc ?_;exact A8 (Ay (Bu jA jS) A6) ⟨by rw [hm,hp];show _=AV.tup [A9 y,A5 0];rw [At];rfl,rfl⟩ (hlow:=by simp [or_imp,forall_and,Av])

set_option maxRecDepth 8000
/-! The words of a print. -/
/-! What a tree comes to: eval's model. -/
abbrev Rs:=Val×Int
def Dx (e:Int):Rs:=(noV,e)
def b7 (s:Str):Val:=⟨2,0,s.take 200⟩
def J8 (x:Int×Int):Rs:=if x.2 != 0 then Dx x.2 else (⟨1,x.1,[]⟩,0)
def rg (a b:Int):Int×Int:=if decide (bh .i64 (V5 .i64 a (IntKind.i64.wrap (a+b))) (V5 .i64 b (IntKind.i64.wrap (a+b)))<0) then (0,4) else (IntKind.i64.wrap (a+b),0)
def Oh (a b:Int):Int×Int:=if decide (bh .i64 (V5 .i64 a b) (V5 .i64 a (IntKind.i64.wrap (a-b)))<0) then (0,4) else (IntKind.i64.wrap (a-b),0)
def Vq (a:Int):Int:=if decide (a<0) then IntKind.u64.wrap (0-IntKind.u64.wrap a) else IntKind.u64.wrap a
def E5:List Val→List Int→Bool
 | _,[]=>true
 | [],_::_=>false
 | v::vs,k::ks=>(v.kind==k)&&E5 vs ks
def Q0 (a b:Val):Rs:=if !E5 [a,b] [2,2] then Dx 10 else if decide ((200:Int)<(a.s.length:Int)+(b.s.length:Int)) then Dx 3 else (b7 (a.s++b.s),0)
def Bj (r:Rs):Rs:=if (r.2==0)&&(r.1.kind != 0)&&(r.1.kind != 3) then Dx 10 else r
def Jv (strong:Val) (a b:Rs):Rs:=if ((Bj a).2 != 0) || ((Bj a).1==strong) then Bj a else if (((Bj b).2 != 0) || ((Bj b).1==strong)) || ((Bj a).1.kind != 0) then Bj b else ((Bj a).1,0)
def ifW:Str:=[105,102]
def Ut:Str:=[110,118,108]
def Co:Str:=[105,115,110,117,108,108]
def G6 (t:Str) (a b c:Rs):Rs:=
 if t==ifW then (if (Bj a).2 != 0 then Dx (Bj a).2 else if (Bj a).1==K1 true then b else c)
 else if a.2 != 0 then Dx a.2 else if t==Co then (K1 (a.1.kind==0),0) else if a.1.kind != 0 then (a.1,0) else b
def Nd (strict:List Val→Rs) (l:List Rs):Rs:=match l.find? (fun q=>q.2 != 0) with|some q=>Dx q.2|none=>if l.any (fun q=>q.1.kind==0) then (noV,0) else strict (l.map (·.1))
def L3 (c:List Col) (l:List Val) (t:Str):Rs:=if B6 t c<0 then Dx 9 else (l.getD (B6 t c).toNat noV,0)
def orW:Str:=[111,114]
def iv:Str:=[97,110,100]
/-- A node, of what its kids come to; what a strict node comes to is a parameter. -/
def K4 (strict:Int→Str→List Val→Rs) (c:List Col) (l:List Val) (o:Int) (t:Str) (v:Val) (ks:List Rs):Rs:=
 if o==1 then (v,0) else if o==2 then L3 c l t
 else if (o==5)&&(t==orW) then Jv (K1 true) (ks.getD 0 (noV,0)) (ks.getD 1 (noV,0))
 else if (o==5)&&(t==iv) then Jv (K1 false) (ks.getD 0 (noV,0)) (ks.getD 1 (noV,0))
 else if (o==6)&&(((t==ifW) || (t==Ut)) || (t==Co)) then G6 t (ks.getD 0 (noV,0)) (ks.getD 1 (noV,0)) (ks.getD 2 (noV,0))
 else Nd (strict o t) ks
mutual
def Fb (strict:Int→Str→List Val→Rs) (c:List Col) (l:List Val):Expr→Rs
 | .mk o t v k=>K4 strict c l o t v (R8 strict c l k)
def R8 (strict:Int→Str→List Val→Rs) (c:List Col) (l:List Val):List Expr→List Rs
  | []=>[]
  | e::r=>Fb strict c l e::R8 strict c l r
 end
theorem Ly (f:Int→Str→List Val→Rs) (c:List Col) (l:List Val):∀k,R8 f c l k=k.map (Fb f c l)
 | []=>rfl
 | e::r=>by rw [R8,Ly f c l r];rfl
theorem Nu (f:Int→Str→List Val→Rs) (c:List Col) (l:List Val) (e:Expr):Fb f c l e=K4 f c l e.op e.text e.val (e.kids.map (Fb f c l)):=by cases e;rw [Fb,Ly];rfl
def Gs (c:List Col) (l:List Val):Bool:=(Nm c&&(l.length==c.length))&&(l.zip c).all fun p=>E2 p.1&&((p.1.kind==0) || (p.1.kind==p.2.kind))
/-- eval.Eval. -/
def T7 (f:Int→Str→List Val→Rs) (x:Expr) (c:List Col) (l:List Val):Rs:=if (!(B3 x)) || !(Gs c l) then Dx 1 else Fb f c l x
/-! A tree in a column's place comes to what its value would there. -/
mutual
theorem eval_put {f:Int→Str→List Val→Rs} {c:List Col} {l m:List Val} {s:Str} {y:Expr} (hs:L3 c m s=Fb f c l y) (ho:∀t,t≠s→L3 c m t=L3 c l t):∀x:Expr,Fb f c l (AJp s y x)=Fb f c m x
 | .mk o t v k=>by
  rw [AJp]
  split
  ·rename_i h
   rw [As,beq_iff_eq,beq_iff_eq] at h
   obtain ⟨rfl,rfl⟩:=h
   rw [←hs,Fb]
   rfl
  rename_i h
  rw [Fb,Fb,d8 hs ho k]
  unfold K4
  by_cases h2:(o==2)=true
  ·have:t≠s:=fun e=>h (by rw [h2,e];simp)
   rw [ho t this]
  rw [if_neg h2,if_neg h2]
theorem d8 {f:Int→Str→List Val→Rs} {c:List Col} {l m:List Val} {s:Str} {y:Expr} (hs:L3 c m s=Fb f c l y) (ho:∀t,t≠s→L3 c m t=L3 c l t):∀k:List Expr,R8 f c l (AG9 s y k)=R8 f c m k
  | []=>rfl
  | e::r=>by rw [AG9,R8,R8,eval_put hs ho e,d8 hs ho r]
 end
/-! Who is not named plays no part. -/
/-! What a strict node comes to. -/
def Zb (a b:Int):Int×Int:=
 let p:=Vq a*Vq b
 let below:=decide (a<0) != decide (b<0)
 if decide (0<p / 18446744073709551616) || decide ((if below then 9223372036854775808 else 9223372036854775807)<p % 18446744073709551616) then (0,4)
 else if below then (IntKind.i64.wrap (IntKind.u64.wrap (0-p % 18446744073709551616)),0) else (IntKind.i64.wrap (p % 18446744073709551616),0)
def rh (a b:Int):Int×Int:=if b==0 then (0,5) else if (a == -9223372036854775808)&&(b == -1) then (0,4) else (IntKind.i64.wrap (a.tdiv b),0)
def b8 (a b:Int):Int×Int:=if b==0 then (0,5) else if b == -1 then (0,0) else (IntKind.i64.wrap (a.tmod b),0)
def Kn (t:Str) (a b:Int):Int×Int:=if t==[43] then rg a b else if t==[45] then Oh a b else if t==[42] then Zb a b else if t==[47] then rh a b else b8 a b
def Jb (t:Str) (c:Int):Bool×Bool:=if t==[61] then (c==0,true) else if t==[33,61] then (c != 0,true) else if t==[60] then (decide (c<0),true) else if t==[60,61] then (decide (c≤0),true) else if t==[62] then (decide (0<c),true) else if t==[62,61] then (decide (0≤c),true) else (false,false)
def Ox (a b:Int):Int:=if decide (a<b) then -1 else if decide (b<a) then 1 else 0
def orI:List Int→Int
 | []=>0
 | a::r=>if a != 0 then a else orI r
def md (a b:Val):Int:=if (!(E2 a)) || !(E2 b) then 0 else orI [Ox a.kind b.kind,Ox a.n b.n,Lib.compareBytes a.s b.s]
def Nv (t:Str) (a b:Val):Rs:=if (Jb t (md a b)).2 then (if a.kind != b.kind then Dx 10 else (K1 (Jb t (md a b)).1,0)) else if t==[38] then Q0 a b else if !E5 [a,b] [1,1] then Dx 10 else J8 (Kn t a.n b.n)
def K5 (t:Str) (v:Val):Rs:=if (t==[115,116,114])&&(v.kind==1) then (b7 (Lib.itoa v.n),0) else if (t==[108,101,110])&&(v.kind==2) then (⟨1,v.s.length,[]⟩,0) else if (t==[110,117,109])&&(v.kind==2) then J8 (D5 v.s) else Dx 10
def Q3 (t:Str) (s:Str) (n:Int):Val:=if t==[108,101,102,116] then b7 (s.take (max 0 (min n s.length)).toNat) else b7 (s.drop (s.length-(max 0 (min n s.length)).toNat))
def B9 (o:Int) (t:Str) (l:List Val):Rs:=
 if o==5 then Nv t (l.getD 0 noV) (l.getD 1 noV) else if (o==3)&&E5 l [1] then J8 (Oh 0 (l.getD 0 noV).n) else if (o==4)&&E5 l [3] then (K1 ((l.getD 0 noV).n==0),0)
 else if o != 6 then Dx 10 else if (l.length:Int)==1 then K5 t (l.getD 0 noV) else if !E5 l [2,1] then Dx 10 else (Q3 t (l.getD 0 noV).s (l.getD 1 noV).n,0)
abbrev Cb (c:List Col) (l:List Val) (e:Expr):Rs:=Fb B9 c l e
abbrev En (x:Expr) (c:List Col) (l:List Val):Rs:=T7 B9 x c l
/-! Values are plain, and their numbers have 64 bits. -/
structure Fine (v:Val):Prop where
 plain:E2 v=true
 lo : -9223372036854775808≤v.n
 hi:v.n≤9223372036854775807
theorem N3:Fine noV:=⟨rfl,by decide,by decide⟩
theorem Uu (b:Bool):Fine (K1 b):=by cases b<;>exact ⟨rfl,by decide,by decide⟩
theorem me {n:Int} (h0 : -9223372036854775808≤n) (h1:n≤9223372036854775807):Fine ⟨1,n,[]⟩:=⟨rfl,h0,h1⟩
theorem Zc (s:Str):Fine (b7 s):=⟨by
 unfold E2 b7
 simp only [show ((2:Int)==0)=false from rfl,show ((2:Int)==1)=false from rfl,show ((2:Int)==2)=true from rfl,Aq,if_false,if_true,show ((0:Int)==0)=true from rfl,Bs,decide_eq_true_eq,Ci]
 omega,by show -9223372036854775808≤(0:Int);decide,by show (0:Int)≤9223372036854775807;decide⟩
theorem Fine.len {v:Val} (h:Fine v):v.s.length≤200:=by
 have h:=h.plain
 unfold E2 at h
 split at h
 ·simp only [As,beq_iff_eq] at h;rw [h.2];exact Ar _
 split at h
 ·rw [beq_iff_eq] at h;rw [h];exact Ar _
 split at h
 ·simp only [As,decide_eq_true_eq] at h;omega
 simp only [As,beq_iff_eq] at h;rw [h.1.1.2];exact Ar _
theorem S3 {x:Int×Int} (h0:x.2=0 → -9223372036854775808≤x.1) (h1:x.2=0→x.1≤9223372036854775807):Fine (J8 x).1:=by
 unfold J8
 split
 ·exact N3
 rename_i h
 have h:x.2=0:=by simpa using h
 exact me (h0 h) (h1 h)
theorem Zd (e:Int):Fine (Dx e).1:=N3
theorem Oi (n:Int) : -9223372036854775808≤IntKind.i64.wrap n∧IntKind.i64.wrap n≤9223372036854775807:=by rw [IntKind.wrap_i64];omega
theorem ADi (a b:Int):Fine (J8 (Oh a b)).1:=by
 refine S3 (fun _=>?_) (fun _=>?_)<;>unfold Oh<;>split
 ·show -9223372036854775808≤(0:Int);decide
 ·exact (Oi _).1
 ·show (0:Int)≤9223372036854775807;decide
 exact (Oi _).2
theorem mf (t:Str) (a b:Int) : -9223372036854775808≤(Kn t a b).1∧(Kn t a b).1≤9223372036854775807:=by
 have z : -9223372036854775808≤(0:Int)∧(0:Int)≤9223372036854775807:=by decide
 unfold Kn
 split
 ·unfold rg;split;exact z;exact Oi _
 split
 ·unfold Oh;split;exact z;exact Oi _
 split
 ·unfold Zb
  simp only
  repeat' split
  all_goals first|exact z|exact Oi _
 split
 ·unfold rh;split;exact z;split;exact z;exact Oi _
 unfold b8;split;exact z;split;exact z;exact Oi _
theorem ADj {t:Str} {a b:Val}:Fine (Nv t a b).1:=by
 unfold Nv
 split
 ·split
  ·exact am
  exact Uu _
 split
 ·unfold Q0
  split
  ·exact am
  split
  ·exact am
  exact Zc _
 split
 ·exact am
 exact S3 (fun _=>(mf _ _ _).1) (fun _=>(mf _ _ _).2)
theorem ADk (s:Str) : -9223372036854775808≤(D5 s).1∧(D5 s).1≤9223372036854775807:=by
 unfold D5
 split
 ·decide
 split
 ·rename_i v h
  have:=Lib.parseIntB_bounds h
  simp only [show ((2 ^ (64-1):Nat):Int)=9223372036854775808 by decide] at this
  show -9223372036854775808≤v∧v≤9223372036854775807
  omega
 ·decide
 decide
theorem ADl {t:Str} {v:Val} (h:Fine v):Fine (K5 t v).1:=by
 unfold K5
 split
 ·exact Zc _
 split
 ·have:=h.len
  exact me (by omega) (by omega)
 split
 ·exact S3 (fun _=>(ADk _).1) (fun _=>(ADk _).2)
 exact am
theorem mg {o:Int} {t:Str} {l:List Val} (h:∀v∈l,Fine v):Fine (B9 o t l).1:=by
 have h0:Fine (l.getD 0 noV):=by cases l with|nil=>exact N3|cons a r=>exact h a Hu
 unfold B9
 split
 ·exact ADj
 split
 ·exact ADi _ _
 split
 ·exact Uu _
 split
 ·exact am
 split
 ·exact ADl h0
 split
 ·exact am
 unfold Q3
 split<;>exact Zc _
theorem S4 {r:Rs} (h:Fine r.1):Fine (Bj r).1:=by
 unfold Bj
 split
 ·exact am
 exact h
theorem Ze {s:Val} {a b:Rs} (ha:Fine a.1) (hb:Fine b.1):Fine (Jv s a b).1:=by
 unfold Jv
 split
 ·exact S4 ha
 split
 ·exact S4 hb
 exact S4 ha
theorem yp {t:Str} {a b c:Rs} (ha:Fine a.1) (hb:Fine b.1) (hc:Fine c.1):Fine (G6 t a b c).1:=by
 unfold G6
 repeat' split
 all_goals first|exact Zd _|exact hb|exact hc|exact ha|exact Uu _
theorem ADm {f:List Val→Rs} {l:List Rs} (hf:∀k:List Val,(∀v∈k,Fine v)→Fine (f k).1) (h:∀r∈l,Fine r.1):Fine (Nd f l).1:=by
 unfold Nd
 split
 ·exact am
 split
 ·exact N3
 refine hf _ fun v hv=>?_
 obtain ⟨r,hr,rfl⟩:=Cr.1 hv
 exact h r hr
theorem yq {c:List Col} {l:List Val} (h:∀v∈l,Fine v) (t:Str):Fine (L3 c l t).1:=by
 unfold L3
 split
 ·exact am
 show Fine (l.getD _ noV)
 rw [C9]
 cases hg:l[(B6 t c).toNat]? with
 | none=>exact N3
 | some v=>exact h v (B0 hg)
def Nw (e:Expr):Bool := !(e.op==1) || E2 e.val
theorem Ko {k:List Rs} (h:∀r∈k,Fine r.1) (i:Nat):Fine (k.getD i (noV,0)).1:=by
 rw [C9]
 cases hg:k[i]? with
 | none=>exact N3
 | some r=>exact h r (B0 hg)
mutual
theorem Uv {c:List Col} {l:List Val} (h:∀v∈l,Fine v):∀e:Expr,Dw Nw e=true→Dw Hs e=true→Fine (Cb c l e).1
 | .mk o t v k,h1,h2=>by
  rw [Dw,As] at h1 h2
  have hk:=Zf (c:=c) h k h1.2 h2.2
  rw [Cb,Fb]
  unfold K4
  split
  ·rename_i ho
   have p:=h1.1
   unfold Nw at p
   rw [show (Expr.mk o t v k).op=o from rfl,ho] at p
   have q:=h2.1
   unfold Hs at q
   simp only [As,decide_eq_true_eq] at q
   exact ⟨by show E2 (Expr.mk o t v k).val=true;simpa using p,q.1,q.2⟩
  split
  ·exact yq h t
  split
  ·exact Ze (Ko hk 0) (Ko hk 1)
  split
  ·exact Ze (Ko hk 0) (Ko hk 1)
  split
  ·exact yp (Ko hk 0) (Ko hk 1) (Ko hk 2)
  exact ADm (fun _ hl=>mg hl) hk
theorem Zf {c:List Col} {l:List Val} (h:∀v∈l,Fine v):∀k:List Expr,Jo Nw k=true→Jo Hs k=true→∀r∈R8 B9 c l k,Fine r.1
  | [],_,_=>fun r hr=>by cases hr
  | e::k,h1,h2=>by
    rw [Jo,As] at h1 h2
    intro r hr
    rw [R8] at hr
    rcases B5.1 hr with rfl|hr
    · exact Uv h e h1.1 h2.1
    exact Zf h k h1.2 h2.2 r hr
 end
/-! A text between marks. -/
theorem mh {x:Expr} {c:List Col} (h:(F4 x c).2=0):B3 x=true∧Hw c=true∧F4 x c=Bf c x:=by
 unfold F4 at h ⊢
 split at h
 ·cases h
 rename_i h1
 rw [if_neg h1]
 simp only [Dq,Db,not_or,eh] at h1
 exact ⟨h1.1,by rw [←Lq];exact h1.2,rfl⟩
set_option maxRecDepth 4000
set_option maxRecDepth 8000
/-! Who decides decides: the law's sources, columns and truths. -/
/-! Rows. -/
theorem row_iff {c:List Col} {l:List Val}:Gs c l=true↔Hw c=true∧l.length=c.length∧∀(i:Nat) (v:Val) (y:Col),l[i]? = some v→c[i]? = some y→E2 v=true∧(v.kind=0∨v.kind=y.kind):=by
 unfold Gs
 rw [As,As,Lq,beq_iff_eq,B2,and_assoc]
 refine and_congr_right fun _=>and_congr_right fun hl=>⟨fun h i v y hv hy=>?_,fun h p hp=>?_⟩
 ·have:=h (v,y) (B0 (i:=i) (by rw [Ny];exact ⟨hv,hy⟩))
  simpa using this
 obtain ⟨i,hi⟩:=Cm hp
 rw [Ny] at hi
 have:=h i p.1 p.2 hi.1 hi.2
 simpa using this
theorem AHa {x:Expr} {c:List Col} {l:List Val} (h1:B3 x=true) (h2:Gs c l=true):En x c l=Cb c l x:=by
 unfold En T7
 rw [h1,h2]
 rfl
/-! Rows that differ in what is not named. -/
/-! Who has a kind comes to it. -/
/-- What a tree of this kind may come to. -/
structure KOk (k:Int) (r:Rs):Prop where
 kind:r.2=0→r.1.kind=k∨r.1.kind=0
 err:r.2≠0→r.2=4∨r.2=5∨r.2=6∨r.2=3
theorem KOk.null (k:Int):KOk k (noV,0):=⟨fun _=>.inr rfl,fun h=>absurd rfl h⟩
theorem KOk.val {k:Int} {v:Val} (h:v.kind=k):KOk k (v,0):=⟨fun _=>.inl h,fun h=>absurd rfl h⟩
theorem KOk.wrong {k e:Int} (h:e=4∨e=5∨e=6∨e=3):KOk k (Dx e):=⟨fun h0=>by rw [show e=0 from h0] at h;omega,fun _=>h⟩
theorem KOk.whole {x:Int×Int} (h:x.2≠0→x.2=4∨x.2=5∨x.2=6∨x.2=3):KOk 1 (J8 x):=by
 unfold J8
 split
 ·rename_i h1;exact .wrong (h (by simpa using h1))
 exact .val rfl
theorem KOk.mono {k k':Int} {r:Rs} (h:KOk k r) (hk:k=k'∨k=0):KOk k' r:=⟨fun h0=>by have:=h.kind h0;omega,h.err⟩
theorem Vr {α:Type} {g:α→Int} {r:α→Rs} {l:List α} (h:∀y∈l,KOk (g y) (r y)) {k:Int} {f:List Val→Rs} (hs:∀vs:List Val,vs.map (·.kind)=l.map g→(∀v∈vs,v.kind≠0)→KOk k (f vs)):KOk k (Nd f (l.map r)):=by
 unfold Nd
 split
 ·rename_i q hq
  have h1:=ep hq
  obtain ⟨y,hy,rfl⟩:=Cr.1 (List.mem_of_find?_eq_some hq)
  exact .wrong ((h y hy).err (by simpa using h1))
 rename_i hq
 have h0:∀y∈l,(r y).2=0:=fun y hy=>by
  have:=M2.1 hq (r y) (et hy)
  simpa using this
 split
 ·exact .null k
 rename_i hn
 have hnn:∀y∈l,(r y).1.kind≠0:=fun y hy e=>hn (by rw [K7];exact ⟨r y,et hy,by simpa using e⟩)
 refine hs _ ?_ ?_
 ·rw [Kq,Kq]
  refine Sb fun y hy=>?_
  have:=(h y hy).kind (h0 y hy)
  have:=hnn y hy
  show (r y).1.kind=g y
  omega
 intro v hv
 rw [Kq] at hv
 obtain ⟨y,hy,rfl⟩:=Cr.1 hv
 exact hnn y hy
theorem T8 {a b:Int} (h:(Fa a b).2=true):((a=0∧(Fa a b).1=b)∨(a≠0∧(b=0∨b=a)∧(Fa a b).1=a)):=by
 unfold Fa at h ⊢
 split
 ·rename_i e;exact .inl ⟨by simpa using e,rfl⟩
 rename_i e
 rw [if_neg e] at h
 split
 ·rename_i e2
  exact .inr ⟨by simpa using e,by simp only [Dq,beq_iff_eq] at e2;omega,rfl⟩
 rename_i e2
 rw [if_neg e2] at h
 cases h
theorem AKa {s:Sign} {ks:List Int} (h:(J3 s ks).2=0):∃c,Gr s.kids ks 0=some c∧(J3 s ks).1=if s.own == -1 then c else s.own:=by
 unfold J3 at h ⊢
 cases hk:Gr s.kids ks 0 with
 | none=>rw [hk] at h;cases h
 | some c=>exact ⟨c,rfl,by simp only;split<;>rfl⟩
/-- One kid, of a kind. -/
theorem yr {w k0 c:Int} (h1:(w == -2)=false) (h2:(w == -1)=false) (h3:w≠0) (h:Gr [w] [k0] 0=some c):k0=0∨k0=w:=by
 rw [Gr,h1,h2] at h
 simp only [Aq,if_false] at h
 split at h
 ·rename_i hm;have:=T8 hm;omega
 cases h
theorem yt {w w' k0 k1 c:Int} (h1:(w == -2)=false) (h2:(w == -1)=false) (h3:w≠0) (h1':(w' == -2)=false) (h2':(w' == -1)=false) (h3':w'≠0) (h:Gr [w,w'] [k0,k1] 0=some c):(k0=0∨k0=w)∧(k1=0∨k1=w'):=by
 rw [Gr,h1,h2] at h
 simp only [Aq,if_false] at h
 split at h
 ·rename_i hm
  rw [Gr,h1',h2'] at h
  simp only [Aq,if_false] at h
  split at h
  ·rename_i hm';have:=T8 hm;have:=T8 hm';omega
  cases h
 cases h
/-- Two kids of one kind, whichever. -/
theorem iw {k0 k1 c c0:Int} (h:Gr [-1, -1] [k0,k1] c0=some c) (h0:c0=0):(k0=0∨k0=c)∧(k1=0∨k1=c)∧(k0≠0→k1≠0→k0=k1):=by
 subst h0
 rw [Gr] at h
 simp only [show ((-1:Int) == -2)=false from rfl,show ((-1:Int) == -1)=true from rfl,Aq,if_false,if_true] at h
 split at h
 ·rename_i hm
  rw [Gr] at h
  simp only [show ((-1:Int) == -2)=false from rfl,show ((-1:Int) == -1)=true from rfl,Aq,if_false,if_true] at h
  split at h
  ·rename_i hm'
   rw [Gr] at h
   injection h with h
   have a:=T8 hm
   have b:=T8 hm'
   omega
  cases h
 cases h
theorem Qn {c:List Col} {o:Int} {t:Str} {v:Val} {k:List Expr} (h:(Bf c (.mk o t v k)).2=0) (h1:(o==1)=false) (h2:(o==2)=false):
  (∀y∈k,(Bf c y).2=0)∧∃m,Gr (Jr o t).kids (k.map fun y=>(Bf c y).1) 0=some m∧(Bf c (.mk o t v k)).1=if (Jr o t).own == -1 then m else (Jr o t).own:=by
 rw [Bf] at h ⊢
 have hk:=l9 h h1 h2
 rw [Uo] at hk h ⊢
 have hk':∀y∈k,(Bf c y).2=0:=fun y hy=>hk _ (et hy)
 refine ⟨hk',?_⟩
 have e:Np c o t v (k.map (Bf c))=J3 (Jr o t) (k.map fun y=>(Bf c y).1):=by
  unfold Np
  rw [h1,h2]
  have:(k.map (Bf c)).find? (fun q=>q.2 != 0)=none:=M2.2 fun q hq=>by simpa using hk q hq
  simp only [Aq,if_false,this,Kq]
  rfl
 rw [e] at h ⊢
 exact AKa h
theorem yu (t:Str) (a b:Int):(Kn t a b).2≠0→(Kn t a b).2=4∨(Kn t a b).2=5∨(Kn t a b).2=6∨(Kn t a b).2=3:=by
 unfold Kn rg Oh Zb rh b8
 simp only
 repeat' split
 all_goals simp
theorem AHb (a b:Int):(Oh a b).2≠0→(Oh a b).2=4∨(Oh a b).2=5∨(Oh a b).2=6∨(Oh a b).2=3:=by
 unfold Oh
 repeat' split
 all_goals simp
theorem AHc (s:Str):(D5 s).2≠0→(D5 s).2=4∨(D5 s).2=5∨(D5 s).2=6∨(D5 s).2=3:=by
 unfold D5
 repeat' split
 all_goals simp
theorem AKb {a b:Val} (ha:a.kind=2) (hb:b.kind=2):KOk 2 (Q0 a b):=by
 unfold Q0
 rw [show E5 [a,b] [2,2]=true by simp [E5,ha,hb]]
 simp only [Il,Aq,if_false]
 split
 ·exact .wrong (by omega)
 exact .val rfl
/-- A mark of two values of the kinds that its sign asks for. -/
theorem AOe {t:Str} {a b:Val} (ht:t∈[[61],[33,61],[60],[60,61],[62],[62,61],[43],[45],[38],[42],[47],[37]]) {m:Int} (hf:Gr (Dn t).kids [a.kind,b.kind] 0=some m) (ha:a.kind≠0) (hb:b.kind≠0):
  KOk (if (Dn t).own == -1 then m else (Dn t).own) (Nv t a b):=by
 have hcmp:∀t:Str,(Jb t (md a b)).2=true→Dn t=⟨[-1, -1],3⟩→Gr (Dn t).kids [a.kind,b.kind] 0=some m→KOk (if (Dn t).own == -1 then m else (Dn t).own) (Nv t a b):=fun t h1 h2 hf=>by
  rw [h2] at hf ⊢
  have:=iw hf rfl
  have e:a.kind=b.kind:=this.2.2 ha hb
  unfold Nv
  rw [h1,if_pos rfl,e]
  simp only [bne_self_eq_false,Aq,if_false]
  exact .val rfl
 have har:∀t:Str,(Jb t (md a b)).2=false→(t==[38])=false→Dn t=⟨[1,1],1⟩→Gr (Dn t).kids [a.kind,b.kind] 0=some m→KOk (if (Dn t).own == -1 then m else (Dn t).own) (Nv t a b):=fun t h1 h2 h3 hf=>by
  rw [h3] at hf ⊢
  have:=yt rfl rfl (by decide) rfl rfl (by decide) hf
  unfold Nv
  rw [h1,h2,show E5 [a,b] [1,1]=true by simp [E5];omega]
  exact KOk.whole (yu _ _ _)
 simp only [B5,F5,or_false] at ht
 rcases ht with rfl|rfl|rfl|rfl|rfl|rfl|rfl|rfl|rfl|rfl|rfl|rfl
 ·exact xd
 ·exact xd
 ·exact xd
 ·exact xd
 ·exact xd
 ·exact xd
 ·exact ABn
 ·exact ABn
 ·have h3:Dn [38]=⟨[2,2],2⟩:=rfl
  rw [h3] at hf ⊢
  have:=yt rfl rfl (by decide) rfl rfl (by decide) hf
  exact AKb (by omega) (by omega)
 ·exact ABn
 ·exact ABn
 exact ABn
theorem ix {r:Rs} (h:KOk 3 r):Bj r=r:=by
 unfold Bj
 split
 ·rename_i e
  simp only [As,beq_iff_eq,bne_iff_ne] at e
  have:=h.kind e.1.1
  omega
 rfl
theorem un {s:Val} {a b:Rs} (ha:KOk 3 a) (hb:KOk 3 b):KOk 3 (Jv s a b):=by
 unfold Jv
 rw [ix ha,ix hb]
 split
 ·exact ha
 rename_i h1
 split
 ·exact hb
 simp only [Dq,bne_iff_ne,not_or,Decidable.not_not] at h1
 exact ⟨fun _=>ha.kind h1.1,fun h=>absurd rfl h⟩
theorem Oj {t:Str} {n:Nat} (h:Ch t=(n:Int)):(t=[108,101,110]∧n=1)∨(t=[115,116,114]∧n=1)∨(t=[110,117,109]∧n=1)∨(t=Co∧n=1)∨(t=Ut∧n=2)∨(t=[108,101,102,116]∧n=2)∨(t=[114,105,103,104,116]∧n=2)∨(t=ifW∧n=3):=by
 by_cases hm:t∈arityList.map (·.1)
 ·have ha:∀s∈arityList.map (·.1),(s=[108,101,110]∧Ch s=1)∨(s=[115,116,114]∧Ch s=1)∨(s=[110,117,109]∧Ch s=1)∨(s=Co∧Ch s=1)∨(s=Ut∧Ch s=2)∨(s=[108,101,102,116]∧Ch s=2)∨(s=[114,105,103,104,116]∧Ch s=2)∨(s=ifW∧Ch s=3):=by
   have:((arityList.map (·.1)).all fun s=>decide ((s=[108,101,110]∧Ch s=1)∨(s=[115,116,114]∧Ch s=1)∨(s=[110,117,109]∧Ch s=1)∨(s=Co∧Ch s=1)∨(s=Ut∧Ch s=2)∨(s=[108,101,102,116]∧Ch s=2)∨(s=[114,105,103,104,116]∧Ch s=2)∨(s=ifW∧Ch s=3)))=true:=by kernel_rfl
   exact fun s hs=>of_decide_eq_true (B2.1 this s hs)
  have:=ha t hm
  rw [h] at this
  rcases this with ⟨e,h2⟩|⟨e,h2⟩|⟨e,h2⟩|⟨e,h2⟩|⟨e,h2⟩|⟨e,h2⟩|⟨e,h2⟩|⟨e,h2⟩
  ·exact .inl ⟨e,by omega⟩
  ·exact .inr (.inl ⟨e,by omega⟩)
  ·exact .inr (.inr (.inl ⟨e,by omega⟩))
  ·exact .inr (.inr (.inr (.inl ⟨e,by omega⟩)))
  ·exact .inr (.inr (.inr (.inr (.inl ⟨e,by omega⟩))))
  ·exact .inr (.inr (.inr (.inr (.inr (.inl ⟨e,by omega⟩)))))
  ·exact .inr (.inr (.inr (.inr (.inr (.inr (.inl ⟨e,by omega⟩))))))
  exact .inr (.inr (.inr (.inr (.inr (.inr (.inr ⟨e,by omega⟩))))))
 have h1:Ch t = -1:=by
  unfold Ch
  rw [M2.2 fun p hp=>by
   simp only [beq_iff_eq]
   rintro rfl
   exact hm (Cr.2 ⟨p,hp,rfl⟩)]
 omega
theorem Ws {k:List Expr} (h:k.length=1):∃a,k=[a]:=by match k,h with|[a],_=>exact ⟨a,rfl⟩
theorem Qo {k:List Expr} (h:k.length=2):∃a b,k=[a,b]:=by match k,h with|[a,b],_=>exact ⟨a,b,rfl⟩
theorem yw {k:List Expr} (h:k.length=3):∃a b c,k=[a,b,c]:=by match k,h with|[a,b,c],_=>exact ⟨a,b,c,rfl⟩
theorem Nx {vs:List Val} {k:Int} (h:vs.map (·.kind)=[k]):∃v,vs=[v]∧v.kind=k:=by
 match vs,h with
 | [v],h=>exact ⟨v,rfl,by simpa using h⟩
theorem Uw {vs:List Val} {k k':Int} (h:vs.map (·.kind)=[k,k']):∃v v',vs=[v,v']∧v.kind=k∧v'.kind=k':=by
 match vs,h with
 | [v,v'],h=>exact ⟨v,v',rfl,by simpa using h⟩
theorem uo {c:List Col} {l:List Val} (hl:Gs c l=true):∀(n:Nat) (e:Expr),sizeE e≤n→Dw Dl e=true→(Bf c e).2=0→KOk (Bf c e).1 (Cb c l e)
 | 0,e,hn,_,_=>by have:=Jn e;omega
 | n+1,e,hn,hnd,hk=>by
  have hnd0:=hnd
  rw [Gg,As] at hnd0
  have ih:∀y∈e.kids,(Bf c y).2=0→KOk (Bf c y).1 (Cb c l y):=fun y hy h0=>uo hl n y (yh hn hy) ((E3 _ _).1 hnd0.2 y hy) h0
  obtain ⟨r1,r2,r3⟩:=row_iff.1 hl
  have hNC:=Kj hnd0.1
  cases hNC with
  | val v hp h0 =>
   have:Bf c (Mq v)=(v.kind,0):=by rw [Mq,Bf];rfl
   rw [this]
   exact .val rfl
  | name t ht =>
   have e1:Bf c (Cw t)=Ih c t:=by rw [Cw,Bf];rfl
   have e2:Cb c l (Cw t)=L3 c l t:=by rw [Cb,Cw,Fb];rfl
   rw [e1] at hk ⊢
   rw [e2]
   unfold Ih at hk ⊢
   unfold L3
   split at hk
   ·cases hk
   rename_i hf
   rw [if_neg hf,if_neg hf]
   obtain ⟨j,z,hj,hz,hfj⟩:=find_mem.1 hf
   have hjl:j<l.length:=by rw [r2];exact (Ad.1 hj).1
   have:=r3 j l[j] z (Ab hjl) hj
   rw [hfj,Int.toNat_natCast,C9,C9,hj,Ab hjl]
   exact ⟨fun _=>by show l[j].kind=z.kind∨l[j].kind=0;omega,fun h=>absurd rfl h⟩
  | neg a =>
   rw [Id] at hk ⊢
   obtain ⟨hky,m,hf,ho⟩:=Qn hk rfl rfl
   rw [ho,Cb,Fb,Ly]
   have hs:Jr 3 []=⟨[1],1⟩:=rfl
   rw [hs] at hf ⊢
   have hm:=yr rfl rfl (by decide) hf
   show KOk 1 (Nd (B9 3 []) ([a].map (Fb B9 c l)))
   refine Vr (g:=fun y=>(Bf c y).1) (fun y hy=>ih y hy (hky y hy)) (fun vs hvs hnz=>?_)
   obtain ⟨v,rfl,hv⟩:=Nx hvs
   have hv0:=hnz v (by simp)
   have hv1:v.kind=1:=by omega
   unfold B9
   rw [show E5 [v] [1]=true by simp [E5,hv1]]
   exact KOk.whole (AHb _ _)
  | no a =>
   rw [Id] at hk ⊢
   obtain ⟨hky,m,hf,ho⟩:=Qn hk rfl rfl
   rw [ho,Cb,Fb,Ly]
   have hs:Jr 4 []=⟨[3],3⟩:=rfl
   rw [hs] at hf ⊢
   have hm:=yr rfl rfl (by decide) hf
   show KOk 3 (Nd (B9 4 []) ([a].map (Fb B9 c l)))
   refine Vr (g:=fun y=>(Bf c y).1) (fun y hy=>ih y hy (hky y hy)) (fun vs hvs hnz=>?_)
   obtain ⟨v,rfl,hv⟩:=Nx hvs
   have hv0:=hnz v (by simp)
   have hv1:v.kind=3:=by omega
   unfold B9
   rw [show E5 [v] [3]=true by simp [E5,hv1]]
   exact KOk.val rfl
  | bin t a b ht =>
   rw [Ki] at hk ⊢
   obtain ⟨hky,m,hf,ho⟩:=Qn hk rfl rfl
   have ha:=ih a (by simp [Ki,Expr.kids]) (hky a (by simp))
   have hb:=ih b (by simp [Ki,Expr.kids]) (hky b (by simp))
   rw [ho,Cb,Fb,Ly]
   rw [show Jr 5 t=Dn t from rfl] at hf ⊢
   have hmem:t∈levels.flatten:=by
    rcases N2 t with h|h
    ·exact h
    omega
   by_cases h1:(t==orW)=true
   ·have e:t=orW:=by simpa using h1
    subst e
    rw [show Dn orW=⟨[3,3],3⟩ from rfl] at hf ⊢
    have hm:((Bf c a).1=0∨(Bf c a).1=3)∧((Bf c b).1=0∨(Bf c b).1=3):=yt rfl rfl (by decide) rfl rfl (by decide) hf
    exact un (ha.mono (by omega)) (hb.mono (by omega))
   by_cases h2:(t==iv)=true
   ·have e:t=iv:=by simpa using h2
    subst e
    rw [show Dn iv=⟨[3,3],3⟩ from rfl] at hf ⊢
    have hm:((Bf c a).1=0∨(Bf c a).1=3)∧((Bf c b).1=0∨(Bf c b).1=3):=yt rfl rfl (by decide) rfl rfl (by decide) hf
    exact un (ha.mono (by omega)) (hb.mono (by omega))
   have e:K4 B9 c l 5 t noV ([a,b].map (Fb B9 c l))=Nd (B9 5 t) ([a,b].map (Fb B9 c l)):=by
    unfold K4
    rw [show (t==orW)=false by simpa using h1,show (t==iv)=false by simpa using h2]
    rfl
   rw [e]
   have hm12:t∈[[61],[33,61],[60],[60,61],[62],[62,61],[43],[45],[38],[42],[47],[37]]:=by
    have h1':t≠orW:=by simpa using h1
    have h2':t≠iv:=by simpa using h2
    simp only [levels,List.flatten_cons,List.flatten_nil,Et,Ec,H4,B5,F5,or_false] at hmem ⊢
    rcases hmem with h|h|h
    ·exact absurd h h1'
    ·exact absurd h h2'
    exact h
   refine Vr (g:=fun y=>(Bf c y).1) (fun y hy=>ih y hy (hky y hy)) (fun vs hvs hnz=>?_)
   obtain ⟨v,v',rfl,hv,hv'⟩:=Uw hvs
   have hf':Gr (Dn t).kids [v.kind,v'.kind] 0=some m:=by rw [hv,hv'];exact hf
   exact AOe hm12 hf' (hnz v (by simp)) (hnz v' (by simp))
  | call t k ht =>
   obtain ⟨hky,m,hf,ho⟩:=Qn hk rfl rfl
   rw [ho,Cb,Fb,Ly]
   rw [show Jr 6 t=E9 t from rfl] at hf ⊢
   rcases Oj ht with ⟨rfl,hn1⟩|⟨rfl,hn1⟩|⟨rfl,hn1⟩|⟨rfl,hn1⟩|⟨rfl,hn1⟩|⟨rfl,hn1⟩|⟨rfl,hn1⟩|⟨rfl,hn1⟩
   ·obtain ⟨a,rfl⟩:=Ws hn1
    have hs:E9 [108,101,110]=⟨[2],1⟩:=rfl
    rw [hs] at hf ⊢
    have hm:=yr rfl rfl (by decide) hf
    show KOk 1 (Nd (B9 6 [108,101,110]) ([a].map (Fb B9 c l)))
    refine Vr (g:=fun y=>(Bf c y).1) (fun y hy=>ih y hy (hky y hy)) (fun vs hvs hnz=>?_)
    obtain ⟨v,rfl,hv⟩:=Nx hvs
    have hv0:=hnz v (by simp)
    have hv1:v.kind=2:=by omega
    show KOk 1 (K5 [108,101,110] v)
    unfold K5
    rw [hv1]
    exact KOk.val rfl
   ·obtain ⟨a,rfl⟩:=Ws hn1
    have hs:E9 [115,116,114]=⟨[1],2⟩:=rfl
    rw [hs] at hf ⊢
    have hm:=yr rfl rfl (by decide) hf
    show KOk 2 (Nd (B9 6 [115,116,114]) ([a].map (Fb B9 c l)))
    refine Vr (g:=fun y=>(Bf c y).1) (fun y hy=>ih y hy (hky y hy)) (fun vs hvs hnz=>?_)
    obtain ⟨v,rfl,hv⟩:=Nx hvs
    have hv0:=hnz v (by simp)
    have hv1:v.kind=1:=by omega
    show KOk 2 (K5 [115,116,114] v)
    unfold K5
    rw [hv1]
    exact KOk.val rfl
   ·obtain ⟨a,rfl⟩:=Ws hn1
    have hs:E9 [110,117,109]=⟨[2],1⟩:=rfl
    rw [hs] at hf ⊢
    have hm:=yr rfl rfl (by decide) hf
    show KOk 1 (Nd (B9 6 [110,117,109]) ([a].map (Fb B9 c l)))
    refine Vr (g:=fun y=>(Bf c y).1) (fun y hy=>ih y hy (hky y hy)) (fun vs hvs hnz=>?_)
    obtain ⟨v,rfl,hv⟩:=Nx hvs
    have hv0:=hnz v (by simp)
    have hv1:v.kind=2:=by omega
    show KOk 1 (K5 [110,117,109] v)
    unfold K5
    rw [hv1]
    exact KOk.whole (AHc _)
   ·obtain ⟨a,rfl⟩:=Ws hn1
    have ha:=ih a (by simp [Expr.kids]) (hky a (by simp))
    have hs:E9 Co=⟨[-2],3⟩:=rfl
    rw [hs]
    show KOk 3 (G6 Co (Cb c l a) (noV,0) (noV,0))
    unfold G6
    rw [show (Co==ifW)=false from rfl,show (Co==Co)=true from rfl]
    simp only [Aq,if_false,if_true]
    split
    ·rename_i h;exact .wrong (ha.err (by simpa using h))
    exact .val rfl
   ·obtain ⟨a,b,rfl⟩:=Qo hn1
    have ha:=ih a (by simp [Expr.kids]) (hky a (by simp))
    have hb:=ih b (by simp [Expr.kids]) (hky b (by simp))
    have hs:E9 Ut=⟨[-1, -1], -1⟩:=rfl
    rw [hs] at hf ⊢
    have hm:((Bf c a).1=0∨(Bf c a).1=m)∧((Bf c b).1=0∨(Bf c b).1=m)∧((Bf c a).1≠0→(Bf c b).1≠0→(Bf c a).1=(Bf c b).1):=iw hf rfl
    show KOk m (G6 Ut (Cb c l a) (Cb c l b) (noV,0))
    unfold G6
    rw [show (Ut==ifW)=false from rfl,show (Ut==Co)=false from rfl]
    simp only [Aq,if_false]
    split
    ·rename_i h;exact .wrong (ha.err (by simpa using h))
    rename_i h
    split
    ·rename_i h2
     have:=ha.kind (by simpa using h)
     have h2:(Cb c l a).1.kind≠0:=by simpa using h2
     exact .val (by omega)
    exact hb.mono (by omega)
   ·obtain ⟨a,b,rfl⟩:=Qo hn1
    have hs:E9 [108,101,102,116]=⟨[2,1],2⟩:=rfl
    rw [hs] at hf ⊢
    have hm:=yt rfl rfl (by decide) rfl rfl (by decide) hf
    show KOk 2 (Nd (B9 6 [108,101,102,116]) ([a,b].map (Fb B9 c l)))
    refine Vr (g:=fun y=>(Bf c y).1) (fun y hy=>ih y hy (hky y hy)) (fun vs hvs hnz=>?_)
    obtain ⟨v,v',rfl,hv,hv'⟩:=Uw hvs
    have hv0:=hnz v (by simp)
    have hv0':=hnz v' (by simp)
    have hv1:v.kind=2:=by omega
    have hv1':v'.kind=1:=by omega
    unfold B9
    rw [show E5 [v,v'] [2,1]=true by simp [E5,hv1,hv1']]
    exact KOk.val rfl
   ·obtain ⟨a,b,rfl⟩:=Qo hn1
    have hs:E9 [114,105,103,104,116]=⟨[2,1],2⟩:=rfl
    rw [hs] at hf ⊢
    have hm:=yt rfl rfl (by decide) rfl rfl (by decide) hf
    show KOk 2 (Nd (B9 6 [114,105,103,104,116]) ([a,b].map (Fb B9 c l)))
    refine Vr (g:=fun y=>(Bf c y).1) (fun y hy=>ih y hy (hky y hy)) (fun vs hvs hnz=>?_)
    obtain ⟨v,v',rfl,hv,hv'⟩:=Uw hvs
    have hv0:=hnz v (by simp)
    have hv0':=hnz v' (by simp)
    have hv1:v.kind=2:=by omega
    have hv1':v'.kind=1:=by omega
    unfold B9
    rw [show E5 [v,v'] [2,1]=true by simp [E5,hv1,hv1']]
    exact KOk.val rfl
   obtain ⟨a,b,d,rfl⟩:=yw hn1
   have ha:=ih a (by simp [Expr.kids]) (hky a (by simp))
   have hb:=ih b (by simp [Expr.kids]) (hky b (by simp))
   have hd:=ih d (by simp [Expr.kids]) (hky d (by simp))
   have hs:E9 ifW=⟨[3, -1, -1], -1⟩:=rfl
   rw [hs] at hf ⊢
   have hf':Gr [3] [(Bf c a).1] 0=some 0∧Gr [-1, -1] [(Bf c b).1,(Bf c d).1] 0=some m:=by
    simp only [Bz,Ek] at hf
    rw [Gr] at hf
    simp only [show ((3:Int) == -2)=false from rfl,show ((3:Int) == -1)=false from rfl,Aq,if_false] at hf
    split at hf
    ·rename_i hm
     refine ⟨?_,hf⟩
     rw [Gr]
     simp only [show ((3:Int) == -2)=false from rfl,show ((3:Int) == -1)=false from rfl,Aq,if_false,hm,if_true]
     rw [Gr]
    cases hf
   have hm1:=yr rfl rfl (by decide) hf'.1
   have hm:=iw hf'.2 rfl
   show KOk m (G6 ifW (Cb c l a) (Cb c l b) (Cb c l d))
   unfold G6
   rw [show (ifW==ifW)=true from rfl,if_pos rfl,ix (ha.mono (by omega))]
   split
   ·rename_i h;exact .wrong (ha.err (by simpa using h))
   split
   ·exact hb.mono (by omega)
   exact hd.mono (by omega)
/-! The print of a tree, and its words. -/
def Oy (least:Nat) (x:Expr) (s:Str):Str:=if least≤levE x then s else 40::(s++[41])
def Jc:List Str→Str
 | []=>[]
 | s::r=>44::32::(s++Jc r)
def T9 (o:Int) (t:Str) (v:Val) (k:List Expr) (ss:List Str):Str:=
 if o==1 then I6 v else if o==2 then t
 else if o==3 then 45::Oy 6 (k.getD 0 Ap) (ss.getD 0 [])
 else if o==4 then yg++32::Oy 2 (k.getD 0 Ap) (ss.getD 0 [])
 else if o==5 then Oy (Js (Bw t).toNat) (k.getD 0 Ap) (ss.getD 0 [])++32::(t++32::Oy ((Bw t).toNat+1) (k.getD 1 Ap) (ss.getD 1 []))
 else t++40::((Jc ss).drop 2++[41])
mutual
def Bh:Expr→Str
 | .mk o t v k=>T9 o t v k (Q4 k)
def Q4:List Expr→List Str
  | []=>[]
  | e::r=>Bh e::Q4 r
 end
theorem S5:∀l,Q4 l=l.map Bh
 | []=>rfl
 | e::r=>by rw [Q4,S5 r];rfl
theorem AKc (v:Val):Bh (Mq v)=I6 v:=by simp [Mq,Bh,T9]
theorem AHd (t:Str):Bh (Cw t)=t:=by simp [Cw,Bh,T9]
theorem AKd (a:Expr):Bh (Id 3 a)=45::Oy 6 a (Bh a):=by simp [Id,Bh,Q4,T9]
theorem AOf (a:Expr):Bh (Id 4 a)=yg++32::Oy 2 a (Bh a):=by simp [Id,Bh,Q4,T9]
theorem AKe (t:Str) (a b:Expr):Bh (Ki t a b)=Oy (Js (Bw t).toNat) a (Bh a)++32::(t++32::Oy ((Bw t).toNat+1) b (Bh b)):=by simp [Ki,Bh,Q4,T9]
theorem AHe (t:Str) (k:List Expr):Bh (.mk 6 t noV k)=t++40::((Jc (Q4 k)).drop 2++[41]):=by simp [Bh,T9]
/-! What was parsed nests no deeper than may be. -/
/-! What nests too deep is told to be too deep. -/
def F2 (l:List Tok) (x:Expr):Prop:=∀(k:Nat) (S:PS) (rest:List TK),(k=0∨k=1∨k=4∨k=5)→k≤levE x→S.code=0→S.nest≤30→30<S.nest+ui x→seg l S.i=Yn x++rest→AD2 (k+1) rest→(Hy l (ofL k) (pf l (fam l S.nest) (k+1)) S).2.code=18
/-! What was parsed is right, where the words are the lexer's. -/
/-! The lexer's words. -/
/-! The parse laws where nothing is too deep. -/
/-! The parser from a word on, and of a source. -/
/-! Other trees have other words, and other prints. -/
/-! The laws of printing. -/
/-- show.Print. -/
def Vs (x:Expr):Str×Int:=if !(B3 x) then ([],1) else if decide ((4000:Int)<((Bh x).length:Int)) then ([],3) else (Bh x,0)
theorem Mm {x:Expr} (h:D3 x=true):Dw Dl x=true:=by
 unfold D3 at h
 rw [As] at h
 exact h.2
set_option maxRecDepth 4000
theorem Oz {k:List Expr} {i:Nat} (h:i<k.length):(k.map A9)[i]? = some (A9 (k.getD i Ap))∧k.getD i Ap∈k∧∀(f:Expr→Rs) (d:Rs),(k.map f).getD i d=f (k.getD i Ap):=by
 have e:k.getD i Ap=k[i]:=by rw [C9,Ab h];rfl
 rw [e]
 refine ⟨by simp [h],B1 h,fun f d=>?_⟩
 rw [C9,Cf,Ab h]
 rfl
theorem ADn {e:Expr} (h:Dl e=true):(e.op=5→e.kids.length=2)∧(e.op=3∨e.op=4→e.kids.length=1)∧(e.op=6→Ch e.text=(e.kids.length:Int))∧(e.op=1∨e.op=2∨e.op=3∨e.op=4∨e.op=5∨e.op=6):=by
 cases Kj h with
 | val v hp h0=>simp [Mq,Expr.op]
 | name t ht=>simp [Cw,Expr.op]
 | neg a=>simp [Id,Expr.op,Expr.kids]
 | no a=>simp [Id,Expr.op,Expr.kids]
 | bin t a b ht=>simp [Ki,Expr.op,Expr.kids]
 | call t k ht=>simpa [Expr.op,Expr.kids,Expr.text] using ht
def S6 (s:Str):Int:=if s==[111,114] then 0 else if s==[97,110,100] then 1 else if (((((s==[61]) || (s==[33,61])) || (s==[60])) || (s==[60,61])) || (s==[62])) || (s==[62,61]) then 3 else if ((s==[43]) || (s==[45])) || (s==[38]) then 4 else if ((s==[42]) || (s==[47])) || (s==[37]) then 5 else 7
theorem yx (s:Str):S6 s=if 0≤Bw s then Bw s else 7:=by
 by_cases hf:s∈levels.flatten
 ·have h3:(levels.flatten.all fun s=>decide (S6 s=if 0≤Bw s then Bw s else 7))=true:=by kernel_rfl
  exact of_decide_eq_true (B2.1 h3 s hf)
 have hn:=hf
 have h:Bw s = -1:=by
  rcases N2 s with h|⟨h,_⟩
  ·exact absurd h hf
  exact h
 rw [h]
 simp only [levels,List.flatten_cons,List.flatten_nil,H4,Et,Ec,B5,F5,or_false,not_or] at hn
 obtain ⟨a1,a2,a3,a4,a5,a6,a7,a8,a9,b1,b2,b3,b4,b5⟩:=hn
 simp [S6, *]
/-- The level of a node. -/
def ri (e:Expr):Int:=if e.op==4 then 2 else if e.op==3 then 6 else if e.op==5 then S6 e.text else 7
theorem uq {e:Expr} (h:Dl e=true):ri e=(levE e:Int):=by
 unfold ri levE
 split
 ·rfl
 split
 ·rfl
 split
 ·rename_i h5
  have hb:0≤Bw e.text:=by
   have h5':e.op=5:=by simpa using h5
   rw [T3] at h
   unfold I8 at h
   simp [h5'] at h
   exact h.2.1
  rw [yx,if_pos hb]
  omega
 rfl
theorem AR3 (s:Str) (Hp:List AObj):AFun Tryz.prog 158 [Ae s] Hp (A5 (S6 s)):=by
 refine Af [.tmp 2] [0] Tryz.func158 Tryz.ntmps158 (fun d=>?_)
 refine k8 ?_;refine A2 [3] ?_;refine Pj ?_;refine A2 [3,4] ?_
 refine A3 (fun ht4=>?_) (fun ht4=>?_)
 ·exact AB8
 refine Z1 ?_;refine A2 [3,6] ?_
 refine A3 (fun ht6=>?_) (fun ht6=>?_)
 ·exact AB8
 refine W.join ⟨23,A7 3 (Ae s) (A7 8 (Bk ((((((s==[61]) || (s==[33,61])) || (s==[60])) || (s==[60,61])) || (s==[62])) || (s==[62,61]))) (fun _=>.any)),Hp,[],[],none⟩ ?_ ?_
 ·refine ABd ?_
  refine A3 (fun ht8=>?_) (fun ht8=>?_)
  ·exact AB4
  refine ABd ?_
  refine A3 (fun ht8=>?_) (fun ht8=>?_)
  ·exact AB4
  refine ABd ?_
  refine A3 (fun ht8=>?_) (fun ht8=>?_)
  ·exact AB4
  refine ABd ?_
  refine A3 (fun ht8=>?_) (fun ht8=>?_)
  ·exact AB4
  refine ABd ?_
  refine A3 (fun ht8=>?_) (fun ht8=>?_)
  ·exact AB4
  refine Z12 ?_;refine A2 [3,8] ?_;exact Z71
 refine A3 (fun ht8=>?_) (fun ht8=>?_)
 ·exact AB8
 refine W.join ⟨23,A7 3 (Ae s) (A7 15 (Bk (((s==[43]) || (s==[45])) || (s==[38]))) (fun _=>.any)),Hp,[],[],none⟩ ?_ ?_
 ·refine Z1 ?_;refine A2 [3,15] ?_
  refine A3 (fun ht15=>?_) (fun ht15=>?_)
  ·refine Hq [3,15] ?_;exact AB1
  refine Z1 ?_;refine A2 [3,15] ?_
  refine A3 (fun ht15=>?_) (fun ht15=>?_)
  ·refine Hq [3,15] ?_;exact AB1
  refine Z12 ?_;refine A2 [3,15] ?_;exact Z71
 refine A3 (fun ht15=>?_) (fun ht15=>?_)
 ·exact AB8
 refine W.join ⟨23,A7 19 (Bk (((s==[42]) || (s==[47])) || (s==[37]))) (fun _=>.any),Hp,[],[],none⟩ ?_ ?_
 ·refine Z1 ?_;refine A2 [3,19] ?_
  refine A3 (fun ht19=>?_) (fun ht19=>?_)
  ·refine Hq [19] ?_;exact AB1
  refine Z1 ?_;refine A2 [3,19] ?_
  refine A3 (fun ht19=>?_) (fun ht19=>?_)
  ·refine Hq [19] ?_;exact AB1
  refine Z12 ?_;refine A2 [19] ?_;exact Z71
 refine A3 (fun ht19=>?_) (fun ht19=>?_)
 ·exact AB8
 refine jx ?_;exact A8 (Ah A6) ⟨by simp_all [S6],rfl⟩

theorem AOg (e:Expr) (Hp:List AObj):AFun Tryz.prog 118 [A9 e] Hp (A5 (ri e)):=by
 refine Af [.tmp 2] [0] Tryz.func118 Tryz.ntmps118 (fun d=>?_)
 refine Z90 ?_;refine Z8 ?_;refine A2 [1,4] ?_;refine Pj ?_;refine A2 [1,4,5] ?_
 refine A3 (fun ht5=>?_) (fun ht5=>?_)
 ·refine Z25 ?_;exact AIz
 refine Z1 ?_;refine A2 [1,4,7] ?_
 refine A3 (fun ht7=>?_) (fun ht7=>?_)
 ·refine Z25 ?_;exact AIz
 refine Z1 ?_;refine A2 [1,9] ?_
 refine A3 (fun ht9=>?_) (fun ht9=>?_)
 ·refine Z1 ?_;refine Aa Tryz.call158 (AR3 e.text _) ?_;refine A4 ?_;refine Z3 ?_;exact AIz
 refine jx ?_;exact A8 (Ah A6) ⟨by simp_all [ri],rfl⟩

end Go.SX.Nb
namespace Go.Proofs
open Go.Shelf Go.RowKit

section
variable {P:Program} (w:World)

/-- Bytes behind a builder's bytes: what is handed back lies where it lay, or in the next block, or nowhere still. -/
theorem yy {t u ty e:TypeId} {i:TypeInfo} (ht:P.underlying t=some (.slice e)) (hu:P.underlying u=some .string) (hi:P.info? e=some i) (hz:i.zero=some (.int .u8 0)) (hsize:i.size=1) (hby:i.bytes=1)
  (v:Value) (n:Nat) (xs:List Value) (hown:w.ownsRow 0 e 1 v n xs) (s:ByteArray) (hb:n+s.size≤140737488355328):
  ∃v' w',(Builtin.append_ #[t,u] ty #[v,.string s]).run P w=.ok v' w'∧w'.ownsRow 0 e 1 v' (n+s.size) (xs++Lib.strCells s)∧w.grownBy w' v'.ownBlock ∧
   ((v=.slice none 0 0∧v'=v∧s.size=0)∨(∃g cap,v=.slice (some ⟨g,0,none⟩) n cap∧v'=.slice (some ⟨g,0,none⟩) (n+s.size) cap)∨∃cap,v'=.slice (some ⟨w.heap.size,0,none⟩) (n+s.size) cap∧0<n+s.size):=by
 have h63:n+s.size≤maxLen:=by unfold maxLen;omega
 obtain ⟨v',w',hr,h1,h2,h3⟩:=Lib.run_append_own_string (P:=P) w 0 t u ty e i ht hu hi hz hsize hby v n xs hown s h63 hb (Nat.zero_le _)
 have hxl:xs.length=n:=by simpa using hown.1
 refine ⟨v',w',hr,h1,?_⟩
 rcases hown.2 with ⟨rfl,rfl⟩|⟨g,cap,cur,rfl,hbg,hg,hnc,hcm,hcs,htake⟩
 ·by_cases hm:s.size=0
  ·have e1:=h3.2 ⟨rfl,hm⟩
   exact ⟨by rw [e1];exact h2,.inl ⟨rfl,e1,hm⟩⟩
  have hr2:=run_append_nil_string (P:=P) w t u ty e i (.int .u8 0) ht hu hi hz s (by omega) (by omega) (by rw [hby];omega)
  rw [hr] at hr2
  injection hr2 with e1 e2
  refine ⟨?_,.inr (.inr ⟨_,by rw [e1,Nat.zero_add],by omega⟩)⟩
  rw [e2]
  exact ⟨rfl,rfl,rfl,by simp,fun k hk _=>Lib.alloc_old w.drew _ k hk⟩
 by_cases hroom:n+s.size≤cap
 ·have hcs':cur.size=cap:=by simpa using hcs
  have hr2:=Lib.run_append_room_string (P:=P) w t u ty e i ht hu hi hsize g n cap cur hg s hroom (by omega)
  rw [hr] at hr2
  injection hr2 with e1 e2
  exact ⟨by rw [e1];exact h2,.inr (.inl ⟨g,cap,rfl,e1⟩)⟩
 have holds:∀j u,xs[j]? = some u→w.cell? ((⟨g,0,none⟩:Addr).add j)=some u:=hown.cells (g:=g) rfl
 have hr2:=Lib.run_append_grow_string (P:=P) w t u ty e i (.int .u8 0) ht hu hi hz ⟨g,0,none⟩ n cap xs (by rw [hsize];simpa using hxl) holds s (by omega) (by omega) (by rw [hby];exact growslice_fits (by omega) (by omega))
 rw [hr] at hr2
 injection hr2 with e1 e2
 refine ⟨?_,.inr (.inr ⟨_,e1,by omega⟩)⟩
 rw [e2]
 exact ⟨rfl,rfl,rfl,by simp,fun k hk _=>Lib.alloc_old w.drew _ k hk⟩
end

theorem Ux {P:Program} {w w':World} {ops:Array Oper} {rest:List Oper} {o:Oper} {a:Act} {Q:Exit→Act→World→Prop} {v v':Value} {s:ByteArray} (hgd:o.guard=none) (sl x:Operand) (t u ty:TypeId)
  (ho:o.op=.call { callee:=.builtin .append,args:=#[sl,x],argTypes:=#[t,u] }) (hty:o.type=ty) (hs:a.eval sl=v) (hx:a.eval x=.string s) (hrun:(Builtin.append_ #[t,u] ty #[v,.string s]).run P w=.ok v' w')
  (h:wpList P ops Q rest (a.put o.dst v') w'):wpList P ops Q (o::rest) a w:=by
 refine wpList_plain hgd fun K hK=>?_
 subst hty
 unfold Oper.wp execOp
 simp only [ho,resolve,invoke,builtin,Sem.run_bind,Sem.run_pure,Result.andThen_ok,List.map_toArray,List.map_cons,List.map_nil,hs,hx,hrun]
 exact hK _ _ h

section
variable {P:Program} {ρ:Ren}

set_option maxHeartbeats 1000000 in
set_option maxRecDepth 100000 in
/-- The check of an unused builder within a block of type T. -/
theorem yz (L:Lays.n240 P ρ) (X:Builder.X72 P ρ) {T:TypeId} (hl:liesAt P P.depth T (2 / P.cellsOf T) 0 (ρ.t 72) 1=true) (b:Nat) (w:World) (h0:w.cell? ⟨b,0,none⟩=some (.pointer none)) (hsh:w.shape? b=some (T,2)) (hfz:w.frozen? ⟨b,0,none⟩=false):
  Calls P (ρ.f 240) #[.pointer (some ⟨b,0,none⟩)] w fun e w'=>e=.returned (.tuple #[])∧w'=w.setCell ⟨b,0,none⟩ (.pointer (some ⟨b,0,none⟩)):=by
 obtain ⟨j,hj,hjs⟩:=Option.map_eq_some_iff.1 X.sizeBuilder
 have mixed:=L.mixed
 have t72:=L.t72;have a72:=L.a72;have z72:=L.z72;have v72:=L.v72;have u72:=run_underlying L.t72
 have t70:=L.t70;have a70:=L.a70;have z70:=L.z70;have v70:=L.v70;have u70:=run_underlying L.t70
 have t9:=L.t9;have a9:=L.a9;have z9:=L.z9;have v9:=L.v9;have u9:=run_underlying L.t9
 have t4:=L.t4;have a4:=L.a4;have z4:=L.z4;have v4:=L.v4;have u4:=run_underlying L.t4
 have t164:=L.t164;have a164:=L.a164;have z164:=L.z164;have v164:=L.v164;have u164:=run_underlying L.t164
 go_enter L.f240,Body.n240_ntmps ρ
 go_wp2
 rw [Lib.run_to_unsafe w ⟨b,0,none⟩ L.t70 L.t164 hj (by rw [hjs];decide) hsh (Nat.zero_lt_succ 1)]
 simp only [Result.andThen]
 rw [Oper.upon_value]
 go_wp2
 rw [run_callFunc_extern L.f276 (by kernel_rfl) (by kernel_rfl) (by kernel_rfl) (e:=Extern.AbiNoEscape.same) (by kernel_rfl)]
 rw [Lib.run_noEscape]
 simp only [Result.andThen]
 rw [Oper.upon_value]
 go_wp2
 rw [Lib.run_from_unsafe w ⟨b,0,none⟩ L.t164 L.t70 hj hsh hl]
 simp only [Result.andThen]
 rw [Oper.upon_value]
 go_wp2
 go_end0
 exact ⟨rfl,rfl⟩

/-- The check: behind it the first cell holds the builder's own address; nothing else turns. -/
theorem ADo (L:Lays.n240 P ρ) (X:Builder.X72 P ρ) {T e:TypeId} (hl:liesAt P P.depth T (2 / P.cellsOf T) 0 (ρ.t 72) 1=true) (b:Nat) (p v:Value) (n:Nat) (bs:List Value) (w:World) (h:Pi T e b p v n bs w):
  Calls P (ρ.f 240) #[.pointer (some ⟨b,0,none⟩)] w fun e' w'=>e'=.returned (.tuple #[])∧Pi T e b (.pointer (some ⟨b,0,none⟩)) v n bs w'∧w.grownBy w' (some b)∧w'.heap.size=w.heap.size:=by
 obtain ⟨h1,hp,h3,h4⟩:=h
 rcases hp with rfl|rfl
 ·refine (yz L X hl b w (by rw [Lib.cell_of_heap h1];rfl) (by simp [World.shape?,h1]) (Lib.frozen_of_heap h1 0)).mono ?_
  rintro e' w' ⟨rfl,rfl⟩
  have hgr:w.grownBy (w.setCell ⟨b,0,none⟩ (.pointer (some ⟨b,0,none⟩))) (some b):=⟨rfl,rfl,rfl,by simp [World.setCell],fun k _ hk=>Below.heap_setCell _ _ _ _ (fun e=>hk (by simp [e]))⟩
  exact ⟨rfl,⟨by simp [World.setCell,Array.getElem?_modify,h1],.inr rfl,h3.kept hgr (.inr h4),h4⟩,hgr,by simp [World.setCell]⟩
 refine (Any.Builder_copyCheck_used L X b w (by rw [Lib.cell_of_heap h1];rfl)).mono ?_
 rintro e' w' ⟨rfl,rfl⟩
 exact ⟨rfl,⟨h1,.inr rfl,h3,h4⟩,⟨rfl,rfl,rfl,Nat.le_refl _,fun _ _ _=>rfl⟩,rfl⟩

set_option maxHeartbeats 1000000 in
set_option maxRecDepth 100000 in
/-- How many bytes there are. -/
theorem bldLen (L:Lays.n170 P ρ) {T e:TypeId} (b:Nat) (p v:Value) (n:Nat) (bs:List Value) (w:World) (h:Pi T e b p v n bs w):
  Calls P (ρ.f 170) #[.pointer (some ⟨b,0,none⟩)] w fun e' w'=>e'=.returned (.int .i64 n)∧w'=w:=by
 obtain ⟨h1,_,h3,_⟩:=h
 obtain ⟨ao,cap,rfl⟩:∃ao cap,v=.slice ao n cap:=by
  rcases h3.2 with ⟨hv,h0⟩|⟨g,cap,cur,hv,_⟩
  ·exact ⟨none,0,by rw [hv,h0]⟩
  exact ⟨_,_,hv⟩
 have c1:w.cell? ⟨b,1,none⟩=some (.slice ao n cap):=by rw [Lib.cell_of_heap h1];rfl
 have mixed:=L.mixed
 have t72:=L.t72;have a72:=L.a72;have z72:=L.z72;have v72:=L.v72;have u72:=run_underlying L.t72
 have t70:=L.t70;have a70:=L.a70;have z70:=L.z70;have v70:=L.v70;have u70:=run_underlying L.t70
 have t37:=L.t37;have a37:=L.a37;have z37:=L.z37;have v37:=L.v37;have u37:=run_underlying L.t37
 have t3:=L.t3;have a3:=L.a3;have z3:=L.z3;have v3:=L.v3;have u3:=run_underlying L.t3
 go_enter L.f170,Body.n170_ntmps ρ
 go_wp2
 go_ret
 exact ⟨rfl,rfl⟩

set_option maxHeartbeats 2000000 in
set_option maxRecDepth 100000 in
/-- A text is written behind it. -/
theorem bldWrite (L:Lays.n166 P ρ) (X:Builder.Extra P ρ) {T:TypeId} (hl:liesAt P P.depth T (2 / P.cellsOf T) 0 (ρ.t 72) 1=true) (hTe:T≠ρ.t 5) (b:Nat) (p v:Value) (n:Nat) (bs:List Value) (s:ByteArray) (w:World) (h:Pi T (ρ.t 5) b p v n bs w)
  (hlen:n+s.size≤140737488355328):
  Calls P (ρ.f 166) #[.pointer (some ⟨b,0,none⟩),.string s] w fun e w'=>e=.returned (.tuple #[.int .i64 s.size,.nilIface])∧∃v',Pi T (ρ.t 5) b (.pointer (some ⟨b,0,none⟩)) v' (n+s.size) (bs++Lib.strCells s) w' ∧
   (w'.os=w.os∧w'.tape=w.tape∧w'.output=w.output∧w.heap.size≤w'.heap.size)∧(∀k,k<w.heap.size→k≠b→v'.ownBlock≠some k→w'.heap[k]? = w.heap[k]?) ∧
   ((v=.slice none 0 0∧v'=v∧s.size=0)∨(∃g cap,v=.slice (some ⟨g,0,none⟩) n cap∧v'=.slice (some ⟨g,0,none⟩) (n+s.size) cap)∨∃cap,v'=.slice (some ⟨w.heap.size,0,none⟩) (n+s.size) cap∧0<n+s.size):=by
 obtain ⟨i0,hi,hz0,hz1,hz2⟩:=info_parts X.infoByte
 have mixed:=L.mixed
 have t72:=L.t72;have a72:=L.a72;have z72:=L.z72;have v72:=L.v72;have u72:=run_underlying L.t72
 have t70:=L.t70;have a70:=L.a70;have z70:=L.z70;have v70:=L.v70;have u70:=run_underlying L.t70
 have t37:=L.t37;have a37:=L.a37;have z37:=L.z37;have v37:=L.v37;have u37:=run_underlying L.t37
 have t3:=L.t3;have a3:=L.a3;have z3:=L.z3;have v3:=L.v3;have u3:=run_underlying L.t3
 have t9:=L.t9;have a9:=L.a9;have z9:=L.z9;have v9:=L.v9;have u9:=run_underlying L.t9
 have t4:=L.t4;have a4:=L.a4;have z4:=L.z4;have v4:=L.v4;have u4:=run_underlying L.t4
 have t164:=L.t164;have a164:=L.a164;have z164:=L.z164;have v164:=L.v164;have u164:=run_underlying L.t164
 have t5:=X.t5;have a5:=X.a5;have z5:=X.z5;have v5:=X.v5;have u5:=run_underlying X.t5
 have e240:∀args w,(callFunc (ρ.f 240) args).run P w=.ok (.enter (ρ.f 240) args) w:=enters_of L.f240 (by kernel_rfl) rfl
 go_enter L.f166,Body.n166_ntmps ρ
 go_wp2_with (go_at_fn (ρ.f 240);refine (ADo { L with } X.toX72 hl b p v n bs _ h).mono ?_)
 rintro e w1 ⟨rfl,⟨hbk,_,hown,hne⟩,hg1,hs1⟩
 have c0:w1.cell? ⟨b,0,none⟩=some (.pointer (some ⟨b,0,none⟩)):=by rw [Lib.cell_of_heap hbk];rfl
 have c1:w1.cell? ⟨b,1,none⟩=some v:=by rw [Lib.cell_of_heap hbk];rfl
 obtain ⟨v',w2,hrun,hown',hgrow,hcase⟩:=yy (P:=P) w1 (ty:=ρ.t 37) L.t37 L.t9 hi hz0 hz1 hz2 v n bs hown s hlen
 have hlt:b<w1.heap.size:=(Array.getElem?_eq_some_iff.1 hbk).1
 have hne':v'.ownBlock≠some b:=by
  rcases hcase with ⟨_,e1,_⟩|⟨g,cap,e1,e2⟩|⟨cap,e1,_⟩
  ·rw [e1];exact hne
  ·rw [e2];rw [e1] at hne;exact hne
  rw [e1];simp [Value.ownBlock];omega
 have hb2:w2.heap[b]? = some (.cells #[.pointer (some ⟨b,0,none⟩),v] T (0,0)):=by
  rw [hgrow.block b hlt (fun e=>hne' e.symm)]
  exact hbk
 have d0:w2.cell? ⟨b,0,none⟩=some (.pointer (some ⟨b,0,none⟩)):=by rw [Lib.cell_of_heap hb2];rfl
 have d1:w2.cell? ⟨b,1,none⟩=some v:=by rw [Lib.cell_of_heap hb2];rfl
 have f1:w2.frozen? ⟨b,1,none⟩=false:=Lib.frozen_of_heap hb2 1
 obtain ⟨ao,n',cap,rfl⟩:∃ao n' cap,v'=.slice ao n' cap:=by
  rcases hown'.2 with ⟨hv,_⟩|⟨g,cap,cur,hv,_⟩
  ·exact ⟨_,_,_,hv⟩
  exact ⟨_,_,_,hv⟩
 go_wp2_with (at_builtin;refine Ux rfl _ _ (ρ.t 37) (ρ.t 9) (ρ.t 37) rfl rfl rfl rfl hrun ?_)
 go_ret2
 refine ⟨rfl,_,⟨by simp [World.setCell,Array.getElem?_modify,hb2],.inr rfl,hown'.kept (row:=some b) ⟨rfl,rfl,rfl,by simp [World.setCell],fun k _ hk=>Below.heap_setCell _ _ _ _ (fun e=>hk (by simp [e]))⟩ (.inr hne'),hne'⟩,⟨?_,?_,?_,?_⟩,fun k hk hkb hkr=>?_,?_⟩
 ·exact hgrow.os.trans hg1.os
 ·exact hgrow.tape.trans hg1.tape
 ·exact hgrow.output.trans hg1.output
 ·have:=hgrow.size
  simp [World.setCell];omega
 ·rw [Below.heap_setCell _ _ _ _ hkb,hgrow.block k (by omega) (fun e=>hkr e.symm),hg1.block k hk (by simpa using hkb)]
 rw [hs1] at hcase;exact hcase

set_option maxHeartbeats 2000000 in
set_option maxRecDepth 100000 in
/-- Its text: some of its row is frozen; nothing else turns. -/
theorem bldString (L:Lays.n169 P ρ) (X:Builder.Extra P ρ) {T:TypeId} (b:Nat) (p v:Value) (l:List UInt8) (w:World) (h:Pi T (ρ.t 5) b p v l.length (Lib.byteCells l) w) (hcap:∀g,v≠.slice (some ⟨g,0,none⟩) 0 0):
  Calls P (ρ.f 169) #[.pointer (some ⟨b,0,none⟩)] w fun e w'=>e=.returned (.string ⟨l.toArray⟩)∧(w'.os=w.os∧w'.tape=w.tape∧w'.output=w.output∧w.heap.size≤w'.heap.size)∧∀k,v.ownBlock≠some k→w'.heap[k]? = w.heap[k]? := by
 obtain ⟨hbk,_,hown,hne⟩:=h
 have mixed:=L.mixed
 have t72:=L.t72;have a72:=L.a72;have z72:=L.z72;have v72:=L.v72;have u72:=run_underlying L.t72
 have t70:=L.t70;have a70:=L.a70;have z70:=L.z70;have v70:=L.v70;have u70:=run_underlying L.t70
 have t37:=L.t37;have a37:=L.a37;have z37:=L.z37;have v37:=L.v37;have u37:=run_underlying L.t37
 have t127:=L.t127;have a127:=L.a127;have z127:=L.z127;have v127:=L.v127;have u127:=run_underlying L.t127
 have t3:=L.t3;have a3:=L.a3;have z3:=L.z3;have v3:=L.v3;have u3:=run_underlying L.t3
 have t9:=L.t9;have a9:=L.a9;have z9:=L.z9;have v9:=L.v9;have u9:=run_underlying L.t9
 have t5:=X.t5;have a5:=X.a5;have z5:=X.z5;have v5:=X.v5;have u5:=run_underlying X.t5
 rcases hown.2 with ⟨rfl,h0⟩|⟨g,cap,cur,rfl,hbg,hg,hnc,hcm,hcs,htake⟩
 ·have hl:l=[]:=List.eq_nil_of_length_eq_zero h0
  subst hl
  have hUS:=Any.unsafeString_none L X
  have c1:w.drew.cell? ⟨b,1,none⟩=some (.slice none 0 0):=by
   have:w.drew.heap[b]? = some (.cells #[p,.slice none 0 0] T (0,0)):=hbk
   rw [Lib.cell_of_heap this];rfl
  have hSD:(Builtin.unsafeSliceData_ #[(ρ.t 37)] (ρ.t 127) #[.slice none 0 0]).run P w.drew=.ok (.pointer none) w.drew:=rfl
  go_enter L.f169,Body.n169_ntmps ρ
  go_wp2
  go_region_o
  all_goals (go_wp2;go_ret;exact ⟨rfl,⟨rfl,rfl,rfl,Nat.le_refl _⟩,fun _ _=>rfl⟩)
 have hc0:cap≠0:=by
  rintro rfl
  exact hcap g (by rw [show l.length=0 by omega])
 have c1:w.drew.cell? ⟨b,1,none⟩=some (.slice (some ⟨g,0,none⟩) l.length cap):=by
  have:w.drew.heap[b]? = some (.cells #[p,.slice (some ⟨g,0,none⟩) l.length cap] T (0,0)):=hbk
  rw [Lib.cell_of_heap this];rfl
 have hSD:(Builtin.unsafeSliceData_ #[(ρ.t 37)] (ρ.t 127) #[.slice (some ⟨g,0,none⟩) l.length cap]).run P w.drew=.ok (.pointer (some ⟨g,0,none⟩)) w.drew:=
  Lib.run_unsafeSliceData_row _ _ _ _ _ _ hc0
 by_cases hl:l=[]
 ·subst hl
  have hUS:=Any.unsafeString_none L X
  clear hc0 hcap
  simp only [List.length_nil] at c1 hSD
  go_enter L.f169,Body.n169_ntmps ρ
  go_wp2
  go_region_o
  all_goals (go_wp2;go_ret;exact ⟨rfl,⟨rfl,rfl,rfl,Nat.le_refl _⟩,fun _ _=>rfl⟩)
 have hUS:(Builtin.unsafeString_ #[(ρ.t 127),(ρ.t 3)] (ρ.t 9) #[.pointer (some ⟨g,0,none⟩),.int .i64 l.length]).run P w.drew=.ok (.string ⟨l.toArray⟩) (w.drew.freeze ⟨g,0,none⟩ l.length):=by
  refine Lib.run_unsafeString_row w.drew (ρ.t 127) (ρ.t 3) (ρ.t 9) (ρ.t 5) L.t127 X.cellsByte g cur.size (by have hg':w.drew.heap[g]? = some (.cells cur (ρ.t 5) (0,0)):=hg;simp [World.shape?,hg']) l hl (by omega) (by unfold maxLen at hcm;omega) ?_
  intro j x hx
  exact hown.cells (g:=g) rfl j (.int .u8 x.toNat) (by simp [Lib.byteCells,hx])
 have hfz:∀k,g≠k→(w.drew.freeze ⟨g,0,none⟩ l.length).heap[k]? = w.heap[k]? := fun k hk=>by
  unfold World.freeze
  split
  ·rfl
  show (w.heap.modify g _)[k]? = _
  rw [Array.getElem?_modify,if_neg hk]
 have hfs:(w.drew.freeze ⟨g,0,none⟩ l.length).heap.size=w.heap.size:=by
  unfold World.freeze
  split
  ·rfl
  show (w.heap.modify g _).size=_
  simp
 have hfo:(w.drew.freeze ⟨g,0,none⟩ l.length).os=w.os∧(w.drew.freeze ⟨g,0,none⟩ l.length).tape=w.tape∧(w.drew.freeze ⟨g,0,none⟩ l.length).output=w.output:=by
  unfold World.freeze
  split<;>exact ⟨rfl,rfl,rfl⟩
 clear hc0 hcap
 go_enter L.f169,Body.n169_ntmps ρ
 go_wp2
 go_region_o
 all_goals (go_wp2;go_ret;exact ⟨rfl,⟨hfo.1,hfo.2.1,hfo.2.2,Nat.le_of_eq hfs.symm⟩,fun k hk=>hfz k (fun e=>hk (by rw [e];rfl))⟩)
end
end Go.Proofs

namespace Go.SX.Nb
open Go Go.SX Go.Proofs Go.Shelf
variable [ErrAt]
set_option maxRecDepth 8000
/-! show's builder. -/
theorem AOh:Builder.Extra Tryz.prog Tryz.ren155 where
 sizeBuilder:=by kernel_rfl
 liesBuilder:=by kernel_rfl
 t5:=Tryz.underlying5
 a5:=Tryz.isAgg5
 z5:=Tryz.sizeOf5
 v5:=Tryz.zeroValue5
 infoByte:=by kernel_rfl
 cellsByte:=by kernel_rfl
 sizeByte:=by kernel_rfl
 neB5:=by decide
theorem AHf:liesAt Tryz.prog Tryz.prog.depth 120 (2 / Tryz.prog.cellsOf 120) 0 118 1=true:=by kernel_rfl
abbrev Zg (bs:Str):AObj:=.bld 120 5 bs
theorem Eo {n:Nat} {bs:Str}:ObjLow n (Zg bs):=trivial
/-- (*strings.Builder).WriteString. -/
theorem Zh (bs s:Str) (hl:bs.length+s.length≤140737488355328) (o:Nat) (Hp:List AObj) (ho:Hp[o]? = some (Zg bs)):
  ACall Tryz.prog 119 [.ptr o 0,Ae s] Hp (fun r H'=>r=.tup [A5 s.length,.v .nilIface]∧H'=Hp.set o (Zg (bs++s))):=by
 refine ACall.bldWrite ho (fun b p v w h=>?_)
 have hw:=bldWrite Tryz.lays166 AOh (T:=120) AHf (by decide) b p v bs.length (Lib.byteCells bs) ⟨s.toArray⟩ w h (by rw [H8];exact hl)
 rw [H8,Lib.strCells_eq,←Lib.byteCells_append] at hw
 exact hw
/-- (*strings.Builder).Len. -/
theorem c74 (bs:Str) (o:Nat) (Hp:List AObj) (ho:Hp[o]? = some (Zg bs)):AFun Tryz.prog 74 [.ptr o 0] Hp (A5 bs.length):=
 AFun.bldLen ho (fun b p v w h=>bldLen Tryz.lays170 (T:=120) (e:=5) b p v _ _ w h)
/-- (*strings.Builder).String. -/
theorem c75 (bs:Str) (o:Nat) (Hp:List AObj) (ho:Hp[o]? = some (Zg bs)):ACall Tryz.prog 75 [.ptr o 0] Hp (fun r H'=>r=Ae bs∧H'=Hp.set o (.cells 120 [.any,.any])):=
 ACall.bldString ho (fun b p v w h hc=>bldString (ρ:=Tryz.ren155) { Tryz.lays155 with } AOh (T:=120) b p v bs w h hc)
end Go.SX.Nb
namespace Go.SX.Nb
open Go Go.SX Go.Proofs
variable [ErrAt]
set_option maxRecDepth 4000
abbrev AIm:AV:=.v (.tuple #[])
abbrev Jd:Nat:=1099511627776
/-- What node writes. -/
def ADp (e:Expr):Prop:=∀(o:Nat) (bs:Str) (Hp:List AObj),Hp[o]? = some (Zg bs)→bs.length+(Bh e).length≤Jd→ACall Tryz.prog 73 [.ptr o 0,A9 e] Hp (fun r H'=>r=AIm∧H'=Hp.set o (Zg (bs++Bh e)))
theorem z6 (e:Expr):Bh e=T9 e.op e.text e.val e.kids (e.kids.map Bh):=by
 cases e with
 | mk o t v k=>rw [Bh,S5];rfl
theorem AHg {k:List Expr} {i:Nat} (h:i<k.length):(k.map Bh).getD i []=Bh (k.getD i Ap):=by
 rw [C9,C9,Cf,Ab h]
 rfl
theorem d9 (l:List Str) (s:Str):Jc (l++[s])=Jc l++(44::32::s):=by
 induction l with
 | nil=>simp [Jc]
 | cons a r ih=>simp [Jc,ih]
theorem ADq {k:List Expr} {x:Nat} (h:x<k.length):(Jc ((k.take (x+1)).map Bh)).drop 2=(Jc ((k.take x).map Bh)).drop 2++(if 0<x then [44,32] else [])++Bh k[x]:=by
 rw [Hv h,By,List.map_singleton,d9]
 cases x with
 | zero=>simp [Jc]
 | succ x =>
  have:2≤(Jc ((k.take (x+1)).map Bh)).length:=by
   rw [Hv (by omega),By,List.map_singleton,d9]
   simp
   omega
  rw [List.drop_append_of_le_length this,if_pos (by omega)]
  simp
theorem AKf {k:List Expr} (x:Nat):(Jc ((k.take x).map Bh)).length≤(Jc (k.map Bh)).length:=by
 have:k.map Bh=(k.take x).map Bh++(k.drop x).map Bh:=by rw [←By,ey]
 rw [this]
 have:∀a b:List Str,(Jc a).length≤(Jc (a++b)).length:=by
  intro a b
  induction a with
  | nil=>simp [Jc]
  | cons c r ih=>simp [Jc];exact ih
 exact this _ _
theorem mi {H:List AObj} {o:Nat} {a b:AObj}:(H.set o a).set o b=H.set o b:=Dy _
theorem z7 (e:Expr) (he:ADp e) (hlev:ri e=(levE e:Int)) (least:Nat) (l0:Int) (hl0:l0=(least:Int)) (o:Nat) (bs:Str) (Hp:List AObj) (ho:Hp[o]? = some (Zg bs)) (hb:bs.length+(Oy least e (Bh e)).length≤Jd):ACall Tryz.prog 121 [.ptr o 0,A9 e,A5 l0] Hp (fun r H'=>r=AIm∧H'=Hp.set o (Zg (bs++Oy least e (Bh e)))):=by
 subst hl0
 refine Af [] [0,1,2] Tryz.func121 Tryz.ntmps121 (fun d=>?_)
 refine Z2 ?_;refine A2 [0,2,4] ?_;refine Z32 ?_;refine Aa Tryz.call118 (AOg e _) ?_;refine Z0 ?_;refine A2 [0,4,9] ?_
 refine A3 (fun ht9=>?_) (fun ht9=>?_)
 ·have hz:least≤levE e:=by
   have h:=ht9
   rw [hlev] at h
   simpa using h
  rw [show Oy least e (Bh e)=Bh e from if_pos hz] at hb ⊢
  refine Z1 ?_;refine C2 Tryz.call73 ho (by simp) Eo (he o bs _ (Ag ho) (by omega)) ?_;refine ABf ?_;exact A8 .nores ⟨rfl,by simp⟩
 have hz:¬least≤levE e:=by
  have h:=ht9
  rw [hlev] at h
  simpa using h
 rw [show Oy least e (Bh e)=40::(Bh e++[41]) from if_neg hz] at hb ⊢
 simp only [Aw,Ai,Az,Jd] at hb
 refine Z82 ?_
 refine C2 Tryz.call119 ho (by simp) Eo (Zh bs [40] (by simp only [Jd,Ai,Aw,Az] at *;omega) o _ (Ag ho)) ?_
 refine A2 [0,4] ?_;refine Z1 ?_
 refine C2 Tryz.call73 (getset ho) (by simp) Eo (he o (bs++[40]) _ (Ag (getset ho)) (by simp only [Jd,Ai,Aw,Az] at *;omega)) ?_
 refine A2 [0] ?_;refine Z34 ?_
 refine C2 Tryz.call119 (getset (getset ho)) (by simp) Eo (Zh (bs++[40]++Bh e) [41] (by simp only [Jd,Ai,Aw,Az] at *;omega) o _ (Ag (getset (getset ho)))) ?_
 refine A2 [] ?_;exact Fv .nores ⟨rfl,by simp⟩

theorem c73:∀(n:Nat) (e:Expr),okE n e→Dw Dl e=true→Dw Hs e=true→ADp e:=by
 intro n
 induction n with
 | zero=>exact fun e h=>h.elim
 | succ n ih =>
 intro e hok hnd hrg o bs Hp ho hb
 have hnd0:=hnd
 have hrg0:=hrg
 rw [Gg,As] at hnd0 hrg0
 have hev:∀y∈e.kids,ADp y:=fun y hy=>ih y (hok.2.2 y hy) ((E3 _ _).1 hnd0.2 y hy) ((E3 _ _).1 hrg0.2 y hy)
 have hlv:∀y∈e.kids,ri y=(levE y:Int):=fun y hy=>uq (by have:=(E3 _ _).1 hnd0.2 y hy;rw [Gg,As] at this;exact this.1)
 obtain ⟨k5,k34,k6,kall⟩:=ADn hnd0.1
 have hi64:AG0 e.val.n:=by
  have:=hrg0.1
  simp only [Hs,As,decide_eq_true_eq] at this
  exact this
 have hlv0:=uq hnd0.1
 have pe:=z6 e
 have hol:=(Ad.1 ho).1
 unfold T9 at pe
 refine Af [] [0,1] Tryz.func73 Tryz.ntmps73 (fun d=>?_)
 refine Z2 ?_;refine Ln ?_;refine Z2 ?_;refine Aa Tryz.call118 (AOg e _) ?_;refine A4 ?_;refine al ?_;refine Z1 ?_;refine A2 [0,3,4,11] ?_;refine Pj ?_;refine A2 [0,3,4,11,12] ?_
 refine A3 (fun ht12=>?_) (fun ht12=>?_)
 ·rw [if_pos ht12] at pe
  refine gb [0,1,3,0,8,24,63] 6 An (by kernel_rfl) ?_;refine oh ?_;refine E1 Tryz.call120 (ANp e.val hi64 _) ?_;refine Ey ?_
  refine C2 Tryz.call119 ho (by simp) Eo (Zh bs (I6 e.val) (by rw [pe] at hb;simp only [Jd] at hb;omega) o _ (Ag ho)) ?_
  exact Z91
 rw [if_neg (by rw [ht12];simp)] at pe
 refine Z1 ?_;refine A2 [0,3,4,11,21] ?_
 refine A3 (fun ht21=>?_) (fun ht21=>?_)
 ·rw [if_pos ht21] at pe
  refine gb [0,1,3,0,8,31] 5 An (by kernel_rfl) ?_;refine oh ?_;refine Ey ?_
  refine C2 Tryz.call119 ho (by simp) Eo (Zh bs e.text (by rw [pe] at hb;simp only [Jd] at hb;omega) o _ (Ag ho)) ?_
  exact Z91
 rw [if_neg (by rw [ht21];simp)] at pe
 refine Z1 ?_;refine A2 [0,3,4,11,29] ?_
 refine A3 (fun ht29=>?_) (fun ht29=>?_)
 ·rw [if_pos ht29] at pe
  have hkl:=k34 (.inl (by simpa using ht29))
  rw [AHg (by omega)] at pe
  rw [pe] at hb
  simp only [Aw,Jd] at hb
  refine Z17 ?_
  refine C2 Tryz.call119 ho (by simp) Eo (Zh bs [45] (by simp only [Jd,Ai,Aw,Az] at *;omega) o _ (Ag ho)) ?_
  refine Ln ?_;refine Z34 ?_
  refine A4 (h:=Ac (0) (A9 (e.kids.getD 0 Ap)) (fun _=>(Oz (by omega)).1)) (hr:=?_)
  refine A4 ?_
  refine C2 Tryz.call121 (getset ho) (by simp) Eo (z7 (e.kids.getD 0 Ap) (hev _ (Oz (by omega)).2.1) (hlv _ (Oz (by omega)).2.1) (6) _ (rfl) o (bs++[45]) _ (Ag (getset ho)) (by simp only [Jd,Ai,Aw,Az] at *;omega)) ?_
  exact Z91
 rw [if_neg (by rw [ht29];simp)] at pe
 refine Z1 ?_;refine A2 [0,3,4,11,41] ?_
 refine A3 (fun ht41=>?_) (fun ht41=>?_)
 ·rw [if_pos ht41] at pe
  have hkl:=k34 (.inr (by simpa using ht41))
  rw [AHg (by omega)] at pe
  rw [pe] at hb
  simp only [Aw,Ai,yg,Az,Jd] at hb
  refine Z17 ?_
  refine C2 Tryz.call119 ho (by simp) Eo (Zh bs [110,111,116,32] (by simp only [Jd,Ai,Aw,Az] at *;omega) o _ (Ag ho)) ?_
  refine Ln ?_;refine Z34 ?_
  refine A4 (h:=Ac (0) (A9 (e.kids.getD 0 Ap)) (fun _=>(Oz (by omega)).1)) (hr:=?_)
  refine A4 ?_
  refine C2 Tryz.call121 (getset ho) (by simp) Eo (z7 (e.kids.getD 0 Ap) (hev _ (Oz (by omega)).2.1) (hlv _ (Oz (by omega)).2.1) (2) _ (rfl) o (bs++[110,111,116,32]) _ (Ag (getset ho)) (by simp only [Jd,Ai,Aw,Az] at *;omega)) ?_
  exact Z91
 rw [if_neg (by rw [ht41];simp)] at pe
 refine Z1 ?_;refine A2 [0,3,4,11,53] ?_
 refine A3 (fun ht53=>?_) (fun ht53=>?_)
 ·rw [if_pos ht53] at pe
  have h5:e.op=5:=by simpa using ht53
  have hkl:=k5 h5
  have hlv5:levE e=(Bw e.text).toNat:=by simp [levE,h5]
  have hl5:=AD1 e.text
  rw [AHg (by omega),AHg (by omega)] at pe
  rw [pe] at hb
  simp only [Aw,Ai,Jd] at hb
  rw [hlv0,hlv5]
  refine Z1 ?_;refine A2 [0,3,4,5] ?_;refine Z8 ?_;refine A2 [0,3,4,5,57] ?_
  refine A3 (fun ht57=>?_) (fun ht57=>?_)
  ·have h3:(Bw e.text).toNat=3:=by have:=ht57;simp at this;omega
   have hf1:(((Bw e.text).toNat:Int)+1)=((Js (Bw e.text).toNat:Nat):Int):=by rw [h3];rfl
   refine Z34 ?_;refine A2 [0,3,4,5] ?_;refine Fh ?_;refine Z17 ?_
   refine A4 (h:=Ac (0) (A9 (e.kids.getD 0 Ap)) (fun _=>(Oz (by omega)).1)) (hr:=?_)
   refine Z0 ?_
   refine C2 Tryz.call121 ho (by simp) Eo (z7 (e.kids.getD 0 Ap) (hev _ (Oz (by omega)).2.1) (hlv _ (Oz (by omega)).2.1) (Js (Bw e.text).toNat) _ (by first|exact hf1|rw [hf2]) o (bs) _ (Ag ho) (by simp only [Jd,Ai,Aw,Az] at *;omega)) ?_
   refine AMe ?_;refine oh ?_
   refine Al (h:=Q.sadd (hl:=fun _=>by simp only [Aw,Az];omega)) (hr:=?_)
   refine Al (h:=Q.sadd (hl:=fun _=>by simp only [Aw,Az,Ai];omega)) (hr:=?_)
   refine Ey ?_
   refine C2 Tryz.call119 (getset ho) (by simp) Eo (Zh (bs++Oy (Js (Bw e.text).toNat) (e.kids.getD 0 Ap) (Bh (e.kids.getD 0 Ap))) (32::(e.text++[32])) (by simp only [Jd,Ai,Aw,Az] at *;omega) o _ (Ag (getset ho))) ?_
   refine al ?_;refine Z34 ?_
   refine A4 (h:=Ac (1) (A9 (e.kids.getD 1 Ap)) (fun _=>(Oz (by omega)).1)) (hr:=?_)
   refine Z22 ?_
   refine C2 Tryz.call121 (getset (getset ho)) (by simp) Eo (z7 (e.kids.getD 1 Ap) (hev _ (Oz (by omega)).2.1) (hlv _ (Oz (by omega)).2.1) ((Bw e.text).toNat+1) _ (by first|rfl|(push_cast;rfl)) o (bs++Oy (Js (Bw e.text).toNat) (e.kids.getD 0 Ap) (Bh (e.kids.getD 0 Ap))++32::(e.text++[32])) _ (Ag (getset (getset ho))) (by simp only [Jd,Ai,Aw,Az] at *;omega)) ?_
   exact Z91
  have h3:(Bw e.text).toNat≠3:=by have:=ht57;simp at this;omega
  have hf2:Js (Bw e.text).toNat=(Bw e.text).toNat:=by unfold Js;rw [if_neg h3]
  refine Z82 ?_
  refine A4 (h:=Ac (0) (A9 (e.kids.getD 0 Ap)) (fun _=>(Oz (by omega)).1)) (hr:=?_)
  refine Z0 ?_
  refine C2 Tryz.call121 ho (by simp) Eo (z7 (e.kids.getD 0 Ap) (hev _ (Oz (by omega)).2.1) (hlv _ (Oz (by omega)).2.1) (Js (Bw e.text).toNat) _ (by first|exact hf1|rw [hf2]) o (bs) _ (Ag ho) (by simp only [Jd,Ai,Aw,Az] at *;omega)) ?_
  refine AMe ?_;refine oh ?_
  refine Al (h:=Q.sadd (hl:=fun _=>by simp only [Aw,Az];omega)) (hr:=?_)
  refine Al (h:=Q.sadd (hl:=fun _=>by simp only [Aw,Az,Ai];omega)) (hr:=?_)
  refine Ey ?_
  refine C2 Tryz.call119 (getset ho) (by simp) Eo (Zh (bs++Oy (Js (Bw e.text).toNat) (e.kids.getD 0 Ap) (Bh (e.kids.getD 0 Ap))) (32::(e.text++[32])) (by simp only [Jd,Ai,Aw,Az] at *;omega) o _ (Ag (getset ho))) ?_
  refine al ?_;refine Z34 ?_
  refine A4 (h:=Ac (1) (A9 (e.kids.getD 1 Ap)) (fun _=>(Oz (by omega)).1)) (hr:=?_)
  refine Z22 ?_
  refine C2 Tryz.call121 (getset (getset ho)) (by simp) Eo (z7 (e.kids.getD 1 Ap) (hev _ (Oz (by omega)).2.1) (hlv _ (Oz (by omega)).2.1) ((Bw e.text).toNat+1) _ (by first|rfl|(push_cast;rfl)) o (bs++Oy (Js (Bw e.text).toNat) (e.kids.getD 0 Ap) (Bh (e.kids.getD 0 Ap))++32::(e.text++[32])) _ (Ag (getset (getset ho))) (by simp only [Jd,Ai,Aw,Az] at *;omega)) ?_
  exact Z91
 rw [if_neg (by rw [ht53];simp)] at pe
 refine Z1 ?_;refine A2 [0,3,83] ?_
 refine A3 (fun ht83=>?_) (fun ht83=>?_)
 ·have hsl:∀x,((Jc ((e.kids.take x).map Bh)).drop 2).length≤((Jc (e.kids.map Bh)).drop 2).length:=fun x=>by have:=AKf (k:=e.kids) x;rw [I1,I1];omega
  have hkl6:=hok.2.1
  rw [pe] at hb
  simp only [Aw,Ai,Az,Jd] at hb
  refine De [0,1,3,0,8,24,63] 6 An (by kernel_rfl) ?_;refine oh ?_
  refine Al (h:=Q.sadd (hl:=fun _=>by simp only [Aw,Az];omega)) (hr:=?_)
  refine Ey ?_
  refine C2 Tryz.call119 ho (by simp) Eo (Zh bs (e.text++[40]) (by simp only [Jd,Ai,Aw,Az] at *;omega) o _ (Ag ho)) ?_
  refine Ln ?_;refine Z60 ?_;refine A2 [0,93,94,95] ?_
  refine B7 (α:=Nat) (fun x=>⟨114,A7 0 (.ptr o 0) (A7 93 (.slice false 6 (e.kids.map A9)) (A7 94 (A5 (e.kids.length:Nat)) (A7 95 (A5 (x:Nat)) (fun _=>.any)))),Hp.set o (Zg (bs++(e.text++[40])++(Jc ((e.kids.take x).map Bh)).drop 2)),[],[],none⟩) (fun x=>x≤e.kids.length) (fun x=>e.kids.length-x) (0) (Ar _) (Bo (by simp [Jc])) rfl (fun x hx=>?_)
  refine Z2 ?_;refine A2 [0,93,94,95,96] ?_
  refine Dm (fun ht96=>?_) (fun ht96=>?_)
  ·have hlt:x<e.kids.length:=by simpa using ht96
   have hst:=ADq hlt
   have hsl1:=hsl (x+1)
   have hslx:=hsl x
   refine Pl ?_
   refine A4 (h:=Ac (x) (A9 e.kids[x]) (fun _=>Ax hlt)) (hr:=?_)
   refine gi ?_;refine A2 [0,6,7,93,94,95] ?_;refine Z8 ?_;refine A2 [0,7,93,94,95,101] ?_
   refine A3 (fun ht101=>?_) (fun ht101=>?_)
   ·have h0x:0<x:=by simpa using ht101
    rw [if_pos h0x] at hst
    have hstl:=congrArg List.length hst
    simp only [Ai,Aw,Az] at hstl
    refine Z34 ?_
    refine C2 Tryz.call119 (getset ho) (by simp) Eo (Zh (bs++(e.text++[40])++(Jc ((e.kids.take x).map Bh)).drop 2) [44,32] (by simp only [Jd,Ai,Aw,Az] at *;omega) o _ (Ag (getset ho))) ?_
    refine A2 [0,7,93,94,95] ?_;refine Fh ?_;refine Z12 ?_
    first|refine C2 Tryz.call73 (getset ho) (by simp) Eo (hev _ (B1 hlt) o (bs++(e.text++[40])++(Jc ((e.kids.take x).map Bh)).drop 2) _ (Ag (getset ho)) (by simp only [Jd,Ai,Aw,Az] at *;omega)) ?_|refine C2 Tryz.call73 (getset (getset ho)) (by simp) Eo (hev _ (B1 hlt) o (bs++(e.text++[40])++(Jc ((e.kids.take x).map Bh)).drop 2++[44,32]) _ (Ag (getset (getset ho))) (by simp only [Jd,Ai,Aw,Az] at *;omega)) ?_
    refine A2 [0,93,94,95] ?_;refine Qv ?_;refine A2 [0,93,94,95] ?_;refine gm ?_
    simp only [hst,mi,Bn,H4]
    exact D4 (own:=[]) (fun _=>.refl _) (by repeat (first|exact Be|refine Bd (by first|exact F1|exact Wp|(simp [or_imp,forall_and,oid]<;>omega)) ?_)) (by simp) (by simp)
   have h0x:¬0<x:=by simpa using ht101
   rw [if_neg h0x] at hst
   have hstl:=congrArg List.length hst
   simp only [Ai,Aw,Az] at hstl
   refine Z5 ?_;refine Z12 ?_
   first|refine C2 Tryz.call73 (getset ho) (by simp) Eo (hev _ (B1 hlt) o (bs++(e.text++[40])++(Jc ((e.kids.take x).map Bh)).drop 2) _ (Ag (getset ho)) (by simp only [Jd,Ai,Aw,Az] at *;omega)) ?_|refine C2 Tryz.call73 (getset (getset ho)) (by simp) Eo (hev _ (B1 hlt) o (bs++(e.text++[40])++(Jc ((e.kids.take x).map Bh)).drop 2++[44,32]) _ (Ag (getset (getset ho))) (by simp only [Jd,Ai,Aw,Az] at *;omega)) ?_
   refine A2 [0,93,94,95] ?_;refine Qv ?_;refine A2 [0,93,94,95] ?_;refine gm ?_
   simp only [hst,mi,Bn,H4]
   exact D4 (own:=[]) (fun _=>.refl _) (by repeat (first|exact Be|refine Bd (by first|exact F1|exact Wp|(simp [or_imp,forall_and,oid]<;>omega)) ?_)) (by simp) (by simp)
  have hxe:e.kids.take x=e.kids:=E8 (by simp at ht96;omega)
  have hslx:=hsl x
  refine Z28 ?_;refine Z34 ?_
  refine C2 Tryz.call119 (getset ho) (by simp) Eo (Zh (bs++(e.text++[40])++(Jc ((e.kids.take x).map Bh)).drop 2) [41] (by simp only [Jd,Ai,Aw,Az] at *;omega) o _ (Ag (getset ho))) ?_
  refine Z78 ?_;exact Fv .nores ⟨rfl,by rw [pe,hxe]<;>simp⟩
 exfalso
 have h6:=kall
 simp at ht12 ht21 ht29 ht41 ht53 ht83
 omega

set_option maxRecDepth 8000
/-! How long a print is. -/
theorem rj {v:Val} (hp:E2 v=true) (hi:AG0 v.n):(I6 v).length≤402:=by
 unfold I6
 rw [hp]
 simp only [Il,Aq,if_false]
 split
 ·have:=Lib.itoa_length_le v.n hi.1 hi.2
  omega
 split
 ·rename_i h1 h2
  rw [Vm]
  have h3:=l4 v.s
  have h4:v.s.length≤200:=by
   have k2:v.kind=2:=by simpa using h2
   simp [E2,k2] at hp
   omega
  simp
  omega
 split
 ·simp
 split<;>simp
theorem Wt (k:Nat) (x:Expr) (s:Str):(Oy k x s).length≤s.length+2:=by
 unfold Oy
 split<;>simp
theorem mj {t:Str} (h:0≤Bw t):t.length≤3:=by
 rcases N2 t with hm|⟨hm,_⟩
 ·have h3:(levels.flatten.all fun s=>decide (s.length≤3))=true:=by kernel_rfl
  exact of_decide_eq_true (B2.1 h3 t hm)
 omega
theorem Zi {t:Str} {n:Nat} (h:Ch t=(n:Int)):t.length≤6:=by
 rcases Oj h with ⟨e,_⟩|⟨e,_⟩|⟨e,_⟩|⟨e,_⟩|⟨e,_⟩|⟨e,_⟩|⟨e,_⟩|⟨e,_⟩<;>rw [e]<;>decide
theorem ADr {k:List Expr} (h:∀y∈k,(Bh y).length+10≤440*sizeE y):(Jc (k.map Bh)).length≤440*Cs k:=by
 induction k with
 | nil=>simp [Jc]
 | cons y r ih =>
  have h1:=h y Hu
  have h2:=ih (fun z hz=>h z (Kr _ hz))
  simp only [Bz,Jc,Cs,Aw,Ai]
  omega
theorem da:∀(n:Nat) (e:Expr),sizeE e≤n→Dw Dl e=true→Dw Hs e=true→(Bh e).length+10≤440*sizeE e
 | 0,e,h,_,_=>by rw [Jn] at h;omega
 | n+1,e,h,hn,hr=>by
  rw [Gg,As] at hn hr
  have hk:∀y∈e.kids,(Bh y).length+10≤440*sizeE y:=fun y hy=>by
   obtain ⟨i,hi⟩:=Cm hy
   obtain ⟨hlt,rfl⟩:=Ad.1 hi
   exact da n _ (by have:=kn e hlt;omega) ((E3 _ _).1 hn.2 _ hy) ((E3 _ _).1 hr.2 _ hy)
  have hi:AG0 e.val.n:=by
   have:=hr.1
   simp only [Hs,As,decide_eq_true_eq] at this
   exact this
  rw [Jn]
  cases Kj hn.1 with
  | val v hp h0 =>
   rw [AKc]
   have:=rj hp (v:=v) hi
   simp only [Mq,Expr.kids,Cs]
   omega
  | name t ht =>
   rw [AHd]
   have:t.length≤16:=by
    cases t with
    | nil=>simp
    | cons c r =>
     simp only [Md,As,decide_eq_true_eq] at ht
     exact ht.1.1.1
   simp only [Cw,Expr.kids,Cs]
   omega
  | neg a =>
   rw [AKd]
   have h1:=Wt 6 a (Bh a)
   have h2:=hk a (by simp [Id,Expr.kids])
   simp only [Id,Expr.kids,Cs,Aw]
   omega
  | no a =>
   rw [AOf]
   have h1:=Wt 2 a (Bh a)
   have h2:=hk a (by simp [Id,Expr.kids])
   simp only [Id,Expr.kids,Cs,Aw,Ai,yg,Az]
   omega
  | bin t a b ht =>
   rw [AKe]
   have h1:=Wt (Js (Bw t).toNat) a (Bh a)
   have h2:=Wt ((Bw t).toNat+1) b (Bh b)
   have h3:=hk a (by simp [Ki,Expr.kids])
   have h4:=hk b (by simp [Ki,Expr.kids])
   have h5:=mj ht
   simp only [Ki,Expr.kids,Cs,Aw,Ai]
   omega
  | call t k ha =>
   rw [AHe]
   have h1:=Zi ha
   have h2:=ADr (k:=k) hk
   rw [←S5] at h2
   simp only [Expr.kids,Aw,Ai,I1,Az]
   omega
theorem ml {e:Expr} (hr:D3 e=true) (hg:Dw Hs e=true):(Bh e).length≤132000:=by
 have h1:=Mm hr
 have h2:sizeE e≤300:=by
  unfold D3 at hr
  simp only [As,decide_eq_true_eq] at hr
  exact hr.1.2
 have:=da _ e (Ak _) h1 hg
 omega
set_option maxRecDepth 4000
abbrev xo (own:Bool) (t:Str) (ks:List Expr):AObj:=.cells 26 [A5 6,Ae t,A5 0,A5 0,Ae [],.slice own 6 (ks.map A9)]
theorem AKg {n:Nat} {own:Bool} {t:Str} {ks:List Expr}:ObjLow n (xo own t ks):=by
 show ∀z∈[A5 6,Ae t,A5 0,A5 0,Ae [],AV.slice own 6 (ks.map A9)],Low n z
 intro z hz
 simp only [B5,F5,or_false] at hz
 rcases hz with rfl|rfl|rfl|rfl|rfl|rfl
 all_goals first|exact F1|simp
theorem AHh:Fd (.agg #[.int .i64 0,.string ⟨#[]⟩,.int .i64 0,.int .i64 0,.string ⟨#[]⟩,.slice none 0 0])=.agg [A5 0,Ae [],A5 0,A5 0,Ae [],.nil]:=rfl
attribute [go_sem] AHh
theorem gA {Hp:List AObj} {o ox:Nat} {z A B:AObj} (ho:Hp[o]? = some z) (hne:ox≠o):((Hp.set o A).set ox B)[o]? = some A:=by rw [List.getElem?_set_ne hne];exact getset ho
theorem gB {Hp:List AObj} {o ox:Nat} {z A B:AObj} (hox:Hp[ox]? = some z):((Hp.set o A).set ox B)[ox]? = some B:=by
 have:=(List.getElem?_eq_some_iff.1 hox).1
 simp [this]
theorem ADs {Hp:List AObj} {o ox:Nat} {A A' B:AObj} (hne:ox≠o):((Hp.set o A).set ox B).set o A'=(Hp.set o A').set ox B:=by rw [List.set_comm _ _ hne,List.set_set]
theorem S7 (ks:List Expr) (x:Expr):ks.map A9++[.agg [.v (.int .i64 x.op),.v (sv x.text),.v (.int .i64 x.val.kind),.v (.int .i64 x.val.n),.v (sv x.val.s),.slice false 6 (x.kids.map A9)]]=(ks++[x]).map A9:=by rw [List.map_append,List.map_cons,List.map_nil,At x]
theorem AR4 (l:List Tok) (S:PS) (t:Str) (Dv:Fam) (o ox:Nat) (Hp:List AObj) (hne:ox≠o) (ho:Hp[o]? = some (pr l S)) (hox:Hp[ox]? = some (xo true t [])) (hi:S.i<l.length) (hl:TokEnd l) (hll:l.length≤1048576) (hf:Ga l S.nest Dv.ei) (hcf:PC 114 l Dv.ei S.nest):ACall Tryz.prog 351 [.ptr ox 0,.ro [.ptr o 0]] Hp (fun r H'=>r=A9 (.mk 6 t noV (K2 l Dv.ei S).1)∧H'=(Hp.set o (pr l (K2 l Dv.ei S).2)).set ox (xo true t (K2 l Dv.ei S).1)):=by
 have hoxl:=(List.getElem?_eq_some_iff.1 hox).1
 have hol:=(List.getElem?_eq_some_iff.1 ho).1
 refine ACall.body [.cell 2 26] [0,1] Tryz.func351 Tryz.ntmps351 (fun d=>?_)
 refine Z35 ?_;refine Wb ?_
 refine W.drawT [0,1,0,4,3,0,63,127,255,127,639] [1,3] [.q 1 [] [0],.s [4] (some 0) [] [],.q 1 [] [1],.s [6] (some 1) [] [],.q 2 [] []] (fun B=>(Hp.set o (if B 1=true then pr l (Dv.ei S).2 else pr l S)).set ox (if B 0=true then xo false t [] else xo true t [])) (fun _=>[Nc]) An (by kernel_rfl) (by simp only [Bool.false_eq_true,if_false];rw [Is ho,Is hox]) rfl (fun B=>by simp) ?_
 apply Y.q
 ·intro B hT hF
  exact Xh
 case hTF=>decide
 refine Y.loadUpT (o:=ox) (t':=26) (cs:=[A5 6,Ae t,A5 0,A5 0,Ae [],.slice true 6 ([].map A9)]) (cs':=[A5 6,Ae t,A5 0,A5 0,Ae [],.slice false 6 ([].map A9)]) Tryz.isAgg24 (fun B hB=>⟨by simp only [hB];exact gB hox,by simp [upd,List.set_set]<;>rfl,rfl⟩) ?_
 apply Y.q
 ·intro B hT hF
  exact Xh
 case hTF=>decide
 refine Y.callUp (r:=A9 (Dv.ei S).1) (o:=o) (x0:=pr l S) (x:=pr l (Dv.ei S).2) Tryz.call114 (fun B hT hF hB=>⟨by simp only [hB];exact gA ho hne,?_,rfl,E4,?_⟩) ?_
 ·simp only [upd,hB,Nat.reduceEqDiff,if_false,if_true,Bool.false_eq_true]
  exact (ADs hne).symm
 ·simp only [hB]
  exact hcf o _ S (Ag (gA ho hne)) hi rfl
 apply Y.q
 ·intro B hT hF
  exact AB7
 case hTF=>decide
 refine Y.appendPut (tn:=[1,3]) (U:=(Hp.set o (pr l (Dv.ei S).2)).set ox (xo false t [])) (O:=[Nc]) (o:=ox) (t':=26) (cs:=[A5 6,Ae t,A5 0,A5 0,Ae [],.slice false 6 ([].map A9)]) (by kernel_rfl) jU Tryz.type26 Tryz.sizeOf26 Tryz.sizeOf24 jU (Ag (gB hox)) ?_ ?_ ?_ (hfsz:=Tryz.sizeOf24)
 ·simp [Tryz.t26]
 ·simp [Tryz.t26]
 refine R.go ?_
 refine R.storeUpT jS (gB hox) ?_ ?_
 ·first|(rw [S7];exact F1)|(have:=F1 (n:=((Hp.set o (pr l (Dv.ei S).2)).set ox (xo false t [])).length) (k:=6) (o:=true) (l:=[(Dv.ei S).1]);simp only [List.map_cons,List.map_nil,At] at this;exact this)
 refine Wb ?_;refine W.seq ?_
 refine AW.loopC (α:=List Expr×PS) (fun r=>⟨34,A7 0 (.ptr ox 0) (A7 1 (.ro [.ptr o 0]) (A7 2 (.ptr (oid Hp.length 0) 0) (fun _=>.any))),(Hp.set o (pr l r.2)).set ox (xo true t r.1),[Nc],[],none⟩) (fun r=>ArgsAt l Dv.ei S r) (fun r=>l.length-r.2.i) (([(Dv.ei S).1],(Dv.ei S).2)) (.start (hf S hi rfl)) (StLe.of_eq (by simp [List.set_set,xo,At])) rfl (fun r hx=>?_)
 refine Z60 ?_
 refine R.go (h:=Q.loadUp (gA ho hne)) (hr:=?_)
 refine Qx ?_;refine G.call Tryz.call203 (fun hB=>li l r.2 Yi o _ (Ag (gA ho hne)) hx.fact.lt hl (by decide)) ?_;refine R.go ?_;refine R.fin [0,1,2,21] ?_
 refine W.cond (fun ht21=>?_) (fun ht21=>?_)
 ·have hon:=hx.on hl ht21 hf
  have hle:=hon.2.1.le
  have hlt0:=hx.fact.lt
  refine Z5 ?_;refine Jk ?_;refine Z2 ?_;refine R.callUp Tryz.call204 (gA ho hne) (by simp) E4 (ACs l r.2 o _ (Ag (gA ho hne)) hx.fact.lt hll) ?_;refine Wb ?_
  refine W.drawT0 [0,1,0,4,3,0,63,127,255,127,639] [1,3] [.q 1 [] [0],.s [25] (some 0) [] [],.q 1 [] [1],.s [27] (some 1) [] [],.q 2 [] []] (fun B=>(Hp.set o (if B 1=true then pr l (Dv.ei (Au r.2)).2 else pr l (Au r.2))).set ox (if B 0=true then xo false t r.1 else xo true t r.1)) (fun _=>[Nc]) An (by kernel_rfl) (by simp only [Bool.false_eq_true,if_false];exact (ADs hne).symm) rfl (fun B=>by simp) ?_
  apply Y.q
  ·intro B hT hF
   exact Xh
  case hTF=>decide
  refine Y.loadUpT (o:=ox) (t':=26) (cs:=[A5 6,Ae t,A5 0,A5 0,Ae [],.slice true 6 (r.1.map A9)]) (cs':=[A5 6,Ae t,A5 0,A5 0,Ae [],.slice false 6 (r.1.map A9)]) Tryz.isAgg24 (fun B hB=>⟨by simp only [hB];exact gB hox,by simp [upd,List.set_set]<;>rfl,rfl⟩) ?_
  apply Y.q
  ·intro B hT hF
   exact Xh
  case hTF=>decide
  refine Y.callUp (r:=A9 (Dv.ei (Au r.2)).1) (o:=o) (x0:=pr l (Au r.2)) (x:=pr l (Dv.ei (Au r.2)).2) Tryz.call114 (fun B hT hF hB=>⟨by simp only [hB];exact gA ho hne,?_,rfl,E4,?_⟩) ?_
  ·simp only [upd,hB,Nat.reduceEqDiff,if_false,if_true,Bool.false_eq_true]
   exact (ADs hne).symm
  ·simp only [hB]
   exact hcf o _ (Au r.2) (Ag (gA ho hne)) hon.1 hx.fact.nest
  apply Y.q
  ·intro B hT hF
   exact AB7
  case hTF=>decide
  refine Y.appendPut (tn:=[1,3]) (U:=(Hp.set o (pr l (Dv.ei (Au r.2)).2)).set ox (xo false t r.1)) (O:=[Nc]) (o:=ox) (t':=26) (cs:=[A5 6,Ae t,A5 0,A5 0,Ae [],.slice false 6 (r.1.map A9)]) (by kernel_rfl) jU Tryz.type26 Tryz.sizeOf26 Tryz.sizeOf24 jU (Ag (gB hox)) ?_ ?_ ?_ (hfsz:=Tryz.sizeOf24)
  ·have:=hx.fact.len;have:=hx.fact.lt;simp only [List.length_map,Tryz.t26];omega
  ·have:=hx.fact.len;have:=hx.fact.lt;simp only [List.length_map,Tryz.t26];omega
  refine R.go ?_
  refine R.storeUpT jS (gB hox) ?_ ?_
  ·first|(rw [S7];exact F1)|(have:=F1 (n:=((Hp.set o (pr l (Dv.ei S).2)).set ox (xo false t [])).length) (k:=6) (o:=true) (l:=[(Dv.ei S).1]);simp only [List.map_cons,List.map_nil,At] at this;exact this)
  refine Wb ?_;refine K.blN ?_
  refine K.lpN (r.1++[(Dv.ei (Au r.2)).1],(Dv.ei (Au r.2)).2) hon.2.2 (by show l.length-(Dv.ei (Au r.2)).2.i<l.length-r.2.i;have:r.2.i+1≤(Dv.ei (Au r.2)).2.i:=hle;omega) (StCut.of_eq ?_)
  simp only [show Tryz.t26.size=6 from rfl,S7,List.set_set]
 have hout:=hx.out (by rw [ht21];simp)
 refine Z55 ?_;refine Fp ?_
 refine R.go (h:=Q.loadUpN (gB hox)) (hr:=?_)
 refine Z15 ?_;exact K.fin (V.one (V.cellN jA jS)) ⟨by rw [hout,Yz];rfl,by rw [hout]⟩ (hlow:=by have:=Av Hp.length (.mk 6 t noV r.1);rw [Yz] at this;simpa using this)

/-- within, with the function that gathers a call's kids. -/
theorem AOi (l:List Tok) (S:PS) (a:Int) (t:Str) (Dv:Fam) (o:Nat) (Hp:List AObj) (A0 A1:AObj) (l0:ObjLow 0 A0) (ho:Hp[o]? = some (pr l S)) (hi:S.i<l.length) (hl:TokEnd l) (hll:l.length≤1048576) (hnl:S.nest≤30) (hd:DeepC l Dv S.nest):
  ACall Tryz.prog 256 [.ptr o 0,A5 a,.fn (.func 351) [] [.ptr (oid Hp.length 2) 0,.ro [.ptr o 0]]] (Hp++[A0,A1,xo true t []]) (fun r H'=>r=A9 (if S.nest=30 then Ap else .mk 6 t noV (Vo l a Dv.ei S).1)∧H'=Hp.set o (pr l (Vo l a Dv.ei S).2)++[A0,A1,xo true t (Vo l a Dv.ei S).1]):=by
 have hlt:=(Ad.1 ho).1
 have ho':(Hp++[A0,A1,xo true t []])[o]? = some (pr l S):=Ag ho
 by_cases h30:S.nest=30
 ·refine (AGl l S a 351 [] [.ptr (oid Hp.length 2) 0,.ro [.ptr o 0]] Ap (Ee S) o (Hp++[A0,A1,xo true t []]) ((Hp++[A0,A1,xo true t []]).set o (pr l (Ee S))) ho' (by omega) Tryz.call351 (by simp) (getset ho') rfl (fun h=>h) (fun h=>absurd h30 h)).mono fun r H' h=>?_
  have e:Vo l a Dv.ei S=([],Fo 18 a S):=if_pos (by rw [h30];rfl)
  rw [e,if_pos h30]
  obtain ⟨h1,h2⟩:=h.1 h30
  exact ⟨h1,by rw [h2,Lj _ _ hlt]⟩
 have hq:=Yk (S:=Ee S) hl hi (hd.ei h30).1
 refine (AGl l S a 351 [] [.ptr (oid Hp.length 2) 0,.ro [.ptr o 0]] (.mk 6 t noV (K2 l Dv.ei (Ee S)).1) (K2 l Dv.ei (Ee S)).2 o (Hp++[A0,A1,xo true t []]) (Hp.set o (pr l (K2 l Dv.ei (Ee S)).2)++[A0,A1,xo true t (K2 l Dv.ei (Ee S)).1]) ho' (by omega) Tryz.call351 (by simp) (Ag (getset ho)) hq.nest (fun h y hy=>?_) (fun _ own=>?_)).mono fun r H' h=>?_
 ·rw [Lj _ _ hlt] at h
  rcases E7.1 hy with hy|hy
  ·rcases Mr hy with h1|h1
   ·obtain ⟨i,hi',rfl⟩:=Tv h1
    by_cases hio:i=o
    ·subst hio
     have:Hp[i]=pr l S:=by rw [Ab hi'] at ho;injection ho
     rw [this];exact E4
    refine h _ (Wf _ ?_)
    rw [sk]
    exact ⟨i,by rw [Dr (Ne.symm hio),Ab hi']⟩
   rw [h1];exact E4
  simp only [B5,F5,or_false] at hy
  rcases hy with rfl|rfl|rfl
  ·exact h _ (Sd _ (by simp))
  ·exact h _ (Sd _ (by simp))
  exact AKg
 ·have hoid:oid Hp.length 2≠o:=by unfold oid;omega
  have e1:(Hp++[A0,A1,xo true t []]).set o (pr l (Ee S))++own=(Hp.set o (pr l (Ee S))++[A0,A1,xo true t []])++own:=by rw [Lj _ _ hlt]
  rw [e1]
  have g1:((Hp.set o (pr l (Ee S))++[A0,A1,xo true t []])++own)[o]? = some (pr l (Ee S)):=Ag (Ag (getset ho))
  have g2:((Hp.set o (pr l (Ee S))++[A0,A1,xo true t []])++own)[oid Hp.length 2]? = some (xo true t []):=Ag (by
   have:=Bm (U:=Hp.set o (pr l (Ee S))) (O:=[A0,A1,xo true t []]) (n:=2)
   rw [E6] at this
   exact this)
  refine (AR4 l (Ee S) t Dv o (oid Hp.length 2) _ hoid g1 g2 hi hl hll (hd.ei h30).1 (hd.ei h30).2).mono fun r H' h=>⟨h.1,h.2.trans ?_⟩
  rw [Bn,Lj _ _ (by simpa using hlt),Dy]
  have:=Gf (U:=Hp.set o (pr l (K2 l Dv.ei (Ee S)).2)) (O:=[A0,A1,xo true t []]++own) (n:=2) (x:=xo true t (K2 l Dv.ei (Ee S)).1)
  rw [E6] at this
  rw [this]
  simp
 have e:Vo l a Dv.ei S=((K2 l Dv.ei (Ee S)).1,ck (K2 l Dv.ei (Ee S)).2):=if_neg (by
  show ¬(((S.nest:Int)==30)=true)
  simp
  omega)
 rw [e,if_neg h30]
 obtain ⟨h1,h2⟩:=h.2 h30
 exact ⟨h1,by rw [h2,Lj _ _ (by simpa using hlt),Dy]⟩
theorem AR5 (l:List Tok) (S:PS) (Dv:Fam) (t:Tok) (o:Nat) (Hp:List AObj) (ho:Hp[o]? = some (pr l S)) (hi:(Au S).i<l.length) (hl:TokEnd l) (hll:l.length≤1048576) (hnl:S.nest≤30) (hd:DeepC l Dv S.nest):ACall Tryz.prog 349 [.ptr o 0,Me t] Hp (fun r H'=>r=A9 (K3 l Dv t S).1∧H'=Hp.set o (pr l (K3 l Dv t S).2)):=by
 have hi0:S.i<l.length:=by have:S.i+1<l.length:=hi;omega
 have hol:=(Ad.1 ho).1
 have hkf:KFact l (Au S) (F0 l Dv S):=Yl hl _ hi (fun h=>(hd.ei h).1)
 refine Af [.cell 4 26] [0,1] Tryz.func349 Tryz.ntmps349 (fun d=>?_)
 refine Z1 ?_;refine Pm ?_;refine A2 [2,3,4] ?_;refine Z1 ?_;refine Aa Tryz.call126 (AJg t.text _) ?_;refine A4 ?_;refine A2 [2,3,4,5] ?_;refine Z8 ?_;refine A2 [2,3,4,5,12] ?_
 refine A3 (fun ht12=>?_) (fun ht12=>?_)
 ·have hlt0:Ch t.text<0:=by simpa using ht12
  have e:K3 l Dv t S=(Ap,Fo 9 t.at_ S):=if_pos hlt0
  refine Z17 ?_;refine C2 Tryz.call116 ho (by simp) E4 (yb l S 9 t.at_ o _ (Ag ho)) ?_;refine Iq ?_;refine Z26 ?_;exact Z95
 have hge:¬Ch t.text<0:=by simpa using ht12
 refine Lm ?_;refine C2 Tryz.call204 ho (by simp) E4 (ACs l S o _ (Ag ho) hi0 hll) ?_;refine Z19 ?_;refine A2 [2,3,4,5,6] ?_;refine AMh ?_;refine Z19 ?_;refine A2 [2,3,4,5,6,7] ?_;refine Fp ?_;refine N9 2 5 6 ?_;refine Z22 ?_;refine Ka ?_
 refine Kb (up':=(Hp.set o (pr l (Au S))).set o (pr l (F0 l Dv S).2)) (own':=[Nc,.cells 113 [A5 (Ao l S.i).kind,Ae (Ao l S.i).text,A5 (Ao l S.i).at_],xo true t.text (F0 l Dv S).1]) Tryz.call256 (by have:=AOi l (Au S) (Ao l S.i).at_ t.text Dv o (Hp.set o (pr l (Au S))) Nc (.cells 113 [A5 (Ao l S.i).kind,Ae (Ao l S.i).text,A5 (Ao l S.i).at_]) ig (getset ho) hi hl hll hnl hd;rw [E6] at this;exact this) (by simp) (fun h=>AGn h E4) ?_
 refine A2 [2,3,4,5,7] ?_;refine Z2 ?_;refine C2 Tryz.call350 (getset (getset ho)) (by simp) E4 (ANt l (F0 l Dv S).2 Hb o _ (Ag (getset (getset ho))) hkf.lt hll) ?_;refine A2 [2,3,4,5,7] ?_;refine Z60 ?_
 refine A4 (h:=Ca (getset (getset (getset ho)))) (hr:=?_)
 refine Z47 ?_;refine Sr ?_;refine A2 [2,3,4,7,41] ?_
 refine A3 (fun ht41=>?_) (fun ht41=>?_)
 ·have e:K3 l Dv t S=(Ap,Fo 8 t.at_ (Hf l Hb (F0 l Dv S).2)):=by
   unfold K3
   rw [if_neg hge,if_pos (by have:=ht41;simp only [Aj] at this;exact this)]
  refine Z17 ?_;refine C2 Tryz.call116 (getset (getset (getset ho))) (by simp) E4 (yb l (Hf l Hb (F0 l Dv S).2) 8 t.at_ o _ (Ag (getset (getset (getset ho))))) ?_;refine Iq ?_;refine Z26 ?_;refine C4 ?_;exact A8 (Ah (Bu jA jS)) ⟨by rw [e,At],by rw [e,Dy,Dy,Dy]⟩ (hlow:=low_agg _)
 have e:K3 l Dv t S=(.mk 6 t.text noV (F0 l Dv S).1,(Hf l Hb (F0 l Dv S).2)):=by
  unfold K3
  rw [if_neg hge,if_neg (by have:=ht41;simp only [Aj] at this;rw [Ik] at this;exact this)]
 refine Lm ?_;refine Iq ?_;refine Z26 ?_;exact A8 (Ah (Bu jA jS)) ⟨by rw [e,Yz];rfl,by rw [e,Dy,Dy]⟩ (hlow:=by have:=Av Hp.length (.mk 6 t.text noV (F0 l Dv S).1);rw [Yz] at this;simpa using this)

theorem z8 {l:List Tok} (hl:TokEnd l) (hll:l.length≤1048576) (n:Nat) (Dv:Fam) (hn:n≤30) (hd:DeepC l Dv n):lj l Dv n:=fun o Hp S t ho hi hS _ _=>by
 subst hS
 exact AR5 l S Dv t o Hp ho hi hl hll hn hd
theorem rk {e:Expr} (h:Dl e=true):e.text.length≤16∧e.kids.length≤8:=by
 cases Kj h with
 | val v hp h0=>exact ⟨by simp [Mq,Expr.text],by simp [Mq,Expr.kids]⟩
 | name t ht =>
  refine ⟨?_,by simp [Cw,Expr.kids]⟩
  show t.length≤16
  cases t with
  | nil=>simp
  | cons c r =>
   simp only [Md,As,decide_eq_true_eq] at ht
   exact ht.1.1.1
 | neg a=>exact ⟨by simp [Id,Expr.text],by simp [Id,Expr.kids]⟩
 | no a=>exact ⟨by simp [Id,Expr.text],by simp [Id,Expr.kids]⟩
 | bin t a b ht=>exact ⟨by have:=mj ht;show t.length≤16;omega,by simp [Ki,Expr.kids]⟩
 | call t k ha =>
  refine ⟨by have:=Zi ha;show t.length≤16;omega,?_⟩
  show k.length≤8
  rcases Oj ha with ⟨_,e⟩|⟨_,e⟩|⟨_,e⟩|⟨_,e⟩|⟨_,e⟩|⟨_,e⟩|⟨_,e⟩|⟨_,e⟩<;>omega
theorem db:∀{l:List Expr} {y:Expr},y∈l→depthE y≤Fi l
 | a::r,y,h=>by
  rw [Fi]
  rcases B5.1 h with rfl|h
  ·omega
  have:=db h
  omega
theorem ur:∀(n:Nat) (e:Expr),depthE e≤n→Dw Dl e=true→okE n e
 | 0,e,h,_=>by rw [Ql] at h;omega
 | n+1,e,h,hn=>by
  rw [Gg,As] at hn
  rw [Ql] at h
  have hs:=rk hn.1
  refine ⟨by omega,by omega,fun y hy=>ur n y (by have:=db hy;omega) ((E3 _ _).1 hn.2 y hy)⟩
theorem dc {e:Expr} (h:D3 e=true):okE 30 e∧sizeE e≤300:=by
 have h1:=Mm h
 unfold D3 at h
 simp only [As,decide_eq_true_eq] at h
 exact ⟨ur 30 e h.1.1 h1,h.1.2⟩
theorem c34 (n:Nat) (e:Expr) (hok:okE n e) (hn:n≤1048576) (hg:Dw Hs e=true) (Hp:List AObj):AFun Tryz.prog 34 [A9 e] Hp (.tup [Ae (Vs e).1,A5 (Vs e).2]):=by
 refine Af [.tmp 2,.tmp 3] [0] Tryz.func34 Tryz.ntmps34 (fun d=>?_)
 refine Z17 ?_;refine A2 [1] ?_;refine Z32 ?_;refine Aa Tryz.call38 (c38 n e hok hn _) ?_;refine A4 ?_;refine A2 [1,7] ?_
 refine A3 (fun ht7=>?_) (fun ht7=>?_)
 ·have hsh:Vs e=([],1):=if_pos ht7
  refine Z1 ?_;refine Z51 ?_;exact ALn
 have hnr:¬(!(B3 e))=true:=by rw [ht7];simp
 have hr:D3 e=true:=by rw [←F8];simpa using ht7
 have hps:=ml hr hg
 refine x5 ?_;refine U0 (places:=#[(0,2)]) jU (fun w=>by simp) jZ ?_;refine R.box ?_;refine A4 ?_;refine A2 [1,4] ?_;refine Fp ?_;refine R.toBld 0 120 5 ?_;refine Z0 ?_
 refine Xb (n:=0) (x:=Zg (Bh e)) Tryz.call73 (c73 n e hok (Mm hr) hg (oid Hp.length 0) [] _ (by rw [Bm];rfl) (by simp only [Jd,Az];omega)) ?_
 refine A2 [4] ?_;refine Z36 ?_
 refine Aa Tryz.call74 (c74 (Bh e) (oid Hp.length 0) _ (by rw [Bm];rfl)) ?_
 refine A4 ?_;refine A2 [4,17] ?_
 refine A3 (fun ht17=>?_) (fun ht17=>?_)
 ·have hsh:Vs e=([],3):=by unfold Vs;rw [if_neg hnr,if_pos ht17]
  refine Z1 ?_;refine Z51 ?_;exact ALn
 have hsh:Vs e=(Bh e,0):=by unfold Vs;rw [if_neg hnr,if_neg (by rw [ht17];simp)]
 refine Z82 ?_
 refine Xb (n:=0) (x:=.cells 120 [.any,.any]) Tryz.call75 (c75 (Bh e) (oid Hp.length 0) _ (by rw [Bm];rfl)) ?_
 refine Z0 ?_;refine Z51 ?_;exact AN7

/-! fuse.Forth and plan.Text. -/
def Cd (c:List Col) (ms:List Mov):Nat→List Expr
 | 0=>Iv c
 | k+1=>match ms[k]? with
  | some m=>Ea m.take (colsAt c ms k) (Cd c ms k)++(C6 (colsAt c ms k) (Cd c ms k) m.ahead).1
  | none=>Cd c ms k
def H0 (c:List Col) (t:List Expr):List Mov→List Expr×Int
 | []=>(t,0)
 | m::r=>if (C6 c t m.ahead).2 != 0 then ([],(C6 c t m.ahead).2) else H0 (C1 c m).1 (Ea m.take c t++(C6 c t m.ahead).1) r
/-- fuse.Forth. -/
def Fc (c:List Col) (l:List Mov):List Expr×Int:=if (Cq c l).2 != 0 then ([],1) else H0 c (Iv c) l
def Lc (c:List Col) (ms:List Mov) (k:Nat):Prop:=H0 c (Iv c) ms=H0 (colsAt c ms k) (Cd c ms k) (ms.drop k)
theorem AKh {c:List Col} {ms:List Mov}:Lc c ms 0:=rfl
theorem iy {c:List Col} {ms:List Mov} {k:Nat} {m:Mov} (hk:ms[k]? = some m) (h:Lc c ms k) (he:((C6 (colsAt c ms k) (Cd c ms k) m.ahead).2 != 0)=false):Lc c ms (k+1):=by
 unfold Lc at h ⊢
 rw [h,Pz hk,H0,if_neg (by rw [he];simp),Fq hk,Cd,hk]
theorem rl {c:List Col} {ms:List Mov} {k:Nat} {m:Mov} (hk:ms[k]? = some m) (h:Lc c ms k) (he:((C6 (colsAt c ms k) (Cd c ms k) m.ahead).2 != 0)=true):H0 c (Iv c) ms=([],(C6 (colsAt c ms k) (Cd c ms k) m.ahead).2):=by
 unfold Lc at h
 rw [h,Pz hk,H0,if_pos he]
theorem rm {c:List Col} {ms:List Mov} (h:Lc c ms ms.length):H0 c (Iv c) ms=(Cd c ms ms.length,0):=by
 unfold Lc at h
 rw [h,List.drop_length,H0]
/-- Trees that may be walked, printed and put again. -/
structure TOk (t:List Expr):Prop where
 ok:∀e∈t,okE 61 e
 rng:∀e∈t,Dw Hs e=true
theorem Qp {take:List Str}:∀{c:List Col} {l:List Expr},∀e∈Ea take c l,e∈l
 | [],[],e,h=>by cases h
 | [],_::_,e,h=>by cases h
 | _::_,[],e,h=>by cases h
 | y::c,x::l,e,h=>by
  unfold Ea at h
  split at h
  ·exact Kr _ (Qp e h)
  rcases B5.1 h with rfl|h
  ·exact Hu
  exact Kr _ (Qp e h)
theorem mm {c:List Col} {l:List Expr} (hl:∀e∈l,Dw Hs e=true) (hc:c.length=l.length):∀(n:Nat) (x y:Expr),okE n x→Dw Hs x=true→putF c l x=some y→Dw Hs y=true
 | 0,x,y,h,_,_=>h.elim
 | n+1,x,y,h,hr,hp=>by
  cases h2:x.op==2 with
  | true =>
   rw [Z4 h2] at hp
   split at hp
   ·cases hp
   rename_i hf
   injection hp with hp
   subst hp
   obtain ⟨j,hj,hjl⟩:=Hh hf
   rw [hj,Int.toNat_natCast,C9,Ab (by omega)]
   exact hl _ (B1 (by omega))
  | false =>
   rw [Za h2] at hp
   cases hk:Ja c l x.kids with
   | none=>rw [hk] at hp;cases hp
   | some s =>
    rw [hk] at hp
    injection hp with hp
    subst hp
    obtain ⟨h3,h4⟩:=S1 hk
    rw [Gg,As] at hr
    rw [Gg,As]
    refine ⟨hr.1,(E3 _ _).2 fun z hz=>?_⟩
    obtain ⟨e,he,hpe⟩:=h4 z hz
    exact mm hl hc n e z (h.2.2 e he) ((E3 _ _).1 hr.2 e he) hpe
theorem ADt {x:Expr} {c:List Col} {l:List Expr} (hx:okE 61 x) (hr:Dw Hs x=true) (ht:TOk l) (he:(Fj x c l).2=0):okE 61 (Fj x c l).1∧Dw Hs (Fj x c l).1=true∧B3 (Fj x c l).1=true:=by
 unfold Fj at he ⊢
 split at he
 ·exact absurd (show (1:Int)=0 from he) (by decide)
 rename_i h1
 rw [if_neg h1]
 have hcl:c.length=l.length:=by
  simp only [Tp,Ej,bne_eq_false_iff_eq] at h1
  have:=h1.2
  omega
 cases hp:putF c l x with
 | none=>rw [hp] at he;exact absurd (show (9:Int)=0 from he) (by decide)
 | some y =>
  rw [hp] at he
  simp only at he ⊢
  split at he
  ·rename_i h2
   rw [if_pos h2]
   have h3:D3 y=true:=by rw [←F8];exact h2
   exact ⟨J4 (by decide) (dc h3).1,mm ht.rng hcl 61 x y hx hr hp,h2⟩
  exact absurd (show (3:Int)=0 from he) (by decide)
theorem Uy {c:List Col} {t:List Expr} (ht:TOk t):∀(l:List Expr),(∀e∈l,okE 61 e)→(∀e∈l,Dw Hs e=true)→(C6 c t l).2=0→TOk (C6 c t l).1
 | [],_,_,_=>⟨fun e h=>(F5 h).elim,fun e h=>(F5 h).elim⟩
 | x::r,h1,h2,he=>by
  unfold C6 at he ⊢
  split at he
  ·rename_i h3
   exact absurd he (by simpa using h3)
  rename_i h3
  rw [if_neg h3]
  split at he
  ·rename_i h4
   exact absurd he (by simpa using h4)
  rename_i h4
  rw [if_neg h4]
  have ih:=Uy (c:=c) ht r (fun e he=>h1 e (Kr _ he)) (fun e he=>h2 e (Kr _ he)) (by simpa using h4)
  have hx:=ADt (c:=c) (h1 x Hu) (h2 x Hu) ht (by simpa using h3)
  refine ⟨fun e he=>?_,fun e he=>?_⟩
  ·rcases B5.1 he with rfl|he
   ·exact hx.1
   exact ih.ok e he
  rcases B5.1 he with rfl|he
  ·exact hx.2.1
  exact ih.rng e he
theorem rn {c:List Col} (hc:OkCols c):TOk (Iv c):=by
 refine ⟨fun e he=>?_,fun e he=>?_⟩
 ·obtain ⟨y,hy,rfl⟩:=Cr.1 he
  exact ⟨hc.2 y hy,by simp [Cw,Expr.kids],fun z hz=>by simp [Cw,Expr.kids] at hz⟩
 obtain ⟨y,hy,rfl⟩:=Cr.1 he
 rfl
/-- What holds of the trees behind k moves, if all went well till there. -/
theorem ut {c:List Col} {ms:List Mov} {k:Nat} {m:Mov} (hk:ms[k]? = some m) (hm:OkMov m) (h:TOk (Cd c ms k)) (he:((C6 (colsAt c ms k) (Cd c ms k) m.ahead).2 != 0)=false):TOk (Cd c ms (k+1)):=by
 have h1:=Uy (c:=colsAt c ms k) h m.ahead hm.ahead.ok hm.ahead.rng (by simpa using he)
 rw [Cd,hk]
 refine ⟨fun e he=>?_,fun e he=>?_⟩
 ·rcases E7.1 he with he|he
  ·exact h.ok e (Qp e he)
  exact h1.ok e he
 rcases E7.1 he with he|he
 ·exact h.rng e (Qp e he)
 exact h1.rng e he
theorem Mn {c:List Col} {m:Mov} (h:(C1 c m).2=0):(C1 c m).1=D6 c m.take++B8 c m∧Ct c=true∧Ct (C1 c m).1=true:=by
 unfold C1 at h ⊢
 split at h
 ·rename_i h1
  exact AFt
 rename_i h1
 rw [if_neg h1]
 split at h
 ·rename_i h2
  exact absurd h (by simpa using h2)
 rename_i h2
 rw [if_neg h2]
 split at h
 ·rename_i h3
  exact absurd h (by simpa using h3)
 rename_i h3
 rw [if_neg h3]
 obtain ⟨a,_,b,d,e⟩:=AGi (by simpa using h1:(Da c m.take (B8 c m)).2=0)
 rw [e]
 refine ⟨rfl,a,?_⟩
 unfold Ct
 rw [b,To]
 refine decide_eq_true ?_
 show ((D6 c m.take++B8 c m).length:Int)≤12
 omega
theorem mn {c:List Col} {ms:List Mov} {k:Nat} {m:Mov} (hk:ms[k]? = some m) (hm:Gj m=true) (ht:(C1 (colsAt c ms k) m).2=0) (h:(Cd c ms k).length=(colsAt c ms k).length) (he:((C6 (colsAt c ms k) (Cd c ms k) m.ahead).2 != 0)=false):(Cd c ms (k+1)).length=(colsAt c ms (k+1)).length:=by
 rw [Cd,Fq hk,hk]
 show (Ea _ _ _++_).length=_
 rw [(Mn ht).1,Ai,Ai,Ie,Km h.symm,Ml _ (by simpa using he),(Fx (Kl hm)).1]
/-! The text. -/
/-! ONE LINE EACH. -/
theorem rp {c:List Col} {ms:List Mov} (he:(Dg c ms).2=0):∀k,k≤ms.length→NS c ms k
 | 0,_=>AK7
 | k+1,h=>by
  have ih:=rp he k (by omega)
  have hk:ms[k]? = some ms[k]:=Ab (by omega)
  by_cases ht:(C1 (colsAt c ms k) ms[k]).2=0
  ·exact iu hk ih ht
  exact absurd ((rd hk ih ht).symm.trans he) ht
theorem Ls {c:List Col} {ms:List Mov} (he:(Dg c ms).2=0) {k:Nat} {m:Mov} (hk:ms[k]? = some m):(C1 (colsAt c ms k) m).2=0:=by
 have hl:=(Ad.1 hk).1
 by_cases ht:(C1 (colsAt c ms k) m).2=0
 ·exact ht
 exact absurd ((rd hk (rp he k (by omega)) ht).symm.trans he) ht
theorem Gk {c:List Col} {ms:List Mov}:∀{n k:Nat},k≤n→(Bx c ms n)[k]? = some (colsAt c ms k)
 | 0,k,h=>by
  have:k=0:=by omega
  subst this;rfl
 | n+1,k,h=>by
  have hl:=Hi c ms n
  rw [Bx]
  by_cases e:k=n+1
  ·subst e
   rw [Dd (by omega),hl,O2]
   rfl
  rw [Di (by omega)]
  exact Gk (by omega)
theorem If {c:List Col} {ms:List Mov} (h:Og c ms=true):∀m∈ms,Gj m=true:=by
 unfold Og Pw at h
 simp only [As,B2] at h
 exact h.2.2
theorem Ta {c:List Col} {ms:List Mov} (hc:Ct c=true) (he:(Dg c ms).2=0):∀k,Ct (colsAt c ms k)=true
 | 0=>hc
 | k+1=>by
  cases hk:ms[k]? with
  | none =>
   rw [colsAt,hk]
   exact Ta hc he k
  | some m =>
   rw [Fq hk]
   exact (Mn (Ls he hk)).2.2
/-- What a sound migration comes to. -/
theorem Ep {c:List Col} {ms:List Mov} (h:((Cq c ms).2 != 0)=false):Og c ms=true∧(Dg c ms).2=0∧Cq c ms=(Bx c ms ms.length,0):=by
 cases hm:Og c ms with
 | false=>rw [cv hm] at h;cases h
 | true =>
  by_cases he:(Dg c ms).2=0
  ·have e:=re (rp he ms.length (Ak _))
   exact ⟨rfl,he,cw hm e⟩
  rw [Yx hm he] at h
  exact absurd (by simpa using h) he
theorem za {c:List Col} {ms:List Mov} (h:((Cq c ms).2 != 0)=false):AD4 c ms=(colsAt c ms ms.length,0):=by
 obtain ⟨_,_,e⟩:=Ep h
 unfold AD4
 rw [if_neg (by rw [h];simp),e]
 show ((Bx c ms ms.length).getLastD [],_)=_
 rw [List.getLastD_eq_getLast?,List.getLast?_eq_getElem?,Hi]
 have:=Gk (c:=c) (ms:=ms) (n:=ms.length) (Ak _)
 rw [show ms.length+1-1=ms.length from rfl,this]
 rfl
/-! SoundJoins: one behind the other, in one. -/
/-! image: rows forth and back. -/
/-- image.reckon. -/
def Ba (c:List Col) (row:List Val):List Expr→List Val×Int
 | []=>([],0)
 | x::r=>if (En x c row).2 != 0 then ([],(En x c row).2) else if (Ba c row r).2 != 0 then ([],(Ba c row r).2) else ((En x c row).1::(Ba c row r).1,0)
theorem Zj {c:List Col} {row:List Val}:∀{l:List Expr},(∀(j:Nat) (y:Expr),l[j]? = some y→((En y c row).2 != 0)=false)→Ba c row l=(l.map (fun e=>(En e c row).1),0)
 | [],_=>rfl
 | x::r,h=>by
  rw [Ba,Zj (l:=r) (fun j y hy=>h (j+1) y hy),if_neg (by rw [h 0 x rfl];simp),if_neg (by simp)]
  rfl
theorem Zk {c:List Col} {row:List Val}:∀{l:List Expr} {x:Nat} {y:Expr},(∀(j:Nat) (z:Expr),j<x→l[j]? = some z→((En z c row).2 != 0)=false)→l[x]? = some y→((En y c row).2 != 0)=true→Ba c row l=([],(En y c row).2)
 | [],_,_,_,h,_=>by simp at h
 | a::r,0,y,_,h,h1=>by
  have:a=y:=by simpa using h
  subst this
  rw [Ba,if_pos h1]
 | a::r,x+1,y,h0,h,h1=>by
  rw [Ba,if_neg (by rw [h0 0 a (by omega) rfl];simp),Zk (l:=r) (x:=x) (fun j z hj hz=>h0 (j+1) z (by omega) hz) (by simpa using h) h1,if_pos h1]
theorem zb {e:Expr} (h:Dl e=true):Nw e=true:=by
 unfold Nw
 rw [T3] at h
 cases hk:(e.op==1) with
 | false=>rfl
 | true =>
  show E2 e.val=true
  have e1:e.op=1:=by simpa using hk
  cases e with
  | mk o t v k =>
   have e1:o=1:=e1
   subst e1
   rw [Yo] at h
   simp at h
   exact h.1.1.1
mutual
theorem mo:∀e:Expr,Dw Dl e=true→Dw Nw e=true
 | .mk o t v k,h=>by
  rw [Gg,As] at h ⊢
  exact ⟨zb h.1,de k h.2⟩
theorem de:∀k:List Expr,Jo Dl k=true→Jo Nw k=true
 | [],_=>rfl
 | e::r,h=>by
  rw [Jo,As] at h ⊢
  exact ⟨mo e h.1,de r h.2⟩
end
theorem ADu {x:Expr} {c:List Col} {row:List Val} (hf:∀v∈row,Fine v) (hr:Dw Hs x=true):Fine (En x c row).1:=by
 show Fine (T7 B9 x c row).1
 unfold T7
 split
 ·exact N3
 rename_i h
 simp only [Dq,Db,not_or,eh] at h
 exact Uv hf x (mo x (Mm (by rw [←F8];exact h.1))) hr
theorem Q5 {c:List Col} {row:List Val} (hf:∀v∈row,Fine v):∀{l:List Expr},(∀e∈l,Dw Hs e=true)→∀v∈(Ba c row l).1,Fine v
 | [],_,v,h=>by cases h
 | x::r,hr,v,h=>by
  rw [Ba] at h
  split at h
  ·cases h
  split at h
  ·cases h
  rcases B5.1 h with rfl|h
  ·exact ADu hf (hr x Hu)
  exact Q5 hf (fun e he=>hr e (.tail _ he)) v h
theorem Mo {c:List Col} {row:List Val}:∀{l:List Expr},(Ba c row l).2=0→(Ba c row l).1.length=l.length
 | [],_=>rfl
 | x::r,h=>by
  rw [Ba] at h ⊢
  split at h
  ·rename_i h1
   rw [show (En x c row).2=0 from h] at h1
   cases h1
  rename_i h1
  rw [if_neg h1]
  split at h
  ·rename_i h2
   rw [show (Ba c row r).2=0 from h] at h2
   cases h2
  rename_i h2
  rw [if_neg h2]
  simp only [Aw]
  rw [Mo (l:=r) (by simpa using h2)]
/-- What is not taken. -/
def G7 (take:List Str) (c:List Col) (row:List Val):List Val:=((c.zip row).filter fun p => !take.contains p.1.name).map (·.2)
theorem Zl:∀{c:List Col} {row:List Val} {x:Nat} (hc:x<c.length) (hr:x<row.length),(c.take (x+1)).zip row=(c.take x).zip row++[(c[x],row[x])]
 | y::c,v::row,0,_,_=>by simp
 | y::c,v::row,x+1,hc,hr=>by
  simp only [List.take_succ_cons,List.zip_cons_cons,Et,List.getElem_cons_succ]
  rw [Zl (by simpa using hc) (by simpa using hr)]
 | [],_,_,hc,_=>by simp at hc
 | _::_,[],_,_,hr=>by simp at hr
theorem AHi {take:List Str} {c:List Col} {row:List Val} {x:Nat} (hc:x<c.length) (hr:x<row.length) (h:take.contains c[x].name=false):G7 take (c.take (x+1)) row=G7 take (c.take x) row++[row[x]]:=by
 unfold G7
 have hb:(fun p:Col×Val => !take.contains p.1.name) (c[x],row[x])=true:=by show (!take.contains c[x].name)=true;rw [h];rfl
 rw [Zl hc hr,eo,By,List.filter_cons_of_pos (p:=fun p:Col×Val => !take.contains p.1.name) hb]
 rfl
theorem ADv {take:List Str} {c:List Col} {row:List Val} {x:Nat} (hc:x<c.length) (hr:x<row.length) (h:take.contains c[x].name=true):G7 take (c.take (x+1)) row=G7 take (c.take x) row:=by
 unfold G7
 have hb:¬(fun p:Col×Val => !take.contains p.1.name) (c[x],row[x])=true:=by show ¬(!take.contains c[x].name)=true;rw [h];simp
 rw [Zl hc hr,eo,By,List.filter_cons_of_neg (p:=fun p:Col×Val => !take.contains p.1.name) hb]
 simp
theorem Tb {take:List Str}:∀{c:List Col} {row:List Val},row.length=c.length→(G7 take c row).length=(D6 c take).length
 | [],[],_=>rfl
 | y::c,v::row,h=>by
  have ih:=Tb (take:=take) (c:=c) (row:=row) (by simpa using h)
  unfold G7 D6 at ih ⊢
  rw [List.zip_cons_cons,L6,L6]
  cases hc:take.contains y.name<;>simp [hc] at ih ⊢<;>exact ih
 | [],_::_,h=>by simp at h
 | _::_,[],h=>by simp at h
theorem ADw {take:List Str} {c:List Col} {row:List Val} {v:Val} (h:v∈G7 take c row):v∈row:=by
 unfold G7 at h
 obtain ⟨p,hp,rfl⟩:=Cr.1 h
 exact (List.of_mem_zip (Se.1 hp).1).2
/-- image.forth. -/
def Er (c:List Col) (m:Mov) (row:List Val):List Val×Int:=if (Ba c row m.ahead).2 != 0 then ([],(Ba c row m.ahead).2) else (G7 m.take c row++(Ba c row m.ahead).1,0)
/-- What a column ahead was. -/
def Tc (take:List Str) (was row:List Val) (d:List Col) (x:Col):Val:=if 0≤Jp x.name take then was.getD (Jp x.name take).toNat noV else row.getD (B6 x.name d).toNat noV
/-- image.back. -/
def D7 (a d:List Col) (m:Mov) (row:List Val):List Val×Int:=if (Ba d row m.back).2 != 0 then ([],(Ba d row m.back).2) else (a.map (Tc m.take (Ba d row m.back).1 row d),0)
/-- The row behind k moves. -/
def fwM (c:List Col) (l:List Mov) (row:List Val):Nat→List Val×Int
 | 0=>(row,0)
 | k+1=>if (fwM c l row k).2 != 0 then ([],(fwM c l row k).2) else match l[k]? with
  | none=>fwM c l row k
  | some m=>Er (colsAt c l k) m (fwM c l row k).1
/-- The row ahead of the last k moves. -/
def bkM (c:List Col) (l:List Mov) (row:List Val):Nat→List Val×Int
 | 0=>(row,0)
 | k+1=>if (bkM c l row k).2 != 0 then ([],(bkM c l row k).2) else match l[l.length-1-k]? with
  | none=>bkM c l row k
  | some m=>D7 (colsAt c l (l.length-1-k)) (colsAt c l (l.length-1-k+1)) m (bkM c l row k).1
/-- image.Forth. -/
def Bp (c:List Col) (l:List Mov) (row:List Val):List Val×Int:=if ((Cq c l).2 != 0) || !Gs c row then ([],1) else fwM c l row l.length
/-- image.Back. -/
def Dz (c:List Col) (l:List Mov) (row:List Val):List Val×Int:=if ((Cq c l).2 != 0) || !Gs (colsAt c l l.length) row then ([],1) else bkM c l row l.length
/-- A row that may be walked: as long as its columns are many, its values fine. -/
structure RowI (c:List Col) (row:List Val):Prop where
 len:row.length=c.length
 fine:∀v∈row,Fine v
theorem Td {c:List Col} {row:List Val} (h:Gs c row=true) (hr:∀v∈row, -9223372036854775808≤v.n∧v.n≤9223372036854775807):RowI c row:=by
 unfold Gs at h
 simp only [As,beq_iff_eq,B2] at h
 refine ⟨h.1.2,fun v hv=>⟨?_,(hr v hv).1,(hr v hv).2⟩⟩
 obtain ⟨j,hj,rfl⟩:=Tv hv
 have hj2:j<c.length:=by omega
 have:=h.2 (row[j],c[j]) (B0 (i:=j) (by rw [Ny];exact ⟨Ab hj,Ab hj2⟩))
 exact this.1
theorem Uz {c:List Col} {m:Mov} {row:List Val} (ht:(C1 c m).2=0) (hm:Gj m=true) (hg:∀e∈m.ahead,Dw Hs e=true) (h:RowI c row) (hf:(Er c m row).2=0):RowI (C1 c m).1 (Er c m row).1:=by
 unfold Er at hf ⊢
 split at hf
 ·rename_i h1
  rw [show (Ba c row m.ahead).2=0 from hf] at h1
  cases h1
 rename_i h1
 rw [if_neg h1]
 have hl:=Mo (c:=c) (row:=row) (l:=m.ahead) (by simpa using h1)
 refine ⟨?_,fun v hv=>?_⟩
 ·rw [(Mn ht).1,Ai,Ai,Tb h.len,hl,Ie,(Fx (Kl hm)).1]
 rcases E7.1 hv with h2|h2
 ·exact h.fine v (ADw h2)
 exact Q5 h.fine hg v h2
theorem dg {row:List Val} (h:∀v∈row,Fine v) (n:Nat):Fine (row.getD n noV):=by
 rw [C9]
 cases hn:row[n]? with
 | none=>exact N3
 | some v=>exact h v (B0 hn)
theorem ADx {a d:List Col} {m:Mov} {row:List Val} (hg:∀e∈m.back,Dw Hs e=true) (h:RowI d row) (hf:(D7 a d m row).2=0):RowI a (D7 a d m row).1:=by
 unfold D7 at hf ⊢
 split at hf
 ·rename_i h1
  rw [show (Ba d row m.back).2=0 from hf] at h1
  cases h1
 rename_i h1
 rw [if_neg h1]
 refine ⟨Aj _,fun v hv=>?_⟩
 obtain ⟨x,_,rfl⟩:=Cr.1 hv
 unfold Tc
 split
 ·exact dg (Q5 h.fine hg) _
 exact dg h.fine _
theorem Te {c:List Col} {l:List Mov} {row:List Val} {k:Nat} {m:Mov} (hk:l[k]? = some m) (h:(fwM c l row k).2=0):fwM c l row (k+1)=Er (colsAt c l k) m (fwM c l row k).1:=by
 rw [fwM,if_neg (by rw [h];simp),hk]
theorem Tf {c:List Col} {l:List Mov} {row:List Val} {k:Nat} {m:Mov} (hk:l[l.length-1-k]? = some m) (h:(bkM c l row k).2=0):bkM c l row (k+1)=D7 (colsAt c l (l.length-1-k)) (colsAt c l (l.length-1-k+1)) m (bkM c l row k).1:=by
 rw [bkM,if_neg (by rw [h];simp),hk]
theorem Zm {c:List Col} {l:List Mov} {row:List Val} {k:Nat} (h:(fwM c l row k).2≠0):∀n,k<n→fwM c l row n=([],(fwM c l row k).2)
 | 0,hn=>by omega
 | n+1,hn=>by
  by_cases hk:k=n
  ·subst hk
   rw [fwM,if_pos (by simpa using h)]
  rw [fwM,Zm h n (by omega),if_pos (by simpa using h)]
theorem iz {c:List Col} {l:List Mov} {row:List Val} {k:Nat} (h:(bkM c l row k).2≠0):∀n,k<n→bkM c l row n=([],(bkM c l row k).2)
 | 0,hn=>by omega
 | n+1,hn=>by
  by_cases hk:k=n
  ·subst hk
   rw [bkM,if_pos (by simpa using h)]
  rw [bkM,iz h n (by omega),if_pos (by simpa using h)]
theorem Zn {c:List Col} {m:Mov} {row:List Val} (h:(Er c m row).2≠0):(Er c m row).1=[]:=by
 unfold Er at h ⊢
 split
 ·rfl
 rename_i h1
 rw [if_neg h1] at h
 exact absurd rfl h
theorem dh {a d:List Col} {m:Mov} {row:List Val} (h:(D7 a d m row).2≠0):(D7 a d m row).1=[]:=by
 unfold D7 at h ⊢
 split
 ·rfl
 rename_i h1
 rw [if_neg h1] at h
 exact absurd rfl h
/-- A failing move ends it. -/
theorem AHj {c:List Col} {l:List Mov} {row:List Val} {k:Nat} {m:Mov} (hk:l[k]? = some m) (h:(fwM c l row k).2=0) (hb:(Er (colsAt c l k) m (fwM c l row k).1).2≠0):fwM c l row l.length=([],(Er (colsAt c l k) m (fwM c l row k).1).2):=by
 have e:=Te hk h
 have hl:=(Ad.1 hk).1
 by_cases h1:k+1=l.length
 ·rw [←h1,e]
  exact Mw (Zn hb) rfl
 have:=Zm (c:=c) (l:=l) (row:=row) (k:=k+1) (by rw [e];exact hb) l.length (by omega)
 rw [this,e]
theorem AHk {c:List Col} {l:List Mov} {row:List Val} {k:Nat} {m:Mov} (hl:k<l.length) (hk:l[l.length-1-k]? = some m) (h:(bkM c l row k).2=0) (hb:(D7 (colsAt c l (l.length-1-k)) (colsAt c l (l.length-1-k+1)) m (bkM c l row k).1).2≠0):bkM c l row l.length=([],(D7 (colsAt c l (l.length-1-k)) (colsAt c l (l.length-1-k+1)) m (bkM c l row k).1).2):=by
 have e:=Tf hk h
 by_cases h1:k+1=l.length
 ·rw [h1] at e
  rw [e]
  exact Mw (dh hb) rfl
 have:=iz (c:=c) (l:=l) (row:=row) (k:=k+1) (by rw [e];exact hb) l.length (by omega)
 rw [this,e]
abbrev V0 (r:Rs):AV:=.tup [C3 r.1,A5 r.2]
abbrev uu (l:List Int):AV:=.slice false 1 (l.map A5)
abbrev Zo (c:List Col) (l:List Val):AV:=.agg [Am c,Cv l]
theorem c43 (e:Int) (Hp:List AObj):AFun Tryz.prog 43 [A5 e] Hp (V0 (Dx e)):=by
 refine Af [.cell 2 23,.tmp 3] [0] Tryz.func43 Tryz.ntmps43 (fun d=>?_)
 refine jz ?_;refine A2 [0,2] ?_;refine AJ5 ?_;refine A4 ?_;refine W8 ?_;exact A8 (Ay (Bu jA jS) A6)

theorem c175 (n e:Int) (Hp:List AObj):AFun Tryz.prog 175 [A5 n,A5 e] Hp (V0 (J8 (n,e))):=by
 refine Af [.cell 4 23,.tmp 5] [0,1] Tryz.func175 Tryz.ntmps175 (fun d=>?_)
 refine jz ?_;refine A2 [0,1,4] ?_;refine Z8 ?_;refine A2 [0,1,4,7] ?_
 refine A3 (fun ht7=>?_) (fun ht7=>?_)
 ·have hw:J8 (n,e)=Dx e:=if_pos ht7
  refine Z2 ?_;refine Z63 ?_;refine Z21 ?_;refine Z52 ?_;exact AN8
 have hw:J8 (n,e)=(⟨1,n,[]⟩,0):=if_neg (by rw [ht7];simp)
 refine Lm ?_;refine Aa Tryz.call221 (AJi _ _) ?_;refine Z87 ?_;exact AN8

theorem mp {vs:List Val} {ks:List Int} (hl:ks.length≤vs.length) {x:Nat} (hk:x<ks.length) (hx:E5 vs ks=E5 (vs.drop x) (ks.drop x)):E5 vs ks=((vs[x].kind==ks[x])&&E5 (vs.drop (x+1)) (ks.drop (x+1))):=by
 rw [hx,L5 hk,L5 (show x<vs.length by omega),E5]
theorem ADy (vs:List Val) (ks:List Int) (hks:ks.length≤vs.length) (hk2:ks.length≤1048576) (Hp:List AObj):AFun Tryz.prog 174 [Cv vs,uu ks] Hp (Bk (E5 vs ks)):=by
 refine Af [.tmp 4] [0,1] Tryz.func174 Tryz.ntmps174 (fun d=>?_)
 refine Z61 ?_;refine Z36 ?_;refine A2 [0,7,8,9] ?_
 refine B7 (α:=Nat) (fun x=>⟨22,A7 0 (Cv vs) (A7 7 (uu ks) (A7 8 (A5 (ks.length:Nat)) (A7 9 (A5 (x:Nat)) (fun _=>.any)))),Hp,[],[],none⟩) (fun x=>x≤ks.length∧E5 vs ks=E5 (vs.drop x) (ks.drop x)) (fun x=>ks.length-x) (0) ⟨Ar _,rfl⟩ (Bo (by simp)) rfl (fun x hx=>?_)
 refine Z2 ?_;refine A2 [0,7,8,9,10] ?_
 refine Dm (fun ht10=>?_) (fun ht10=>?_)
 ·have hlt:x<ks.length:=by simpa using ht10
  have hls:x<vs.length:=by omega
  have hst:=mp hks hlt hx.2
  refine Pl ?_
  refine A4 (h:=Ac (x) (A5 ks[x]) (fun _=>Ax hlt)) (hr:=?_)
  refine Z22 ?_;refine A2 [0,5,6,7,8,9] ?_;refine Z1 ?_
  refine A4 (h:=Ac (x) (C3 vs[x]) (fun _=>Ax hls)) (hr:=?_)
  refine Z89 ?_;refine A2 [0,7,8,9,20] ?_
  refine A3 (fun ht20=>?_) (fun ht20=>?_)
  ·have hm:E5 vs ks=false:=by rw [hst];simp only [bne_iff_ne,ne_eq] at ht20;simp [ht20]
   refine Z86 ?_;exact aa
  have hn:E5 vs ks=E5 (vs.drop (x+1)) (ks.drop (x+1)):=by rw [hst];simp only [bne_eq_false_iff_eq] at ht20;simp [ht20]
  refine Z97 ?_;refine A2 [0,7,8,9] ?_;exact ALq
 have hxe:ks.length≤x:=by simpa using ht10
 have hm:E5 vs ks=true:=by rw [hx.2,ng hxe];cases vs.drop x<;>rfl
 refine Z28 ?_;exact AF0

theorem AR6 (t:Str) (c:Int) (Hp:List AObj):AFun Tryz.prog 217 [Ae t,A5 c] Hp (.tup [Bk (Jb t c).1,Bk (Jb t c).2]):=by
 refine Af [.tmp 4,.tmp 5] [0,1] Tryz.func217 Tryz.ntmps217 (fun d=>?_)
 refine ge ?_;refine Z32 ?_;refine A2 [1,6] ?_;refine Pj ?_;refine A2 [1,6,7] ?_
 refine A3 (fun ht7=>?_) (fun ht7=>?_)
 ·exact wt
 refine Z1 ?_;refine A2 [1,6,11] ?_
 refine A3 (fun ht11=>?_) (fun ht11=>?_)
 ·exact wt
 refine Z1 ?_;refine A2 [1,6,15] ?_
 refine A3 (fun ht15=>?_) (fun ht15=>?_)
 ·exact wt
 refine Z1 ?_;refine A2 [1,6,19] ?_
 refine A3 (fun ht19=>?_) (fun ht19=>?_)
 ·exact wt
 refine Z1 ?_;refine A2 [1,6,23] ?_
 refine A3 (fun ht23=>?_) (fun ht23=>?_)
 ·exact wt
 refine Z1 ?_;refine A2 [1,27] ?_
 refine A3 (fun ht27=>?_) (fun ht27=>?_)
 ·exact wt
 refine ov ?_;refine Z9 ?_;exact AN9

theorem AOj (a b:Int) (Hp:List AObj):AFun Tryz.prog 222 [A5 a,A5 b] Hp (.tup [A5 (Oh a b).1,A5 (Oh a b).2]):=by
 refine Af [.tmp 4,.tmp 5] [0,1] Tryz.func222 Tryz.ntmps222 (fun d=>?_)
 refine ge ?_;refine Z1 ?_
 refine A4 (h:=Q.sub) (hr:=?_)
 refine A4 ?_;refine A2 [0,1,6] ?_;refine Z8 ?_;refine R.xor ?_;refine Z0 ?_;refine R.xor ?_;refine R.and ?_;refine A4 ?_;refine A2 [6,17] ?_
 refine A3 (fun ht17=>?_) (fun ht17=>?_)
 ·have hm:Oh a b=(0,4):=if_pos ht17
  exact AM2
 have hm:Oh a b=(IntKind.i64.wrap (a-b),0):=if_neg (by rw [ht17];simp)
 exact AM9

theorem AR7 (a b:Int) (Hp:List AObj):AFun Tryz.prog 273 [A5 a,A5 b] Hp (.tup [A5 (rg a b).1,A5 (rg a b).2]):=by
 refine Af [.tmp 4,.tmp 5] [0,1] Tryz.func273 Tryz.ntmps273 (fun d=>?_)
 refine ge ?_;refine Z1 ?_
 refine A4 (h:=Q.add) (hr:=?_)
 refine A4 ?_;refine A2 [0,1,6] ?_;refine Z8 ?_;refine R.xor ?_;refine Z0 ?_;refine R.xor ?_;refine R.and ?_;refine A4 ?_;refine A2 [6,17] ?_
 refine A3 (fun ht17=>?_) (fun ht17=>?_)
 ·have hm:rg a b=(0,4):=if_pos ht17
  exact AM2
 have hm:rg a b=(IntKind.i64.wrap (a+b),0):=if_neg (by rw [ht17];simp)
 exact AM9

theorem AR8 (a:Int) (Hp:List AObj):AFun Tryz.prog 176 [A5 a] Hp (.tup [A5 (Oh 0 a).1,A5 (Oh 0 a).2]):=by
 refine Af [.tmp 2,.tmp 3] [0] Tryz.func176 Tryz.ntmps176 (fun d=>?_)
 refine Z1 ?_;refine A2 [0] ?_;refine Z2 ?_;refine Aa Tryz.call222 (AOj _ _ _) ?_;refine Z89 ?_;refine Z51 ?_;exact A8 (Ay A6 A6)

theorem AOk (a:Int) (Hp:List AObj):AFun Tryz.prog 305 [A5 a] Hp (ABt (Vq a)):=by
 refine Af [.tmp 2] [0] Tryz.func305 Tryz.ntmps305 (fun d=>?_)
 refine Z43 ?_;refine Z8 ?_;refine A2 [0,4] ?_
 refine A3 (fun ht4=>?_) (fun ht4=>?_)
 ·have hm:Vq a=IntKind.u64.wrap (0-IntKind.u64.wrap a):=if_pos ht4
  refine Z27 ?_;refine Z3 ?_;exact Z23
 have hm:Vq a=IntKind.u64.wrap a:=if_neg (by rw [ht4];simp)
 refine Z82 ?_;refine Z3 ?_;exact ka

theorem AKi (n:Int):0≤IntKind.u64.wrap n∧IntKind.u64.wrap n<18446744073709551616:=by rw [IntKind.wrap_u64];omega
theorem ADz (a:Int):0≤Vq a∧Vq a<18446744073709551616:=by
 unfold Vq
 split<;>exact AKi _
theorem AR9 (x y:Int) (hx:0≤x∧x<18446744073709551616) (hy:0≤y∧y<18446744073709551616) (Hp:List AObj):AFun Tryz.prog 304 [ABt x,ABt y] Hp (.tup [ABt (x*y / 18446744073709551616),ABt (x*y % 18446744073709551616)]):=by
 obtain ⟨m,rfl⟩:=nb hx.1
 obtain ⟨n,rfl⟩:=nb hy.1
 refine Mz (xs:=[.int .u64 m,.int .u64 n]) (v:=.tuple #[.int .u64 ((m*n / 18446744073709551616:Nat):Int),.int .u64 ((m*n % 18446744073709551616:Nat):Int)]) (fun G w=>O4 rfl (fun i y u hy hu=>?_)) (fun w hg=>?_)
 ·match i with
  | 0=>simp at hy hu;subst hy;subst hu;exact .v _ _
  | 1=>simp at hy hu;subst hy;subst hu;exact .v _ _
  | i+2=>simp at hy
 refine (Any.bits_Mul64 Tryz.lays264 m n (by omega) (by omega) w).mono ?_
 rintro e w' ⟨rfl,rfl⟩
 exact ⟨rfl,Go.RowKit.Below.refl _ _⟩
theorem ARa (s t:Str) (Hp:List AObj):AFun Tryz.prog 272 [Ae s,Ae t] Hp (A5 (Lib.compareBytes s t)):=by
 refine Mz (xs:=[sv s,sv t]) (v:=.int .i64 (Lib.compareBytes s t)) (fun G w=>.v _ _) (fun w hg=>?_)
 refine (Any.strings_Compare Tryz.lays106 ⟨s.toArray⟩ ⟨t.toArray⟩ w).mono ?_
 rintro e w' ⟨rfl,rfl⟩
 exact ⟨rfl,Go.RowKit.Below.refl _ _⟩
theorem ARb (a b:Int) (Hp:List AObj):AFun Tryz.prog 274 [A5 a,A5 b] Hp (.tup [A5 (Zb a b).1,A5 (Zb a b).2]):=by
 refine Af [.tmp 4,.tmp 5] [0,1] Tryz.func274 Tryz.ntmps274 (fun d=>?_)
 refine ge ?_;refine Z2 ?_;refine Aa Tryz.call305 (AOk _ _) ?_;refine A4 ?_;refine Aa Tryz.call305 (AOk _ _) ?_;refine Aa Tryz.call304 (AR9 _ _ (ADz a) (ADz b) _) ?_;refine Z75 ?_;refine A2 [0,1,6,7] ?_;refine Z27 ?_;refine Z0 ?_;refine A2 [6,7,8] ?_;refine Z2 ?_;refine A2 [6,7,8,9] ?_;refine Z32 ?_;refine A2 [6,7,8,9,23] ?_
 refine A3 (fun ht23=>?_) (fun ht23=>?_)
 ·refine Z66 ?_
  refine A4 (h:=Q.add) (hr:=?_)
  refine A4 ?_;refine A2 [6,7,8,9] ?_;refine Fh ?_;refine k7 ?_;refine Z99 ?_;refine A2 [7,8,26] ?_
  refine A3 (fun ht26=>?_) (fun ht26=>?_)
  ·refine Z1 ?_;refine gh ?_
   exact A8 (Ay A6 A6) ⟨by
    have w1:IntKind.u64.wrap 9223372036854775808=9223372036854775808:=rfl
    simp_all [Zb]
    try first|(rw [if_pos ht26];simp;done)|(rw [if_neg (by omega)];simp;done),rfl⟩
  refine Z1 ?_;refine A2 [7,34] ?_
  refine A3 (fun ht34=>?_) (fun ht34=>?_)
  ·refine Z1 ?_;refine Z22 ?_;refine gh ?_
   exact A8 (Ay A6 A6) ⟨by
    have w1:IntKind.u64.wrap 9223372036854775808=9223372036854775808:=rfl
    simp_all [Zb]
    try first|(rw [if_pos ht26];simp;done)|(rw [if_neg (by omega)];simp;done),rfl⟩
  refine Z16 ?_;refine AF5 ?_
  exact A8 (Ay A6 A6) ⟨by
   have w1:IntKind.u64.wrap 9223372036854775808=9223372036854775808:=rfl
   simp_all [Zb]
   try first|(rw [if_pos ht26];simp;done)|(rw [if_neg (by omega)];simp;done),rfl⟩
 refine ai ?_;refine Z99 ?_;refine A2 [7,8,26] ?_
 refine A3 (fun ht26=>?_) (fun ht26=>?_)
 ·refine Z1 ?_;refine gh ?_
  exact A8 (Ay A6 A6) ⟨by
   have w1:IntKind.u64.wrap 9223372036854775808=9223372036854775808:=rfl
   simp_all [Zb]
   try first|(rw [if_pos ht26];simp;done)|(rw [if_neg (by omega)];simp;done),rfl⟩
 refine Z1 ?_;refine A2 [7,34] ?_
 refine A3 (fun ht34=>?_) (fun ht34=>?_)
 ·refine Z1 ?_;refine Z22 ?_;refine gh ?_
  exact A8 (Ay A6 A6) ⟨by
   have w1:IntKind.u64.wrap 9223372036854775808=9223372036854775808:=rfl
   simp_all [Zb]
   try first|(rw [if_pos ht26];simp;done)|(rw [if_neg (by omega)];simp;done),rfl⟩
 refine Z16 ?_;refine AF5 ?_
 exact A8 (Ay A6 A6) ⟨by
  have w1:IntKind.u64.wrap 9223372036854775808=9223372036854775808:=rfl
  simp_all [Zb]
  try first|(rw [if_pos ht26];simp;done)|(rw [if_neg (by omega)];simp;done),rfl⟩

theorem ARc (a b:Int) (Hp:List AObj):AFun Tryz.prog 275 [A5 a,A5 b] Hp (.tup [A5 (rh a b).1,A5 (rh a b).2]):=by
 refine Af [.tmp 4,.tmp 5] [0,1] Tryz.func275 Tryz.ntmps275 (fun d=>?_)
 refine ge ?_;refine k7 ?_;refine A2 [0,1,6] ?_
 refine A3 (fun ht6=>?_) (fun ht6=>?_)
 ·refine Z1 ?_;exact ALr
 refine Z17 ?_;refine ae ?_;refine A2 [0,1,9] ?_
 refine A3 (fun ht9=>?_) (fun ht9=>?_)
 ·refine Z1 ?_;exact ALr
 refine ov ?_
 refine A4 (h:=Q.quo (h0:=fun _=>by simpa using ht6)) (hr:=?_)
 refine Z0 ?_;refine Z9 ?_;exact A8 (Ay A6 A6) ⟨by simp_all [rh]<;>(rw [if_neg (by rintro ⟨rfl,rfl⟩;simp_all)];exact ⟨rfl,rfl⟩),rfl⟩

theorem zc {a b:Int} (ha : -9223372036854775808≤a∧a≤9223372036854775807):IntKind.i64.wrap (a.tmod b)=a.tmod b:=by
 have h1:(a.tmod b).natAbs≤a.natAbs:=by rw [Int.natAbs_tmod];exact Nat.mod_le _ _
 rw [IntKind.wrap_i64]
 rcases Int.le_total 0 a with h|h
 ·have:=Int.tmod_nonneg b h
  omega
 have h2:=Int.tmod_nonneg b (show 0 ≤ -a by omega)
 rw [Int.neg_tmod] at h2
 omega
theorem ARd (a b:Int) (ha : -9223372036854775808≤a∧a≤9223372036854775807) (Hp:List AObj):AFun Tryz.prog 276 [A5 a,A5 b] Hp (.tup [A5 (b8 a b).1,A5 (b8 a b).2]):=by
 refine Af [.tmp 4,.tmp 5] [0,1] Tryz.func276 Tryz.ntmps276 (fun d=>?_)
 refine ge ?_;refine Z32 ?_;refine A2 [0,1,6] ?_;refine Pj ?_;refine A2 [0,1,6,7] ?_
 refine A3 (fun ht7=>?_) (fun ht7=>?_)
 ·have hm:b8 a b=(0,5):=if_pos ht7
  refine Z1 ?_;exact AM3
 refine Z1 ?_;refine A2 [0,1,9] ?_
 refine A3 (fun ht9=>?_) (fun ht9=>?_)
 ·have hm:b8 a b=(0,0):=by unfold b8;rw [if_neg (by rw [ht7];simp),if_pos ht9]
  refine Z1 ?_;exact AM3
 have hm:b8 a b=(a.tmod b,0):=by unfold b8;rw [if_neg (by rw [ht7];simp),if_neg (by rw [ht9];simp),zc ha]
 refine ov ?_
 refine A4 (h:=Q.rem (h0:=fun _=>by simpa using ht7)) (hr:=?_)
 refine Z0 ?_;refine Z9 ?_;exact AFu

theorem AOl (a:Int) (Hp:List AObj):AFun Tryz.prog 301 [A5 a] Hp (Bk false):=by
 refine Af [.tmp 2] [0] Tryz.func301 Tryz.ntmps301 (fun d=>?_)
 refine Z43 ?_;refine Z27 ?_;exact AMl

theorem AOm (a:Int) (Hp:List AObj):AFun Tryz.prog 302 [A5 a] Hp (Bk false):=by
 refine Af [.tmp 2] [0] Tryz.func302 Tryz.ntmps302 (fun d=>?_)
 refine Z43 ?_;refine Z27 ?_;exact AMl

theorem ARe (a b:Int) (Hp:List AObj):AFun Tryz.prog 270 [A5 a,A5 b] Hp (A5 (Ox a b)):=by
 refine Af [.tmp 4] [0,1] Tryz.func270 Tryz.ntmps270 (fun d=>?_)
 refine Z61 ?_;refine Z2 ?_;refine Aa Tryz.call301 (AOl _ _) ?_;refine A4 ?_;refine A2 [0,1,5] ?_;refine Z2 ?_;refine Aa Tryz.call301 (AOl _ _) ?_;refine A4 ?_;refine A2 [0,1,5,6] ?_;refine Z32 ?_;refine A2 [0,1,6,11] ?_
 refine A3 (fun ht11=>?_) (fun ht11=>?_)
 ·cases ht11
 refine Rm ?_;refine A2 [0,1,13] ?_
 refine A3 (fun ht13=>?_) (fun ht13=>?_)
 ·cases ht13
 refine ak ?_;refine A2 [0,1,16] ?_
 refine A3 (fun ht16=>?_) (fun ht16=>?_)
 ·have hm:Ox a b = -1:=if_pos ht16
  exact wu
 refine ak ?_;refine A2 [19] ?_
 refine A3 (fun ht19=>?_) (fun ht19=>?_)
 ·have hm:Ox a b=1:=by unfold Ox;rw [if_neg (by rw [ht16];simp),if_pos ht19]
  exact wu
 have hm:Ox a b=0:=by unfold Ox;rw [if_neg (by rw [ht16];simp),if_neg (by rw [ht19];simp)]
 refine Z5 ?_;exact AF0

theorem ARf (a b:Int) (Hp:List AObj):AFun Tryz.prog 271 [A5 a,A5 b] Hp (A5 (Ox a b)):=by
 refine Af [.tmp 4] [0,1] Tryz.func271 Tryz.ntmps271 (fun d=>?_)
 refine Z61 ?_;refine Z2 ?_;refine Aa Tryz.call302 (AOm _ _) ?_;refine A4 ?_;refine A2 [0,1,5] ?_;refine Z2 ?_;refine Aa Tryz.call302 (AOm _ _) ?_;refine A4 ?_;refine A2 [0,1,5,6] ?_;refine Z32 ?_;refine A2 [0,1,6,11] ?_
 refine A3 (fun ht11=>?_) (fun ht11=>?_)
 ·cases ht11
 refine Rm ?_;refine A2 [0,1,13] ?_
 refine A3 (fun ht13=>?_) (fun ht13=>?_)
 ·cases ht13
 refine ak ?_;refine A2 [0,1,16] ?_
 refine A3 (fun ht16=>?_) (fun ht16=>?_)
 ·have hm:Ox a b = -1:=if_pos ht16
  exact wu
 refine ak ?_;refine A2 [19] ?_
 refine A3 (fun ht19=>?_) (fun ht19=>?_)
 ·have hm:Ox a b=1:=by unfold Ox;rw [if_neg (by rw [ht16];simp),if_pos ht19]
  exact wu
 have hm:Ox a b=0:=by unfold Ox;rw [if_neg (by rw [ht16];simp),if_neg (by rw [ht19];simp)]
 refine Z5 ?_;exact AF0

theorem AE0 {l:List Int} {x:Nat} (h:x<l.length) (hx:orI l=orI (l.drop x)):orI l=if l[x] != 0 then l[x] else orI (l.drop (x+1)):=by rw [hx,L5 h,orI]
theorem ARg (l:List Int) (hl:l.length≤1048576) (Hp:List AObj):AFun Tryz.prog 269 [uu l] Hp (A5 (orI l)):=by
 refine Af [.tmp 2] [0] Tryz.func269 Tryz.ntmps269 (fun d=>?_)
 refine Z43 ?_;refine Z2 ?_;refine Ln ?_;refine Z36 ?_;refine A2 [3,6,7,8] ?_
 refine B7 (α:=Nat) (fun x=>⟨18,A7 3 (A5 0) (A7 6 (uu l) (A7 7 (A5 (l.length:Nat)) (A7 8 (A5 (x:Nat)) (fun _=>.any)))),Hp,[],[],none⟩) (fun x=>x≤l.length∧orI l=orI (l.drop x)) (fun x=>l.length-x) (0) ⟨Ar _,rfl⟩ (Bo (by simp)) rfl (fun x hx=>?_)
 refine Z2 ?_;refine A2 [3,6,7,8,9] ?_
 refine Dm (fun ht9=>?_) (fun ht9=>?_)
 ·have hlt:x<l.length:=by simpa using ht9
  have hst:=AE0 hlt hx.2
  refine Qr ?_
  refine A4 (h:=Ac (x) (A5 l[x]) (fun _=>Ax hlt)) (hr:=?_)
  refine Z0 ?_;refine A2 [3,5,6,7,8] ?_;refine Z17 ?_;refine A2 [3,5,6,7,8,14] ?_
  refine A3 (fun ht14=>?_) (fun ht14=>?_)
  ·have hm:orI l=l[x]:=by rw [hst,if_pos ht14]
   refine gj ?_;exact aa
  have hn:orI l=orI (l.drop (x+1)):=by rw [hst,if_neg (by rw [ht14];simp)]
  refine Z97 ?_;refine A2 [3,6,7,8] ?_;exact ALq
 have hxe:l.length≤x:=by simpa using ht9
 have hm:orI l=0:=by rw [hx.2,ng hxe];rfl
 refine Z28 ?_;refine gj ?_;exact ka

theorem ARh (a b:Val) (Hp:List AObj):AFun Tryz.prog 218 [C3 a,C3 b] Hp (A5 (md a b)):=by
 refine Af [.tmp 4] [0,1] Tryz.func218 Tryz.ntmps218 (fun d=>?_)
 refine Z17 ?_;refine Lo ?_;refine Z32 ?_;refine Aa Tryz.call37 (c37 a _) ?_;refine Qx ?_;refine Bt Tryz.call37 (fun hB=>c37 b _) ?_;refine Qu ?_;refine A2 [2,3,12] ?_
 refine A3 (fun ht12=>?_) (fun ht12=>?_)
 ·have hm:md a b=0:=if_pos ht12
  exact wu
 have hm:md a b=orI [Ox a.kind b.kind,Ox a.n b.n,Lib.compareBytes a.s b.s]:=if_neg (by rw [ht12];simp)
 refine Z5 ?_;refine De [0,1,0,4,15,0,32,0,128,511,0,1024,0,4096,16383,32767,65535,131071] 14 An (by kernel_rfl) ?_;refine Z84 ?_;refine E1 Tryz.call270 (ARe _ _ _) ?_;refine Z84 ?_;refine E1 Tryz.call271 (ARf _ _ _) ?_;refine Z84 ?_;refine Ey ?_;refine Aa Tryz.call272 (ARa _ _ _) ?_;refine Pn ?_;refine Aa Tryz.call269 (ARg [Ox a.kind b.kind,Ox a.n b.n,Lib.compareBytes a.s b.s] (by simp) _) ?_;refine A4 ?_;refine Z26 ?_;exact ka

theorem ARi (t:Str) (a b:Int) (ha : -9223372036854775808≤a∧a≤9223372036854775807) (Hp:List AObj):AFun Tryz.prog 220 [Ae t,A5 a,A5 b] Hp (V0 (J8 (Kn t a b))):=by
 refine Af [.cell 6 23,.tmp 7] [0,1,2] Tryz.func220 Tryz.ntmps220 (fun d=>?_)
 refine jz ?_;refine A2 [0,1,2,6] ?_;refine Z32 ?_;refine A2 [1,2,6,8] ?_;refine Pj ?_;refine A2 [1,2,6,8,9] ?_
 refine A3 (fun ht9=>?_) (fun ht9=>?_)
 ·refine Z1 ?_;refine Aa Tryz.call273 (AR7 _ _ _) ?_;exact AFe
 refine Z1 ?_;refine A2 [1,2,6,8,19] ?_
 refine A3 (fun ht19=>?_) (fun ht19=>?_)
 ·refine Z1 ?_;refine Aa Tryz.call222 (AOj _ _ _) ?_;exact AFe
 refine Z1 ?_;refine A2 [1,2,6,8,29] ?_
 refine A3 (fun ht29=>?_) (fun ht29=>?_)
 ·refine Z1 ?_;refine Aa Tryz.call274 (ARb _ _ _) ?_;exact AFe
 refine Z1 ?_;refine A2 [1,2,6,39] ?_
 refine A3 (fun ht39=>?_) (fun ht39=>?_)
 ·refine Z1 ?_;refine Aa Tryz.call275 (ARc _ _ _) ?_;exact AFe
 refine ov ?_;refine Aa Tryz.call276 (ARd _ _ ha _) ?_;refine AF8 ?_;refine gc ?_;exact ANa

theorem ARj (a b:Val) (fa:Fine a) (fb:Fine b) (Hp:List AObj):AFun Tryz.prog 219 [.slice false 3 [C3 a,C3 b]] Hp (V0 (Q0 a b)):=by
 refine Af [.cell 2 23,.tmp 3] [0] Tryz.func219 Tryz.ntmps219 (fun d=>?_)
 refine jz ?_;refine A2 [0,2] ?_;refine Pl ?_;refine g0 jU jS jZ ?_;refine Aa Tryz.call174 (ADy [a,b] [2,2] (by simp) (by simp) _) ?_;refine Z0 ?_;refine A2 [0,2,4] ?_
 refine A3 (fun ht4=>?_) (fun ht4=>?_)
 ·have hm:Q0 a b=Dx 10:=if_pos ht4
  refine af ?_;refine W8 ?_;exact Z24
 have hla:=fa.len
 have hlb:=fb.len
 refine De [0,1,3,7,15,0,32,96,224,480,1023,2047,4095] 10 An (by kernel_rfl) ?_;refine Al ?_
 refine Al (h:=Ac (0) (C3 a) (fun _=>show ([C3 a,C3 b]:List AV)[0]? = some (C3 a) from rfl)) (hr:=?_)
 refine Z84 ?_
 refine Al (h:=Ac (1) (C3 b) (fun _=>show ([C3 a,C3 b]:List AV)[1]? = some (C3 b) from rfl)) (hr:=?_)
 refine Z40 ?_;refine Ey ?_
 refine A4 (h:=Q.add64 (h1:=fun _=>by omega) (h2:=fun _=>by omega)) (hr:=?_)
 refine Z0 ?_;refine A2 [0,2,12] ?_
 refine A3 (fun ht12=>?_) (fun ht12=>?_)
 ·have hm:Q0 a b=Dx 3:=by unfold Q0;rw [if_neg (by rw [ht4];simp),if_pos ht12]
  refine af ?_;refine W8 ?_;exact Z24
 have hm:Q0 a b=(b7 (a.s++b.s),0):=by unfold Q0;rw [if_neg (by rw [ht4];simp),if_neg (by rw [ht12];simp)]
 refine Z16 ?_;refine De [0,1,3,7,0,16,48,112,255,511,1023,2047] 8 An (by kernel_rfl) ?_;refine Al ?_
 refine Al (h:=Ac (0) (C3 a) (fun _=>show ([C3 a,C3 b]:List AV)[0]? = some (C3 a) from rfl)) (hr:=?_)
 refine Z40 ?_
 refine Al (h:=Ac (1) (C3 b) (fun _=>show ([C3 a,C3 b]:List AV)[1]? = some (C3 b) from rfl)) (hr:=?_)
 refine Qt ?_
 refine A4 (h:=Q.sadd (hl:=fun _=>by omega)) (hr:=?_)
 refine Aa Tryz.call223 (xj _ _) ?_;refine W8 ?_;exact ABo

theorem c173 (t:Str) (a b:Val) (fa:Fine a) (fb:Fine b) (Hp:List AObj):AFun Tryz.prog 173 [Ae t,.slice false 3 [C3 a,C3 b]] Hp (V0 (Nv t a b)):=by
 refine Af [.cell 4 23,.tmp 5] [0,1] Tryz.func173 Tryz.ntmps173 (fun d=>?_)
 refine jz ?_;refine A2 [0,1,4] ?_;refine Ma ?_;refine De [0,0,2,6,0,16,48,126,255,511,1023,1023,2047,8191] 13 An (by kernel_rfl) ?_;refine Z11 ?_
 refine Al (h:=Ac (0) (C3 a) (fun _=>show ([C3 a,C3 b]:List AV)[0]? = some (C3 a) from rfl)) (hr:=?_)
 refine Z11 ?_
 refine Al (h:=Ac (1) (C3 b) (fun _=>show ([C3 a,C3 b]:List AV)[1]? = some (C3 b) from rfl)) (hr:=?_)
 refine Al ?_;refine E1 Tryz.call218 (ARh _ _ _) ?_;refine E1 Tryz.call217 (AR6 _ _ _) ?_;refine Z84 ?_;refine jv ?_;refine A2 [0,1,4,6,7] ?_;refine Z2 ?_;refine A2 [0,1,4,6,20] ?_
 refine A3 (fun ht20=>?_) (fun ht20=>?_)
 ·refine Ma ?_;refine De [0,1,3,7,0,16,48,112,255] 8 An (by kernel_rfl) ?_;refine Al ?_
  refine Al (h:=Ac (0) (C3 a) (fun _=>show ([C3 a,C3 b]:List AV)[0]? = some (C3 a) from rfl)) (hr:=?_)
  refine Z40 ?_
  refine Al (h:=Ac (1) (C3 b) (fun _=>show ([C3 a,C3 b]:List AV)[1]? = some (C3 b) from rfl)) (hr:=?_)
  refine Qt ?_;refine A4 ?_;refine A2 [4,6,29] ?_
  refine A3 (fun ht29=>?_) (fun ht29=>?_)
  ·have hm:Nv t a b=Dx 10:=by unfold Nv;rw [if_pos ht20,if_pos ht29]
   refine af ?_;refine Z21 ?_;refine Z52 ?_;exact Z37
  have hm:Nv t a b=(K1 (Jb t (md a b)).1,0):=by unfold Nv;rw [if_pos ht20,if_neg (by rw [ht29];simp)]
  refine Lm ?_;refine Aa Tryz.call88 (c88 _ _) ?_;exact wv
 refine Z5 ?_;refine Z8 ?_;refine A2 [0,1,4,36] ?_
 refine A3 (fun ht36=>?_) (fun ht36=>?_)
 ·have hm:Nv t a b=Q0 a b:=by unfold Nv;rw [if_neg (by rw [ht20];simp),if_pos ht36]
  refine Z2 ?_;refine Aa Tryz.call219 (ARj a b fa fb _) ?_;refine Z0 ?_;exact wv
 refine Rm ?_;refine g0 jU jS jZ ?_;refine Aa Tryz.call174 (ADy [a,b] [1,1] (by simp) (by simp) _) ?_;refine A4 ?_;refine A2 [0,1,4,44] ?_
 refine A3 (fun ht44=>?_) (fun ht44=>?_)
 ·have hm:Nv t a b=Dx 10:=by unfold Nv;rw [if_neg (by rw [ht20];simp),if_neg (by rw [ht36];simp),if_pos ht44]
  refine af ?_;exact wv
 have hm:Nv t a b=J8 (Kn t a.n b.n):=by unfold Nv;rw [if_neg (by rw [ht20];simp),if_neg (by rw [ht36];simp),if_neg (by rw [ht44];simp)]
 refine Z5 ?_;refine De [0,0,2,6,14,0,32,96,224,511,1023,1023,4095,8191] 12 An (by kernel_rfl) ?_;refine Z11 ?_
 refine Al (h:=Ac (0) (C3 a) (fun _=>show ([C3 a,C3 b]:List AV)[0]? = some (C3 a) from rfl)) (hr:=?_)
 refine Z40 ?_
 refine Al (h:=Ac (1) (C3 b) (fun _=>show ([C3 a,C3 b]:List AV)[1]? = some (C3 b) from rfl)) (hr:=?_)
 refine Z11 ?_;refine E1 Tryz.call220 (ARi _ _ _ ⟨fa.lo,fa.hi⟩ _) ?_;refine Qt ?_;exact oe

theorem AKj (s:Str) (n:Int):∃k:Nat,(if (0:Int)<(if (s.length:Int)<n then (s.length:Int) else n) then (if (s.length:Int)<n then (s.length:Int) else n) else 0)=(k:Int)∧k≤s.length∧k=(max 0 (min n s.length)).toNat:=by
 refine ⟨(max 0 (min n s.length)).toNat,?_,?_,rfl⟩<;>repeat' split
 all_goals omega
theorem ARk (t s:Str) (n:Int) (hs:s.length≤1048576) (Hp:List AObj):AFun Tryz.prog 178 [Ae t,Ae s,A5 n] Hp (C3 (Q3 t s n)):=by
 refine Af [.cell 6 23] [0,1,2] Tryz.func178 Tryz.ntmps178 (fun d=>?_)
 refine AFb ?_;refine Z17 ?_;refine R.minI ?_;refine R.maxI ?_
 obtain ⟨k,hk,hks,hke⟩:=AKj s n
 simp only [hk]
 refine A4 ?_;refine A2 [0,1,6,7] ?_;refine Z8 ?_;refine A2 [1,6,7,14] ?_
 refine A3 (fun ht14=>?_) (fun ht14=>?_)
 ·have hm:Q3 t s n=b7 (s.take k):=by unfold Q3;rw [if_pos ht14,←hke]
  refine Z1 ?_
  refine A4 (h:=M8 k (fun _=>Ar _) (fun _=>hks)) (hr:=?_)
  refine Aa Tryz.call223 (xj _ _) ?_;refine ob ?_;refine C4 ?_;exact ANb
 have hm:Q3 t s n=b7 (s.drop (s.length-k)):=by unfold Q3;rw [if_neg (by rw [ht14];simp),←hke]
 refine Z5 ?_;refine Z27 ?_
 refine A4 (h:=Q.sub64 (h1:=fun _=>by omega) (h2:=fun _=>by omega)) (hr:=?_)
 refine A4 (h:=Q.scutL (s.length-k) (fun _=>show s.length-k≤s.length by omega) (fun _=>Ak _)) (hr:=?_)
 refine Aa Tryz.call223 (xj _ _) ?_;refine ob ?_;exact ANb

theorem ARl (t:Str) (v:Val) (h:Fine v) (Hp:List AObj):AFun Tryz.prog 177 [Ae t,C3 v] Hp (V0 (K5 t v)):=by
 have hlen:=h.len
 refine Af [.cell 4 23,.tmp 5] [0,1] Tryz.func177 Tryz.ntmps177 (fun d=>?_)
 refine Z2 ?_;refine Z73 ?_;refine al ?_;refine k7 ?_;refine Z99 ?_;refine A2 [0,3,4,6] ?_
 refine A3 (fun ht6=>?_) (fun ht6=>?_)
 ·have hm:K5 t v=(b7 (Lib.itoa v.n),0):=if_pos ht6
  refine Z1 ?_;refine Aa Tryz.call160 (ANo _ h.lo h.hi _) ?_;refine Aa Tryz.call223 (xj _ _) ?_;exact Pk
 refine Z17 ?_;refine Z99 ?_;refine A2 [0,3,4,18] ?_
 refine A3 (fun ht18=>?_) (fun ht18=>?_)
 ·have hm:K5 t v=(⟨1,v.s.length,[]⟩,0):=by unfold K5;rw [if_neg (by rw [ht6];simp),if_pos ht18]
  refine Z17 ?_;refine Aa Tryz.call221 (AJi _ _) ?_;exact Pk
 refine Z17 ?_;refine Z99 ?_;refine A2 [3,4,30] ?_
 refine A3 (fun ht30=>?_) (fun ht30=>?_)
 ·have hm:K5 t v=J8 (D5 v.s):=by unfold K5;rw [if_neg (by rw [ht6];simp),if_neg (by rw [ht18];simp),if_pos ht30]
  refine Z1 ?_;refine Aa Tryz.call224 (ANn v.s (by omega) _) ?_;refine AF8 ?_;exact Pk
 have hm:K5 t v=Dx 10:=by unfold K5;rw [if_neg (by rw [ht6];simp),if_neg (by rw [ht18];simp),if_neg (by rw [ht30];simp)]
 refine Z16 ?_;refine af ?_;exact oe

theorem AHl {vs:List Val} (h:0<vs.length):vs.getD 0 noV=vs[0]:=by rw [C9,Ab h];rfl
/-- As many values as a node asks for. -/
structure ArgsOk (o:Int) (vs:List Val):Prop where
 two:o=5→∃a b,vs=[a,b]
 one:o=3∨o=4→vs.length=1
 call:o=6→vs.length=1∨∃a b,vs=[a,b]
 fine:∀v∈vs,Fine v
theorem ARm (e:Expr) (vs:List Val) (h:ArgsOk e.op vs) (Hp:List AObj):AFun Tryz.prog 137 [A9 e,Cv vs] Hp (V0 (B9 e.op e.text vs)):=by
 refine Af [.cell 4 23,.tmp 5] [0,1] Tryz.func137 Tryz.ntmps137 (fun d=>?_)
 refine Z2 ?_;refine Z73 ?_;refine A2 [1,2,4] ?_;refine Z18 ?_;refine Z27 ?_;refine A2 [1,2,4,6] ?_
 refine A3 (fun ht6=>?_) (fun ht6=>?_)
 ·obtain ⟨a,b,rfl⟩:=h.two (by simpa using ht6)
  have hm:B9 e.op e.text [a,b]=Nv e.text a b:=if_pos ht6
  refine Z17 ?_;refine Aa Tryz.call173 (c173 e.text a b (h.fine a (by simp)) (h.fine b (by simp)) _) ?_;refine Z0 ?_;exact Pk
 refine oi ?_;refine G.buildSl jU jS jZ ?_
 refine Bt Tryz.call174 (C:=((e.op==3)==true)) (fun hB=>ADy vs [1] (by have:=h.one (.inl (by simpa using hB));simp [this]) (by simp) _) ?_
 refine Z0 ?_;refine A2 [1,2,4,16] ?_
 refine A3 (fun ht16=>?_) (fun ht16=>?_)
 ·have hm0:((e.op==3)&&E5 vs [1])=true:=ht16
  have hop:e.op=3:=by simp only [As,beq_iff_eq] at hm0;exact hm0.1
  have hln:=h.one (.inl hop)
  have hg0:(vs.map C3)[0]? = some (C3 (vs.getD 0 noV)):=by rw [AHl (by omega)];exact Ax (by omega)
  have hm:B9 e.op e.text vs=J8 (Oh 0 (vs.getD 0 noV).n):=by unfold B9;rw [if_neg (by rw [ht6];simp),if_pos ht16]
  refine Z2 ?_
  refine A4 (h:=Ac (0) (C3 (vs.getD 0 noV)) (fun _=>hg0)) (hr:=?_)
  refine Z0 ?_;refine Aa Tryz.call176 (AR8 _ _) ?_;refine AF8 ?_;exact Pk
 refine oi ?_;refine G.buildSl jU jS jZ ?_
 refine Bt Tryz.call174 (C:=((e.op==4)==true)) (fun hB=>ADy vs [3] (by have:=h.one (.inr (by simpa using hB));simp [this]) (by simp) _) ?_
 refine Z0 ?_;refine A2 [1,2,4,35] ?_
 refine A3 (fun ht35=>?_) (fun ht35=>?_)
 ·have hm0:((e.op==4)&&E5 vs [3])=true:=ht35
  have hop:e.op=4:=by simp only [As,beq_iff_eq] at hm0;exact hm0.1
  have hln:=h.one (.inr hop)
  have hg0:(vs.map C3)[0]? = some (C3 (vs.getD 0 noV)):=by rw [AHl (by omega)];exact Ax (by omega)
  have hm:B9 e.op e.text vs=(K1 ((vs.getD 0 noV).n==0),0):=by unfold B9;rw [if_neg (by rw [ht6];simp),if_neg (by rw [ht16];simp),if_pos ht35]
  refine Z2 ?_
  refine A4 (h:=Ac (0) (C3 (vs.getD 0 noV)) (fun _=>hg0)) (hr:=?_)
  refine Z22 ?_;refine Aa Tryz.call88 (c88 _ _) ?_;exact Pk
 refine Z27 ?_;refine A2 [1,2,4,50] ?_
 refine A3 (fun ht50=>?_) (fun ht50=>?_)
 ·have hm:B9 e.op e.text vs=Dx 10:=by unfold B9;rw [if_neg (by rw [ht6];simp),if_neg (by rw [ht16];simp),if_neg (by rw [ht35];simp),if_pos ht50]
  refine af ?_;exact Pk
 have hop:e.op=6:=by simpa using ht50
 have hcl:=h.call hop
 refine Z27 ?_;refine A2 [1,2,4,57] ?_
 refine A3 (fun ht57=>?_) (fun ht57=>?_)
 ·rw [Aj] at ht57
  have hln:vs.length=1:=by have:=ht57;simp only [beq_iff_eq] at this;omega
  have hg0:(vs.map C3)[0]? = some (C3 (vs.getD 0 noV)):=by rw [AHl (by omega)];exact Ax (by omega)
  have hf0:Fine (vs.getD 0 noV):=by rw [AHl (by omega)];exact h.fine _ (B1 _)
  have hm:B9 e.op e.text vs=K5 e.text (vs.getD 0 noV):=by unfold B9;rw [if_neg (by rw [ht6];simp),if_neg (by rw [ht16];simp),if_neg (by rw [ht35];simp),if_neg (by rw [ht50];simp),if_pos ht57]
  refine De [0,1,0,4,12,31,63,63,255,511] 8 An (by kernel_rfl) ?_;refine Z40 ?_
  refine Al (h:=Ac (0) (C3 (vs.getD 0 noV)) (fun _=>hg0)) (hr:=?_)
  refine Al ?_;refine E1 Tryz.call177 (ARl _ _ hf0 _) ?_;refine Qt ?_;exact Pk
 rw [Aj] at ht57
 obtain ⟨a,b,rfl⟩:∃a b,vs=[a,b]:=by
  rcases hcl with h1|h1
  ·exfalso
   have:=ht57
   rw [h1] at this
   simp at this
  exact h1
 refine Z2 ?_;refine g0 jU jS jZ ?_;refine Aa Tryz.call174 (ADy [a,b] [2,1] (by simp) (by simp) _) ?_;refine Z0 ?_;refine A2 [1,2,4,69] ?_
 refine A3 (fun ht69=>?_) (fun ht69=>?_)
 ·have hm:B9 e.op e.text [a,b]=Dx 10:=by unfold B9;rw [if_neg (by rw [ht6];simp),if_neg (by rw [ht16];simp),if_neg (by rw [ht35];simp),if_neg (by rw [ht50];simp),if_neg (by rw [ht57];simp),if_pos ht69]
  refine af ?_;exact Pk
 have hm:B9 e.op e.text [a,b]=(Q3 e.text a.s b.n,0):=by unfold B9;rw [if_neg (by rw [ht6];simp),if_neg (by rw [ht16];simp),if_neg (by rw [ht35];simp),if_neg (by rw [ht50];simp),if_neg (by rw [ht57];simp),if_neg (by rw [ht69];simp)];rfl
 refine Z16 ?_;refine De [0,1,0,4,12,28,0,64,192,448,1023,2047,4095] 10 An (by kernel_rfl) ?_;refine Z40 ?_
 refine Al (h:=Ac (0) (C3 a) (fun _=>show ([C3 a,C3 b]:List AV)[0]? = some (C3 a) from rfl)) (hr:=?_)
 refine Z40 ?_
 refine Al (h:=Ac (1) (C3 b) (fun _=>show ([C3 a,C3 b]:List AV)[1]? = some (C3 b) from rfl)) (hr:=?_)
 refine Qt ?_
 refine Aa Tryz.call178 (ARk e.text a.s b.n (by have:=(h.fine a (by simp)).len;omega) _) ?_
 exact oe

theorem Qq (a b:Val):((a.kind==b.kind&&a.n==b.n)&&a.s==b.s)=(a==b):=by
 obtain ⟨k,n,s⟩:=a
 obtain ⟨k',n',s'⟩:=b
 by_cases h:(⟨k,n,s⟩:Val)=⟨k',n',s'⟩
 ·injection h with h1 h2 h3
  subst h1;subst h2;subst h3
  simp
 have:((⟨k,n,s⟩:Val)==⟨k',n',s'⟩)=false:=by simpa using h
 rw [this]
 simp only [AAa,beq_eq_false_iff_ne]
 by_cases h1:k=k'
 ·by_cases h2:n=n'
  ·right
   rintro rfl
   exact h (by rw [h1,h2])
  exact .inl (.inr h2)
 exact .inl (.inl h1)
/-- What eval answers for a tree, over any heap. -/
abbrev Lt (c:List Col) (l:List Val) (e:Expr) (r:Rs):Prop:=∀Hp,AFun Tryz.prog 44 [Zo c l,A9 e] Hp (V0 r)
theorem AOn (c:List Col) (l:List Val) (x:Expr) (r:Rs) (h:Lt c l x r) (Hp:List AObj):AFun Tryz.prog 136 [Zo c l,A9 x] Hp (V0 (Bj r)):=by
 refine Af [.cell 4 23,.tmp 5] [0,1] Tryz.func136 Tryz.ntmps136 (fun d=>?_)
 refine Z1 ?_;refine AFn ?_;refine Z1 ?_;refine Aa Tryz.call44 (h _) ?_;refine Xj ?_;refine A2 [4,6,7] ?_;refine Z36 ?_;refine Z99 ?_;refine Sr ?_;refine A2 [4,6,7,25] ?_
 refine A3 (fun ht25=>?_) (fun ht25=>?_)
 ·have hm:Bj r=Dx 10:=if_pos ht25
  refine af ?_;exact wv
 have hm:Bj r=r:=if_neg (by rw [ht25];simp)
 refine Ro ?_;exact oe

theorem c87 (c:List Col) (l:List Val) (x k0 k1:Expr) (s:Val) (ra rb:Rs) (h0:(x.kids.map A9)[0]? = some (A9 k0)) (h1:(x.kids.map A9)[1]? = some (A9 k1)) (ha:Lt c l k0 ra) (hb:Lt c l k1 rb) (Hp:List AObj):AFun Tryz.prog 87 [Zo c l,A9 x,C3 s] Hp (V0 (Jv s ra rb)):=by
 refine Af [.cell 6 23,.tmp 7] [0,1,2] Tryz.func87 Tryz.ntmps87 (fun d=>?_)
 refine Z17 ?_;refine Z73 ?_;refine A2 [3,4,5,6] ?_;refine Ip [0,0,2,6,14,31,63,127,127,0,767,2047] [9,10] [.q 9 [] [],.s [8] (some 0) [] [1],.s [] (some 1) [0] []] (fun _=>Hp) (fun B=>if B 0=true then [.cells 23 [A5 0,A5 0,Ae []],(if B 1=true then .cells 23 [A5 (Bj ra).1.kind,A5 (Bj ra).1.n,Ae (Bj ra).1.s] else .cells 23 [A5 0,A5 0,Ae []]:AObj)] else [.cells 23 [A5 0,A5 0,Ae []]]) An (by kernel_rfl) rfl rfl (fun _=>rfl) ?_
 apply Y.q
 ·intro B hT hF
  refine Z40 ?_
  refine Al (h:=Ac (0) (A9 k0) (fun _=>h0)) (hr:=?_)
  refine Al ?_;exact AMf
 case hTF=>decide
 refine Z77 ?_;refine ALa ?_;refine A2 [3,4,5,6,8,9] ?_;refine Z36 ?_;refine Z7 ?_
 refine Bi (h:=X9 Xo (fun w=>Jl (Bj ra).1.kind (Bj ra).1.n s.kind s.n (Bj ra).1.s s.s w)) (hr:=?_)
 refine A4 ?_;refine A2 [3,4,5,6,8,9,26] ?_
 refine A3 (fun ht26=>?_) (fun ht26=>?_)
 ·rw [Qq] at ht26
  have hm:Jv s ra rb=Bj ra:=if_pos ht26
  refine Z1 ?_;refine gc ?_;exact Z37
 rw [Qq] at ht26
 refine Z5 ?_;refine Ip [0,0,2,6,14,31,63,127,127,0,767,2047] [9,10] [.q 9 [] [],.s [10] (some 0) [] [1],.s [] (some 1) [0] []] (fun _=>Hp) (fun B=>if B 0=true then [.cells 23 [A5 0,A5 0,Ae []],.cells 23 [A5 (Bj ra).1.kind,A5 (Bj ra).1.n,Ae (Bj ra).1.s],(if B 1=true then .cells 23 [A5 (Bj rb).1.kind,A5 (Bj rb).1.n,Ae (Bj rb).1.s] else .cells 23 [A5 0,A5 0,Ae []]:AObj)] else [.cells 23 [A5 0,A5 0,Ae []],.cells 23 [A5 (Bj ra).1.kind,A5 (Bj ra).1.n,Ae (Bj ra).1.s]]) An (by kernel_rfl) rfl rfl (fun _=>rfl) ?_
 apply Y.q
 ·intro B hT hF
  refine Z40 ?_
  refine Al (h:=Ac (1) (A9 k1) (fun _=>h1)) (hr:=?_)
  refine Al ?_;refine E1 Tryz.call136 (AOn c l k1 rb hb _) ?_;exact wn
 case hTF=>decide
 refine Y.alloc (zs:=[A5 0,A5 0,Ae []]) (n:=2) (u:=Hp.length) Tryz.zeroValue23 (fun B hT hF hB=>⟨rfl,by simp [hB],by simp [upd,hB,hF 1 (by simp)],rfl⟩) ?_;refine g7 (u:=Hp.length) (n:=2) (t':=23) (cs:=[A5 0,A5 0,Ae []]) (cs':=[A5 (Bj rb).1.kind,A5 (Bj rb).1.n,Ae (Bj rb).1.s]) Tryz.sizeOf23 (fun B hT hF hB=>⟨rfl,by simp [hT 0 (by simp),hB],by simp [upd,hT 0 (by simp),hB],rfl⟩) ?_;refine Ha (tn:=[9,10]) (O:=[.cells 23 [A5 0,A5 0,Ae []],.cells 23 [A5 (Bj ra).1.kind,A5 (Bj ra).1.n,Ae (Bj ra).1.s],.cells 23 [A5 (Bj rb).1.kind,A5 (Bj rb).1.n,Ae (Bj rb).1.s]]) ?_;refine A4 ?_;refine A2 [5,6,8,9,10] ?_;refine Z36 ?_;refine Z7 ?_
 refine Bi (h:=X9 Xo (fun w=>Jl (Bj rb).1.kind (Bj rb).1.n s.kind s.n (Bj rb).1.s s.s w)) (hr:=?_)
 refine Z0 ?_;refine Sr ?_;refine A2 [6,8,9,10,49] ?_
 refine A3 (fun ht49=>?_) (fun ht49=>?_)
 ·rw [Qq] at ht49
  have hm:Jv s ra rb=Bj rb:=by unfold Jv;rw [if_neg (by rw [ht26];simp),if_pos ht49]
  refine Z1 ?_;refine gc ?_;exact Z37
 rw [Qq] at ht49
 have hm:Jv s ra rb=((Bj ra).1,0):=by unfold Jv;rw [if_neg (by rw [ht26];simp),if_neg (by rw [ht49];simp)]
 refine Lm ?_;exact ALl

theorem c89 (c:List Col) (l:List Val) (x k0 k1 k2:Expr) (ra rb d2:Rs) (h0:(x.kids.map A9)[0]? = some (A9 k0)) (h1:(x.text==Co)=false→(x.kids.map A9)[1]? = some (A9 k1)) (h2:(x.text==ifW)=true→(x.kids.map A9)[2]? = some (A9 k2)) (ha:Lt c l k0 ra) (hb:(x.text==Co)=false→Lt c l k1 rb) (hd:(x.text==ifW)=true→Lt c l k2 d2) (Hp:List AObj):AFun Tryz.prog 89 [Zo c l,A9 x] Hp (V0 (G6 x.text ra rb d2)):=by
 refine Af [.cell 4 23,.tmp 5] [0,1] Tryz.func89 Tryz.ntmps89 (fun d=>?_)
 refine Z1 ?_;refine AFn ?_;refine Z36 ?_;refine A2 [2,3,4,12] ?_
 refine A3 (fun ht12=>?_) (fun ht12=>?_)
 ·have hni:(x.text==Co)=false:=by
   have e:x.text=ifW:=by simpa [ifW] using ht12
   rw [e];rfl
  have hc:G6 x.text ra rb d2=(if (Bj ra).2 != 0 then Dx (Bj ra).2 else if (Bj ra).1==K1 true then rb else d2):=if_pos ht12
  refine Ip [0,0,2,6,14,31,63,127,127,0,767,2047] [9,10] [.q 9 [] [],.s [6] (some 0) [] [1],.s [] (some 1) [0] []] (fun _=>Hp) (fun B=>if B 0=true then [.cells 23 [A5 0,A5 0,Ae []],(if B 1=true then .cells 23 [A5 (Bj ra).1.kind,A5 (Bj ra).1.n,Ae (Bj ra).1.s] else .cells 23 [A5 0,A5 0,Ae []]:AObj)] else [.cells 23 [A5 0,A5 0,Ae []]]) An (by kernel_rfl) rfl rfl (fun _=>rfl) ?_
  apply Y.q
  ·intro B hT hF
   refine Z40 ?_
   refine Al (h:=Ac (0) (A9 k0) (fun _=>h0)) (hr:=?_)
   refine Al ?_;exact AMf
  case hTF=>decide
  refine Z77 ?_;refine ALa ?_;refine A2 [2,3,4,6,7] ?_;refine k7 ?_;refine A2 [2,3,4,6,7,22] ?_
  refine A3 (fun ht22=>?_) (fun ht22=>?_)
  ·have hm:G6 x.text ra rb d2=Dx (Bj ra).2:=by rw [hc,if_pos ht22]
   refine Z2 ?_;refine Z63 ?_;refine Z87 ?_;refine Z6 ?_;exact Z37
  refine De [0,0,3,7] 2 An (by kernel_rfl) ?_;refine Al ?_;refine E1 Tryz.call88 (c88 true _) ?_;refine Ey ?_
  refine A4 (h:=X9 Xo (fun w=>Jl (Bj ra).1.kind (Bj ra).1.n 3 1 (Bj ra).1.s [] w)) (hr:=?_)
  refine A4 ?_;refine A2 [2,3,4,29] ?_
  refine A3 (fun ht29=>?_) (fun ht29=>?_)
  ·rw [Qq (Bj ra).1 ⟨3,1,[]⟩] at ht29
   have ht29b:((Bj ra).1==K1 true)=true:=ht29
   have hm:G6 x.text ra rb d2=rb:=by rw [hc,if_neg (by rw [ht22];simp),if_pos ht29b]
   refine AIv ?_
   refine Al (h:=Ac (1) (A9 k1) (fun _=>h1 hni)) (hr:=?_)
   refine Al ?_;refine E1 Tryz.call44 (hb hni _) ?_;refine Qt ?_;refine Z87 ?_;refine Z6 ?_;exact Z37
  rw [Qq (Bj ra).1 ⟨3,1,[]⟩] at ht29
  have hm:G6 x.text ra rb d2=d2:=by rw [hc,if_neg (by rw [ht22];simp),if_neg (by show ¬((Bj ra).1==⟨3,1,[]⟩)=true;rw [ht29];simp)]
  refine Z16 ?_;refine AIv ?_
  refine Al (h:=Ac (2) (A9 k2) (fun _=>h2 ht12)) (hr:=?_)
  refine Al ?_;refine E1 Tryz.call44 (hd ht12 _) ?_;refine Qt ?_;exact wv
 have hc:G6 x.text ra rb d2=(if ra.2 != 0 then Dx ra.2 else if x.text==Co then (K1 (ra.1.kind==0),0) else if ra.1.kind != 0 then (ra.1,0) else rb):=if_neg (by show ¬(x.text==ifW)=true;rw [show (x.text==ifW)=false from ht12];simp)
 refine Z5 ?_;refine Ip [0,0,2,6,14,31,63,127,127,0,767,2047] [9,10] [.q 9 [] [],.s [8] (some 0) [] [1],.s [] (some 1) [0] []] (fun _=>Hp) (fun B=>if B 0=true then [.cells 23 [A5 0,A5 0,Ae []],(if B 1=true then .cells 23 [A5 ra.1.kind,A5 ra.1.n,Ae ra.1.s] else .cells 23 [A5 0,A5 0,Ae []]:AObj)] else [.cells 23 [A5 0,A5 0,Ae []]]) An (by kernel_rfl) rfl rfl (fun _=>rfl) ?_
 apply Y.q
 ·intro B hT hF
  refine Z40 ?_
  refine Al (h:=Ac (0) (A9 k0) (fun _=>h0)) (hr:=?_)
  refine Al ?_;refine E1 Tryz.call44 (ha _) ?_;exact wn
 case hTF=>decide
 refine ANc ?_;refine g7 (u:=Hp.length) (n:=1) (t':=23) (cs:=[A5 0,A5 0,Ae []]) (cs':=[A5 ra.1.kind,A5 ra.1.n,Ae ra.1.s]) Tryz.sizeOf23 (fun B hT hF hB=>⟨rfl,by simp [hT 0 (by simp),hB],by simp [upd,hT 0 (by simp),hB],rfl⟩) ?_;refine Ha (tn:=[9,10]) (O:=[.cells 23 [A5 0,A5 0,Ae []],.cells 23 [A5 ra.1.kind,A5 ra.1.n,Ae ra.1.s]]) ?_;refine A4 ?_;refine A2 [2,3,4,8,9] ?_;refine k7 ?_;refine A2 [2,3,4,8,9,58] ?_
 refine A3 (fun ht58=>?_) (fun ht58=>?_)
 ·have hm:G6 x.text ra rb d2=Dx ra.2:=by rw [hc,if_pos ht58]
  refine Z2 ?_;refine Z63 ?_;exact Pk
 refine Z27 ?_;refine A2 [2,3,4,8,65] ?_
 refine A3 (fun ht65=>?_) (fun ht65=>?_)
 ·have hm:G6 x.text ra rb d2=(K1 (ra.1.kind==0),0):=by rw [hc,if_neg (by rw [ht58];simp),if_pos (show (x.text==Co)=true from ht65)]
  refine Z17 ?_;refine Aa Tryz.call88 (c88 _ _) ?_;exact Pk
 refine Z27 ?_;refine A2 [2,3,4,8,73] ?_
 refine A3 (fun ht73=>?_) (fun ht73=>?_)
 ·have hm:G6 x.text ra rb d2=(ra.1,0):=by rw [hc,if_neg (by rw [ht58];simp),if_neg (by show ¬(x.text==Co)=true;rw [show (x.text==Co)=false from ht65];simp),if_pos ht73]
  refine Z2 ?_;exact Pk
 have hm:G6 x.text ra rb d2=rb:=by rw [hc,if_neg (by rw [ht58];simp),if_neg (by show ¬(x.text==Co)=true;rw [show (x.text==Co)=false from ht65];simp),if_neg (by rw [ht73];simp)]
 refine Z16 ?_;refine AIv ?_
 refine Al (h:=Ac (1) (A9 k1) (fun _=>h1 ht65)) (hr:=?_)
 refine Al ?_;refine E1 Tryz.call44 (hb ht65 _) ?_;refine Qt ?_;exact oe

/-- The first fault of those that were asked. -/
structure AllAt (f:Expr→Rs) (k:List Expr) (x:Nat):Prop where
 le:x≤k.length
 ok:∀(j:Nat) (y:Expr),j<x→k[j]? = some y→((f y).2 != 0)=false
theorem AllAt.bad {f:Expr→Rs} {k:List Expr} {x:Nat} (h:AllAt f k x) (hx:x<k.length) (hb:((f k[x]).2 != 0)=true) (g:List Val→Rs):Nd g (k.map f)=Dx (f k[x]).2:=by
 unfold Nd
 have:(k.map f).find? (fun q=>q.2 != 0)=some ((k.map f)[x]'(by simpa using hx)):=gr (by simpa using hx) (by simpa using hb) (fun j y hj hy=>by
  rw [Cf,F6] at hy
  obtain ⟨z,hz,rfl⟩:=hy
  exact h.ok j z hj hz)
 rw [this]
 simp
theorem AllAt.all {f:Expr→Rs} {k:List Expr} {x:Nat} (h:AllAt f k x) (hx:k.length≤x) (g:List Val→Rs):Nd g (k.map f)=if (k.take x).any (fun y=>(f y).1.kind==0) then (noV,0) else g ((k.take x).map fun y=>(f y).1):=by
 unfold Nd
 have:(k.map f).find? (fun q=>q.2 != 0)=none:=U8 (fun j y hy=>by
  rw [Cf,F6] at hy
  obtain ⟨z,hz,rfl⟩:=hy
  exact h.ok j z (by have:=(Ad.1 hz).1;omega) hz)
 rw [this,E8 hx]
 simp only [List.any_map,Kq]
 rfl
theorem AllAt.next {f:Expr→Rs} {k:List Expr} {x:Nat} (h:AllAt f k x) (hx:x<k.length) (hb:((f k[x]).2 != 0)=false):AllAt f k (x+1):=⟨hx,Cc hx h.ok hb⟩
theorem AE1 (f:Expr→Bool) (k:List Expr) {x:Nat} (h:x<k.length):(k.take (x+1)).any f=((k.take x).any f || f k[x]):=by rw [Hv h,List.any_append];simp
theorem zd (f:Expr→Val) (l:List Expr) {x:Nat} (h:x<l.length):((l.take x).map f).map C3++[C3 (f l[x])]=((l.take (x+1)).map f).map C3:=by rw [Hv h,By,By];rfl
theorem mq {n k:Nat} {own:Bool} {l:List Val}:Low n (.slice own k (l.map C3)):=low_slice.2 fun y hy=>by
 obtain ⟨z,_,rfl⟩:=Cr.1 hy
 simp [or_imp,forall_and]
theorem c90 (c:List Col) (l:List Val) (e:Expr) (hk:e.kids.length≤1048576) (hev:∀y∈e.kids,Lt c l y (Cb c l y)) (hargs:((∀y∈e.kids,(Cb c l y).2=0)→ArgsOk e.op (e.kids.map fun y=>(Cb c l y).1))) (Hp:List AObj):AFun Tryz.prog 90 [Zo c l,A9 e] Hp (V0 (Nd (B9 e.op e.text) (e.kids.map (Cb c l)))):=by
 refine Af [.cell 4 23,.tmp 5] [0,1] Tryz.func90 Tryz.ntmps90 (fun d=>?_)
 refine Z1 ?_;refine AFn ?_;refine Z2 ?_;refine A2 [2,3,4,6] ?_;refine Fp ?_;refine N7 6 3 ?_;refine A4 ?_;refine A2 [2,3,4,6,7] ?_;refine Z60 ?_;refine A2 [2,3,4,6,7,13,14,15] ?_
 refine B7 (α:=Nat) (fun x=>⟨49,A7 2 (.ro [Am c,Cv l]) (A7 3 (.ro (Eb e)) (A7 4 (.ptr (oid Hp.length 0) 0) (A7 6 (.slice true 3 (((e.kids.take x).map fun y=>(Cb c l y).1).map C3)) (A7 7 (Bk ((e.kids.take x).any fun y=>(Cb c l y).1.kind==0)) (A7 13 (.slice false 6 (e.kids.map A9)) (A7 14 (A5 (e.kids.length:Nat)) (A7 15 (A5 (x:Nat)) (fun _=>.any)))))))),Hp,[.cells 23 [A5 0,A5 0,Ae []]],[],none⟩) (fun x=>AllAt (Cb c l) e.kids x) (fun x=>e.kids.length-x) (0) ⟨Ar _,fun j y h=>by omega⟩ (Bo (by simp)) rfl (fun x hx=>?_)
 refine Z2 ?_;refine A2 [2,3,4,6,7,13,14,15,16] ?_
 refine Dm (fun ht16=>?_) (fun ht16=>?_)
 ·have hlt:x<e.kids.length:=by simpa using ht16
  refine Qr ?_
  refine A4 (h:=Ac (x) (A9 e.kids[x]) (fun _=>Ax hlt)) (hr:=?_)
  refine Rn ?_;refine A2 [2,3,4,6,7,9,13,14,15] ?_;refine Z1 ?_;refine Aa Tryz.call44 (hev _ (B1 hlt) _) ?_;refine Xj ?_;refine A2 [2,3,4,6,7,10,11,13,14,15] ?_;refine Z8 ?_;refine A2 [2,3,4,6,7,10,11,13,14,15,26] ?_
  refine A3 (fun ht26=>?_) (fun ht26=>?_)
  ·have hm:=hx.bad hlt ht26 (B9 e.op e.text)
   refine Z2 ?_;refine Z63 ?_;refine Z21 ?_;refine Z52 ?_;refine Z33 ?_;exact Z37
  refine Ro ?_;refine Z99 ?_;refine A2 [2,3,4,6,7,10,13,14,15] ?_;refine wm ?_;refine Z57 ?_
  refine Eu jU Tryz.type23 ?_ ?_ ?_
  ·simp only [Aj,Ci,Aw,Az,Tryz.t23];omega
  ·simp only [Aj,Ci,Aw,Az,Tryz.t23];omega
  refine L1 ?_;refine A2 [2,3,4,6,7,13,14,15] ?_;refine Qv ?_;refine A2 [2,3,4,6,7,13,14,15] ?_;refine Bb (x+1) (hx.next hlt ht26) (by omega) ?_
  simp only [show Tryz.t23.size=3 from rfl,AE1 _ _ hlt]
  have hvs:((e.kids.take x).map fun y=>(Cb c l y).1).map C3++[.agg [.v (.int .i64 (Cb c l e.kids[x]).1.kind),.v (.int .i64 (Cb c l e.kids[x]).1.n),.v (sv (Cb c l e.kids[x]).1.s)]]=((e.kids.take (x+1)).map fun y=>(Cb c l y).1).map C3:=zd _ _ hlt
  simp only [hvs]
  exact D4 (own:=[.cells 23 [A5 0,A5 0,Ae []]]) (fun _=>.refl _) (by repeat (first|exact Be|refine Bd (by first|exact F1|exact mq|exact Wp|(simp [or_imp,forall_and,oid]<;>omega)) ?_)) (by intro y hy;rw [Bl.1 hy];intro z hz;simp only [B5,F5,or_false] at hz;rcases hz with rfl|rfl|rfl<;>simp) (by simp)
 have hxe:e.kids.length≤x:=by simpa using ht16
 have ha:=hx.all hxe (B9 e.op e.text)
 have htk:e.kids.take x=e.kids:=E8 hxe
 have h00:∀y∈e.kids,(Cb c l y).2=0:=fun y hy=>by
  obtain ⟨j,hj⟩:=Cm hy
  have:=hx.ok j y (by have:=(Ad.1 hj).1;omega) hj
  simpa using this
 have hao:=hargs h00
 rw [←htk] at hao
 refine Z28 ?_;refine Z32 ?_;refine A2 [3,4,6,42] ?_
 refine A3 (fun ht42=>?_) (fun ht42=>?_)
 ·have hm:Nd (B9 e.op e.text) (e.kids.map (Cb c l))=(noV,0):=by rw [ha,if_pos ht42]
  refine AJ5 ?_;exact wv
 have hm:Nd (B9 e.op e.text) (e.kids.map (Cb c l))=B9 e.op e.text ((e.kids.take x).map fun y=>(Cb c l y).1):=by rw [ha,if_neg (by rw [ht42];simp)]
 refine Ro ?_;refine Aa Tryz.call137 (ARm e _ hao _) ?_;refine Z0 ?_;exact oe

theorem di {e:Expr} (h:Dl e=true):(e.op=5→e.kids.length=2)∧(e.op=3∨e.op=4→e.kids.length=1)∧(e.op=6→Ch e.text=(e.kids.length:Int))∧(e.op=1∨e.op=2∨e.op=3∨e.op=4∨e.op=5∨e.op=6):=by
 cases Kj h with
 | val v hp h0=>simp [Mq,Expr.op]
 | name t ht=>simp [Cw,Expr.op]
 | neg a=>simp [Id,Expr.op,Expr.kids]
 | no a=>simp [Id,Expr.op,Expr.kids]
 | bin t a b ht=>simp [Ki,Expr.op,Expr.kids]
 | call t k ht=>simpa [Expr.op,Expr.kids,Expr.text] using ht
theorem Iw {k:List Expr} {i:Nat} (h:i<k.length):(k.map A9)[i]? = some (A9 (k.getD i Ap))∧k.getD i Ap∈k∧∀(f:Expr→Rs) (d:Rs),(k.map f).getD i d=f (k.getD i Ap):=by
 have e:k.getD i Ap=k[i]:=by rw [C9,Ab h];rfl
 rw [e]
 refine ⟨by simp [h],B1 h,fun f d=>?_⟩
 rw [C9,Cf,Ab h]
 rfl
theorem j4 {c:List Col} {l:List Val} {e:Expr} (h1:(e.op==1)=false) (h2:(e.op==2)=false) (h3:((e.op==5)&&(e.text==orW))=false) (h4:((e.op==5)&&(e.text==iv))=false) (h5:((e.op==6)&&(((e.text==ifW) || (e.text==Ut)) || (e.text==Co)))=false):Cb c l e=Nd (B9 e.op e.text) (e.kids.map (Cb c l)):=by
 rw [Cb,Nu]
 unfold K4
 rw [h1,h2,h3,h4,h5]
 rfl
theorem AHm {c:List Col} {l:List Val} (hf:∀v∈l,Fine v) {e:Expr} (hnd:Dw Dl e=true) (hrg:Dw Hs e=true) (hv:Dw Nw e=true) (h5:((e.op==6)&&(((e.text==ifW) || (e.text==Ut)) || (e.text==Co)))=false):ArgsOk e.op (e.kids.map fun y=>(Cb c l y).1):=by
 rw [Gg,As] at hnd hrg hv
 obtain ⟨k5,k34,k6,_⟩:=di hnd.1
 refine ⟨fun h=>?_,fun h=>by rw [Aj];exact k34 h,fun h=>?_,fun v hv'=>?_⟩
 ·obtain ⟨a,b,e⟩:=Qo (k5 h)
  rw [e]
  exact ⟨_,_,rfl⟩
 ·rw [Aj]
  rw [h] at h5
  simp only [beq_self_eq_true,Bs,Ej,beq_eq_false_iff_ne] at h5
  rcases Oj (k6 h) with ⟨_,h⟩|⟨_,h⟩|⟨_,h⟩|⟨e,_⟩|⟨e,_⟩|⟨_,h⟩|⟨_,h⟩|⟨e,_⟩
  ·exact .inl h
  ·exact .inl h
  ·exact .inl h
  ·exact absurd e h5.2
  ·exact absurd e h5.1.2
  ·obtain ⟨a,b,e⟩:=Qo h
   rw [e]
   exact .inr ⟨_,_,rfl⟩
  ·obtain ⟨a,b,e⟩:=Qo h
   rw [e]
   exact .inr ⟨_,_,rfl⟩
  exact absurd e h5.1.1
 obtain ⟨y,hy,rfl⟩:=Cr.1 hv'
 exact Uv hf y ((E3 _ _).1 hv.2 y hy) ((E3 _ _).1 hrg.2 y hy)
theorem Vt (a b d:Rs):G6 Co a b d=G6 Co a (noV,0) (noV,0):=by
 unfold G6
 rw [show (Co==ifW)=false from rfl,show (Co==Co)=true from rfl]
 rfl
theorem rq {t:Str} (h:(t==ifW)=false) (a b d d':Rs):G6 t a b d=G6 t a b d':=by
 unfold G6
 rw [h]
 rfl
theorem mr {t:Str} (h:(t==Co)=true) (a b b' d d':Rs):G6 t a b d=G6 t a b' d':=by
 have e:t=Co:=by simpa using h
 subst e
 rw [Vt,Vt a b' d']
theorem ze {t:Str} {k:List Expr} {f:Expr→Rs} {a:Rs} (h1:(t==Co)=false→1<k.length) (h2:(t==ifW)=true→2<k.length):G6 t a ((k.map f).getD 1 (noV,0)) ((k.map f).getD 2 (noV,0))=G6 t a (f (k.getD 1 Ap)) (f (k.getD 2 Ap)):=by
 cases hn:t==Co with
 | true=>exact mr hn _ _ _ _ _
 | false =>
  rw [(Iw (h1 hn)).2.2]
  cases hi:t==ifW with
  | true=>rw [(Iw (h2 hi)).2.2]
  | false=>exact rq hi _ _ _ _
theorem c44 (c:List Col) (l:List Val) (hc:OkCols c) (hl:l.length=c.length) (hf:∀v∈l,Fine v):∀(n:Nat) (e:Expr),okE n e→Dw Dl e=true→Dw Hs e=true→Dw Nw e=true→Lt c l e (Cb c l e):=by
 intro n
 induction n with
 | zero=>exact fun e h=>h.elim
 | succ n ih =>
 intro e hok hnd hrg hvo Hp
 have hnd0:=hnd
 have hrg0:=hrg
 have hvo0:=hvo
 rw [Gg,As] at hnd0 hrg0 hvo0
 have hev:∀y∈e.kids,Lt c l y (Cb c l y):=fun y hy=>ih y (hok.2.2 y hy) ((E3 _ _).1 hnd0.2 y hy) ((E3 _ _).1 hrg0.2 y hy) ((E3 _ _).1 hvo0.2 y hy)
 obtain ⟨k5,k34,k6,_⟩:=di hnd0.1
 have hev0:Cb c l e=K4 B9 c l e.op e.text e.val (e.kids.map (Cb c l)):=Nu _ _ _ _
 refine Af [.cell 4 23,.tmp 5] [0,1] Tryz.func44 Tryz.ntmps44 (fun d=>?_)
 refine Z1 ?_;refine AFn ?_;refine Z18 ?_;refine Z27 ?_;refine A2 [2,3,4,7] ?_
 refine A3 (fun ht7=>?_) (fun ht7=>?_)
 ·have hm:Cb c l e=(e.val,0):=by rw [hev0];unfold K4;rw [if_pos ht7]
  refine Z1 ?_;exact Pk
 refine Z27 ?_;refine A2 [2,3,4,13] ?_
 refine A3 (fun ht13=>?_) (fun ht13=>?_)
 ·have hm0:Cb c l e=L3 c l e.text:=by rw [hev0];unfold K4;rw [if_neg (by rw [ht7];simp),if_pos ht13]
  refine Z27 ?_;refine Aa Tryz.call58 (c58 c hc e.text _) ?_;refine A4 ?_;refine A2 [2,4,6] ?_;refine Z8 ?_;refine A2 [2,4,6,23] ?_
  refine A3 (fun ht23=>?_) (fun ht23=>?_)
  ·have hm:Cb c l e=Dx 9:=by rw [hm0];exact if_pos (by simpa using ht23)
   refine af ?_;refine Z21 ?_;refine Z52 ?_;exact Z24
  have hneg:¬(B6 e.text c<0):=by simpa using ht23
  obtain ⟨j,hj,hjc⟩:=Hh hneg
  have hjl:j<l.length:=by omega
  have hm:Cb c l e=(l[j],0):=by
   rw [hm0]
   unfold L3
   rw [if_neg hneg,hj,Int.toNat_natCast,C9,Ab hjl]
   rfl
  rw [hj]
  refine Z82 ?_
  refine A4 (h:=Ac (j) (C3 l[j]) (fun _=>Ax hjl)) (hr:=?_)
  refine A4 ?_;exact Pk
 refine oo ?_;refine A2 [2,3,4,32] ?_
 refine A3 (fun ht32=>?_) (fun ht32=>?_)
 ·have h32:((e.op==5)&&(e.text==orW))=true:=ht32
  have hop:e.op=5:=by simp only [As,beq_iff_eq] at h32;exact h32.1
  have hkl:=k5 hop
  have hm:Cb c l e=Jv (K1 true) (Cb c l (e.kids.getD 0 Ap)) (Cb c l (e.kids.getD 1 Ap)):=by rw [hev0];unfold K4;rw [if_neg (by rw [ht7];simp),if_neg (by rw [ht13];simp),if_pos h32,(Iw (by omega)).2.2,(Iw (by omega)).2.2]
  refine AMr ?_;refine E1 Tryz.call88 (c88 _ _) ?_;refine E1 Tryz.call87 (c87 c l e (e.kids.getD 0 Ap) (e.kids.getD 1 Ap) (K1 true) _ _ (Iw (by omega)).1 (Iw (by omega)).1 (hev _ (Iw (by omega)).2.1) (hev _ (Iw (by omega)).2.1) _) ?_;refine Qt ?_;exact Pk
 have h32:((e.op==5)&&(e.text==orW))=false:=ht32
 refine oo ?_;refine A2 [2,3,4,47] ?_
 refine A3 (fun ht47=>?_) (fun ht47=>?_)
 ·have h47:((e.op==5)&&(e.text==iv))=true:=ht47
  have hop:e.op=5:=by simp only [As,beq_iff_eq] at h47;exact h47.1
  have hkl:=k5 hop
  have hm:Cb c l e=Jv (K1 false) (Cb c l (e.kids.getD 0 Ap)) (Cb c l (e.kids.getD 1 Ap)):=by rw [hev0];unfold K4;rw [if_neg (by rw [ht7];simp),if_neg (by rw [ht13];simp),if_neg (by rw [h32];simp),if_pos h47,(Iw (by omega)).2.2,(Iw (by omega)).2.2]
  refine AMr ?_;refine E1 Tryz.call88 (c88 _ _) ?_;refine E1 Tryz.call87 (c87 c l e (e.kids.getD 0 Ap) (e.kids.getD 1 Ap) (K1 false) _ _ (Iw (by omega)).1 (Iw (by omega)).1 (hev _ (Iw (by omega)).2.1) (hev _ (Iw (by omega)).2.1) _) ?_;refine Qt ?_;exact Pk
 have h47:((e.op==5)&&(e.text==iv))=false:=ht47
 refine Z27 ?_;refine Wa ?_;refine Wa ?_;refine Z7 ?_;refine Z99 ?_;refine A2 [2,3,4,62] ?_
 refine A3 (fun ht62=>?_) (fun ht62=>?_)
 ·have h62:((e.op==6)&&(((e.text==ifW) || (e.text==Ut)) || (e.text==Co)))=true:=ht62
  obtain ⟨hkl,hl1,hl2⟩:0<e.kids.length∧((e.text==Co)=false→1<e.kids.length)∧((e.text==ifW)=true→2<e.kids.length):=by
   have h:=h62
   simp only [As,Dq,beq_iff_eq] at h
   have ha:=k6 h.1
   rcases h.2 with (h1|h1)|h1
   ·rw [h1] at ha ⊢
    have:e.kids.length=3:=by
     have:Ch ifW=3:=by kernel_rfl
     omega
    exact ⟨by omega,fun _=>by omega,fun _=>by omega⟩
   ·rw [h1] at ha ⊢
    have:e.kids.length=2:=by
     have:Ch Ut=2:=by kernel_rfl
     omega
    exact ⟨by omega,fun _=>by omega,fun h=>absurd h (by decide)⟩
   rw [h1] at ha ⊢
   have:e.kids.length=1:=by
    have:Ch Co=1:=by kernel_rfl
    omega
   exact ⟨by omega,fun h=>absurd h (by decide),fun h=>absurd h (by decide)⟩
  have hm:Cb c l e=G6 e.text (Cb c l (e.kids.getD 0 Ap)) (Cb c l (e.kids.getD 1 Ap)) (Cb c l (e.kids.getD 2 Ap)):=by
   rw [hev0]
   unfold K4
   rw [if_neg (by rw [ht7];simp),if_neg (by rw [ht13];simp),if_neg (by rw [h32];simp),if_neg (by rw [h47];simp),if_pos h62,(Iw hkl).2.2]
   exact ze hl1 hl2
  refine Z1 ?_;refine Aa Tryz.call89 (c89 c l e (e.kids.getD 0 Ap) (e.kids.getD 1 Ap) (e.kids.getD 2 Ap) _ _ _ (Iw (by omega)).1 (fun h=>(Iw (hl1 h)).1) (fun h=>(Iw (hl2 h)).1) (hev _ (Iw (by omega)).2.1) (fun h=>hev _ (Iw (hl1 h)).2.1) (fun h=>hev _ (Iw (hl2 h)).2.1) _) ?_;refine Z0 ?_;exact Pk
 have h62:((e.op==6)&&(((e.text==ifW) || (e.text==Ut)) || (e.text==Co)))=false:=ht62
 have hm:=j4 (c:=c) (l:=l) ht7 ht13 h32 h47 h62
 refine ov ?_;refine Aa Tryz.call90 (c90 c l e hok.2.1 hev (fun _=>AHm hf hnd hrg hvo h62) _) ?_;refine Z0 ?_;exact oe

def R9 (l:List Val):Bool:=decide ((50:Int)<(l.length:Int)) || l.any fun v=>decide ((400:Int)<(v.s.length:Int))
theorem c11 (l:List Val) (Hp:List AObj):AFun Tryz.prog 11 [Cv l] Hp (Bk (R9 l)):=by
 refine Af [.tmp 2] [0] Tryz.func11 Tryz.ntmps11 (fun d=>?_)
 refine k9 ?_;refine A2 [0,6] ?_
 refine A3 (fun ht6=>?_) (fun ht6=>?_)
 ·rw [Aj] at ht6
  have hm:R9 l=true:=by unfold R9;rw [ht6];rfl
  exact ABa
 rw [Aj] at ht6
 have hl50:l.length≤50:=by simp at ht6;omega
 refine AB9 ?_
 refine B7 (α:=Nat) (fun x=>⟨20,A7 0 (Cv l) (A7 3 (A5 (x:Nat)) (fun _=>.any)),Hp,[],[],none⟩) (fun x=>x≤l.length∧∀(j:Nat) (v:Val),j<x→l[j]? = some v→decide ((400:Int)<(v.s.length:Int))=false) (fun x=>l.length-x) (0) ⟨Ar _,fun j v h=>by omega⟩ (Bo (by simp)) rfl (fun x hx=>?_)
 refine Z60 ?_;refine A2 [0,3,10] ?_
 refine A3 (fun ht10=>?_) (fun ht10=>?_)
 ·have hlt:x<l.length:=by simpa using ht10
  refine Su ?_
  refine A4 (h:=Ac (x) (C3 l[x]) (fun _=>Ax hlt)) (hr:=?_)
  refine Z89 ?_;refine A2 [0,3,19] ?_
  refine A3 (fun ht19=>?_) (fun ht19=>?_)
  ·have hm:R9 l=true:=by unfold R9;rw [Dq];exact .inr (K7.2 ⟨l[x],B1 hlt,ht19⟩)
   exact AFc
  refine Z16 ?_;refine Z66 ?_
  refine A4 (h:=Q.add64 (h1:=fun _=>by omega) (h2:=fun _=>by omega)) (hr:=?_)
  refine A4 ?_;refine Ln ?_;exact ALe
 have hxe:l.length≤x:=by simpa using ht10
 have hm:R9 l=false:=by
  unfold R9
  rw [ht6,B4,L4]
  intro v hv
  obtain ⟨j,hj⟩:=Cm hv
  have:=hx.2 j v (by have:=(Ad.1 hj).1;omega) hj
  rw [this]
  simp
 exact ABc

structure RowAt (c:List Col) (l:List Val) (x:Nat):Prop where
 le:x≤l.length
 ok:∀(i:Nat) (v:Val) (y:Col),i<x→l[i]? = some v→c[i]? = some y→E2 v=true∧(v.kind=0∨v.kind=y.kind)
theorem RowAt.next {c:List Col} {l:List Val} {x:Nat} (h:RowAt c l x) (hl:x<l.length) (hc:x<c.length) (hb:((!(E2 l[x])) || ((l[x].kind != 0)&&(l[x].kind != c[x].kind)))=false):RowAt c l (x+1):=⟨hl,fun i v y hi hv hy=>by
 rcases Bv i x with h'|h'
 ·exact h.ok i v y h' hv hy
 have e:i=x:=by omega
 subst e
 rw [Ab hl] at hv
 rw [Ab hc] at hy
 injection hv with hv
 injection hy with hy
 subst hv
 subst hy
 simp only [Ej,Dh,AAa,bne_eq_false_iff_eq] at hb
 exact ⟨hb.1,hb.2⟩⟩
theorem RowAt.bad {c:List Col} {l:List Val} {x:Nat} (hl:x<l.length) (hc:x<c.length) (hb:((!(E2 l[x])) || ((l[x].kind != 0)&&(l[x].kind != c[x].kind)))=true):Gs c l=false:=by
 cases h:Gs c l with
 | false=>rfl
 | true =>
  obtain ⟨h1,h2⟩:=(row_iff.1 h).2.2 x l[x] c[x] (Ab hl) (Ab hc)
  rw [h1] at hb
  simp only [Il,B4,As,bne_iff_ne] at hb
  omega
theorem c12 (c:List Col) (hc:OkCols c) (l:List Val) (hll:l.length≤1048576) (Hp:List AObj):AFun Tryz.prog 12 [Am c,Cv l] Hp (Bk (Gs c l)):=by
 refine Af [.tmp 4] [0,1] Tryz.func12 Tryz.ntmps12 (fun d=>?_)
 refine Z61 ?_;refine Z32 ?_;refine Aa Tryz.call36 (c36 c hc _) ?_;refine Z47 ?_;refine Sr ?_;refine A2 [0,1,16] ?_
 refine A3 (fun ht16=>?_) (fun ht16=>?_)
 ·have hm:Gs c l=false:=by
   simp only [Aj,Dq,Db,bne_iff_ne,ne_eq] at ht16
   unfold Gs
   rcases ht16 with h|h
   ·rw [h];rfl
   rw [show (l.length==c.length)=false by simpa using (show l.length≠c.length by omega)];simp
  exact wu
 have hcl:Nm c=true∧l.length=c.length:=by
  simp only [Aj,Ej,Dh,bne_eq_false_iff_eq] at ht16
  exact ⟨ht16.1,by omega⟩
 refine ak ?_;refine A2 [0,17,18,19] ?_
 refine B7 (α:=Nat) (fun x=>⟨43,A7 0 (Am c) (A7 17 (Cv l) (A7 18 (A5 (l.length:Nat)) (A7 19 (A5 (x:Nat)) (fun _=>.any)))),Hp,[],[],none⟩) (fun x=>RowAt c l x) (fun x=>l.length-x) (0) ⟨Ar _,fun i v y h=>by omega⟩ (Bo (by simp)) rfl (fun x hx=>?_)
 refine Z2 ?_;refine A2 [0,17,18,19,20] ?_
 refine Dm (fun ht20=>?_) (fun ht20=>?_)
 ·have hlt:x<l.length:=by simpa using ht20
  have hlc:x<c.length:=by omega
  refine Pl ?_
  refine A4 (h:=Ac (x) (C3 l[x]) (fun _=>Ax hlt)) (hr:=?_)
  refine gi ?_;refine A2 [0,5,6,17,18,19] ?_;refine De [0,1,3,7,15,31,63,127,255,511,255,255,3327,7423,15615,32767,65535,131071] 15 An (by kernel_rfl) ?_;refine Al ?_;refine E1 Tryz.call37 (c37 _ _) ?_;refine Z11 ?_;refine Z72 ?_;refine Z72 ?_;refine Z72 ?_;refine Z72 ?_
  refine Ft (h:=Ac (x) (Bq c[x]) (fun _=>Ax hlc)) (hr:=?_)
  refine Z72 ?_;refine Ey ?_;refine Qw ?_;refine A2 [0,17,18,19,41] ?_
  refine A3 (fun ht41=>?_) (fun ht41=>?_)
  ·have hm:=RowAt.bad hlt hlc ht41
   refine Z86 ?_;exact aa
  refine Z97 ?_;refine A2 [0,17,18,19] ?_;refine Bb (x+1) (hx.next hlt hlc ht41) (by omega) ?_
  exact D4 (own:=[]) (fun _=>.refl _) (by repeat (first|exact Be|refine Bd (by first|exact mq|exact low_cols|(simp [or_imp,forall_and];done)) ?_)) (by simp) (by simp)
 have hxe:l.length≤x:=by simpa using ht20
 have hm:Gs c l=true:=row_iff.2 ⟨by rw [←Lq];exact hcl.1,hcl.2,fun i v y hv hy=>hx.ok i v y (by have:=(Ad.1 hv).1;omega) hv hy⟩
 refine Z28 ?_;exact AF0

theorem AE2 {e:Expr} (h:Dl e=true):Nw e=true:=by
 unfold Nw
 cases Kj h with
 | val v hp h0=>simpa [Mq,Expr.op,Expr.val] using hp
 | name t ht=>rfl
 | neg a=>rfl
 | no a=>rfl
 | bin t a b ht=>rfl
 | call t k ht=>rfl
mutual
theorem uv:∀e:Expr,Dw Dl e=true→Dw Nw e=true
 | .mk o t v k,h=>by
  rw [Dw,As] at h ⊢
  exact ⟨AE2 h.1,mt k h.2⟩
theorem mt:∀k:List Expr,Jo Dl k=true→Jo Nw k=true
  | [],_=>rfl
  | e::r,h=>by
    rw [Jo,As] at h ⊢
    exact ⟨uv e h.1,mt r h.2⟩
 end
theorem AE3 {c:List Col} {l:List Val} (h:Gs c l=true) (hr:∀v∈l, -9223372036854775808≤v.n∧v.n≤9223372036854775807):∀v∈l,Fine v:=fun v hv=>by
 obtain ⟨i,hi⟩:=Cm hv
 obtain ⟨_,h2,h3⟩:=row_iff.1 h
 have hil:=(Ad.1 hi).1
 exact ⟨(h3 i v _ hi (Ab (show i<c.length by omega))).1,(hr v hv).1,(hr v hv).2⟩
theorem c15 (n:Nat) (x:Expr) (hok:okE n x) (hn:n≤1048576) (hrg:Dw Hs x=true) (c:List Col) (hc:OkCols c) (l:List Val) (hll:l.length≤1048576) (hlr:∀v∈l, -9223372036854775808≤v.n∧v.n≤9223372036854775807) (Hp:List AObj):AFun Tryz.prog 15 [A9 x,Am c,Cv l] Hp (V0 (En x c l)):=by
 refine Af [.cell 6 23,.tmp 7] [0,1,2] Tryz.func15 Tryz.ntmps15 (fun d=>?_)
 refine Z2 ?_;refine Z73 ?_;refine A2 [1,2,3,6] ?_;refine Z32 ?_;refine Aa Tryz.call38 (c38 n x hok hn _) ?_;refine Z47 ?_;refine Bt Tryz.call12 (fun hB=>c12 c hc l hll _) ?_;refine Qu ?_;refine A2 [1,2,3,6,16] ?_
 refine A3 (fun ht16=>?_) (fun ht16=>?_)
 ·have hm:En x c l=Dx 1:=if_pos ht16
  refine af ?_;refine gc ?_;exact Z37
 have hm:En x c l=Cb c l x:=if_neg (by rw [ht16];simp)
 have hrr:B3 x=true∧Gs c l=true:=by simpa using ht16
 obtain ⟨hr,hrow⟩:=hrr
 refine Ro ?_;refine gk ?_;refine A4 ?_;refine Aa Tryz.call44 (c44 c l hc (row_iff.1 hrow).2.1 (AE3 hrow hlr) n x hok (L2 hr) hrg (uv x (L2 hr)) _) ?_;refine Z0 ?_;exact ALl

theorem zf {x:Expr} {c:List Col} {l:List Val} (hk:(F4 x c).2=0) (hrow:Gs c l=true):KOk (F4 x c).1 (En x c l):=by
 obtain ⟨h1,h2,h3⟩:=mh hk
 rw [h3] at hk ⊢
 rw [AHa h1 hrow]
 exact uo hrow (sizeE x) x (Ak _) (L2 h1) hk
theorem AE4 {l:List Val} (h:R9 l=false):l.length≤1048576:=by
 unfold R9 at h
 simp only [Ej,decide_eq_false_iff_not] at h
 omega
theorem Es {n k:Nat} {o:Bool} {l:List Val}:Low n (.slice o k (l.map C3)):=by simp [or_imp,forall_and]
theorem Lz {n k:Nat} {o:Bool} {l:List Val} {v:Val}:Low n (.slice o k (l.map C3++[C3 v])):=by simp [or_imp,forall_and]
theorem AIn {l:List Val} {j:Nat} (h:j<l.length):(l.map C3)[j]? = some (C3 (l.getD j noV)):=by
 rw [Cf,Ab h,C9,Ab h];rfl
theorem mu {l:List Val} (h:∀v∈l,Fine v):∀v∈l, -9223372036854775808≤v.n∧v.n≤9223372036854775807:=fun v hv=>⟨(h v hv).lo,(h v hv).hi⟩
theorem dj {c:List Col} {row:List Val}:∀{l:List Expr},(Ba c row l).1.length≤l.length
 | []=>Ak _
 | x::r=>by
  rw [Ba]
  repeat' split
  ·exact oz
  ·exact oz
  have:=dj (c:=c) (row:=row) (l:=r)
  simp only [Aw]
  omega
theorem uw {take:List Str} {c:List Col} {row:List Val}:(G7 take c row).length≤c.length:=by
 unfold G7
 rw [Aj]
 refine Jg (sj _ _) ?_
 rw [List.length_zip]
 omega
theorem ux {v:Str} {l:List Str} (h:0≤Jp v l):∃j:Nat,Jp v l=j∧j<l.length:=by
 unfold Jp at h ⊢
 cases hf:l.findIdx? (·==v) with
 | none=>rw [hf] at h;exact absurd h (by decide)
 | some i=>exact ⟨i,rfl,(L7.1 hf).1⟩
theorem AE5 {nm:Str} {c:List Col} {y:Col} (h:y∈c) (hn:y.name=nm):∃j:Nat,B6 nm c=j∧j<c.length:=by
 unfold B6
 cases hf:c.findIdx? (fun y=>y.name==nm) with
 | none =>
  rw [P1] at hf
  have:=hf y h
  rw [hn] at this
  simp at this
 | some i=>exact ⟨i,rfl,(L7.1 hf).1⟩
/-- A column that is not taken is there behind the move. -/
theorem AE6 {c:List Col} {m:Mov} {y:Col} (ht:(C1 c m).2=0) (hy:y∈c) (hn:¬0≤Jp y.name m.take):∃j:Nat,B6 y.name (C1 c m).1=j∧j<(C1 c m).1.length:=by
 refine AE5 (y:=y) ?_ rfl
 rw [(Mn ht).1]
 refine Wf _ ?_
 unfold D6
 rw [Se]
 refine ⟨hy,?_⟩
 rw [←ic,decide_eq_false hn]
 rfl
theorem c49 (l:List Val) (hl:l.length≤1048576) (Hp:List AObj):AFun Tryz.prog 49 [Cv l] Hp (Cv l):=by
 refine Af [.tmp 2] [0] Tryz.func49 Tryz.ntmps49 (fun d=>?_)
 refine k8 ?_
 refine R.eqlNil jU (by kernel_rfl) (fun b hb=>?_)
 refine A2 [0,4] ?_
 refine A3 (fun ht4=>?_) (fun ht4=>?_)
 ·have hl0:l=[]:=by simpa using hb ht4
  subst hl0
  refine Z2 ?_;refine Ru 2 3 false ?_;refine Z3 ?_;exact AMk
 refine Z5 ?_;refine jt ?_;refine A4 ?_
 refine Eu jU Tryz.type23 ?_ ?_ ?_
 ·simp [Tryz.t23];omega
 ·simp [Tryz.t23];omega
 refine L1 ?_;exact AMq

theorem c95 (c:List Col) (hc:OkCols c) (row:List Val) (hf:∀v∈row,Fine v) (hrl:row.length≤1048576) (l:List Expr) (h:OkEs l) (Hp:List AObj):AFun Tryz.prog 95 [Cj l,Am c,Cv row] Hp (.tup [Cv (Ba c row l).1,A5 (Ba c row l).2]):=by
 refine Af [.tmp 6,.tmp 7] [0,1,2] Tryz.func95 Tryz.ntmps95 (fun d=>?_)
 refine Z1 ?_;refine Wb ?_;refine Z2 ?_;refine A2 [0,1,2,8] ?_;refine Z67 ?_
 have hlen:=h.len
 refine N7 8 3 ?_;refine Z22 ?_;refine ABp ?_
 refine B7 (α:=Nat) (fun x=>⟨35,A7 1 (Am c) (A7 2 (Cv row) (A7 8 (.slice true 3 (((l.take x).map fun e=>(En e c row).1).map C3)) (A7 13 (Cj l) (A7 14 (A5 (l.length:Nat)) (A7 15 (A5 (x:Nat)) (fun _=>.any)))))),Hp,[],[],none⟩) (fun x=>x≤l.length∧∀(j:Nat) (y:Expr),j<x→l[j]? = some y→((En y c row).2 != 0)=false) (fun x=>l.length-x) (0) ⟨Ar _,fun j y h=>by omega⟩ (Bo (by simp)) rfl (fun x hx=>?_)
 refine Z2 ?_;refine A2 [1,2,8,13,14,15,16] ?_
 refine Dm (fun ht16=>?_) (fun ht16=>?_)
 ·have hlt:x<l.length:=by simpa using ht16
  refine Qr ?_
  refine A4 (h:=Ac (x) (A9 l[x]) (fun _=>Ax hlt)) (hr:=?_)
  refine Rn ?_;refine A2 [1,2,8,10,13,14,15] ?_;refine Z17 ?_;refine Aa Tryz.call15 (c15 61 l[x] (h.ok _ (B1 hlt)) (by decide) (h.rng _ (B1 hlt)) c hc row hrl (mu hf) _) ?_;refine Xj ?_;refine A2 [1,2,8,11,12,13,14,15] ?_;refine Z8 ?_;refine A2 [1,2,8,11,12,13,14,15,27] ?_
  refine A3 (fun ht27=>?_) (fun ht27=>?_)
  ·have hm:=Zk hx.2 (Ab hlt) ht27
   refine Z1 ?_;refine AF9 ?_;refine C4 ?_;exact AFd
  refine og ?_;refine Z57 ?_
  refine Eu jU Tryz.type23 ?_ ?_ ?_
  ·simp only [Aj,Ci,Ai,Aw,Az,Tryz.t23];omega
  ·simp only [Aj,Ci,Ai,Aw,Az,Tryz.t23];omega
  refine L1 ?_;refine ABp ?_;refine Qv ?_;refine ALz ?_
  rw [Ns hlt,By,Bz,Ek]
  exact D4 (own:=[]) (fun _=>.refl _) (by repeat (first|exact Be|refine Bd (by first|exact Ce|exact Es|exact Lz|exact Gy|exact D8|exact F3|exact Low.ro _ Ju|(simp [or_imp,forall_and];done)) ?_)) (by simp) (by simp)
 have hxe:l.length≤x:=by simpa using ht16
 have hm:=Zj (c:=c) (row:=row) fun j y hy=>hx.2 j y (by have:=(Ad.1 hy).1;omega) hy
 rw [E8 hxe]
 refine Z28 ?_;refine Z17 ?_;refine Z31 ?_;exact A8 (Ay A6 A6) ⟨by rw [hm],rfl⟩ (hlow:=by simpa using (Es (n:=Hp.length) (k:=3) (o:=false) (l:=l.map fun e=>(En e c row).1)))

theorem c50 (c:List Col) (hc:OkCols c) (m:Mov) (h:OkMov m) (row:List Val) (hf:∀v∈row,Fine v) (hl:row.length=c.length) (Hp:List AObj):AFun Tryz.prog 50 [Am c,Gw m,Cv row] Hp (.tup [Cv (Er c m row).1,A5 (Er c m row).2]):=by
 have hcl:=hc.len
 have hrk:=dj (c:=c) (row:=row) (l:=m.ahead)
 have hal:=h.ahead.len
 refine Af [.tmp 6,.tmp 7] [0,1,2] Tryz.func50 Tryz.ntmps50 (fun d=>?_)
 refine Z17 ?_;refine A2 [0,2,4] ?_;refine Z27 ?_;refine Aa Tryz.call95 (c95 c hc row hf (by omega) m.ahead h.ahead _) ?_;refine Z75 ?_;refine A2 [0,2,4,8,9] ?_;refine Z8 ?_;refine A2 [0,2,4,8,9,22] ?_
 refine A3 (fun ht22=>?_) (fun ht22=>?_)
 ·have hm:Er c m row=([],(Ba c row m.ahead).2):=if_pos ht22
  refine Z1 ?_;refine AF9 ?_;exact Z41
 have hm:Er c m row=(G7 m.take c row++(Ba c row m.ahead).1,0):=if_neg (by rw [ht22];simp)
 refine Lm ?_;refine A2 [0,2,4,8,10] ?_;refine Z67 ?_;refine N7 10 3 ?_;refine Z22 ?_;refine A2 [2,4,8,10,24,25,26] ?_
 refine B7 (α:=Nat) (fun x=>⟨48,A7 2 (Cv row) (A7 4 (.ro (J6 m)) (A7 8 (Cv (Ba c row m.ahead).1) (A7 10 (.slice true 3 ((G7 m.take (c.take x) row).map C3)) (A7 24 (Am c) (A7 25 (A5 (c.length:Nat)) (A7 26 (A5 (x:Nat)) (fun _=>.any))))))),Hp,[],[],none⟩) (fun x=>x≤c.length) (fun x=>c.length-x) (0) (Ar _) (Bo (by simp [G7])) rfl (fun x hx=>?_)
 refine Z2 ?_;refine A2 [2,4,8,10,24,25,26,27] ?_
 refine Dm (fun ht27=>?_) (fun ht27=>?_)
 ·have hlt:x<c.length:=by simpa using ht27
  have hxr:x<row.length:=by omega
  have hkl:=uw (take:=m.take) (c:=c.take x) (row:=row)
  rw [Ci] at hkl
  refine Pl ?_
  refine A4 (h:=Ac (x) (Bq c[x]) (fun _=>Ax hlt)) (hr:=?_)
  refine gi ?_;refine A2 [2,4,8,10,11,12,24,25,26] ?_;refine Z27 ?_;refine Aa Tryz.call96 (c96 m.take c[x].name h.takes _) ?_;refine A4 ?_;refine A2 [2,4,8,10,11,24,25,26,36] ?_
  refine A3 (fun ht36=>?_) (fun ht36=>?_)
  ·have hk:=AHi hlt hxr (by simpa using ht36)
   refine wm ?_;refine Z0 ?_
   refine A4 (h:=Ac (x) (C3 row[x]) (fun _=>Ax hxr)) (hr:=?_)
   refine Z57 ?_
   refine Eu jU Tryz.type23 ?_ ?_ ?_
   ·simp only [Aj,Ci,Ai,Aw,Az,Tryz.t23];omega
   ·simp only [Aj,Ci,Ai,Aw,Az,Tryz.t23];omega
   refine L1 ?_;refine A2 [2,4,8,10,24,25,26] ?_;refine Qv ?_;refine A2 [2,4,8,10,24,25,26] ?_;refine gm ?_
   simp only [hk,By,Bz,Ek]
   exact D4 (own:=[]) (fun _=>.refl _) (by repeat (first|exact Be|refine Bd (by first|exact Ce|exact Es|exact Lz|exact Gy|exact D8|exact F3|exact Low.ro _ Ju|(simp [or_imp,forall_and];done)) ?_)) (by simp) (by simp)
  have hk:=ADv hlt hxr (by simpa using ht36)
  refine Z97 ?_;refine A2 [2,4,8,10,24,25,26] ?_;refine gm ?_
  simp only [hk,By,Bz,Ek]
  exact D4 (own:=[]) (fun _=>.refl _) (by repeat (first|exact Be|refine Bd (by first|exact Ce|exact Es|exact Lz|exact Gy|exact D8|exact F3|exact Low.ro _ Ju|(simp [or_imp,forall_and];done)) ?_)) (by simp) (by simp)
 have hxe:c.length≤x:=by simpa using ht27
 rw [E8 hxe]
 have hkl:=uw (take:=m.take) (c:=c) (row:=row)
 refine Z28 ?_;refine Fp ?_;refine R.moveT ?_;refine A4 ?_
 refine Eu jU Tryz.type23 ?_ ?_ ?_
 ·simp only [Aj,Ci,Ai,Aw,Az,Tryz.t23];omega
 ·simp only [Aj,Ci,Ai,Aw,Az,Tryz.t23];omega
 refine L1 ?_;refine Z88 ?_;exact A8 (Ay A6 A6) ⟨by rw [hm,←By]<;>rfl,rfl⟩ (hlow:=by rw [←By];simpa using (Es (n:=Hp.length) (k:=3) (o:=false) (l:=G7 m.take c row++(Ba c row m.ahead).1)))

theorem c68 (a dd:List Col) (ha:a.length≤1048576) (hd:OkCols dd) (m:Mov) (h:OkMov m) (hb:m.back.length=m.take.length) (hs:∀y∈a,¬0≤Jp y.name m.take→∃j:Nat,B6 y.name dd=j∧j<dd.length) (row:List Val) (hf:∀v∈row,Fine v) (hl:row.length=dd.length) (Hp:List AObj):AFun Tryz.prog 68 [Am a,Am dd,Gw m,Cv row] Hp (.tup [Cv (D7 a dd m row).1,A5 (D7 a dd m row).2]):=by
 have hdl:=hd.len
 refine Af [.tmp 8,.tmp 9] [0,1,2,3] Tryz.func68 Tryz.ntmps68 (fun d=>?_)
 refine Z17 ?_;refine A2 [0,1,3,6] ?_;refine Z27 ?_;refine Aa Tryz.call95 (c95 dd hd row hf (by omega) m.back h.back _) ?_;refine Z75 ?_;refine A2 [0,1,3,6,10,11] ?_;refine Z8 ?_;refine A2 [0,1,3,6,10,11,25] ?_
 refine A3 (fun ht25=>?_) (fun ht25=>?_)
 ·have hm:D7 a dd m row=([],(Ba dd row m.back).2):=if_pos ht25
  refine Z1 ?_;refine Ru 8 3 false ?_;refine A4 ?_;refine A2 [8,9] ?_;refine Gn ?_;exact Z41
 have hm:D7 a dd m row=((a.map (Tc m.take (Ba dd row m.back).1 row dd)),0):=if_neg (by rw [ht25];simp)
 have hwl:=Mo (c:=dd) (row:=row) (l:=m.back) (by simpa using ht25)
 refine Lm ?_;refine A2 [0,1,3,6,10,12] ?_;refine Z67 ?_;refine N7 12 3 ?_;refine Z22 ?_;refine ABq ?_
 refine B7 (α:=Nat) (fun x=>⟨59,A7 1 (Am dd) (A7 3 (Cv row) (A7 6 (.ro (J6 m)) (A7 10 (Cv (Ba dd row m.back).1) (A7 12 (.slice true 3 (((a.map (Tc m.take (Ba dd row m.back).1 row dd)).take x).map C3)) (A7 27 (Am a) (A7 28 (A5 (a.length:Nat)) (A7 29 (A5 (x:Nat)) (fun _=>.any)))))))),Hp,[],[],none⟩) (fun x=>x≤a.length) (fun x=>a.length-x) (0) (Ar _) (Bo (by simp)) rfl (fun x hx=>?_)
 refine Z2 ?_;refine A2 [1,3,6,10,12,27,28,29,30] ?_
 refine Dm (fun ht30=>?_) (fun ht30=>?_)
 ·have hlt:x<a.length:=by simpa using ht30
  have hol:((a.map (Tc m.take (Ba dd row m.back).1 row dd)).take x).length≤x:=List.length_take_le _ _
  have hon:(a.map (Tc m.take (Ba dd row m.back).1 row dd)).take (x+1)=(a.map (Tc m.take (Ba dd row m.back).1 row dd)).take x++[Tc m.take (Ba dd row m.back).1 row dd a[x]]:=by
   rw [Hv (by rw [Aj];exact hlt),Nz]
  refine Qr ?_
  refine A4 (h:=Ac (x) (Bq a[x]) (fun _=>Ax hlt)) (hr:=?_)
  refine Rn ?_;refine A2 [1,3,6,10,12,14,27,28,29] ?_;refine Z60 ?_;refine Aa Tryz.call70 (c70 m.take a[x].name h.takes _) ?_;refine A4 ?_;refine A2 [1,3,6,10,12,14,15,27,28,29] ?_;refine Z1 ?_;refine A2 [1,3,6,10,12,14,15,27,28,29,39] ?_
  refine A3 (fun ht39=>?_) (fun ht39=>?_)
  ·have hj0:0≤Jp a[x].name m.take:=by simpa using ht39
   obtain ⟨j,hj,hjl⟩:=ux hj0
   have hw:Tc m.take (Ba dd row m.back).1 row dd a[x]=(Ba dd row m.back).1.getD j noV:=by unfold Tc;rw [if_pos hj0,hj];rfl
   refine Fp ?_;refine R.moveT ?_;refine Z0 ?_
   refine A4 (h:=Ac (j) (C3 ((Ba dd row m.back).1.getD j noV)) (fun _=>AIn (by omega))) (hr:=?_)
   refine Z57 ?_
   refine Eu jU Tryz.type23 ?_ ?_ ?_
   ·simp only [Aj,Ci,Ai,Aw,Az,Tryz.t23];omega
   ·simp only [Aj,Ci,Ai,Aw,Az,Tryz.t23];omega
   refine L1 ?_;refine ABq ?_;refine Z38 ?_;refine K.blE ?_;refine Fh ?_;refine Z12 ?_;refine ABq ?_;refine gm ?_
   rw [hon,hw,By,Bz,Ek]
   exact D4 (own:=[]) (fun _=>.refl _) (by repeat (first|exact Be|refine Bd (by first|exact Ce|exact Es|exact Lz|exact Gy|exact D8|exact F3|exact Low.ro _ Ju|(simp [or_imp,forall_and];done)) ?_)) (by simp) (by simp)
  have hjn:¬0≤Jp a[x].name m.take:=by simpa using ht39
  obtain ⟨j,hj,hjl⟩:=hs a[x] (B1 hlt) hjn
  have hw:Tc m.take (Ba dd row m.back).1 row dd a[x]=row.getD j noV:=by unfold Tc;rw [if_neg hjn,hj];rfl
  refine og ?_;refine Z89 ?_;refine Aa Tryz.call58 (c58 dd hd a[x].name _) ?_
  refine A4 (h:=Ac (j) (C3 (row.getD j noV)) (fun _=>AIn (by omega))) (hr:=?_)
  refine Z57 ?_
  refine Eu jU Tryz.type23 ?_ ?_ ?_
  ·simp only [Aj,Ci,Ai,Aw,Az,Tryz.t23];omega
  ·simp only [Aj,Ci,Ai,Aw,Az,Tryz.t23];omega
  refine L1 ?_;refine ABq ?_;refine Qv ?_;refine ABq ?_;refine gm ?_
  rw [hon,hw,By,Bz,Ek]
  exact D4 (own:=[]) (fun _=>.refl _) (by repeat (first|exact Be|refine Bd (by first|exact Ce|exact Es|exact Lz|exact Gy|exact D8|exact F3|exact Low.ro _ Ju|(simp [or_imp,forall_and];done)) ?_)) (by simp) (by simp)
 have hxe:a.length≤x:=by simpa using ht30
 rw [E8 (by rw [Aj];exact hxe)]
 refine Z28 ?_;refine Z17 ?_;refine A2 [8,9] ?_;refine Gn ?_;exact A8 (Ay A6 A6) ⟨by rw [hm],rfl⟩ (hlow:=by simpa using (Es (n:=Hp.length) (k:=3) (o:=false) (l:=(a.map (Tc m.take (Ba dd row m.back).1 row dd)))))

end Go.SX.Nb
