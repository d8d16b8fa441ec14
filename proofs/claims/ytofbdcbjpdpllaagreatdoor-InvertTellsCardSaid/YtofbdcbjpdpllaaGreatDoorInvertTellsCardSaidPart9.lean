/- On the way (part 9). -/
import Derived.Shelf.Strings.Builder1
import Derived.Test.YtofbdcbjpdpllaaGreatDoorInvertTellsCardSaidPart8
set_option linter.all false
namespace Go.SX.Nb
open Go Go.SX Go.Proofs
variable [ErrAt]
set_option maxRecDepth 4000
theorem c93 (l:List Col) (hl:l.length≤1000000) (Hp:List AObj):AFun Tryz.prog 93 [B0 l] Hp (B0 l):=by
 refine Aj [.tmp 2] [0] Tryz.func93 Tryz.ntmps93 (fun d=>?_)
 refine Z56 ?_;refine Z25 ?_
 refine R.eqlNil jU (by kernel_rfl) (fun b hb=>?_)
 refine A2 [0,4] ?_
 refine A3 (fun ht4=>?_) (fun ht4=>?_)
 ·have hl0:l=[]:=by simpa using hb ht4
  subst hl0
  refine Z2 ?_;refine R.nilTmp 2 2 false ?_;refine Z4 ?_;refine Fm ?_;exact A8 (Ai A7) ⟨rfl,rfl⟩
 refine Xr ?_;refine Sq ?_;refine A4 ?_
 refine Gz jU Tryz.type41 ?_ ?_ ?_
 ·simp [Tryz.t41];omega
 ·simp [Tryz.t41];omega
 refine Jh ?_;refine Z4 ?_;exact A8 (Ai A7) ⟨rfl,rfl⟩

theorem ADw {Hp:List AObj} {y:Col} {n:Nat} (h:∀x∈Hp,ObjLow Hp.length x):∀x∈Hp++[AObj.cells 41 [],AObj.cells 41 (Ac y.name::A5 y.kind::List.replicate n AV.any)],ObjLow (Hp.length+2) x:=by
 intro x hx
 rcases Ek.1 hx with hx|hx
 ·exact P4 (by omega) (h x hx)
 simp only [C0,Fb,or_false] at hx
 rcases hx with rfl|rfl
 ·intro z hz;cases hz
 intro z hz
 simp only [C0] at hz
 rcases hz with rfl|rfl|hz
 ·simp
 ·simp
 rw [List.eq_of_mem_replicate hz];simp
theorem AV1 (y:Col) (Hp:List AObj):ACallO Tryz.prog 93 [B0 [y]] Hp (fun r H'=>∃cc,1≤cc∧r=.sl (oid Hp.length 1) 2 1 cc∧H'=Hp++[.cells 41 [],.cells 41 (Ac y.name::A5 y.kind::List.replicate ((cc-1)*2) AV.any)]):=by
 refine ACallO.body [.tmp 2] [0] Tryz.func93 Tryz.ntmps93 (fun d=>?_)
 refine Z56 ?_;refine Z89 ?_
 refine L8 (fun hlow=>?_)
 refine A4 ?_
 refine R.eqlNil jU (by kernel_rfl) (fun b hb=>?_)
 refine A2 [0,4] ?_
 refine A3 (fun ht4=>?_) (fun ht4=>?_)
 ·exact absurd (hb ht4) (by simp)
 refine Xr ?_;refine R.buildObj0 (n:=0) jU Tryz.sizeOf41 ?_;refine A4 ?_
 refine R.appendObj (k:=2) (n:=1) jU Tryz.type41 (show [D8 y]≠[] by simp) ?_ ?_ (fun cc hcc=>?_)
 ·simp [Tryz.t41]
 ·simp
 have e0:Mr [D8 y]++List.replicate ((cc-[D8 y].length)*2) AV.any=Ac y.name::A5 y.kind::List.replicate ((cc-1)*2) AV.any:=rfl
 rw [e0]
 clear e0
 refine A4 ?_;refine Z4 ?_;exact K.finO 2 (A7 (t:=2)) ⟨cc,hcc,rfl,rfl⟩ (hlow:=by simp [oid]) (hobj:=ADw hlow)

theorem AQp (c:List Col) (hc:OkCols c) (m:Mov) (h:OkMov m) (h3:(m.kind==3)=false) (Hp:List AObj):AFun Tryz.prog 185 [B0 c,Ir m] Hp (B0 (Bu c m)):=by
 refine Aj [.tmp 4] [0,1] Tryz.func185 Tryz.ntmps185 (fun d=>?_)
 refine nx ?_;refine Z1 ?_;refine A9 Tryz.call93 (c93 m.give h.gives2 _) ?_;refine A4 ?_;refine AG7 ?_;refine A2 [0,3,5,12] ?_
 refine A3 (fun ht12=>?_) (fun ht12=>?_)
 ·rw [h3] at ht12;cases ht12
 refine Z98 ?_;exact AO4

theorem AQq (c:List Col) (hc:OkCols c) (m:Mov) (h:OkMov m) (h3:(m.kind==3)=true) (s:Str) (y:Col) (ht:m.take=[s]) (hg:m.give=[y]) (Hp:List AObj):AFun Tryz.prog 185 [B0 c,Ir m] Hp (B0 (Bu c m)):=by
 have hgv:=tj (c:=c) h3 ht hg
 have hgy:=lx (c:=c) h3 ht hg
 obtain ⟨kd,tk,gv,ah,bk⟩:=m
 simp only at ht hg h3
 subst ht hg
 refine Aj [.tmp 4] [0,1] Tryz.func185 Tryz.ntmps185 (fun d=>?_)
 refine nx ?_;refine Z1 ?_;refine R.callO Tryz.call93 (AV1 y _) ?_
 rintro _ _ ⟨cc,hcc,rfl,rfl⟩
 refine ⟨[.cells 41 [],.cells 41 (Ac y.name::A5 y.kind::List.replicate ((cc-1)*2) AV.any)],by simp,?_⟩
 simp only [Jd,Dx]
 refine A4 ?_;refine AG7 ?_;refine A2 [0,3,5,12] ?_
 refine A3 (fun ht12=>?_) (fun ht12=>?_)
 ·refine Z14 ?_
  refine A4 (h:=Ad (0) (Ac s) (fun _=>rfl)) (hr:=?_)
  refine A4 ?_;refine A9 Tryz.call58 (c58 c hc s _) ?_;refine A4 ?_;refine A2 [0,5,6] ?_;refine Z1 ?_;refine A2 [0,5,6,20] ?_
  refine A3 (fun ht20=>?_) (fun ht20=>?_)
  ·have hf:¬C6 s c<0:=by simp at ht20;omega
   obtain ⟨jj,hjj,hjc⟩:=J4 hf
   refine Z22 ?_
   refine A4 (h:=Ad ((C6 s c).toNat) (D8 (c.getD (C6 s c).toNat ⟨[],0⟩)) (fun _=>X1 hf)) (hr:=?_)
   refine Z0 ?_;refine R.indexAddrSl (n:=1) 0 jU Tryz.sizeOf41 (by decide) ?_
   refine A4 (h:=Q.fieldAddrPtr (hc:=rfl)) (hr:=?_)
   refine Mb (y:=A5 (c.getD (C6 s c).toNat ⟨[],0⟩).kind) (ys:=[A5 (c.getD (C6 s c).toNat ⟨[],0⟩).kind]) (n:=1) (cs:=Ac y.name::A5 y.kind::List.replicate ((cc-1)*2) AV.any) (cs':=Ac y.name::A5 (c.getD (C6 s c).toNat ⟨[],0⟩).kind::List.replicate ((cc-1)*2) AV.any) (t':=41) jS ?_ (hc:=rfl) (hput:=rfl) (hfit:=by simp)
   refine A2 [5] ?_;refine Fl ?_;refine AMx ?_;exact AG1
  have hf:C6 s c<0:=by simp at ht20;omega
  refine AN4 ?_;exact AG1
 rw [h3] at ht12;cases ht12

/-- What a move must have before it is turned. -/
structure MvOk (m:Mov):Prop where
 ok:OkMov m
 ahead:m.ahead.length=m.give.length
 back:m.back.length=m.take.length
 one:(m.kind==3)=true→m.take.length=1∧m.give.length=1
theorem AHt {m:Mov} (h:OkMov m) (hc:Fw m=true):MvOk m:=⟨h,(Ln hc).1,(Ln hc).2,fun h3=>Pi hc (by rw [h3];rfl)⟩
theorem AV2 (c:List Col) (hc:OkCols c) (m:Mov) (h:MvOk m) (Hp:List AObj):AFun Tryz.prog 185 [B0 c,Ir m] Hp (B0 (Bu c m)):=by
 cases h3:m.kind==3 with
 | false=>exact AQp c hc m h.ok h3 Hp
 | true =>
  obtain ⟨h1,h2⟩:=h.one h3
  obtain ⟨s,hs⟩:=i4 h1
  obtain ⟨y,hy⟩:=i4 h2
  exact AQq c hc m h.ok h3 s y hs hy Hp
theorem AV3 (c:List Col) (hc:OkCols c) (m:Mov) (h:MvOk m) (Hp:List AObj):AFun Tryz.prog 107 [B0 c,Ir m] Hp (B0 (Bu c m)):=by
 cases h3:m.kind==3 with
 | false=>exact AUz c hc m h.ok h3 Hp
 | true =>
  obtain ⟨h1,h2⟩:=h.one h3
  obtain ⟨s,hs⟩:=i4 h1
  obtain ⟨y,hy⟩:=i4 h2
  exact AV0 c hc m h.ok h3 s y hs hy Hp
theorem Zp {c:List Col} {m:Mov} (h:OkMov m):OkCols (Bu c m):=by
 refine ⟨by rw [Ky];exact I7 h.gives2 (by decide),fun y hy=>?_⟩
 unfold Bu at hy
 split at hy
 ·split at hy
  ·exact h.gives.2 y hy
  cases hg:m.give with
  | nil=>rw [hg] at hy;cases hy
  | cons z r =>
   rw [hg] at hy
   rcases C0.1 hy with rfl|hy
   ·exact h.gives.2 z (by rw [hg];exact Js)
   exact h.gives.2 y (by rw [hg];exact It _ hy)
 exact h.gives.2 y hy
theorem Zq {c give:List Col} {take:List Str} (hc:OkCols c) (hg:OkCols give) (hg2:give.length≤1000000):OkCols (Dt c take give).1:=by
 have h0:OkCols ([]:List Col):=⟨by decide,fun y hy=>by cases hy⟩
 unfold Dt
 split
 ·exact h0
 rename_i hr
 split
 ·exact h0
 split
 ·exact h0
 split
 ·exact h0
 split
 ·exact h0
 exact pt hc (by simpa using hr) hg hg2 rfl
theorem Zr {c give:List Col} {take:List Str} (h:((Dt c take give).2 != 0)=false):∀s∈take,¬C6 s c<0:=by
 have ht:Hy c take=true:=by
  unfold Dt at h
  split at h
  ·cases h
  split at h
  ·cases h
  rename_i ht
  simpa using ht
 intro s hs hf
 obtain ⟨j,hj⟩:=Cr hs
 have:=takenM_true.1 ht j s hj
 unfold Ia at this
 rw [show decide (C6 s c<0)=true by simpa using hf] at this
 simp at this
theorem V3 {over:List Col} {l:List Expr} {w:List Col} {x:Nat} (hl:x<l.length) (hw:x<w.length):
  Dr over (l.drop x) (w.drop x)=if Qm l[x] over w[x].kind != 0 then Qm l[x] over w[x].kind else Dr over (l.drop (x+1)) (w.drop (x+1)):=by
 rw [H6 hl,H6 hw]
 rfl
theorem Zs {over:List Col} {l:List Expr} {w:List Col} {x:Nat} (hl:l.length≤x):Dr over (l.drop x) (w.drop x)=0:=by
 rw [List.drop_eq_nil_of_le hl]
 cases w.drop x<;>rfl
theorem yf {α β:Type} {f:α→β} {l:List α} {x:Nat} (h:x<l.length):(l.take (x+1)).map f=(l.take x).map f++[f l[x]]:=by
 rw [Gm h,Cs];rfl
theorem tq {c:List Col} {m:Mov} (h:((Dt c m.take (Bu c m)).2 != 0)=true):Do c m=([],(Dt c m.take (Bu c m)).2):=if_pos h
theorem tt {c:List Col} {m:Mov} (h:((Dt c m.take (Bu c m)).2 != 0)=false) (h2:(Dr c m.ahead (Bu c m) != 0)=true):Do c m=([],Dr c m.ahead (Bu c m)):=by
 unfold Do;rw [if_neg (by rw [h];simp),if_pos h2]
theorem tw {c:List Col} {m:Mov} (h:((Dt c m.take (Bu c m)).2 != 0)=false) (h2:(Dr c m.ahead (Bu c m) != 0)=false) (h3:(Dr (Dt c m.take (Bu c m)).1 m.back (Il c m) != 0)=true):Do c m=([],Dr (Dt c m.take (Bu c m)).1 m.back (Il c m)):=by
 unfold Do;rw [if_neg (by rw [h];simp),if_neg (by rw [h2];simp),if_pos h3]
theorem tx {c:List Col} {m:Mov} (h:((Dt c m.take (Bu c m)).2 != 0)=false) (h2:(Dr c m.ahead (Bu c m) != 0)=false) (h3:(Dr (Dt c m.take (Bu c m)).1 m.back (Il c m) != 0)=false):Do c m=((Dt c m.take (Bu c m)).1,0):=by
 unfold Do;rw [if_neg (by rw [h];simp),if_neg (by rw [h2];simp),if_neg (by rw [h3];simp)]
theorem AQr (l:List Expr) (h:OkEs l) (w:List Col) (hw:w.length=l.length) (c:List Col) (hc:OkCols c) (Hp:List AObj):AFun Tryz.prog 187 [Jp l,B0 w,B0 c] Hp (A5 (Dr c l w)):=by
 refine Aj [.tmp 6] [0,1,2] Tryz.func187 Tryz.ntmps187 (fun d=>?_)
 refine Z2 ?_;refine A2 [0,1,2] ?_;refine Z31 ?_;refine A2 [1,2,11,12,13] ?_
 refine B9 (α:=Nat) (fun x=>⟨37,Aa 1 (B0 w) (Aa 2 (B0 c) (Aa 11 (Jp l) (Aa 12 (A5 (l.length:Nat)) (Aa 13 (A5 (x:Nat)) (fun _=>.any))))),Hp,[],[],none⟩) (fun x=>x≤l.length∧Dr c l w=Dr c (l.drop x) (w.drop x)) (fun x=>l.length-x) (0) ⟨Av _,rfl⟩ (Az (by simp)) rfl (fun x hx=>?_)
 refine Z2 ?_;refine A2 [1,2,11,12,13,14] ?_
 refine Ev (fun ht14=>?_) (fun ht14=>?_)
 ·have hlt:x<l.length:=by simpa using ht14
  have hlw:x<w.length:=by omega
  have hlen:=h.len
  have hst:=V3 (over:=c) hlt hlw
  refine U8 ?_
  refine A4 (h:=Ad (x) (Ab l[x]) (fun _=>B3 hlt)) (hr:=?_)
  refine w5 ?_;refine A2 [1,2,7,8,11,12,13] ?_;refine Z8 ?_;refine A9 Tryz.call13 (c13 61 l[x] (h.ok _ (Bb hlt)) (by decide) c hc _) ?_;refine L9 ?_;refine A2 [1,2,7,8,10,11,12,13] ?_;refine Z1 ?_;refine A2 [1,2,7,8,10,11,12,13,25] ?_
  refine A3 (fun ht25=>?_) (fun ht25=>?_)
  ·have he:Qm l[x] c w[x].kind=(G5 l[x] c).2:=if_pos ht25
   have hm:Dr c l w=(G5 l[x] c).2:=by rw [hx.2,hst,he,if_pos ht25]
   refine Z1 ?_;refine A2 [6] ?_;refine Z10 ?_;exact AB3
  refine Z3 ?_;refine C3 [0,0,0,0,12,28,60,127,255] 7 Am (by kernel_rfl) ?_;refine O6 ?_
  refine Aq (h:=Ad (x) (D8 w[x]) (fun _=>B3 hlw)) (hr:=?_)
  refine Z85 ?_;refine A9 Tryz.call244 (AUw 61 l[x] (h.ok _ (Bb hlt)) (by decide) c hc w[x].kind _) ?_;refine A4 ?_;refine A2 [1,2,11,12,13,35] ?_
  refine A3 (fun ht35=>?_) (fun ht35=>?_)
  ·have he:Qm l[x] c w[x].kind=10:=by unfold Qm;rw [if_neg (by rw [ht25];simp),if_pos ht35]
   have hm:Dr c l w=10:=by rw [hx.2,hst,he];rfl
   refine vq ?_;exact AKh
  have he:Qm l[x] c w[x].kind=0:=by unfold Qm;rw [if_neg (by rw [ht25];simp),if_neg (by rw [ht35];simp)]
  have hnx:Dr c l w=Dr c (l.drop (x+1)) (w.drop (x+1)):=by rw [hx.2,hst,he];rfl
  refine Ni ?_;refine A2 [1,2,11,12,13] ?_;refine B2 (x+1) ⟨hlt,hnx⟩ (by omega) ?_
  exact Dz (own:=[]) (fun _=>.refl _) (by repeat (first|exact By|refine Bx (by first|(simp [or_imp,forall_and];done)|exact D4) ?_)) (by simp) (by simp)
 have hxe:l.length≤x:=by simpa using ht14
 have hm:Dr c l w=0:=by rw [hx.2,Zs hxe]
 refine So ?_;exact AOr

theorem AV4 (c:List Col) (hc:OkCols c) (m:Mov) (h:OkMov m) (hf:∀s∈m.take,¬C6 s c<0) (Hp:List AObj):AFun Tryz.prog 188 [B0 c,Ir m] Hp (B0 (Il c m)):=by
 refine Aj [.tmp 4] [0,1] Tryz.func188 Tryz.ntmps188 (fun d=>?_)
 refine nx ?_;refine Z2 ?_;refine A2 [0,3,5] ?_;refine Z89 ?_;refine R.nilSl 5 2 ?_;refine Z72 ?_;refine A2 [0,5,9,10,11] ?_
 refine B9 (α:=Nat) (fun x=>⟨26,Aa 0 (B0 c) (Aa 5 (.slice true 2 (((m.take.take x).map fun s=>c.getD (C6 s c).toNat ⟨[],0⟩).map D8)) (Aa 9 (En m.take) (Aa 10 (A5 (m.take.length:Nat)) (Aa 11 (A5 (x:Nat)) (fun _=>.any))))),Hp,[],[],none⟩) (fun x=>x≤m.take.length) (fun x=>m.take.length-x) (0) (Av _) (Az (by simp)) rfl (fun x hx=>?_)
 refine Z2 ?_;refine A2 [0,5,9,10,11,12] ?_
 refine Ev (fun ht12=>?_) (fun ht12=>?_)
 ·have hlt:x<m.take.length:=by simpa using ht12
  have htk:=h.takes
  have hfx:=hf _ (Bb hlt)
  obtain ⟨jj,hjj,hjc⟩:=J4 hfx
  refine Wc ?_
  refine A4 (h:=Ad (x) (Ac m.take[x]) (fun _=>B3 hlt)) (hr:=?_)
  refine Z0 ?_;refine A2 [0,5,7,9,10,11] ?_;refine j6 ?_;refine Z11 ?_;refine A9 Tryz.call58 (c58 c hc m.take[x] _) ?_
  refine A4 (h:=Ad ((C6 m.take[x] c).toNat) (D8 (c.getD (C6 m.take[x] c).toNat ⟨[],0⟩)) (fun _=>X1 hfx)) (hr:=?_)
  refine fc ?_
  refine Gz jU Tryz.type41 ?_ ?_ ?_
  ·simp only [B8,E7,B6,Bc,Tryz.t41];omega
  ·simp only [B8,E7,B6,Bc,Tryz.t41];omega
  refine Jh ?_;refine A2 [0,5,9,10,11] ?_;refine jg ?_;refine A2 [0,5,9,10,11] ?_
  refine B2 (x+1) hlt (by omega) (Bz ?_)
  rw [yf hlt,Cs]
  rfl
 have hxe:m.take.length≤x:=by simpa using ht12
 refine Z30 ?_;refine Z1 ?_;refine Z33 ?_;exact A8 (Ai A7) ⟨by unfold Il;rw [Dn hxe]<;>rfl,rfl⟩ (hlow:=Io)

theorem AV5 (c:List Col) (hc:OkCols c) (m:Mov) (h:MvOk m) (Hp:List AObj):AFun Tryz.prog 144 [B0 c,Ir m] Hp (.tup [B0 (Do c m).1,A5 (Do c m).2]):=by
 refine Aj [.tmp 4,.tmp 5] [0,1] Tryz.func144 Tryz.ntmps144 (fun d=>?_)
 refine Z14 ?_;refine Lr ?_;refine Z1 ?_;refine A9 Tryz.call185 (AV2 c hc m h _) ?_;refine A4 ?_;refine A2 [0,3,6] ?_;refine E9 ?_
 have hg:=Zp (c:=c) h.ok
 have hg2:(Bu c m).length≤1000000:=by rw [Ky];exact h.ok.gives2
 refine Z72 ?_;refine A9 Tryz.call186 (AUv c hc m.take h.ok.takes (Bu c m) hg hg2 _) ?_;refine L9 ?_;refine A2 [0,3,6,7,8] ?_;refine Z8 ?_;refine A2 [0,3,6,7,8,23] ?_
 refine A3 (fun ht23=>?_) (fun ht23=>?_)
 ·have hm:=tq ht23
  exact AG2
 refine fj ?_;refine A9 Tryz.call187 (AQr m.ahead h.ok.ahead (Bu c m) (by rw [Ky,h.ahead]) c hc _) ?_;refine A4 ?_;refine A2 [0,3,7,9] ?_;refine Z1 ?_;refine A2 [0,3,7,9,31] ?_
 refine A3 (fun ht31=>?_) (fun ht31=>?_)
 ·have hm:=tt ht23 ht31
  exact AG2
 refine Z3 ?_;refine Ki ?_;refine C3 [0,1,0,0,12,0,63,127] 6 Am (by kernel_rfl) ?_;refine O6 ?_;refine Cd Tryz.call188 (AV4 c hc m h.ok (Zr ht23) _) ?_;refine Z86 ?_;refine A9 Tryz.call187 (AQr m.back h.ok.back (Il c m) (by rw [Il,B8,h.back]) (Dt c m.take (Bu c m)).1 (Zq hc hg hg2) _) ?_;refine A4 ?_;refine A2 [7,10] ?_;refine Z1 ?_;refine A2 [7,10,41] ?_
 refine A3 (fun ht41=>?_) (fun ht41=>?_)
 ·have hm:=tw ht23 ht31 ht41
  exact AG2
 have hm:=tx ht23 ht31 ht41
 refine Nl ?_;exact AO8

theorem c62 (c:List Col) (hc:OkCols c) (m:Mov) (h:MvOk m) (Hp:List AObj):AFun Tryz.prog 62 [B0 c,Ir m] Hp (.tup [B0 (Do c m).1,A5 (Do c m).2]):=by
 refine Aj [.tmp 4,.tmp 5] [0,1] Tryz.func62 Tryz.ntmps62 (fun d=>?_)
 refine Z14 ?_;refine Lr ?_;refine Z1 ?_;refine A9 Tryz.call107 (AV3 c hc m h _) ?_;refine A4 ?_;refine A2 [0,3,6] ?_;refine E9 ?_
 have hg:=Zp (c:=c) h.ok
 have hg2:(Bu c m).length≤1000000:=by rw [Ky];exact h.ok.gives2
 have hgl:=Ky c m
 have hah:=h.ahead
 have hbk:=h.back
 have htk:=h.ok.takes
 refine Z72 ?_;refine A9 Tryz.call108 (ASq c hc m.take h.ok.takes (Bu c m) hg hg2 _) ?_;refine L9 ?_;refine A2 [0,3,6,7,8] ?_;refine Z8 ?_;refine A2 [0,3,6,7,8,25] ?_
 refine A3 (fun ht25=>?_) (fun ht25=>?_)
 ·have hm:=tq ht25
  exact AG2
 have hfd:=Zr ht25
 refine Nk ?_;refine A2 [0,3,6,7,9] ?_
 refine B9 (α:=Nat) (fun x=>⟨77,Aa 0 (B0 c) (Aa 3 (.ro (Ph m)) (Aa 6 (B0 (Bu c m)) (Aa 7 (B0 (Dt c m.take (Bu c m)).1) (Aa 9 (A5 (x:Nat)) (fun _=>.any))))),Hp,[],[],none⟩) (fun x=>x≤(Bu c m).length∧Dr c m.ahead (Bu c m)=Dr c (m.ahead.drop x) ((Bu c m).drop x)) (fun x=>(Bu c m).length-x) (0) ⟨Av _,rfl⟩ (Az (by simp)) rfl (fun x hx=>?_)
 refine Z46 ?_;refine A2 [0,3,6,7,9,30] ?_
 refine A3 (fun ht30=>?_) (fun ht30=>?_)
 ·have hlt:x<(Bu c m).length:=by simpa using ht30
  have hla:x<m.ahead.length:=by omega
  have hst:=V3 (over:=c) hla hlt
  refine Z50 ?_;refine C3 [0,1,0,7,15,0,0,96,224,480,0,2047,4095] 11 Am (by kernel_rfl) ?_;refine Z37 ?_
  refine Aq (h:=Ad (x) (Ab m.ahead[x]) (fun _=>B3 hla)) (hr:=?_)
  refine Z37 ?_
  refine Aq (h:=Ad (x) (D8 (Bu c m)[x]) (fun _=>B3 hlt)) (hr:=?_)
  refine Z37 ?_;refine Dq ?_;refine A9 Tryz.call109 (AQo 61 m.ahead[x] (h.ok.ahead.ok _ (Bb hla)) (by decide) (h.ok.ahead.size _ (Bb hla)) (Bu c m)[x].kind c hc _) ?_;refine A4 ?_;refine A2 [0,3,6,7,9,10] ?_;refine Z1 ?_;refine A2 [0,3,6,7,9,10,46] ?_
  refine A3 (fun ht46=>?_) (fun ht46=>?_)
  ·have hf1:Dr c m.ahead (Bu c m)=Qm m.ahead[x] c (Bu c m)[x].kind:=by rw [hx.2,hst,if_pos ht46]
   have hm:=tt ht25 (by rw [hf1];exact ht46)
   rw [hf1] at hm
   refine Z1 ?_;refine AKb ?_;refine Z74 ?_;exact ANy
  have hnx:Dr c m.ahead (Bu c m)=Dr c (m.ahead.drop (x+1)) ((Bu c m).drop (x+1)):=by rw [hx.2,hst,if_neg (by rw [ht46];simp)]
  refine Z87 ?_;refine A2 [0,3,6,7,9] ?_;exact B2 (x+1) ⟨hlt,hnx⟩ (by omega) (Bz rfl)
 have hxe:(Bu c m).length≤x:=by simpa using ht30
 have hf1:Dr c m.ahead (Bu c m)=0:=by rw [hx.2,Zs (by omega)]
 refine Z52 ?_;refine Z25 ?_;refine A2 [0,3,7,11] ?_
 refine B9 (α:=Nat) (fun k=>⟨77,Aa 0 (B0 c) (Aa 3 (.ro (Ph m)) (Aa 7 (B0 (Dt c m.take (Bu c m)).1) (Aa 11 (A5 (k:Nat)) (fun _=>.any)))),Hp,[],[],none⟩) (fun k=>k≤m.take.length∧Dr (Dt c m.take (Bu c m)).1 m.back (Il c m)=Dr (Dt c m.take (Bu c m)).1 (m.back.drop k) ((Il c m).drop k)) (fun k=>m.take.length-k) (0) ⟨Av _,rfl⟩ (Az (by simp)) rfl (fun k hk=>?_)
 refine O8 ?_;refine A2 [0,3,7,11,52] ?_
 refine A3 (fun ht52=>?_) (fun ht52=>?_)
 ·have hkt:k<m.take.length:=by simpa using ht52
  have hkb:k<m.back.length:=by omega
  have hfx:=hfd _ (Bb hkt)
  obtain ⟨jj,hjj,hjc⟩:=J4 hfx
  have hkc:k<(Il c m).length:=by rw [Il,B8];exact hkt
  have htc:(Il c m)[k]=c.getD (C6 m.take[k] c).toNat ⟨[],0⟩:=by simp only [Il,List.getElem_map]
  have hst:=V3 (over:=(Dt c m.take (Bu c m)).1) hkb hkc
  rw [htc] at hst
  refine Z50 ?_;refine C3 [0,1,0,7,15,0,0,0,128,0,896,1920,4032,8160,16352,32736,0,131071,262143] 17 Am (by kernel_rfl) ?_;refine Z37 ?_
  refine Aq (h:=Ad (k) (Ab m.back[k]) (fun _=>B3 hkb)) (hr:=?_)
  refine O6 ?_;refine Z9 ?_
  refine Aq (h:=Ad (k) (Ac m.take[k]) (fun _=>B3 hkt)) (hr:=?_)
  refine Aq ?_;refine Cd Tryz.call25 (c25 c hc m.take[k] _) ?_
  refine Aq (h:=Ad ((C6 m.take[k] c).toNat) (D8 (c.getD (C6 m.take[k] c).toNat ⟨[],0⟩)) (fun _=>X1 hfx)) (hr:=?_)
  refine Z37 ?_;refine Dq ?_;refine A9 Tryz.call109 (AQo 61 m.back[k] (h.ok.back.ok _ (Bb hkb)) (by decide) (h.ok.back.size _ (Bb hkb)) (c.getD (C6 m.take[k] c).toNat ⟨[],0⟩).kind (Dt c m.take (Bu c m)).1 (Zq hc hg hg2) _) ?_;refine A4 ?_;refine A2 [0,3,7,11,12] ?_;refine Z1 ?_;refine A2 [0,3,7,11,12,74] ?_
  refine A3 (fun ht74=>?_) (fun ht74=>?_)
  ·have hf2:=hk.2.trans hst
   rw [if_pos ht74] at hf2
   have hm:=tw ht25 (by rw [hf1];rfl) (by rw [hf2];exact ht74)
   rw [hf2] at hm
   refine Z1 ?_;refine AKb ?_;refine Z74 ?_;exact ANy
  have hnx:=hk.2.trans hst
  rw [if_neg (by rw [ht74];simp)] at hnx
  refine Z87 ?_;refine A2 [0,3,7,11] ?_;exact B2 (k+1) ⟨hkt,hnx⟩ (by omega) (Bz rfl)
 have hke:m.take.length≤k:=by simpa using ht52
 have hm:=tx ht25 (by rw [hf1];rfl) (by rw [hk.2,Zs (by omega)];rfl)
 refine Z52 ?_;refine Z14 ?_;exact AO8

def Ti {α:Type} (p:α→Bool) (l:List α):Int:=if l.any p then (l.findIdx p:Int) else -1
theorem ADx {α:Type} {p:α→Bool} {l:List α} {i:Nat} (h:i<l.length) (hn:p l[i]=true) (hp:∀(j:Nat) (y:α),j<i→l[j]? = some y→p y=false):(i:Int)=Ti p l:=by
 unfold Ti
 rw [if_pos (M5.2 ⟨_,Bb h,hn⟩)]
 congr 1
 refine (List.findIdx_eq h |>.2 ⟨hn,fun j hj=>?_⟩).symm
 exact hp j (l[j]'(by omega)) hj (Ae (by omega))
theorem ql {α:Type} {p:α→Bool} {l:List α} (h:l.any p=false):(-1:Int)=Ti p l:=by
 unfold Ti
 rw [if_neg (by rw [h];simp)]
theorem yg {α:Type} (p:α→Bool) (l:List α):decide (0≤Ti p l)=l.any p:=by
 unfold Ti
 cases l.any p<;>simp
def Pj (s:Str):Bool := !(Cg s)
def Ml (e:Expr):Bool := !(Ar e)
theorem m4 {m:Mov} (h:(((m.ahead.length:Int) != (m.give.length:Int)) || ((m.back.length:Int) != (m.take.length:Int)))=true):Fw m=false:=if_pos h
theorem m5 {m:Mov} (h:(((m.ahead.length:Int) != (m.give.length:Int)) || ((m.back.length:Int) != (m.take.length:Int)))=false):Fw m=if m.kind==1 then ((m.take.length:Int)==0)&&((m.give.length:Int)==1)
 else if m.kind==2 then ((m.take.length:Int)==1)&&((m.give.length:Int)==0)
 else if (m.kind==3) || (m.kind==6) then ((m.take.length:Int)==1)&&((m.give.length:Int)==1)
 else if m.kind==4 then ((m.take.length:Int)==1)&&decide ((1:Int)<(m.give.length:Int))
 else if m.kind==5 then decide ((1:Int)<(m.take.length:Int))&&((m.give.length:Int)==1)
 else false:=if_neg (by rw [h];simp)
theorem AV6 (m:Mov) (Hp:List AObj):AFun Tryz.prog 235 [Ir m] Hp (At (Fw m)):=by
 refine Aj [.tmp 2] [0] Tryz.func235 Tryz.ntmps235 (fun d=>?_)
 refine Z81 ?_;refine C3 [0,1,3,0,8,24,7,127] 7 Am (by kernel_rfl) ?_;refine O6 ?_;refine Z37 ?_;refine Dq ?_;refine A4 ?_;refine fm ?_;refine Z89 ?_
 simp only [B8]
 refine Z72 ?_;refine Z42 ?_;refine Mf ?_;refine A2 [1,3,4,22] ?_
 refine A3 (fun ht22=>?_) (fun ht22=>?_)
 ·simp only [B8] at ht22
  have hm:=m4 ht22
  refine Z26 ?_;exact AFk
 simp only [B8] at ht22
 have hn:=m5 ht22
 refine Re ?_;refine A2 [3,4,24] ?_;refine Z97 ?_;refine A2 [3,4,24,25] ?_
 refine A3 (fun ht25=>?_) (fun ht25=>?_)
 ·refine Xv ?_;refine o4 ?_;exact A8 (Ai A7) ⟨by rw [hn];first|(simp only [ht22,ht25,hk3,hk6,Dd,Cj,Fx,Jc,if_true,if_false,An,↓reduceIte]<;>rfl)|(simp only [ht22,ht25,hk3,Dd,Cj,Fx,if_true,if_false,An,↓reduceIte]<;>rfl)|(simp only [ht22,ht25,if_true,if_false,An,↓reduceIte]<;>rfl),rfl⟩
 refine Z1 ?_;refine A2 [3,4,24,33] ?_
 refine A3 (fun ht33=>?_) (fun ht33=>?_)
 ·refine Xv ?_;refine o4 ?_;exact A8 (Ai A7) ⟨by rw [hn];first|(simp only [ht22,ht25,ht33,hk3,hk6,Dd,Cj,Fx,Jc,if_true,if_false,An,↓reduceIte]<;>rfl)|(simp only [ht22,ht25,ht33,hk3,Dd,Cj,Fx,if_true,if_false,An,↓reduceIte]<;>rfl)|(simp only [ht22,ht25,ht33,if_true,if_false,An,↓reduceIte]<;>rfl),rfl⟩
 refine Z8 ?_;refine A2 [3,4,24,41] ?_
 refine A3 (fun ht41=>?_) (fun ht41=>?_)
 ·have hk3:=ht41
  refine Z3 ?_
  refine A3 (fun ht41=>?_) (fun ht41=>?_)
  ·refine Xv ?_;refine Z55 ?_;exact Z62
  rw [hk3] at ht41;cases ht41
 have hk3:=ht41
 refine Z29 ?_;refine A2 [3,4,24,41] ?_;refine Fl ?_
 refine A3 (fun ht41=>?_) (fun ht41=>?_)
 ·have hk6:=ht41
  refine Xv ?_;refine Z55 ?_;exact Z62
 have hk6:=ht41
 refine Z1 ?_;refine A2 [3,4,24,50] ?_
 refine A3 (fun ht50=>?_) (fun ht50=>?_)
 ·refine Xv ?_;refine o4 ?_;exact A8 (Ai A7) ⟨by rw [hn];first|(simp only [ht22,ht25,ht33,ht41,ht41,ht50,hk3,hk6,Dd,Cj,Fx,Jc,if_true,if_false,An,↓reduceIte]<;>rfl)|(simp only [ht22,ht25,ht33,ht41,ht41,ht50,hk3,Dd,Cj,Fx,if_true,if_false,An,↓reduceIte]<;>rfl)|(simp only [ht22,ht25,ht33,ht41,ht41,ht50,if_true,if_false,An,↓reduceIte]<;>rfl),rfl⟩
 refine Z1 ?_;refine A2 [3,4,58] ?_
 refine A3 (fun ht58=>?_) (fun ht58=>?_)
 ·refine Xv ?_;refine o4 ?_;exact APl
 refine jc ?_;exact APl

theorem AV7 (s:Str) (hs:s.length≤1048576) (Hp:List AObj):AFun Tryz.prog 238 [Ac s] Hp (At (Pj s)):=by
 refine Aj [.tmp 2] [0] Tryz.func238 Tryz.ntmps238 (fun d=>?_)
 refine Z56 ?_;refine Z2 ?_;refine A9 Tryz.call40 (c40 s hs _) ?_;exact j4

theorem AV8 (e:Expr) (hok:okE 61 e) (Hp:List AObj):AFun Tryz.prog 236 [Ab e] Hp (At (Ml e)):=by
 refine Aj [.tmp 2] [0] Tryz.func236 Tryz.ntmps236 (fun d=>?_)
 refine jl ?_;refine A9 Tryz.call38 (c38 61 e hok (by decide) _) ?_;exact j4

theorem AV9 (l:List Str) (hl:l.length≤1048576) (hn:∀s∈l,s.length≤1048576) (Hp:List AObj):AFun Tryz.prog 284 [En l,.fn (.func 238) [] []] Hp (A5 (Ti Pj l)):=by
 refine Aj [.tmp 4] [0,1] Tryz.func284 Tryz.ntmps284 (fun d=>?_)
 refine wh ?_
 refine B9 (α:=Nat) (fun x=>⟨19,Aa 0 (En l) (Aa 1 (.fn (.func 238) [] []) (Aa 7 (A5 l.length) (Aa 8 (A5 (x:Nat)) (fun _=>.any)))),Hp,[],[],none⟩) (fun x=>x≤l.length∧∀(j:Nat) y,j<x→l[j]? = some y→Pj y=false) (fun x=>l.length-x) (0) ⟨Av _,fun j y h=>by omega⟩ (Az (by simp)) rfl (fun x hx=>?_)
 refine vh ?_
 refine Ev (fun ht9=>?_) (fun ht9=>?_)
 ·have hlt:x<l.length:=by simpa using ht9
  refine wg ?_
  refine A4 (h:=Ad (x) (Ac l[x]) (fun _=>B3 hlt)) (hr:=?_)
  refine A4 ?_;refine U3 Tryz.call238 (AV7 l[x] (hn _ (Bb hlt)) _) ?_;refine wm ?_
  refine A3 (fun ht16=>?_) (fun ht16=>?_)
  ·refine Z1 ?_;exact AK2
  refine Ni ?_;exact AJv
 have hxe:l.length≤x:=by simpa using ht9
 refine So ?_;exact AK1

theorem AVa (l:List Str) (hl:l.length≤1048576) (hn:∀s∈l,s.length≤1048576) (Hp:List AObj):AFun Tryz.prog 237 [En l,.fn (.func 238) [] []] Hp (At (l.any Pj)):=by
 refine Aj [.tmp 4] [0,1] Tryz.func237 Tryz.ntmps237 (fun d=>?_)
 refine Z60 ?_;refine Z1 ?_;refine A9 Tryz.call284 (AV9 l hl hn _) ?_;refine Z0 ?_;exact AK5

theorem AQs (l:List Expr) (hl:l.length≤1048576) (hn:∀e∈l,okE 61 e) (Hp:List AObj):AFun Tryz.prog 251 [Jp l,.fn (.func 236) [] []] Hp (A5 (Ti Ml l)):=by
 refine Aj [.tmp 4] [0,1] Tryz.func251 Tryz.ntmps251 (fun d=>?_)
 refine wh ?_
 refine B9 (α:=Nat) (fun x=>⟨19,Aa 0 (Jp l) (Aa 1 (.fn (.func 236) [] []) (Aa 7 (A5 l.length) (Aa 8 (A5 (x:Nat)) (fun _=>.any)))),Hp,[],[],none⟩) (fun x=>x≤l.length∧∀(j:Nat) y,j<x→l[j]? = some y→Ml y=false) (fun x=>l.length-x) (0) ⟨Av _,fun j y h=>by omega⟩ (Az (by simp)) rfl (fun x hx=>?_)
 refine vh ?_
 refine Ev (fun ht9=>?_) (fun ht9=>?_)
 ·have hlt:x<l.length:=by simpa using ht9
  refine wg ?_
  refine A4 (h:=Ad (x) (Ab l[x]) (fun _=>B3 hlt)) (hr:=?_)
  refine A4 ?_;refine U3 Tryz.call236 (AV8 l[x] (hn _ (Bb hlt)) _) ?_;refine wm ?_
  refine A3 (fun ht16=>?_) (fun ht16=>?_)
  ·refine Z1 ?_;exact AK2
  refine Ni ?_;exact AJv
 have hxe:l.length≤x:=by simpa using ht9
 refine So ?_;exact AK1

theorem AJh (l:List Expr) (hl:l.length≤1048576) (hn:∀e∈l,okE 61 e) (Hp:List AObj):AFun Tryz.prog 197 [Jp l,.fn (.func 236) [] []] Hp (At (l.any Ml)):=by
 refine Aj [.tmp 4] [0,1] Tryz.func197 Tryz.ntmps197 (fun d=>?_)
 refine Z60 ?_;refine Z1 ?_;refine A9 Tryz.call251 (AQs l hl hn _) ?_;refine Z0 ?_;exact AK5

theorem AQt (s:Str) (Hp:List AObj):AFun Tryz.prog 240 [Ac s] Hp (Ab (Bh s)):=by
 refine Aj [.cell 2 26] [0] Tryz.func240 Tryz.ntmps240 (fun d=>?_)
 refine Z77 ?_;refine AFh ?_;refine G4 ?_;refine Rc 0 5 6 ?_;refine Z4 ?_;exact A8 (Ai (Ap jA jS)) ⟨by rw [Af];rfl,rfl⟩

theorem m6 {m:Mov} {c:Col}:(((!(Cg c.name)) || (!((Er c.kind==[])==(m.kind==3)))) || ((m.kind==3)&&(c.kind != 0))) = !Jq m c:=by
 unfold Jq
 cases Cg c.name<;>cases (Er c.kind==([]:Str))<;>cases (m.kind==3)<;>cases (c.kind != 0)<;>rfl
theorem AM3 {m:Mov} (h:(!(Fw m))=true):H4 m=false:=by
 have:Fw m=false:=by simpa using h
 unfold H4;rw [this];rfl
theorem AM4 {m:Mov} {c:Col} (hc:c∈m.give) (h:Jq m c=false):H4 m=false:=by
 have:m.give.all (Jq m)=false:=Od.2 ⟨c,hc,by rw [h];simp⟩
 unfold H4;rw [this];simp
theorem AM5 {m:Mov} (h:((m.take.any Pj || m.ahead.any Ml) || m.back.any Ml)=true):H4 m=false:=by
 unfold H4
 rw [show Pj=fun s => !(Cg s) from rfl,show Ml=fun e => !(Ar e) from rfl,Ib,Ib,Ib] at h
 cases h1:m.take.all Cg<;>cases h2:m.ahead.all Ar<;>cases h3:m.back.all Ar<;>simp_all
theorem AHu {m:Mov} (h1:Fw m=true) (h2:m.give.all (Jq m)=true) (h:((m.take.any Pj || m.ahead.any Ml) || m.back.any Ml)=false):H4 m=Ll m:=by
 unfold H4
 rw [show Pj=fun s => !(Cg s) from rfl,show Ml=fun e => !(Ar e) from rfl,Ib,Ib,Ib] at h
 rw [h1,h2]
 cases h1:m.take.all Cg<;>cases h2:m.ahead.all Ar<;>cases h3:m.back.all Ar<;>simp_all
theorem O5 {α β:Type} {f:α→β} {l:List α} {d:α} (h:0<l.length):(l.map f)[0]? = some (f (l.getD 0 d)):=by
 rw [Cp,Ae h,Cz,Ae h]
 rfl
theorem Mz {α:Type} {l:List α} {d:α} (h:0<l.length):l.getD 0 d∈l:=by
 rw [Cz,Ae h]
 exact Bb h
theorem ADy {m:Mov} (h:(m.kind==3)=true):Ll m=(eqE (m.ahead.getD 0 A6) (Bh (m.take.getD 0 []))&&eqE (m.back.getD 0 A6) (Bh (m.give.getD 0 ⟨[],0⟩).name)):=if_pos h
theorem ADz {m:Mov} (h:(m.kind==3)=false) (h6:(m.kind==6)=true):Ll m=(m.take.getD 0 []==(m.give.getD 0 ⟨[],0⟩).name):=by unfold Ll;rw [if_neg (by rw [h];simp),if_pos h6]
theorem AE0 {m:Mov} (h:(m.kind==3)=false) (h6:(m.kind==6)=false):Ll m=true:=by unfold Ll;rw [if_neg (by rw [h];simp),if_neg (by rw [h6];simp)]
theorem AVb (m:Mov) (h:OkMov m) (Hp:List AObj):AFun Tryz.prog 184 [Ir m] Hp (At (H4 m)):=by
 refine Aj [.tmp 2] [0] Tryz.func184 Tryz.ntmps184 (fun d=>?_)
 refine Z81 ?_;refine Z25 ?_;refine A9 Tryz.call235 (AV6 m _) ?_;refine A4 ?_;refine A2 [1,8] ?_
 refine A3 (fun ht8=>?_) (fun ht8=>?_)
 ·have hm:=AM3 ht8
  exact AG0
 have hct:Fw m=true:=by simpa using ht8
 refine fj ?_;refine A2 [1,10,11,12] ?_
 refine B9 (α:=Nat) (fun x=>⟨95,Aa 1 (.ro (Ph m)) (Aa 10 (B0 m.give) (Aa 11 (A5 (m.give.length:Nat)) (Aa 12 (A5 (x:Nat)) (fun _=>.any)))),Hp,[],[],none⟩) (fun x=>x≤m.give.length∧∀(j:Nat) (y:Col),j<x→m.give[j]? = some y→(!Jq m y)=false) (fun x=>m.give.length-x) (0) ⟨Av _,fun j y h=>by omega⟩ (Az (by simp)) rfl (fun x hx=>?_)
 refine Z2 ?_;refine A2 [1,10,11,12,13] ?_
 refine Ev (fun ht13=>?_) (fun ht13=>?_)
 ·have hlt:x<m.give.length:=by simpa using ht13
  have hgl:=h.gives2
  refine Wc ?_
  refine A4 (h:=Ad (x) (D8 m.give[x]) (fun _=>B3 hlt)) (hr:=?_)
  refine We ?_;refine A2 [1,4,10,11,12] ?_;refine C3 [0,1,3,7,15,31,63,127,255,31,543,1567,4095,8191,16383,32767,65535,131071,262143,524287,1048575,2097151,4194303,8388607] 12 Am (by kernel_rfl) ?_;refine Z9 ?_;refine Cd Tryz.call40 (c40 m.give[x].name (h.gives.2 _ (Bb hlt)) _) ?_;refine w4 ?_;refine Xj Tryz.call76 (fun hB=>c76 m.give[x].kind _) ?_;refine Z57 ?_;refine Z57 ?_;refine Dq ?_;refine wd ?_;refine Z70 ?_;refine Nj ?_;refine A2 [1,10,11,12,39] ?_
  refine A3 (fun ht39=>?_) (fun ht39=>?_)
  ·rw [m6] at ht39
   have hm:=AM4 (Bb hlt) (by simpa using ht39)
   refine Z26 ?_;exact Z83
  rw [m6] at ht39
  refine Ni ?_;refine A2 [1,10,11,12] ?_;refine B2 (x+1) ⟨hlt,D3 hlt hx.2 ht39⟩ (by omega) ?_
  exact Dz (own:=[]) (fun _=>.refl _) (by repeat (first|exact By|refine Bx (by first|(simp [or_imp,forall_and];done)|exact Io|exact low_ro.2 th) ?_)) (by simp) (by simp)
 have hxe:m.give.length≤x:=by simpa using ht13
 have hga:m.give.all (Jq m)=true:=by have:=My hxe hx.2;rw [Ib] at this;simpa using this
 refine So ?_;refine A2 [1,5] ?_;refine Z8 ?_;refine A9 Tryz.call237 (AVa m.take h.takes h.names _) ?_;refine A4 ?_;refine Z27 ?_;refine Bk Tryz.call197 (fun hB=>AJh m.ahead h.ahead.len h.ahead.ok _) ?_;refine Z0 ?_;refine Z27 ?_;refine Bk Tryz.call197 (fun hB=>AJh m.back h.back.len h.back.ok _) ?_;refine A4 ?_;refine A2 [1,55] ?_
 refine A3 (fun ht55=>?_) (fun ht55=>?_)
 ·have hm:=AM5 ht55
  exact AG0
 have hm0:=AHu hct hga ht55
 refine Re ?_;refine A2 [1,57] ?_;refine Z97 ?_;refine A2 [1,57,58] ?_
 refine A3 (fun ht58=>?_) (fun ht58=>?_)
 ·obtain ⟨hl1,hl2⟩:=Pi hct (by rw [ht58];simp)
  obtain ⟨hl3,hl4⟩:=Ln hct
  have g1:=O5 (f:=Ab) (l:=m.ahead) (d:=A6) (by omega)
  have g2:=O5 (f:=Ab) (l:=m.back) (d:=A6) (by omega)
  have g3:=O5 (f:=Ac) (l:=m.take) (d:=[]) (by omega)
  have g4:=O5 (f:=D8) (l:=m.give) (d:=⟨[],0⟩) (by omega)
  have ok1:=h.ahead.ok _ (Mz (l:=m.ahead) (d:=A6) (by omega))
  have ok2:=h.back.ok _ (Mz (l:=m.back) (d:=A6) (by omega))
  have hm:=hm0.trans (ADy ht58)
  refine C3 [0,1,3,7,0,16,48,112,240,511,1023,2047,4095,8191,16383,2047,34815,100351,231423,493567,1017855,2097151,4194303,8388607] 21 Am (by kernel_rfl) ?_;refine Z9 ?_
  refine Aq (h:=Ad (0) (Ab (m.ahead.getD 0 A6)) (fun _=>g1)) (hr:=?_)
  refine Z37 ?_
  refine Aq (h:=Ad (0) (Ac (m.take.getD 0 [])) (fun _=>g3)) (hr:=?_)
  refine Aq ?_;refine Cd Tryz.call240 (AQt (m.take.getD 0 []) _) ?_;refine Cd Tryz.call239 (AQd 61 (m.ahead.getD 0 A6) ok1 (Bh (m.take.getD 0 [])) _) ?_;refine Aq ?_;refine Z57 ?_
  refine Fh (h:=Ad (0) (Ab (m.back.getD 0 A6)) (fun _=>g2)) (hr:=?_)
  refine jf ?_
  refine Fh (h:=Ad (0) (D8 (m.give.getD 0 ⟨[],0⟩)) (fun _=>g4)) (hr:=?_)
  refine Z57 ?_;refine Xj Tryz.call240 (fun hB=>AQt (m.give.getD 0 ⟨[],0⟩).name _) ?_;refine Dq ?_;refine Bk Tryz.call239 (fun hB=>AQd 61 (m.back.getD 0 A6) ok2 (Bh (m.give.getD 0 ⟨[],0⟩).name) _) ?_;exact AOe
 refine Z1 ?_;refine A2 [1,83] ?_
 refine A3 (fun ht83=>?_) (fun ht83=>?_)
 ·obtain ⟨hl1,hl2⟩:=Pi hct (by rw [ht83];simp)
  obtain ⟨hl3,hl4⟩:=Ln hct
  have g1:=O5 (f:=Ab) (l:=m.ahead) (d:=A6) (by omega)
  have g2:=O5 (f:=Ab) (l:=m.back) (d:=A6) (by omega)
  have g3:=O5 (f:=Ac) (l:=m.take) (d:=[]) (by omega)
  have g4:=O5 (f:=D8) (l:=m.give) (d:=⟨[],0⟩) (by omega)
  have ok1:=h.ahead.ok _ (Mz (l:=m.ahead) (d:=A6) (by omega))
  have ok2:=h.back.ok _ (Mz (l:=m.back) (d:=A6) (by omega))
  have hm:=hm0.trans (ADz ht58 ht83)
  refine AOk ?_
  refine Aq (h:=Ad (0) (Ac (m.take.getD 0 [])) (fun _=>g3)) (hr:=?_)
  refine Z37 ?_
  refine Aq (h:=Ad (0) (D8 (m.give.getD 0 ⟨[],0⟩)) (fun _=>g4)) (hr:=?_)
  refine Z85 ?_;exact AOe
 have hm:=hm0.trans (AE0 ht58 ht83)
 refine jc ?_;exact o7

def yh (m:Mov):Bool := !(H4 m)
theorem AHv (l:List Mov):(decide ((l.length:Int)≤8) && !(l.any yh))=Ql l:=by
 unfold Ql
 rw [show yh=fun m => !(H4 m) from rfl,Ib]
 simp
theorem AVc (m:Mov) (h:OkMov m) (Hp:List AObj):AFun Tryz.prog 183 [Ir m] Hp (At (yh m)):=by
 refine Aj [.tmp 2] [0] Tryz.func183 Tryz.ntmps183 (fun d=>?_)
 refine jl ?_;refine A9 Tryz.call184 (AVb m h _) ?_;exact j4

theorem AVd (l:List Mov) (h:OkMovs l) (Hp:List AObj):AFun Tryz.prog 234 [Gi l,.fn (.func 183) [] []] Hp (A5 (Ti yh l)):=by
 refine Aj [.tmp 4] [0,1] Tryz.func234 Tryz.ntmps234 (fun d=>?_)
 refine wh ?_
 refine B9 (α:=Nat) (fun x=>⟨19,Aa 0 (Gi l) (Aa 1 (.fn (.func 183) [] []) (Aa 7 (A5 l.length) (Aa 8 (A5 (x:Nat)) (fun _=>.any)))),Hp,[],[],none⟩) (fun x=>x≤l.length∧∀(j:Nat) (y:Mov),j<x→l[j]? = some y→yh y=false) (fun x=>l.length-x) (0) ⟨Av _,fun j y h=>by omega⟩ (Az (by simp)) rfl (fun x hx=>?_)
 refine vh ?_
 refine Ev (fun ht9=>?_) (fun ht9=>?_)
 ·have hlt:x<l.length:=by simpa using ht9
  have hlen:=h.len
  refine wg ?_
  refine A4 (h:=Ad (x) (Ir l[x]) (fun _=>B3 hlt)) (hr:=?_)
  refine A4 ?_;refine U3 Tryz.call183 (AVc l[x] (h.each _ (Bb hlt)) _) ?_;refine wm ?_
  refine A3 (fun ht16=>?_) (fun ht16=>?_)
  ·refine Z1 ?_;exact AK2
  refine Ni ?_;exact AJv
 have hxe:l.length≤x:=by simpa using ht9
 refine So ?_;exact AK1

theorem AVe (l:List Mov) (h:OkMovs l) (Hp:List AObj):AFun Tryz.prog 182 [Gi l,.fn (.func 183) [] []] Hp (At (l.any yh)):=by
 refine Aj [.tmp 4] [0,1] Tryz.func182 Tryz.ntmps182 (fun d=>?_)
 refine Z60 ?_;refine Z1 ?_;refine A9 Tryz.call234 (AVd l h _) ?_;refine Z0 ?_;exact AK5

theorem AVf (l:List Mov) (h:OkMovs l) (Hp:List AObj):AFun Tryz.prog 142 [Gi l] Hp (At (Ql l)):=by
 refine Aj [.tmp 2] [0] Tryz.func142 Tryz.ntmps142 (fun d=>?_)
 refine Z56 ?_;refine fg ?_;refine Bk Tryz.call182 (fun hB=>AVe l h _) ?_;refine Bl ?_;refine Z55 ?_;exact A8 (Ai A7) ⟨by rw [←AHv,B8],rfl⟩

theorem c92 (c:List Col) (hc:OkCols c) (l:List Mov) (h:OkMovs l) (Hp:List AObj):AFun Tryz.prog 92 [B0 c,Gi l] Hp (At (V2 c l)):=by
 refine Aj [.tmp 4] [0,1] Tryz.func92 Tryz.ntmps92 (fun d=>?_)
 refine Z60 ?_;refine Z2 ?_;refine A9 Tryz.call57 (c57 c hc _) ?_;refine o0 ?_;refine Bk Tryz.call142 (fun hB=>AVf l h _) ?_;refine Z0 ?_;refine Z33 ?_;exact A8 (Ai A7) ⟨by unfold V2;rw [Hh],rfl⟩

theorem yi {Hp:List AObj} {c:List Col} (h:∀x∈Hp,ObjLow Hp.length x):∀x∈Hp++[AObj.cells 27 [B0 c]],ObjLow (Hp.length+1) x:=by
 intro x hx
 rcases Ek.1 hx with hx|hx
 ·exact P4 (by omega) (h x hx)
 rw [Br.1 hx]
 intro z hz
 rw [Br.1 hz]
 exact Io
theorem c94 (c:List Col) (l:List Mov) (Hp:List AObj):ACallO Tryz.prog 94 [B0 c,Gi l] Hp (fun r H'=>r=.fn (.func 143) [] [.ro [Gi l],.ptr (oid Hp.length 0) 0]∧H'=Hp++[.cells 27 [B0 c]]):=by
 refine ACallO.body [.tmp 4] [0,1] Tryz.func94 Tryz.ntmps94 (fun d=>?_)
 refine vr ?_;refine Z0 ?_;refine Ua ?_;refine E9 ?_
 refine L8 (fun hlow=>?_)
 refine vm ?_;refine Z33 ?_;exact K.finO 1 (A7 (t:=4)) ⟨rfl,rfl⟩ (hlow:=by simp [oid,or_imp,forall_and];exact ⟨fun m _ a _=>Ag _ a,fun m _ a _=>Ag _ a⟩) (hobj:=yi hlow)

theorem AVg (l oc:Nat) (ms:List Mov) (hm:∀m∈ms,MvOk m) (hml:ms.length≤1048576) (C:Nat→List Col) (hC:∀k,OkCols (C k)) (U T:Nat→List AObj) (N:Nat→Prop) (Z:List AObj→Prop) (hlen:∀k,(U k).length=(U 0).length) (hlenW:∀k,(T k).length=(U 0).length) (hll:l<(U 0).length) (hol:oc<(U 0).length)
  (hlw:∀k,∀x∈U k,ObjLow (U 0).length x) (hlW:∀k,∀x∈T k,ObjLow (U 0).length x) (h0:N 0) (hc:∀k,(U k)[oc]? = some (.cells 27 [B0 (C k)])) (hcW:∀k,(T k)[oc]? = some (.cells 27 [B0 (C k)]))
  (hn:∀k m,ms[k]? = some m→(Do (C k) m).2=0→(T k).set oc (.cells 27 [B0 (Do (C k) m).1])=U (k+1))
  (hy:∀k m X,ms[k]? = some m→N k→AYield Tryz.prog l [B0 (Do (C k) m).1,A5 (Do (C k) m).2] (U k++X) (fun b H'=>((Do (C k) m).2≠0∧∃V,H'=V++X∧V.length=(U 0).length∧(∀x∈V,ObjLow (U 0).length x)∧Z V)∨((Do (C k) m).2=0∧b=true∧N (k+1)∧H'=T k++X)))
  (hR:N ms.length→Z (U ms.length)):ACall Tryz.prog 143 [.yield l,.ro [Gi ms],.ptr oc 0] (U 0) (fun _ H'=>Z H'):=by
 refine Aj [] [0,1,2] Tryz.func143 Tryz.ntmps143 (fun d=>?_)
 refine Z14 ?_;refine A2 [0,2,8,9,10] ?_
 refine B9 (α:=Nat) (fun x=>⟨31,Aa 0 (.yield l) (Aa 2 (.ptr oc 0) (Aa 8 (Gi ms) (Aa 9 (A5 ms.length) (Aa 10 (A5 (x:Nat)) (fun _=>.any))))),U x,[],[],none⟩) (fun x=>x≤ms.length∧N x) (fun x=>ms.length-x) (0) ⟨Av _,h0⟩ (Az (by simp)) rfl (fun x hx=>?_)
 refine Z2 ?_;refine A2 [0,2,8,9,10,11] ?_
 refine Ev (fun ht11=>?_) (fun ht11=>?_)
 ·have hlt:x<ms.length:=by simpa using ht11
  refine Wc ?_
  refine A4 (h:=Ad (x) (Ir ms[x]) (fun _=>B3 hlt)) (hr:=?_)
  refine We ?_;refine A2 [0,2,5,8,9,10] ?_;refine E9 ?_
  refine A4 (h:=Fi (hc x)) (hr:=?_)
  refine A4 ?_;refine A9 Tryz.call144 (AV5 (C x) (hC x) ms[x] (hm _ (Bb hlt)) _) ?_;refine L9 ?_;refine A2 [0,2,6,7,8,9,10] ?_;refine Z31 ?_
  refine R.yield (l:=l) (args:=[B0 (Do (C x) ms[x]).1,A5 (Do (C x) ms[x]).2]) (hy x ms[x] _ (Ae hlt) hx.2) ?_
  intro b V O hV hb
  have hVO:O=[AObj.cells 48 (Ph ms[x])]∧(((Do (C x) ms[x]).2≠0∧V.length=(U 0).length∧(∀y∈V,ObjLow (U 0).length y)∧Z V)∨((Do (C x) ms[x]).2=0∧b=true∧N (x+1)∧V=T x)):=by
   rcases hb with ⟨h1,V',h2,h3,h4,h5⟩|⟨h1,h2,h3,h4⟩
   ·obtain ⟨rfl,rfl⟩:=Ts h2 (by rw [hV,hlen x,h3])
    exact ⟨rfl,.inl ⟨h1,h3,h4,h5⟩⟩
   have h6:=Ts h4 (by rw [hV,hlen x,hlenW x])
   exact ⟨h6.2,.inr ⟨h1,h2,h3,h6.1⟩⟩
  obtain ⟨rfl,hVO⟩:=hVO
  have hVl:V.length=(U 0).length:=by rw [hV,hlen x]
  have hVw:∀y∈V,ObjLow (U 0).length y:=by
   rcases hVO with ⟨_,_,h,_⟩|⟨_,_,_,rfl⟩
   ·exact h
   exact hlW _
  refine ⟨fun _=>by rw [hVl];exact hVw,fun o ho=>(by cases ho),?_⟩
  refine Z42 ?_;refine A4 ?_;refine A2 [0,2,6,8,9,10,28] ?_
  refine A3 (fun ht28=>?_) (fun ht28=>?_)
  ·have hZ:Z V:=by
    rcases hVO with ⟨_,_,_,h⟩|⟨h1,h2,_,_⟩
    ·exact h
    rw [h1,h2] at ht28;simp at ht28
   refine Z10 ?_;refine Z7 ?_;refine Kh ?_;exact A8 .nores (hp:=hZ)
  have hVn:(Do (C x) ms[x]).2=0∧N (x+1)∧V=T x:=by
   rcases hVO with ⟨h1,_,_,_⟩|⟨h1,_,h3,h4⟩
   ·simp [h1] at ht28
   exact ⟨h1,h3,h4⟩
  obtain ⟨hz,hN,rfl⟩:=hVn
  have hnx:=hn x _ (Ae hlt) hz
  refine Z3 ?_;refine Z48 ?_
  refine Hb jS (hcW x) ?_ ?_
  ·first|exact Io|(simp [or_imp,forall_and];done)
  refine A2 [0,2,8,9,10] ?_;refine jg ?_;refine A2 [0,2,8,9,10] ?_;refine B2 (x+1) ⟨hlt,hN⟩ (by omega) ?_
  rw [hnx]
  exact Dz (own:=[]) (fun _=>.refl _) (by repeat (first|exact By|refine Bx (by first|(simp [or_imp,forall_and];done)|exact ADv|(have:=hlen (x+1);simp;omega)) ?_)) (by simp) (by simp)
 have hxe:x=ms.length:=by have:=hx.1;simp at ht11;omega
 refine K.lpE ?_;exact Mc .nores (hp:=by rw [hxe];exact hR (hxe ▸ hx.2))

/-! The columns on the way through moves. -/
def colsAt (c:List Col) (ms:List Mov):Nat→List Col
 | 0=>c
 | k+1=>match ms[k]? with|some m=>(Do (colsAt c ms k) m).1|none=>colsAt c ms k
def F9 (c:List Col) (ms:List Mov):Nat→List (List Col)
 | 0=>[c]
 | k+1=>F9 c ms k++[colsAt c ms (k+1)]
def NS (c:List Col) (ms:List Mov) (k:Nat):Prop:=Ej c ms=((F9 c ms k).dropLast++(Ej (colsAt c ms k) (ms.drop k)).1,(Ej (colsAt c ms k) (ms.drop k)).2)
theorem i5 (c:List Col) (ms:List Mov) (k:Nat):(F9 c ms k).dropLast++[colsAt c ms k]=F9 c ms k:=by
 cases k with
 | zero=>rfl
 | succ k=>simp [F9]
theorem V4 {c:List Col} {ms:List Mov} {k:Nat} {m:Mov} (h:ms[k]? = some m):colsAt c ms (k+1)=(Do (colsAt c ms k) m).1:=by rw [colsAt,h]
theorem Tj {ms:List Mov} {k:Nat} {m:Mov} (hk:ms[k]? = some m):ms.drop k=m::ms.drop (k+1):=by
 obtain ⟨h1,h2⟩:=Ak.1 hk
 rw [H6 h1,h2]
theorem AQu {c:List Col} {ms:List Mov}:NS c ms 0:=rfl
theorem tz {c:List Col} {ms:List Mov} {k:Nat} {m:Mov} (hk:ms[k]? = some m) (h:NS c ms k) (he:(Do (colsAt c ms k) m).2=0):NS c ms (k+1):=by
 unfold NS at h ⊢
 rw [h,Tj hk]
 have e:Ej (colsAt c ms k) (m::ms.drop (k+1))=(colsAt c ms k::(Ej (Do (colsAt c ms k) m).1 (ms.drop (k+1))).1,(Ej (Do (colsAt c ms k) m).1 (ms.drop (k+1))).2):=by
  rw [Ej,if_neg (by rw [he];simp)]
 have e2:(F9 c ms (k+1)).dropLast=F9 c ms k:=by simp [F9]
 rw [e,e2,V4 hk]
 have e3:=i5 c ms k
 refine Prod.ext ?_ rfl
 show (F9 c ms k).dropLast++(colsAt c ms k::_)=F9 c ms k++_
 conv=>rhs;rw [←e3]
 simp
theorem AM6 {c:List Col} {ms:List Mov} {k:Nat} {m:Mov} (hk:ms[k]? = some m) (h:NS c ms k) (he:(Do (colsAt c ms k) m).2≠0):(Ej c ms).2=(Do (colsAt c ms k) m).2:=by
 unfold NS at h
 rw [h,Tj hk,Ej,if_pos (by simpa using he)]
theorem AE1 {c:List Col} {ms:List Mov} (h:NS c ms ms.length):Ej c ms=(F9 c ms ms.length,0):=by
 unfold NS at h
 rw [h,List.drop_length,Ej]
 exact Prod.ext (i5 c ms ms.length) rfl
theorem AE2 {c:List Col} {m:Mov} (hc:OkCols c) (h:OkMov m):OkCols (Do c m).1:=by
 have h0:OkCols ([]:List Col):=⟨by decide,fun y hy=>by cases hy⟩
 unfold Do
 split
 ·exact h0
 split
 ·exact h0
 split
 ·exact h0
 exact Zq hc (Zp h) (by rw [Ky];exact h.gives2)
theorem Qg {c:List Col} {ms:List Mov} (hc:OkCols c) (h:∀m∈ms,OkMov m):∀k,OkCols (colsAt c ms k)
 | 0=>hc
 | k+1=>by
  rw [colsAt]
  cases hk:ms[k]? with
  | none=>exact Qg hc h k
  | some m=>exact AE2 (Qg hc h k) (h m (Be hk))
theorem N0 (c:List Col) (ms:List Mov):∀k,(F9 c ms k).length=k+1
 | 0=>rfl
 | k+1=>by rw [F9,Aw,N0 c ms k];rfl
theorem AE3 {c:List Col} {ms:List Mov} (h:V2 c ms=true) (hk:OkMovs ms):(∀m∈ms,MvOk m)∧ms.length≤8:=by
 unfold V2 Ql at h
 simp only [Ah,decide_eq_true_eq,Bj] at h
 exact ⟨fun m hm=>AHt (hk.each m hm) (ye (h.2.2 m hm)),by omega⟩
abbrev AE4 (l:List (List Col)):AV:=.slice false 1 (l.map B0)
theorem yj {n k:Nat} {o:Bool} {l:List (List Col)}:Low n (.slice o k (l.map B0)):=low_slice.2 fun y hy=>by
 obtain ⟨m,_,rfl⟩:=Dm.1 hy
 exact Io
theorem AM7 {U:List AObj} {i j:Nat} {x y:AObj} (h:U[i]? = some x) (hne:j≠i):(U.set j y)[i]? = some x:=by rw [F8 hne];exact h
theorem Ob {k:List Expr} {i:Nat} (h:i<k.length):(k.map Ab)[i]? = some (Ab (k.getD i A6))∧k.getD i A6∈k∧∀(f:Expr→Rs) (d:Rs),(k.map f).getD i d=f (k.getD i A6):=by
 have e:k.getD i A6=k[i]:=by rw [Cz,Ae h];rfl
 rw [e]
 refine ⟨by simp [h],Bb h,fun f d=>?_⟩
 rw [Cz,Cp,Ae h]
 rfl
theorem AE5 {e:Expr} (h:Ch e=true):(e.op=5→e.kids.length=2)∧(e.op=3∨e.op=4→e.kids.length=1)∧(e.op=6→Cc e.text=(e.kids.length:Int))∧(e.op=1∨e.op=2∨e.op=3∨e.op=4∨e.op=5∨e.op=6):=by
 cases Ij h with
 | val v hp h0=>simp [Ei,Expr.op]
 | name t ht=>simp [Bh,Expr.op]
 | neg a=>simp [Gw,Expr.op,Expr.kids]
 | no a=>simp [Gw,Expr.op,Expr.kids]
 | bin t a b ht=>simp [Jm,Expr.op,Expr.kids]
 | call t k ht=>simpa [Expr.op,Expr.kids,Expr.text] using ht
def Ry (s:Str):Int:=if s==[111,114] then 0 else if s==[97,110,100] then 1 else if (((((s==[61]) || (s==[33,61])) || (s==[60])) || (s==[60,61])) || (s==[62])) || (s==[62,61]) then 3 else if ((s==[43]) || (s==[45])) || (s==[38]) then 4 else if ((s==[42]) || (s==[47])) || (s==[37]) then 5 else 7
theorem yl (s:Str):Ry s=if 0≤Bt s then Bt s else 7:=by
 by_cases hf:s∈levels.flatten
 ·have h3:(levels.flatten.all fun s=>decide (Ry s=if 0≤Bt s then Bt s else 7))=true:=by kernel_rfl
  exact of_decide_eq_true (Bj.1 h3 s hf)
 have hn:=hf
 have h:Bt s = -1:=by
  rcases M1 s with h|⟨h,_⟩
  ·exact absurd h hf
  exact h
 rw [h]
 simp only [levels,List.flatten_cons,List.flatten_nil,Jd,Ef,Dx,C0,I6,or_false,not_or] at hn
 obtain ⟨a1,a2,a3,a4,a5,a6,a7,a8,a9,b1,b2,b3,b4,b5⟩:=hn
 simp [Ry, *]
/-- The level of a node. -/
def qm (e:Expr):Int:=if e.op==4 then 2 else if e.op==3 then 6 else if e.op==5 then Ry e.text else 7
theorem u1 {e:Expr} (h:Ch e=true):qm e=(levE e:Int):=by
 unfold qm levE
 split
 ·rfl
 split
 ·rfl
 split
 ·rename_i h5
  have hb:0≤Bt e.text:=by
   have h5':e.op=5:=by simpa using h5
   rw [Hj] at h
   unfold Hi at h
   simp [h5'] at h
   exact h.2.1
  rw [yl,if_pos hb]
  omega
 rfl
theorem AVh (s:Str) (Hp:List AObj):AFun Tryz.prog 158 [Ac s] Hp (A5 (Ry s)):=by
 refine Aj [.tmp 2] [0] Tryz.func158 Tryz.ntmps158 (fun d=>?_)
 refine Z56 ?_;refine Z25 ?_;refine A2 [3] ?_;refine Z97 ?_;refine A2 [3,4] ?_
 refine A3 (fun ht4=>?_) (fun ht4=>?_)
 ·exact ABf
 refine Z1 ?_;refine A2 [3,6] ?_
 refine A3 (fun ht6=>?_) (fun ht6=>?_)
 ·exact ABf
 refine Hw ⟨23,Aa 3 (Ac s) (Aa 8 (At ((((((s==[61]) || (s==[33,61])) || (s==[60])) || (s==[60,61])) || (s==[62])) || (s==[62,61]))) (fun _=>.any)),Hp,[],[],none⟩ ?_ ?_
 ·refine ABi ?_
  refine A3 (fun ht8=>?_) (fun ht8=>?_)
  ·exact AB8
  refine ABi ?_
  refine A3 (fun ht8=>?_) (fun ht8=>?_)
  ·exact AB8
  refine ABi ?_
  refine A3 (fun ht8=>?_) (fun ht8=>?_)
  ·exact AB8
  refine ABi ?_
  refine A3 (fun ht8=>?_) (fun ht8=>?_)
  ·exact AB8
  refine ABi ?_
  refine A3 (fun ht8=>?_) (fun ht8=>?_)
  ·exact AB8
  refine Z29 ?_;refine A2 [3,8] ?_;exact Z38
 refine A3 (fun ht8=>?_) (fun ht8=>?_)
 ·exact ABf
 refine Hw ⟨23,Aa 3 (Ac s) (Aa 15 (At (((s==[43]) || (s==[45])) || (s==[38]))) (fun _=>.any)),Hp,[],[],none⟩ ?_ ?_
 ·refine Z1 ?_;refine A2 [3,15] ?_
  refine A3 (fun ht15=>?_) (fun ht15=>?_)
  ·refine Di [3,15] ?_;exact Z95
  refine Z1 ?_;refine A2 [3,15] ?_
  refine A3 (fun ht15=>?_) (fun ht15=>?_)
  ·refine Di [3,15] ?_;exact Z95
  refine Z29 ?_;refine A2 [3,15] ?_;exact Z38
 refine A3 (fun ht15=>?_) (fun ht15=>?_)
 ·exact ABf
 refine Hw ⟨23,Aa 19 (At (((s==[42]) || (s==[47])) || (s==[37]))) (fun _=>.any),Hp,[],[],none⟩ ?_ ?_
 ·refine Z1 ?_;refine A2 [3,19] ?_
  refine A3 (fun ht19=>?_) (fun ht19=>?_)
  ·refine Di [19] ?_;exact Z95
  refine Z1 ?_;refine A2 [3,19] ?_
  refine A3 (fun ht19=>?_) (fun ht19=>?_)
  ·refine Di [19] ?_;exact Z95
  refine Z29 ?_;refine A2 [19] ?_;exact Z38
 refine A3 (fun ht19=>?_) (fun ht19=>?_)
 ·exact ABf
 refine jc ?_;exact A8 (Ai A7) ⟨by simp_all [Ry],rfl⟩

theorem AQv (e:Expr) (Hp:List AObj):AFun Tryz.prog 118 [Ab e] Hp (A5 (qm e)):=by
 refine Aj [.tmp 2] [0] Tryz.func118 Tryz.ntmps118 (fun d=>?_)
 refine Z81 ?_;refine Z8 ?_;refine A2 [1,4] ?_;refine Z97 ?_;refine A2 [1,4,5] ?_
 refine A3 (fun ht5=>?_) (fun ht5=>?_)
 ·refine Z26 ?_;exact AKd
 refine Z1 ?_;refine A2 [1,4,7] ?_
 refine A3 (fun ht7=>?_) (fun ht7=>?_)
 ·refine Z26 ?_;exact AKd
 refine Z1 ?_;refine A2 [1,9] ?_
 refine A3 (fun ht9=>?_) (fun ht9=>?_)
 ·refine Z1 ?_;refine A9 Tryz.call158 (AVh e.text _) ?_;refine A4 ?_;refine Z4 ?_;exact AKd
 refine jc ?_;exact A8 (Ai A7) ⟨by simp_all [qm],rfl⟩

end Go.SX.Nb
namespace Go.Proofs
open Go.Shelf Go.RowKit

section
variable {P:Program} (w:World)

/-- Bytes behind a builder's bytes: what is handed back lies where it lay, or in the next block, or nowhere still. -/
theorem ym {t u ty e:TypeId} {i:TypeInfo} (ht:P.underlying t=some (.slice e)) (hu:P.underlying u=some .string) (hi:P.info? e=some i) (hz:i.zero=some (.int .u8 0)) (hsize:i.size=1) (hby:i.bytes=1)
  (v:Value) (n:Nat) (xs:List Value) (hown:w.ownsRow 0 e 1 v n xs) (s:ByteArray) (hb:n+s.size≤140737488355328):
  ∃v' w',(Builtin.append_ #[t,u] ty #[v,.string s]).run P w=.ok v' w'∧w'.ownsRow 0 e 1 v' (n+s.size) (xs++Lib.strCells s)∧w.grownBy w' v'.ownBlock ∧
   ((v=.slice none 0 0∧v'=v∧s.size=0)∨(∃g cap,v=.slice (some ⟨g,0,none⟩) n cap∧v'=.slice (some ⟨g,0,none⟩) (n+s.size) cap)∨∃cap,v'=.slice (some ⟨w.heap.size,0,none⟩) (n+s.size) cap∧0<n+s.size):=by
 have h63:n+s.size≤maxLen:=by unfold maxLen;omega
 obtain ⟨v',w',hr,h1,h2,h3⟩:=Lib.run_append_own_string (P:=P) w 0 t u ty e i ht hu hi hz hsize hby v n xs hown s h63 hb (Nat.zero_le _)
 have hxl:xs.length=n:=by simpa using hown.1
 refine ⟨v',w',hr,h1,?_⟩
 rcases hown.2 with ⟨rfl,rfl⟩|⟨g,cap,cur,rfl,hbg,hg,hnc,hcm,hcs,htake⟩
 ·by_cases hm:s.size=0
  ·have e1:=h3.2 ⟨rfl,hm⟩
   exact ⟨by rw [e1];exact h2,.inl ⟨rfl,e1,hm⟩⟩
  have hr2:=run_append_nil_string (P:=P) w t u ty e i (.int .u8 0) ht hu hi hz s (by omega) (by omega) (by rw [hby];omega)
  rw [hr] at hr2
  injection hr2 with e1 e2
  refine ⟨?_,.inr (.inr ⟨_,by rw [e1,Nat.zero_add],by omega⟩)⟩
  rw [e2]
  exact ⟨rfl,rfl,rfl,by simp,fun k hk _=>Lib.alloc_old w.drew _ k hk⟩
 by_cases hroom:n+s.size≤cap
 ·have hcs':cur.size=cap:=by simpa using hcs
  have hr2:=Lib.run_append_room_string (P:=P) w t u ty e i ht hu hi hsize g n cap cur hg s hroom (by omega)
  rw [hr] at hr2
  injection hr2 with e1 e2
  exact ⟨by rw [e1];exact h2,.inr (.inl ⟨g,cap,rfl,e1⟩)⟩
 have holds:∀j u,xs[j]? = some u→w.cell? ((⟨g,0,none⟩:Addr).add j)=some u:=hown.cells (g:=g) rfl
 have hr2:=Lib.run_append_grow_string (P:=P) w t u ty e i (.int .u8 0) ht hu hi hz ⟨g,0,none⟩ n cap xs (by rw [hsize];simpa using hxl) holds s (by omega) (by omega) (by rw [hby];exact growslice_fits (by omega) (by omega))
 rw [hr] at hr2
 injection hr2 with e1 e2
 refine ⟨?_,.inr (.inr ⟨_,e1,by omega⟩)⟩
 rw [e2]
 exact ⟨rfl,rfl,rfl,by simp,fun k hk _=>Lib.alloc_old w.drew _ k hk⟩
end

theorem V5 {P:Program} {w w':World} {ops:Array Oper} {rest:List Oper} {o:Oper} {a:Act} {Q:Exit→Act→World→Prop} {v v':Value} {s:ByteArray} (hgd:o.guard=none) (sl x:Operand) (t u ty:TypeId)
  (ho:o.op=.call { callee:=.builtin .append,args:=#[sl,x],argTypes:=#[t,u] }) (hty:o.type=ty) (hs:a.eval sl=v) (hx:a.eval x=.string s) (hrun:(Builtin.append_ #[t,u] ty #[v,.string s]).run P w=.ok v' w')
  (h:wpList P ops Q rest (a.put o.dst v') w'):wpList P ops Q (o::rest) a w:=by
 refine wpList_plain hgd fun K hK=>?_
 subst hty
 unfold Oper.wp execOp
 simp only [ho,resolve,invoke,builtin,Sem.run_bind,Sem.run_pure,Result.andThen_ok,List.map_toArray,List.map_cons,List.map_nil,hs,hx,hrun]
 exact hK _ _ h

section
variable {P:Program} {ρ:Ren}

set_option maxHeartbeats 1000000 in
set_option maxRecDepth 100000 in
/-- The check of an unused builder within a block of type T. -/
theorem yn (L:Lays.n240 P ρ) (X:Builder.X72 P ρ) {T:TypeId} (hl:liesAt P P.depth T (2 / P.cellsOf T) 0 (ρ.t 72) 1=true) (b:Nat) (w:World) (h0:w.cell? ⟨b,0,none⟩=some (.pointer none)) (hsh:w.shape? b=some (T,2)) (hfz:w.frozen? ⟨b,0,none⟩=false):
  Calls P (ρ.f 240) #[.pointer (some ⟨b,0,none⟩)] w fun e w'=>e=.returned (.tuple #[])∧w'=w.setCell ⟨b,0,none⟩ (.pointer (some ⟨b,0,none⟩)):=by
 obtain ⟨j,hj,hjs⟩:=Option.map_eq_some_iff.1 X.sizeBuilder
 have mixed:=L.mixed
 have t72:=L.t72;have a72:=L.a72;have z72:=L.z72;have v72:=L.v72;have u72:=run_underlying L.t72
 have t70:=L.t70;have a70:=L.a70;have z70:=L.z70;have v70:=L.v70;have u70:=run_underlying L.t70
 have t9:=L.t9;have a9:=L.a9;have z9:=L.z9;have v9:=L.v9;have u9:=run_underlying L.t9
 have t4:=L.t4;have a4:=L.a4;have z4:=L.z4;have v4:=L.v4;have u4:=run_underlying L.t4
 have t164:=L.t164;have a164:=L.a164;have z164:=L.z164;have v164:=L.v164;have u164:=run_underlying L.t164
 go_enter L.f240,Body.n240_ntmps ρ
 go_wp2
 rw [Lib.run_to_unsafe w ⟨b,0,none⟩ L.t70 L.t164 hj (by rw [hjs];decide) hsh (Nat.zero_lt_succ 1)]
 simp only [Result.andThen]
 rw [Oper.upon_value]
 go_wp2
 rw [run_callFunc_extern L.f276 (by kernel_rfl) (by kernel_rfl) (by kernel_rfl) (e:=Extern.AbiNoEscape.same) (by kernel_rfl)]
 rw [Lib.run_noEscape]
 simp only [Result.andThen]
 rw [Oper.upon_value]
 go_wp2
 rw [Lib.run_from_unsafe w ⟨b,0,none⟩ L.t164 L.t70 hj hsh hl]
 simp only [Result.andThen]
 rw [Oper.upon_value]
 go_wp2
 go_end0
 exact ⟨rfl,rfl⟩

/-- The check: behind it the first cell holds the builder's own address; nothing else turns. -/
theorem AE6 (L:Lays.n240 P ρ) (X:Builder.X72 P ρ) {T e:TypeId} (hl:liesAt P P.depth T (2 / P.cellsOf T) 0 (ρ.t 72) 1=true) (b:Nat) (p v:Value) (n:Nat) (bs:List Value) (w:World) (h:Oy T e b p v n bs w):
  Calls P (ρ.f 240) #[.pointer (some ⟨b,0,none⟩)] w fun e' w'=>e'=.returned (.tuple #[])∧Oy T e b (.pointer (some ⟨b,0,none⟩)) v n bs w'∧w.grownBy w' (some b)∧w'.heap.size=w.heap.size:=by
 obtain ⟨h1,hp,h3,h4⟩:=h
 rcases hp with rfl|rfl
 ·refine (yn L X hl b w (by rw [Lib.cell_of_heap h1];rfl) (by simp [World.shape?,h1]) (Lib.frozen_of_heap h1 0)).mono ?_
  rintro e' w' ⟨rfl,rfl⟩
  have hgr:w.grownBy (w.setCell ⟨b,0,none⟩ (.pointer (some ⟨b,0,none⟩))) (some b):=⟨rfl,rfl,rfl,by simp [World.setCell],fun k _ hk=>Below.heap_setCell _ _ _ _ (fun e=>hk (by simp [e]))⟩
  exact ⟨rfl,⟨by simp [World.setCell,Array.getElem?_modify,h1],.inr rfl,h3.kept hgr (.inr h4),h4⟩,hgr,by simp [World.setCell]⟩
 refine (Any.Builder_copyCheck_used L X b w (by rw [Lib.cell_of_heap h1];rfl)).mono ?_
 rintro e' w' ⟨rfl,rfl⟩
 exact ⟨rfl,⟨h1,.inr rfl,h3,h4⟩,⟨rfl,rfl,rfl,Nat.le_refl _,fun _ _ _=>rfl⟩,rfl⟩

set_option maxHeartbeats 1000000 in
set_option maxRecDepth 100000 in
/-- How many bytes there are. -/
theorem bldLen (L:Lays.n170 P ρ) {T e:TypeId} (b:Nat) (p v:Value) (n:Nat) (bs:List Value) (w:World) (h:Oy T e b p v n bs w):
  Calls P (ρ.f 170) #[.pointer (some ⟨b,0,none⟩)] w fun e' w'=>e'=.returned (.int .i64 n)∧w'=w:=by
 obtain ⟨h1,_,h3,_⟩:=h
 obtain ⟨ao,cap,rfl⟩:∃ao cap,v=.slice ao n cap:=by
  rcases h3.2 with ⟨hv,h0⟩|⟨g,cap,cur,hv,_⟩
  ·exact ⟨none,0,by rw [hv,h0]⟩
  exact ⟨_,_,hv⟩
 have c1:w.cell? ⟨b,1,none⟩=some (.slice ao n cap):=by rw [Lib.cell_of_heap h1];rfl
 have mixed:=L.mixed
 have t72:=L.t72;have a72:=L.a72;have z72:=L.z72;have v72:=L.v72;have u72:=run_underlying L.t72
 have t70:=L.t70;have a70:=L.a70;have z70:=L.z70;have v70:=L.v70;have u70:=run_underlying L.t70
 have t37:=L.t37;have a37:=L.a37;have z37:=L.z37;have v37:=L.v37;have u37:=run_underlying L.t37
 have t3:=L.t3;have a3:=L.a3;have z3:=L.z3;have v3:=L.v3;have u3:=run_underlying L.t3
 go_enter L.f170,Body.n170_ntmps ρ
 go_wp2
 go_ret
 exact ⟨rfl,rfl⟩

set_option maxHeartbeats 2000000 in
set_option maxRecDepth 100000 in
/-- A text is written behind it. -/
theorem bldWrite (L:Lays.n166 P ρ) (X:Builder.Extra P ρ) {T:TypeId} (hl:liesAt P P.depth T (2 / P.cellsOf T) 0 (ρ.t 72) 1=true) (hTe:T≠ρ.t 5) (b:Nat) (p v:Value) (n:Nat) (bs:List Value) (s:ByteArray) (w:World) (h:Oy T (ρ.t 5) b p v n bs w)
  (hlen:n+s.size≤140737488355328):
  Calls P (ρ.f 166) #[.pointer (some ⟨b,0,none⟩),.string s] w fun e w'=>e=.returned (.tuple #[.int .i64 s.size,.nilIface])∧∃v',Oy T (ρ.t 5) b (.pointer (some ⟨b,0,none⟩)) v' (n+s.size) (bs++Lib.strCells s) w' ∧
   (w'.os=w.os∧w'.tape=w.tape∧w'.output=w.output∧w.heap.size≤w'.heap.size)∧(∀k,k<w.heap.size→k≠b→v'.ownBlock≠some k→w'.heap[k]? = w.heap[k]?) ∧
   ((v=.slice none 0 0∧v'=v∧s.size=0)∨(∃g cap,v=.slice (some ⟨g,0,none⟩) n cap∧v'=.slice (some ⟨g,0,none⟩) (n+s.size) cap)∨∃cap,v'=.slice (some ⟨w.heap.size,0,none⟩) (n+s.size) cap∧0<n+s.size):=by
 obtain ⟨i0,hi,hz0,hz1,hz2⟩:=info_parts X.infoByte
 have mixed:=L.mixed
 have t72:=L.t72;have a72:=L.a72;have z72:=L.z72;have v72:=L.v72;have u72:=run_underlying L.t72
 have t70:=L.t70;have a70:=L.a70;have z70:=L.z70;have v70:=L.v70;have u70:=run_underlying L.t70
 have t37:=L.t37;have a37:=L.a37;have z37:=L.z37;have v37:=L.v37;have u37:=run_underlying L.t37
 have t3:=L.t3;have a3:=L.a3;have z3:=L.z3;have v3:=L.v3;have u3:=run_underlying L.t3
 have t9:=L.t9;have a9:=L.a9;have z9:=L.z9;have v9:=L.v9;have u9:=run_underlying L.t9
 have t4:=L.t4;have a4:=L.a4;have z4:=L.z4;have v4:=L.v4;have u4:=run_underlying L.t4
 have t164:=L.t164;have a164:=L.a164;have z164:=L.z164;have v164:=L.v164;have u164:=run_underlying L.t164
 have t5:=X.t5;have a5:=X.a5;have z5:=X.z5;have v5:=X.v5;have u5:=run_underlying X.t5
 have e240:∀args w,(callFunc (ρ.f 240) args).run P w=.ok (.enter (ρ.f 240) args) w:=enters_of L.f240 (by kernel_rfl) rfl
 go_enter L.f166,Body.n166_ntmps ρ
 go_wp2_with (go_at_fn (ρ.f 240);refine (AE6 { L with } X.toX72 hl b p v n bs _ h).mono ?_)
 rintro e w1 ⟨rfl,⟨hbk,_,hown,hne⟩,hg1,hs1⟩
 have c0:w1.cell? ⟨b,0,none⟩=some (.pointer (some ⟨b,0,none⟩)):=by rw [Lib.cell_of_heap hbk];rfl
 have c1:w1.cell? ⟨b,1,none⟩=some v:=by rw [Lib.cell_of_heap hbk];rfl
 obtain ⟨v',w2,hrun,hown',hgrow,hcase⟩:=ym (P:=P) w1 (ty:=ρ.t 37) L.t37 L.t9 hi hz0 hz1 hz2 v n bs hown s hlen
 have hlt:b<w1.heap.size:=(Array.getElem?_eq_some_iff.1 hbk).1
 have hne':v'.ownBlock≠some b:=by
  rcases hcase with ⟨_,e1,_⟩|⟨g,cap,e1,e2⟩|⟨cap,e1,_⟩
  ·rw [e1];exact hne
  ·rw [e2];rw [e1] at hne;exact hne
  rw [e1];simp [Value.ownBlock];omega
 have hb2:w2.heap[b]? = some (.cells #[.pointer (some ⟨b,0,none⟩),v] T (0,0)):=by
  rw [hgrow.block b hlt (fun e=>hne' e.symm)]
  exact hbk
 have d0:w2.cell? ⟨b,0,none⟩=some (.pointer (some ⟨b,0,none⟩)):=by rw [Lib.cell_of_heap hb2];rfl
 have d1:w2.cell? ⟨b,1,none⟩=some v:=by rw [Lib.cell_of_heap hb2];rfl
 have f1:w2.frozen? ⟨b,1,none⟩=false:=Lib.frozen_of_heap hb2 1
 obtain ⟨ao,n',cap,rfl⟩:∃ao n' cap,v'=.slice ao n' cap:=by
  rcases hown'.2 with ⟨hv,_⟩|⟨g,cap,cur,hv,_⟩
  ·exact ⟨_,_,_,hv⟩
  exact ⟨_,_,_,hv⟩
 go_wp2_with (at_builtin;refine V5 rfl _ _ (ρ.t 37) (ρ.t 9) (ρ.t 37) rfl rfl rfl rfl hrun ?_)
 go_ret2
 refine ⟨rfl,_,⟨by simp [World.setCell,Array.getElem?_modify,hb2],.inr rfl,hown'.kept (row:=some b) ⟨rfl,rfl,rfl,by simp [World.setCell],fun k _ hk=>Below.heap_setCell _ _ _ _ (fun e=>hk (by simp [e]))⟩ (.inr hne'),hne'⟩,⟨?_,?_,?_,?_⟩,fun k hk hkb hkr=>?_,?_⟩
 ·exact hgrow.os.trans hg1.os
 ·exact hgrow.tape.trans hg1.tape
 ·exact hgrow.output.trans hg1.output
 ·have:=hgrow.size
  simp [World.setCell];omega
 ·rw [Below.heap_setCell _ _ _ _ hkb,hgrow.block k (by omega) (fun e=>hkr e.symm),hg1.block k hk (by simpa using hkb)]
 rw [hs1] at hcase;exact hcase

set_option maxHeartbeats 2000000 in
set_option maxRecDepth 100000 in
/-- Its text: some of its row is frozen; nothing else turns. -/
theorem bldString (L:Lays.n169 P ρ) (X:Builder.Extra P ρ) {T:TypeId} (b:Nat) (p v:Value) (l:List UInt8) (w:World) (h:Oy T (ρ.t 5) b p v l.length (Lib.byteCells l) w) (hcap:∀g,v≠.slice (some ⟨g,0,none⟩) 0 0):
  Calls P (ρ.f 169) #[.pointer (some ⟨b,0,none⟩)] w fun e w'=>e=.returned (.string ⟨l.toArray⟩)∧(w'.os=w.os∧w'.tape=w.tape∧w'.output=w.output∧w.heap.size≤w'.heap.size)∧∀k,v.ownBlock≠some k→w'.heap[k]? = w.heap[k]? := by
 obtain ⟨hbk,_,hown,hne⟩:=h
 have mixed:=L.mixed
 have t72:=L.t72;have a72:=L.a72;have z72:=L.z72;have v72:=L.v72;have u72:=run_underlying L.t72
 have t70:=L.t70;have a70:=L.a70;have z70:=L.z70;have v70:=L.v70;have u70:=run_underlying L.t70
 have t37:=L.t37;have a37:=L.a37;have z37:=L.z37;have v37:=L.v37;have u37:=run_underlying L.t37
 have t127:=L.t127;have a127:=L.a127;have z127:=L.z127;have v127:=L.v127;have u127:=run_underlying L.t127
 have t3:=L.t3;have a3:=L.a3;have z3:=L.z3;have v3:=L.v3;have u3:=run_underlying L.t3
 have t9:=L.t9;have a9:=L.a9;have z9:=L.z9;have v9:=L.v9;have u9:=run_underlying L.t9
 have t5:=X.t5;have a5:=X.a5;have z5:=X.z5;have v5:=X.v5;have u5:=run_underlying X.t5
 rcases hown.2 with ⟨rfl,h0⟩|⟨g,cap,cur,rfl,hbg,hg,hnc,hcm,hcs,htake⟩
 ·have hl:l=[]:=List.eq_nil_of_length_eq_zero h0
  subst hl
  have hUS:=Any.unsafeString_none L X
  have c1:w.drew.cell? ⟨b,1,none⟩=some (.slice none 0 0):=by
   have:w.drew.heap[b]? = some (.cells #[p,.slice none 0 0] T (0,0)):=hbk
   rw [Lib.cell_of_heap this];rfl
  have hSD:(Builtin.unsafeSliceData_ #[(ρ.t 37)] (ρ.t 127) #[.slice none 0 0]).run P w.drew=.ok (.pointer none) w.drew:=rfl
  go_enter L.f169,Body.n169_ntmps ρ
  go_wp2
  go_region_o
  all_goals (go_wp2;go_ret;exact ⟨rfl,⟨rfl,rfl,rfl,Nat.le_refl _⟩,fun _ _=>rfl⟩)
 have hc0:cap≠0:=by
  rintro rfl
  exact hcap g (by rw [show l.length=0 by omega])
 have c1:w.drew.cell? ⟨b,1,none⟩=some (.slice (some ⟨g,0,none⟩) l.length cap):=by
  have:w.drew.heap[b]? = some (.cells #[p,.slice (some ⟨g,0,none⟩) l.length cap] T (0,0)):=hbk
  rw [Lib.cell_of_heap this];rfl
 have hSD:(Builtin.unsafeSliceData_ #[(ρ.t 37)] (ρ.t 127) #[.slice (some ⟨g,0,none⟩) l.length cap]).run P w.drew=.ok (.pointer (some ⟨g,0,none⟩)) w.drew:=
  Lib.run_unsafeSliceData_row _ _ _ _ _ _ hc0
 by_cases hl:l=[]
 ·subst hl
  have hUS:=Any.unsafeString_none L X
  clear hc0 hcap
  simp only [List.length_nil] at c1 hSD
  go_enter L.f169,Body.n169_ntmps ρ
  go_wp2
  go_region_o
  all_goals (go_wp2;go_ret;exact ⟨rfl,⟨rfl,rfl,rfl,Nat.le_refl _⟩,fun _ _=>rfl⟩)
 have hUS:(Builtin.unsafeString_ #[(ρ.t 127),(ρ.t 3)] (ρ.t 9) #[.pointer (some ⟨g,0,none⟩),.int .i64 l.length]).run P w.drew=.ok (.string ⟨l.toArray⟩) (w.drew.freeze ⟨g,0,none⟩ l.length):=by
  refine Lib.run_unsafeString_row w.drew (ρ.t 127) (ρ.t 3) (ρ.t 9) (ρ.t 5) L.t127 X.cellsByte g cur.size (by have hg':w.drew.heap[g]? = some (.cells cur (ρ.t 5) (0,0)):=hg;simp [World.shape?,hg']) l hl (by omega) (by unfold maxLen at hcm;omega) ?_
  intro j x hx
  exact hown.cells (g:=g) rfl j (.int .u8 x.toNat) (by simp [Lib.byteCells,hx])
 have hfz:∀k,g≠k→(w.drew.freeze ⟨g,0,none⟩ l.length).heap[k]? = w.heap[k]? := fun k hk=>by
  unfold World.freeze
  split
  ·rfl
  show (w.heap.modify g _)[k]? = _
  rw [Array.getElem?_modify,if_neg hk]
 have hfs:(w.drew.freeze ⟨g,0,none⟩ l.length).heap.size=w.heap.size:=by
  unfold World.freeze
  split
  ·rfl
  show (w.heap.modify g _).size=_
  simp
 have hfo:(w.drew.freeze ⟨g,0,none⟩ l.length).os=w.os∧(w.drew.freeze ⟨g,0,none⟩ l.length).tape=w.tape∧(w.drew.freeze ⟨g,0,none⟩ l.length).output=w.output:=by
  unfold World.freeze
  split<;>exact ⟨rfl,rfl,rfl⟩
 clear hc0 hcap
 go_enter L.f169,Body.n169_ntmps ρ
 go_wp2
 go_region_o
 all_goals (go_wp2;go_ret;exact ⟨rfl,⟨hfo.1,hfo.2.1,hfo.2.2,Nat.le_of_eq hfs.symm⟩,fun k hk=>hfz k (fun e=>hk (by rw [e];rfl))⟩)
end
end Go.Proofs

namespace Go.SX.Nb
open Go Go.SX Go.Proofs Go.Shelf
variable [ErrAt]
set_option maxRecDepth 8000
/-! show's builder. -/
theorem AQw:Builder.Extra Tryz.prog Tryz.ren155 where
 sizeBuilder:=by kernel_rfl
 liesBuilder:=by kernel_rfl
 t5:=Tryz.underlying5
 a5:=Tryz.isAgg5
 z5:=Tryz.sizeOf5
 v5:=Tryz.zeroValue5
 infoByte:=by kernel_rfl
 cellsByte:=by kernel_rfl
 sizeByte:=by kernel_rfl
 neB5:=by decide
theorem AHw:liesAt Tryz.prog Tryz.prog.depth 120 (2 / Tryz.prog.cellsOf 120) 0 118 1=true:=by kernel_rfl
abbrev Zt (bs:Str):AObj:=.bld 120 5 bs
theorem Ec {n:Nat} {bs:Str}:ObjLow n (Zt bs):=trivial
/-- (*strings.Builder).WriteString. -/
theorem Zu (bs s:Str) (hl:bs.length+s.length≤140737488355328) (o:Nat) (Hp:List AObj) (ho:Hp[o]? = some (Zt bs)):
  ACall Tryz.prog 119 [.ptr o 0,Ac s] Hp (fun r H'=>r=.tup [A5 s.length,.v .nilIface]∧H'=Hp.set o (Zt (bs++s))):=by
 refine ACall.bldWrite ho (fun b p v w h=>?_)
 have hw:=bldWrite Tryz.lays166 AQw (T:=120) AHw (by decide) b p v bs.length (Lib.byteCells bs) ⟨s.toArray⟩ w h (by rw [Gn];exact hl)
 rw [Gn,Lib.strCells_eq,←Lib.byteCells_append] at hw
 exact hw
/-- (*strings.Builder).Len. -/
theorem c74 (bs:Str) (o:Nat) (Hp:List AObj) (ho:Hp[o]? = some (Zt bs)):AFun Tryz.prog 74 [.ptr o 0] Hp (A5 bs.length):=
 AFun.bldLen ho (fun b p v w h=>bldLen Tryz.lays170 (T:=120) (e:=5) b p v _ _ w h)
/-- (*strings.Builder).String. -/
theorem c75 (bs:Str) (o:Nat) (Hp:List AObj) (ho:Hp[o]? = some (Zt bs)):ACall Tryz.prog 75 [.ptr o 0] Hp (fun r H'=>r=Ac bs∧H'=Hp.set o (.cells 120 [.any,.any])):=
 ACall.bldString ho (fun b p v w h hc=>bldString (ρ:=Tryz.ren155) { Tryz.lays155 with } AQw (T:=120) b p v bs w h hc)
end Go.SX.Nb
namespace Go.SX.Nb
open Go Go.SX Go.Proofs
variable [ErrAt]
set_option maxRecDepth 4000
abbrev AJi:AV:=.v (.tuple #[])
abbrev Is:Nat:=1099511627776
/-- What node writes. -/
def AE7 (e:Expr):Prop:=∀(o:Nat) (bs:Str) (Hp:List AObj),Hp[o]? = some (Zt bs)→bs.length+(Bf e).length≤Is→ACall Tryz.prog 73 [.ptr o 0,Ab e] Hp (fun r H'=>r=AJi∧H'=Hp.set o (Zt (bs++Bf e)))
theorem yp (e:Expr):Bf e=Tg e.op e.text e.val e.kids (e.kids.map Bf):=by
 cases e with
 | mk o t v k=>rw [Bf,Rw];rfl
theorem AHx {k:List Expr} {i:Nat} (h:i<k.length):(k.map Bf).getD i []=Bf (k.getD i A6):=by
 rw [Cz,Cz,Cp,Ae h]
 rfl
theorem de (l:List Str) (s:Str):Iq (l++[s])=Iq l++(44::32::s):=by
 induction l with
 | nil=>simp [Iq]
 | cons a r ih=>simp [Iq,ih]
theorem AE8 {k:List Expr} {x:Nat} (h:x<k.length):(Iq ((k.take (x+1)).map Bf)).drop 2=(Iq ((k.take x).map Bf)).drop 2++(if 0<x then [44,32] else [])++Bf k[x]:=by
 rw [Gm h,Cs,List.map_singleton,de]
 cases x with
 | zero=>simp [Iq]
 | succ x =>
  have:2≤(Iq ((k.take (x+1)).map Bf)).length:=by
   rw [Gm (by omega),Cs,List.map_singleton,de]
   simp
   omega
  rw [List.drop_append_of_le_length this,if_pos (by omega)]
  simp
theorem AM8 {k:List Expr} (x:Nat):(Iq ((k.take x).map Bf)).length≤(Iq (k.map Bf)).length:=by
 have:k.map Bf=(k.take x).map Bf++(k.drop x).map Bf:=by rw [←Cs,dx]
 rw [this]
 have:∀a b:List Str,(Iq a).length≤(Iq (a++b)).length:=by
  intro a b
  induction a with
  | nil=>simp [Iq]
  | cons c r ih=>simp [Iq];exact ih
 exact this _ _
theorem m7 {H:List AObj} {o:Nat} {a b:AObj}:(H.set o a).set o b=H.set o b:=Ep _
theorem yq (e:Expr) (he:AE7 e) (hlev:qm e=(levE e:Int)) (least:Nat) (l0:Int) (hl0:l0=(least:Int)) (o:Nat) (bs:Str) (Hp:List AObj) (ho:Hp[o]? = some (Zt bs)) (hb:bs.length+(Oa least e (Bf e)).length≤Is):ACall Tryz.prog 121 [.ptr o 0,Ab e,A5 l0] Hp (fun r H'=>r=AJi∧H'=Hp.set o (Zt (bs++Oa least e (Bf e)))):=by
 subst hl0
 refine Aj [] [0,1,2] Tryz.func121 Tryz.ntmps121 (fun d=>?_)
 refine Z2 ?_;refine A2 [0,2,4] ?_;refine Z25 ?_;refine A9 Tryz.call118 (AQv e _) ?_;refine Z0 ?_;refine A2 [0,4,9] ?_
 refine A3 (fun ht9=>?_) (fun ht9=>?_)
 ·have hz:least≤levE e:=by
   have h:=ht9
   rw [hlev] at h
   simpa using h
  rw [show Oa least e (Bf e)=Bf e from if_pos hz] at hb ⊢
  refine Z1 ?_;refine Cl Tryz.call73 ho (by simp) Ec (he o bs _ (B5 ho) (by omega)) ?_;refine A2 [] ?_;refine Z10 ?_;exact A8 .nores ⟨rfl,by simp⟩
 have hz:¬least≤levE e:=by
  have h:=ht9
  rw [hlev] at h
  simpa using h
 rw [show Oa least e (Bf e)=40::(Bf e++[41]) from if_neg hz] at hb ⊢
 simp only [B6,Aw,Bc,Is] at hb
 refine Nl ?_
 refine Cl Tryz.call119 ho (by simp) Ec (Zu bs [40] (by simp only [Is,Aw,B6,Bc] at *;omega) o _ (B5 ho)) ?_
 refine A2 [0,4] ?_;refine Z1 ?_
 refine Cl Tryz.call73 (Ay ho) (by simp) Ec (he o (bs++[40]) _ (B5 (Ay ho)) (by simp only [Is,Aw,B6,Bc] at *;omega)) ?_
 refine A2 [0] ?_;refine Z22 ?_
 refine Cl Tryz.call119 (Ay (Ay ho)) (by simp) Ec (Zu (bs++[40]++Bf e) [41] (by simp only [Is,Aw,B6,Bc] at *;omega) o _ (B5 (Ay (Ay ho)))) ?_
 refine A2 [] ?_;exact Mc .nores ⟨rfl,by simp⟩

theorem c73:∀(n:Nat) (e:Expr),okE n e→Bq Ch e=true→Bq Cw e=true→AE7 e:=by
 intro n
 induction n with
 | zero=>exact fun e h=>h.elim
 | succ n ih =>
 intro e hok hnd hrg o bs Hp ho hb
 have hnd0:=hnd
 have hrg0:=hrg
 rw [Cb,Ah] at hnd0 hrg0
 have hev:∀y∈e.kids,AE7 y:=fun y hy=>ih y (hok.2.2 y hy) ((Bd _ _).1 hnd0.2 y hy) ((Bd _ _).1 hrg0.2 y hy)
 have hlv:∀y∈e.kids,qm y=(levE y:Int):=fun y hy=>u1 (by have:=(Bd _ _).1 hnd0.2 y hy;rw [Cb,Ah] at this;exact this.1)
 obtain ⟨k5,k34,k6,kall⟩:=AE5 hnd0.1
 have hi64:wz e.val.n:=by
  have:=hrg0.1
  simp only [Cw,Ah,decide_eq_true_eq] at this
  exact this
 have hlv0:=u1 hnd0.1
 have pe:=yp e
 have hol:=(Ak.1 ho).1
 unfold Tg at pe
 refine Aj [] [0,1] Tryz.func73 Tryz.ntmps73 (fun d=>?_)
 refine Z2 ?_;refine Lr ?_;refine Z2 ?_;refine A9 Tryz.call118 (AQv e _) ?_;refine A4 ?_;refine fl ?_;refine Z1 ?_;refine A2 [0,3,4,11] ?_;refine Z97 ?_;refine A2 [0,3,4,11,12] ?_
 refine A3 (fun ht12=>?_) (fun ht12=>?_)
 ·rw [if_pos ht12] at pe
  refine U6 [0,1,3,0,8,24,63] 6 Am (by kernel_rfl) ?_;refine Xu ?_;refine Cd Tryz.call120 (AQ2 e.val hi64 _) ?_;refine Dq ?_
  refine Cl Tryz.call119 ho (by simp) Ec (Zu bs (Ih e.val) (by rw [pe] at hb;simp only [Is] at hb;omega) o _ (B5 ho)) ?_
  exact vi
 rw [if_neg (by rw [ht12];simp)] at pe
 refine Z1 ?_;refine A2 [0,3,4,11,21] ?_
 refine A3 (fun ht21=>?_) (fun ht21=>?_)
 ·rw [if_pos ht21] at pe
  refine U6 [0,1,3,0,8,31] 5 Am (by kernel_rfl) ?_;refine Xu ?_;refine Dq ?_
  refine Cl Tryz.call119 ho (by simp) Ec (Zu bs e.text (by rw [pe] at hb;simp only [Is] at hb;omega) o _ (B5 ho)) ?_
  exact vi
 rw [if_neg (by rw [ht21];simp)] at pe
 refine Z1 ?_;refine A2 [0,3,4,11,29] ?_
 refine A3 (fun ht29=>?_) (fun ht29=>?_)
 ·rw [if_pos ht29] at pe
  have hkl:=k34 (.inl (by simpa using ht29))
  rw [AHx (by omega)] at pe
  rw [pe] at hb
  simp only [B6,Is] at hb
  refine Z14 ?_
  refine Cl Tryz.call119 ho (by simp) Ec (Zu bs [45] (by simp only [Is,Aw,B6,Bc] at *;omega) o _ (B5 ho)) ?_
  refine Lr ?_;refine Z22 ?_
  refine A4 (h:=Ad (0) (Ab (e.kids.getD 0 A6)) (fun _=>(Ob (by omega)).1)) (hr:=?_)
  refine A4 ?_
  refine Cl Tryz.call121 (Ay ho) (by simp) Ec (yq (e.kids.getD 0 A6) (hev _ (Ob (by omega)).2.1) (hlv _ (Ob (by omega)).2.1) (6) _ (rfl) o (bs++[45]) _ (B5 (Ay ho)) (by simp only [Is,Aw,B6,Bc] at *;omega)) ?_
  exact vi
 rw [if_neg (by rw [ht29];simp)] at pe
 refine Z1 ?_;refine A2 [0,3,4,11,41] ?_
 refine A3 (fun ht41=>?_) (fun ht41=>?_)
 ·rw [if_pos ht41] at pe
  have hkl:=k34 (.inr (by simpa using ht41))
  rw [AHx (by omega)] at pe
  rw [pe] at hb
  simp only [B6,Aw,AD4,Bc,Is] at hb
  refine Z14 ?_
  refine Cl Tryz.call119 ho (by simp) Ec (Zu bs [110,111,116,32] (by simp only [Is,Aw,B6,Bc] at *;omega) o _ (B5 ho)) ?_
  refine Lr ?_;refine Z22 ?_
  refine A4 (h:=Ad (0) (Ab (e.kids.getD 0 A6)) (fun _=>(Ob (by omega)).1)) (hr:=?_)
  refine A4 ?_
  refine Cl Tryz.call121 (Ay ho) (by simp) Ec (yq (e.kids.getD 0 A6) (hev _ (Ob (by omega)).2.1) (hlv _ (Ob (by omega)).2.1) (2) _ (rfl) o (bs++[110,111,116,32]) _ (B5 (Ay ho)) (by simp only [Is,Aw,B6,Bc] at *;omega)) ?_
  exact vi
 rw [if_neg (by rw [ht41];simp)] at pe
 refine Z1 ?_;refine A2 [0,3,4,11,53] ?_
 refine A3 (fun ht53=>?_) (fun ht53=>?_)
 ·rw [if_pos ht53] at pe
  have h5:e.op=5:=by simpa using ht53
  have hkl:=k5 h5
  have hlv5:levE e=(Bt e.text).toNat:=by simp [levE,h5]
  have hl5:=AD3 e.text
  rw [AHx (by omega),AHx (by omega)] at pe
  rw [pe] at hb
  simp only [B6,Aw,Is] at hb
  rw [hlv0,hlv5]
  refine Z1 ?_;refine A2 [0,3,4,5] ?_;refine Z8 ?_;refine A2 [0,3,4,5,57] ?_
  refine A3 (fun ht57=>?_) (fun ht57=>?_)
  ·have h3:(Bt e.text).toNat=3:=by have:=ht57;simp at this;omega
   have hf1:(((Bt e.text).toNat:Int)+1)=((Kj (Bt e.text).toNat:Nat):Int):=by rw [h3];rfl
   refine Z22 ?_;refine A2 [0,3,4,5] ?_;refine Fl ?_;refine Z14 ?_
   refine A4 (h:=Ad (0) (Ab (e.kids.getD 0 A6)) (fun _=>(Ob (by omega)).1)) (hr:=?_)
   refine Z0 ?_
   refine Cl Tryz.call121 ho (by simp) Ec (yq (e.kids.getD 0 A6) (hev _ (Ob (by omega)).2.1) (hlv _ (Ob (by omega)).2.1) (Kj (Bt e.text).toNat) _ (by first|exact hf1|rw [hf2]) o (bs) _ (B5 ho) (by simp only [Is,Aw,B6,Bc] at *;omega)) ?_
   refine AOo ?_;refine Xu ?_
   refine Aq (h:=Nc (hl:=fun _=>by simp only [B6,Bc];omega)) (hr:=?_)
   refine Aq (h:=Nc (hl:=fun _=>by simp only [B6,Bc,Aw];omega)) (hr:=?_)
   refine Dq ?_
   refine Cl Tryz.call119 (Ay ho) (by simp) Ec (Zu (bs++Oa (Kj (Bt e.text).toNat) (e.kids.getD 0 A6) (Bf (e.kids.getD 0 A6))) (32::(e.text++[32])) (by simp only [Is,Aw,B6,Bc] at *;omega) o _ (B5 (Ay ho))) ?_
   refine fl ?_;refine Z22 ?_
   refine A4 (h:=Ad (1) (Ab (e.kids.getD 1 A6)) (fun _=>(Ob (by omega)).1)) (hr:=?_)
   refine Z11 ?_
   refine Cl Tryz.call121 (Ay (Ay ho)) (by simp) Ec (yq (e.kids.getD 1 A6) (hev _ (Ob (by omega)).2.1) (hlv _ (Ob (by omega)).2.1) ((Bt e.text).toNat+1) _ (by first|rfl|(push_cast;rfl)) o (bs++Oa (Kj (Bt e.text).toNat) (e.kids.getD 0 A6) (Bf (e.kids.getD 0 A6))++32::(e.text++[32])) _ (B5 (Ay (Ay ho))) (by simp only [Is,Aw,B6,Bc] at *;omega)) ?_
   exact vi
  have h3:(Bt e.text).toNat≠3:=by have:=ht57;simp at this;omega
  have hf2:Kj (Bt e.text).toNat=(Bt e.text).toNat:=by unfold Kj;rw [if_neg h3]
  refine Nl ?_
  refine A4 (h:=Ad (0) (Ab (e.kids.getD 0 A6)) (fun _=>(Ob (by omega)).1)) (hr:=?_)
  refine Z0 ?_
  refine Cl Tryz.call121 ho (by simp) Ec (yq (e.kids.getD 0 A6) (hev _ (Ob (by omega)).2.1) (hlv _ (Ob (by omega)).2.1) (Kj (Bt e.text).toNat) _ (by first|exact hf1|rw [hf2]) o (bs) _ (B5 ho) (by simp only [Is,Aw,B6,Bc] at *;omega)) ?_
  refine AOo ?_;refine Xu ?_
  refine Aq (h:=Nc (hl:=fun _=>by simp only [B6,Bc];omega)) (hr:=?_)
  refine Aq (h:=Nc (hl:=fun _=>by simp only [B6,Bc,Aw];omega)) (hr:=?_)
  refine Dq ?_
  refine Cl Tryz.call119 (Ay ho) (by simp) Ec (Zu (bs++Oa (Kj (Bt e.text).toNat) (e.kids.getD 0 A6) (Bf (e.kids.getD 0 A6))) (32::(e.text++[32])) (by simp only [Is,Aw,B6,Bc] at *;omega) o _ (B5 (Ay ho))) ?_
  refine fl ?_;refine Z22 ?_
  refine A4 (h:=Ad (1) (Ab (e.kids.getD 1 A6)) (fun _=>(Ob (by omega)).1)) (hr:=?_)
  refine Z11 ?_
  refine Cl Tryz.call121 (Ay (Ay ho)) (by simp) Ec (yq (e.kids.getD 1 A6) (hev _ (Ob (by omega)).2.1) (hlv _ (Ob (by omega)).2.1) ((Bt e.text).toNat+1) _ (by first|rfl|(push_cast;rfl)) o (bs++Oa (Kj (Bt e.text).toNat) (e.kids.getD 0 A6) (Bf (e.kids.getD 0 A6))++32::(e.text++[32])) _ (B5 (Ay (Ay ho))) (by simp only [Is,Aw,B6,Bc] at *;omega)) ?_
  exact vi
 rw [if_neg (by rw [ht53];simp)] at pe
 refine Z1 ?_;refine A2 [0,3,83] ?_
 refine A3 (fun ht83=>?_) (fun ht83=>?_)
 ·have hsl:∀x,((Iq ((e.kids.take x).map Bf)).drop 2).length≤((Iq (e.kids.map Bf)).drop 2).length:=fun x=>by have:=AM8 (k:=e.kids) x;rw [Gl,Gl];omega
  have hkl6:=hok.2.1
  rw [pe] at hb
  simp only [B6,Aw,Bc,Is] at hb
  refine C3 [0,1,3,0,8,24,63] 6 Am (by kernel_rfl) ?_;refine Xu ?_
  refine Aq (h:=Nc (hl:=fun _=>by simp only [B6,Bc];omega)) (hr:=?_)
  refine Dq ?_
  refine Cl Tryz.call119 ho (by simp) Ec (Zu bs (e.text++[40]) (by simp only [Is,Aw,B6,Bc] at *;omega) o _ (B5 ho)) ?_
  refine Lr ?_;refine Z46 ?_;refine A2 [0,93,94,95] ?_
  refine B9 (α:=Nat) (fun x=>⟨114,Aa 0 (.ptr o 0) (Aa 93 (.slice false 6 (e.kids.map Ab)) (Aa 94 (A5 (e.kids.length:Nat)) (Aa 95 (A5 (x:Nat)) (fun _=>.any)))),Hp.set o (Zt (bs++(e.text++[40])++(Iq ((e.kids.take x).map Bf)).drop 2)),[],[],none⟩) (fun x=>x≤e.kids.length) (fun x=>e.kids.length-x) (0) (Av _) (Az (by simp [Iq])) rfl (fun x hx=>?_)
  refine Z2 ?_;refine A2 [0,93,94,95,96] ?_
  refine Ev (fun ht96=>?_) (fun ht96=>?_)
  ·have hlt:x<e.kids.length:=by simpa using ht96
   have hst:=AE8 hlt
   have hsl1:=hsl (x+1)
   have hslx:=hsl x
   refine U8 ?_
   refine A4 (h:=Ad (x) (Ab e.kids[x]) (fun _=>B3 hlt)) (hr:=?_)
   refine w5 ?_;refine A2 [0,6,7,93,94,95] ?_;refine Z8 ?_;refine A2 [0,7,93,94,95,101] ?_
   refine A3 (fun ht101=>?_) (fun ht101=>?_)
   ·have h0x:0<x:=by simpa using ht101
    rw [if_pos h0x] at hst
    have hstl:=congrArg List.length hst
    simp only [Aw,B6,Bc] at hstl
    refine Z22 ?_
    refine Cl Tryz.call119 (Ay ho) (by simp) Ec (Zu (bs++(e.text++[40])++(Iq ((e.kids.take x).map Bf)).drop 2) [44,32] (by simp only [Is,Aw,B6,Bc] at *;omega) o _ (B5 (Ay ho))) ?_
    refine A2 [0,7,93,94,95] ?_;refine Fl ?_;refine Z29 ?_
    first|refine Cl Tryz.call73 (Ay ho) (by simp) Ec (hev _ (Bb hlt) o (bs++(e.text++[40])++(Iq ((e.kids.take x).map Bf)).drop 2) _ (B5 (Ay ho)) (by simp only [Is,Aw,B6,Bc] at *;omega)) ?_|refine Cl Tryz.call73 (Ay (Ay ho)) (by simp) Ec (hev _ (Bb hlt) o (bs++(e.text++[40])++(Iq ((e.kids.take x).map Bf)).drop 2++[44,32]) _ (B5 (Ay (Ay ho))) (by simp only [Is,Aw,B6,Bc] at *;omega)) ?_
    refine A2 [0,93,94,95] ?_;refine jg ?_;refine A2 [0,93,94,95] ?_;refine B2 (x+1) hlt (by omega) ?_
    simp only [hst,m7,C1,Jd]
    exact Dz (own:=[]) (fun _=>.refl _) (by repeat (first|exact By|refine Bx (by first|exact D4|exact T9|(simp [or_imp,forall_and,oid]<;>omega)) ?_)) (by simp) (by simp)
   have h0x:¬0<x:=by simpa using ht101
   rw [if_neg h0x] at hst
   have hstl:=congrArg List.length hst
   simp only [Aw,B6,Bc] at hstl
   refine Z3 ?_;refine Z29 ?_
   first|refine Cl Tryz.call73 (Ay ho) (by simp) Ec (hev _ (Bb hlt) o (bs++(e.text++[40])++(Iq ((e.kids.take x).map Bf)).drop 2) _ (B5 (Ay ho)) (by simp only [Is,Aw,B6,Bc] at *;omega)) ?_|refine Cl Tryz.call73 (Ay (Ay ho)) (by simp) Ec (hev _ (Bb hlt) o (bs++(e.text++[40])++(Iq ((e.kids.take x).map Bf)).drop 2++[44,32]) _ (B5 (Ay (Ay ho))) (by simp only [Is,Aw,B6,Bc] at *;omega)) ?_
   refine A2 [0,93,94,95] ?_;refine jg ?_;refine A2 [0,93,94,95] ?_;refine B2 (x+1) hlt (by omega) ?_
   simp only [hst,m7,C1,Jd]
   exact Dz (own:=[]) (fun _=>.refl _) (by repeat (first|exact By|refine Bx (by first|exact D4|exact T9|(simp [or_imp,forall_and,oid]<;>omega)) ?_)) (by simp) (by simp)
  have hxe:e.kids.take x=e.kids:=Dn (by simp at ht96;omega)
  have hslx:=hsl x
  refine Z30 ?_;refine Z22 ?_
  refine Cl Tryz.call119 (Ay ho) (by simp) Ec (Zu (bs++(e.text++[40])++(Iq ((e.kids.take x).map Bf)).drop 2) [41] (by simp only [Is,Aw,B6,Bc] at *;omega) o _ (B5 (Ay ho))) ?_
  refine fe ?_;exact Mc .nores ⟨rfl,by rw [pe,hxe]<;>simp⟩
 exfalso
 have h6:=kall
 simp at ht12 ht21 ht29 ht41 ht53 ht83
 omega

theorem qn {e:Expr} (h:Ch e=true):e.text.length≤16∧e.kids.length≤8:=by
 cases Ij h with
 | val v hp h0=>exact ⟨by simp [Ei,Expr.text],by simp [Ei,Expr.kids]⟩
 | name t ht =>
  refine ⟨?_,by simp [Bh,Expr.kids]⟩
  show t.length≤16
  cases t with
  | nil=>simp
  | cons c r =>
   simp only [Hg,Ah,decide_eq_true_eq] at ht
   exact ht.1.1.1
 | neg a=>exact ⟨by simp [Gw,Expr.text],by simp [Gw,Expr.kids]⟩
 | no a=>exact ⟨by simp [Gw,Expr.text],by simp [Gw,Expr.kids]⟩
 | bin t a b ht=>exact ⟨by have:=lq ht;show t.length≤16;omega,by simp [Jm,Expr.kids]⟩
 | call t k ha =>
  refine ⟨by have:=Zg ha;show t.length≤16;omega,?_⟩
  show k.length≤8
  rcases Eb ha with ⟨_,e⟩|⟨_,e⟩|⟨_,e⟩|⟨_,e⟩|⟨_,e⟩|⟨_,e⟩|⟨_,e⟩|⟨_,e⟩<;>omega
theorem dh:∀{l:List Expr} {y:Expr},y∈l→depthE y≤De l
 | a::r,y,h=>by
  rw [De]
  rcases C0.1 h with rfl|h
  ·omega
  have:=dh h
  omega
theorem u6:∀(n:Nat) (e:Expr),depthE e≤n→Bq Ch e=true→okE n e
 | 0,e,h,_=>by rw [In] at h;omega
 | n+1,e,h,hn=>by
  rw [Cb,Ah] at hn
  rw [In] at h
  have hs:=qn hn.1
  refine ⟨by omega,by omega,fun y hy=>u6 n y (by have:=dh hy;omega) ((Bd _ _).1 hn.2 y hy)⟩
theorem F6 {e:Expr} (h:Ax e=true):okE 30 e∧sizeE e≤300:=by
 have h1:=Ik h
 unfold Ax at h
 simp only [Ah,decide_eq_true_eq] at h
 exact ⟨u6 30 e h.1.1 h1,h.1.2⟩
theorem c34 (n:Nat) (e:Expr) (hok:okE n e) (hn:n≤1048576) (hg:Bq Cw e=true) (Hp:List AObj):AFun Tryz.prog 34 [Ab e] Hp (.tup [Ac (W0 e).1,A5 (W0 e).2]):=by
 refine Aj [.tmp 2,.tmp 3] [0] Tryz.func34 Tryz.ntmps34 (fun d=>?_)
 refine Z14 ?_;refine A2 [1] ?_;refine Z25 ?_;refine A9 Tryz.call38 (c38 n e hok hn _) ?_;refine A4 ?_;refine A2 [1,7] ?_
 refine A3 (fun ht7=>?_) (fun ht7=>?_)
 ·have hsh:W0 e=([],1):=if_pos ht7
  refine Z1 ?_;exact AO1
 have hnr:¬(!(Ar e))=true:=by rw [ht7];simp
 have hr:Ax e=true:=by rw [←C4];simpa using ht7
 have hps:=lr hr hg
 refine Xr ?_;refine M9 (places:=#[(0,2)]) jU (fun w=>by simp) jZ ?_;refine R.box ?_;refine A4 ?_;refine A2 [1,4] ?_;refine E9 ?_;refine R.toBld 0 120 5 ?_;refine Z0 ?_
 refine Xk (n:=0) (x:=Zt (Bf e)) Tryz.call73 (c73 n e hok (Ik hr) hg (oid Hp.length 0) [] _ (by rw [Bv];rfl) (by simp only [Is,Bc];omega)) ?_
 refine A2 [4] ?_;refine Z31 ?_
 refine A9 Tryz.call74 (c74 (Bf e) (oid Hp.length 0) _ (by rw [Bv];rfl)) ?_
 refine A4 ?_;refine A2 [4,17] ?_
 refine A3 (fun ht17=>?_) (fun ht17=>?_)
 ·have hsh:W0 e=([],3):=by unfold W0;rw [if_neg hnr,if_pos ht17]
  refine Z1 ?_;exact AO1
 have hsh:W0 e=(Bf e,0):=by unfold W0;rw [if_neg hnr,if_neg (by rw [ht17];simp)]
 refine Nl ?_
 refine Xk (n:=0) (x:=.cells 120 [.any,.any]) Tryz.call75 (c75 (Bf e) (oid Hp.length 0) _ (by rw [Bv];rfl)) ?_
 refine Z0 ?_;refine nu ?_;exact APm

/-- The pairs that peel yields. -/
def pkI (x y:Expr):Nat→Expr×Expr
 | 0=>(x,y)
 | k+1=>if (pkI x y k).1.op==2 then pkI x y k else (Hu (pkI x y k).1 (pkI x y k).2).getD (pkI x y k)
theorem AVi {x y:Expr} (h:(!(apS x).2)=true):Hu x y=none:=by
 unfold Hu
 rw [ADq,if_neg (by simpa using h)]
theorem AVj {x y:Expr} (h:(!(apS x).2)=false) (h2:((!(Gk x (apS x).1 y).2) || !Ar (Gk x (apS x).1 y).1)=true):Hu x y=none:=by
 unfold Hu
 rw [ADq,if_pos (by simpa using h)]
 simp only
 rw [tc]
 cases h1:(Gk x (apS x).1 y).2 with
 | false=>rfl
 | true =>
  rw [h1] at h2
  rw [if_pos rfl]
  simp only
  rw [if_neg (by simpa using h2)]
theorem AVk {x y:Expr} (h:(!(apS x).2)=false) (h2:((!(Gk x (apS x).1 y).2) || !Ar (Gk x (apS x).1 y).1)=false):Hu x y=some ((apS x).1.e,(Gk x (apS x).1 y).1):=by
 have h3:(Gk x (apS x).1 y).2=true∧Ar (Gk x (apS x).1 y).1=true:=by simpa using h2
 unfold Hu
 rw [ADq,if_pos (by simpa using h)]
 simp only
 rw [tc,if_pos h3.1]
 simp only
 rw [if_pos h3.2]
/-- What may be peeled. -/
structure PkOk (p:Expr×Expr):Prop where
 okx:okE 31 p.1
 rng:Bq Cw p.1=true
 size:sizeE p.1≤1048576
 oky:okE 30 p.2
theorem X2 {x:Expr} (h:Bq Cw x=true) (i:Nat):Bq Cw (x.kids.getD i A6)=true:=by
 rw [Cz]
 cases hk:x.kids[i]? with
 | none=>rfl
 | some e =>
  rw [Cb,Ah] at h
  exact (Bd _ _).1 h.2 e (Be hk)
theorem AVl {x:Expr} (h:okE 31 x) (hr:Bq Cw x=true):okE 30 (apS x).1.c∧Bq Cw (apS x).1.c=true:=by
 have n1:okE 30 A6:=Lh (by decide)
 unfold apS
 repeat' split
 ·exact ⟨n1,rfl⟩
 ·exact ⟨n1,rfl⟩
 ·exact ⟨V0 (by decide) h 1,X2 hr 1⟩
 exact ⟨V0 (by decide) h 0,X2 hr 0⟩
theorem Qh {n:Nat} {x y:Expr} {t:Str} (ht:t.length≤1048576) (hx:okE n x) (hy:okE n y):okE (n+1) (H5 x t y):=⟨ht,by show 2≤1048576;decide,fun z hz=>by
 have hz:z=x∨z=y:=by simpa [H5,Expr.kids] using hz
 rcases hz with rfl|rfl
 ·exact hx
 exact hy⟩
theorem i6 {n:Nat} {v:Val}:okE (n+1) (Ei v):=⟨by show ([]:Str).length≤_;decide,by show ([]:List Expr).length≤_;decide,fun z hz=>by cases hz⟩
theorem V6 {n:Nat} {x:Expr} {t:Str} (ht:t.length≤1048576) (hx:okE n x):okE (n+1) (Eo t [x]):=⟨ht,by show 1≤1048576;decide,fun z hz=>by
 have hz:z=x:=by simpa [Eo,Expr.kids] using hz
 subst hz;exact hx⟩
theorem di {n:Nat} {x y:Expr} {t:Str} (ht:t.length≤1048576) (hx:okE n x) (hy:okE n y):okE (n+1) (Eo t [x,y]):=⟨ht,by show 2≤1048576;decide,fun z hz=>by
 have hz:z=x∨z=y:=by simpa [Eo,Expr.kids] using hz
 rcases hz with rfl|rfl
 ·exact hx
 exact hy⟩
theorem AHy {x y:Expr} {s:Sd} (hy:okE 30 y):okE 33 (Gk x s y).1:=by
 have n1:okE 33 A6:=Lh (by decide)
 have u:∀{z:Expr},okE 31 z→okE 33 z:=fun h=>Fo (by decide) h
 have c1:okE 30 (csS s.c 1).1:=i6
 unfold Gk
 split
 ·refine u ⟨by show ([]:Str).length≤_;decide,by show 1≤1048576;decide,fun z hz=>?_⟩
  have hz:z=y:=by simpa [Expr.kids] using hz
  subst hz;exact hy
 split
 ·exact u (V6 (by decide) hy)
 split
 ·unfold Rx
  repeat' split
  ·exact n1
  ·exact u (Qh (by decide) hy c1)
  ·exact u (Qh (by decide) c1 hy)
  exact u (Qh (by decide) hy c1)
 split
 ·unfold Pg
  split
  ·exact n1
  refine di ?_ (Fo (by decide) hy) (Qh (by decide) (V6 (by decide) hy) i6)
  split<;>decide
 exact n1
theorem PkOk.next {x y:Expr} (h:PkOk (x,y)) {p:Expr×Expr} (hp:Hu x y=some p):PkOk p∧sizeE p.1<sizeE x:=by
 have hr:=Zh hp
 unfold Hu at hp
 cases ha:Gf x with
 | none=>rw [ha] at hp;cases hp
 | some s =>
  rw [ha] at hp
  simp only at hp
  cases hu:Li x s y with
  | none=>rw [hu] at hp;cases hp
  | some z =>
   rw [hu] at hp
   simp only at hp
   split at hp
   ·injection hp with hp
    subst hp
    have hk:=gz ha
    have h1:=h.rng
    rw [Cb,Ah] at h1
    have hs:sizeE s.e<sizeE x:=by
     have:=Qc hk
     rw [Ds x]
     omega
    have hsz:=h.size
    refine ⟨⟨Fo (by decide) (h.okx.2.2 _ hk),(Bd _ _).1 h1.2 _ hk,?_,?_⟩,hs⟩
    ·show sizeE s.e≤_
     have:sizeE x≤1048576:=hsz
     omega
    exact (F6 (by rw [←C4];exact hr)).1
   cases hp
theorem u7 {x y:Expr} {k:Nat} {p:Expr×Expr} (h2:(pkI x y k).1.op≠2) (h:Hu (pkI x y k).1 (pkI x y k).2=some p):pkI x y (k+1)=p:=by
 rw [pkI,if_neg (by simpa using h2),h]
 rfl
theorem c83 (l ox oy:Nat) (x y:Expr) (h0k:PkOk (x,y)) (U T:Nat→List AObj) (N:Nat→Prop) (Z:List AObj→Prop) (hlen:∀k,(U k).length=(U 0).length) (hlenT:∀k,(T k).length=(U 0).length) (hll:l<(U 0).length) (hox:ox<(U 0).length) (hoy:oy<(U 0).length) (hne:oy≠ox)
  (hlw:∀k,∀z∈U k,ObjLow (U 0).length z) (hlT:∀k,∀z∈T k,ObjLow (U 0).length z) (h0:N 0) (hxU:∀k,(U k)[ox]? = some (.cells 26 (B7 (pkI x y k).1))) (hyU:∀k,(U k)[oy]? = some (.cells 26 (B7 (pkI x y k).2))) (hxT:∀k,(T k)[ox]? = some (.cells 26 (B7 (pkI x y k).1))) (hyT:∀k,(T k)[oy]? = some (.cells 26 (B7 (pkI x y k).2)))
  (hn:∀k,((T k).set oy (.cells 26 (B7 (pkI x y (k+1)).2))).set ox (.cells 26 (B7 (pkI x y (k+1)).1))=U (k+1))
  (hy:∀k X,N k→AYield Tryz.prog l [Ab (pkI x y k).1,Ab (pkI x y k).2] (U k++X) (fun b H'=>b=true∧H'=T k++X))
  (hN:∀k p,N k→(pkI x y k).1.op≠2→Hu (pkI x y k).1 (pkI x y k).2=some p→N (k+1))
  (hE:∀k z,N k→((pkI x y k).1.op=2∨Hu (pkI x y k).1 (pkI x y k).2=none)→Z (T k)∧Z ((T k).set oy (.cells 26 (B7 z)))):ACall Tryz.prog 83 [.yield l,.ptr ox 0,.ptr oy 0] (U 0) (fun _ H'=>Z H'):=by
 refine Aj [] [0,1,2] Tryz.func83 Tryz.ntmps83 (fun d=>?_)
 refine B9 (α:=Nat) (fun k=>⟨38,Aa 0 (.yield l) (Aa 1 (.ptr ox 0) (Aa 2 (.ptr oy 0) (fun _=>.any))),U k,[],[],none⟩) (fun k=>N k∧PkOk (pkI x y k)) (fun k=>sizeE (pkI x y k).1) (0) ⟨h0,h0k⟩ (Az (by simp)) rfl (fun k hx=>?_)
 refine Z25 ?_
 refine A4 (h:=U1 (hxU k)) (hr:=?_)
 refine A4 (h:=U1 (hyU k)) (hr:=?_)
 refine R.yield (hy k _ hx.1) ?_
 intro b V O hV hb
 obtain ⟨rfl,hH⟩:=hb
 obtain ⟨rfl,rfl⟩:=Ts hH (by rw [hV,hlen,hlenT])
 refine ⟨fun _=>by rw [hlenT];exact hlT _,fun o ho=>by simp at ho,?_⟩
 refine o0 ?_
 refine Bl (h:=Fi (hxT k)) (hr:=?_)
 refine Z92 ?_;refine A2 [0,1,2,14] ?_
 refine A3 (fun ht14=>?_) (fun ht14=>?_)
 ·have h2:(pkI x y k).1.op≠2:=by simpa using ht14
  refine vt ?_;refine E9 ?_
  have hac:=AVl hx.2.okx hx.2.rng
  refine A4 (h:=U1 (hxT k)) (hr:=?_)
  refine A9 Tryz.call84 (c84 30 (by decide) (pkI x y k).1 hx.2.okx (by decide) hx.2.size _) ?_;refine Z94 ?_;refine A2 [0,1,2,4,5] ?_;refine Z8 ?_;refine A2 [0,1,2,4,21] ?_
  refine A3 (fun ht21=>?_) (fun ht21=>?_)
  ·have hz:=(hE k A6 hx.1 (.inr (AVi ht21))).1
   refine nz ?_;refine Kh ?_;exact A8 .nores (hp:=hz)
  refine Z3 ?_;refine Z89 ?_
  refine A4 (h:=U1 (hxT k)) (hr:=?_)
  refine A4 ?_
  refine A4 (h:=U1 (hyT k)) (hr:=?_)
  refine A9 Tryz.call85 (c85 30 (pkI x y k).1 (apS (pkI x y k).1).1 hac.1 (by decide) hac.2 (pkI x y k).2 _) ?_;refine Z11 ?_
  refine Hb jS (hyT k) ?_ ?_
  ·first|exact M3|simp [Ag]
  refine A4 ?_;refine A2 [0,1,2,4,5] ?_;refine Z14 ?_
  refine Bl (h:=U1 (Ay (hyT k))) (hr:=?_)
  refine Bk Tryz.call38 (fun hB=>c38 33 (Gk (pkI x y k).1 (apS (pkI x y k).1).1 (pkI x y k).2).1 (AHy hx.2.oky) (by decide) _) ?_;refine Z92 ?_;refine A2 [0,1,2,4,35] ?_
  refine A3 (fun ht35=>?_) (fun ht35=>?_)
  ·have hz:=(hE k (Gk (pkI x y k).1 (apS (pkI x y k).1).1 (pkI x y k).2).1 hx.1 (.inr (AVj ht21 ht35))).2
   refine nz ?_;refine Kh ?_;exact A8 .nores (hp:=hz)
  have hst:=AVk ht21 ht35
  have hpn:=u7 h2 hst
  have hnx:=hx.2.next hst
  refine Z3 ?_;refine Z29 ?_
  refine Hb jS (AM7 (hxT k) hne) ?_ ?_
  ·first|exact M3|simp [Ag]
  refine A2 [0,1,2] ?_;refine Ix ?_
  refine B2 (k+1) ⟨hN k _ hx.1 h2 hst,by rw [hpn];exact hnx.1⟩ (by rw [hpn];have:=hnx.2;omega) ?_
  have e:=hn k
  rw [hpn] at e
  rw [e]
  exact Dz (own:=[]) (fun _=>.refl _) (by repeat (first|exact By|refine Bx (by have:=hlen (k+1);simp;omega) ?_)) (by simp) (by simp)
 have h2:(pkI x y k).1.op=2:=by simpa using ht14
 refine w7 ?_;exact Mc .nores (hp:=(hE k A6 hx.1 (.inl h2)).1)

theorem ACall.argLe {P:Program} {g:FuncId} {args args':List AV} {H:List AObj} {post:AV→List AObj→Prop} (h:ACall P g args' H post) (hl:args.length=args'.length) (hle:∀(i:Nat) (y y':AV),args[i]? = some y→args'[i]? = some y'→Le y y'):ACall P g args H post:=
 fun d G w vs h1 h2 h3 h4=>h d G w vs (h1.trans hl) (fun i y u hy hu=>by
  have hi:i<args.length:=by rw [hl];exact (Ak.1 hy).1
  exact (h2 i _ u (Ae hi) hu).le (hle i _ y (Ae hi) hy)) h3 h4
theorem yr (s:Str):Le (.agg [A5 2,Ac s,A5 0,A5 0,Ac [],.nil]) (Ab (Bh s)):=by
 rw [Af]
 refine .agg _ _ rfl (fun y hy=>?_) (fun i y y' hy hy'=>?_)
 ·simp only [B7,C0,Fb,or_false] at hy
  rcases hy with rfl|rfl|rfl|rfl|rfl|rfl<;>rfl
 match i with
 | 0=>simp at hy;subst hy;simp [B7,Bh] at hy';subst hy';exact .inl rfl
 | 1=>simp at hy;subst hy;simp [B7,Bh] at hy';subst hy';exact .inl rfl
 | 2=>simp at hy;subst hy;simp [B7,Bh] at hy';subst hy';exact .inl rfl
 | 3=>simp at hy;subst hy;simp [B7,Bh] at hy';subst hy';exact .inl rfl
 | 4=>simp at hy;subst hy;simp [B7,Bh] at hy';subst hy';exact .inl rfl
 | 5=>simp at hy;subst hy;simp [B7,Bh] at hy';subst hy';exact .inr ⟨rfl,6,rfl⟩
 | i+6=>simp at hy
theorem AQx (x:Expr) (hx:okE 61 x) (s:Str) (Hp:List AObj):AFun Tryz.prog 20 [Ab x,.agg [A5 2,Ac s,A5 0,A5 0,Ac [],.nil]] Hp (At (eqE x (Bh s))):=
 ACall.argLe (c20 61 x hx (Bh s) Hp) rfl fun i y y' hy hy'=>by
  match i with
  | 0=>simp at hy hy';subst hy;subst hy';exact .refl _
  | 1=>simp only [Oe,mz,Sg] at hy hy';subst hy;subst hy';exact yr s
  | i+2=>simp at hy
def Lo (m:Mov):Bool:=
 if m.kind==1 then ((m.take.length:Int)==0)&&((m.give.length:Int)==1)
 else if m.kind==2 then ((m.take.length:Int)==1)&&((m.give.length:Int)==0)
 else if (m.kind==3) || (m.kind==6) then ((m.take.length:Int)==1)&&((m.give.length:Int)==1)
 else if m.kind==4 then ((m.take.length:Int)==1)&&decide ((2:Int)≤(m.give.length:Int))
 else if m.kind==5 then decide ((2:Int)≤(m.take.length:Int))&&((m.give.length:Int)==1)
 else false
theorem AE9 (n:Nat):decide ((1:Int)<(n:Int))=decide ((2:Int)≤(n:Int)):=by
 by_cases h:2≤n
 ·have h1:(1:Int)<n:=by omega
  have h2:(2:Int)≤n:=by omega
  simp [h1,h2]
 have h1:¬(1:Int)<n:=by omega
 have h2:¬(2:Int)≤n:=by omega
 simp [h1,h2]
theorem AEa {m:Mov} (h:(((m.ahead.length:Int) != (m.give.length:Int)) || ((m.back.length:Int) != (m.take.length:Int)))=false):Fw m=Lo m:=by
 rw [m5 h,AE9,AE9]
 rfl
theorem yt (k:Int):(Er k==([]:Str))=(decide (k<1) || decide (3<k)):=by
 unfold Er
 by_cases h:k<1∨3<k
 ·rw [if_pos (by first|exact h|omega)]
  rcases h with h|h<;>simp [h]
 rw [if_neg (by first|exact h|omega)]
 have hk:k=1∨k=2∨k=3:=by omega
 rcases hk with rfl|rfl|rfl<;>rfl
theorem dj {m:Mov} {c:Col}:(((!(Cg c.name)) || ((m.kind==3)&&(c.kind != 0))) || ((m.kind != 3)&&(decide (c.kind<1) || decide (3<c.kind)))) = !Jq m c:=by
 rw [←yt]
 unfold Jq
 rw [show (m.kind != 3) = !(m.kind==3) from rfl]
 cases h3:(m.kind==3) with
 | false=>cases Cg c.name<;>cases (Er c.kind==([]:Str))<;>cases (c.kind != 0)<;>rfl
 | true =>
  by_cases h0:c.kind=0
  ·have e:(Er c.kind==([]:Str))=true:=by rw [h0];rfl
   have e0:(c.kind != 0)=false:=by rw [h0];rfl
   rw [e,e0]
   cases Cg c.name<;>rfl
  have e0:(c.kind != 0)=true:=by simpa using h0
  rw [e0]
  cases Cg c.name<;>cases (Er c.kind==([]:Str))<;>rfl
theorem X3 (l:List Expr):l.all Ax=l.all Ar:=by
 congr 1
 funext e
 exact (C4 e).symm
theorem AHz {m:Mov} (h:(((((m.ahead.length:Int) != (m.give.length:Int)) || ((m.back.length:Int) != (m.take.length:Int))) || (!(m.ahead.all Ax))) || (!(m.back.all Ax)))=true):H4 m=false:=by
 rw [X3,X3] at h
 unfold H4
 cases h1:(((m.ahead.length:Int) != (m.give.length:Int)) || ((m.back.length:Int) != (m.take.length:Int))) with
 | true=>rw [m4 h1];rfl
 | false =>
  rw [h1] at h
  cases h2:m.ahead.all Ar<;>cases h3:m.back.all Ar<;>simp_all
theorem AI0 {m:Mov} (h:(((((m.ahead.length:Int) != (m.give.length:Int)) || ((m.back.length:Int) != (m.take.length:Int))) || (!(m.ahead.all Ax))) || (!(m.back.all Ax)))=false):Fw m=Lo m∧H4 m=(((Lo m&&m.give.all (Jq m))&&m.take.all Cg)&&Ll m):=by
 rw [X3,X3] at h
 simp only [Df,Ka] at h
 have hk:=AEa (m:=m) (by simp only [Df];exact h.1.1)
 refine ⟨hk,?_⟩
 unfold H4
 rw [hk,h.1.2,h.2]
 simp
theorem AI1 {m:Mov} (h6:(m.kind==6)=false):Ll m=((m.kind != 3) || (eqE (m.ahead.getD 0 A6) (Bh (m.take.getD 0 []))&&eqE (m.back.getD 0 A6) (Bh (m.give.getD 0 ⟨[],0⟩).name))):=by
 rw [show (m.kind != 3) = !(m.kind==3) from rfl]
 cases h:(m.kind==3) with
 | true=>rw [ADy h];rfl
 | false=>rw [AE0 h h6];rfl
theorem AI2 {m:Mov} (h6:(m.kind==6)=true):Ll m=(m.take.getD 0 []==(m.give.getD 0 ⟨[],0⟩).name):=ADz (by simp at h6 ⊢;omega) h6
theorem AVm (m:Mov) (h:OkMov m) (Hp:List AObj):AFun Tryz.prog 106 [Ir m] Hp (At (H4 m)):=by
 refine Aj [.tmp 2] [0] Tryz.func106 Tryz.ntmps106 (fun d=>?_)
 refine Z81 ?_;refine C3 [0,1,3,0,8,24,7,127] 7 Am (by kernel_rfl) ?_;refine O6 ?_;refine Z37 ?_;refine Dq ?_;refine A4 ?_;refine fm ?_;refine Z89 ?_
 simp only [B8]
 refine Z72 ?_;refine Z42 ?_;refine Z27 ?_;refine Z42 ?_;refine Bk Tryz.call149 (fun hB=>AQn m.ahead h.ahead _) ?_;refine wd ?_;refine Bk Tryz.call149 (fun hB=>AQn m.back h.back _) ?_;refine Z92 ?_;refine A2 [1,3,4,38] ?_
 refine A3 (fun ht38=>?_) (fun ht38=>?_)
 ·simp only [B8] at ht38
  have hm:=AHz ht38
  exact AG0
 simp only [B8] at ht38
 obtain ⟨hck,hm0⟩:=AI0 ht38
 refine Z58 ?_;refine A2 [1,3,4,5] ?_
 refine Hw ⟨178,Aa 1 (.ro (Ph m)) (Aa 3 (A5 (m.take.length:Nat)) (Aa 4 (A5 (m.give.length:Nat)) (Aa 5 (At (Lo m)) (fun _=>.any)))),Hp,[],[],none⟩ ?_ ?_
 ·refine Z1 ?_;refine A2 [1,3,4,5,40] ?_;refine Z97 ?_;refine A2 [1,3,4,5,40,41] ?_
  refine A3 (fun ht41=>?_) (fun ht41=>?_)
  ·refine w8 ?_;refine Z76 ?_;exact Az (by unfold Lo;first|(simp only [ht38,ht41,hk3,hk6,Dd,Cj,Fx,Jc,if_true,if_false,An,↓reduceIte]<;>rfl)|(simp only [ht38,ht41,hk3,Dd,Cj,Fx,if_true,if_false,An,↓reduceIte]<;>rfl)|(simp only [ht38,ht41,if_true,if_false,An,↓reduceIte]<;>rfl))
  refine Z1 ?_;refine A2 [1,3,4,5,40,49] ?_
  refine A3 (fun ht49=>?_) (fun ht49=>?_)
  ·refine w8 ?_;refine Z76 ?_;exact Az (by unfold Lo;first|(simp only [ht38,ht41,ht49,hk3,hk6,Dd,Cj,Fx,Jc,if_true,if_false,An,↓reduceIte]<;>rfl)|(simp only [ht38,ht41,ht49,hk3,Dd,Cj,Fx,if_true,if_false,An,↓reduceIte]<;>rfl)|(simp only [ht38,ht41,ht49,if_true,if_false,An,↓reduceIte]<;>rfl))
  refine Z8 ?_;refine A2 [1,3,4,5,40,57] ?_
  refine A3 (fun ht57=>?_) (fun ht57=>?_)
  ·have hk3:=ht57
   refine Z3 ?_
   refine A3 (fun ht57=>?_) (fun ht57=>?_)
   ·refine w8 ?_;refine Ix ?_;exact Z64
   rw [hk3] at ht57;cases ht57
  have hk3:=ht57
  refine Z29 ?_;refine A2 [1,3,4,5,40,57] ?_;refine Fl ?_
  refine A3 (fun ht57=>?_) (fun ht57=>?_)
  ·have hk6:=ht57
   refine w8 ?_;refine Ix ?_;exact Z64
  have hk6:=ht57
  refine Z1 ?_;refine A2 [1,3,4,5,40,66] ?_
  refine A3 (fun ht66=>?_) (fun ht66=>?_)
  ·refine w8 ?_;refine Z76 ?_;exact Az (by unfold Lo;first|(simp only [ht38,ht41,ht49,ht57,ht57,ht66,hk3,hk6,Dd,Cj,Fx,Jc,if_true,if_false,An,↓reduceIte]<;>rfl)|(simp only [ht38,ht41,ht49,ht57,ht57,ht66,hk3,Dd,Cj,Fx,if_true,if_false,An,↓reduceIte]<;>rfl)|(simp only [ht38,ht41,ht49,ht57,ht57,ht66,if_true,if_false,An,↓reduceIte]<;>rfl))
  refine Z1 ?_;refine A2 [1,3,4,5,74] ?_
  refine A3 (fun ht74=>?_) (fun ht74=>?_)
  ·refine w8 ?_;refine Ix ?_;exact Z59
  refine Di [1,3,4,5] ?_;refine ABl ?_;exact Z59
 refine Z8 ?_;refine A2 [1,3,4,83] ?_
 refine A3 (fun ht83=>?_) (fun ht83=>?_)
 ·have hkf:Lo m=false:=by simpa using ht83
  have hm:H4 m=false:=by rw [hm0,hkf];rfl
  exact AG0
 have hkm:Lo m=true:=by simpa using ht83
 have hct:Fw m=true:=hck.trans hkm
 obtain ⟨hl3,hl4⟩:=Ln hct
 refine Nk ?_;refine A2 [1,3,4,6] ?_
 refine B9 (α:=Nat) (fun x=>⟨178,Aa 1 (.ro (Ph m)) (Aa 3 (A5 (m.take.length:Nat)) (Aa 4 (A5 (m.give.length:Nat)) (Aa 6 (A5 (x:Nat)) (fun _=>.any)))),Hp,[],[],none⟩) (fun x=>x≤m.take.length∧∀(j:Nat) (y:Str),j<x→m.take[j]? = some y→(!Cg y)=false) (fun x=>m.take.length-x) (0) ⟨Av _,fun j y h=>by omega⟩ (Az (by simp)) rfl (fun x hx=>?_)
 refine Z31 ?_;refine A2 [1,3,4,6,86] ?_
 refine A3 (fun ht86=>?_) (fun ht86=>?_)
 ·have hlt:x<m.take.length:=by simpa using ht86
  have htk:=h.takes
  refine jh ?_
  refine A4 (h:=Ad (x) (Ac m.take[x]) (fun _=>B3 hlt)) (hr:=?_)
  refine A4 ?_;refine A9 Tryz.call52 (c52 m.take[x] (h.names _ (Bb hlt)) _) ?_;refine A4 ?_;refine A2 [1,3,4,6,95] ?_
  refine A3 (fun ht95=>?_) (fun ht95=>?_)
  ·rw [←Ea] at ht95
   have hm:H4 m=false:=by
    rw [hm0,Od.2 ⟨_,Bb hlt,by simpa using ht95⟩]
    simp
   refine Z26 ?_;exact Z83
  rw [←Ea] at ht95
  refine Z87 ?_;refine A2 [1,3,4,6] ?_;exact B2 (x+1) ⟨hlt,D3 hlt hx.2 ht95⟩ (by omega) (Bz rfl)
 have hxe:m.take.length≤x:=by simpa using ht86
 have hta:m.take.all Cg=true:=by have:=My hxe hx.2;rw [Ib] at this;simpa using this
 refine Z52 ?_;refine Z25 ?_;refine A2 [1,4,7] ?_
 refine B9 (α:=Nat) (fun k=>⟨178,Aa 1 (.ro (Ph m)) (Aa 4 (A5 (m.give.length:Nat)) (Aa 7 (A5 (k:Nat)) (fun _=>.any))),Hp,[],[],none⟩) (fun k=>k≤m.give.length∧∀(j:Nat) (y:Col),j<k→m.give[j]? = some y→(!Jq m y)=false) (fun k=>m.give.length-k) (0) ⟨Av _,fun j y h=>by omega⟩ (Az (by simp)) rfl (fun k hk=>?_)
 refine Z31 ?_;refine A2 [1,4,7,98] ?_
 refine A3 (fun ht98=>?_) (fun ht98=>?_)
 ·have hlk:k<m.give.length:=by simpa using ht98
  have hgl:=h.gives2
  refine jh ?_
  refine A4 (h:=Ad (k) (D8 m.give[k]) (fun _=>B3 hlk)) (hr:=?_)
  refine Z11 ?_;refine A2 [1,4,7,8] ?_;refine Z14 ?_
  refine A4 (h:=Ad (k) (D8 m.give[k]) (fun _=>B3 hlk)) (hr:=?_)
  refine Z0 ?_;refine A9 Tryz.call52 (c52 m.give[k].name (h.gives.2 _ (Bb hlk)) _) ?_;refine am ?_;refine Z27 ?_;refine Z42 ?_;refine Z70 ?_;refine Z5 ?_;refine Mf ?_;refine A2 [1,4,7,136] ?_
  refine A3 (fun ht136=>?_) (fun ht136=>?_)
  ·rw [←Ea,dj] at ht136
   have hm:H4 m=false:=by
    rw [hm0,Od.2 ⟨_,Bb hlk,by simpa using ht136⟩]
    simp
   refine Z26 ?_;exact Z83
  rw [←Ea,dj] at ht136
  refine Z87 ?_;refine A2 [1,4,7] ?_;exact B2 (k+1) ⟨hlk,D3 hlk hk.2 ht136⟩ (by omega) (Bz rfl)
 have hke:m.give.length≤k:=by simpa using ht98
 have hga:m.give.all (Jq m)=true:=by have:=My hke hk.2;rw [Ib] at this;simpa using this
 have hm1:H4 m=Ll m:=by rw [hm0,hkm,hga,hta];rfl
 have g1:=fun h0=>O5 (f:=Ab) (l:=m.ahead) (d:=A6) h0
 have g2:=fun h0=>O5 (f:=Ab) (l:=m.back) (d:=A6) h0
 have g3:=fun h0=>O5 (f:=Ac) (l:=m.take) (d:=[]) h0
 have g4:=fun h0=>O5 (f:=D8) (l:=m.give) (d:=⟨[],0⟩) h0
 refine Z52 ?_;refine Z31 ?_;refine A2 [1,139] ?_
 refine A3 (fun ht139=>?_) (fun ht139=>?_)
 ·obtain ⟨hl1,hl2⟩:=Pi hct (by rw [ht139];simp)
  have hm:=hm1.trans (AI2 ht139)
  refine AOk ?_
  refine Aq (h:=Ad (0) (Ac (m.take.getD 0 [])) (fun _=>g3 (by omega))) (hr:=?_)
  refine Z37 ?_
  refine Aq (h:=Ad (0) (D8 (m.give.getD 0 ⟨[],0⟩)) (fun _=>g4 (by omega))) (hr:=?_)
  refine Z85 ?_;refine Z55 ?_;exact AMz
 have hm:=hm1.trans (AI1 ht139)
 have len3:((m.kind != 3)==false)=true→0<m.ahead.length∧0<m.take.length∧0<m.back.length∧0<m.give.length:=fun hB=>by
  obtain ⟨a1,a2⟩:=Pi hct (by simp at hB;rw [hB];rfl)
  omega
 have and3:∀{b:Bool},(((m.kind != 3)==false)&&b)=true→((m.kind != 3)==false)=true:=fun h=>AHr h
 refine Z3 ?_;refine C3 [0,1,3,7,15,31,63,127,15,271,783,1807,3855,8191,16383,32767,65535,131071,262143,32767,557055,1605631,3702783,7897087,16285695,33554431,67108863,134217727,268435455] 25 Am (by kernel_rfl) ?_;refine O6 ?_;refine Z57 ?_
 refine Fh (h:=Ad (0) (Ab (m.ahead.getD 0 A6)) (fun hB=>g1 (len3 hB).1)) (hr:=?_)
 refine jf ?_
 refine Fh (h:=Ad (0) (Ac (m.take.getD 0 [])) (fun hB=>g3 (len3 hB).2.1)) (hr:=?_)
 refine Fh ?_;refine H.build (places:=#[(0,1),(1,1),(2,3),(5,1)]) jU (fun w=>by simp) jZ ?_;refine Xj Tryz.call20 (fun hB=>AQx (m.ahead.getD 0 A6) (h.ahead.ok _ (Mz (len3 hB).1)) (m.take.getD 0 []) _) ?_;refine jf ?_
 refine Fh (h:=Ad (0) (Ab (m.back.getD 0 A6)) (fun hB=>g2 (len3 (and3 hB)).2.2.1)) (hr:=?_)
 refine jf ?_
 refine Fh (h:=Ad (0) (D8 (m.give.getD 0 ⟨[],0⟩)) (fun hB=>g4 (len3 (and3 hB)).2.2.2)) (hr:=?_)
 refine Z57 ?_;refine H.build (places:=#[(0,1),(1,1),(2,3),(5,1)]) jU (fun w=>by simp) jZ ?_;refine Dq ?_;refine Bk Tryz.call20 (fun hB=>AQx (m.back.getD 0 A6) (h.back.ok _ (Mz (len3 (and3 hB)).2.2.1)) (m.give.getD 0 ⟨[],0⟩).name _) ?_;refine Bl ?_;refine Z55 ?_;exact o7

theorem c61 (l:List Mov) (h:OkMovs l) (Hp:List AObj):AFun Tryz.prog 61 [Gi l] Hp (At (Ql l)):=by
 refine Aj [.tmp 2] [0] Tryz.func61 Tryz.ntmps61 (fun d=>?_)
 refine Z56 ?_;refine Z31 ?_;refine A2 [0,6] ?_
 refine A3 (fun ht6=>?_) (fun ht6=>?_)
 ·rw [B8] at ht6
  have hm:Ql l=false:=by
   unfold Ql
   rw [show decide ((l.length:Int)≤8)=false by simp at ht6 ⊢;omega]
   rfl
  refine Z26 ?_;exact AFk
 rw [B8] at ht6
 have h8:decide ((l.length:Int)≤8)=true:=by simp at ht6 ⊢;omega
 have hl8:l.length≤8:=by simp at h8;omega
 refine Nk ?_;refine Lr ?_
 refine B9 (α:=Nat) (fun x=>⟨19,Aa 0 (Gi l) (Aa 3 (A5 (x:Nat)) (fun _=>.any)),Hp,[],[],none⟩) (fun x=>x≤l.length∧∀(j:Nat) (y:Mov),j<x→l[j]? = some y→(!H4 y)=false) (fun x=>l.length-x) (0) ⟨Av _,fun j y h=>by omega⟩ (Az (by simp)) rfl (fun x hx=>?_)
 refine Z46 ?_;refine A2 [0,3,10] ?_
 refine A3 (fun ht10=>?_) (fun ht10=>?_)
 ·have hlt:x<l.length:=by simpa using ht10
  refine Xt ?_
  refine A4 (h:=Ad (x) (Ir l[x]) (fun _=>B3 hlt)) (hr:=?_)
  refine A4 ?_;refine A9 Tryz.call106 (AVm l[x] (h.each _ (Bb hlt)) _) ?_;refine A4 ?_;refine A2 [0,3,18] ?_
  refine A3 (fun ht18=>?_) (fun ht18=>?_)
  ·have hm:Ql l=false:=by
    unfold Ql
    rw [Od.2 ⟨_,Bb hlt,by simpa using ht18⟩]
    simp
   refine Z26 ?_;exact AB3
  refine Z87 ?_;refine Lr ?_;exact B2 (x+1) ⟨hlt,D3 hlt hx.2 ht18⟩ (by omega) (Bz rfl)
 have hxe:l.length≤x:=by simpa using ht10
 have hm:Ql l=true:=by
  have h2:=My hxe hx.2
  rw [Ib] at h2
  unfold Ql
  rw [h8]
  simpa using h2
 refine Z52 ?_;exact AKi

theorem AI3 (c:List Col) (ms:List Mov):∀k,((F9 c ms k).map B0)[k]? = some (B0 (colsAt c ms k))
 | 0=>rfl
 | k+1=>by
  have h:=N0 c ms k
  rw [F9,Cs,E6 (by rw [B8];omega),B8,h,ee]
  rfl
theorem qo {c:List Col} {ms:List Mov} {k:Nat} {m:Mov} (hk:ms[k]? = some m) (h:NS c ms k) (he:(Do (colsAt c ms k) m).2≠0):Ej c ms=(F9 c ms k,(Do (colsAt c ms k) m).2):=by
 unfold NS at h
 rw [h,Tj hk,Ej,if_pos (by simpa using he)]
 exact Prod.ext (i5 c ms k) rfl
theorem AM9 {c:List Col} {l:List Mov} (h:((!(Ew c)) || (!(Ql l)))=true):Lm c l=([],1):=if_neg (by unfold V2;cases h1:Ew c<;>cases h2:Ql l<;>simp_all)
theorem AI4 {c:List Col} {l:List Mov} (h:((!(Ew c)) || (!(Ql l)))=false):V2 c l=true:=by unfold V2;cases h1:Ew c<;>cases h2:Ql l<;>simp_all
theorem c26 (c:List Col) (hc:OkCols c) (l:List Mov) (h:OkMovs l) (Hp:List AObj):AFun Tryz.prog 26 [B0 c,Gi l] Hp (.tup [AE4 (Lm c l).1,A5 (Lm c l).2]):=by
 refine Aj [.tmp 4,.tmp 5] [0,1] Tryz.func26 Tryz.ntmps26 (fun d=>?_)
 refine j9 ?_;refine Z25 ?_;refine A9 Tryz.call24 (c24 c hc _) ?_;refine Wf ?_;refine Bk Tryz.call61 (fun hB=>c61 l h _) ?_;refine Z92 ?_;refine A2 [0,1,17] ?_
 refine A3 (fun ht17=>?_) (fun ht17=>?_)
 ·have hm:=AM9 ht17
  refine Z2 ?_;refine R.nilTmp 4 1 false ?_;refine A4 ?_;refine Z68 ?_;exact A8 (As A7 A7) ⟨by rw [hm];rfl,rfl⟩
 have hmay:=AI4 ht17
 obtain ⟨hmv,hl8⟩:=AE3 hmay h
 have hmr:Lm c l=Ej c l:=if_pos hmay
 refine Z58 ?_;refine j3 ?_;refine A2 [1,6] ?_;refine Z25 ?_;refine A2 [1,6,7] ?_
 refine B9 (α:=Nat) (fun x=>⟨47,Aa 1 (Gi l) (Aa 6 (.slice true 1 ((F9 c l x).map B0)) (Aa 7 (A5 (x:Nat)) (fun _=>.any))),Hp,[],[],none⟩) (fun x=>x≤l.length∧NS c l x) (fun x=>l.length-x) (0) ⟨Av _,AQu⟩ (Az (by simp [F9])) rfl (fun x hx=>?_)
 refine Z46 ?_;refine A2 [1,6,7,23] ?_
 refine A3 (fun ht23=>?_) (fun ht23=>?_)
 ·have hlt:x<l.length:=by simpa using ht23
  refine Z50 ?_;refine C3 [0,0,3,7,0,0,48,112,255,511,1023,1023,2047,8191] 13 Am (by kernel_rfl) ?_;refine Z9 ?_
  refine Aq (h:=Ad (x) (B0 (colsAt c l x)) (fun _=>AI3 c l x)) (hr:=?_)
  refine Z37 ?_
  refine Aq (h:=Ad (x) (Ir l[x]) (fun _=>B3 hlt)) (hr:=?_)
  refine Aq ?_;refine Cd Tryz.call62 (c62 (colsAt c l x) (Qg hc (fun m hm=>h.each m hm) x) l[x] (hmv _ (Bb hlt)) _) ?_;refine Z9 ?_;refine Z85 ?_;refine A4 ?_;refine A2 [1,6,7,8,9] ?_;refine Z8 ?_;refine A2 [1,6,7,8,9,39] ?_
  refine A3 (fun ht39=>?_) (fun ht39=>?_)
  ·have he:(Do (colsAt c l x) l[x]).2≠0:=by simpa using ht39
   have hm:Lm c l=(F9 c l x,(Do (colsAt c l x) l[x]).2):=hmr.trans (qo (Ae hlt) hx.2 he)
   refine Z21 ?_;refine Z68 ?_;refine Z71 ?_;exact APn
  have he:(Do (colsAt c l x) l[x]).2=0:=by simpa using ht39
  refine Z3 ?_;refine j6 ?_;refine fc ?_
  refine Gz jU Tryz.type27 ?_ ?_ ?_
  ·have hol:=N0 c l x;simp [Tryz.t27];omega
  ·have hol:=N0 c l x;simp [Tryz.t27];omega
  refine Jh ?_;refine A2 [1,6,7] ?_;refine Me ?_;refine A2 [1,6,7] ?_
  refine B2 (x+1) ⟨hlt,tz (Ae hlt) hx.2 he⟩ (by omega) (Bz ?_)
  rw [F9,V4 (Ae hlt),Cs]
  rfl
 have hxe:x=l.length:=by have:=hx.1;simp at ht23;omega
 have hm:Lm c l=(F9 c l x,0):=by rw [hmr];subst hxe;exact AE1 hx.2
 refine Z52 ?_;refine Z14 ?_;refine Z73 ?_;exact APn

/-! fuse: trees in columns' places. -/
/-! fuse.Forth and plan.Text. -/
/-! The text. -/
/-! ONE LINE EACH. -/
/-! SoundJoins: one behind the other, in one. -/
/-! image: rows forth and back. -/
/-! slices.Backward of moves. -/
theorem yu {x y:Expr} {p:Expr×Expr} (hp:Hu x y=some p):sizeE p.1<sizeE x:=by
 unfold Hu at hp
 cases ha:Gf x with
 | none=>rw [ha] at hp;cases hp
 | some s =>
  rw [ha] at hp
  simp only at hp
  cases hu:Li x s y with
  | none=>rw [hu] at hp;cases hp
  | some z =>
   rw [hu] at hp
   simp only at hp
   split at hp
   ·injection hp with hp
    subst hp
    have:=Qc (gz ha)
    rw [Ds x]
    show sizeE s.e<_
    omega
   cases hp
/-- Where peel stands. -/
structure PkN (x y:Expr) (k:Nat):Prop where
 eq:Gg (sizeE x) x y=Gg (sizeE x-k) (pkI x y k).1 (pkI x y k).2
 le:sizeE (pkI x y k).1≤sizeE x-k
theorem PkN.zero {x y:Expr}:PkN x y 0:=⟨rfl,Ao _⟩
theorem PkN.next {x y:Expr} {k:Nat} {p:Expr×Expr} (h:PkN x y k) (h2:(pkI x y k).1.op≠2) (hs:Hu (pkI x y k).1 (pkI x y k).2=some p):PkN x y (k+1):=by
 have hl:=yu hs
 have hle:=h.le
 have e:=u7 h2 hs
 obtain ⟨m,hm⟩:∃m,sizeE x-k=m+1:=⟨sizeE x-k-1,by omega⟩
 have hm2:sizeE x-(k+1)=m:=by omega
 refine ⟨?_,?_⟩
 ·rw [h.eq,hm,Gg,if_neg (by simpa using h2),hs,hm2,e]
 rw [e,hm2];omega
theorem PkN.stop {x y:Expr} {k:Nat} (h:PkN x y k) (hs:(pkI x y k).1.op=2∨Hu (pkI x y k).1 (pkI x y k).2=none):Gg (sizeE x) x y=pkI x y k:=by
 rw [h.eq]
 cases sizeE x-k with
 | zero=>rfl
 | succ m =>
  rw [Gg]
  split
  ·rfl
  rename_i h2
  rcases hs with hs|hs
  ·exact absurd (by simpa using hs) h2
  rw [hs]
section
variable {x:Expr} {a b:Str}
theorem AVn (h:(((!Ar x) || !Cg a) || !Cg b)=true):ofI x a b=none:=by unfold ofI;rw [Ea,Ea] at h;exact if_pos h
theorem AVo (h:(((!Ar x) || !Cg a) || !Cg b)=false) (h2:(!(((Gg (sizeE x) x (Bh b)).1.op==2)&&((Gg (sizeE x) x (Bh b)).1.text==a)))=true):ofI x a b=none:=by
 unfold ofI
 rw [Ea,Ea] at h
 rw [if_neg (by rw [h];simp),if_neg (fun e=>by rw [e] at h2;cases h2)]
theorem AVp (h:(((!Ar x) || !Cg a) || !Cg b)=false) (h2:(!(((Gg (sizeE x) x (Bh b)).1.op==2)&&((Gg (sizeE x) x (Bh b)).1.text==a)))=false):ofI x a b=some (Gg (sizeE x) x (Bh b)).2:=by
 unfold ofI
 rw [Ea,Ea] at h
 rw [if_neg (by rw [h];simp),if_pos (by simpa using h2)]
end
abbrev bc:List AV:=[A5 0,Ac [],A5 0,A5 0,Ac [],.nil]
/-- What lies in out and ok ahead of round k. -/
def Zv (x y:Expr):Nat→List AV
 | 0=>bc
 | k+1=>B7 (pkI x y k).2
def okP (x y:Expr) (a:Str):Nat→Bool
 | 0=>false
 | k+1=>((pkI x y k).1.op==2)&&((pkI x y k).1.text==a)
theorem AEb {n:Nat} {x y:Expr}:∀k,ObjLow n (.cells 26 (Zv x y k))
 | 0=>Q8
 | k+1=>M3
theorem AEc {x y e:Expr} {k:Nat}:Ce (Zv x y k) 0 (B7 e)=B7 e:=by cases k<;>rfl
theorem AEd {x y:Expr}:∀k,(Zv x y k).length=6
 | 0=>rfl
 | k+1=>rfl
theorem c14 (n:Nat) (x:Expr) (hok:okE n x) (hn:n≤1048576) (hg:Bq Cw x=true) (a b:Str) (ha:a.length≤1048576) (hb:b.length≤1048576) (Hp:List AObj):AFun Tryz.prog 14 [Ab x,Ac a,Ac b] Hp (.tup [Ab ((ofI x a b).getD A6),At (ofI x a b).isSome]):=by
 refine Aj [.cell 6 26,.tmp 7] [0,1,2] Tryz.func14 Tryz.ntmps14 (fun d=>?_)
 refine ABc ?_;refine A2 [2,3,4,6] ?_;refine Z25 ?_;refine A9 Tryz.call38 (c38 n x hok hn _) ?_;refine Wf ?_;refine Bk Tryz.call40 (fun hB=>c40 a ha _) ?_;refine wc ?_;refine Bk Tryz.call40 (fun hB=>c40 b hb _) ?_;refine Z92 ?_;refine A2 [2,3,4,6,24] ?_
 refine A3 (fun ht24=>?_) (fun ht24=>?_)
 ·have hm:=AVn ht24
  refine Z19 ?_;refine D7 25 _ Du ?_;exact AN3
 have hro:=F6 (e:=x) (by rw [←C4];exact (show (Ar x=true∧Cg a=true)∧Cg b=true by simpa using ht24).1.1)
 refine Z3 ?_;refine Z34 ?_;refine A2 [2,3,4,6,8] ?_;refine E9 ?_
 refine L8 (fun hlow=>?_)
 have hpk:PkOk (x,(Bh b)):=⟨Fo (by decide) hro.1,hg,by show sizeE x≤_;have:=hro.2;omega,⟨by show b.length≤_;exact hb,by show ([]:List Expr).length≤_;decide,fun z hz=>by cases hz⟩⟩
 refine Z17 ?_;refine A2 [2,3,4,6,8,9] ?_;refine Ki ?_;refine C3 [0,0,2,7] 3 Am (by kernel_rfl) ?_;refine Z9 ?_;refine Cd Tryz.call42 (c42 b _) ?_;refine Dq ?_;refine R.callO Tryz.call41 (c41 x (Bh b) _) ?_
 rintro _ _ ⟨rfl,rfl⟩
 refine ⟨[.cells 26 (B7 x),.cells 26 (B7 (Bh b))],by simp,?_⟩
 rw [show oid (Hp++[AObj.cells 26 bc,AObj.cells 26 bc,AObj.cells 4 [At false]]).length 0=oid Hp.length 3 by simp [oid],show oid (Hp++[AObj.cells 26 bc,AObj.cells 26 bc,AObj.cells 4 [At false]]).length 1=oid Hp.length 4 by simp [oid]]
 simp only [Ef,Dx]
 refine A2 [4,6,8,9,29] ?_;refine J6 ?_
 refine Nh (m:=5) Tryz.call83 (fun FR as' bd' hFR has hbd=>?_)
 have hFRl:∀s,Low (Hp.length+7) (FR s):=by
  intro s
  rw [hFR]
  refine Og ?_
  revert s
  repeat (first|exact By|refine Bx (by first|(simp [oid,or_imp,forall_and];done)|(simp [oid,or_imp,forall_and]<;>omega)) ?_)
 have hOl:∀(k:Nat) {ok:Bool} {u v:Expr} {lp:AObj},ObjLow (Hp.length+7) lp→∀z∈Hp++[AObj.cells 26 bc,AObj.cells 26 (Zv x (Bh b) k),AObj.cells 4 [At (ok)],AObj.cells 26 (B7 u),AObj.cells 26 (B7 v),AObj.defs,lp],ObjLow (Hp.length+7) z:=by
  intro k ok u v lp hlp z hz
  refine Lz (fun z hz=>P4 (by omega) (hlow z hz)) (fun z hz=>?_) z hz
  simp only [C0,Fb,or_false] at hz
  rcases hz with rfl|rfl|rfl|rfl|rfl|rfl|rfl
  ·exact Q8
  ·exact AEb k
  ·intro y hy;rw [Br.1 hy];simp
  ·exact M3
  ·exact M3
  ·trivial
  exact hlp
 refine ⟨_,c83 (oid Hp.length 6) (oid Hp.length 3) (oid Hp.length 4) x (Bh b) hpk (fun k=>Hp++[AObj.cells 26 bc,AObj.cells 26 (Zv x (Bh b) k),AObj.cells 4 [At (okP x (Bh b) a k)],AObj.cells 26 (B7 (pkI x (Bh b) k).1),AObj.cells 26 (B7 (pkI x (Bh b) k).2),AObj.defs,AObj.loop LoopState.ready none FR 46 #[30,31] as' bd' (oid Hp.length 5)]) (fun k=>Hp++[AObj.cells 26 bc,AObj.cells 26 (Zv x (Bh b) (k+1)),AObj.cells 4 [At (okP x (Bh b) a (k+1))],AObj.cells 26 (B7 (pkI x (Bh b) k).1),AObj.cells 26 (B7 (pkI x (Bh b) k).2),AObj.defs,AObj.loop LoopState.ready none FR 46 #[30,31] as' bd' (oid Hp.length 5)]) (PkN x (Bh b)) (fun V=>∃u v:Expr,V=Hp++[AObj.cells 26 bc,AObj.cells 26 (B7 (Gg (sizeE x) x (Bh b)).2),AObj.cells 4 [At ((((Gg (sizeE x) x (Bh b)).1.op==2)&&((Gg (sizeE x) x (Bh b)).1.text==a)))],AObj.cells 26 (B7 u),AObj.cells 26 (B7 v),AObj.defs,AObj.loop LoopState.ready none FR 46 #[30,31] as' bd' (oid Hp.length 5)]) (fun k=>by simp) (fun k=>by simp) (by simp [oid]) (by simp [oid]) (by simp [oid]) (E8 (by decide)) (fun k=>(fun z hz=>by rw [Aw];exact hOl k (lp:=AObj.loop LoopState.ready none FR 46 #[30,31] as' bd' (oid Hp.length 5)) (by exact ⟨hFRl,by simp [oid]⟩) z hz)) (fun k=>(fun z hz=>by rw [Aw];exact hOl (k+1) (lp:=AObj.loop LoopState.ready none FR 46 #[30,31] as' bd' (oid Hp.length 5)) (by exact ⟨hFRl,by simp [oid]⟩) z hz)) .zero (fun k=>by rw [Bv];rfl) (fun k=>by rw [Bv];rfl) (fun k=>by rw [Bv];rfl) (fun k=>by rw [Bv];rfl) (fun k=>by simp only [C1,Fu,Ef,Dx,List.set_cons_succ,List.set_cons_zero]) (fun k X hN=>?_) (fun k p hN h2 hs=>hN.next h2 hs) (fun k z hN hs=>?_),?_⟩
 rotate_left
 ·have e:=hN.stop hs
  refine ⟨⟨(pkI x (Bh b) k).1,(pkI x (Bh b) k).2,?_⟩,⟨(pkI x (Bh b) k).1,z,?_⟩⟩
  ·rw [e];rfl
  simp only [C1,Fu,Ef,Dx,List.set_cons_succ,List.set_cons_zero]
  rw [e];rfl
 rotate_left
 ·generalize hV:Hp++[AObj.cells 26 bc,AObj.cells 26 (Zv x (Bh b) k),AObj.cells 4 [At (okP x (Bh b) a k)],AObj.cells 26 (B7 (pkI x (Bh b) k).1),AObj.cells 26 (B7 (pkI x (Bh b) k).2),AObj.defs,AObj.loop LoopState.ready none FR 46 #[30,31] as' bd' (oid Hp.length 5)]++X=V
  have hL:V[oid Hp.length 6]? = some (AObj.loop LoopState.ready none FR 46 #[30,31] as' bd' (oid Hp.length 5)):=by rw [←hV,C1,Bv];rfl
  have hA0:V[oid Hp.length 1]? = some (AObj.cells 26 (Zv x (Bh b) k)):=by rw [←hV,C1,Bv];rfl
  have hB0:V[oid Hp.length 2]? = some (AObj.cells 4 [At (okP x (Bh b) a k)]):=by rw [←hV,C1,Bv];rfl
  refine Na (pd:=none) (fr:=FR) (sz:=46) (ps:=#[30,31]) (df:=oid Hp.length 5) (asg:=as') (bd:=bd') hL rfl (by decide) (fun d=>?_)
  subst hFR has hbd
  refine Di [4,8,9,30,31] ?_
  generalize hXk:(pkI x (Bh b) k).1=xk
  generalize hYk:(pkI x (Bh b) k).2=yk
  refine vu ?_;refine A2 [4,8,9,10,31] ?_;refine ABm ?_;refine A2 [4,8,9,10,11] ?_
  refine ⟨rfl,none,hL,?_⟩
  generalize hbz:(AObj.loop LoopState.busy _ _ _ _ _ _ _)=bz
  have hA:(V.set (oid Hp.length 6) bz)[oid Hp.length 1]? = some (AObj.cells 26 (Zv x (Bh b) k)):=by rw [F8 (E8 (by decide))];exact hA0
  have hB:(V.set (oid Hp.length 6) bz)[oid Hp.length 2]? = some (AObj.cells 4 [At (okP x (Bh b) a k)]):=by rw [F8 (E8 (by decide))];exact hB0
  refine J6 ?_
  refine W.drawY0 [0,0,2,6,14,30,62,30,254,510,31,2047] [10] [.q 10 [] [],.s [] (some 0) [] []] (fun B=>(V.set (oid Hp.length 6) bz).set (oid Hp.length 1) (if B 0=true then AObj.cells 26 (B7 yk) else AObj.cells 26 (Zv x (Bh b) k))) (fun _=>[AObj.cells 26 (B7 xk),AObj.cells 26 (B7 yk)]) Am (by kernel_rfl) (by simp only [An,if_false];exact K3 hA) rfl (fun B=>by simp) ?_
  apply Y.q
  ·intro B hT hF
   refine Xu ?_;refine Z57 ?_;refine Z57 ?_;exact Xp
  case hTF=>decide
  refine Y.storeUp (o:=oid Hp.length 1) (t':=26) (ys:=B7 yk) (cs:=Zv x (Bh b) k) (cs':=B7 yk) Tryz.sizeOf26 (fun B hB=>⟨by simp only [hB];exact Ay hA,by simp only [upd,if_true,Ep],rfl,M3 (t:=26)⟩) ?_ (hfit:=by rw [AEd];decide) (hput:=AEc)
  refine Hd (tn:=[10]) (U:=((V.set (oid Hp.length 6) bz).set (oid Hp.length 1) (AObj.cells 26 (B7 yk)))) ?_
  refine Hb jS (AM7 hB (E8 (by decide))) ?_ ?_
  ·simp
  refine fe ?_
  subst hbz
  refine AG8 ?_
  refine ⟨rfl,?_⟩
  subst hXk hYk
  subst hV
  simp only [C1,Fu,Ef,Dx,List.set_cons_succ,List.set_cons_zero]
  rfl
 rintro r H' ⟨u,v,rfl⟩
 refine ⟨Hp,_,_,_,rfl,rfl,fun h=>h,?_,rfl,by simp,?_⟩
 ·intro o ho
  have:o=oid Hp.length 5:=by simpa using ho
  subst this
  rw [Bv]
  rfl
 refine Z12 ?_;refine Z8 ?_;refine A2 [6,8,43] ?_
 refine A3 (fun ht43=>?_) (fun ht43=>?_)
 ·have hm:=AVo ht24 ht43
  refine Z19 ?_;refine D7 44 _ Du ?_;exact AN3
 have hm:=AVp ht24 ht43
 refine Z58 ?_;refine jb ?_;exact A8 (As (Ap jA jS) A7) ⟨by rw [hm];simp only [Option.getD_some,Af];try rfl,rfl⟩ (hlow:=by simp [or_imp,forall_and,Ag])

set_option maxRecDepth 8000
/-! Sizes in digits to the base of 2^32. -/
abbrev B32:Nat:=4294967296
def dig (m i:Nat):Nat:=m / B32 ^ i % B32
theorem C7 (m i:Nat):dig m i<4294967296:=I8 _ (by decide)
theorem pw (i:Nat):0<B32 ^ i:=Nat.pow_pos (by decide)
theorem Lp (m i:Nat):m % B32 ^ (i+1)=m % B32 ^ i+B32 ^ i*dig m i:=Nat.mod_pow_succ
theorem Tk (m i:Nat):m / B32 ^ (i+1)=m / B32 ^ i / B32:=by rw [Nat.pow_succ,dy]
def car (a b i:Nat):Nat:=(a % B32 ^ i+b % B32 ^ i) / B32 ^ i
theorem AEe (a b:Nat):car a b 0=0:=by simp [car,Pw]
theorem AEf (a b i:Nat):car a b i≤1:=by
 have h1:=I8 a (pw i)
 have h2:=I8 b (pw i)
 have:car a b i<2:=by
  unfold car
  rw [rd (pw i)]
  omega
 omega
theorem AEg (P x y da db:Nat) (hP:0<P):(da+db+(x+y) / P) / B32=(x+P*da+(y+P*db)) / (P*B32):=by
 have e:x+P*da+(y+P*db)=(x+y)+P*(da+db):=by rw [Kn];omega
 rw [e,←dy,Wq _ _ hP,Wp]
theorem AEh (a b i:Nat):(dig a i+dig b i+car a b i) / 4294967296=car a b (i+1):=by
 unfold car
 rw [Lp,Lp,Nat.pow_succ]
 exact AEg _ _ _ _ _ (pw i)
theorem AI5 (P a b:Nat) (hP:0<P):(a+b) / P=a / P+b / P+(a % P+b % P) / P:=by
 have ha:=Pu a P
 have hb:=Pu b P
 have e:a+b=(a % P+b % P)+P*(a / P+b / P):=by rw [Kn];omega
 calc (a+b) / P=((a % P+b % P)+P*(a / P+b / P)) / P:=by rw [←e]
  _=(a % P+b % P) / P+(a / P+b / P):=Wq _ _ hP
  _=_:=Wp _ _
theorem AI6 (a b i:Nat):(dig a i+dig b i+car a b i) % 4294967296=dig (a+b) i:=by
 unfold dig
 rw [AI5 _ a b (pw i)]
 unfold car
 generalize (a % B32 ^ i+b % B32 ^ i) / B32 ^ i=c
 generalize a / B32 ^ i=x
 generalize b / B32 ^ i=y
 show (x % 4294967296+y % 4294967296+c) % 4294967296=(x+y+c) % 4294967296
 omega
def bor (a b i:Nat):Nat:=if a % B32 ^ i<b % B32 ^ i then 1 else 0
theorem m8 (a b:Nat):bor a b 0=0:=by simp [bor,Pw]
theorem qq (a b i:Nat):bor a b i≤1:=by unfold bor;split<;>omega
theorem yw (P x y da db:Nat) (hx:x<P) (hy:y<P):(x+P*da<y+P*db)↔(da<db∨(da=db∧x<y)):=by
 constructor
 ·intro h
  rcases Nat.lt_trichotomy da db with h1|h1|h1
  ·exact .inl h1
  ·subst h1;exact .inr ⟨rfl,by omega⟩
  exfalso
  have:P*(db+1)≤P*da:=ec P h1
  rw [Kn] at this
  omega
 rintro (h|⟨rfl,h⟩)
 ·have:P*(da+1)≤P*db:=ec P h
  rw [Kn] at this
  omega
 omega
theorem m9 (a b i:Nat):1-(4294967296+dig a i-dig b i-bor a b i) / 4294967296=bor a b (i+1):=by
 have hd:=yw (B32 ^ i) (a % B32 ^ i) (b % B32 ^ i) (dig a i) (dig b i) (I8 _ (pw i)) (I8 _ (pw i))
 have h1:=C7 a i
 have h2:=C7 b i
 have hb:bor a b (i+1)=if (dig a i<dig b i∨(dig a i=dig b i∧a % B32 ^ i<b % B32 ^ i)) then 1 else 0:=by
  unfold bor
  rw [Lp,Lp]
  by_cases h:a % B32 ^ i+B32 ^ i*dig a i<b % B32 ^ i+B32 ^ i*dig b i
  ·rw [if_pos h,if_pos (hd.1 h)]
  rw [if_neg h,if_neg fun h'=>h (hd.2 h')]
 rw [hb]
 unfold bor
 by_cases hlt:a % B32 ^ i<b % B32 ^ i
 ·rw [if_pos hlt]
  by_cases hc:dig a i<dig b i∨dig a i=dig b i∧a % B32 ^ i<b % B32 ^ i
  ·rw [if_pos hc]
   have:dig a i≤dig b i:=by rcases hc with h|h;omega;omega
   omega
  rw [if_neg hc]
  have:dig b i<dig a i:=by
   rcases Nat.lt_trichotomy (dig a i) (dig b i) with h|h|h
   ·exact absurd (.inl h) hc
   ·exact absurd (.inr ⟨h,hlt⟩) hc
   exact h
  omega
 rw [if_neg hlt]
 by_cases hc:dig a i<dig b i∨dig a i=dig b i∧a % B32 ^ i<b % B32 ^ i
 ·rw [if_pos hc]
  have:dig a i<dig b i:=by
   rcases hc with h|h
   ·exact h
   exact absurd h.2 hlt
  omega
 rw [if_neg hc]
 have:dig b i≤dig a i:=by
  rcases Bn (dig a i) (dig b i) with h|h
  ·exact absurd (.inl h) hc
  exact h
 omega
theorem AI7 (P a b:Nat) (hP:0<P) (h:b≤a):(a-b) / P+(if a % P<b % P then 1 else 0)+b / P=a / P:=by
 have ha:=Pu a P
 have hb:=Pu b P
 have hm1:=I8 a hP
 have hm2:=I8 b hP
 have hq:b / P≤a / P:=dz h
 obtain ⟨t,ht⟩:∃t,a / P=b / P+t:=⟨a / P-b / P,by omega⟩
 rw [ht,Kn] at ha
 by_cases hlt:a % P<b % P
 ·rw [if_pos hlt]
  cases t with
  | zero=>rw [Nat.mul_zero] at ha;omega
  | succ t =>
   rw [Kn,Nat.mul_one] at ha
   have e:a-b=(P+a % P-b % P)+P*t:=by omega
   rw [e,Wq _ _ hP,Ps (by omega),ht]
   omega
 rw [if_neg hlt]
 have e:a-b=(a % P-b % P)+P*t:=by omega
 rw [e,Wq _ _ hP,Ps (by omega),ht]
 omega
theorem ua {a b:Nat} (h:b≤a) (i:Nat):(4294967296+dig a i-dig b i-bor a b i) % 4294967296=dig (a-b) i:=by
 have hd:=AI7 (B32 ^ i) a b (pw i) h
 have hb:=qq a b i
 unfold bor at hb ⊢
 unfold dig
 generalize (if a % B32 ^ i<b % B32 ^ i then 1 else 0)=c at *
 generalize (a-b) / B32 ^ i=z at *
 generalize a / B32 ^ i=x at *
 generalize b / B32 ^ i=y at *
 show (4294967296+x % 4294967296-y % 4294967296-c) % 4294967296=z % 4294967296
 omega
/-- Which of two sizes is smaller, digit by digit from above. -/
theorem AI8 {a b n:Nat} (h:a / B32 ^ (n+1)=b / B32 ^ (n+1)) (hd:dig a n≠dig b n):decide (a<b)=decide (dig a n<dig b n):=by
 rw [Tk,Tk] at h
 have e:a / B32 ^ n<b / B32 ^ n↔dig a n<dig b n:=by
  unfold dig at hd ⊢
  generalize a / B32 ^ n=x at *
  generalize b / B32 ^ n=y at *
  have h':x / 4294967296=y / 4294967296:=h
  show x<y↔x % 4294967296<y % 4294967296
  omega
 have hne:a / B32 ^ n≠b / B32 ^ n:=fun e'=>hd (by unfold dig;rw [e'])
 rw [decide_eq_decide,←e]
 constructor
 ·intro hl
  have:=dz (c:=B32 ^ n) (Nat.le_of_lt hl)
  omega
 intro hl
 rcases Bn a b with h1|h1
 ·exact h1
 have:=dz (c:=B32 ^ n) h1
 omega
theorem yx {a b n:Nat} (h:a / B32 ^ (n+1)=b / B32 ^ (n+1)) (hd:dig a n=dig b n):a / B32 ^ n=b / B32 ^ n:=by
 rw [Tk,Tk] at h
 unfold dig at hd
 generalize a / B32 ^ n=x at *
 generalize b / B32 ^ n=y at *
 have h':x / 4294967296=y / 4294967296:=h
 have hd':x % 4294967296=y % 4294967296:=hd
 omega
set_option maxRecDepth 4000
/-! A wide number: a sign and five digits to the base of 2^32. -/
abbrev wF (s:Bool) (f:Nat→Nat):List AV:=[At s,Bw (f 0:Nat),Bw (f 1:Nat),Bw (f 2:Nat),Bw (f 3:Nat),Bw (f 4:Nat)]
abbrev pF (f:Nat→Nat):List AV:=[Bw (f 0:Nat),Bw (f 1:Nat),Bw (f 2:Nat),Bw (f 3:Nat),Bw (f 4:Nat)]
theorem Tl {f:Nat→Nat} {k:Nat} (h:k<5):(pF f).drop (k*1)=Bw (f k:Nat)::(pF f).drop (k+1):=by
 rcases k with _|_|_|_|_|k
 all_goals first|rfl|omega
theorem W1 {s:Bool} {f:Nat→Nat} {k:Nat} (h:k<5):(wF s f)[1+k*1]? = some (Bw (f k:Nat)):=by
 rcases k with _|_|_|_|_|k
 all_goals first|rfl|omega
def W3 (m k i:Nat):Nat:=if i<k then dig m i else 0
theorem i7 {s:Bool} {f g:Nat→Nat} {k v:Nat} (h:k<5) (hg:g k=v) (he:∀i,i≠k→g i=f i):Ce (wF s f) (1+k*1) [Bw (v:Nat)]=wF s g:=by
 subst hg
 rcases k with _|_|_|_|_|k
 ·rw [wF,wF,he 1 (by decide),he 2 (by decide),he 3 (by decide),he 4 (by decide)];rfl
 ·rw [wF,wF,he 0 (by decide),he 2 (by decide),he 3 (by decide),he 4 (by decide)];rfl
 ·rw [wF,wF,he 0 (by decide),he 1 (by decide),he 3 (by decide),he 4 (by decide)];rfl
 ·rw [wF,wF,he 0 (by decide),he 1 (by decide),he 2 (by decide),he 4 (by decide)];rfl
 ·rw [wF,wF,he 0 (by decide),he 1 (by decide),he 2 (by decide),he 3 (by decide)];rfl
 omega
theorem V7 {s:Bool} {m k:Nat} (h:k<5):Ce (wF s (W3 m k)) (1+k*1) [Bw (dig m k:Nat)]=wF s (W3 m (k+1)):=by
 refine i7 h (by unfold W3;rw [if_pos (by omega)]) fun i hi=>?_
 unfold W3
 by_cases h1:i<k
 ·rw [if_pos h1,if_pos (by omega)]
 rw [if_neg h1,if_neg (by omega)]
theorem V8 (m:Nat) (s:Bool):wF s (W3 m 5)=wF s (dig m):=rfl
theorem yy {x y z:Nat} (h:x+y+z<18446744073709551616):IntKind.u64.wrap (IntKind.u64.wrap ((x:Int)+(y:Int))+(z:Int))=((x+y+z:Nat):Int):=by
 simp only [IntKind.wrap_u64];omega
theorem Wl (x:Nat):(x:Int).tmod 4294967296=((x % 4294967296:Nat):Int):=by
 rw [X7 (by omega)];omega
theorem Wm {x:Nat} (h:x<18446744073709551616):IntKind.u64.wrap ((x:Int).tdiv 4294967296)=((x / 4294967296:Nat):Int):=by
 rw [X6 (by omega),IntKind.wrap_u64];omega
theorem Fq {m i:Nat} (h:m<B32 ^ i):dig m i=0:=by unfold dig;rw [Ps h];rfl
theorem ub (m:Nat):dig m 0=m % 4294967296:=by unfold dig;simp
theorem AEi (m:Nat):dig m 1=m / 4294967296 % 4294967296:=by unfold dig;simp [B32]
/-- A number's AIp. -/
abbrev Zw (a:Int):List AV:=[At (decide (a<0)),Bw ((Kl a).tmod 4294967296),Bw (IntKind.u64.wrap ((Kl a).tdiv 4294967296)),Bw 0,Bw 0,Bw 0]
theorem AI9 {a:Int} (h0 : -9223372036854775808≤a) (h1:a≤9223372036854775807):Zw a=wF (decide (a<0)) (dig a.natAbs):=by
 have hs:=Qe h0 h1
 have hb:a.natAbs<18446744073709551616:=by omega
 unfold Zw wF
 rw [hs,Wl,Wm hb,ub,AEi,Pv (show a.natAbs / 4294967296<4294967296 by omega)]
 have e2:dig a.natAbs 2=0:=Fq (Cy hb (by decide))
 have e3:dig a.natAbs 3=0:=Fq (Cy hb (by decide))
 have e4:dig a.natAbs 4=0:=Fq (Cy hb (by decide))
 rw [e2,e3,e4]
 rfl
theorem AQy (a:Int) (Hp:List AObj):AFun Tryz.prog 193 [A5 a] Hp (.agg (Zw a)):=by
 refine Aj [.cell 2 236] [0] Tryz.func193 Tryz.ntmps193 (fun d=>?_)
 refine Z77 ?_;refine Z1 ?_;refine Z79 ?_;refine A2 [0,2,3] ?_;refine Z14 ?_;refine A2 [0,2,3,4] ?_;refine Z8 ?_;refine A2 [2,3,4,11] ?_
 refine A3 (fun ht11=>?_) (fun ht11=>?_)
 ·have hm:Kl a=IntKind.u64.wrap (0-IntKind.u64.wrap a):=if_pos ht11
  refine Z48 ?_
  refine A4 (h:=Kg) (hr:=?_)
  refine A4 ?_;refine Wj ?_;refine Fl ?_;refine Z14 ?_;refine AGb ?_;refine G4 ?_;refine Wj ?_;refine Z14 ?_;refine AFj ?_;refine Ua ?_;refine Z2 ?_;exact ANi
 have hm:Kl a=IntKind.u64.wrap a:=if_neg (by rw [ht11];simp)
 refine Nl ?_;refine AGb ?_;refine G4 ?_;refine Wj ?_;refine Z14 ?_;refine AFj ?_;refine Ua ?_;refine Z2 ?_;exact ANi

theorem yz (a:Int) (h0 : -9223372036854775808≤a) (h1:a≤9223372036854775807) (Hp:List AObj):AFun Tryz.prog 193 [A5 a] Hp (.agg (wF (decide (a<0)) (dig a.natAbs))):=by
 rw [←AI9 h0 h1]
 exact AQy a Hp
theorem AQz (s:Bool) (f:Nat→Nat) (Hp:List AObj):AFun Tryz.prog 192 [.agg (wF s f)] Hp (.agg (wF (!s) f)):=by
 refine Aj [.cell 2 236] [0] Tryz.func192 Tryz.ntmps192 (fun d=>?_)
 refine vr ?_;refine ABb ?_;refine Z21 ?_;refine G4 ?_;refine A2 [1,2] ?_;refine Z2 ?_;exact AFp

theorem AVq (a b:Nat) (ha:a<B32 ^ 5) (hb:b<B32 ^ 5) (Hp:List AObj):AFun Tryz.prog 287 [.agg (pF (dig a)),.agg (pF (dig b))] Hp (At (decide (a<b))):=by
 refine Aj [.tmp 4] [0,1] Tryz.func287 Tryz.ntmps287 (fun d=>?_)
 refine vl ?_;refine Z25 ?_;refine A2 [2,3,5] ?_
 refine B9 (α:=Nat) (fun k=>⟨24,Aa 2 (.ro (pF (dig a))) (Aa 3 (.ro (pF (dig b))) (Aa 5 (A5 ((k:Nat)-1)) (fun _=>.any))),Hp,[],[],none⟩) (fun k=>k≤5∧a / B32 ^ k=b / B32 ^ k) (fun k=>k) (5) ⟨Ao _,by rw [Ps ha,Ps hb]⟩ (Az rfl) rfl (fun k hx=>?_)
 refine Z8 ?_;refine A2 [2,3,5,7] ?_
 refine A3 (fun ht7=>?_) (fun ht7=>?_)
 ·have hk0:1≤k:=by simp only [decide_eq_true_eq] at ht7;omega
  have hq:a / B32 ^ (k-1+1)=b / B32 ^ (k-1+1):=by rw [Nat.sub_add_cancel hk0];exact hx.2
  refine Z50 ?_;refine C3 [0,1,3,0,8,24,63] 6 Am (by kernel_rfl) ?_;refine ANu ?_;refine Z9 ?_;refine ANv ?_;refine A4 ?_;refine A2 [2,3,5,16] ?_
  refine A3 (fun ht16=>?_) (fun ht16=>?_)
  ·have hl:=AI8 hq (fun e=>by rw [e] at ht16;simp at ht16)
   refine C3 [0,1,3,0,8,24,63,127] 6 Am (by kernel_rfl) ?_;refine ANu ?_;refine Z9 ?_;refine ANv ?_;refine Z0 ?_;refine nv ?_;exact A8 (Ai A7) ⟨by rw [hl];simp,rfl⟩
  have hn:=yx hq (by have:((dig a (k-1):Nat):Int)=((dig b (k-1):Nat):Int):=(by simpa using ht16);omega)
  refine Z87 ?_;refine A2 [2,3,5] ?_
  rw [show ((k:Int)-1-1)=(((k-1:Nat):Int)-1) by omega]
  exact B2 (k-1) ⟨by omega,hn⟩ (by omega) (Bz rfl)
 have hk0:k=0:=by simp only [decide_eq_false_iff_not] at ht7;omega
 have hab:a=b:=by have:=hx.2;rw [hk0] at this;simpa using this
 refine Xw ?_;refine Z33 ?_;exact A8 (Ai A7) ⟨by rw [hab];simp,rfl⟩

theorem AR0 {x y z:Nat} (hx:x<4294967296) (hy:y<4294967296) (hz:z≤1):IntKind.u64.wrap (IntKind.u64.wrap (IntKind.u64.wrap (4294967296+(x:Int))-(y:Int))-(z:Int))=((4294967296+x-y-z:Nat):Int):=by
 simp only [IntKind.wrap_u64];omega
theorem AJj {q:Nat} (h:q≤1):IntKind.u64.wrap (1-(q:Int))=((1-q:Nat):Int):=by
 simp only [IntKind.wrap_u64];omega
section
variable (sa:Bool) (a:Nat) (sb:Bool) (b:Nat)
/-- The greater one, and the other. -/
def hiW:Bool×Nat:=if decide (a<b)=true then (sb,b) else (sa,a)
def loW:Bool×Nat:=if decide (a<b)=true then (sa,a) else (sb,b)
def Tm:Bool×Nat:=if (sa==sb)=true then (sa,a+b) else ((hiW sa a sb b).1,(hiW sa a sb b).2-(loW sa a sb b).2)
end
theorem AJk {sa:Bool} {a:Nat} {sb:Bool} {b:Nat}:(loW sa a sb b).2≤(hiW sa a sb b).2:=by
 unfold loW hiW
 split
 ·rename_i h;have:=of_decide_eq_true h;simp only;omega
 rename_i h;simp only [decide_eq_true_eq] at h;simp only;omega
theorem AMa (sa:Bool) (a:Nat) (sb:Bool) (b:Nat) (ha:a<B32 ^ 5) (hb:b<B32 ^ 5) (Hp:List AObj):AFun Tryz.prog 246 [.agg (wF sa (dig a)),.agg (wF sb (dig b))] Hp (.agg (wF (Tm sa a sb b).1 (dig (Tm sa a sb b).2))):=by
 refine Aj [.cell 4 236] [0,1] Tryz.func246 Tryz.ntmps246 (fun d=>?_)
 refine vr ?_;refine R.box ?_;refine La ?_;refine Wj ?_;refine Z1 ?_;refine Z79 ?_;refine Sp ?_;refine O8 ?_;refine A2 [2,3,4,5,19] ?_
 refine A3 (fun ht19=>?_) (fun ht19=>?_)
 ·have had:Tm sa a sb b=(sa,a+b):=if_pos ht19
  refine Z2 ?_;refine A2 [2,3,4,5,6] ?_;refine Z25 ?_;refine wq ?_
  refine B9 (α:=Nat) (fun k=>⟨78,Aa 2 (.ptr (oid Hp.length 0) 0) (Aa 3 (.ptr (oid Hp.length 1) 0) (Aa 4 (.ptr (oid Hp.length 2) 0) (Aa 5 (.ptr (oid Hp.length 3) 0) (Aa 6 (Bw (car a b k:Nat)) (Aa 7 (A5 (k:Nat)) (fun _=>.any)))))),Hp,[.cells 236 (wF sa (dig a)),.cells 236 (wF sb (dig b)),.cells 236 [At false,Bw 0,Bw 0,Bw 0,Bw 0,Bw 0],.cells 236 (wF sa (W3 (a+b) k))],[],none⟩) (fun k=>k≤5) (fun k=>5-k) (0) (Av _) (Az (by rw [AEe];rfl)) rfl (fun k hx=>?_)
  refine Z8 ?_;refine A2 [2,3,4,5,6,7,21] ?_
  refine A3 (fun ht21=>?_) (fun ht21=>?_)
  ·have hk:k<5:=by simp at ht21;omega
   refine Z50 ?_;refine C3 [0,0,3,7,0,0,48,112,255,0,1023,2047] 10 Am (by kernel_rfl) ?_;refine AB4 ?_
   refine Aq (h:=Ov (hy:=W1 hk)) (hr:=?_)
   refine AB4 ?_
   refine Aq (h:=Ov (hy:=W1 hk)) (hr:=?_)
   refine Aq (h:=Fz) (hr:=?_)
   refine Z86 ?_
   refine A4 (h:=Fz) (hr:=?_)
   refine A4 ?_;refine A2 [2,3,4,5,7,8] ?_;refine E9 ?_
   rw [yy (by have:=C7 a k;have:=C7 b k;have:=AEf a b k;omega)]
   refine Z11 ?_
   rw [Wl,AI6]
   refine AKn ?_
   refine Mb jS (hput:=V7 hk) (hfit:=by simp;omega) ?_
   refine A2 [2,3,4,5,7,8] ?_;refine Z29 ?_
   rw [Wm (by have:=C7 a k;have:=C7 b k;have:=AEf a b k;omega),AEh]
   refine A4 ?_;refine wq ?_;refine Me ?_;refine wq ?_;exact B2 (k+1) hk (by omega) (Bz rfl)
  have hke:k=5:=by simp at ht21;omega
  refine vw ?_
  rw [hke,V8]
  refine A4 ?_;refine G4 ?_;refine A2 [4] ?_;refine Z10 ?_;exact APo
 have had:Tm sa a sb b=((hiW sa a sb b).1,(hiW sa a sb b).2-(loW sa a sb b).2):=if_neg (by rw [ht19];simp)
 refine fj ?_;refine A9 Tryz.call287 (AVq a b ha hb _) ?_;refine A2 [2,3,4,5,47] ?_
 refine A3 (fun ht47=>?_) (fun ht47=>?_)
 ·have hhi:(hiW sa a sb b)=(sb,b):=if_pos ht47
  have hlo:(loW sa a sb b)=(sa,a):=if_pos ht47
  refine Z1 ?_;refine AFu ?_;refine Sp ?_;refine Z22 ?_;refine G4 ?_;refine Sp ?_;refine Fl ?_;refine Z2 ?_;refine A2 [2,3,4,5,9] ?_;refine Z25 ?_;refine ABr ?_
  refine B9 (α:=Nat) (fun k=>⟨78,Aa 2 (.ptr (oid Hp.length 0) 0) (Aa 3 (.ptr (oid Hp.length 1) 0) (Aa 4 (.ptr (oid Hp.length 2) 0) (Aa 5 (.ptr (oid Hp.length 3) 0) (Aa 9 (Bw (bor (hiW sa a sb b).2 (loW sa a sb b).2 k:Nat)) (Aa 10 (A5 (k:Nat)) (fun _=>.any)))))),Hp,[.cells 236 (wF (hiW sa a sb b).1 (dig (hiW sa a sb b).2)),.cells 236 (wF (loW sa a sb b).1 (dig (loW sa a sb b).2)),.cells 236 [At false,Bw 0,Bw 0,Bw 0,Bw 0,Bw 0],.cells 236 (wF (hiW sa a sb b).1 (W3 ((hiW sa a sb b).2-(loW sa a sb b).2) k))],[],none⟩) (fun k=>k≤5) (fun k=>5-k) (0) (Av _) (Az (by rw [m8,hhi,hlo];rfl)) rfl (fun k hx=>?_)
  refine Z8 ?_;refine A2 [2,3,4,5,9,10,54] ?_
  refine A3 (fun ht54=>?_) (fun ht54=>?_)
  ·have hk:k<5:=by simp at ht54;omega
   refine Z50 ?_;refine AO2 ?_
   refine Aq (h:=Ov (hy:=W1 hk)) (hr:=?_)
   refine Aq (h:=Fz) (hr:=?_)
   refine AB4 ?_
   refine Aq (h:=Ov (hy:=W1 hk)) (hr:=?_)
   refine Aq (h:=Kg) (hr:=?_)
   refine Z86 ?_
   refine A4 (h:=Kg) (hr:=?_)
   refine A4 ?_;refine A2 [2,3,4,5,10,11] ?_;refine E9 ?_
   rw [AR0 (C7 _ k) (C7 _ k) (qq _ _ k)]
   refine Z11 ?_
   rw [Wl,ua AJk]
   refine AKn ?_
   refine Mb jS (hput:=V7 hk) (hfit:=by simp;omega) ?_
   refine A2 [2,3,4,5,10,11] ?_;refine Z29 ?_
   rw [Wm (by have:=C7 (hiW sa a sb b).2 k;omega)]
   refine A4 (h:=Kg) (hr:=?_)
   rw [AJj (by have:=C7 (hiW sa a sb b).2 k;omega),m9]
   refine A4 ?_;refine ABr ?_;refine Me ?_;exact ANo
  have hke:k=5:=by simp at ht54;omega
  refine vw ?_
  rw [hke,V8]
  refine A4 ?_;refine G4 ?_;exact AOc
 have hhi:(hiW sa a sb b)=(sa,a):=if_neg (by rw [ht47];simp)
 have hlo:(loW sa a sb b)=(sb,b):=if_neg (by rw [ht47];simp)
 refine Z58 ?_;refine A2 [2,3,4,5,9] ?_;refine Z25 ?_;refine ABr ?_
 refine B9 (α:=Nat) (fun k=>⟨78,Aa 2 (.ptr (oid Hp.length 0) 0) (Aa 3 (.ptr (oid Hp.length 1) 0) (Aa 4 (.ptr (oid Hp.length 2) 0) (Aa 5 (.ptr (oid Hp.length 3) 0) (Aa 9 (Bw (bor (hiW sa a sb b).2 (loW sa a sb b).2 k:Nat)) (Aa 10 (A5 (k:Nat)) (fun _=>.any)))))),Hp,[.cells 236 (wF (hiW sa a sb b).1 (dig (hiW sa a sb b).2)),.cells 236 (wF (loW sa a sb b).1 (dig (loW sa a sb b).2)),.cells 236 [At false,Bw 0,Bw 0,Bw 0,Bw 0,Bw 0],.cells 236 (wF (hiW sa a sb b).1 (W3 ((hiW sa a sb b).2-(loW sa a sb b).2) k))],[],none⟩) (fun k=>k≤5) (fun k=>5-k) (0) (Av _) (Az (by rw [m8,hhi,hlo];rfl)) rfl (fun k hx=>?_)
 refine Z8 ?_;refine A2 [2,3,4,5,9,10,54] ?_
 refine A3 (fun ht54=>?_) (fun ht54=>?_)
 ·have hk:k<5:=by simp at ht54;omega
  refine Z50 ?_;refine AO2 ?_
  refine Aq (h:=Ov (hy:=W1 hk)) (hr:=?_)
  refine Aq (h:=Fz) (hr:=?_)
  refine AB4 ?_
  refine Aq (h:=Ov (hy:=W1 hk)) (hr:=?_)
  refine Aq (h:=Kg) (hr:=?_)
  refine Z86 ?_
  refine A4 (h:=Kg) (hr:=?_)
  refine A4 ?_;refine A2 [2,3,4,5,10,11] ?_;refine E9 ?_
  rw [AR0 (C7 _ k) (C7 _ k) (qq _ _ k)]
  refine Z11 ?_
  rw [Wl,ua AJk]
  refine AKn ?_
  refine Mb jS (hput:=V7 hk) (hfit:=by simp;omega) ?_
  refine A2 [2,3,4,5,10,11] ?_;refine Z29 ?_
  rw [Wm (by have:=C7 (hiW sa a sb b).2 k;omega)]
  refine A4 (h:=Kg) (hr:=?_)
  rw [AJj (by have:=C7 (hiW sa a sb b).2 k;omega),m9]
  refine A4 ?_;refine ABr ?_;refine Me ?_;exact ANo
 have hke:k=5:=by simp at ht54;omega
 refine vw ?_
 rw [hke,V8]
 refine A4 ?_;refine G4 ?_;exact AOc

set_option maxRecDepth 8000
/-! Multiplied digit by digit. -/
def qr (F:Nat→Nat):Nat:=F 0+4294967296*(F 1+4294967296*(F 2+4294967296*(F 3+4294967296*F 4)))
def z6 (F:Nat→Nat) (p v j:Nat):Nat:=if j=p then v else F j
theorem I4 (x y j:Nat) (hx:x<4294967296):dig (x+4294967296*y) (j+1)=dig y j:=by
 unfold dig
 rw [Nat.pow_succ,Ko (B32 ^ j),←dy,show (x+4294967296*y) / B32=y by show (x+4294967296*y) / 4294967296=y;omega]
theorem Pk (x y:Nat) (hx:x<4294967296):dig (x+4294967296*y) 0=x:=by
 unfold dig
 simp only [Nat.pow_zero,Nat.div_one]
 show (x+4294967296*y) % 4294967296=x
 omega
theorem uc {F:Nat→Nat} (h:∀j,F j<4294967296):∀j,j<5→dig (qr F) j=F j:=by
 intro j hj
 unfold qr
 rcases j with _|_|_|_|_|j
 ·exact Pk _ _ (h 0)
 ·rw [I4 _ _ _ (h 0)];exact Pk _ _ (h 1)
 ·rw [I4 _ _ _ (h 0),I4 _ _ _ (h 1)];exact Pk _ _ (h 2)
 ·rw [I4 _ _ _ (h 0),I4 _ _ _ (h 1),I4 _ _ _ (h 2)];exact Pk _ _ (h 3)
 ·rw [I4 _ _ _ (h 0),I4 _ _ _ (h 1),I4 _ _ _ (h 2),I4 _ _ _ (h 3)]
  have:=Pk (F 4) 0 (h 4)
  simpa using this
 omega
theorem AIa (F:Nat→Nat) (x c p:Nat) (hp:p<5):qr (z6 F p ((F p+x % 4294967296+c % 4294967296) % 4294967296))+((F p+x % 4294967296+c % 4294967296) / 4294967296+x / 4294967296+c / 4294967296)*B32 ^ (p+1)=qr F+(x+c)*B32 ^ p:=by
 unfold qr z6 B32
 rcases p with _|_|_|_|_|p
 ·simp only [Nat.reduceEqDiff,if_true,if_false,Nat.reducePow,Nat.reduceAdd,C9];simp;omega
 ·simp only [Nat.reduceEqDiff,if_true,if_false,Nat.reducePow,Nat.reduceAdd,C9];simp;omega
 ·simp only [Nat.reduceEqDiff,if_true,if_false,Nat.reducePow,Nat.reduceAdd,C9];simp;omega
 ·simp only [Nat.reduceEqDiff,if_true,if_false,Nat.reducePow,Nat.reduceAdd,C9];simp;omega
 ·simp only [Nat.reduceEqDiff,if_true,if_false,Nat.reducePow,Nat.reduceAdd,C9];simp;omega
 omega
def Zx (a b i k:Nat):Nat:=(a % B32 ^ i)*b+dig a i*(b % B32 ^ k)*B32 ^ i
structure MulAt (F:Nat→Nat) (c a b i k:Nat):Prop where
 dg:∀j,F j<4294967296
 c2:c<8589934592
 eq:qr F+c*B32 ^ (i+k)=Zx a b i k
theorem z7 (a b i k:Nat):Zx a b i (k+1)=Zx a b i k+dig a i*dig b k*B32 ^ (i+k):=by
 unfold Zx
 rw [Lp b k,Kn,Ee,Nat.pow_add]
 have:dig a i*(B32 ^ k*dig b k)*B32 ^ i=dig a i*dig b k*(B32 ^ i*B32 ^ k):=by simp only [Ko,Nat.mul_left_comm,Nat.mul_assoc]
 omega
theorem AIb (a b i k:Nat):Zx a b i k≤a*b:=by
 have h1:Zx a b i k≤(a % B32 ^ (i+1))*b:=by
  unfold Zx
  rw [Lp a i,Ee]
  have:dig a i*(b % B32 ^ k)*B32 ^ i≤B32 ^ i*dig a i*b:=by
   rw [Nat.mul_right_comm,Ko (dig a i)]
   exact ec _ (Se _ _)
  omega
 exact I7 h1 (Ju _ (Se _ _))
theorem MulAt.start (a b:Nat):MulAt (fun _=>0) 0 a b 0 0:=⟨fun _=>by decide,by decide,by unfold Zx;simp [qr,Pw]⟩
theorem Ic {x y:Nat} (hx:x<4294967296) (hy:y<4294967296):x*y / 4294967296≤4294967294∧x*y<18446744073709551616:=by
 have:x*y≤4294967295*4294967295:=Nat.mul_le_mul (by omega) (by omega)
 omega
theorem MulAt.step {F:Nat→Nat} {c a b i k:Nat} (h:MulAt F c a b i k) (hp:i+k<5):MulAt (z6 F (i+k) ((F (i+k)+dig a i*dig b k % 4294967296+c % 4294967296) % 4294967296)) ((F (i+k)+dig a i*dig b k % 4294967296+c % 4294967296) / 4294967296+dig a i*dig b k / 4294967296+c / 4294967296) a b i (k+1):=by
 have hx:=Ic (C7 a i) (C7 b k)
 have hf:=h.dg (i+k)
 have hc:=h.c2
 refine ⟨fun j=>?_,by omega,?_⟩
 ·unfold z6
  split
  ·exact I8 _ (by decide)
  exact h.dg j
 have:=AIa F (dig a i*dig b k) c (i+k) hp
 rw [z7,←h.eq]
 rw [show i+(k+1)=i+k+1 by omega,this,Ee]
 omega
theorem MulAt.idx {F:Nat→Nat} {c a b i k:Nat} (h:MulAt F c a b i k) (ha:a<B32 ^ 2) (hb:b<B32 ^ 2) (hi:i<2) (hc:k<2∨0<c):i+k<4:=by
 rcases Bn (i+k) 4 with h1|h1
 ·exact h1
 exfalso
 have hk:0<c:=by omega
 have h2:B32 ^ 4≤B32 ^ (i+k):=Wv (by decide) h1
 have h3:B32 ^ (i+k)≤c*B32 ^ (i+k):=Sa _ hk
 have h4:=AIb a b i k
 have h5:a*b<B32 ^ 2*B32 ^ 2:=Nat.mul_lt_mul'' ha hb
 rw [←Nat.pow_add] at h5
 have h6:=h.eq
 have:B32 ^ (2+2)=B32 ^ 4:=rfl
 omega
theorem MulAt.next {F:Nat→Nat} {a b i k:Nat} (h:MulAt F 0 a b i k) (hb:b<B32 ^ 2) (hk:2≤k):MulAt F 0 a b (i+1) 0:=by
 refine ⟨h.dg,by decide,?_⟩
 have h1:=h.eq
 rw [Sf] at h1 ⊢
 rw [h1]
 unfold Zx
 have h2:b % B32 ^ k=b:=Pv (Cy hb (Wv (by decide) hk))
 rw [h2,Lp a i,Nat.pow_zero,Pw,Nat.mul_zero,Sf,Nat.add_zero,Ee]
 have:dig a i*b*B32 ^ i=B32 ^ i*dig a i*b:=by rw [Nat.mul_right_comm,Ko (dig a i)]
 omega
theorem MulAt.done {F:Nat→Nat} {a b:Nat} (h:MulAt F 0 a b 2 0) (ha:a<B32 ^ 2):∀j,j<5→F j=dig (a*b) j:=by
 intro j hj
 have h1:=h.eq
 have h2:Zx a b 2 0=a*b:=by
  unfold Zx
  rw [Pv ha,Nat.pow_zero,Pw]
  simp
 rw [h2,Sf,Nat.add_zero] at h1
 rw [←h1]
 exact (uc h.dg j hj).symm
set_option maxRecDepth 4000
theorem AR1 {x y:Nat} (hx:x<4294967296) (hy:y<4294967296):IntKind.u64.wrap ((x:Int)*(y:Int))=((x*y:Nat):Int):=by
 have:=Ic hx hy
 rw [IntKind.wrap_u64,show (x:Int)*(y:Int)=((x*y:Nat):Int) by simp]
 omega
theorem AJl {x:Nat} (h:x=0):(0:Int).tmod 4294967296=((x % 4294967296:Nat):Int):=by subst h;rfl
theorem AJm {x:Nat} (h:x=0):IntKind.u64.wrap ((0:Int).tdiv 4294967296)=((x / 4294967296:Nat):Int):=by subst h;rfl
theorem z8 {b k:Nat} (hb:b<B32 ^ 2) (hk:2≤k):dig b k=0:=Fq (Cy hb (Wv (by decide) hk))
theorem AR2 (sa:Bool) (a:Nat) (sb:Bool) (b:Nat) (ha:a<B32 ^ 2) (hb:b<B32 ^ 2) (Hp:List AObj):AFun Tryz.prog 247 [.agg (wF sa (dig a)),.agg (wF sb (dig b))] Hp (.agg (wF (sa != sb) (dig (a*b)))):=by
 refine Aj [.cell 4 236] [0,1] Tryz.func247 Tryz.ntmps247 (fun d=>?_)
 refine Z1 ?_;refine La ?_;refine Wj ?_;refine fh ?_;refine Z79 ?_;refine Sp ?_;refine Z25 ?_;refine A2 [2,3,4,5,6] ?_
 refine B9 (α:=Nat×(Nat→Nat)) (fun x=>⟨68,Aa 2 (.ro (wF sa (dig a))) (Aa 3 (.ro (wF sb (dig b))) (Aa 4 (.ptr (oid Hp.length 0) 0) (Aa 5 (.ptr (oid Hp.length 1) 0) (Aa 6 (A5 (x.1:Nat)) (fun _=>.any))))),Hp,[.cells 236 [At false,Bw 0,Bw 0,Bw 0,Bw 0,Bw 0],.cells 236 (wF (sa != sb) (x.2))],[],none⟩) (fun x=>x.1≤2∧MulAt x.2 0 a b x.1 0) (fun x=>2-x.1) ((0,fun _=>0)) ⟨Av _,.start a b⟩ (Az rfl) rfl (fun x hx=>?_)
 obtain ⟨i,F0⟩:=x
 simp only at hx ⊢
 refine Z8 ?_;refine A2 [2,3,4,5,6,18] ?_
 refine A3 (fun ht18=>?_) (fun ht18=>?_)
 ·have hi:i<2:=by simp at ht18;omega
  refine Z50 ?_;refine Z2 ?_;refine wq ?_;refine Z2 ?_;refine ABs ?_
  refine B9 (α:=Nat×Nat×(Nat→Nat)) (fun y=>⟨68,Aa 2 (.ro (wF sa (dig a))) (Aa 3 (.ro (wF sb (dig b))) (Aa 4 (.ptr (oid Hp.length 0) 0) (Aa 5 (.ptr (oid Hp.length 1) 0) (Aa 6 (A5 (i:Nat)) (Aa 7 (Bw (y.2.1:Nat)) (Aa 8 (A5 (y.1:Nat)) (fun _=>.any))))))),Hp,[.cells 236 [At false,Bw 0,Bw 0,Bw 0,Bw 0,Bw 0],.cells 236 (wF (sa != sb) (y.2.2))],[],none⟩) (fun y=>MulAt y.2.2 y.2.1 a b i y.1) (fun y=>5-(i+y.1)) ((0,0,F0)) hx.2 (Az rfl) rfl (fun y hm=>?_)
  obtain ⟨k,c,F⟩:=y
  simp only at hm ⊢
  refine Z31 ?_;refine Nj ?_;refine A2 [2,3,4,5,6,7,8,26] ?_
  refine A3 (fun ht26=>?_) (fun ht26=>?_)
  ·have hp4:=hm.idx ha hb hi (by have h26:=ht26;simp at h26;omega)
   refine Z50 ?_;refine Z2 ?_;refine A2 [2,3,4,5,6,7,8,9] ?_;refine Z8 ?_;refine A2 [2,3,4,5,6,7,8,9,30] ?_
   refine A3 (fun ht30=>?_) (fun ht30=>?_)
   ·have hk2:k<2:=by simp at ht30;omega
    refine U6 [0,0,3,7,0,0,48,112,255,511] 8 Am (by kernel_rfl) ?_;refine Z9 ?_;refine nr (i) jU Tryz.sizeOf233 (by omega) (hoff:=Tl (by omega)) ?_;refine Z37 ?_;refine nr (k) jU Tryz.sizeOf233 (by omega) (hoff:=Tl (by omega)) ?_;refine Z86 ?_;refine Z0 ?_;refine A2 [2,3,4,5,6,7,8,9] ?_;refine Fl ?_;refine E9 ?_
    first|rw [AR1 (C7 a i) (C7 b k)]|skip
    refine AOv ?_
    refine A4 (h:=Ov (hy:=W1 (by omega))) (hr:=?_)
    refine Z0 ?_
    first|rw [Wl (dig a i*dig b k)]|rw [AJl hz]
    refine A4 (h:=Fz) (hr:=?_)
    refine Z0 ?_
    rw [Wl c]
    refine A4 (h:=Fz) (hr:=?_)
    refine A4 ?_;refine AGc ?_;refine E9 ?_
    rw [yy (by have:=Ic (C7 a i) (C7 b k);have:=hm.dg (i+k);have:=hm.c2;omega)]
    refine L9 ?_
    rw [Wl (F (i+k)+dig a i*dig b k % 4294967296+c % 4294967296)]
    refine AOt ?_
    refine Mb jS (hput:=i7 (g:=z6 F (i+k) ((F (i+k)+dig a i*dig b k % 4294967296+c % 4294967296) % 4294967296)) (by omega) (if_pos rfl) (fun j hj=>if_neg hj)) (hfit:=by simp;omega) ?_
    refine AGc ?_;refine Z29 ?_
    rw [Wm (x:=(F (i+k)+dig a i*dig b k % 4294967296+c % 4294967296)) (by have:=Ic (C7 a i) (C7 b k);have:=hm.dg (i+k);have:=hm.c2;omega)]
    refine Z0 ?_
    first|rw [Wm (x:=dig a i*dig b k) (Ic (C7 a i) (C7 b k)).2]|rw [AJm hz]
    refine A4 (h:=Fz) (hr:=?_)
    refine Z0 ?_
    rw [Wm (x:=c) (by have:=Ic (C7 a i) (C7 b k);have:=hm.dg (i+k);have:=hm.c2;omega)]
    refine A4 (h:=Fz) (hr:=?_)
    rw [yy (by have:=Ic (C7 a i) (C7 b k);have:=hm.dg (i+k);have:=hm.c2;omega)]
    refine A4 ?_;refine ABs ?_;refine Me ?_;refine ABs ?_
    refine B2 (k+1,_,_) (hm.step (by omega)) (by show 5-(i+(k+1))<5-(i+k);omega) (Bz rfl)
   have hk2:2≤k:=by simp at ht30;omega
   have hz:dig a i*dig b k=0:=by rw [z8 hb hk2,Nat.mul_zero]
   refine Xr ?_
   first|rw [AR1 (C7 a i) (C7 b k)]|skip
   refine AOv ?_
   refine A4 (h:=Ov (hy:=W1 (by omega))) (hr:=?_)
   refine Z0 ?_
   first|rw [Wl (dig a i*dig b k)]|rw [AJl hz]
   refine A4 (h:=Fz) (hr:=?_)
   refine Z0 ?_
   rw [Wl c]
   refine A4 (h:=Fz) (hr:=?_)
   refine A4 ?_;refine AGc ?_;refine E9 ?_
   rw [yy (by have:=Ic (C7 a i) (C7 b k);have:=hm.dg (i+k);have:=hm.c2;omega)]
   refine L9 ?_
   rw [Wl (F (i+k)+dig a i*dig b k % 4294967296+c % 4294967296)]
   refine AOt ?_
   refine Mb jS (hput:=i7 (g:=z6 F (i+k) ((F (i+k)+dig a i*dig b k % 4294967296+c % 4294967296) % 4294967296)) (by omega) (if_pos rfl) (fun j hj=>if_neg hj)) (hfit:=by simp;omega) ?_
   refine AGc ?_;refine Z29 ?_
   rw [Wm (x:=(F (i+k)+dig a i*dig b k % 4294967296+c % 4294967296)) (by have:=Ic (C7 a i) (C7 b k);have:=hm.dg (i+k);have:=hm.c2;omega)]
   refine Z0 ?_
   first|rw [Wm (x:=dig a i*dig b k) (Ic (C7 a i) (C7 b k)).2]|rw [AJm hz]
   refine A4 (h:=Fz) (hr:=?_)
   refine Z0 ?_
   rw [Wm (x:=c) (by have:=Ic (C7 a i) (C7 b k);have:=hm.dg (i+k);have:=hm.c2;omega)]
   refine A4 (h:=Fz) (hr:=?_)
   rw [yy (by have:=Ic (C7 a i) (C7 b k);have:=hm.dg (i+k);have:=hm.c2;omega)]
   refine A4 ?_;refine ABs ?_;refine Me ?_;refine ABs ?_
   refine B2 (k+1,_,_) (hm.step (by omega)) (by show 5-(i+(k+1))<5-(i+k);omega) (Bz rfl)
  have hkc:2≤k∧c=0:=by simp at ht26;omega
  obtain ⟨hk2,hc0⟩:=hkc
  subst hc0
  refine w7 ?_;refine Me ?_;refine A2 [2,3,4,5,6] ?_
  refine B2 (i+1,F) ⟨hi,hm.next hb hk2⟩ (by show 2-(i+1)<2-i;omega) (Bz rfl)
 have hie:i=2:=by have:=hx.1;simp at ht18;omega
 have hF:=MulAt.done (hie ▸ hx.2) ha
 refine Xw ?_;refine G4 ?_;refine Z33 ?_;exact A8 (Ai (Ap jA jS)) ⟨by rw [hF 0 (by decide),hF 1 (by decide),hF 2 (by decide),hF 3 (by decide),hF 4 (by decide)],rfl⟩

/-- A wide number as a number of 64 bits. -/
def Ex (s:Bool) (m:Nat):Int×Int:=if (s&&decide (m≤9223372036854775808))=true then (-(m:Int),0) else if ((!s)&&decide (m≤9223372036854775807))=true then ((m:Int),0) else (0,4)
def I5 (s:Bool) (m:Nat):Int:=if s then -(m:Int) else m
theorem Kz (s:Bool) (m:Nat):Ex s m=if -9223372036854775808≤I5 s m∧I5 s m≤9223372036854775807 then (I5 s m,0) else (0,4):=by
 unfold Ex I5
 cases s
 ·simp only [Es,Da,Dc,An,if_false]
  by_cases h:m≤9223372036854775807
  ·rw [if_pos (by simpa using h),if_pos ⟨by omega,by omega⟩]
  rw [if_neg (by simpa using h),if_neg (by omega)]
 simp only [Dc,Ck,Es,An,if_false,if_true]
 by_cases h:m≤9223372036854775808
 ·rw [if_pos (by simpa using h),if_pos ⟨by omega,by omega⟩]
 rw [if_neg (by simpa using h),if_neg (by omega)]
theorem Zy {x y:Nat} (hx:x<4294967296) (hy:y<4294967296):IntKind.u64.wrap (IntKind.u64.wrap ((y:Int)*4294967296)+(x:Int))=((x+4294967296*y:Nat):Int):=by
 simp only [IntKind.wrap_u64];omega
theorem za {m:Nat} (hm:m<B32 ^ 5) (h:(decide (0<((dig m 2+dig m 3+dig m 4:Nat):Int)) || decide (4294967296≤((dig m 1:Nat):Int)))=true):18446744073709551616≤m:=by
 rcases Bn m 18446744073709551616 with h1|h1
 ·exfalso
  have e2:dig m 2=0:=Fq (Cy h1 (by decide))
  have e3:dig m 3=0:=Fq (Cy h1 (by decide))
  have e4:dig m 4=0:=Fq (Cy h1 (by decide))
  have:=C7 m 1
  rw [e2,e3,e4] at h
  simp at h
  omega
 exact h1
theorem zb {m:Nat} (hm:m<B32 ^ 5) (h:(decide (0<((dig m 2+dig m 3+dig m 4:Nat):Int)) || decide (4294967296≤((dig m 1:Nat):Int)))=false):dig m 0+4294967296*dig m 1=m:=by
 simp only [Df,decide_eq_false_iff_not] at h
 have h2:dig m 2=0:=by omega
 have h3:dig m 3=0:=by omega
 have h4:dig m 4=0:=by omega
 have e:=uc (F:=dig m) (fun j=>C7 m j)
 have m0:=Pu m 4294967296
 have m1:=Pu (m / 4294967296) 4294967296
 unfold dig at *
 simp only [B32,Nat.reducePow,Nat.div_one,Nat.pow_zero,Nat.pow_one] at *
 omega
theorem AIc {s:Bool} {m:Nat} (h:18446744073709551616≤m):Ex s m=(0,4):=by
 unfold Ex
 rw [if_neg (by simp;omega),if_neg (by simp;omega)]
theorem AR3 {u:Nat} (h:u≤9223372036854775808):IntKind.i64.wrap (IntKind.u64.wrap (0-(u:Int))) = -(u:Int):=by
 simp only [IntKind.wrap_u64,IntKind.wrap_i64];omega
theorem AR4 {u:Nat} (h:u≤9223372036854775807):IntKind.i64.wrap (u:Int)=(u:Int):=by
 simp only [IntKind.wrap_i64];omega
theorem AR5 (s:Bool) (m:Nat) (hm:m<B32 ^ 5) (Hp:List AObj):AFun Tryz.prog 249 [.agg (wF s (dig m))] Hp (.tup [A5 (Ex s m).1,A5 (Ex s m).2]):=by
 refine Aj [.tmp 2,.tmp 3] [0] Tryz.func249 Tryz.ntmps249 (fun d=>?_)
 refine Z14 ?_;refine A2 [1] ?_;refine Z2 ?_;refine Xn (1) jU Tryz.sizeOf233 (by decide) (hoff:=Tl (by decide)) ?_;refine Z11 ?_;refine Xn (0) jU Tryz.sizeOf233 (by decide) (hoff:=Tl (by decide)) ?_;refine A4 ?_
 refine A4 (h:=Fz) (hr:=?_)
 rw [Zy (C7 m 0) (C7 m 1)]
 refine A4 ?_;refine A2 [1,4] ?_;refine Z25 ?_;refine Xn (2) jU Tryz.sizeOf233 (by decide) (hoff:=Tl (by decide)) ?_;refine Z0 ?_;refine Xn (3) jU Tryz.sizeOf233 (by decide) (hoff:=Tl (by decide)) ?_;refine A4 ?_
 refine A4 (h:=Fz) (hr:=?_)
 refine A4 ?_;refine Xn (4) jU Tryz.sizeOf233 (by decide) (hoff:=Tl (by decide)) ?_;refine A4 ?_
 refine A4 (h:=Fz) (hr:=?_)
 rw [yy (by have:=C7 m 2;have:=C7 m 3;have:=C7 m 4;omega)]
 refine Wf ?_;refine G.indexArrRo (1) jU Tryz.sizeOf233 (by decide) (hoff:=Tl (by decide)) ?_;refine Nj ?_;refine A2 [1,4,30] ?_
 refine A3 (fun ht30=>?_) (fun ht30=>?_)
 ·have hw:=AIc (s:=s) (za hm ht30)
  refine Z1 ?_;exact AKf
 have hu:=zb hm ht30
 rw [hu]
 refine Nm ?_;refine Nj ?_;refine A2 [1,4,36] ?_
 refine A3 (fun ht36=>?_) (fun ht36=>?_)
 ·have hw:Ex s m=(-(m:Int),0):=if_pos (by simp at ht36 ⊢;exact ⟨ht36.1,by omega⟩)
  refine Z2 ?_
  refine A4 (h:=Kg) (hr:=?_)
  refine A4 ?_
  rw [AR3 (by simp at ht36;omega)]
  refine Z0 ?_;exact AKf
 refine Re ?_;refine Z42 ?_;refine A4 ?_;refine A2 [4,46] ?_
 refine A3 (fun ht46=>?_) (fun ht46=>?_)
 ·have hw:Ex s m=((m:Int),0):=by
   unfold Ex
   rw [if_neg (by simp at ht46 ⊢;simp [ht46.1]),if_pos (by simp at ht46 ⊢;exact ⟨ht46.1,by omega⟩)]
  refine Z1 ?_
  rw [AR4 (by simp at ht46;omega)]
  refine Z0 ?_;exact AKf
 have hw:Ex s m=(0,4):=by
  unfold Ex
  rw [if_neg (by simp at ht36 ⊢;intro hs;have:=ht36 hs;omega),if_neg (by simp at ht46 ⊢;intro hs;have:=ht46 hs;omega)]
 refine Z98 ?_;refine nu ?_;exact A8 (As A7 A7) ⟨by rw [hw],rfl⟩

/-- ref16.num -/
def dk (s:Bool) (m:Nat):Rs:=if ((Ex s m).2 != 0)=true then (noV,(Ex s m).2) else (⟨1,(Ex s m).1,[]⟩,0)
theorem zc (s:Bool) (m:Nat) (hm:m<B32 ^ 5) (Hp:List AObj):AFun Tryz.prog 191 [.agg (wF s (dig m))] Hp (Nt (dk s m)):=by
 refine Aj [.cell 2 23,.tmp 3] [0] Tryz.func191 Tryz.ntmps191 (fun d=>?_)
 refine vk ?_;refine Z2 ?_;refine A9 Tryz.call249 (AR5 s m hm _) ?_;refine L9 ?_;refine A2 [2,4,5] ?_;refine Z8 ?_;refine A2 [2,4,5,12] ?_
 refine A3 (fun ht12=>?_) (fun ht12=>?_)
 ·have hw:dk s m=(noV,(Ex s m).2):=if_pos ht12
  refine Z28 ?_;refine A4 ?_;refine Z47 ?_;exact ANr
 have hw:dk s m=(⟨1,(Ex s m).1,[]⟩,0):=if_neg (by rw [ht12];simp)
 refine Z58 ?_;refine Wg ?_;refine jd ?_;exact AKt

theorem AMb (b:Bool) (Hp:List AObj):AFun Tryz.prog 189 [At b] Hp (Ca (Bs b)):=by
 refine Aj [.cell 2 23] [0] Tryz.func189 Tryz.ntmps189 (fun d=>?_)
 refine Z77 ?_;refine Z25 ?_;refine Ua ?_
 refine A3 (fun ht3=>?_) (fun ht3=>?_)
 ·have hb:b=true:=ht3
  refine Z28 ?_;refine Rd ?_;exact APp
 have hb:b=false:=ht3
 refine Z3 ?_;refine Z28 ?_;refine Z24 ?_;exact APp

theorem AR6 {x y:Nat} (h:x<18446744073709551616):IntKind.u64.wrap ((x:Int).tdiv (y:Int))=((x / y:Nat):Int):=by
 have:x / y≤x:=Ws x y
 rw [X6 (by omega),IntKind.wrap_u64,←Int.natCast_ediv]
 generalize x / y=z at *
 omega
theorem AR7 (x y:Nat):(x:Int).tmod (y:Int)=((x % y:Nat):Int):=by
 rw [X7 (by omega),←Int.natCast_emod]
theorem ma {s:Bool} {q:Nat} (h:q<18446744073709551616):[At s,Bw (q % 4294967296:Nat),Bw (q / 4294967296:Nat),Bw 0,Bw 0,Bw 0]=wF s (dig q):=by
 have e2:dig q 2=0:=Fq (Cy h (by decide))
 have e3:dig q 3=0:=Fq (Cy h (by decide))
 have e4:dig q 4=0:=Fq (Cy h (by decide))
 unfold wF
 rw [ub,AEi,e2,e3,e4,Pv (show q / 4294967296<4294967296 by omega)]
 rfl
theorem dl {m:Nat} (h:m<18446744073709551616):dig m 0+4294967296*dig m 1=m:=by
 rw [ub,AEi]
 omega
theorem AVr (a b:Int) (a0 : -9223372036854775808≤a) (a1:a≤9223372036854775807) (b0 : -9223372036854775808≤b) (b1:b≤9223372036854775807) (hb:b≠0) (Hp:List AObj):AFun Tryz.prog 248 [A5 a,A5 b] Hp (.tup [.agg (wF (decide (a<0) != decide (b<0)) (dig (a.natAbs / b.natAbs))),.agg (wF (decide (a<0)) (dig (a.natAbs % b.natAbs)))]):=by
 have hA:a.natAbs<18446744073709551616:=by omega
 have hB:b.natAbs<18446744073709551616:=by omega
 have hB0:((b.natAbs:Nat):Int)≠0:=by omega
 have hq:(a.natAbs / b.natAbs)<18446744073709551616:=Sc (Ws _ _) hA
 have hr:(a.natAbs % b.natAbs)<18446744073709551616:=Sc (Se _ _) hA
 refine Aj [.cell 4 236,.cell 5 236] [0,1] Tryz.func248 Tryz.ntmps248 (fun d=>?_)
 refine Z34 ?_;refine La ?_;refine A2 [0,1,4,5] ?_;refine Z2 ?_;refine A9 Tryz.call193 (yz a a0 a1 _) ?_;refine A4 ?_;refine A9 Tryz.call193 (yz b b0 b1 _) ?_;refine La ?_;refine ABh ?_;refine A2 [4,5,6,7] ?_;refine C3 [0,1,3,7,0,16,48,127,0,256,768,1792,0,4096,12288,32512,255,131071] 17 Am (by kernel_rfl) ?_;refine Aq ?_;refine Xm (1) jU Tryz.sizeOf233 (by decide) ?_;refine Z37 ?_;refine Xm (0) jU Tryz.sizeOf233 (by decide) ?_;refine Aq ?_
 refine Aq (h:=Fz) (hr:=?_)
 refine Aq ?_;refine Xm (1) jU Tryz.sizeOf233 (by decide) ?_;refine Z37 ?_;refine Xm (0) jU Tryz.sizeOf233 (by decide) ?_;refine Aq ?_
 refine Aq (h:=Fz) (hr:=?_)
 refine Z86 ?_;refine A4 ?_;refine A2 [4,5,6,7,8,9] ?_;refine C3 [0,0,3,0,0,24,7,127] 7 Am (by kernel_rfl) ?_
 rw [Zy (C7 a.natAbs 0) (C7 a.natAbs 1),Zy (C7 b.natAbs 0) (C7 b.natAbs 1),dl hA,dl hB]
 refine Z9 ?_
 refine Aq (h:=Q.quo (h0:=fun _=>hB0)) (hr:=?_)
 refine Z9 ?_
 refine Aq (h:=Q.rem (h0:=fun _=>hB0)) (hr:=?_)
 refine Z86 ?_;refine A4 ?_;refine A2 [4,5,6,7,10,11] ?_;refine E9 ?_
 rw [AR6 hA,AR7]
 refine L9 ?_;refine Z79 ?_;refine A2 [4,5,6,10,11,12] ?_;refine Z21 ?_
 rw [Wl (a.natAbs / b.natAbs),Wm hq]
 refine AFn ?_;refine Z6 ?_;refine AFj ?_;refine A2 [4,5,6,11,12] ?_;refine Z1 ?_;refine Z79 ?_;refine A2 [4,5,11,12,13] ?_;refine Z21 ?_
 rw [Wl (a.natAbs % b.natAbs),Wm hr]
 refine AFn ?_;refine Z6 ?_;refine AFj ?_;refine A2 [4,5,12,13] ?_
 refine Hc [0,0,1,7] [2] [.q 2 [] [],.s [] (some 0) [] []] (fun _=>Hp) (fun B=>[.cells 236 (if B 0=true then [At (decide (a<0) != decide (b<0)),Bw ((a.natAbs / b.natAbs) % 4294967296:Nat),Bw ((a.natAbs / b.natAbs) / 4294967296:Nat),Bw 0,Bw 0,Bw 0] else [At false,Bw 0,Bw 0,Bw 0,Bw 0,Bw 0]),.cells 236 [At false,Bw 0,Bw 0,Bw 0,Bw 0,Bw 0],.cells 236 (wF (decide (a<0)) (dig a.natAbs)),.cells 236 (wF (decide (b<0)) (dig b.natAbs)),.cells 236 [At (decide (a<0) != decide (b<0)),Bw ((a.natAbs / b.natAbs) % 4294967296:Nat),Bw ((a.natAbs / b.natAbs) / 4294967296:Nat),Bw 0,Bw 0,Bw 0],.cells 236 [At (decide (a<0)),Bw ((a.natAbs % b.natAbs) % 4294967296:Nat),Bw ((a.natAbs % b.natAbs) / 4294967296:Nat),Bw 0,Bw 0,Bw 0]]) Am (by kernel_rfl) rfl rfl (fun _=>rfl) ?_
 apply Y.q
 ·intro B hT hF
  refine Z9 ?_;exact ar
 case hTF=>decide
 refine f6 (u:=Hp.length) (n:=0) (t':=236) (cs:=[At false,Bw 0,Bw 0,Bw 0,Bw 0,Bw 0]) (cs':=[At (decide (a<0) != decide (b<0)),Bw ((a.natAbs / b.natAbs) % 4294967296:Nat),Bw ((a.natAbs / b.natAbs) / 4294967296:Nat),Bw 0,Bw 0,Bw 0]) Tryz.sizeOf236 (fun B hB=>⟨rfl,by simp only [hB];rfl,by simp [upd],rfl⟩) ?_
 refine Hd (tn:=[2]) (O:=[.cells 236 [At (decide (a<0) != decide (b<0)),Bw ((a.natAbs / b.natAbs) % 4294967296:Nat),Bw ((a.natAbs / b.natAbs) / 4294967296:Nat),Bw 0,Bw 0,Bw 0],.cells 236 [At false,Bw 0,Bw 0,Bw 0,Bw 0,Bw 0],.cells 236 (wF (decide (a<0)) (dig a.natAbs)),.cells 236 (wF (decide (b<0)) (dig b.natAbs)),.cells 236 [At (decide (a<0) != decide (b<0)),Bw ((a.natAbs / b.natAbs) % 4294967296:Nat),Bw ((a.natAbs / b.natAbs) / 4294967296:Nat),Bw 0,Bw 0,Bw 0],.cells 236 [At (decide (a<0)),Bw ((a.natAbs % b.natAbs) % 4294967296:Nat),Bw ((a.natAbs % b.natAbs) / 4294967296:Nat),Bw 0,Bw 0,Bw 0]]) ?_;refine G4 ?_;refine Z73 ?_;exact A8 (As (Ap jA jS) (Ap jA jS)) ⟨by rw [ma hq,ma hr],rfl⟩

/-- ref04.Before -/
def Id (a b:Val):Bool:=if (a.kind != b.kind)=true then decide (a.kind<b.kind) else if (a.kind != 2)=true then decide (a.n<b.n) else decide (Lib.compareBytes a.s b.s<0)
theorem AId {s t:Str} {k:Nat} (hs:k<s.length) (ht:k<t.length) (he:s[k]=t[k]):Lib.compareBytes (s.drop k) (t.drop k)=Lib.compareBytes (s.drop (k+1)) (t.drop (k+1)):=by
 rw [H6 hs,H6 ht,Lib.compareBytes,he,if_neg (by simp),if_neg (by simp)]
theorem AIe {s t:Str} {k:Nat} (hs:k<s.length) (ht:k<t.length) (he:s[k]≠t[k]):decide (Lib.compareBytes (s.drop k) (t.drop k)<0)=decide ((s[k].toNat:Int)<(t[k].toNat:Int)):=by
 rw [H6 hs,H6 ht,Lib.compareBytes]
 have e1:s[k]<t[k]↔s[k].toNat<t[k].toNat:=Ww
 have e2:t[k]<s[k]↔t[k].toNat<s[k].toNat:=Ww
 have e3:s[k].toNat≠t[k].toNat:=fun e=>he (Kp.1 e)
 by_cases h:s[k]<t[k]
 ·rw [if_pos h,decide_eq_true (show (-1:Int)<0 by decide),decide_eq_true (by have:=e1.1 h;omega)]
 have hnl:¬s[k].toNat<t[k].toNat:=fun h'=>h (e1.2 h')
 rw [if_neg h,if_pos (e2.2 (by omega)),decide_eq_false (show ¬(1:Int)<0 by decide),decide_eq_false (by omega)]
theorem AMc {s t:Str} {k:Nat} (hs:k≤s.length) (ht:k≤t.length) (h:¬(k<s.length∧k<t.length)):decide (Lib.compareBytes (s.drop k) (t.drop k)<0)=decide ((s.length:Int)<(t.length:Int)):=by
 by_cases h1:k<s.length
 ·have h2:t.length=k:=by omega
  rw [Tu (l:=t) (by omega),H6 h1]
  rw [decide_eq_false (show ¬Lib.compareBytes _ _<0 by rw [Lib.compareBytes];decide),decide_eq_false (by omega)]
 rw [Tu (l:=s) (by omega)]
 by_cases h2:k<t.length
 ·rw [H6 h2]
  rw [decide_eq_true (show Lib.compareBytes _ _<0 by rw [Lib.compareBytes];decide),decide_eq_true (by omega)]
 rw [Tu (l:=t) (by omega)]
 rw [decide_eq_false (show ¬Lib.compareBytes _ _<0 by rw [Lib.compareBytes];decide),decide_eq_false (by omega)]
theorem AR8 (a b:Val) (ha:a.s.length≤1048576) (Hp:List AObj):AFun Tryz.prog 245 [Ca a,Ca b] Hp (At (Id a b)):=by
 refine Aj [.tmp 4] [0,1] Tryz.func245 Tryz.ntmps245 (fun d=>?_)
 refine vl ?_;refine O8 ?_;refine A2 [2,3,10] ?_
 refine A3 (fun ht10=>?_) (fun ht10=>?_)
 ·have hm:Id a b=decide (a.kind<b.kind):=if_pos ht10
  refine Z21 ?_;refine Z0 ?_;refine A2 [4] ?_;exact Z66
 have e1:¬(a.kind != b.kind)=true:=by rw [ht10];simp
 refine Nm ?_;refine A2 [2,3,18] ?_
 refine A3 (fun ht18=>?_) (fun ht18=>?_)
 ·have hm:Id a b=decide (a.n<b.n):=by unfold Id;rw [if_neg e1,if_pos ht18]
  refine Z21 ?_;refine Z0 ?_;refine A2 [4] ?_;exact Z66
 have hm:Id a b=decide (Lib.compareBytes a.s b.s<0):=by unfold Id;rw [if_neg e1,if_neg (by rw [ht18];simp)]
 refine Nk ?_;refine A2 [2,3,5] ?_
 refine B9 (α:=Nat) (fun k=>⟨63,Aa 2 (.ro [A5 a.kind,A5 a.n,Ac a.s]) (Aa 3 (.ro [A5 b.kind,A5 b.n,Ac b.s]) (Aa 5 (A5 (k:Nat)) (fun _=>.any))),Hp,[],[],none⟩) (fun k=>k≤a.s.length∧k≤b.s.length∧Lib.compareBytes a.s b.s=Lib.compareBytes (a.s.drop k) (b.s.drop k)) (fun k=>a.s.length-k) (0) ⟨Av _,Av _,rfl⟩ (Az rfl) rfl (fun k hx=>?_)
 refine Z46 ?_;refine Z42 ?_;refine Mf ?_;refine A2 [2,3,5,35] ?_
 refine A3 (fun ht35=>?_) (fun ht35=>?_)
 ·have hk:k<a.s.length∧k<b.s.length:=by have h35:=ht35;simp at h35;exact h35
  refine Z50 ?_;refine C3 [0,1,0,7,0,16,0,112,255] 8 Am (by kernel_rfl) ?_;refine Z37 ?_
  refine Aq (h:=Fj k a.s[k] (fun _=>Ae hk.1)) (hr:=?_)
  refine Z37 ?_
  refine Aq (h:=Fj k b.s[k] (fun _=>Ae hk.2)) (hr:=?_)
  refine Dq ?_;refine A4 ?_;refine A2 [2,3,5,46] ?_
  refine A3 (fun ht46=>?_) (fun ht46=>?_)
  ·have hd:a.s[k]≠b.s[k]:=fun e=>by rw [e] at ht46;simp at ht46
   refine C3 [0,1,0,7,0,16,0,112,255,511] 8 Am (by kernel_rfl) ?_;refine Z37 ?_
   refine Aq (h:=Fj k a.s[k] (fun _=>Ae hk.1)) (hr:=?_)
   refine Z37 ?_
   refine Aq (h:=Fj k b.s[k] (fun _=>Ae hk.2)) (hr:=?_)
   refine Dq ?_;refine Z0 ?_;refine nv ?_;exact A8 (Ai A7) ⟨by rw [hm,hx.2.2,AIe hk.1 hk.2 hd],rfl⟩
  have hd:a.s[k]=b.s[k]:=Kp.1 (by have h46:((a.s[k].toNat:Nat):Int)=(b.s[k].toNat:Int):=(by simpa using ht46);omega)
  refine Z87 ?_;refine A2 [2,3,5] ?_;exact B2 (k+1) ⟨hk.1,hk.2,by rw [hx.2.2];exact AId hk.1 hk.2 hd⟩ (by omega) (Bz rfl)
 have hk:¬(k<a.s.length∧k<b.s.length):=by have h35:=ht35;simp at h35;omega
 refine Z52 ?_;refine Z21 ?_;refine Z72 ?_;refine Z33 ?_;exact A8 (Ai A7) ⟨by rw [hm,hx.2.2,AMc hx.1 hx.2.1 hk],rfl⟩

set_option maxRecDepth 8000
/-! The reference's Bin is the program's. -/
theorem AMd (t:Str) (c:Int):(Bt t==3)=(Gd t c).2:=by
 unfold Gd
 by_cases h1:(t==[61])=true
 ·rw [if_pos h1,eq_of_beq h1];kernel_rfl
 rw [if_neg h1]
 by_cases h2:(t==[33,61])=true
 ·rw [if_pos h2,eq_of_beq h2];kernel_rfl
 rw [if_neg h2]
 by_cases h3:(t==[60])=true
 ·rw [if_pos h3,eq_of_beq h3];kernel_rfl
 rw [if_neg h3]
 by_cases h4:(t==[60,61])=true
 ·rw [if_pos h4,eq_of_beq h4];kernel_rfl
 rw [if_neg h4]
 by_cases h5:(t==[62])=true
 ·rw [if_pos h5,eq_of_beq h5];kernel_rfl
 rw [if_neg h5]
 by_cases h6:(t==[62,61])=true
 ·rw [if_pos h6,eq_of_beq h6];kernel_rfl
 rw [if_neg h6]
 show (Bt t==3)=false
 cases h:Bt t==3 with
 | false=>rfl
 | true =>
  exfalso
  have h':Bt t=3:=by simpa using h
  unfold Bt at h'
  split at h'
  ·rename_i i hi
   have e:i=3:=by omega
   subst e
   obtain ⟨hl,hp,_⟩:=N5.1 hi
   have hm:t∈levels[3]:=by simpa using hp
   have:t∈([[61],[33,61],[60],[60,61],[62],[62,61]]:List Str):=hm
   simp only [C0,I6,or_false] at this
   rcases this with rfl|rfl|rfl|rfl|rfl|rfl
   ·exact h1 rfl
   ·exact h2 rfl
   ·exact h3 rfl
   ·exact h4 rfl
   ·exact h5 rfl
   exact h6 rfl
  cases h'
def i8 (lt gt:Bool) (t:Str):Bool:=if t==[61] then !lt && !gt else if t==[33,61] then lt || gt else if t==[60] then lt else if t==[60,61] then !gt else if t==[62] then gt else !lt
theorem AIf {t:Str} {c:Int} (h:(Gd t c).2=true):(Gd t c).1=i8 (decide (c<0)) (decide (0<c)) t:=by
 unfold Gd at h ⊢
 unfold i8
 split
 ·rw [K9];simp;omega
 rename_i h1
 rw [if_neg h1] at h
 split
 ·rw [K9];simp;omega
 rename_i h2
 rw [if_neg h2] at h
 split
 ·rfl
 rename_i h3
 rw [if_neg h3] at h
 split
 ·rw [K9];simp
 rename_i h4
 rw [if_neg h4] at h
 split
 ·rfl
 rename_i h5
 rw [if_neg h5] at h
 split
 ·rw [K9];simp
 rename_i h6
 rw [if_neg h6] at h
 cases h
theorem ud:∀s t:Str,Lib.compareBytes t s = -Lib.compareBytes s t
 | [],[]=>rfl
 | [],b::r=>rfl
 | a::r,[]=>rfl
 | a::r,b::q=>by
  rw [Lib.compareBytes,Lib.compareBytes]
  by_cases h1:a<b
  ·rw [if_neg (by have:=Ww.1 h1;rw [Ww];omega),if_pos h1,if_pos h1];rfl
  rw [if_neg h1,if_neg h1]
  by_cases h2:b<a
  ·rw [if_pos h2,if_pos h2]
  rw [if_neg h2,if_neg h2];exact ud r q
theorem AEj {a b:Val} (ha:C2 a=true) (hb:C2 b=true) (hk:a.kind=b.kind):Uy a b=if a.kind=2 then Lib.compareBytes a.s b.s else Kt a.n b.n:=by
 obtain ⟨k,n,s⟩:=a
 obtain ⟨k',n',s'⟩:=b
 simp only at hk
 subst hk
 unfold Uy
 rw [ha,hb,if_neg (by simp)]
 have e0:Kt k k=0:=by simp [Kt]
 simp only [orI,e0]
 unfold C2 at ha hb
 simp only at ha hb
 by_cases h2:k=2
 ·subst h2
  simp at ha hb
  rw [ha.1,hb.1]
  simp [Kt]
  intro h;exact h.symm
 have hs:s=[]∧s'=[]:=by
  split at ha
  ·rename_i h;rw [if_pos h] at hb;simp at ha hb;exact ⟨ha.2,hb.2⟩
  rename_i h
  rw [if_neg h] at hb
  split at ha
  ·rename_i h;rw [if_pos h] at hb;simp at ha hb;exact ⟨ha,hb⟩
  rename_i h
  rw [if_neg h] at hb
  rw [if_neg (by simpa using h2)] at ha hb
  simp at ha hb
  exact ⟨ha.1.1.2,hb.1.1.2⟩
 rw [hs.1,hs.2,if_neg h2]
 simp [Lib.compareBytes]
 intro h;exact h.symm
theorem zd {a b:Val} (ha:C2 a=true) (hb:C2 b=true) (hk:a.kind=b.kind):Id a b=decide (Uy a b<0):=by
 rw [AEj ha hb hk]
 unfold Id
 rw [if_neg (by simp [hk])]
 by_cases h2:a.kind=2
 ·rw [if_pos h2,if_neg (by simp [h2])]
 rw [if_neg h2,if_pos (by simp [h2])]
 unfold Kt
 rw [decide_eq_decide]
 split
 ·rename_i h;simp at h;omega
 rename_i h
 simp at h
 split<;>omega
theorem ze {a b:Val} (ha:C2 a=true) (hb:C2 b=true) (hk:a.kind=b.kind):Id b a=decide (0<Uy a b):=by
 rw [AEj ha hb hk]
 unfold Id
 rw [if_neg (by simp [hk])]
 by_cases h2:a.kind=2
 ·rw [if_pos h2,if_neg (by rw [←hk];simp [h2]),ud a.s b.s,decide_eq_decide]
  omega
 rw [if_neg h2,if_pos (by rw [←hk];simp [h2])]
 unfold Kt
 rw [decide_eq_decide]
 split
 ·rename_i h;simp at h;omega
 rename_i h
 simp at h
 split
 ·rename_i h';simp at h';omega
 rename_i h';simp at h';omega
theorem AIg {t:Str} {a b:Val} (ha:C2 a=true) (hb:C2 b=true) (h3:(Bt t==3)=true) (hk:(a.kind != b.kind)=false):J7 t a b=(Bs (i8 (Id a b) (Id b a) t),0):=by
 have hk':a.kind=b.kind:=by simpa using hk
 rw [zd ha hb hk',ze ha hb hk']
 have h:=h3
 rw [AMd t (Uy a b)] at h
 unfold J7
 rw [if_pos h,if_neg (by rw [hk];simp),AIf h]
theorem AEk {t:Str} {a b:Val} (h3:(Bt t==3)=true) (hk:(a.kind != b.kind)=true):J7 t a b=(noV,10):=by
 rw [AMd t (Uy a b)] at h3
 unfold J7
 rw [if_pos h3,if_pos hk]
 rfl
theorem Zz {t:Str} {a b:Val} (h3:(Bt t==3)=false):J7 t a b=if t==[38] then Jb a b else if !Cx [a,b] [1,1] then D9 10 else Ga (Gc t a.n b.n):=by
 rw [AMd t (Uy a b)] at h3
 unfold J7
 rw [if_neg (by rw [h3];simp)]
/-! Numbers. -/
theorem L0 (s:Bool) (m:Nat):dk s m=Ga (Ex s m):=rfl
section
variable {a b:Int}
theorem mb (s:Bool) (m:Nat) (s':Bool) (m':Nat):I5 (Tm s m s' m').1 (Tm s m s' m').2=I5 s m+I5 s' m':=by
 unfold Tm hiW loW I5
 by_cases h:m<m'
 ·cases s<;>cases s'<;>simp [h]<;>omega
 cases s<;>cases s'<;>simp [h]<;>omega
theorem Pl (a:Int):I5 (decide (a<0)) a.natAbs=a:=by
 unfold I5
 by_cases h:a<0
 ·rw [if_pos (by simpa using h)];omega
 rw [if_neg (by simpa using h)];omega
theorem mc (s:Bool) (m:Nat):I5 (!s) m = -I5 s m:=by
 unfold I5
 cases s<;>simp
theorem zf (a0 : -9223372036854775808≤a) (a1:a≤9223372036854775807) (b0 : -9223372036854775808≤b) (b1:b≤9223372036854775807):Ex (Tm (decide (a<0)) a.natAbs (decide (b<0)) b.natAbs).1 (Tm (decide (a<0)) a.natAbs (decide (b<0)) b.natAbs).2=bb a b:=by
 rw [Kz,mb,Pl,Pl,AHb a0 a1 b0 b1]
theorem zg (a0 : -9223372036854775808≤a) (a1:a≤9223372036854775807) (b0 : -9223372036854775808≤b) (b1:b≤9223372036854775807):Ex (Tm (decide (a<0)) a.natAbs (!decide (b<0)) b.natAbs).1 (Tm (decide (a<0)) a.natAbs (!decide (b<0)) b.natAbs).2=Pa a b:=by
 rw [Kz,mb,mc,Pl,Pl,t2 a0 a1 b0 b1,Int.sub_eq_add_neg]
theorem AEl:I5 (decide (a<0) != decide (b<0)) (a.natAbs*b.natAbs)=a*b:=by
 have h1:=Int.natAbs_mul a b
 unfold I5
 rw [←h1]
 by_cases ha:a<0<;>by_cases hb:b<0
 ·have:=Int.mul_pos_of_neg_of_neg ha hb
  simp [ha,hb];omega
 ·have:a*b≤0:=Int.mul_nonpos_of_nonpos_of_nonneg (by omega) (by omega)
  simp [ha,hb];omega
 ·have:a*b≤0:=Int.mul_nonpos_of_nonneg_of_nonpos (by omega) (by omega)
  simp [ha,hb];omega
 have:0≤a*b:=Int.mul_nonneg (by omega) (by omega)
 simp [ha,hb];omega
theorem zh (a0 : -9223372036854775808≤a) (a1:a≤9223372036854775807) (b0 : -9223372036854775808≤b) (b1:b≤9223372036854775807):Ex (decide (a<0) != decide (b<0)) (a.natAbs*b.natAbs)=T7 a b:=by
 rw [Kz,AEl,AHc a0 a1 b0 b1]
end
/-! Divided. -/
theorem Qi (a:Int):(a<0∧a = -(a.natAbs:Int))∨(¬a<0∧a=(a.natAbs:Int)):=by omega
theorem md (a b:Int):I5 (decide (a<0) != decide (b<0)) (a.natAbs / b.natAbs)=a.tdiv b:=by
 have key:((a.natAbs / b.natAbs:Nat):Int)=(a.natAbs:Int).tdiv (b.natAbs:Int):=by
  rw [X6 (by omega),Int.natCast_ediv]
 unfold I5
 rcases Qi a with ⟨ha,ea⟩|⟨ha,ea⟩<;>rcases Qi b with ⟨hb,eb⟩|⟨hb,eb⟩
 ·rw [show (decide (a<0) != decide (b<0))=false by simp [ha,hb]]
  conv=>rhs;rw [ea,eb,Int.neg_tdiv,Int.tdiv_neg,Int.neg_neg]
  exact key
 ·rw [show (decide (a<0) != decide (b<0))=true by simp [ha,hb]]
  conv=>rhs;rw [ea,eb,Int.neg_tdiv]
  rw [if_pos rfl,key]
 ·rw [show (decide (a<0) != decide (b<0))=true by simp [ha,hb]]
  conv=>rhs;rw [ea,eb,Int.tdiv_neg]
  rw [if_pos rfl,key]
 rw [show (decide (a<0) != decide (b<0))=false by simp [ha,hb]]
 conv=>rhs;rw [ea,eb]
 exact key
theorem me (a b:Int):I5 (decide (a<0)) (a.natAbs % b.natAbs)=a.tmod b:=by
 have key:((a.natAbs % b.natAbs:Nat):Int)=(a.natAbs:Int).tmod (b.natAbs:Int):=by
  rw [X7 (by omega),Int.natCast_emod]
 unfold I5
 rcases Qi a with ⟨ha,ea⟩|⟨ha,ea⟩<;>rcases Qi b with ⟨hb,eb⟩|⟨hb,eb⟩
 ·rw [show decide (a<0)=true by simp [ha]]
  conv=>rhs;rw [ea,eb,mt,mu]
  rw [if_pos rfl,key]
 ·rw [show decide (a<0)=true by simp [ha]]
  conv=>rhs;rw [ea,eb,mt]
  rw [if_pos rfl,key]
 ·rw [show decide (a<0)=false by simp [ha]]
  conv=>rhs;rw [ea,eb,mu]
  exact key
 rw [show decide (a<0)=false by simp [ha]]
 conv=>rhs;rw [ea,eb]
 exact key
section
variable {a b:Int}
theorem zi (a0 : -9223372036854775808≤a) (a1:a≤9223372036854775807) (b0 : -9223372036854775808≤b) (b1:b≤9223372036854775807) (hb:(b==0)=false):Ex (decide (a<0) != decide (b<0)) (a.natAbs / b.natAbs)=Yt a b:=by
 have hb':b≠0:=by simpa using hb
 have e1:Yt a b=if ((a == -9223372036854775808)&&(b == -1))=true then (0,4) else (IntKind.i64.wrap (a.tdiv b),0):=by
  unfold Yt
  rw [if_neg (by rw [hb];simp)]
 rw [Kz,md,e1]
 by_cases h:a = -9223372036854775808∧b = -1
 ·obtain ⟨rfl,rfl⟩:=h
  rfl
 have e2:¬((a == -9223372036854775808)&&(b == -1))=true:=by simpa using h
 rw [if_neg e2]
 have hw:=md a b
 have hle:a.natAbs / b.natAbs≤a.natAbs:=Ws _ _
 have h2:2≤b.natAbs→a.natAbs / b.natAbs≤a.natAbs / 2:=fun h=>Nat.div_le_div_left h (by decide)
 have hr : -9223372036854775808≤a.tdiv b∧a.tdiv b≤9223372036854775807:=by
  unfold I5 at hw
  generalize a.tdiv b=q at *
  generalize a.natAbs / b.natAbs=z at *
  by_cases ha:a<0<;>by_cases hbn:b<0<;>simp [ha,hbn] at hw<;>omega
 rw [if_pos hr]
 congr 1
 rw [IntKind.wrap_i64]
 omega
theorem zj (a0 : -9223372036854775808≤a) (a1:a≤9223372036854775807) (b0 : -9223372036854775808≤b) (b1:b≤9223372036854775807) (hb:(b==0)=false):Ex (decide (a<0)) (a.natAbs % b.natAbs)=T8 a b:=by
 have hb':b≠0:=by simpa using hb
 have e1:T8 a b=if (b == -1)=true then (0,0) else (IntKind.i64.wrap (a.tmod b),0):=by
  unfold T8
  rw [if_neg (by rw [hb];simp)]
 rw [Kz,me,e1]
 have hw:=me a b
 have hlt:a.natAbs % b.natAbs<b.natAbs:=I8 _ (by omega)
 have hr : -9223372036854775808≤a.tmod b∧a.tmod b≤9223372036854775807:=by
  unfold I5 at hw
  generalize a.tmod b=q at *
  generalize a.natAbs % b.natAbs=z at *
  by_cases ha:a<0<;>simp [ha] at hw<;>omega
 rw [if_pos hr]
 by_cases h:b = -1
 ·rw [if_pos (by simp [h]),h]
  congr 1
  simp [mu]
 rw [if_neg (by simpa using h)]
 congr 1
 rw [IntKind.wrap_i64]
 omega
end
theorem AEm {a b:Int} {s s':Bool} (a0 : -9223372036854775808≤a) (a1:a≤9223372036854775807) (b0 : -9223372036854775808≤b) (b1:b≤9223372036854775807):(Tm s a.natAbs s' b.natAbs).2<B32 ^ 5:=by
 have:(Tm s a.natAbs s' b.natAbs).2≤a.natAbs+b.natAbs:=by
  unfold Tm hiW loW
  split
  ·exact Ao _
  simp only
  split<;>simp only<;>omega
 have h2:(36893488147419103232:Nat)≤B32 ^ 5:=by decide
 omega
end Go.SX.Nb
namespace Go.SX
variable [GI:GlobInv]
open Classical
section
variable {P:Program} {d:Nat} {st:St} {ty:TypeId} {pos:String} {aft:Array Edge} {gd:Option (Nat×Bool)}
/-- A variable of its own, not laid yet. -/
theorem AOp.allocP {t:TypeId} {z:Value} {k s:Nat} (hz:∀w,(zeroValue t).run P w=.ok z w) (hk:z.cells.size=k) (hs:s<st.sz):
  AOp P d ⟨some s,.alloc t,ty,pos,aft,gd⟩ st (·=st.set s (.cellp k)):=by
 subst hk
 intro G a w h Q'
 let G':Gh:={ G with tag:=fun b o=>if b=w.heap.size∧o<z.cells.size then .tail (.slot d s) else G.tag b o }
 have hfree:∀o,G.tag w.heap.size o=.free:=fun o=>Ft h.tags _ o (Ao _)
 have hne:∀b o,G.tag b o≠.free→¬(b=w.heap.size∧o<z.cells.size):=fun b o hb hc=>by rw [hc.1] at hb;exact hb (hfree o)
 have hkeep:∀b o,G.tag b o≠.free→G'.tag b o=G.tag b o:=fun b o hb=>by simp only [G'];rw [if_neg (hne b o hb)]
 have hcell:∀b o,G.tag b o≠.free→(w.alloc (.cells z.cells t)).cell? ⟨b,o,none⟩=w.cell? ⟨b,o,none⟩:=fun b o hb=>by
  refine World.cell?_alloc_old _ _ _ ?_
  show b≠w.heap.size
  rintro rfl
  exact hb (hfree o)
 have T:Turn G w G' (w.alloc (.cells z.cells t)):=by
  refine ⟨fun b o hb=>⟨by rw [hkeep b o (by rw [hb];simp)];exact hb,hcell b o (by rw [hb];simp)⟩,fun b o L hb=>by rw [hkeep b o (by rw [hb];simp)];exact hb,fun b o i hb=>by rw [hkeep b o (by rw [hb];simp)];exact hb,Ao _,fun o ho=>rfl,rfl,rfl,rfl,by simp,eg _ (fun b o hb=>.inl (by simp only [G'];rw [if_neg (by omega)])) (fun i hi=>.inl ⟨hi,rfl⟩)⟩
 have h1:StRel d G' st a (w.alloc (.cells z.cells t)):=by
  refine h.turn (U:=st.up) (O:=st.own) T ⟨fun i x hx=>T.objRel ?_ ?_ (h.heap.obj i x hx) (fun b hb=>?_),h.heap.n,h.heap.inj⟩ rfl h.defsAt ⟨fun b o hb=>?_,fun b o i hb=>?_,fun b o L hb=>?_,h.tags.globKeep T.old⟩ h.low
  ·rw [h.heap.n];exact (Ak.1 hx).1
  ·have:=(h.heap.obj i x hx).blt
   show (w.heap.push _)[G.blk i]? = _
   rw [Nz,if_neg (by omega)]
  ·have:=hb.lt
   show (w.heap.push _)[b]? = _
   rw [Nz,if_neg (by omega)]
  ·simp only [G'] at hb
   split at hb
   ·rename_i hc
    obtain ⟨rfl,hlt⟩:=hc
    exact ⟨z.cells[o],by rw [World.cell?_alloc_new];exact F7 hlt⟩
   rw [hcell b o hb]
   exact h.tags.ex b o hb
  ·simp only [G'] at hb
   split at hb
   ·cases hb
   rw [World.frozen?_alloc_old]
   ·exact h.tags.obj b o i hb
   show b≠w.heap.size
   rintro rfl
   rw [hfree] at hb;cases hb
  simp only [G'] at hb
  split at hb
  ·rename_i hc
   obtain ⟨rfl,hlt⟩:=hc
   exact World.frozen?_alloc_new _ _ _ _
  rw [World.frozen?_alloc_old]
  ·exact h.tags.tail b o L hb
  show b≠w.heap.size
  rintro rfl
  rw [hfree] at hb;cases hb
 have hrun:(execOp a.eval (⟨some s,.alloc t,ty,pos,aft,gd⟩:Oper)).run P w=.ok (.value (.pointer (some ⟨w.heap.size,0,none⟩))) (w.alloc (.cells z.cells t)):=by
  simp [execOp,Instr.alloc,hz,newVar,newRow]
 refine Dj (by intro c h;cases h) hrun ⟨G',_,h1.put (s:=s) (y:=.cellp z.cells.size) hs ?_,T.keep d,rfl,rfl,rfl,rfl⟩
 exact .cellp _ _ _ ⟨_,rfl,fun o ho=>by simp [G',ho]⟩

/-- It is laid: from now on nobody writes it. -/
theorem AOp.storeP {t:TypeId} {x:Operand} {r k:Nat} {y:AV} (hsz:∀w,(sizeOf t).run P w=.ok k w) (hf:st.fr r=.cellp k) (hx:st.ev x=y) (hk:y.cells.length=k) (hk0:0<k) (h1:y.cells.all AV.one=true):
  AOp P d ⟨none,.store t (.tmp r) x,ty,pos,aft,gd⟩ st (·=st.set r (.ro y.cells)):=by
 intro G a w h Q'
 have hone:∀c∈y.cells,c.one=true:=fun c hc=>Bj.1 h1 c hc
 obtain ⟨hc,hcc⟩:=(hx ▸ h.eval x).cells hone
 have hsl:=h.slots r
 rw [hf] at hsl
 generalize hv:a.tmps.getD r undef=v at hsl
 cases hsl with
 | cellp l k b ho =>
  obtain ⟨L,hL,ht⟩:=ho
  injection hL with hL
  subst hL
  let us:=(a.eval x).cells.toList
  have hul:us.length=k:=by simp only [us,Array.length_toList];omega
  have huone:∀u∈us,u.oneCell'=true:=fun u hu=>by
   obtain ⟨j,hj⟩:=Cr hu
   have hj':(a.eval x).cells[j]? = some u:=by rw [←Qz];exact hj
   have hlt:j<y.cells.length:=by rw [←hc];exact (Oc.1 hj').1
   exact (hcc j _ u (Ae hlt) hj').one (hone _ (Bb hlt))
  have hrun0:=run_storeCells_cells (P:=P) b 0 us 0 w (fun j hj=>by
    obtain ⟨u,hu⟩:=h.tags.ex b j (by rw [ht j (by omega)];simp)
    simp only [Nat.add_zero,C9];rw [hu];rfl) (fun j hj=>by simpa using h.tags.tail _ _ _ (ht j (by omega))) huone
  simp only [Nat.add_zero] at hrun0
  let W:=w.setCells b 0 us
  let G':Gh:={ G with tag:=fun b' o=>if b'=b∧o<k then .fix else G.tag b' o }
  have htag:∀b' o,G.tag b' o≠.tail (.slot d r)→G'.tag b' o=G.tag b' o:=fun b' o hb=>by
   simp only [G']
   rw [if_neg]
   rintro ⟨rfl,ho⟩
   exact hb (ht o ho)
  have hout:∀b' o,¬(b'=b∧o<k)→W.cell? ⟨b',o,none⟩=w.cell? ⟨b',o,none⟩:=fun b' o hn =>
   World.cell?_setCells_out _ us 0 w ⟨b',o,none⟩ (fun hb _=>by
    simp only at hb ⊢
    exact .inr (Sb fun h''=>hn ⟨hb,by omega⟩))
  have hcell:∀b' o,G.tag b' o≠.tail (.slot d r)→W.cell? ⟨b',o,none⟩=w.cell? ⟨b',o,none⟩:=fun b' o hb=>hout b' o (fun hn=>hb (by rw [hn.1];exact ht o hn.2))
  have hnb:∀i,i<G.n→G.blk i≠b:=O1 h.heap h.tags (ht 0 hk0)
  have hheap:∀b',b'≠b→W.heap[b']? = w.heap[b']? := fun b' hb=>E3 _ _ _ _ _ hb
  have hsize:W.heap.size=w.heap.size:=E2 _ _ _ _
  have hstill:Still G w G' W:=L1 (fun b' hb'=>hheap b' (fun e=>Kc (ht 0 hk0) (e ▸ hb'))) (Jt hsize.symm) (fun b' o _=>by
   by_cases hc:b'=b∧o<k
   ·exact .inr ⟨_,by rw [hc.1];exact ht o hc.2⟩
   exact .inl (by simp only [G'];rw [if_neg hc])) (fun i hi=>.inl ⟨hi,rfl⟩)
  have hfix:∀b' o,G.tag b' o=.fix→G'.tag b' o=.fix∧W.cell? ⟨b',o,none⟩=w.cell? ⟨b',o,none⟩:=fun b' o hb=>⟨by rw [htag b' o (by rw [hb];simp)];exact hb,hcell b' o (by rw [hb];simp)⟩
  have htail:∀b' o L,L≠.slot d r→G.tag b' o=.tail L→G'.tag b' o=.tail L:=fun b' o L hL hb=>by
   rw [htag b' o (by rw [hb];intro e;injection e with e;exact hL e)];exact hb
  have hobj:∀b' o i,G.tag b' o=.obj i→G'.tag b' o=.obj i:=fun b' o i hb=>by rw [htag b' o (by rw [hb];simp)];exact hb
  have hrep:∀{l:Option Loc} {z:AV} {u:Value},l≠some (.slot d r)→Rep G w l z u→Rep G' W l z u:=fun hl hz =>
   hz.mono (G':=G') hfix (Ao _) (fun _ _=>rfl) (fun L hL b' o ht'=>htail b' o L (fun e=>hl (by rw [hL,e])) ht')
  have hkeep:Keep d G w G' W:=⟨hfix,fun b' o e s he ht'=>htail b' o _ (by rintro ⟨⟩;omega) ht',Ao _,fun _ _=>rfl,H8 _ _ _ _,Fy _ _ _ _,Eu _ _ _ _,Jt hsize.symm,hstill⟩
  have hvec:∀j u,us[j]? = some u→W.cell? ⟨b,j,none⟩=some u:=fun j u hu=>by
   have hj:=(Ak.1 hu).1
   have hex:∃u',w.cell? ⟨b,j,none⟩=some u':=h.tags.ex b j (by rw [ht j (by omega)];simp)
   obtain ⟨u',hu'⟩:=hex
   have hbk:∃vs e fz,w.heap[b]? = some (.cells vs e fz):=by
    simp only [World.cell?] at hu'
    split at hu'
    ·rename_i vs e fz hb;exact ⟨vs,e,fz,hb⟩
    cases hu'
   obtain ⟨vs,e,fz,hbk⟩:=hbk
   have hlen:0+us.length≤vs.size:=by
    rw [hul,C9]
    rcases Bn vs.size k with h'|h'
    ·exfalso
     obtain ⟨u2,hu2⟩:=h.tags.ex b vs.size (by rw [ht _ h'];simp)
     simp [World.cell?,hbk] at hu2
    exact h'
   obtain ⟨vs',b1,b2,b3⟩:=L4 b e fz us 0 w vs hbk hlen
   have b3':=b3 j
   rw [if_pos (by omega)] at b3'
   show (w.setCells b 0 us).cell? ⟨b,j,none⟩=some u
   simp only [World.cell?,b1]
   rw [b3',Nat.sub_zero]
   exact hu
  have hst:StRel d G' (st.set r (.ro y.cells)) a W:=by
   refine ⟨h.size,fun s=>?_,⟨fun i z hz=>?_,h.heap.n,h.heap.inj⟩,h.defs,h.defsAt,h.defsNodup,h.defsGe,⟨fun b' o hb=>?_,fun b' o i hb=>?_,fun b' o L hb=>?_,h.tags.globKeep hstill⟩,h.rnd,h.low,h.top⟩
   ·show Rep G' W _ (Aa r (.ro y.cells) st.fr s) _
    unfold Aa
    by_cases hs:s=r
    ·subst hs
     rw [if_pos rfl,hv]
     refine .ro _ _ ⟨b,0,none⟩ (fun j=>(a.eval x).cells.getD j undef) rfl hone (fun j c hj=>?_) (fun j c hj=>?_)
     all_goals
      have hlt:j<y.cells.length:=(Ak.1 hj).1
      have hu:(a.eval x).cells[j]? = some ((a.eval x).cells[j]'(by omega)):=F7 _
      have e1:(a.eval x).cells.getD j undef=(a.eval x).cells[j]'(by omega):=by rw [Ny,hu];rfl
      rw [e1]
     ·refine ⟨by simp only [G',C9];rw [if_pos ⟨trivial,by omega⟩],?_⟩
      rw [C9]
      exact hvec j _ (by simp only [us];rw [Qz];exact hu)
     exact hrep (by simp) (hcc j c _ hj hu)
    rw [if_neg hs]
    exact hrep (by simp;exact fun e=>hs e) (h.slots s)
   ·have hob:=h.heap.obj i z hz
    have hi:i<G.n:=by rw [h.heap.n];exact (Ak.1 hz).1
    have hb:=hheap (G.blk i) (hnb i hi)
    cases z with
    | cells t cs =>
     obtain ⟨vs,a1,a2,a3,a4⟩:=hob
     exact ⟨vs,hb.trans a1,a2,fun j y u p q=>hrep (by simp) (a3 j y u p q),fun j hj=>hobj _ _ _ (a4 j hj)⟩
    | loop sta pd fr sz ps asg bd df =>
     obtain ⟨fn,tmps,a1,a2,a3,a4⟩:=hob
     exact ⟨fn,tmps,hb.trans a1,a2,fun s=>hrep (by simp) (a3 s),a4⟩
    | defs=>exact hb.trans hob
    | dead=>exact hb.trans hob
    | bld t e bs=>exact BldRel.turn hob rfl (fun b' o ho=>hobj b' o i ho) hb (fun b' ha=>hheap b' (fun e=>by
      have:=ha.tag h.tags (o:=0) (by rw [e,ht 0 hk0];simp)
      rw [e,ht 0 hk0] at this;cases this))
    | gone =>
     obtain ⟨vs,t,fz,a1,a2⟩:=hob
     exact ⟨vs,t,fz,hb.trans a1,fun j hj=>(hfix _ _ (a2 j hj)).1⟩
   ·by_cases hc:b'=b∧o<k
    ·obtain ⟨rfl,ho⟩:=hc
     exact ⟨us[o]'(by omega),hvec o _ (Ae _)⟩
    rw [hout b' o hc]
    simp only [G',if_neg hc] at hb
    exact h.tags.ex b' o hb
   ·rw [World.frozen?_setCells]
    simp only [G'] at hb
    split at hb
    ·cases hb
    exact h.tags.obj b' o i hb
   rw [World.frozen?_setCells]
   simp only [G'] at hb
   split at hb
   ·cases hb
   exact h.tags.tail b' o L hb
  have hrun:(execOp a.eval (⟨none,.store t (.tmp r) x,ty,pos,aft,gd⟩:Oper)).run P w=.ok .skip W:=
   Ha hsz (show a.eval (.tmp r)=_ from hv) (by omega) hrun0
  exact Hn (by intro c h;cases h) hrun ⟨G',_,hst,hkeep,rfl,rfl,rfl,rfl⟩
end
section
variable {P:Program} {d:Nat} {sz:Nat} {dfs:List Nat} {rnd:Option Nat} {l0:List Oper} {up own:(Nat→Bool)→List AObj} {KP:List PanicEntry→St→Prop} {E:List Oper→(Nat→AV)→Prop} {S:List SegY} {l:List Oper} {fr:Nat→AV} {ty:TypeId} {pos:String} {aft:Array Edge} {s:Nat} {T F:List Nat}
theorem Y.allocP {t:TypeId} {z:Value} {k:Nat} (hz:∀w,(zeroValue t).run P w=.ok z w) (h:ChainY P d l0 sz up own dfs rnd KP E S l (Aa s (.cellp k) fr)) (hk:z.cells.size=k:=by rfl) (hs:Nat.blt s sz=true:=by rfl):
  ChainY P d l0 sz up own dfs rnd KP E (.s [s] none T F::S) (⟨some s,.alloc t,ty,pos,aft,none⟩::l) fr:=by
 refine ⟨_,l,[(s,.cellp k)],rfl,⟨rfl,rfl,fun B f _ _ _ hf=>.of ?_⟩,h⟩
 exact AOp.allocP (st:=⟨sz,f,up B,own B,dfs,rnd⟩) hz hk (by simpa using hs)
theorem Y.storeP {t:TypeId} {x:Operand} {r k:Nat} {y:AV} {ys:List AV} (hsz:∀w,(Go.sizeOf t).run P w=.ok k w) (h:ChainY P d l0 sz up own dfs rnd KP E S l (Aa r (.ro ys) fr))
  (hf:fr r=.cellp k:=by exact sL0) (hx:Bm fr x=y:=by exact sL0) (hc:y.cells=ys:=by exact sL0)
  (hk:ys.length=k:=by rfl) (hk0:0<k:=by decide) (h1:ys.all AV.one=true:=by exact sL2):
  ChainY P d l0 sz up own dfs rnd KP E (.s [r] none T F::S) (⟨none,.store t (.tmp r) x,ty,pos,aft,none⟩::l) fr:=by
 subst hc
 refine ⟨_,l,[(r,.ro y.cells)],rfl,⟨rfl,rfl,fun B f _ _ _ hfr=>.of ?_⟩,h⟩
 have e:f r=fr r:=hfr r (by simp [lk,el,Op.operands])
 have ex:Bm f x=y:=by rw [agr hfr (by simp [Op.operands])];exact hx
 exact AOp.storeP (st:=⟨sz,f,up B,own B,dfs,rnd⟩) hsz (e.trans hf) ex hk hk0 h1
end
end Go.SX
