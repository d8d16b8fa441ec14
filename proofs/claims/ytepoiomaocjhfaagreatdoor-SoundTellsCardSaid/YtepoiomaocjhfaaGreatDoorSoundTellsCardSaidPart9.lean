/- Texts on the way to this: SoundTells answers true for whatever it is handed: which move is the first that is not sound and why, the columns behind it, and what is lost, are as the reference tells. (part 9) -/
import Derived.Lib.ParseIntBTie
import Derived.Shelf.Strings.Builder1
import Derived.Lib.ItoaLen
import Derived.Test.YtepoiomaocjhfaaGreatDoorSoundTellsCardSaidPart8
set_option linter.all false
namespace Go.SX.Nb
open Go Go.SX Go.Proofs
variable [ErrAt]
set_option maxRecDepth 4000
theorem c36 (l : List Col) (hl : l.length ≤ 1000000) (Hp : List AObj) : AFun Tryz.prog 36 [A8 l] Hp (A8 l) := by
 refine ACall.body [.tmp 2] [0] Tryz.func36 Tryz.ntmps36 (fun d => ?_)
 refine Z40 ?_;refine Z32 ?_
 refine R.eqlNil jU (by kernel_rfl) (fun b hb => ?_)
 refine R.fin [0, 4] ?_
 refine W.cond (fun ht4 => ?_) (fun ht4 => ?_)
 ·have hl0 : l = [] := by simpa using hb ht4
  subst hl0
  refine Z2 ?_;refine R.nilTmp 2 2 false ?_;refine Z3 ?_;refine K.thR ?_;exact K.fin (V.one V.tmp) ⟨rfl, rfl⟩
 refine Z5 ?_;refine Z92 ?_;refine R.go ?_
 refine R.append jU Tryz.type58 ?_ ?_ ?_
 ·simp [Tryz.t58]; omega
 ·simp [Tryz.t58]; omega
 refine Hy ?_;refine Z3 ?_;exact K.fin (V.one V.tmp) ⟨rfl, rfl⟩

theorem jl {Hp : List AObj} {y : Col} {n : Nat} (h : ∀ x ∈ Hp, ObjLow Hp.length x) : ∀ x ∈ Hp ++ [AObj.cells 58 [], AObj.cells 58 (A6 y.name :: A2 y.kind :: List.replicate n AV.any)], ObjLow (Hp.length + 2) x := by
 intro x hx
 rcases List.mem_append.1 hx with hx | hx
 ·exact ObjLow.le (by omega) (h x hx)
 simp only [List.mem_cons, List.mem_nil_iff, or_false] at hx
 rcases hx with rfl | rfl
 ·intro z hz; cases hz
 intro z hz
 simp only [List.mem_cons] at hz
 rcases hz with rfl | rfl | hz
 ·simp
 ·simp
 rw [List.eq_of_mem_replicate hz]; simp
theorem y9 (y : Col) (Hp : List AObj) : ACallO Tryz.prog 36 [A8 [y]] Hp (fun r H' => ∃ cc, 1 ≤ cc ∧ r = .sl (oid Hp.length 1) 2 1 cc ∧ H' = Hp ++ [.cells 58 [], .cells 58 (A6 y.name :: A2 y.kind :: List.replicate ((cc - 1) * 2) AV.any)]) := by
 refine ACallO.body [.tmp 2] [0] Tryz.func36 Tryz.ntmps36 (fun d => ?_)
 refine Z40 ?_;refine Z69 ?_
 refine R.assumeLow (fun hlow => ?_)
 refine R.go ?_
 refine R.eqlNil jU (by kernel_rfl) (fun b hb => ?_)
 refine R.fin [0, 4] ?_
 refine W.cond (fun ht4 => ?_) (fun ht4 => ?_)
 ·exact absurd (hb ht4) (by simp)
 refine Z5 ?_;refine Cs ?_;refine R.buildObj0 (n := 0) jU Tryz.sizeOf58 ?_;refine R.go ?_
 refine R.appendObj (k := 2) (n := 1) jU Tryz.type58 (show [Ag y] ≠ [] by simp) ?_ ?_ (fun cc hcc => ?_)
 ·simp [Tryz.t58]
 ·simp
 have e0 : H7 [Ag y] ++ List.replicate ((cc - [Ag y].length) * 2) AV.any = A6 y.name :: A2 y.kind :: List.replicate ((cc - 1) * 2) AV.any := rfl
 rw [e0]
 clear e0
 refine R.go ?_;refine Z3 ?_;exact K.finO 2 (V.tmp (t := 2)) ⟨cc, hcc, rfl, rfl⟩ (hlow := by simp [oid]) (hobj := jl hlow)

theorem ve (c : List Col) (hc : OkCols c) (m : Mov) (h : OkMov m) (h3 : (m.kind == 3) = false) (Hp : List AObj) : AFun Tryz.prog 94 [A8 c, Cv m] Hp (A8 (Af c m)) := by
 refine ACall.body [.tmp 4] [0, 1] Tryz.func94 Tryz.ntmps94 (fun d => ?_)
 refine We ?_;refine Z1 ?_;refine R.call Tryz.call36 (c36 m.give h.gives2 _) ?_;refine R.go ?_;refine l9 ?_;refine R.fin [0, 3, 5, 12] ?_
 refine W.cond (fun ht12 => ?_) (fun ht12 => ?_)
 ·rw [h3] at ht12; cases ht12
 refine Lk ?_;exact sd

theorem vf (c : List Col) (hc : OkCols c) (m : Mov) (h : OkMov m) (h3 : (m.kind == 3) = true) (s : Str) (y : Col) (ht : m.take = [s]) (hg : m.give = [y]) (Hp : List AObj) : AFun Tryz.prog 94 [A8 c, Cv m] Hp (A8 (Af c m)) := by
 have hgv := Zb (c := c) h3 ht hg
 have hgy := V8 (c := c) h3 ht hg
 obtain ⟨kd, tk, gv, ah, bk⟩ := m
 simp only at ht hg h3
 subst ht hg
 refine ACall.body [.tmp 4] [0, 1] Tryz.func94 Tryz.ntmps94 (fun d => ?_)
 refine We ?_;refine Z1 ?_;refine R.callO Tryz.call36 (y9 y _) ?_
 rintro _ _ ⟨cc, hcc, rfl, rfl⟩
 refine ⟨[.cells 58 [], .cells 58 (A6 y.name :: A2 y.kind :: List.replicate ((cc - 1) * 2) AV.any)], by simp, ?_⟩
 simp only [List.append_nil, List.nil_append]
 refine R.go ?_;refine l9 ?_;refine R.fin [0, 3, 5, 12] ?_
 refine W.cond (fun ht12 => ?_) (fun ht12 => ?_)
 ·refine Z20 ?_
  refine R.gw (h := Q.indexAddr (0) (A6 s) (fun _ => rfl)) (hr := ?_)
  refine R.go ?_;refine R.call Tryz.call59 (c59 c hc s _) ?_;refine R.go ?_;refine R.fin [0, 5, 6] ?_;refine Z1 ?_;refine R.fin [0, 5, 6, 20] ?_
  refine W.cond (fun ht20 => ?_) (fun ht20 => ?_)
  ·have hf : ¬ Ar s c < 0 := by simp at ht20; omega
   obtain ⟨jj, hjj, hjc⟩ := Gn hf
   refine Z30 ?_
   refine R.gw (h := Q.indexAddr ((Ar s c).toNat) (Ag (c.getD (Ar s c).toNat ⟨[], 0⟩)) (fun _ => Nd hf)) (hr := ?_)
   refine Z0 ?_;refine R.indexAddrSl (n := 1) 0 jU Tryz.sizeOf58 (by decide) ?_
   refine R.gw (h := Q.fieldAddrPtr (hc := rfl)) (hr := ?_)
   refine R.storeOwn (y := A2 (c.getD (Ar s c).toNat ⟨[], 0⟩).kind) (ys := [A2 (c.getD (Ar s c).toNat ⟨[], 0⟩).kind]) (n := 1) (cs := A6 y.name :: A2 y.kind :: List.replicate ((cc - 1) * 2) AV.any) (cs' := A6 y.name :: A2 (c.getD (Ar s c).toNat ⟨[], 0⟩).kind :: List.replicate ((cc - 1) * 2) AV.any) (t' := 58) jS ?_ (hc := rfl) (hput := rfl) (hfit := by simp)
   refine R.fin [5] ?_;refine K.thN ?_;refine Z73 ?_;exact l7
  have hf : Ar s c < 0 := by simp at ht20; omega
  refine Z5 ?_;refine rq ?_;exact l7
 rw [h3] at ht12; cases ht12

/-- What a move must have before it is turned. -/
structure MvOk (m : Mov) : Prop where
 ok : OkMov m
 ahead : m.ahead.length = m.give.length
 back : m.back.length = m.take.length
 one : (m.kind == 3) = true → m.take.length = 1 ∧ m.give.length = 1
theorem n5 {m : Mov} (h : OkMov m) (hc : Cp m = true) : MvOk m := ⟨h, (Gm hc).1, (Gm hc).2, fun h3 => Im hc (by rw [h3]; rfl)⟩
theorem c94 (c : List Col) (hc : OkCols c) (m : Mov) (h : MvOk m) (Hp : List AObj) : AFun Tryz.prog 94 [A8 c, Cv m] Hp (A8 (Af c m)) := by
 cases h3 : m.kind == 3 with
 | false => exact ve c hc m h.ok h3 Hp
 | true =>
  obtain ⟨h1, h2⟩ := h.one h3
  obtain ⟨s, hs⟩ := Su h1
  obtain ⟨y, hy⟩ := Su h2
  exact vf c hc m h.ok h3 s y hs hy Hp
theorem c67 (c : List Col) (hc : OkCols c) (m : Mov) (h : MvOk m) (Hp : List AObj) : AFun Tryz.prog 67 [A8 c, Cv m] Hp (A8 (Af c m)) := by
 cases h3 : m.kind == 3 with
 | false => exact y7 c hc m h.ok h3 Hp
 | true =>
  obtain ⟨h1, h2⟩ := h.one h3
  obtain ⟨s, hs⟩ := Su h1
  obtain ⟨y, hy⟩ := Su h2
  exact y8 c hc m h.ok h3 s y hs hy Hp
theorem P6 {c : List Col} {m : Mov} (h : OkMov m) : OkCols (Af c m) := by
 refine ⟨by rw [G7]; exact Nat.le_trans h.gives2 (by decide), fun y hy => ?_⟩
 unfold Af at hy
 split at hy
 ·split at hy
  ·exact h.gives.2 y hy
  cases hg : m.give with
  | nil => rw [hg] at hy; cases hy
  | cons z r =>
   rw [hg] at hy
   rcases List.mem_cons.1 hy with rfl | hy
   ·exact h.gives.2 z (by rw [hg]; exact List.mem_cons_self)
   exact h.gives.2 y (by rw [hg]; exact List.mem_cons_of_mem _ hy)
 exact h.gives.2 y hy
theorem P7 {c give : List Col} {take : List Str} (hc : OkCols c) (hg : OkCols give) (hg2 : give.length ≤ 1000000) : OkCols (Bi c take give).1 := by
 have h0 : OkCols ([] : List Col) := ⟨by decide, fun y hy => by cases hy⟩
 unfold Bi
 split
 ·exact h0
 rename_i hr
 split
 ·exact h0
 split
 ·exact h0
 split
 ·exact h0
 split
 ·exact h0
 exact Xi hc (by simpa using hr) hg hg2 rfl
theorem P8 {c give : List Col} {take : List Str} (h : ((Bi c take give).2 != 0) = false) : ∀ s ∈ take, ¬ Ar s c < 0 := by
 have ht : Dj c take = true := by
  unfold Bi at h
  split at h
  ·cases h
  split at h
  ·cases h
  rename_i ht
  simpa using ht
 intro s hs hf
 obtain ⟨j, hj⟩ := List.getElem?_of_mem hs
 have := takenM_true.1 ht j s hj
 unfold E9 at this
 rw [show decide (Ar s c < 0) = true by simpa using hf] at this
 simp at this
theorem M4 {over : List Col} {l : List Expr} {w : List Col} {x : Nat} (hl : x < l.length) (hw : x < w.length) :
  Bn over (l.drop x) (w.drop x) = if Jd l[x] over w[x].kind != 0 then Jd l[x] over w[x].kind else Bn over (l.drop (x + 1)) (w.drop (x + 1)) := by
 rw [List.drop_eq_getElem_cons hl, List.drop_eq_getElem_cons hw]
 rfl
theorem P9 {over : List Col} {l : List Expr} {w : List Col} {x : Nat} (hl : l.length ≤ x) : Bn over (l.drop x) (w.drop x) = 0 := by
 rw [List.drop_eq_nil_of_le hl]
 cases w.drop x <;> rfl
theorem cu {α β : Type} {f : α → β} {l : List α} {x : Nat} (h : x < l.length) : (l.take (x + 1)).map f = (l.take x).map f ++ [f l[x]] := by
 rw [List.take_succ_eq_append_getElem h, List.map_append]; rfl
theorem Zd {c : List Col} {m : Mov} (h : ((Bi c m.take (Af c m)).2 != 0) = true) : Av c m = ([], (Bi c m.take (Af c m)).2) := if_pos h
theorem Ze {c : List Col} {m : Mov} (h : ((Bi c m.take (Af c m)).2 != 0) = false) (h2 : (Bn c m.ahead (Af c m) != 0) = true) : Av c m = ([], Bn c m.ahead (Af c m)) := by
 unfold Av; rw [if_neg (by rw [h]; simp), if_pos h2]
theorem Zf {c : List Col} {m : Mov} (h : ((Bi c m.take (Af c m)).2 != 0) = false) (h2 : (Bn c m.ahead (Af c m) != 0) = false) (h3 : (Bn (Bi c m.take (Af c m)).1 m.back (Eh c m) != 0) = true) : Av c m = ([], Bn (Bi c m.take (Af c m)).1 m.back (Eh c m)) := by
 unfold Av; rw [if_neg (by rw [h]; simp), if_neg (by rw [h2]; simp), if_pos h3]
theorem Zg {c : List Col} {m : Mov} (h : ((Bi c m.take (Af c m)).2 != 0) = false) (h2 : (Bn c m.ahead (Af c m) != 0) = false) (h3 : (Bn (Bi c m.take (Af c m)).1 m.back (Eh c m) != 0) = false) : Av c m = ((Bi c m.take (Af c m)).1, 0) := by
 unfold Av; rw [if_neg (by rw [h]; simp), if_neg (by rw [h2]; simp), if_neg (by rw [h3]; simp)]
theorem c96 (l : List Expr) (h : OkEs l) (w : List Col) (hw : w.length = l.length) (c : List Col) (hc : OkCols c) (Hp : List AObj) : AFun Tryz.prog 96 [Gy l, A8 w, A8 c] Hp (A2 (Bn c l w)) := by
 refine ACall.body [.tmp 6] [0, 1, 2] Tryz.func96 Tryz.ntmps96 (fun d => ?_)
 refine Z2 ?_;refine R.fin [0, 1, 2] ?_;refine Z36 ?_;refine R.fin [1, 2, 11, 12, 13] ?_
 refine AW.loopC (α := Nat) (fun x => ⟨37, A3 1 (A8 w) (A3 2 (A8 c) (A3 11 (Gy l) (A3 12 (A2 (l.length : Nat)) (A3 13 (A2 (x : Nat)) (fun _ => .any))))), Hp, [], [], none⟩) (fun x => x ≤ l.length ∧ Bn c l w = Bn c (l.drop x) (w.drop x)) (fun x => l.length - x) (0) ⟨Nat.zero_le _, rfl⟩ (StLe.of_eq (by simp)) rfl (fun x hx => ?_)
 refine Z2 ?_;refine R.fin [1, 2, 11, 12, 13, 14] ?_
 refine W.condX (fun ht14 => ?_) (fun ht14 => ?_)
 ·have hlt : x < l.length := by simpa using ht14
  have hlw : x < w.length := by omega
  have hlen := h.len
  have hst := M4 (over := c) hlt hlw
  refine S7 ?_
  refine R.gw (h := Q.indexAddr (x) (A4 l[x]) (fun _ => Ac hlt)) (hr := ?_)
  refine R.go ?_;refine ay ?_;refine R.fin [1, 2, 7, 8, 11, 12, 13] ?_;refine Z8 ?_;refine R.call Tryz.call60 (c60 61 l[x] (h.ok _ (List.getElem_mem hlt)) (by decide) c hc _) ?_;refine Z77 ?_;refine R.fin [1, 2, 7, 8, 10, 11, 12, 13] ?_;refine Z1 ?_;refine R.fin [1, 2, 7, 8, 10, 11, 12, 13, 25] ?_
  refine W.cond (fun ht25 => ?_) (fun ht25 => ?_)
  ·have he : Jd l[x] c w[x].kind = (Cr l[x] c).2 := if_pos ht25
   have hm : Bn c l w = (Cr l[x] c).2 := by rw [hx.2, hst, he, if_pos ht25]
   refine Z1 ?_;refine fg ?_;exact Z57
  refine Z5 ?_;refine W.drawQ [0, 0, 0, 0, 12, 28, 60, 127, 255] 7 Aa (by kernel_rfl) ?_;refine Ki ?_
  refine D.gw (h := Q.indexAddr (x) (Ag w[x]) (fun _ => Ac hlw)) (hr := ?_)
  refine b8 ?_;refine R.call Tryz.call32 (c32 61 l[x] (h.ok _ (List.getElem_mem hlt)) (by decide) c hc w[x].kind _) ?_;refine R.go ?_;refine R.fin [1, 2, 11, 12, 13, 35] ?_
  refine W.cond (fun ht35 => ?_) (fun ht35 => ?_)
  ·have he : Jd l[x] c w[x].kind = 10 := by unfold Jd; rw [if_neg (by rw [ht25]; simp), if_pos ht35]
   have hm : Bn c l w = 10 := by rw [hx.2, hst, he]; rfl
   refine Z2 ?_;refine Z88 ?_;exact Z57
  have he : Jd l[x] c w[x].kind = 0 := by unfold Jd; rw [if_neg (by rw [ht25]; simp), if_neg (by rw [ht35]; simp)]
  have hnx : Bn c l w = Bn c (l.drop (x + 1)) (w.drop (x + 1)) := by rw [hx.2, hst, he]; rfl
  refine Js ?_;refine R.fin [1, 2, 11, 12, 13] ?_;refine K.lpN (x + 1) ⟨hlt, hnx⟩ (by omega) ?_
  exact StCut.take (own := []) (fun _ => .refl _) (by repeat (first | exact At | refine As (by first | (simp [or_imp, forall_and]; done) | exact Cu) ?_)) (by simp) (by simp)
 have hxe : l.length ≤ x := by simpa using ht14
 have hm : Bn c l w = 0 := by rw [hx.2, P9 hxe]
 refine Z28 ?_;refine Z2 ?_;exact td

theorem c97 (c : List Col) (hc : OkCols c) (m : Mov) (h : OkMov m) (hf : ∀ s ∈ m.take, ¬ Ar s c < 0) (Hp : List AObj) : AFun Tryz.prog 97 [A8 c, Cv m] Hp (A8 (Eh c m)) := by
 refine ACall.body [.tmp 4] [0, 1] Tryz.func97 Tryz.ntmps97 (fun d => ?_)
 refine We ?_;refine Z2 ?_;refine R.fin [0, 3, 5] ?_;refine Z69 ?_;refine R.nilSl 5 2 ?_;refine Z67 ?_;refine R.fin [0, 5, 9, 10, 11] ?_
 refine AW.loopC (α := Nat) (fun x => ⟨26, A3 0 (A8 c) (A3 5 (.slice true 2 (((m.take.take x).map fun s => c.getD (Ar s c).toNat ⟨[], 0⟩).map Ag)) (A3 9 (C4 m.take) (A3 10 (A2 (m.take.length : Nat)) (A3 11 (A2 (x : Nat)) (fun _ => .any))))), Hp, [], [], none⟩) (fun x => x ≤ m.take.length) (fun x => m.take.length - x) (0) (Nat.zero_le _) (StLe.of_eq (by simp)) rfl (fun x hx => ?_)
 refine Z2 ?_;refine R.fin [0, 5, 9, 10, 11, 12] ?_
 refine W.condX (fun ht12 => ?_) (fun ht12 => ?_)
 ·have hlt : x < m.take.length := by simpa using ht12
  have htk := h.takes
  have hfx := hf _ (List.getElem_mem hlt)
  obtain ⟨jj, hjj, hjc⟩ := Gn hfx
  refine N1 ?_
  refine R.gw (h := Q.indexAddr (x) (A6 m.take[x]) (fun _ => Ac hlt)) (hr := ?_)
  refine Z0 ?_;refine R.fin [0, 5, 7, 9, 10, 11] ?_;refine Z82 ?_;refine Z24 ?_;refine R.call Tryz.call59 (c59 c hc m.take[x] _) ?_
  refine R.gw (h := Q.indexAddr ((Ar m.take[x] c).toNat) (Ag (c.getD (Ar m.take[x] c).toNat ⟨[], 0⟩)) (fun _ => Nd hfx)) (hr := ?_)
  refine Z70 ?_
  refine R.append jU Tryz.type58 ?_ ?_ ?_
  ·simp only [List.length_map, List.length_take, List.length_cons, List.length_nil, Tryz.t58]; omega
  ·simp only [List.length_map, List.length_take, List.length_cons, List.length_nil, Tryz.t58]; omega
  refine Hy ?_;refine R.fin [0, 5, 9, 10, 11] ?_;refine Pn ?_;refine R.fin [0, 5, 9, 10, 11] ?_
  refine K.lpN (x + 1) hlt (by omega) (StCut.of_eq ?_)
  rw [cu hlt, List.map_append]
  rfl
 have hxe : m.take.length ≤ x := by simpa using ht12
 refine Z28 ?_;refine S6 ?_;exact K.fin (V.one V.tmp) ⟨by unfold Eh; rw [List.take_of_length_le hxe] <;> rfl, rfl⟩ (hlow := El)

theorem c65 (c : List Col) (hc : OkCols c) (m : Mov) (h : MvOk m) (Hp : List AObj) : AFun Tryz.prog 65 [A8 c, Cv m] Hp (.tup [A8 (Av c m).1, A2 (Av c m).2]) := by
 refine ACall.body [.tmp 4, .tmp 5] [0, 1] Tryz.func65 Tryz.ntmps65 (fun d => ?_)
 refine Z20 ?_;refine Ib ?_;refine Z1 ?_;refine R.call Tryz.call94 (c94 c hc m h _) ?_;refine R.go ?_;refine R.fin [0, 3, 6] ?_;refine Cs ?_
 have hg := P6 (c := c) h.ok
 have hg2 : (Af c m).length ≤ 1000000 := by rw [G7]; exact h.ok.gives2
 refine Z67 ?_;refine R.call Tryz.call95 (c95 c hc m.take h.ok.takes (Af c m) hg hg2 _) ?_;refine Z77 ?_;refine R.fin [0, 3, 6, 7, 8] ?_;refine Z8 ?_;refine R.fin [0, 3, 6, 7, 8, 23] ?_
 refine W.cond (fun ht23 => ?_) (fun ht23 => ?_)
 ·have hm := Zd ht23
  exact fj
 refine Z5 ?_;refine Z54 ?_;refine R.call Tryz.call96 (c96 m.ahead h.ok.ahead (Af c m) (by rw [G7, h.ahead]) c hc _) ?_;refine R.go ?_;refine R.fin [0, 3, 7, 9] ?_;refine Z1 ?_;refine R.fin [0, 3, 7, 9, 31] ?_
 refine W.cond (fun ht31 => ?_) (fun ht31 => ?_)
 ·have hm := Ze ht23 ht31
  exact fj
 refine Z5 ?_;refine W.seq ?_;refine W.drawQ [0, 1, 0, 0, 12, 0, 63, 127] 6 Aa (by kernel_rfl) ?_;refine Ki ?_;refine D.call Tryz.call97 (c97 c hc m h.ok (P8 ht23) _) ?_;refine Wf ?_;refine R.call Tryz.call96 (c96 m.back h.ok.back (Eh c m) (by rw [Eh, List.length_map, h.back]) (Bi c m.take (Af c m)).1 (P7 hc hg hg2) _) ?_;refine R.go ?_;refine R.fin [7, 10] ?_;refine Z1 ?_;refine R.fin [7, 10, 41] ?_
 refine W.cond (fun ht41 => ?_) (fun ht41 => ?_)
 ·have hm := Zf ht23 ht31 ht41
  exact fj
 have hm := Zg ht23 ht31 ht41
 refine Li ?_;exact lc

theorem c39 (c : List Col) (hc : OkCols c) (m : Mov) (h : MvOk m) (Hp : List AObj) : AFun Tryz.prog 39 [A8 c, Cv m] Hp (.tup [A8 (Av c m).1, A2 (Av c m).2]) := by
 refine ACall.body [.tmp 4, .tmp 5] [0, 1] Tryz.func39 Tryz.ntmps39 (fun d => ?_)
 refine Z20 ?_;refine Ib ?_;refine Z1 ?_;refine R.call Tryz.call67 (c67 c hc m h _) ?_;refine R.go ?_;refine R.fin [0, 3, 6] ?_;refine Cs ?_
 have hg := P6 (c := c) h.ok
 have hg2 : (Af c m).length ≤ 1000000 := by rw [G7]; exact h.ok.gives2
 have hgl := G7 c m
 have hah := h.ahead
 have hbk := h.back
 have htk := h.ok.takes
 refine Z67 ?_;refine R.call Tryz.call68 (c68 c hc m.take h.ok.takes (Af c m) hg hg2 _) ?_;refine Z77 ?_;refine R.fin [0, 3, 6, 7, 8] ?_;refine Z8 ?_;refine R.fin [0, 3, 6, 7, 8, 25] ?_
 refine W.cond (fun ht25 => ?_) (fun ht25 => ?_)
 ·have hm := Zd ht25
  exact fj
 have hfd := P8 ht25
 refine Z99 ?_;refine R.fin [0, 3, 6, 7, 9] ?_
 refine AW.loopC (α := Nat) (fun x => ⟨77, A3 0 (A8 c) (A3 3 (.ro (Jc m)) (A3 6 (A8 (Af c m)) (A3 7 (A8 (Bi c m.take (Af c m)).1) (A3 9 (A2 (x : Nat)) (fun _ => .any))))), Hp, [], [], none⟩) (fun x => x ≤ (Af c m).length ∧ Bn c m.ahead (Af c m) = Bn c (m.ahead.drop x) ((Af c m).drop x)) (fun x => (Af c m).length - x) (0) ⟨Nat.zero_le _, rfl⟩ (StLe.of_eq (by simp)) rfl (fun x hx => ?_)
 refine Z54 ?_;refine R.fin [0, 3, 6, 7, 9, 30] ?_
 refine W.cond (fun ht30 => ?_) (fun ht30 => ?_)
 ·have hlt : x < (Af c m).length := by simpa using ht30
  have hla : x < m.ahead.length := by omega
  have hst := M4 (over := c) hla hlt
  refine Z39 ?_;refine W.drawQ [0, 1, 0, 7, 15, 0, 0, 96, 224, 480, 0, 2047, 4095] 11 Aa (by kernel_rfl) ?_;refine Z55 ?_
  refine D.gw (h := Q.indexAddr (x) (A4 m.ahead[x]) (fun _ => Ac hla)) (hr := ?_)
  refine Z55 ?_
  refine D.gw (h := Q.indexAddr (x) (Ag (Af c m)[x]) (fun _ => Ac hlt)) (hr := ?_)
  refine Z55 ?_;refine D.tail ?_;refine R.call Tryz.call69 (c69 61 m.ahead[x] (h.ok.ahead.ok _ (List.getElem_mem hla)) (by decide) (h.ok.ahead.size _ (List.getElem_mem hla)) (Af c m)[x].kind c hc _) ?_;refine R.go ?_;refine R.fin [0, 3, 6, 7, 9, 10] ?_;refine Z1 ?_;refine R.fin [0, 3, 6, 7, 9, 10, 46] ?_
  refine W.cond (fun ht46 => ?_) (fun ht46 => ?_)
  ·have hf1 : Bn c m.ahead (Af c m) = Jd m.ahead[x] c (Af c m)[x].kind := by rw [hx.2, hst, if_pos ht46]
   have hm := Ze ht25 (by rw [hf1]; exact ht46)
   rw [hf1] at hm
   refine Z1 ?_;refine ow ?_;refine Z17 ?_;exact sb
  have hnx : Bn c m.ahead (Af c m) = Bn c (m.ahead.drop (x + 1)) ((Af c m).drop (x + 1)) := by rw [hx.2, hst, if_neg (by rw [ht46]; simp)]
  refine Z61 ?_;refine R.fin [0, 3, 6, 7, 9] ?_;exact K.lpN (x + 1) ⟨hlt, hnx⟩ (by omega) (StCut.of_eq rfl)
 have hxe : (Af c m).length ≤ x := by simpa using ht30
 have hf1 : Bn c m.ahead (Af c m) = 0 := by rw [hx.2, P9 (by omega)]
 refine Z42 ?_;refine Z32 ?_;refine R.fin [0, 3, 7, 11] ?_
 refine AW.loopC (α := Nat) (fun k => ⟨77, A3 0 (A8 c) (A3 3 (.ro (Jc m)) (A3 7 (A8 (Bi c m.take (Af c m)).1) (A3 11 (A2 (k : Nat)) (fun _ => .any)))), Hp, [], [], none⟩) (fun k => k ≤ m.take.length ∧ Bn (Bi c m.take (Af c m)).1 m.back (Eh c m) = Bn (Bi c m.take (Af c m)).1 (m.back.drop k) ((Eh c m).drop k)) (fun k => m.take.length - k) (0) ⟨Nat.zero_le _, rfl⟩ (StLe.of_eq (by simp)) rfl (fun k hk => ?_)
 refine Kk ?_;refine R.fin [0, 3, 7, 11, 52] ?_
 refine W.cond (fun ht52 => ?_) (fun ht52 => ?_)
 ·have hkt : k < m.take.length := by simpa using ht52
  have hkb : k < m.back.length := by omega
  have hfx := hfd _ (List.getElem_mem hkt)
  obtain ⟨jj, hjj, hjc⟩ := Gn hfx
  have hkc : k < (Eh c m).length := by rw [Eh, List.length_map]; exact hkt
  have htc : (Eh c m)[k] = c.getD (Ar m.take[k] c).toNat ⟨[], 0⟩ := by simp only [Eh, List.getElem_map]
  have hst := M4 (over := (Bi c m.take (Af c m)).1) hkb hkc
  rw [htc] at hst
  refine Z39 ?_;refine W.drawQ [0, 1, 0, 7, 15, 0, 0, 0, 128, 0, 896, 1920, 4032, 8160, 16352, 32736, 0, 131071, 262143] 17 Aa (by kernel_rfl) ?_;refine Z55 ?_
  refine D.gw (h := Q.indexAddr (k) (A4 m.back[k]) (fun _ => Ac hkb)) (hr := ?_)
  refine Ki ?_;refine Z14 ?_
  refine D.gw (h := Q.indexAddr (k) (A6 m.take[k]) (fun _ => Ac hkt)) (hr := ?_)
  refine D.go ?_;refine D.call Tryz.call50 (c50 c hc m.take[k] _) ?_
  refine D.gw (h := Q.indexAddr ((Ar m.take[k] c).toNat) (Ag (c.getD (Ar m.take[k] c).toNat ⟨[], 0⟩)) (fun _ => Nd hfx)) (hr := ?_)
  refine Z55 ?_;refine D.tail ?_;refine R.call Tryz.call69 (c69 61 m.back[k] (h.ok.back.ok _ (List.getElem_mem hkb)) (by decide) (h.ok.back.size _ (List.getElem_mem hkb)) (c.getD (Ar m.take[k] c).toNat ⟨[], 0⟩).kind (Bi c m.take (Af c m)).1 (P7 hc hg hg2) _) ?_;refine R.go ?_;refine R.fin [0, 3, 7, 11, 12] ?_;refine Z1 ?_;refine R.fin [0, 3, 7, 11, 12, 74] ?_
  refine W.cond (fun ht74 => ?_) (fun ht74 => ?_)
  ·have hf2 := hk.2.trans hst
   rw [if_pos ht74] at hf2
   have hm := Zf ht25 (by rw [hf1]; rfl) (by rw [hf2]; exact ht74)
   rw [hf2] at hm
   refine Z1 ?_;refine ow ?_;refine Z17 ?_;exact sb
  have hnx := hk.2.trans hst
  rw [if_neg (by rw [ht74]; simp)] at hnx
  refine Z61 ?_;refine R.fin [0, 3, 7, 11] ?_;exact K.lpN (k + 1) ⟨hkt, hnx⟩ (by omega) (StCut.of_eq rfl)
 have hke : m.take.length ≤ k := by simpa using ht52
 have hm := Zg ht25 (by rw [hf1]; rfl) (by rw [hk.2, P9 (by omega)]; rfl)
 refine Z42 ?_;refine Z20 ?_;exact sk

def L2 {α : Type} (p : α → Bool) (l : List α) : Int := if l.any p then (l.findIdx p : Int) else -1
theorem jm {α : Type} {p : α → Bool} {l : List α} {i : Nat} (h : i < l.length) (hn : p l[i] = true) (hp : ∀ (j : Nat) (y : α), j < i → l[j]? = some y → p y = false) : (i : Int) = L2 p l := by
 unfold L2
 rw [if_pos (List.any_eq_true.2 ⟨_, List.getElem_mem h, hn⟩)]
 congr 1
 refine (List.findIdx_eq h |>.2 ⟨hn, fun j hj => ?_⟩).symm
 exact hp j (l[j]'(by omega)) hj (List.getElem?_eq_getElem (by omega))
theorem Xr {α : Type} {p : α → Bool} {l : List α} (h : l.any p = false) : (-1 : Int) = L2 p l := by
 unfold L2
 rw [if_neg (by rw [h]; simp)]
theorem cv {α : Type} (p : α → Bool) (l : List α) : decide (0 ≤ L2 p l) = l.any p := by
 unfold L2
 cases l.any p <;> simp
def Io (s : Str) : Bool := !(Bd s)
def Gz (e : Expr) : Bool := !(Ao e)
theorem Vb {m : Mov} (h : (((m.ahead.length : Int) != (m.give.length : Int)) || ((m.back.length : Int) != (m.take.length : Int))) = true) : Cp m = false := if_pos h
theorem Vc {m : Mov} (h : (((m.ahead.length : Int) != (m.give.length : Int)) || ((m.back.length : Int) != (m.take.length : Int))) = false) : Cp m = if m.kind == 1 then ((m.take.length : Int) == 0) && ((m.give.length : Int) == 1)
 else if m.kind == 2 then ((m.take.length : Int) == 1) && ((m.give.length : Int) == 0)
 else if (m.kind == 3) || (m.kind == 6) then ((m.take.length : Int) == 1) && ((m.give.length : Int) == 1)
 else if m.kind == 4 then ((m.take.length : Int) == 1) && decide ((1 : Int) < (m.give.length : Int))
 else if m.kind == 5 then decide ((1 : Int) < (m.take.length : Int)) && ((m.give.length : Int) == 1)
 else false := if_neg (by rw [h]; simp)
theorem yb (m : Mov) (Hp : List AObj) : AFun Tryz.prog 125 [Cv m] Hp (Aj (Cp m)) := by
 refine ACall.body [.tmp 2] [0] Tryz.func125 Tryz.ntmps125 (fun d => ?_)
 refine Z81 ?_;refine W.drawQ [0, 1, 3, 0, 8, 24, 7, 127] 7 Aa (by kernel_rfl) ?_;refine Ki ?_;refine Z55 ?_;refine D.tail ?_;refine R.go ?_;refine S9 ?_;refine Z69 ?_
 simp only [List.length_map]
 refine Z67 ?_;refine Z62 ?_;refine Z68 ?_;refine R.fin [1, 3, 4, 22] ?_
 refine W.cond (fun ht22 => ?_) (fun ht22 => ?_)
 ·simp only [List.length_map] at ht22
  have hm := Vb ht22
  exact kz
 simp only [List.length_map] at ht22
 have hn := Vc ht22
 refine Z5 ?_;refine Z8 ?_;refine R.fin [3, 4, 24] ?_;refine Ns ?_;refine R.fin [3, 4, 24, 25] ?_
 refine W.cond (fun ht25 => ?_) (fun ht25 => ?_)
 ·refine Nx ?_;refine Tt ?_;exact K.fin (V.one V.tmp) ⟨by rw [hn]; first | (simp only [ht22, ht25, hk3, hk6, Bool.true_or, Bool.false_or, Bool.or_true, Bool.or_false, if_true, if_false, Bool.false_eq_true, ↓reduceIte] <;> rfl) | (simp only [ht22, ht25, hk3, Bool.true_or, Bool.false_or, Bool.or_true, if_true, if_false, Bool.false_eq_true, ↓reduceIte] <;> rfl) | (simp only [ht22, ht25, if_true, if_false, Bool.false_eq_true, ↓reduceIte] <;> rfl), rfl⟩
 refine Z1 ?_;refine R.fin [3, 4, 24, 33] ?_
 refine W.cond (fun ht33 => ?_) (fun ht33 => ?_)
 ·refine Nx ?_;refine Tt ?_;exact K.fin (V.one V.tmp) ⟨by rw [hn]; first | (simp only [ht22, ht25, ht33, hk3, hk6, Bool.true_or, Bool.false_or, Bool.or_true, Bool.or_false, if_true, if_false, Bool.false_eq_true, ↓reduceIte] <;> rfl) | (simp only [ht22, ht25, ht33, hk3, Bool.true_or, Bool.false_or, Bool.or_true, if_true, if_false, Bool.false_eq_true, ↓reduceIte] <;> rfl) | (simp only [ht22, ht25, ht33, if_true, if_false, Bool.false_eq_true, ↓reduceIte] <;> rfl), rfl⟩
 refine Z8 ?_;refine R.fin [3, 4, 24, 41] ?_
 refine W.cond (fun ht41 => ?_) (fun ht41 => ?_)
 ·have hk3 := ht41
  refine Z5 ?_
  refine W.cond (fun ht41 => ?_) (fun ht41 => ?_)
  ·refine Nx ?_;refine Z38 ?_;exact Z48
  rw [hk3] at ht41; cases ht41
 have hk3 := ht41
 refine Z12 ?_;refine R.fin [3, 4, 24, 41] ?_;refine K.thN ?_
 refine W.cond (fun ht41 => ?_) (fun ht41 => ?_)
 ·have hk6 := ht41
  refine Nx ?_;refine Z38 ?_;exact Z48
 have hk6 := ht41
 refine Z1 ?_;refine R.fin [3, 4, 24, 50] ?_
 refine W.cond (fun ht50 => ?_) (fun ht50 => ?_)
 ·refine Nx ?_;refine Tt ?_;exact K.fin (V.one V.tmp) ⟨by rw [hn]; first | (simp only [ht22, ht25, ht33, ht41, ht41, ht50, hk3, hk6, Bool.true_or, Bool.false_or, Bool.or_true, Bool.or_false, if_true, if_false, Bool.false_eq_true, ↓reduceIte] <;> rfl) | (simp only [ht22, ht25, ht33, ht41, ht41, ht50, hk3, Bool.true_or, Bool.false_or, Bool.or_true, if_true, if_false, Bool.false_eq_true, ↓reduceIte] <;> rfl) | (simp only [ht22, ht25, ht33, ht41, ht41, ht50, if_true, if_false, Bool.false_eq_true, ↓reduceIte] <;> rfl), rfl⟩
 refine Z1 ?_;refine R.fin [3, 4, 58] ?_
 refine W.cond (fun ht58 => ?_) (fun ht58 => ?_)
 ·refine Nx ?_;refine Tt ?_;exact u5
 refine Z15 ?_;refine Z22 ?_;exact u5

theorem yd (s : Str) (hs : s.length ≤ 1048576) (Hp : List AObj) : AFun Tryz.prog 128 [A6 s] Hp (Aj (Io s)) := by
 refine ACall.body [.tmp 2] [0] Tryz.func128 Tryz.ntmps128 (fun d => ?_)
 refine Z40 ?_;refine Z2 ?_;refine R.call Tryz.call108 (gq s hs _) ?_;exact Wc

theorem ye (e : Expr) (hok : okE 61 e) (Hp : List AObj) : AFun Tryz.prog 126 [A4 e] Hp (Aj (Gz e)) := by
 refine ACall.body [.tmp 2] [0] Tryz.func126 Tryz.ntmps126 (fun d => ?_)
 refine Z81 ?_;refine Z2 ?_;refine R.call Tryz.call44 (c44 61 e hok (by decide) _) ?_;exact Wc

theorem yf (l : List Str) (hl : l.length ≤ 1048576) (hn : ∀ s ∈ l, s.length ≤ 1048576) (Hp : List AObj) : AFun Tryz.prog 163 [C4 l, .fn (.func 128) [] []] Hp (A2 (L2 Io l)) := by
 refine ACall.body [.tmp 4] [0, 1] Tryz.func163 Tryz.ntmps163 (fun d => ?_)
 refine Z52 ?_;refine ff ?_
 refine AW.loopC (α := Nat) (fun x => ⟨19, A3 0 (C4 l) (A3 1 (.fn (.func 128) [] []) (A3 7 (A2 l.length) (A3 8 (A2 (x : Nat)) (fun _ => .any)))), Hp, [], [], none⟩) (fun x => x ≤ l.length ∧ ∀ (j : Nat) y, j < x → l[j]? = some y → Io y = false) (fun x => l.length - x) (0) ⟨Nat.zero_le _, fun j y h => by omega⟩ (StLe.of_eq (by simp)) rfl (fun x hx => ?_)
 refine f8 ?_
 refine W.condX (fun ht9 => ?_) (fun ht9 => ?_)
 ·have hlt : x < l.length := by simpa using ht9
  refine Z18 ?_;refine Z1 ?_;refine f6 ?_
  refine R.gw (h := Q.indexAddr (x) (A6 l[x]) (fun _ => Ac hlt)) (hr := ?_)
  refine R.go ?_;refine R.callV Tryz.call128 (yd l[x] (hn _ (List.getElem_mem hlt)) _) ?_;refine g0 ?_
  refine W.cond (fun ht16 => ?_) (fun ht16 => ?_)
  ·refine S6 ?_;exact oz
  refine Js ?_;exact Z96
 have hxe : l.length ≤ x := by simpa using ht9
 refine Z28 ?_;exact ov

theorem c127 (l : List Str) (hl : l.length ≤ 1048576) (hn : ∀ s ∈ l, s.length ≤ 1048576) (Hp : List AObj) : AFun Tryz.prog 127 [C4 l, .fn (.func 128) [] []] Hp (Aj (l.any Io)) := by
 refine ACall.body [.tmp 4] [0, 1] Tryz.func127 Tryz.ntmps127 (fun d => ?_)
 refine Z52 ?_;refine Z1 ?_;refine R.call Tryz.call163 (yf l hl hn _) ?_;refine Z0 ?_;exact pc

theorem vg (l : List Expr) (hl : l.length ≤ 1048576) (hn : ∀ e ∈ l, okE 61 e) (Hp : List AObj) : AFun Tryz.prog 111 [Gy l, .fn (.func 126) [] []] Hp (A2 (L2 Gz l)) := by
 refine ACall.body [.tmp 4] [0, 1] Tryz.func111 Tryz.ntmps111 (fun d => ?_)
 refine Z52 ?_;refine ff ?_
 refine AW.loopC (α := Nat) (fun x => ⟨19, A3 0 (Gy l) (A3 1 (.fn (.func 126) [] []) (A3 7 (A2 l.length) (A3 8 (A2 (x : Nat)) (fun _ => .any)))), Hp, [], [], none⟩) (fun x => x ≤ l.length ∧ ∀ (j : Nat) y, j < x → l[j]? = some y → Gz y = false) (fun x => l.length - x) (0) ⟨Nat.zero_le _, fun j y h => by omega⟩ (StLe.of_eq (by simp)) rfl (fun x hx => ?_)
 refine f8 ?_
 refine W.condX (fun ht9 => ?_) (fun ht9 => ?_)
 ·have hlt : x < l.length := by simpa using ht9
  refine Z18 ?_;refine Z1 ?_;refine f6 ?_
  refine R.gw (h := Q.indexAddr (x) (A4 l[x]) (fun _ => Ac hlt)) (hr := ?_)
  refine R.go ?_;refine R.callV Tryz.call126 (ye l[x] (hn _ (List.getElem_mem hlt)) _) ?_;refine g0 ?_
  refine W.cond (fun ht16 => ?_) (fun ht16 => ?_)
  ·refine S6 ?_;exact oz
  refine Js ?_;exact Z96
 have hxe : l.length ≤ x := by simpa using ht9
 refine Z28 ?_;exact ov

theorem od (l : List Expr) (hl : l.length ≤ 1048576) (hn : ∀ e ∈ l, okE 61 e) (Hp : List AObj) : AFun Tryz.prog 76 [Gy l, .fn (.func 126) [] []] Hp (Aj (l.any Gz)) := by
 refine ACall.body [.tmp 4] [0, 1] Tryz.func76 Tryz.ntmps76 (fun d => ?_)
 refine Z52 ?_;refine Z1 ?_;refine R.call Tryz.call111 (vg l hl hn _) ?_;refine Z0 ?_;exact pc

theorem n6 (s : Str) (Hp : List AObj) : AFun Tryz.prog 130 [A6 s] Hp (A4 (Bw s)) := by
 refine ACall.body [.cell 2 45] [0] Tryz.func130 Tryz.ntmps130 (fun d => ?_)
 refine Z60 ?_;refine Z2 ?_;refine si ?_;refine R.nilCell 0 5 6 ?_;refine Z3 ?_;exact K.fin (V.one (V.cellN jA jS)) ⟨by rw [Ab]; rfl, rfl⟩

theorem Vd {m : Mov} {c : Col} : (((!(Bd c.name)) || (!((Ax c.kind == []) == (m.kind == 3)))) || ((m.kind == 3) && (c.kind != 0))) = !F9 m c := by
 unfold F9
 cases Bd c.name <;> cases (Ax c.kind == ([] : Str)) <;> cases (m.kind == 3) <;> cases (c.kind != 0) <;> rfl
theorem rc {m : Mov} (h : (!(Cp m)) = true) : Do m = false := by
 have : Cp m = false := by simpa using h
 unfold Do; rw [this]; rfl
theorem rd {m : Mov} {c : Col} (hc : c ∈ m.give) (h : F9 m c = false) : Do m = false := by
 have : m.give.all (F9 m) = false := List.all_eq_false.2 ⟨c, hc, by rw [h]; simp⟩
 unfold Do; rw [this]; simp
theorem re {m : Mov} (h : ((m.take.any Io || m.ahead.any Gz) || m.back.any Gz) = true) : Do m = false := by
 unfold Do
 rw [show Io = fun s => !(Bd s) from rfl, show Gz = fun e => !(Ao e) from rfl, Ea, Ea, Ea] at h
 cases h1 : m.take.all Bd <;> cases h2 : m.ahead.all Ao <;> cases h3 : m.back.all Ao <;> simp_all
theorem n7 {m : Mov} (h1 : Cp m = true) (h2 : m.give.all (F9 m) = true) (h : ((m.take.any Io || m.ahead.any Gz) || m.back.any Gz) = false) : Do m = Gl m := by
 unfold Do
 rw [show Io = fun s => !(Bd s) from rfl, show Gz = fun e => !(Ao e) from rfl, Ea, Ea, Ea] at h
 rw [h1, h2]
 cases h1 : m.take.all Bd <;> cases h2 : m.ahead.all Ao <;> cases h3 : m.back.all Ao <;> simp_all
theorem Hu {α β : Type} {f : α → β} {l : List α} {d : α} (h : 0 < l.length) : (l.map f)[0]? = some (f (l.getD 0 d)) := by
 rw [List.getElem?_map, List.getElem?_eq_getElem h, List.getD_eq_getElem?_getD, List.getElem?_eq_getElem h]
 rfl
theorem He {α : Type} {l : List α} {d : α} (h : 0 < l.length) : l.getD 0 d ∈ l := by
 rw [List.getD_eq_getElem?_getD, List.getElem?_eq_getElem h]
 exact List.getElem_mem h
theorem jn {m : Mov} (h : (m.kind == 3) = true) : Gl m = (eqE (m.ahead.getD 0 Ap) (Bw (m.take.getD 0 [])) && eqE (m.back.getD 0 Ap) (Bw (m.give.getD 0 ⟨[], 0⟩).name)) := if_pos h
theorem jo {m : Mov} (h : (m.kind == 3) = false) (h6 : (m.kind == 6) = true) : Gl m = (m.take.getD 0 [] == (m.give.getD 0 ⟨[], 0⟩).name) := by unfold Gl; rw [if_neg (by rw [h]; simp), if_pos h6]
theorem jp {m : Mov} (h : (m.kind == 3) = false) (h6 : (m.kind == 6) = false) : Gl m = true := by unfold Gl; rw [if_neg (by rw [h]; simp), if_neg (by rw [h6]; simp)]
theorem c93 (m : Mov) (h : OkMov m) (Hp : List AObj) : AFun Tryz.prog 93 [Cv m] Hp (Aj (Do m)) := by
 refine ACall.body [.tmp 2] [0] Tryz.func93 Tryz.ntmps93 (fun d => ?_)
 refine Z81 ?_;refine Z32 ?_;refine R.call Tryz.call125 (yb m _) ?_;refine R.go ?_;refine R.fin [1, 8] ?_
 refine W.cond (fun ht8 => ?_) (fun ht8 => ?_)
 ·have hm := rc ht8
  exact fk
 have hct : Cp m = true := by simpa using ht8
 refine Z5 ?_;refine Z54 ?_;refine R.fin [1, 10, 11, 12] ?_
 refine AW.loopC (α := Nat) (fun x => ⟨95, A3 1 (.ro (Jc m)) (A3 10 (A8 m.give) (A3 11 (A2 (m.give.length : Nat)) (A3 12 (A2 (x : Nat)) (fun _ => .any)))), Hp, [], [], none⟩) (fun x => x ≤ m.give.length ∧ ∀ (j : Nat) (y : Col), j < x → m.give[j]? = some y → (!F9 m y) = false) (fun x => m.give.length - x) (0) ⟨Nat.zero_le _, fun j y h => by omega⟩ (StLe.of_eq (by simp)) rfl (fun x hx => ?_)
 refine Z2 ?_;refine R.fin [1, 10, 11, 12, 13] ?_
 refine W.condX (fun ht13 => ?_) (fun ht13 => ?_)
 ·have hlt : x < m.give.length := by simpa using ht13
  have hgl := h.gives2
  refine N1 ?_
  refine R.gw (h := Q.indexAddr (x) (Ag m.give[x]) (fun _ => Ac hlt)) (hr := ?_)
  refine Nt ?_;refine R.fin [1, 4, 10, 11, 12] ?_;refine W.drawQ [0, 1, 3, 7, 15, 31, 63, 127, 255, 31, 543, 1567, 4095, 8191, 16383, 32767, 65535, 131071, 262143, 524287, 1048575, 2097151, 4194303, 8388607] 12 Aa (by kernel_rfl) ?_;refine Z14 ?_;refine D.call Tryz.call108 (gq m.give[x].name (h.gives.2 _ (List.getElem_mem hlt)) _) ?_;refine Z14 ?_;refine Z65 ?_;refine H.call Tryz.call70 (fun hB => c70 m.give[x].kind _) ?_;refine Z65 ?_;refine Z65 ?_;refine fu ?_;refine Z62 ?_;refine Z7 ?_;refine Nv ?_;refine R.fin [1, 10, 11, 12, 39] ?_
  refine W.cond (fun ht39 => ?_) (fun ht39 => ?_)
  ·rw [Vd] at ht39
   have hm := rd (List.getElem_mem hlt) (by simpa using ht39)
   exact pg
  rw [Vd] at ht39
  refine Js ?_;refine R.fin [1, 10, 11, 12] ?_;refine K.lpN (x + 1) ⟨hlt, Aw hlt hx.2 ht39⟩ (by omega) ?_
  exact StCut.take (own := []) (fun _ => .refl _) (by repeat (first | exact At | refine As (by first | (simp [or_imp, forall_and]; done) | exact El | exact low_ro.2 Sr) ?_)) (by simp) (by simp)
 have hxe : m.give.length ≤ x := by simpa using ht13
 have hga : m.give.all (F9 m) = true := by have := E6 hxe hx.2; rw [Ea] at this; simpa using this
 refine Z28 ?_;refine Z2 ?_;refine R.fin [1, 5] ?_;refine Z8 ?_;refine R.call Tryz.call127 (c127 m.take h.takes h.names _) ?_;refine R.go ?_;refine Kj ?_;refine G.call Tryz.call76 (fun hB => od m.ahead h.ahead.len h.ahead.ok _) ?_;refine Z56 ?_;refine G.call Tryz.call76 (fun hB => od m.back h.back.len h.back.ok _) ?_;refine R.go ?_;refine R.fin [1, 55] ?_
 refine W.cond (fun ht55 => ?_) (fun ht55 => ?_)
 ·have hm := re ht55
  exact fk
 have hm0 := n7 hct hga ht55
 refine Z5 ?_;refine Z8 ?_;refine R.fin [1, 57] ?_;refine Ns ?_;refine R.fin [1, 57, 58] ?_
 refine W.cond (fun ht58 => ?_) (fun ht58 => ?_)
 ·obtain ⟨hl1, hl2⟩ := Im hct (by rw [ht58]; simp)
  obtain ⟨hl3, hl4⟩ := Gm hct
  have g1 := Hu (f := A4) (l := m.ahead) (d := Ap) (by omega)
  have g2 := Hu (f := A4) (l := m.back) (d := Ap) (by omega)
  have g3 := Hu (f := A6) (l := m.take) (d := []) (by omega)
  have g4 := Hu (f := Ag) (l := m.give) (d := ⟨[], 0⟩) (by omega)
  have ok1 := h.ahead.ok _ (He (l := m.ahead) (d := Ap) (by omega))
  have ok2 := h.back.ok _ (He (l := m.back) (d := Ap) (by omega))
  have hm := hm0.trans (jn ht58)
  refine W.drawQ [0, 1, 3, 7, 0, 16, 48, 112, 240, 511, 1023, 2047, 4095, 8191, 16383, 2047, 34815, 100351, 231423, 493567, 1017855, 2097151, 4194303, 8388607] 21 Aa (by kernel_rfl) ?_;refine Z14 ?_
  refine D.gw (h := Q.indexAddr (0) (A4 (m.ahead.getD 0 Ap)) (fun _ => g1)) (hr := ?_)
  refine Z55 ?_
  refine D.gw (h := Q.indexAddr (0) (A6 (m.take.getD 0 [])) (fun _ => g3)) (hr := ?_)
  refine D.go ?_;refine D.call Tryz.call130 (n6 (m.take.getD 0 []) _) ?_;refine D.call Tryz.call129 (v8 61 (m.ahead.getD 0 Ap) ok1 (Bw (m.take.getD 0 [])) _) ?_;refine D.go ?_;refine Z65 ?_
  refine H.gw (h := Q.indexAddr (0) (A4 (m.back.getD 0 Ap)) (fun _ => g2)) (hr := ?_)
  refine S4 ?_
  refine H.gw (h := Q.indexAddr (0) (Ag (m.give.getD 0 ⟨[], 0⟩)) (fun _ => g4)) (hr := ?_)
  refine Z65 ?_;refine H.call Tryz.call130 (fun hB => n6 (m.give.getD 0 ⟨[], 0⟩).name _) ?_;refine D.tail ?_;refine G.call Tryz.call129 (fun hB => v8 61 (m.back.getD 0 Ap) ok2 (Bw (m.give.getD 0 ⟨[], 0⟩).name) _) ?_;exact ss
 refine Z1 ?_;refine R.fin [1, 83] ?_
 refine W.cond (fun ht83 => ?_) (fun ht83 => ?_)
 ·obtain ⟨hl1, hl2⟩ := Im hct (by rw [ht83]; simp)
  obtain ⟨hl3, hl4⟩ := Gm hct
  have g1 := Hu (f := A4) (l := m.ahead) (d := Ap) (by omega)
  have g2 := Hu (f := A4) (l := m.back) (d := Ap) (by omega)
  have g3 := Hu (f := A6) (l := m.take) (d := []) (by omega)
  have g4 := Hu (f := Ag) (l := m.give) (d := ⟨[], 0⟩) (by omega)
  have ok1 := h.ahead.ok _ (He (l := m.ahead) (d := Ap) (by omega))
  have ok2 := h.back.ok _ (He (l := m.back) (d := Ap) (by omega))
  have hm := hm0.trans (jo ht58 ht83)
  refine sy ?_
  refine D.gw (h := Q.indexAddr (0) (A6 (m.take.getD 0 [])) (fun _ => g3)) (hr := ?_)
  refine Z55 ?_
  refine D.gw (h := Q.indexAddr (0) (Ag (m.give.getD 0 ⟨[], 0⟩)) (fun _ => g4)) (hr := ?_)
  refine b8 ?_;exact ss
 have hm := hm0.trans (jp ht58 ht83)
 refine Z15 ?_;refine Z22 ?_;exact gb

def cw (m : Mov) : Bool := !(Do m)
theorem n8 (l : List Mov) : (decide ((l.length : Int) ≤ 8) && !(l.any cw)) = Il l := by
 unfold Il
 rw [show cw = fun m => !(Do m) from rfl, Ea]
 simp
theorem c92 (m : Mov) (h : OkMov m) (Hp : List AObj) : AFun Tryz.prog 92 [Cv m] Hp (Aj (cw m)) := by
 refine ACall.body [.tmp 2] [0] Tryz.func92 Tryz.ntmps92 (fun d => ?_)
 refine Z81 ?_;refine Z2 ?_;refine R.call Tryz.call93 (c93 m h _) ?_;exact Wc

theorem yg (l : List Mov) (h : OkMovs l) (Hp : List AObj) : AFun Tryz.prog 124 [C5 l, .fn (.func 92) [] []] Hp (A2 (L2 cw l)) := by
 refine ACall.body [.tmp 4] [0, 1] Tryz.func124 Tryz.ntmps124 (fun d => ?_)
 refine Z52 ?_;refine ff ?_
 refine AW.loopC (α := Nat) (fun x => ⟨19, A3 0 (C5 l) (A3 1 (.fn (.func 92) [] []) (A3 7 (A2 l.length) (A3 8 (A2 (x : Nat)) (fun _ => .any)))), Hp, [], [], none⟩) (fun x => x ≤ l.length ∧ ∀ (j : Nat) (y : Mov), j < x → l[j]? = some y → cw y = false) (fun x => l.length - x) (0) ⟨Nat.zero_le _, fun j y h => by omega⟩ (StLe.of_eq (by simp)) rfl (fun x hx => ?_)
 refine f8 ?_
 refine W.condX (fun ht9 => ?_) (fun ht9 => ?_)
 ·have hlt : x < l.length := by simpa using ht9
  have hlen := h.len
  refine Z18 ?_;refine Z1 ?_;refine f6 ?_
  refine R.gw (h := Q.indexAddr (x) (Cv l[x]) (fun _ => Ac hlt)) (hr := ?_)
  refine R.go ?_;refine R.callV Tryz.call92 (c92 l[x] (h.each _ (List.getElem_mem hlt)) _) ?_;refine g0 ?_
  refine W.cond (fun ht16 => ?_) (fun ht16 => ?_)
  ·refine S6 ?_;exact oz
  refine Js ?_;exact Z96
 have hxe : l.length ≤ x := by simpa using ht9
 refine Z28 ?_;exact ov

theorem c91 (l : List Mov) (h : OkMovs l) (Hp : List AObj) : AFun Tryz.prog 91 [C5 l, .fn (.func 92) [] []] Hp (Aj (l.any cw)) := by
 refine ACall.body [.tmp 4] [0, 1] Tryz.func91 Tryz.ntmps91 (fun d => ?_)
 refine Z52 ?_;refine Z1 ?_;refine R.call Tryz.call124 (yg l h _) ?_;refine Z0 ?_;exact pc

theorem c63 (l : List Mov) (h : OkMovs l) (Hp : List AObj) : AFun Tryz.prog 63 [C5 l] Hp (Aj (Il l)) := by
 refine ACall.body [.tmp 2] [0] Tryz.func63 Tryz.ntmps63 (fun d => ?_)
 refine Z40 ?_;refine Z45 ?_;refine G.go ?_;refine G.call Tryz.call91 (fun hB => c91 l h _) ?_;refine G.go ?_;refine Z38 ?_;exact K.fin (V.one V.tmp) ⟨by rw [← n8, List.length_map], rfl⟩

theorem c34 (c : List Col) (hc : OkCols c) (l : List Mov) (h : OkMovs l) (Hp : List AObj) : AFun Tryz.prog 34 [A8 c, C5 l] Hp (Aj (Fa c l)) := by
 refine ACall.body [.tmp 4] [0, 1] Tryz.func34 Tryz.ntmps34 (fun d => ?_)
 refine Z52 ?_;refine Z2 ?_;refine R.call Tryz.call19 (c19 c hc _) ?_;refine ba ?_;refine G.call Tryz.call63 (fun hB => c63 l h _) ?_;refine Z0 ?_;refine Z23 ?_;exact K.fin (V.one V.tmp) ⟨by unfold Fa; rw [Kv], rfl⟩

theorem cx {Hp : List AObj} {c : List Col} (h : ∀ x ∈ Hp, ObjLow Hp.length x) : ∀ x ∈ Hp ++ [AObj.cells 22 [A8 c]], ObjLow (Hp.length + 1) x := by
 intro x hx
 rcases List.mem_append.1 hx with hx | hx
 ·exact ObjLow.le (by omega) (h x hx)
 rw [List.mem_singleton.1 hx]
 intro z hz
 rw [List.mem_singleton.1 hz]
 exact El
theorem c35 (c : List Col) (l : List Mov) (Hp : List AObj) : ACallO Tryz.prog 35 [A8 c, C5 l] Hp (fun r H' => r = .fn (.func 64) [] [.ro [C5 l], .ptr (oid Hp.length 0) 0] ∧ H' = Hp ++ [.cells 22 [A8 c]]) := by
 refine ACallO.body [.tmp 4] [0, 1] Tryz.func35 Tryz.ntmps35 (fun d => ?_)
 refine fw ?_;refine Z0 ?_;refine Fl ?_;refine Cs ?_
 refine R.assumeLow (fun hlow => ?_)
 refine Ja ?_;refine R.go ?_;refine Z23 ?_;exact K.finO 1 (V.tmp (t := 4)) ⟨rfl, rfl⟩ (hlow := by simp [oid, or_imp, forall_and]; exact ⟨fun m _ a _ => Ad _ a, fun m _ a _ => Ad _ a⟩) (hobj := cx hlow)

theorem c64 (l oc : Nat) (ms : List Mov) (hm : ∀ m ∈ ms, MvOk m) (hml : ms.length ≤ 1048576) (C : Nat → List Col) (hC : ∀ k, OkCols (C k)) (U T : Nat → List AObj) (N : Nat → Prop) (Z : List AObj → Prop) (hlen : ∀ k, (U k).length = (U 0).length) (hlenW : ∀ k, (T k).length = (U 0).length) (hll : l < (U 0).length) (hol : oc < (U 0).length)
  (hlw : ∀ k, ∀ x ∈ U k, ObjLow (U 0).length x) (hlW : ∀ k, ∀ x ∈ T k, ObjLow (U 0).length x) (h0 : N 0) (hc : ∀ k, (U k)[oc]? = some (.cells 22 [A8 (C k)])) (hcW : ∀ k, (T k)[oc]? = some (.cells 22 [A8 (C k)]))
  (hn : ∀ k m, ms[k]? = some m → (Av (C k) m).2 = 0 → (T k).set oc (.cells 22 [A8 (Av (C k) m).1]) = U (k + 1))
  (hy : ∀ k m X, ms[k]? = some m → N k → AYield Tryz.prog l [A8 (Av (C k) m).1, A2 (Av (C k) m).2] (U k ++ X) (fun b H' => ((Av (C k) m).2 ≠ 0 ∧ ∃ V, H' = V ++ X ∧ V.length = (U 0).length ∧ (∀ x ∈ V, ObjLow (U 0).length x) ∧ Z V) ∨ ((Av (C k) m).2 = 0 ∧ b = true ∧ N (k + 1) ∧ H' = T k ++ X)))
  (hR : N ms.length → Z (U ms.length)) : ACall Tryz.prog 64 [.yield l, .ro [C5 ms], .ptr oc 0] (U 0) (fun _ H' => Z H') := by
 refine ACall.body [] [0, 1, 2] Tryz.func64 Tryz.ntmps64 (fun d => ?_)
 refine Z20 ?_;refine R.fin [0, 2, 8, 9, 10] ?_
 refine AW.loopC (α := Nat) (fun x => ⟨31, A3 0 (.yield l) (A3 2 (.ptr oc 0) (A3 8 (C5 ms) (A3 9 (A2 ms.length) (A3 10 (A2 (x : Nat)) (fun _ => .any))))), U x, [], [], none⟩) (fun x => x ≤ ms.length ∧ N x) (fun x => ms.length - x) (0) ⟨Nat.zero_le _, h0⟩ (StLe.of_eq (by simp)) rfl (fun x hx => ?_)
 refine Z2 ?_;refine R.fin [0, 2, 8, 9, 10, 11] ?_
 refine W.condX (fun ht11 => ?_) (fun ht11 => ?_)
 ·have hlt : x < ms.length := by simpa using ht11
  refine N1 ?_
  refine R.gw (h := Q.indexAddr (x) (Cv ms[x]) (fun _ => Ac hlt)) (hr := ?_)
  refine Nt ?_;refine R.fin [0, 2, 5, 8, 9, 10] ?_;refine Cs ?_
  refine R.gw (h := Q.loadUp (hc x)) (hr := ?_)
  refine R.go ?_;refine R.call Tryz.call65 (c65 (C x) (hC x) ms[x] (hm _ (List.getElem_mem hlt)) _) ?_;refine Z77 ?_;refine R.fin [0, 2, 6, 7, 8, 9, 10] ?_;refine Z36 ?_
  refine R.yield (l := l) (args := [A8 (Av (C x) ms[x]).1, A2 (Av (C x) ms[x]).2]) (hy x ms[x] _ (List.getElem?_eq_getElem hlt) hx.2) ?_
  intro b V O hV hb
  have hVO : O = [AObj.cells 64 (Jc ms[x])] ∧ (((Av (C x) ms[x]).2 ≠ 0 ∧ V.length = (U 0).length ∧ (∀ y ∈ V, ObjLow (U 0).length y) ∧ Z V) ∨ ((Av (C x) ms[x]).2 = 0 ∧ b = true ∧ N (x + 1) ∧ V = T x)) := by
   rcases hb with ⟨h1, V', h2, h3, h4, h5⟩ | ⟨h1, h2, h3, h4⟩
   ·obtain ⟨rfl, rfl⟩ := List.append_inj h2 (by rw [hV, hlen x, h3])
    exact ⟨rfl, .inl ⟨h1, h3, h4, h5⟩⟩
   have h6 := List.append_inj h4 (by rw [hV, hlen x, hlenW x])
   exact ⟨h6.2, .inr ⟨h1, h2, h3, h6.1⟩⟩
  obtain ⟨rfl, hVO⟩ := hVO
  have hVl : V.length = (U 0).length := by rw [hV, hlen x]
  have hVw : ∀ y ∈ V, ObjLow (U 0).length y := by
   rcases hVO with ⟨_, _, h, _⟩ | ⟨_, _, _, rfl⟩
   ·exact h
   exact hlW _
  refine ⟨fun _ => by rw [hVl]; exact hVw, fun o ho => (by cases ho), ?_⟩
  refine Z25 ?_;refine R.go ?_;refine R.fin [0, 2, 6, 8, 9, 10, 28] ?_
  refine W.cond (fun ht28 => ?_) (fun ht28 => ?_)
  ·have hZ : Z V := by
    rcases hVO with ⟨_, _, _, h⟩ | ⟨h1, h2, _, _⟩
    ·exact h
    rw [h1, h2] at ht28; simp at ht28
   refine Z43 ?_;refine Z6 ?_;refine K.lpR ?_;exact K.fin .nores (hp := hZ)
  have hVn : (Av (C x) ms[x]).2 = 0 ∧ N (x + 1) ∧ V = T x := by
   rcases hVO with ⟨h1, _, _, _⟩ | ⟨h1, _, h3, h4⟩
   ·simp [h1] at ht28
   exact ⟨h1, h3, h4⟩
  obtain ⟨hz, hN, rfl⟩ := hVn
  have hnx := hn x _ (List.getElem?_eq_getElem hlt) hz
  refine Z5 ?_;refine Z59 ?_
  refine R.storeUp jS (hcW x) ?_ ?_
  ·first | exact El | (simp [or_imp, forall_and]; done)
  refine R.fin [0, 2, 8, 9, 10] ?_;refine Pn ?_;refine R.fin [0, 2, 8, 9, 10] ?_;refine K.lpN (x + 1) ⟨hlt, hN⟩ (by omega) ?_
  rw [hnx]
  exact StCut.take (own := []) (fun _ => .refl _) (by repeat (first | exact At | refine As (by first | (simp [or_imp, forall_and]; done) | exact Fo | (have := hlen (x + 1); simp; omega)) ?_)) (by simp) (by simp)
 have hxe : x = ms.length := by have := hx.1; simp at ht11; omega
 refine K.lpE ?_;exact K.finN .nores (hp := by rw [hxe]; exact hR (hxe ▸ hx.2))

/-! The columns on the way through moves. -/
def colsAt (c : List Col) (ms : List Mov) : Nat → List Col
 | 0 => c
 | k + 1 => match ms[k]? with | some m => (Av (colsAt c ms k) m).1 | none => colsAt c ms k
def B6 (c : List Col) (ms : List Mov) : Nat → List (List Col)
 | 0 => [c]
 | k + 1 => B6 c ms k ++ [colsAt c ms (k + 1)]
def NS (c : List Col) (ms : List Mov) (k : Nat) : Prop := Ai c ms = ((B6 c ms k).dropLast ++ (Ai (colsAt c ms k) (ms.drop k)).1, (Ai (colsAt c ms k) (ms.drop k)).2)
theorem Sv (c : List Col) (ms : List Mov) (k : Nat) : (B6 c ms k).dropLast ++ [colsAt c ms k] = B6 c ms k := by
 cases k with
 | zero => rfl
 | succ k => simp [B6]
theorem G8 {c : List Col} {ms : List Mov} {k : Nat} {m : Mov} (h : ms[k]? = some m) : colsAt c ms (k + 1) = (Av (colsAt c ms k) m).1 := by rw [colsAt, h]
theorem L3 {ms : List Mov} {k : Nat} {m : Mov} (hk : ms[k]? = some m) : ms.drop k = m :: ms.drop (k + 1) := by
 obtain ⟨h1, h2⟩ := List.getElem?_eq_some_iff.1 hk
 rw [List.drop_eq_getElem_cons h1, h2]
theorem n9 {c : List Col} {ms : List Mov} : NS c ms 0 := rfl
theorem Nf {c : List Col} {ms : List Mov} {k : Nat} {m : Mov} (hk : ms[k]? = some m) (h : NS c ms k) (he : (Av (colsAt c ms k) m).2 = 0) : NS c ms (k + 1) := by
 unfold NS at h ⊢
 rw [h, L3 hk]
 have e : Ai (colsAt c ms k) (m :: ms.drop (k + 1)) = (colsAt c ms k :: (Ai (Av (colsAt c ms k) m).1 (ms.drop (k + 1))).1, (Ai (Av (colsAt c ms k) m).1 (ms.drop (k + 1))).2) := by
  rw [Ai, if_neg (by rw [he]; simp)]
 have e2 : (B6 c ms (k + 1)).dropLast = B6 c ms k := by simp [B6]
 rw [e, e2, G8 hk]
 have e3 := Sv c ms k
 refine Prod.ext ?_ rfl
 show (B6 c ms k).dropLast ++ (colsAt c ms k :: _) = B6 c ms k ++ _
 conv => rhs; rw [← e3]
 simp
theorem Sw {c : List Col} {ms : List Mov} {k : Nat} {m : Mov} (hk : ms[k]? = some m) (h : NS c ms k) (he : (Av (colsAt c ms k) m).2 ≠ 0) : (Ai c ms).2 = (Av (colsAt c ms k) m).2 := by
 unfold NS at h
 rw [h, L3 hk, Ai, if_pos (by simpa using he)]
theorem Sx {c : List Col} {ms : List Mov} (h : NS c ms ms.length) : Ai c ms = (B6 c ms ms.length, 0) := by
 unfold NS at h
 rw [h, List.drop_length, Ai]
 exact Prod.ext (Sv c ms ms.length) rfl
theorem jq {c : List Col} {m : Mov} (hc : OkCols c) (h : OkMov m) : OkCols (Av c m).1 := by
 have h0 : OkCols ([] : List Col) := ⟨by decide, fun y hy => by cases hy⟩
 unfold Av
 split
 ·exact h0
 split
 ·exact h0
 split
 ·exact h0
 exact P7 hc (P6 h) (by rw [G7]; exact h.gives2)
theorem Fc {c : List Col} {ms : List Mov} (hc : OkCols c) (h : ∀ m ∈ ms, OkMov m) : ∀ k, OkCols (colsAt c ms k)
 | 0 => hc
 | k + 1 => by
  rw [colsAt]
  cases hk : ms[k]? with
  | none => exact Fc hc h k
  | some m => exact jq (Fc hc h k) (h m (List.mem_of_getElem? hk))
theorem Cb (c : List Col) (ms : List Mov) : ∀ k, (B6 c ms k).length = k + 1
 | 0 => rfl
 | k + 1 => by rw [B6, List.length_append, Cb c ms k]; rfl
theorem Xs {c : List Col} {ms : List Mov} (h : Fa c ms = true) (hk : OkMovs ms) : (∀ m ∈ ms, MvOk m) ∧ ms.length ≤ 8 := by
 unfold Fa Il at h
 simp only [Bool.and_eq_true, decide_eq_true_eq, List.all_eq_true] at h
 exact ⟨fun m hm => n5 (hk.each m hm) (ct (h.2.2 m hm)), by omega⟩
theorem R5 {c : List Col} {ms : List Mov} (h : Fa c ms = false) : Au c ms = ([], 1) := by
 have : Ay c ms = ([], 1) := if_neg (by rw [h]; simp)
 unfold Au
 rw [this]; rfl
theorem Pa {c : List Col} {ms : List Mov} (h : Fa c ms = true) (he : (Ai c ms).2 ≠ 0) : Au c ms = ([], (Ai c ms).2) := by
 have : Ay c ms = Ai c ms := if_pos h
 unfold Au
 rw [this, if_pos (by simpa using he)]
theorem R6 {c : List Col} {ms : List Mov} {o : List (List Col)} (h : Fa c ms = true) (he : Ai c ms = (o, 0)) : Au c ms = (o, 0) := by
 have : Ay c ms = Ai c ms := if_pos h
 unfold Au
 rw [this, he]; rfl
abbrev Sy (l : List (List Col)) : AV := .slice false 1 (l.map A8)
theorem J5 {n k : Nat} {o : Bool} {l : List (List Col)} : Low n (.slice o k (l.map A8)) := low_slice.2 fun y hy => by
 obtain ⟨m, _, rfl⟩ := List.mem_map.1 hy
 exact El
theorem vh {U : List AObj} {i j : Nat} {x y : AObj} (h : U[i]? = some x) (hne : j ≠ i) : (U.set j y)[i]? = some x := by rw [List.getElem?_set_ne hne]; exact h
theorem cy {n k : Nat} {o : Bool} {l : List (List Col)} {c : List Col} : Low n (.slice o k (l.map A8 ++ [A8 c])) := by
 have := J5 (n := n) (k := k) (o := o) (l := l ++ [c])
 rwa [List.map_append] at this
theorem c14 (c : List Col) (hc : OkCols c) (hc2 : c.length ≤ 1000000) (l : List Mov) (h : OkMovs l) (Hp : List AObj) : AFun Tryz.prog 14 [A8 c, C5 l] Hp (.tup [Sy (Au c l).1, A2 (Au c l).2]) := by
 refine ACall.body [.cell 4 34, .cell 5 27] [0, 1, 7, 8] Tryz.func14 Tryz.ntmps14 (fun d => ?_)
 refine Z33 ?_;refine Ju ?_;refine R.fin [0, 1, 4, 5, 7, 8] ?_;refine Z8 ?_;refine R.call Tryz.call34 (c34 c hc l h _) ?_;refine R.go ?_;refine R.fin [0, 1, 4, 5, 7, 8, 12] ?_
 refine W.cond (fun ht12 => ?_) (fun ht12 => ?_)
 ·have hm := R5 (by simpa using ht12)
  refine Cs ?_;refine En ?_;refine R.nilOwn 0 1 ?_;refine En ?_;refine Z41 ?_;exact K.fin (V.two (V.cell jA) (V.cell jA)) ⟨by rw [hm]; rfl, rfl⟩
 have hmay : Fa c l = true := by simpa using ht12
 obtain ⟨hmv, hl8⟩ := Xs hmay h
 refine Kl ?_;refine R.call Tryz.call36 (c36 c hc2 _) ?_;refine Hw ?_;refine Ju ?_;refine R.storeOwnT jS ?_;refine R.fin [0, 1, 4, 5, 6, 7, 8] ?_;refine Z69 ?_
 refine R.assumeLow (fun hlow => ?_)
 refine Z0 ?_;refine R.callO Tryz.call35 (c35 c l _) ?_
 rintro _ _ ⟨rfl, rfl⟩
 refine ⟨[.cells 22 [A8 c]], by simp, ?_⟩
 rw [show oid (Hp ++ [AObj.cells 34 [AV.nil], AObj.cells 27 [A2 0], AObj.cells 34 [AV.slice true 1 [A8 c]]]).length 0 = oid Hp.length 3 by simp [oid]]
 simp only [List.cons_append, List.nil_append]
 refine R.fin [4, 5, 6, 7, 8, 18] ?_;refine AW.block ?_
 refine W.rangeV (m := 4) Tryz.call64 (fun FR as' bd' hFR has hbd => ?_)
 have hFRl : ∀ s, Low (Hp.length + 6) (FR s) := by
  intro s
  rw [hFR]
  refine Low.strip ?_
  revert s
  repeat (first | exact At | refine As (by first | (simp [oid, or_imp, forall_and]; done) | (simp [oid, or_imp, forall_and]; exact ⟨fun m _ a _ => Ad _ a, fun m _ a _ => Ad _ a⟩) | (simp [oid, or_imp, forall_and] <;> omega)) ?_)
 have hOl : ∀ {e : Int} {o : List (List Col)} {q : List Col} {lp : AObj}, ObjLow (Hp.length + 6) lp → ∀ x ∈ Hp ++ [AObj.cells 34 [AV.nil], AObj.cells 27 [A2 e], AObj.cells 34 [AV.slice true 1 ((o).map A8)], AObj.cells 22 [A8 (q)], AObj.defs, lp], ObjLow (Hp.length + 6) x := by
  intro e o q lp hlp x hx
  refine Hn (fun x hx => ObjLow.le (by omega) (hlow x hx)) (fun x hx => ?_) x hx
  simp only [List.mem_cons, List.mem_nil_iff, or_false] at hx
  rcases hx with rfl | rfl | rfl | rfl | rfl | rfl
  ·intro y hy; rw [List.mem_singleton.1 hy]; simp
  ·intro y hy; rw [List.mem_singleton.1 hy]; simp
  ·intro y hy; rw [List.mem_singleton.1 hy]; exact J5
  ·intro y hy; rw [List.mem_singleton.1 hy]; exact El
  ·trivial
  exact hlp
 refine ⟨_, c64 (oid Hp.length 5) (oid Hp.length 3) l hmv (by omega) (colsAt c l) (Fc hc fun m hm => h.each m hm) (fun k => Hp ++ [AObj.cells 34 [AV.nil], AObj.cells 27 [A2 0], AObj.cells 34 [AV.slice true 1 ((B6 c l k).map A8)], AObj.cells 22 [A8 (colsAt c l k)], AObj.defs, AObj.loop LoopState.ready none FR 29 #[19, 20] as' bd' (oid Hp.length 4)]) (fun k => Hp ++ [AObj.cells 34 [AV.nil], AObj.cells 27 [A2 0], AObj.cells 34 [AV.slice true 1 ((B6 c l (k + 1)).map A8)], AObj.cells 22 [A8 (colsAt c l k)], AObj.defs, AObj.loop LoopState.ready none FR 29 #[19, 20] as' bd' (oid Hp.length 4)]) (NS c l) (fun V => (∃ (o : List (List Col)) (q : List Col), V = Hp ++ [AObj.cells 34 [AV.nil], AObj.cells 27 [A2 0], AObj.cells 34 [AV.slice true 1 ((o).map A8)], AObj.cells 22 [A8 (q)], AObj.defs, AObj.loop LoopState.ready none FR 29 #[19, 20] as' bd' (oid Hp.length 4)] ∧ Ai c l = (o, 0)) ∨ (∃ (e : Int) (o : List (List Col)) (q : List Col), V = Hp ++ [AObj.cells 34 [AV.nil], AObj.cells 27 [A2 e], AObj.cells 34 [AV.slice true 1 ((o).map A8)], AObj.cells 22 [A8 (q)], AObj.defs, AObj.loop LoopState.done (some Code.ret) FR 29 #[19, 20] as' bd' (oid Hp.length 4)] ∧ e ≠ 0 ∧ (Ai c l).2 = e)) (fun k => by simp) (fun k => by simp) (by simp [oid]) (by simp [oid]) (fun k => (fun x hx => by rw [List.length_append]; exact hOl (lp := AObj.loop LoopState.ready none FR 29 #[19, 20] as' bd' (oid Hp.length 4)) (by exact ⟨hFRl, by simp [oid]⟩) x hx)) (fun k => (fun x hx => by rw [List.length_append]; exact hOl (lp := AObj.loop LoopState.ready none FR 29 #[19, 20] as' bd' (oid Hp.length 4)) (by exact ⟨hFRl, by simp [oid]⟩) x hx)) n9 (fun k => by rw [Al]; rfl) (fun k => by rw [Al]; rfl) (fun k m hk he => by rw [D4]; simp only [G8 hk]; rfl) (fun k m X hk hN => ?_) (fun hN => .inl ⟨_, _, rfl, Sx hN⟩), ?_⟩
 ·generalize hV : Hp ++ [AObj.cells 34 [AV.nil], AObj.cells 27 [A2 0], AObj.cells 34 [AV.slice true 1 ((B6 c l k).map A8)], AObj.cells 22 [A8 (colsAt c l k)], AObj.defs, AObj.loop LoopState.ready none FR 29 #[19, 20] as' bd' (oid Hp.length 4)] ++ X = V
  have hL : V[oid Hp.length 5]? = some (AObj.loop LoopState.ready none FR 29 #[19, 20] as' bd' (oid Hp.length 4)) := by rw [← hV, List.append_assoc, Al]; rfl
  have hA0 : V[oid Hp.length 2]? = some (AObj.cells 34 [AV.slice true 1 ((B6 c l k).map A8)]) := by rw [← hV, List.append_assoc, Al]; rfl
  have hB0 : V[oid Hp.length 0]? = some (AObj.cells 34 [AV.nil]) := by rw [← hV, List.append_assoc, Al]; rfl
  have hC0 : V[oid Hp.length 1]? = some (AObj.cells 27 [A2 0]) := by rw [← hV, List.append_assoc, Al]; rfl
  refine AYield.ofRound (pd := none) (fr := FR) (sz := 29) (ps := #[19, 20]) (df := oid Hp.length 4) (asg := as') (bd := bd') hL rfl (by decide) (fun d => ?_)
  subst hFR has hbd
  refine W.keep [4, 5, 6, 19, 20] ?_;refine Z2 ?_;refine R.fin [4, 5, 6, 7, 20] ?_;refine Z59 ?_;refine R.fin [4, 5, 6, 7, 8] ?_
  refine ⟨rfl, none, hL, ?_⟩
  generalize hbz : (AObj.loop LoopState.busy _ _ _ _ _ _ _) = bz
  have hA : (V.set (oid Hp.length 5) bz)[oid Hp.length 2]? = some (AObj.cells 34 [AV.slice true 1 ((B6 c l k).map A8)]) := by rw [List.getElem?_set_ne (oid_ne (by decide))]; exact hA0
  have hB : (V.set (oid Hp.length 5) bz)[oid Hp.length 0]? = some (AObj.cells 34 [AV.nil]) := by rw [List.getElem?_set_ne (oid_ne (by decide))]; exact hB0
  have hC : (V.set (oid Hp.length 5) bz)[oid Hp.length 1]? = some (AObj.cells 27 [A2 0]) := by rw [List.getElem?_set_ne (oid_ne (by decide))]; exact hC0
  refine az ?_;refine R.fin [4, 5, 6, 7, 8, 22] ?_
  refine W.cond (fun ht22 => ?_) (fun ht22 => ?_)
  ·have he : (Av (colsAt c l k) m).2 ≠ 0 := by simpa using ht22
   refine Z2 ?_
   refine R.storeUp jS hB ?_ ?_
   ·simp
   refine R.storeUp jS (vh hC (oid_ne (by decide))) ?_ ?_
   ·simp
   refine R.fin [] ?_;refine Z43 ?_;refine K.blR ?_
   subst hbz
   refine py ?_
   refine .inl ⟨he, Hp ++ [AObj.cells 34 [AV.nil], AObj.cells 27 [A2 (Av (colsAt c l k) m).2], AObj.cells 34 [AV.slice true 1 ((B6 c l k).map A8)], AObj.cells 22 [A8 (colsAt c l k)], AObj.defs, _], ?_, by simp, (fun x hx => by rw [List.length_append]; exact hOl (lp := _) (by exact ⟨hFRl, by simp [oid]⟩) x hx), .inr ⟨_, _, _, rfl, he, Sw hk hN he⟩⟩
   subst hV
   simp only [List.append_assoc, D4, List.cons_append, List.nil_append, List.set_cons_succ, List.set_cons_zero]
  have he : (Av (colsAt c l k) m).2 = 0 := by simpa using ht22
  refine Z5 ?_;refine AW.region ?_;refine R.loadUpT jA hA ?_;refine Z70 ?_
  refine R.append jU Tryz.type22 ?_ ?_ ?_
  ·have hol := Cb c l k; have hkl := (List.getElem?_eq_some_iff.1 hk).1; simp [Tryz.t22]; omega
  ·have hol := Cb c l k; have hkl := (List.getElem?_eq_some_iff.1 hk).1; simp [Tryz.t22]; omega
  refine R.storeUpT jS (getset hA) ?_ ?_
  ·exact cy
  refine Z93 ?_
  subst hbz
  refine px ?_
  refine .inr ⟨he, rfl, Nf hk hN he, ?_⟩
  subst hV
  simp only [List.append_assoc, D4, List.cons_append, List.nil_append, List.set_cons_succ, List.set_cons_zero]
  rw [B6, G8 hk, List.map_append]
  rfl
 rintro r H' (⟨o, q, rfl, hrun⟩ | ⟨e, o, q, rfl, hne, hrun⟩)
 ·refine ⟨Hp, _, _, _, rfl, rfl, fun h => h, ?_, rfl, by simp, ?_⟩
  ·intro o ho
   have : o = oid Hp.length 4 := by simpa using ho
   subst this
   rw [Al]
   rfl
  refine Z10 ?_;refine Z2 ?_;refine En ?_;refine En ?_;refine Z17 ?_;exact K.fin (V.two (V.cell jA) (V.cell jA)) ⟨by rw [R6 hmay hrun], rfl⟩ (hlow := by simp only [Yb, List.mem_cons, List.mem_nil_iff, or_false]; rintro y (rfl | rfl); exact J5; simp)
 refine ⟨Hp, _, _, _, rfl, rfl, fun h => h, ?_, rfl, by simp, ?_⟩
 ·intro o ho
  have : o = oid Hp.length 4 := by simpa using ho
  subst this
  rw [Al]
  rfl
 refine W.nilOwn 0 1 ?_;refine Z80 ?_;exact K.fin (V.two (V.cell jA) (V.cell jA)) ⟨by rw [Pa hmay (by rw [hrun]; exact hne), hrun]; rfl, rfl⟩

/-- sound.Check. -/
def Dl (c : List Col) (l : List Mov) : Int × Int := if Fa c l then (((Ai c l).1.length - 1 : Nat), (Ai c l).2) else (0, 1)
theorem na {c : List Col} {ms : List Mov} {k : Nat} {m : Mov} (hk : ms[k]? = some m) (h : NS c ms k) (he : (Av (colsAt c ms k) m).2 ≠ 0) : (Ai c ms).1.length = k + 1 := by
 unfold NS at h
 rw [h, L3 hk, Ai, if_pos (by simpa using he)]
 have := Cb c ms k
 simp [this]
theorem cz {c : List Col} {l : List Mov} (h : Fa c l = false) : Dl c l = (0, 1) := if_neg (by rw [h]; simp)
theorem R7 {c : List Col} {l : List Mov} (h : Fa c l = true) (hr : Ai c l = (B6 c l l.length, 0)) : Dl c l = ((l.length : Int), 0) := by
 unfold Dl
 rw [if_pos h, hr]
 simp only [Cb]
 rfl
theorem Xt {c : List Col} {l : List Mov} {n : Nat} {e : Int} (h : Fa c l = true) (h1 : (Ai c l).1.length = n + 1) (h2 : (Ai c l).2 = e) : Dl c l = ((n : Int), e) := by
 unfold Dl
 rw [if_pos h, h1, h2]
 rfl
theorem c13 (c : List Col) (hc : OkCols c) (hc2 : c.length ≤ 1000000) (l : List Mov) (h : OkMovs l) (Hp : List AObj) : AFun Tryz.prog 13 [A8 c, C5 l] Hp (.tup [A2 (Dl c l).1, A2 (Dl c l).2]) := by
 refine ACall.body [.cell 4 3, .cell 5 27] [0, 1] Tryz.func13 Tryz.ntmps13 (fun d => ?_)
 refine Z33 ?_;refine Ju ?_;refine R.fin [0, 1, 4, 5] ?_;refine Z8 ?_;refine R.call Tryz.call34 (c34 c hc l h _) ?_;refine R.go ?_;refine R.fin [0, 1, 4, 5, 12] ?_
 refine W.cond (fun ht12 => ?_) (fun ht12 => ?_)
 ·have hm := cz (by simpa using ht12)
  refine Cs ?_;refine En ?_;refine En ?_;refine Z41 ?_;exact K.fin (V.two (V.cell jA) (V.cell jA)) ⟨by rw [hm] <;> rfl, rfl⟩
 have hmay : Fa c l = true := by simpa using ht12
 obtain ⟨hmv, hl8⟩ := Xs hmay h
 refine Z5 ?_;refine b6 ?_;refine R.fin [0, 1, 4, 5, 6] ?_;refine Z69 ?_
 refine R.assumeLow (fun hlow => ?_)
 refine Z0 ?_;refine R.callO Tryz.call35 (c35 c l _) ?_
 rintro _ _ ⟨rfl, rfl⟩
 refine ⟨[.cells 22 [A8 c]], by simp, ?_⟩
 rw [show oid (Hp ++ [AObj.cells 3 [A2 0], AObj.cells 27 [A2 0], AObj.cells 3 [A2 0]]).length 0 = oid Hp.length 3 by simp [oid]]
 simp only [List.cons_append, List.nil_append]
 refine R.fin [4, 5, 6, 15] ?_;refine AW.block ?_
 refine W.rangeV (m := 4) Tryz.call64 (fun FR as' bd' hFR has hbd => ?_)
 have hFRl : ∀ s, Low (Hp.length + 6) (FR s) := by
  intro s
  rw [hFR]
  refine Low.strip ?_
  revert s
  repeat (first | exact At | refine As (by first | (simp [oid, or_imp, forall_and]; done) | (simp [oid, or_imp, forall_and]; exact ⟨fun m _ a _ => Ad _ a, fun m _ a _ => Ad _ a⟩) | (simp [oid, or_imp, forall_and] <;> omega)) ?_)
 have hOl : ∀ {n e k : Int} {q : List Col} {lp : AObj}, ObjLow (Hp.length + 6) lp → ∀ x ∈ Hp ++ [AObj.cells 3 [A2 n], AObj.cells 27 [A2 e], AObj.cells 3 [A2 k], AObj.cells 22 [A8 (q)], AObj.defs, lp], ObjLow (Hp.length + 6) x := by
  intro n e k q lp hlp x hx
  refine Hn (fun x hx => ObjLow.le (by omega) (hlow x hx)) (fun x hx => ?_) x hx
  simp only [List.mem_cons, List.mem_nil_iff, or_false] at hx
  rcases hx with rfl | rfl | rfl | rfl | rfl | rfl
  ·intro y hy; rw [List.mem_singleton.1 hy]; simp
  ·intro y hy; rw [List.mem_singleton.1 hy]; simp
  ·intro y hy; rw [List.mem_singleton.1 hy]; simp
  ·intro y hy; rw [List.mem_singleton.1 hy]; exact El
  ·trivial
  exact hlp
 refine ⟨_, c64 (oid Hp.length 5) (oid Hp.length 3) l hmv (by omega) (colsAt c l) (Fc hc fun m hm => h.each m hm) (fun k => Hp ++ [AObj.cells 3 [A2 0], AObj.cells 27 [A2 0], AObj.cells 3 [A2 (k : Int)], AObj.cells 22 [A8 (colsAt c l k)], AObj.defs, AObj.loop LoopState.ready none FR 25 #[16, 17] as' bd' (oid Hp.length 4)]) (fun k => Hp ++ [AObj.cells 3 [A2 0], AObj.cells 27 [A2 0], AObj.cells 3 [A2 ((k + 1 : Nat) : Int)], AObj.cells 22 [A8 (colsAt c l k)], AObj.defs, AObj.loop LoopState.ready none FR 25 #[16, 17] as' bd' (oid Hp.length 4)]) (NS c l) (fun V => (∃ (q : List Col), V = Hp ++ [AObj.cells 3 [A2 0], AObj.cells 27 [A2 0], AObj.cells 3 [A2 (l.length : Int)], AObj.cells 22 [A8 (q)], AObj.defs, AObj.loop LoopState.ready none FR 25 #[16, 17] as' bd' (oid Hp.length 4)] ∧ Ai c l = (B6 c l l.length, 0)) ∨ (∃ (e : Int) (n : Nat) (q : List Col), V = Hp ++ [AObj.cells 3 [A2 (n : Int)], AObj.cells 27 [A2 e], AObj.cells 3 [A2 (n : Int)], AObj.cells 22 [A8 (q)], AObj.defs, AObj.loop LoopState.done (some Code.ret) FR 25 #[16, 17] as' bd' (oid Hp.length 4)] ∧ e ≠ 0 ∧ (Ai c l).2 = e ∧ (Ai c l).1.length = n + 1)) (fun k => by simp) (fun k => by simp) (by simp [oid]) (by simp [oid]) (fun k => (fun x hx => by rw [List.length_append]; exact hOl (lp := AObj.loop LoopState.ready none FR 25 #[16, 17] as' bd' (oid Hp.length 4)) (by exact ⟨hFRl, by simp [oid]⟩) x hx)) (fun k => (fun x hx => by rw [List.length_append]; exact hOl (lp := AObj.loop LoopState.ready none FR 25 #[16, 17] as' bd' (oid Hp.length 4)) (by exact ⟨hFRl, by simp [oid]⟩) x hx)) n9 (fun k => by rw [Al]; rfl) (fun k => by rw [Al]; rfl) (fun k m hk he => by rw [D4]; simp only [G8 hk]; rfl) (fun k m X hk hN => ?_) (fun hN => .inl ⟨_, rfl, Sx hN⟩), ?_⟩
 ·generalize hV : Hp ++ [AObj.cells 3 [A2 0], AObj.cells 27 [A2 0], AObj.cells 3 [A2 (k : Int)], AObj.cells 22 [A8 (colsAt c l k)], AObj.defs, AObj.loop LoopState.ready none FR 25 #[16, 17] as' bd' (oid Hp.length 4)] ++ X = V
  have hL : V[oid Hp.length 5]? = some (AObj.loop LoopState.ready none FR 25 #[16, 17] as' bd' (oid Hp.length 4)) := by rw [← hV, List.append_assoc, Al]; rfl
  have hA0 : V[oid Hp.length 2]? = some (AObj.cells 3 [A2 (k : Int)]) := by rw [← hV, List.append_assoc, Al]; rfl
  have hB0 : V[oid Hp.length 0]? = some (AObj.cells 3 [A2 0]) := by rw [← hV, List.append_assoc, Al]; rfl
  have hC0 : V[oid Hp.length 1]? = some (AObj.cells 27 [A2 0]) := by rw [← hV, List.append_assoc, Al]; rfl
  refine AYield.ofRound (pd := none) (fr := FR) (sz := 25) (ps := #[16, 17]) (df := oid Hp.length 4) (asg := as') (bd := bd') hL rfl (by decide) (fun d => ?_)
  subst hFR has hbd
  refine W.keep [4, 5, 6, 17] ?_;refine Z59 ?_;refine R.fin [4, 5, 6, 8] ?_
  refine ⟨rfl, none, hL, ?_⟩
  generalize hbz : (AObj.loop LoopState.busy _ _ _ _ _ _ _) = bz
  have hA : (V.set (oid Hp.length 5) bz)[oid Hp.length 2]? = some (AObj.cells 3 [A2 (k : Int)]) := by rw [List.getElem?_set_ne (oid_ne (by decide))]; exact hA0
  have hB : (V.set (oid Hp.length 5) bz)[oid Hp.length 0]? = some (AObj.cells 3 [A2 0]) := by rw [List.getElem?_set_ne (oid_ne (by decide))]; exact hB0
  have hC : (V.set (oid Hp.length 5) bz)[oid Hp.length 1]? = some (AObj.cells 27 [A2 0]) := by rw [List.getElem?_set_ne (oid_ne (by decide))]; exact hC0
  refine az ?_;refine R.fin [4, 5, 6, 8, 19] ?_
  refine W.cond (fun ht19 => ?_) (fun ht19 => ?_)
  ·have he : (Av (colsAt c l k) m).2 ≠ 0 := by simpa using ht19
   refine Cs ?_
   refine R.gw (h := Q.loadUp hA) (hr := ?_)
   refine R.go ?_
   refine R.storeUp jS hB ?_ ?_
   ·simp
   refine R.storeUp jS (vh hC (oid_ne (by decide))) ?_ ?_
   ·simp
   refine R.fin [] ?_;refine Z43 ?_;refine K.blR ?_
   subst hbz
   refine py ?_
   refine .inl ⟨he, Hp ++ [AObj.cells 3 [A2 (k : Int)], AObj.cells 27 [A2 (Av (colsAt c l k) m).2], AObj.cells 3 [A2 (k : Int)], AObj.cells 22 [A8 (colsAt c l k)], AObj.defs, _], ?_, by simp, (fun x hx => by rw [List.length_append]; exact hOl (lp := _) (by exact ⟨hFRl, by simp [oid]⟩) x hx), .inr ⟨_, _, _, rfl, he, Sw hk hN he, na hk hN he⟩⟩
   subst hV
   simp only [List.append_assoc, D4, List.cons_append, List.nil_append, List.set_cons_succ, List.set_cons_zero]
  have he : (Av (colsAt c l k) m).2 = 0 := by simpa using ht19
  refine Z5 ?_;refine AW.region ?_
  refine R.gw (h := Q.loadUp hA) (hr := ?_)
  refine R.gw (h := Q.add64 (h2 := fun _ => by have hkl := (List.getElem?_eq_some_iff.1 hk).1; omega)) (hr := ?_)
  refine R.storeUp jS hA ?_ ?_
  ·simp
  refine Z93 ?_
  subst hbz
  refine la ?_
  refine .inr ⟨he, rfl, Nf hk hN he, ?_⟩
  subst hV
  simp only [List.append_assoc, D4, List.cons_append, List.nil_append, List.set_cons_succ, List.set_cons_zero]
  rfl
 rintro r H' (⟨q, rfl, hrun⟩ | ⟨e, n, q, rfl, hne, hrun, hlen⟩)
 ·refine ⟨Hp, _, _, _, rfl, rfl, fun h => h, ?_, rfl, by simp, ?_⟩
  ·intro o ho
   have : o = oid Hp.length 4 := by simpa using ho
   subst this
   rw [Al]
   rfl
  refine Z10 ?_;refine Z2 ?_;refine En ?_;refine En ?_;refine Z17 ?_;exact K.fin (V.two (V.cell jA) (V.cell jA)) ⟨by rw [R7 hmay hrun], rfl⟩
 refine ⟨Hp, _, _, _, rfl, rfl, fun h => h, ?_, rfl, by simp, ?_⟩
 ·intro o ho
  have : o = oid Hp.length 4 := by simpa using ho
  subst this
  rw [Al]
  rfl
 refine Z80 ?_;exact K.fin (V.two (V.cell jA) (V.cell jA)) ⟨by rw [Xt hmay hlen hrun], rfl⟩

/-! sound.Lost: what is dropped, what has been turned. -/
def E7 (kd : Int) (s : List Str × List Str) (nm : Str) : List Str × List Str := (if (kd == 2 && !(s.2.contains nm)) = true then s.1 ++ [nm] else s.1, s.2 ++ [nm])
def Dd (m : Mov) (s : List Str × List Str) (y : Nat) : List Str × List Str := (m.take.take y).foldl (E7 m.kind) s
def Ip (s : List Str × List Str) (m : Mov) : List Str × List Str := ((Dd m s m.take.length).1, (Dd m s m.take.length).2 ++ m.give.map (·.name))
def C3 (l : List Mov) : List Str × List Str := l.foldl Ip ([], [])
def R8 (l : List Mov) (x : Col) : Bool := (C3 l).1.contains x.name
def Iq (c : List Col) (l : List Mov) : List Str := if (Dl c l).2 != 0 then [] else (c.filter (R8 l)).map (·.name)
theorem Mt {l : List Mov} {x : Nat} (h : x < l.length) : C3 (l.take (x + 1)) = Ip (C3 (l.take x)) l[x] := by
 unfold C3
 rw [List.take_succ_eq_append_getElem h, List.foldl_append]; rfl
theorem nb (m : Mov) (s : List Str × List Str) : Dd m s 0 = s := by simp [Dd]
theorem K5 {m : Mov} {s : List Str × List Str} {y : Nat} (h : y < m.take.length) : Dd m s (y + 1) = E7 m.kind (Dd m s y) m.take[y] := by
 unfold Dd
 rw [List.take_succ_eq_append_getElem h, List.foldl_append]; rfl
theorem d7 (kd : Int) (s : List Str × List Str) (nm : Str) : (E7 kd s nm).1.length ≤ s.1.length + 1 ∧ (E7 kd s nm).2.length = s.2.length + 1 := by
 unfold E7
 refine ⟨?_, by simp⟩
 show (if _ then _ else _ : List Str).length ≤ _
 split <;> simp
theorem J6 (m : Mov) (s : List Str × List Str) : ∀ y, (Dd m s y).1.length ≤ s.1.length + y ∧ (Dd m s y).2.length ≤ s.2.length + y
 | 0 => by simp [Dd]
 | y + 1 => by
  obtain ⟨h1, h2⟩ := J6 m s y
  by_cases h : y < m.take.length
  ·rw [K5 h]
   obtain ⟨a, b⟩ := d7 m.kind (Dd m s y) m.take[y]
   omega
  have e : Dd m s (y + 1) = Dd m s y := by
   unfold Dd
   rw [List.take_of_length_le (by omega), List.take_of_length_le (by omega)]
  rw [e]; omega
/-- Moves with few columns each. -/
def Few (l : List Mov) : Prop := l.length ≤ 12 ∧ ∀ m ∈ l, m.take.length ≤ 20 ∧ m.give.length ≤ 50
theorem K6 {l : List Mov} (h : Few l) : ∀ x, x ≤ l.length → (C3 (l.take x)).1.length ≤ 20 * x ∧ (C3 (l.take x)).2.length ≤ 70 * x
 | 0, _ => by simp [C3]
 | x + 1, hx => by
  obtain ⟨h1, h2⟩ := K6 h x (by omega)
  rw [Mt (by omega)]
  obtain ⟨a, b⟩ := J6 l[x] (C3 (l.take x)) l[x].take.length
  obtain ⟨c1, c2⟩ := h.2 l[x] (List.getElem_mem _)
  unfold Ip
  simp only [List.length_append, List.length_map]
  omega
theorem J7 {n k : Nat} {o : Bool} {a : List Str} {c : Str} : Low n (.slice o k (a.map A6 ++ [A6 c])) := by simp [or_imp, forall_and]
theorem J8 {n k : Nat} {o : Bool} {a b : List Str} {c : Str} : Low n (.slice o k (a.map A6 ++ b.map A6 ++ [A6 c])) := by simp [or_imp, forall_and]
theorem G9 {n k : Nat} {o : Bool} {l : List Str} : Low n (.slice o k (l.map A6)) := by simp
theorem d8 {l : List Col} {z : Nat} (h : z < l.length) : (l.take (z + 1)).map (·.name) = (l.take z).map (·.name) ++ [l[z].name] := by
 rw [List.take_succ_eq_append_getElem h, List.map_append]; rfl
theorem Ir {l : List Col} {p : Col → Bool} {z : Nat} (h : z < l.length) : ((l.take (z + 1)).filter p).map (·.name) = ((l.take z).filter p).map (·.name) ++ (if p l[z] = true then [l[z].name] else []) := by
 rw [List.take_succ_eq_append_getElem h, List.filter_append, List.map_append]
 congr 1
 cases hp : p l[z] <;> simp [hp]
theorem c16 (c : List Col) (hc : OkCols c) (hc2 : c.length ≤ 1000000) (l : List Mov) (h : OkMovs l) (hf : Few l) (Hp : List AObj) : AFun Tryz.prog 16 [A8 c, C5 l] Hp (C4 (Iq c l)) := by
 refine ACall.body [.tmp 4] [0, 1] Tryz.func16 Tryz.ntmps16 (fun d => ?_)
 refine Z52 ?_;refine Z8 ?_;refine R.call Tryz.call13 (c13 c hc hc2 l h _) ?_;refine Z77 ?_;refine R.fin [0, 1, 6] ?_;refine Z1 ?_;refine R.fin [0, 1, 25] ?_
 refine W.cond (fun ht25 => ?_) (fun ht25 => ?_)
 ·have e : Iq c l = [] := if_pos ht25
  refine Z2 ?_;refine R.nilTmp 4 1 false ?_;refine Z23 ?_;refine K.thR ?_;exact K.fin (V.one V.tmp) ⟨by rw [e] <;> rfl, rfl⟩
 have e : Iq c l = (c.filter (R8 l)).map (·.name) := if_neg (by rw [ht25]; simp)
 refine Kl ?_;refine R.fin [0, 1, 7] ?_;refine Z2 ?_;refine R.fin [0, 1, 7, 8] ?_;refine Z69 ?_;refine R.nilSl 7 1 ?_;refine R.nilSl 8 1 ?_;refine Z24 ?_;refine R.fin [0, 7, 8, 26, 27, 28] ?_
 refine AW.loopC (α := Nat) (fun x => ⟨88, A3 0 (A8 c) (A3 7 (.slice true 1 (((C3 (l.take x)).1).map A6)) (A3 8 (.slice true 1 (((C3 (l.take x)).2).map A6)) (A3 26 (C5 l) (A3 27 (A2 (l.length : Nat)) (A3 28 (A2 (x : Nat)) (fun _ => .any)))))), Hp, [], [], none⟩) (fun x => x ≤ l.length) (fun x => l.length - x) (0) (Nat.zero_le _) (StLe.of_eq (by rw [List.length_map]; rfl)) rfl (fun x hx => ?_)
 refine Z2 ?_;refine R.fin [0, 7, 8, 26, 27, 28, 29] ?_
 refine W.condX (fun ht29 => ?_) (fun ht29 => ?_)
 ·have hlt : x < l.length := by simpa using ht29
  obtain ⟨m, hm⟩ : ∃ m, m = l[x] := ⟨_, rfl⟩
  have hmx : (l.map Cv)[x]? = some (Cv m) := by rw [hm]; exact Ac hlt
  have hfm : m.take.length ≤ 20 ∧ m.give.length ≤ 50 := by rw [hm]; exact hf.2 l[x] (List.getElem_mem _)
  have hfl := K6 hf x hx
  have hf12 := hf.1
  have htl := J6 m (C3 (l.take x))
  refine N1 ?_
  refine R.gw (h := Q.indexAddr (x) (Cv m) (fun _ => hmx)) (hr := ?_)
  refine Nt ?_;refine R.fin [0, 7, 8, 10, 26, 27, 28] ?_;refine Z54 ?_;refine gc ?_
  refine AW.loopC (α := Nat) (fun y => ⟨88, A3 0 (A8 c) (A3 7 (.slice true 1 (((Dd m (C3 (l.take x)) y).1).map A6)) (A3 8 (.slice true 1 (((Dd m (C3 (l.take x)) y).2).map A6)) (A3 10 (.ptr (oid Hp.length 0) 0) (A3 26 (C5 l) (A3 27 (A2 (l.length : Nat)) (A3 28 (A2 (x : Nat)) (A3 33 (C4 m.take) (A3 34 (A2 (m.take.length : Nat)) (A3 35 (A2 (y : Nat)) (fun _ => .any)))))))))), Hp, [.cells 64 (Jc m)], [], none⟩) (fun y => y ≤ m.take.length) (fun y => m.take.length - y) (0) (Nat.zero_le _) (StLe.of_eq (by simp only [List.length_map, nb]; rfl)) rfl (fun y hy => ?_)
  refine Z2 ?_;refine R.fin [0, 7, 8, 10, 26, 27, 28, 33, 34, 35, 36] ?_
  refine W.condX (fun ht36 => ?_) (fun ht36 => ?_)
  ·have hy2 : y < m.take.length := by simpa using ht36
   have htl := J6 m (C3 (l.take x)) y
   refine N1 ?_
   refine R.gw (h := Q.indexAddr (y) (A6 m.take[y]) (fun _ => Ac hy2)) (hr := ?_)
   refine Z0 ?_;refine R.fin [0, 7, 8, 10, 12, 26, 27, 28, 33, 34, 35] ?_;refine Z8 ?_;refine Z25 ?_;refine G.call Tryz.call40 (fun hB => c40 (Dd m (C3 (l.take x)) y).2 m.take[y] (by omega) _) ?_;refine Z68 ?_;refine R.fin [0, 7, 8, 10, 12, 26, 27, 28, 33, 34, 35, 47] ?_
   refine W.cond (fun ht47 => ?_) (fun ht47 => ?_)
   ·have e1 : E7 m.kind (Dd m (C3 (l.take x)) y) m.take[y] = ((Dd m (C3 (l.take x)) y).1 ++ [m.take[y]], (Dd m (C3 (l.take x)) y).2 ++ [m.take[y]]) := by unfold E7; rw [if_pos ht47]
    refine bc ?_
    refine R.append jU Tryz.type9 ?_ ?_ ?_
    ·simp only [List.length_map, List.length_append, List.length_cons, List.length_nil, Tryz.t9]; omega
    ·simp only [List.length_map, List.length_append, List.length_cons, List.length_nil, Tryz.t9]; omega
    refine Hy ?_;refine R.fin [0, 7, 8, 10, 12, 26, 27, 28, 33, 34, 35] ?_;refine K.thN ?_;refine bc ?_
    refine R.append jU Tryz.type9 ?_ ?_ ?_
    ·simp only [List.length_map, List.length_append, List.length_cons, List.length_nil, Tryz.t9]; omega
    ·simp only [List.length_map, List.length_append, List.length_cons, List.length_nil, Tryz.t9]; omega
    refine Hy ?_;refine gc ?_;refine Pn ?_;refine gc ?_
    refine K.lpN (y + 1) hy2 (by omega) (StCut.of_eq (by rw [K5 hy2, e1]; simp only [List.map_append, List.map_cons, List.map_nil]; rfl))
   have e1 : E7 m.kind (Dd m (C3 (l.take x)) y) m.take[y] = ((Dd m (C3 (l.take x)) y).1, (Dd m (C3 (l.take x)) y).2 ++ [m.take[y]]) := by unfold E7; rw [if_neg (by rw [ht47]; simp)]
   refine Z5 ?_;refine bc ?_
   refine R.append jU Tryz.type9 ?_ ?_ ?_
   ·simp only [List.length_map, List.length_append, List.length_cons, List.length_nil, Tryz.t9]; omega
   ·simp only [List.length_map, List.length_append, List.length_cons, List.length_nil, Tryz.t9]; omega
   refine Hy ?_;refine gc ?_;refine Pn ?_;refine gc ?_
   refine K.lpN (y + 1) hy2 (by omega) (StCut.of_eq (by rw [K5 hy2, e1]; simp only [List.map_append, List.map_cons, List.map_nil]; rfl))
  have hye : y = m.take.length := by simp at ht36; omega
  subst hye
  refine Z28 ?_;refine Z45 ?_;refine R.fin [0, 7, 8, 26, 27, 28, 58, 59, 60] ?_
  refine AW.loopC (α := Nat) (fun z => ⟨88, A3 0 (A8 c) (A3 7 (.slice true 1 (((Dd m (C3 (l.take x)) m.take.length).1).map A6)) (A3 8 (.slice true 1 (((Dd m (C3 (l.take x)) m.take.length).2 ++ (m.give.take z).map (·.name)).map A6)) (A3 26 (C5 l) (A3 27 (A2 (l.length : Nat)) (A3 28 (A2 (x : Nat)) (A3 58 (A8 m.give) (A3 59 (A2 (m.give.length : Nat)) (A3 60 (A2 (z : Nat)) (fun _ => .any))))))))), Hp, [.cells 64 (Jc m)], [], none⟩) (fun z => z ≤ m.give.length) (fun z => m.give.length - z) (0) (Nat.zero_le _) (StLe.of_eq (by rw [List.length_map]; simp only [List.take_zero, List.map_nil, List.append_nil]; rfl)) rfl (fun z hz => ?_)
  refine Z2 ?_;refine R.fin [0, 7, 8, 26, 27, 28, 58, 59, 60, 61] ?_
  refine W.condX (fun ht61 => ?_) (fun ht61 => ?_)
  ·have hz2 : z < m.give.length := by simpa using ht61
   have htl := htl m.take.length
   have htk : (m.give.take z).length ≤ z := List.length_take_le _ _
   refine N1 ?_
   refine R.gw (h := Q.indexAddr (z) (Ag m.give[z]) (fun _ => Ac hz2)) (hr := ?_)
   refine Nt ?_;refine R.fin [0, 7, 8, 14, 26, 27, 28, 58, 59, 60] ?_;refine Z82 ?_;refine Z0 ?_;refine Hw ?_
   refine R.append jU Tryz.type9 ?_ ?_ ?_
   ·simp only [List.length_map, List.length_append, List.length_cons, List.length_nil, Tryz.t9]; omega
   ·simp only [List.length_map, List.length_append, List.length_cons, List.length_nil, Tryz.t9]; omega
   refine Hy ?_;refine R.fin [0, 7, 8, 26, 27, 28, 58, 59, 60] ?_;refine Pn ?_;refine R.fin [0, 7, 8, 26, 27, 28, 58, 59, 60] ?_;refine K.lpN (z + 1) hz2 (by omega) ?_
   simp only [d8 hz2, List.map_append, List.map_cons, List.map_nil, ← List.append_assoc]
   exact StCut.take (own := [.cells 64 (Jc m)]) (fun _ => .refl _) (by repeat (first | exact At | refine As (by first | (simp [oid, or_imp, forall_and]; done) | exact Fo | exact G9 | exact J8 | exact J7) ?_)) (by intro x hx; rw [List.mem_singleton.1 hx]; exact Sr) (by simp)
  have hze : z = m.give.length := by simp at ht61; omega
  subst hze
  refine K.lpE ?_;refine Pn ?_;refine R.fin [0, 7, 8, 26, 27, 28] ?_;refine K.lpN (x + 1) hlt (by omega) ?_
  simp only [Mt hlt, ← hm, Ip, List.take_length]
  exact StCut.take (own := []) (fun _ => .refl _) (by repeat (first | exact At | refine As (by first | (simp [oid, or_imp, forall_and]; done) | exact Fo | exact G9 | exact J8 | exact J7) ?_)) (by simp) (by simp)
 have hxe : x = l.length := by simp at ht29; omega
 subst hxe
 have hfl := K6 hf l.length (Nat.le_refl _)
 rw [List.take_length] at hfl
 have hf12 := hf.1
 refine Z28 ?_;refine Z2 ?_;refine R.fin [0, 7, 15] ?_;refine Z69 ?_;refine R.nilSl 15 1 ?_;refine Z24 ?_;refine R.fin [7, 15, 71, 72, 73] ?_
 refine AW.loopC (α := Nat) (fun w => ⟨88, A3 7 (.slice true 1 (((C3 l).1).map A6)) (A3 15 (.slice true 1 ((((c.take w).filter (R8 l)).map (·.name)).map A6)) (A3 71 (A8 c) (A3 72 (A2 (c.length : Nat)) (A3 73 (A2 (w : Nat)) (fun _ => .any))))), Hp, [], [], none⟩) (fun w => w ≤ c.length) (fun w => c.length - w) (0) (Nat.zero_le _) (StLe.of_eq (by rw [List.length_map, List.take_length]; rfl)) rfl (fun w hw => ?_)
 refine Z2 ?_;refine R.fin [7, 15, 71, 72, 73, 74] ?_
 refine W.condX (fun ht74 => ?_) (fun ht74 => ?_)
 ·have hw2 : w < c.length := by simpa using ht74
  have hfw : ((c.take w).filter (R8 l)).length ≤ w := Nat.le_trans (List.length_filter_le _ _) (List.length_take_le _ _)
  refine N1 ?_
  refine R.gw (h := Q.indexAddr (w) (Ag c[w]) (fun _ => Ac hw2)) (hr := ?_)
  refine Nt ?_;refine R.fin [7, 15, 17, 71, 72, 73] ?_;refine Z20 ?_;refine R.call Tryz.call40 (c40 (C3 l).1 c[w].name (by omega) _) ?_;refine R.fin [7, 15, 17, 71, 72, 73, 80] ?_
  refine W.cond (fun ht80 => ?_) (fun ht80 => ?_)
  ·have hp : R8 l c[w] = true := ht80
   refine Z82 ?_;refine Z0 ?_;refine Hw ?_
   refine R.append jU Tryz.type9 ?_ ?_ ?_
   ·simp only [List.length_map, List.length_append, List.length_cons, List.length_nil, Tryz.t9]; omega
   ·simp only [List.length_map, List.length_append, List.length_cons, List.length_nil, Tryz.t9]; omega
   refine Hy ?_;refine R.fin [7, 15, 71, 72, 73] ?_;refine Pn ?_;refine R.fin [7, 15, 71, 72, 73] ?_;refine K.lpN (w + 1) hw2 (by omega) ?_
   simp only [Ir hw2, hp, ↓reduceIte, Bool.false_eq_true, List.append_nil, List.map_append, List.map_cons, List.map_nil]
   exact StCut.take (own := []) (fun _ => .refl _) (by repeat (first | exact At | refine As (by first | (simp [oid, or_imp, forall_and]; done) | exact Fo | exact G9 | exact J8 | exact J7) ?_)) (by simp) (by simp)
  have hp : R8 l c[w] = false := ht80
  refine Js ?_;refine R.fin [7, 15, 71, 72, 73] ?_;refine K.lpN (w + 1) hw2 (by omega) ?_
  simp only [Ir hw2, hp, ↓reduceIte, Bool.false_eq_true, List.append_nil, List.map_append, List.map_cons, List.map_nil]
  exact StCut.take (own := []) (fun _ => .refl _) (by repeat (first | exact At | refine As (by first | (simp [oid, or_imp, forall_and]; done) | exact Fo | exact G9 | exact J8 | exact J7) ?_)) (by simp) (by simp)
 have hwe : c.length ≤ w := by simpa using ht74
 refine Z28 ?_;refine S6 ?_;exact K.fin (V.one V.tmp) ⟨by rw [e, List.take_of_length_le hwe], rfl⟩ (hlow := G9)

/-! ref19.Lost: each column is followed by itself. -/
def L4 (m : Mov) (nm : Str) (j : Nat) : Bool := (m.take.take j).any fun s => s == nm
def Dp (nm : Str) : List Mov → Bool
 | [] => false
 | m :: r => if L4 m nm m.take.length then m.kind == 2 else Dp nm r
def R9 (c : List Col) (l : List Mov) : List Str := (c.filter fun x => Dp x.name l).map (·.name)
theorem Xu {m : Mov} {nm s : Str} {j : Nat} (h : j < m.take.length) (hs : s = m.take[j]) : L4 m nm (j + 1) = (L4 m nm j || s == nm) := by
 subst hs
 unfold L4
 rw [List.take_succ_eq_append_getElem h, List.any_append]
 simp
theorem jr {l : List Mov} {nm : Str} {k : Nat} {m : Mov} (hk : k < l.length) (hm : m = l[k]) : Dp nm (l.drop k) = if L4 m nm m.take.length then m.kind == 2 else Dp nm (l.drop (k + 1)) := by
 rw [List.drop_eq_getElem_cons hk, ← hm, Dp]
theorem d9 {l : List Mov} {nm : Str} {k : Nat} (hk : l.length ≤ k) : Dp nm (l.drop k) = false := by
 rw [List.drop_eq_nil_of_le hk, Dp]
theorem Sz {c : List Col} {l : List Mov} {x : Nat} {q : Col} (h : x < c.length) (hq : q = c[x]) : ((c.take (x + 1)).filter fun y => Dp y.name l).map (·.name) = ((c.take x).filter fun y => Dp y.name l).map (·.name) ++ (if Dp q.name l = true then [q.name] else []) := by
 subst hq
 exact Ir h
theorem c18 (c : List Col) (hc2 : c.length ≤ 1000000) (l : List Mov) (hf : Few l) (Hp : List AObj) : AFun Tryz.prog 18 [A8 c, C5 l] Hp (C4 (R9 c l)) := by
 refine ACall.body [.tmp 4] [0, 1] Tryz.func18 Tryz.ntmps18 (fun d => ?_)
 refine Z52 ?_;refine fq ?_;refine Po ?_;refine Z32 ?_;refine R.fin [0, 1, 5, 6] ?_
 refine AW.loopC (α := Nat) (fun x => ⟨66, A3 0 (A8 c) (A3 1 (C5 l) (A3 5 (.slice true 1 ((((c.take x).filter fun y => Dp y.name l).map (·.name)).map A6)) (A3 6 (A2 (x : Nat)) (fun _ => .any)))), Hp, [], [], none⟩) (fun x => x ≤ c.length) (fun x => c.length - x) (0) (Nat.zero_le _) (StLe.of_eq rfl) rfl (fun x hx => ?_)
 refine Z54 ?_;refine R.fin [0, 1, 5, 6, 14] ?_
 refine W.cond (fun ht14 => ?_) (fun ht14 => ?_)
 ·have hlt : x < c.length := by simpa using ht14
  obtain ⟨q, hq⟩ : ∃ q, q = c[x] := ⟨_, rfl⟩
  have hqx : (c.map Ag)[x]? = some (Ag q) := by rw [hq]; exact Ac hlt
  have hfw : ((c.take x).filter fun y => Dp y.name l).length ≤ x := Nat.le_trans (List.length_filter_le _ _) (List.length_take_le _ _)
  refine Z39 ?_;refine Z2 ?_;refine bg ?_
  refine AW.loopC (α := Nat) (fun k => ⟨66, A3 0 (A8 c) (A3 1 (C5 l) (A3 5 (.slice true 1 ((((c.take x).filter fun y => Dp y.name l).map (·.name)).map A6)) (A3 6 (A2 (x : Nat)) (A3 7 (A2 (k : Nat)) (fun _ => .any))))), Hp, [], [], none⟩) (fun k => k ≤ l.length ∧ Dp q.name l = Dp q.name (l.drop k)) (fun k => l.length - k) (0) ⟨Nat.zero_le _, rfl⟩ (StLe.of_eq rfl) rfl (fun k hk => ?_)
  refine Z54 ?_;refine R.fin [0, 1, 5, 6, 7, 20] ?_
  refine W.cond (fun ht20 => ?_) (fun ht20 => ?_)
  ·have hk2 : k < l.length := by simpa using ht20
   have hf12 := hf.1
   obtain ⟨m, hm⟩ : ∃ m, m = l[k] := ⟨_, rfl⟩
   have hmk : (l.map Cv)[k]? = some (Cv m) := by rw [hm]; exact Ac hk2
   have hfm : m.take.length ≤ 20 ∧ m.give.length ≤ 50 := by rw [hm]; exact hf.2 l[k] (List.getElem_mem _)
   have hst := jr (nm := q.name) hk2 hm
   refine Z39 ?_;refine Z2 ?_;refine R.fin [0, 1, 5, 6, 7, 8] ?_;refine Z32 ?_;refine R.fin [0, 1, 5, 6, 7, 8, 9] ?_
   refine AW.loopC (α := Nat) (fun j => ⟨66, A3 0 (A8 c) (A3 1 (C5 l) (A3 5 (.slice true 1 ((((c.take x).filter fun y => Dp y.name l).map (·.name)).map A6)) (A3 6 (A2 (x : Nat)) (A3 7 (A2 (k : Nat)) (A3 8 (Aj (L4 m q.name j)) (A3 9 (A2 (j : Nat)) (fun _ => .any))))))), Hp, [], [], none⟩) (fun j => j ≤ m.take.length) (fun j => m.take.length - j) (0) (Nat.zero_le _) (StLe.of_eq rfl) rfl (fun j hj => ?_)
   refine Z36 ?_
   refine R.gw (h := Q.indexAddr (k) (Cv m) (fun _ => hmk)) (hr := ?_)
   refine Z67 ?_;refine R.fin [0, 1, 5, 6, 7, 8, 9, 30] ?_
   refine W.cond (fun ht30 => ?_) (fun ht30 => ?_)
   ·have hj2 : j < m.take.length := by simpa using ht30
    obtain ⟨s, hs⟩ : ∃ s, s = m.take[j] := ⟨_, rfl⟩
    have hsj : (m.take.map A6)[j]? = some (A6 s) := by rw [hs]; exact Ac hj2
    refine Z39 ?_;refine W.drawQ0 [0, 1, 3, 3, 15, 31, 63, 3, 255, 511, 3, 3, 3075, 7171, 15363, 32767, 65535, 131071] 15 Aa (by kernel_rfl) ?_;refine Z14 ?_;refine Z65 ?_
    refine H.gw (h := Q.indexAddr (k) (Cv m) (fun _ => hmk)) (hr := ?_)
    refine S4 ?_
    refine H.gw (h := Q.indexAddr (j) (A6 s) (fun _ => hsj)) (hr := ?_)
    refine S4 ?_
    refine H.gw (h := Q.indexAddr (x) (Ag q) (fun _ => hqx)) (hr := ?_)
    refine Z65 ?_;refine fu ?_;refine Z0 ?_;refine R.fin [0, 1, 5, 6, 7, 8, 9] ?_;refine Z98 ?_;refine R.fin [0, 1, 5, 6, 7, 8, 9] ?_
    refine K.lpN (j + 1) hj2 (by omega) (StCut.of_eq (by rw [Xu hj2 hs]; rfl))
   have hje : j = m.take.length := by simp at ht30; omega
   subst hje
   refine Z42 ?_;refine Z2 ?_;refine R.fin [0, 1, 5, 6, 7, 50] ?_
   refine W.cond (fun ht50 => ?_) (fun ht50 => ?_)
   ·rw [if_pos ht50] at hst
    refine Z8 ?_
    refine R.gw (h := Q.indexAddr (k) (Cv m) (fun _ => hmk)) (hr := ?_)
    refine Z24 ?_;refine R.fin [0, 1, 5, 6, 56] ?_
    refine W.cond (fun ht56 => ?_) (fun ht56 => ?_)
    ·have hp : Dp q.name l = true := by rw [hk.2, hst]; exact ht56
     refine Z82 ?_;refine Z0 ?_
     refine R.gw (h := Q.indexAddr (x) (Ag q) (fun _ => hqx)) (hr := ?_)
     refine Z0 ?_;refine Hw ?_
     refine R.append jU Tryz.type9 ?_ ?_ ?_
     ·simp only [List.length_map, List.length_append, List.length_cons, List.length_nil, Tryz.t9]; omega
     ·simp only [List.length_map, List.length_append, List.length_cons, List.length_nil, Tryz.t9]; omega
     refine Hy ?_;refine R.fin [0, 1, 5, 6] ?_;refine K.thN ?_;refine AW.exit ?_;refine K.blO (by decide) ?_;refine K.thE ?_;refine b7 ?_;exact pt
    have hp : Dp q.name l = false := by rw [hk.2, hst]; exact ht56
    refine Z5 ?_;refine AW.exit ?_;refine K.blO (by decide) ?_;refine K.thE ?_;refine b7 ?_;exact pt
   rw [if_neg (by rw [ht50]; simp)] at hst
   refine Z61 ?_;refine bg ?_
   refine K.lpN (k + 1) ⟨hk2, hk.2.trans hst⟩ (by omega) (StCut.of_eq rfl)
  have hke : l.length ≤ k := by simpa using ht20
  have hp : Dp q.name l = false := by rw [hk.2, d9 hke]
  refine Z31 ?_;refine b7 ?_;exact pt
 have hxe : c.length ≤ x := by simpa using ht14
 refine Z42 ?_;refine S6 ?_;exact K.fin (V.one V.tmp) ⟨by unfold R9; rw [List.take_of_length_le hxe], rfl⟩ (hlow := G9)

theorem Ra (c : List Col) (ms : List Mov) : (Ai c ms).1 ≠ [] := by
 cases ms with
 | nil => simp [Ai]
 | cons m r =>
  rw [Ai]
  split <;> simp
theorem K7 : ∀ (c : List Col) (ms : List Mov), (Ai c ms).1.length ≤ ms.length + 1
 | c, [] => by simp [Ai]
 | c, m :: r => by
  rw [Ai]
  split
  ·simp
  have := K7 (Av c m).1 r
  simp only [List.length_cons]
  omega
theorem da {c : List Col} {ms : List Mov} (h : ((Au c ms).2 != 0) = false) : (Au c ms).1 ≠ [] ∧ (Au c ms).1.length ≤ 9 := by
 unfold Au at h ⊢
 by_cases h1 : ((Ay c ms).2 != 0) = true
 ·rw [if_pos h1] at h
  rw [h1] at h; cases h
 rw [if_neg h1]
 by_cases h2 : Fa c ms = true
 ·have e : Ay c ms = Ai c ms := if_pos h2
  rw [e]
  have h3 : ms.length ≤ 8 := by
   unfold Fa Il at h2
   simp only [Bool.and_eq_true, decide_eq_true_eq] at h2
   omega
  have := K7 c ms
  exact ⟨Ra c ms, by omega⟩
 have e : Ay c ms = ([], 1) := if_neg h2
 rw [e] at h1
 exact absurd rfl h1
theorem Ve {l : List (List Col)} (h : l ≠ []) : (l.map A8)[l.length - 1]? = some (A8 (l.getLastD [])) := by
 have h1 : 0 < l.length := List.length_pos_iff.2 h
 rw [List.getElem?_map, List.getElem?_eq_getElem (by omega), ← List.getLast_eq_getElem (h := h), List.getLastD_eq_getLast?, List.getLast?_eq_some_getLast h]
 rfl
theorem c11 (c : List Col) (hc : OkCols c) (hc2 : c.length ≤ 1000000) (l : List Mov) (h : OkMovs l) (Hp : List AObj) : AFun Tryz.prog 11 [A8 c, C5 l] Hp (.tup [A8 (Cx c l).1, A2 (Cx c l).2]) := by
 refine ACall.body [.tmp 4, .tmp 5] [0, 1] Tryz.func11 Tryz.ntmps11 (fun d => ?_)
 refine Z1 ?_;refine R.fin [0, 1] ?_;refine Z1 ?_;refine R.call Tryz.call14 (c14 c hc hc2 l h _) ?_;refine Z77 ?_;refine R.fin [6, 7] ?_;refine Z8 ?_;refine R.fin [6, 7, 15] ?_
 refine W.cond (fun ht15 => ?_) (fun ht15 => ?_)
 ·have hm : Cx c l = ([], (Au c l).2) := if_pos ht15
  exact fj
 have hm : Cx c l = ((Au c l).1.getLastD [], 0) := if_neg (by rw [ht15]; simp)
 obtain ⟨hne, hl9⟩ := da ht15
 have hl0 : 0 < (Au c l).1.length := List.length_pos_iff.2 hne
 refine Z85 ?_
 rw [List.length_map]
 refine R.gw (h := Q.sub64 (h1 := fun _ => by omega) (h2 := fun _ => by omega)) (hr := ?_)
 refine R.gw (h := Q.indexAddr (((Au c l).1.length - 1)) (A8 ((Au c l).1.getLastD [])) (fun _ => Ve hne)) (hr := ?_)
 refine Z24 ?_;exact sk

theorem ACall.argLe {P : Program} {g : FuncId} {args args' : List AV} {H : List AObj} {post : AV → List AObj → Prop} (h : ACall P g args' H post) (hl : args.length = args'.length) (hle : ∀ (i : Nat) (y y' : AV), args[i]? = some y → args'[i]? = some y' → Le y y') : ACall P g args H post :=
 fun d G w vs h1 h2 h3 h4 => h d G w vs (h1.trans hl) (fun i y u hy hu => by
  have hi : i < args.length := by rw [hl]; exact (List.getElem?_eq_some_iff.1 hy).1
  exact (h2 i _ u (List.getElem?_eq_getElem hi) hu).le (hle i _ y (List.getElem?_eq_getElem hi) hy)) h3 h4
theorem db (s : Str) : Le (.agg [A2 2, A6 s, A2 0, A2 0, A6 [], .nil]) (A4 (Bw s)) := by
 rw [Ab]
 refine .agg _ _ rfl (fun y hy => ?_) (fun i y y' hy hy' => ?_)
 ·simp only [C0, List.mem_cons, List.mem_nil_iff, or_false] at hy
  rcases hy with rfl | rfl | rfl | rfl | rfl | rfl <;> rfl
 match i with
 | 0 => simp at hy; subst hy; simp [C0, Bw] at hy'; subst hy'; exact .inl rfl
 | 1 => simp at hy; subst hy; simp [C0, Bw] at hy'; subst hy'; exact .inl rfl
 | 2 => simp at hy; subst hy; simp [C0, Bw] at hy'; subst hy'; exact .inl rfl
 | 3 => simp at hy; subst hy; simp [C0, Bw] at hy'; subst hy'; exact .inl rfl
 | 4 => simp at hy; subst hy; simp [C0, Bw] at hy'; subst hy'; exact .inl rfl
 | 5 => simp at hy; subst hy; simp [C0, Bw] at hy'; subst hy'; exact .inr ⟨rfl, 6, rfl⟩
 | i + 6 => simp at hy
theorem vi (x : Expr) (hx : okE 61 x) (s : Str) (Hp : List AObj) : AFun Tryz.prog 25 [A4 x, .agg [A2 2, A6 s, A2 0, A2 0, A6 [], .nil]] Hp (Aj (eqE x (Bw s))) :=
 ACall.argLe (c25 61 x hx (Bw s) Hp) rfl fun i y y' hy hy' => by
  match i with
  | 0 => simp at hy hy'; subst hy; subst hy'; exact .refl _
  | 1 => simp only [List.getElem?_cons_succ, List.getElem?_cons_zero, Option.some.injEq] at hy hy'; subst hy; subst hy'; exact db s
  | i + 2 => simp at hy
def Gp (m : Mov) : Bool :=
 if m.kind == 1 then ((m.take.length : Int) == 0) && ((m.give.length : Int) == 1)
 else if m.kind == 2 then ((m.take.length : Int) == 1) && ((m.give.length : Int) == 0)
 else if (m.kind == 3) || (m.kind == 6) then ((m.take.length : Int) == 1) && ((m.give.length : Int) == 1)
 else if m.kind == 4 then ((m.take.length : Int) == 1) && decide ((2 : Int) ≤ (m.give.length : Int))
 else if m.kind == 5 then decide ((2 : Int) ≤ (m.take.length : Int)) && ((m.give.length : Int) == 1)
 else false
theorem js (n : Nat) : decide ((1 : Int) < (n : Int)) = decide ((2 : Int) ≤ (n : Int)) := by
 by_cases h : 2 ≤ n
 ·have h1 : (1 : Int) < n := by omega
  have h2 : (2 : Int) ≤ n := by omega
  simp [h1, h2]
 have h1 : ¬ (1 : Int) < n := by omega
 have h2 : ¬ (2 : Int) ≤ n := by omega
 simp [h1, h2]
theorem jt {m : Mov} (h : (((m.ahead.length : Int) != (m.give.length : Int)) || ((m.back.length : Int) != (m.take.length : Int))) = false) : Cp m = Gp m := by
 rw [Vc h, js, js]
 rfl
theorem dc (k : Int) : (Ax k == ([] : Str)) = (decide (k < 1) || decide (3 < k)) := by
 unfold Ax
 by_cases h : k < 1 ∨ 3 < k
 ·rw [if_pos (by first | exact h | omega)]
  rcases h with h | h <;> simp [h]
 rw [if_neg (by first | exact h | omega)]
 have hk : k = 1 ∨ k = 2 ∨ k = 3 := by omega
 rcases hk with rfl | rfl | rfl <;> rfl
theorem Rb {m : Mov} {c : Col} : (((!(Bd c.name)) || ((m.kind == 3) && (c.kind != 0))) || ((m.kind != 3) && (decide (c.kind < 1) || decide (3 < c.kind)))) = !F9 m c := by
 rw [← dc]
 unfold F9
 rw [show (m.kind != 3) = !(m.kind == 3) from rfl]
 cases h3 : (m.kind == 3) with
 | false => cases Bd c.name <;> cases (Ax c.kind == ([] : Str)) <;> cases (c.kind != 0) <;> rfl
 | true =>
  by_cases h0 : c.kind = 0
  ·have e : (Ax c.kind == ([] : Str)) = true := by rw [h0]; rfl
   have e0 : (c.kind != 0) = false := by rw [h0]; rfl
   rw [e, e0]
   cases Bd c.name <;> rfl
  have e0 : (c.kind != 0) = true := by simpa using h0
  rw [e0]
  cases Bd c.name <;> cases (Ax c.kind == ([] : Str)) <;> rfl
theorem Ng (l : List Expr) : l.all C7 = l.all Ao := by
 congr 1
 funext e
 exact (Ep e).symm
theorem nd {m : Mov} (h : (((((m.ahead.length : Int) != (m.give.length : Int)) || ((m.back.length : Int) != (m.take.length : Int))) || (!(m.ahead.all C7))) || (!(m.back.all C7))) = true) : Do m = false := by
 rw [Ng, Ng] at h
 unfold Do
 cases h1 : (((m.ahead.length : Int) != (m.give.length : Int)) || ((m.back.length : Int) != (m.take.length : Int))) with
 | true => rw [Vb h1]; rfl
 | false =>
  rw [h1] at h
  cases h2 : m.ahead.all Ao <;> cases h3 : m.back.all Ao <;> simp_all
theorem nf {m : Mov} (h : (((((m.ahead.length : Int) != (m.give.length : Int)) || ((m.back.length : Int) != (m.take.length : Int))) || (!(m.ahead.all C7))) || (!(m.back.all C7))) = false) : Cp m = Gp m ∧ Do m = (((Gp m && m.give.all (F9 m)) && m.take.all Bd) && Gl m) := by
 rw [Ng, Ng] at h
 simp only [Bool.or_eq_false_iff, Bool.not_eq_false'] at h
 have hk := jt (m := m) (by simp only [Bool.or_eq_false_iff]; exact h.1.1)
 refine ⟨hk, ?_⟩
 unfold Do
 rw [hk, h.1.2, h.2]
 simp
theorem ng {m : Mov} (h6 : (m.kind == 6) = false) : Gl m = ((m.kind != 3) || (eqE (m.ahead.getD 0 Ap) (Bw (m.take.getD 0 [])) && eqE (m.back.getD 0 Ap) (Bw (m.give.getD 0 ⟨[], 0⟩).name))) := by
 rw [show (m.kind != 3) = !(m.kind == 3) from rfl]
 cases h : (m.kind == 3) with
 | true => rw [jn h]; rfl
 | false => rw [jp h h6]; rfl
theorem nh {m : Mov} (h6 : (m.kind == 6) = true) : Gl m = (m.take.getD 0 [] == (m.give.getD 0 ⟨[], 0⟩).name) := jo (by simp at h6 ⊢; omega) h6
theorem c66 (m : Mov) (h : OkMov m) (Hp : List AObj) : AFun Tryz.prog 66 [Cv m] Hp (Aj (Do m)) := by
 refine ACall.body [.tmp 2] [0] Tryz.func66 Tryz.ntmps66 (fun d => ?_)
 refine Z81 ?_;refine W.drawQ [0, 1, 3, 0, 8, 24, 7, 127] 7 Aa (by kernel_rfl) ?_;refine Ki ?_;refine Z55 ?_;refine D.tail ?_;refine R.go ?_;refine S9 ?_;refine Z69 ?_
 simp only [List.length_map]
 refine Z67 ?_;refine Z62 ?_;refine G.go ?_;refine Z25 ?_;refine G.call Tryz.call98 (fun hB => c98 m.ahead h.ahead _) ?_;refine G.go ?_;refine Z25 ?_;refine G.call Tryz.call98 (fun hB => c98 m.back h.back _) ?_;refine Z68 ?_;refine R.fin [1, 3, 4, 38] ?_
 refine W.cond (fun ht38 => ?_) (fun ht38 => ?_)
 ·simp only [List.length_map] at ht38
  have hm := nd ht38
  exact fk
 simp only [List.length_map] at ht38
 obtain ⟨hck, hm0⟩ := nf ht38
 refine Kl ?_;refine R.fin [1, 3, 4, 5] ?_
 refine W.join ⟨178, A3 1 (.ro (Jc m)) (A3 3 (A2 (m.take.length : Nat)) (A3 4 (A2 (m.give.length : Nat)) (A3 5 (Aj (Gp m)) (fun _ => .any)))), Hp, [], [], none⟩ ?_ ?_
 ·refine Z1 ?_;refine R.fin [1, 3, 4, 5, 40] ?_;refine Ns ?_;refine R.fin [1, 3, 4, 5, 40, 41] ?_
  refine W.cond (fun ht41 => ?_) (fun ht41 => ?_)
  ·refine bb ?_;refine K.thJ ?_;exact StLe.of_eq (by unfold Gp; first | (simp only [ht38, ht41, hk3, hk6, Bool.true_or, Bool.false_or, Bool.or_true, Bool.or_false, if_true, if_false, Bool.false_eq_true, ↓reduceIte] <;> rfl) | (simp only [ht38, ht41, hk3, Bool.true_or, Bool.false_or, Bool.or_true, if_true, if_false, Bool.false_eq_true, ↓reduceIte] <;> rfl) | (simp only [ht38, ht41, if_true, if_false, Bool.false_eq_true, ↓reduceIte] <;> rfl))
  refine Z1 ?_;refine R.fin [1, 3, 4, 5, 40, 49] ?_
  refine W.cond (fun ht49 => ?_) (fun ht49 => ?_)
  ·refine bb ?_;refine K.thJ ?_;exact StLe.of_eq (by unfold Gp; first | (simp only [ht38, ht41, ht49, hk3, hk6, Bool.true_or, Bool.false_or, Bool.or_true, Bool.or_false, if_true, if_false, Bool.false_eq_true, ↓reduceIte] <;> rfl) | (simp only [ht38, ht41, ht49, hk3, Bool.true_or, Bool.false_or, Bool.or_true, if_true, if_false, Bool.false_eq_true, ↓reduceIte] <;> rfl) | (simp only [ht38, ht41, ht49, if_true, if_false, Bool.false_eq_true, ↓reduceIte] <;> rfl))
  refine Z8 ?_;refine R.fin [1, 3, 4, 5, 40, 57] ?_
  refine W.cond (fun ht57 => ?_) (fun ht57 => ?_)
  ·have hk3 := ht57
   refine Z5 ?_
   refine W.cond (fun ht57 => ?_) (fun ht57 => ?_)
   ·refine bb ?_;exact Z50
   rw [hk3] at ht57; cases ht57
  have hk3 := ht57
  refine Z12 ?_;refine R.fin [1, 3, 4, 5, 40, 57] ?_;refine K.thN ?_
  refine W.cond (fun ht57 => ?_) (fun ht57 => ?_)
  ·have hk6 := ht57
   refine bb ?_;exact Z50
  have hk6 := ht57
  refine Z1 ?_;refine R.fin [1, 3, 4, 5, 40, 66] ?_
  refine W.cond (fun ht66 => ?_) (fun ht66 => ?_)
  ·refine bb ?_;refine K.thJ ?_;exact StLe.of_eq (by unfold Gp; first | (simp only [ht38, ht41, ht49, ht57, ht57, ht66, hk3, hk6, Bool.true_or, Bool.false_or, Bool.or_true, Bool.or_false, if_true, if_false, Bool.false_eq_true, ↓reduceIte] <;> rfl) | (simp only [ht38, ht41, ht49, ht57, ht57, ht66, hk3, Bool.true_or, Bool.false_or, Bool.or_true, if_true, if_false, Bool.false_eq_true, ↓reduceIte] <;> rfl) | (simp only [ht38, ht41, ht49, ht57, ht57, ht66, if_true, if_false, Bool.false_eq_true, ↓reduceIte] <;> rfl))
  refine Z1 ?_;refine R.fin [1, 3, 4, 5, 74] ?_
  refine W.cond (fun ht74 => ?_) (fun ht74 => ?_)
  ·refine bb ?_;exact Z46
  refine W.keep [1, 3, 4, 5] ?_;refine AW.skip ?_;refine K.blN ?_;exact Z46
 refine Z8 ?_;refine R.fin [1, 3, 4, 83] ?_
 refine W.cond (fun ht83 => ?_) (fun ht83 => ?_)
 ·have hkf : Gp m = false := by simpa using ht83
  have hm : Do m = false := by rw [hm0, hkf]; rfl
  exact fk
 have hkm : Gp m = true := by simpa using ht83
 have hct : Cp m = true := hck.trans hkm
 obtain ⟨hl3, hl4⟩ := Gm hct
 refine Z99 ?_;refine R.fin [1, 3, 4, 6] ?_
 refine AW.loopC (α := Nat) (fun x => ⟨178, A3 1 (.ro (Jc m)) (A3 3 (A2 (m.take.length : Nat)) (A3 4 (A2 (m.give.length : Nat)) (A3 6 (A2 (x : Nat)) (fun _ => .any)))), Hp, [], [], none⟩) (fun x => x ≤ m.take.length ∧ ∀ (j : Nat) (y : Str), j < x → m.take[j]? = some y → (!Bd y) = false) (fun x => m.take.length - x) (0) ⟨Nat.zero_le _, fun j y h => by omega⟩ (StLe.of_eq (by simp)) rfl (fun x hx => ?_)
 refine Z36 ?_;refine R.fin [1, 3, 4, 6, 86] ?_
 refine W.cond (fun ht86 => ?_) (fun ht86 => ?_)
 ·have hlt : x < m.take.length := by simpa using ht86
  have htk := h.takes
  refine S5 ?_
  refine R.gw (h := Q.indexAddr (x) (A6 m.take[x]) (fun _ => Ac hlt)) (hr := ?_)
  refine R.go ?_;refine R.call Tryz.call80 (c80 m.take[x] (h.names _ (List.getElem_mem hlt)) _) ?_;refine R.go ?_;refine R.fin [1, 3, 4, 6, 95] ?_
  refine W.cond (fun ht95 => ?_) (fun ht95 => ?_)
  ·rw [← D6] at ht95
   have hm : Do m = false := by
    rw [hm0, List.all_eq_false.2 ⟨_, List.getElem_mem hlt, by simpa using ht95⟩]
    simp
   exact pg
  rw [← D6] at ht95
  refine Z61 ?_;refine R.fin [1, 3, 4, 6] ?_;exact K.lpN (x + 1) ⟨hlt, Aw hlt hx.2 ht95⟩ (by omega) (StCut.of_eq rfl)
 have hxe : m.take.length ≤ x := by simpa using ht86
 have hta : m.take.all Bd = true := by have := E6 hxe hx.2; rw [Ea] at this; simpa using this
 refine Z42 ?_;refine Z32 ?_;refine R.fin [1, 4, 7] ?_
 refine AW.loopC (α := Nat) (fun k => ⟨178, A3 1 (.ro (Jc m)) (A3 4 (A2 (m.give.length : Nat)) (A3 7 (A2 (k : Nat)) (fun _ => .any))), Hp, [], [], none⟩) (fun k => k ≤ m.give.length ∧ ∀ (j : Nat) (y : Col), j < k → m.give[j]? = some y → (!F9 m y) = false) (fun k => m.give.length - k) (0) ⟨Nat.zero_le _, fun j y h => by omega⟩ (StLe.of_eq (by simp)) rfl (fun k hk => ?_)
 refine Z36 ?_;refine R.fin [1, 4, 7, 98] ?_
 refine W.cond (fun ht98 => ?_) (fun ht98 => ?_)
 ·have hlk : k < m.give.length := by simpa using ht98
  have hgl := h.gives2
  refine S5 ?_
  refine R.gw (h := Q.indexAddr (k) (Ag m.give[k]) (fun _ => Ac hlk)) (hr := ?_)
  refine Z24 ?_;refine R.fin [1, 4, 7, 8] ?_;refine Z20 ?_
  refine R.gw (h := Q.indexAddr (k) (Ag m.give[k]) (fun _ => Ac hlk)) (hr := ?_)
  refine Z0 ?_;refine R.call Tryz.call80 (c80 m.give[k].name (h.gives.2 _ (List.getElem_mem hlk)) _) ?_;refine Z62 ?_;refine Kj ?_;refine Z62 ?_;refine S8 ?_;refine Z7 ?_;refine Z68 ?_;refine R.fin [1, 4, 7, 136] ?_
  refine W.cond (fun ht136 => ?_) (fun ht136 => ?_)
  ·rw [← D6, Rb] at ht136
   have hm : Do m = false := by
    rw [hm0, List.all_eq_false.2 ⟨_, List.getElem_mem hlk, by simpa using ht136⟩]
    simp
   exact pg
  rw [← D6, Rb] at ht136
  refine Z61 ?_;refine R.fin [1, 4, 7] ?_;exact K.lpN (k + 1) ⟨hlk, Aw hlk hk.2 ht136⟩ (by omega) (StCut.of_eq rfl)
 have hke : m.give.length ≤ k := by simpa using ht98
 have hga : m.give.all (F9 m) = true := by have := E6 hke hk.2; rw [Ea] at this; simpa using this
 have hm1 : Do m = Gl m := by rw [hm0, hkm, hga, hta]; rfl
 have g1 := fun h0 => Hu (f := A4) (l := m.ahead) (d := Ap) h0
 have g2 := fun h0 => Hu (f := A4) (l := m.back) (d := Ap) h0
 have g3 := fun h0 => Hu (f := A6) (l := m.take) (d := []) h0
 have g4 := fun h0 => Hu (f := Ag) (l := m.give) (d := ⟨[], 0⟩) h0
 refine Z42 ?_;refine Z36 ?_;refine R.fin [1, 139] ?_
 refine W.cond (fun ht139 => ?_) (fun ht139 => ?_)
 ·obtain ⟨hl1, hl2⟩ := Im hct (by rw [ht139]; simp)
  have hm := hm1.trans (nh ht139)
  refine sy ?_
  refine D.gw (h := Q.indexAddr (0) (A6 (m.take.getD 0 [])) (fun _ => g3 (by omega))) (hr := ?_)
  refine Z55 ?_
  refine D.gw (h := Q.indexAddr (0) (Ag (m.give.getD 0 ⟨[], 0⟩)) (fun _ => g4 (by omega))) (hr := ?_)
  refine b8 ?_;refine Z38 ?_;exact Z71
 have hm := hm1.trans (ng ht139)
 have len3 : ((m.kind != 3) == false) = true → 0 < m.ahead.length ∧ 0 < m.take.length ∧ 0 < m.back.length ∧ 0 < m.give.length := fun hB => by
  obtain ⟨a1, a2⟩ := Im hct (by simp at hB; rw [hB]; rfl)
  omega
 have and3 : ∀ {b : Bool}, (((m.kind != 3) == false) && b) = true → ((m.kind != 3) == false) = true := fun h => my h
 refine Z5 ?_;refine W.drawQ [0, 1, 3, 7, 15, 31, 63, 127, 15, 271, 783, 1807, 3855, 8191, 16383, 32767, 65535, 131071, 262143, 32767, 557055, 1605631, 3702783, 7897087, 16285695, 33554431, 67108863, 134217727, 268435455] 25 Aa (by kernel_rfl) ?_;refine Ki ?_;refine Z65 ?_
 refine H.gw (h := Q.indexAddr (0) (A4 (m.ahead.getD 0 Ap)) (fun hB => g1 (len3 hB).1)) (hr := ?_)
 refine S4 ?_
 refine H.gw (h := Q.indexAddr (0) (A6 (m.take.getD 0 [])) (fun hB => g3 (len3 hB).2.1)) (hr := ?_)
 refine H.go ?_;refine H.build (places := #[(0, 1), (1, 1), (2, 3), (5, 1)]) jU (fun w => by simp) jZ ?_;refine H.call Tryz.call25 (fun hB => vi (m.ahead.getD 0 Ap) (h.ahead.ok _ (He (len3 hB).1)) (m.take.getD 0 []) _) ?_;refine S4 ?_
 refine H.gw (h := Q.indexAddr (0) (A4 (m.back.getD 0 Ap)) (fun hB => g2 (len3 (and3 hB)).2.2.1)) (hr := ?_)
 refine S4 ?_
 refine H.gw (h := Q.indexAddr (0) (Ag (m.give.getD 0 ⟨[], 0⟩)) (fun hB => g4 (len3 (and3 hB)).2.2.2)) (hr := ?_)
 refine Z65 ?_;refine H.build (places := #[(0, 1), (1, 1), (2, 3), (5, 1)]) jU (fun w => by simp) jZ ?_;refine D.tail ?_;refine G.call Tryz.call25 (fun hB => vi (m.back.getD 0 Ap) (h.back.ok _ (He (len3 (and3 hB)).2.2.1)) (m.give.getD 0 ⟨[], 0⟩).name _) ?_;refine G.go ?_;exact sw

theorem c38 (l : List Mov) (h : OkMovs l) (Hp : List AObj) : AFun Tryz.prog 38 [C5 l] Hp (Aj (Il l)) := by
 refine ACall.body [.tmp 2] [0] Tryz.func38 Tryz.ntmps38 (fun d => ?_)
 refine Tv ?_;refine R.fin [0, 6] ?_
 refine W.cond (fun ht6 => ?_) (fun ht6 => ?_)
 ·rw [List.length_map] at ht6
  have hm : Il l = false := by
   unfold Il
   rw [show decide ((l.length : Int) ≤ 8) = false by simp at ht6 ⊢; omega]
   rfl
  exact kz
 rw [List.length_map] at ht6
 have h8 : decide ((l.length : Int) ≤ 8) = true := by simp at ht6 ⊢; omega
 have hl8 : l.length ≤ 8 := by simp at h8; omega
 refine fl ?_
 refine AW.loopC (α := Nat) (fun x => ⟨19, A3 0 (C5 l) (A3 3 (A2 (x : Nat)) (fun _ => .any)), Hp, [], [], none⟩) (fun x => x ≤ l.length ∧ ∀ (j : Nat) (y : Mov), j < x → l[j]? = some y → (!Do y) = false) (fun x => l.length - x) (0) ⟨Nat.zero_le _, fun j y h => by omega⟩ (StLe.of_eq (by simp)) rfl (fun x hx => ?_)
 refine Z54 ?_;refine R.fin [0, 3, 10] ?_
 refine W.cond (fun ht10 => ?_) (fun ht10 => ?_)
 ·have hlt : x < l.length := by simpa using ht10
  refine Lj ?_
  refine R.gw (h := Q.indexAddr (x) (Cv l[x]) (fun _ => Ac hlt)) (hr := ?_)
  refine R.go ?_;refine R.call Tryz.call66 (c66 l[x] (h.each _ (List.getElem_mem hlt)) _) ?_;refine R.go ?_;refine R.fin [0, 3, 18] ?_
  refine W.cond (fun ht18 => ?_) (fun ht18 => ?_)
  ·have hm : Il l = false := by
    unfold Il
    rw [List.all_eq_false.2 ⟨_, List.getElem_mem hlt, by simpa using ht18⟩]
    simp
   refine Z22 ?_;exact Z57
  refine Wd ?_;exact K.lpN (x + 1) ⟨hlt, Aw hlt hx.2 ht18⟩ (by omega) (StCut.of_eq rfl)
 have hxe : l.length ≤ x := by simpa using ht10
 have hm : Il l = true := by
  have h2 := E6 hxe hx.2
  rw [Ea] at h2
  unfold Il
  rw [h8]
  simpa using h2
 exact l6

theorem ni (c : List Col) (ms : List Mov) : ∀ k, ((B6 c ms k).map A8)[k]? = some (A8 (colsAt c ms k))
 | 0 => rfl
 | k + 1 => by
  have h := Cb c ms k
  rw [B6, List.map_append, List.getElem?_append_right (by rw [List.length_map]; omega), List.length_map, h, Nat.sub_self]
  rfl
theorem Xv {c : List Col} {ms : List Mov} {k : Nat} {m : Mov} (hk : ms[k]? = some m) (h : NS c ms k) (he : (Av (colsAt c ms k) m).2 ≠ 0) : Ai c ms = (B6 c ms k, (Av (colsAt c ms k) m).2) := by
 unfold NS at h
 rw [h, L3 hk, Ai, if_pos (by simpa using he)]
 exact Prod.ext (Sv c ms k) rfl
theorem rf {c : List Col} {l : List Mov} (h : ((!(Bb c)) || (!(Il l))) = true) : Ay c l = ([], 1) := if_neg (by unfold Fa; cases h1 : Bb c <;> cases h2 : Il l <;> simp_all)
theorem nj {c : List Col} {l : List Mov} (h : ((!(Bb c)) || (!(Il l))) = false) : Fa c l = true := by unfold Fa; cases h1 : Bb c <;> cases h2 : Il l <;> simp_all
theorem c15 (c : List Col) (hc : OkCols c) (l : List Mov) (h : OkMovs l) (Hp : List AObj) : AFun Tryz.prog 15 [A8 c, C5 l] Hp (.tup [Sy (Ay c l).1, A2 (Ay c l).2]) := by
 refine ACall.body [.tmp 4, .tmp 5] [0, 1] Tryz.func15 Tryz.ntmps15 (fun d => ?_)
 refine Z1 ?_;refine R.fin [0, 1] ?_;refine Z32 ?_;refine R.call Tryz.call37 (c37 c hc _) ?_;refine Jt ?_;refine G.call Tryz.call38 (fun hB => c38 l h _) ?_;refine Z68 ?_;refine R.fin [0, 1, 17] ?_
 refine W.cond (fun ht17 => ?_) (fun ht17 => ?_)
 ·have hm := rf ht17
  refine Z2 ?_;refine R.nilTmp 4 1 false ?_;refine R.go ?_;refine Z41 ?_;exact K.fin (V.two V.tmp V.tmp) ⟨by rw [hm]; rfl, rfl⟩
 have hmay := nj ht17
 obtain ⟨hmv, hl8⟩ := Xs hmay h
 have hmr : Ay c l = Ai c l := if_pos hmay
 refine Kl ?_;refine Hw ?_;refine Hy ?_;refine R.fin [1, 6] ?_;refine Z32 ?_;refine R.fin [1, 6, 7] ?_
 refine AW.loopC (α := Nat) (fun x => ⟨47, A3 1 (C5 l) (A3 6 (.slice true 1 ((B6 c l x).map A8)) (A3 7 (A2 (x : Nat)) (fun _ => .any))), Hp, [], [], none⟩) (fun x => x ≤ l.length ∧ NS c l x) (fun x => l.length - x) (0) ⟨Nat.zero_le _, n9⟩ (StLe.of_eq (by simp [B6])) rfl (fun x hx => ?_)
 refine Z54 ?_;refine R.fin [1, 6, 7, 23] ?_
 refine W.cond (fun ht23 => ?_) (fun ht23 => ?_)
 ·have hlt : x < l.length := by simpa using ht23
  refine Z39 ?_;refine W.drawQ [0, 0, 3, 7, 0, 0, 48, 112, 255, 511, 1023, 1023, 2047, 8191] 13 Aa (by kernel_rfl) ?_;refine Z14 ?_
  refine D.gw (h := Q.indexAddr (x) (A8 (colsAt c l x)) (fun _ => ni c l x)) (hr := ?_)
  refine Z55 ?_
  refine D.gw (h := Q.indexAddr (x) (Cv l[x]) (fun _ => Ac hlt)) (hr := ?_)
  refine D.go ?_;refine D.call Tryz.call39 (c39 (colsAt c l x) (Fc hc (fun m hm => h.each m hm) x) l[x] (hmv _ (List.getElem_mem hlt)) _) ?_;refine Ki ?_;refine D.tail ?_;refine R.go ?_;refine R.fin [1, 6, 7, 8, 9] ?_;refine Z8 ?_;refine R.fin [1, 6, 7, 8, 9, 39] ?_
  refine W.cond (fun ht39 => ?_) (fun ht39 => ?_)
  ·have he : (Av (colsAt c l x) l[x]).2 ≠ 0 := by simpa using ht39
   have hm : Ay c l = (B6 c l x, (Av (colsAt c l x) l[x]).2) := hmr.trans (Xv (List.getElem?_eq_getElem hlt) hx.2 he)
   refine Z45 ?_;refine Z41 ?_;refine Z35 ?_;exact u6
  have he : (Av (colsAt c l x) l[x]).2 = 0 := by simpa using ht39
  refine Z5 ?_;refine bc ?_
  refine R.append jU Tryz.type22 ?_ ?_ ?_
  ·have hol := Cb c l x; simp [Tryz.t22]; omega
  ·have hol := Cb c l x; simp [Tryz.t22]; omega
  refine Hy ?_;refine R.fin [1, 6, 7] ?_;refine Z98 ?_;refine R.fin [1, 6, 7] ?_
  refine K.lpN (x + 1) ⟨hlt, Nf (List.getElem?_eq_getElem hlt) hx.2 he⟩ (by omega) (StCut.of_eq ?_)
  rw [B6, G8 (List.getElem?_eq_getElem hlt), List.map_append]
  rfl
 have hxe : x = l.length := by have := hx.1; simp at ht23; omega
 have hm : Ay c l = (B6 c l x, 0) := by rw [hmr]; subst hxe; exact Sx hx.2
 refine Z42 ?_;refine Z20 ?_;refine Z17 ?_;exact u6

theorem Xw {n k : Nat} {o : Bool} {a : List Expr} {e : Expr} : Low n (.slice o k (a.map A4 ++ [A4 e])) := low_slice.2 fun y hy => by
 rcases List.mem_append.1 hy with h | h
 ·obtain ⟨m, _, rfl⟩ := List.mem_map.1 h
  exact Ad _ _
 rw [List.mem_singleton.1 h]
 exact Ad _ _
/-! fuse: trees in columns' places. -/
mutual
def putF (c : List Col) (l : List Expr) : Expr → Option Expr
 | .mk o t v k => if o == 2 then (if Ar t c < 0 then none else some (l.getD (Ar t c).toNat Ap)) else (oe c l k).map fun k' => .mk o t v k'
def oe (c : List Col) (l : List Expr) : List Expr → Option (List Expr)
  | [] => some []
  | e :: r => match putF c l e with
    | none => none
    | some y => (oe c l r).map fun s => y :: s
 end
theorem T0 (o : Int) (t : Str) (v : Val) (k : List Expr) : A4 (.mk o t v k) = .agg [A2 o, .v (sv t), A2 v.kind, A2 v.n, .v (sv v.s), .slice false 6 (k.map A4)] := by rw [Ab]; rfl
set_option maxRecDepth 8000
/-! The words of a print. -/
/-! What a tree comes to: eval's model. -/
abbrev Rs := Val × Int
def Pb (e : Int) : Rs := (noV, e)
def Gq (r : Rs) : Rs := if (r.2 == 0) && (r.1.kind != 0) && (r.1.kind != 3) then Pb 10 else r
def ju (strong : Val) (a b : Rs) : Rs := if ((Gq a).2 != 0) || ((Gq a).1 == strong) then Gq a else if (((Gq b).2 != 0) || ((Gq b).1 == strong)) || ((Gq a).1.kind != 0) then Gq b else ((Gq a).1, 0)
def ifW : Str := [105, 102]
def yh : Str := [110, 118, 108]
def Zh : Str := [105, 115, 110, 117, 108, 108]
def vj (t : Str) (a b c : Rs) : Rs :=
 if t == ifW then (if (Gq a).2 != 0 then Pb (Gq a).2 else if (Gq a).1 == U3 true then b else c)
 else if a.2 != 0 then Pb a.2 else if t == Zh then (U3 (a.1.kind == 0), 0) else if a.1.kind != 0 then (a.1, 0) else b
def yi (strict : List Val → Rs) (l : List Rs) : Rs := match l.find? (fun q => q.2 != 0) with | some q => Pb q.2 | none => if l.any (fun q => q.1.kind == 0) then (noV, 0) else strict (l.map (·.1))
def Pc (c : List Col) (l : List Val) (t : Str) : Rs := if Ar t c < 0 then Pb 9 else (l.getD (Ar t c).toNat noV, 0)
def orW : Str := [111, 114]
def yj : Str := [97, 110, 100]
/-- A node, of what its kids come to; what a strict node comes to is a parameter. -/
def og (strict : Int → Str → List Val → Rs) (c : List Col) (l : List Val) (o : Int) (t : Str) (v : Val) (ks : List Rs) : Rs :=
 if o == 1 then (v, 0) else if o == 2 then Pc c l t
 else if (o == 5) && (t == orW) then ju (U3 true) (ks.getD 0 (noV, 0)) (ks.getD 1 (noV, 0))
 else if (o == 5) && (t == yj) then ju (U3 false) (ks.getD 0 (noV, 0)) (ks.getD 1 (noV, 0))
 else if (o == 6) && (((t == ifW) || (t == yh)) || (t == Zh)) then vj t (ks.getD 0 (noV, 0)) (ks.getD 1 (noV, 0)) (ks.getD 2 (noV, 0))
 else yi (strict o t) ks
mutual
def Mu (strict : Int → Str → List Val → Rs) (c : List Col) (l : List Val) : Expr → Rs
 | .mk o t v k => og strict c l o t v (Rc strict c l k)
def Rc (strict : Int → Str → List Val → Rs) (c : List Col) (l : List Val) : List Expr → List Rs
  | [] => []
  | e :: r => Mu strict c l e :: Rc strict c l r
 end
/-! A tree in a column's place comes to what its value would there. -/
mutual
theorem eval_put {f : Int → Str → List Val → Rs} {c : List Col} {l m : List Val} {s : Str} {y : Expr} (hs : Pc c m s = Mu f c l y) (ho : ∀ t, t ≠ s → Pc c m t = Pc c l t) : ∀ x : Expr, Mu f c l (qr s y x) = Mu f c m x
 | .mk o t v k => by
  rw [qr]
  split
  ·rename_i h
   rw [Bool.and_eq_true, beq_iff_eq, beq_iff_eq] at h
   obtain ⟨rfl, rfl⟩ := h
   rw [← hs, Mu]
   rfl
  rename_i h
  rw [Mu, Mu, Rd hs ho k]
  unfold og
  by_cases h2 : (o == 2) = true
  ·have : t ≠ s := fun e => h (by rw [h2, e]; simp)
   rw [ho t this]
  rw [if_neg h2, if_neg h2]
theorem Rd {f : Int → Str → List Val → Rs} {c : List Col} {l m : List Val} {s : Str} {y : Expr} (hs : Pc c m s = Mu f c l y) (ho : ∀ t, t ≠ s → Pc c m t = Pc c l t) : ∀ k : List Expr, Rc f c l (lw s y k) = Rc f c m k
  | [] => rfl
  | e :: r => by rw [lw, Rc, Rc, eval_put hs ho e, Rd hs ho r]
 end
/-! Who is not named plays no part. -/
/-! What a strict node comes to. -/
/-! Values are vq, and their numbers have 64 bits. -/
/-! A text between marks. -/
set_option maxRecDepth 4000
set_option maxRecDepth 8000
/-! Who decides decides: the law's sources, columns and truths. -/
/-! Rows. -/
/-! Rows that differ in what is not named. -/
/-! Who has a kind comes to it. -/
/-! The print of a tree, and its words. -/
/-! What was parsed nests no deeper than may be. -/
/-! What nests too deep is told to be too deep. -/
def F2 (l : List Tok) (x : Expr) : Prop := ∀ (k : Nat) (S : PS) (rest : List TK), (k = 0 ∨ k = 1 ∨ k = 4 ∨ k = 5) → k ≤ jf x → S.code = 0 → S.nest ≤ 30 → 30 < S.nest + Z9 x → seg l S.i = P1 x ++ rest → je (k + 1) rest → (Dn l (ofL k) (pf l (fam l S.nest) (k + 1)) S).2.code = 18
/-! What was parsed is right, where the words are the lexer's. -/
/-! The lexer's words. -/
/-! The parse laws where nothing is too deep. -/
/-! The parser from a word on, and of a source. -/
/-! Other trees have other words, and other prints. -/
/-! The laws of printing. -/
set_option maxRecDepth 4000
end Go.SX.Nb
namespace Go.Proofs
open Go.Shelf Go.RowKit

section
variable {P : Program} (w : World)

end

section
variable {P : Program} {ρ : Ren}

set_option maxHeartbeats 1000000 in
set_option maxRecDepth 100000 in
set_option maxHeartbeats 1000000 in
set_option maxRecDepth 100000 in
set_option maxHeartbeats 2000000 in
set_option maxRecDepth 100000 in
set_option maxHeartbeats 2000000 in
set_option maxRecDepth 100000 in
end
end Go.Proofs

namespace Go.SX.Nb
open Go Go.SX Go.Proofs Go.Shelf
variable [ErrAt]
set_option maxRecDepth 8000
/-! show's builder. -/
end Go.SX.Nb
namespace Go.SX.Nb
open Go Go.SX Go.Proofs
variable [ErrAt]
set_option maxRecDepth 4000
set_option maxRecDepth 8000
/-! How long a print is. -/
set_option maxRecDepth 4000
abbrev xo (own : Bool) (t : Str) (ks : List Expr) : AObj := .cells 45 [A2 6, A6 t, A2 0, A2 0, A6 [], .slice own 6 (ks.map A4)]
theorem rg {n : Nat} {own : Bool} {t : Str} {ks : List Expr} : ObjLow n (xo own t ks) := by
 show ∀ z ∈ [A2 6, A6 t, A2 0, A2 0, A6 [], AV.slice own 6 (ks.map A4)], Low n z
 intro z hz
 simp only [List.mem_cons, List.not_mem_nil, or_false] at hz
 rcases hz with rfl | rfl | rfl | rfl | rfl | rfl
 all_goals first | exact Cu | simp
theorem nk : Cc (.agg #[.int .i64 0, .string ⟨#[]⟩, .int .i64 0, .int .i64 0, .string ⟨#[]⟩, .slice none 0 0]) = .agg [A2 0, A6 [], A2 0, A2 0, A6 [], .nil] := rfl
attribute [go_sem] nk
theorem gA {Hp : List AObj} {o ox : Nat} {z A B : AObj} (ho : Hp[o]? = some z) (hne : ox ≠ o) : ((Hp.set o A).set ox B)[o]? = some A := by rw [List.getElem?_set_ne hne]; exact getset ho
theorem gB {Hp : List AObj} {o ox : Nat} {z A B : AObj} (hox : Hp[ox]? = some z) : ((Hp.set o A).set ox B)[ox]? = some B := by
 have := (List.getElem?_eq_some_iff.1 hox).1
 simp [this]
theorem jv {Hp : List AObj} {o ox : Nat} {A A' B : AObj} (hne : ox ≠ o) : ((Hp.set o A).set ox B).set o A' = (Hp.set o A').set ox B := by rw [List.set_comm _ _ hne, List.set_set]
theorem K8 (ks : List Expr) (x : Expr) : ks.map A4 ++ [.agg [.v (.int .i64 x.op), .v (sv x.text), .v (.int .i64 x.val.kind), .v (.int .i64 x.val.n), .v (sv x.val.s), .slice false 6 (x.kids.map A4)]] = (ks ++ [x]).map A4 := by rw [List.map_append, List.map_cons, List.map_nil, Ab x]
theorem yk (l : List Tok) (S : PS) (t : Str) (Dv : Fam) (o ox : Nat) (Hp : List AObj) (hne : ox ≠ o) (ho : Hp[o]? = some (pr l S)) (hox : Hp[ox]? = some (xo true t [])) (hi : S.i < l.length) (hl : TokEnd l) (hll : l.length ≤ 1048576) (hf : Cn l S.nest Dv.ei) (hcf : PC 219 l Dv.ei S.nest) : ACall Tryz.prog 269 [.ptr ox 0, .ro [.ptr o 0]] Hp (fun r H' => r = A4 (.mk 6 t noV (Ex l Dv.ei S).1) ∧ H' = (Hp.set o (pr l (Ex l Dv.ei S).2)).set ox (xo true t (Ex l Dv.ei S).1)) := by
 have hoxl := (List.getElem?_eq_some_iff.1 hox).1
 have hol := (List.getElem?_eq_some_iff.1 ho).1
 refine ACall.body [.cell 2 45] [0, 1] Tryz.func269 Tryz.ntmps269 (fun d => ?_)
 refine Z33 ?_;refine R.fin [0, 1, 2] ?_
 refine W.drawT [0, 1, 0, 4, 3, 0, 63, 127, 255, 127, 639] [1, 3] [.q 1 [] [0], .s [4] (some 0) [] [], .q 1 [] [1], .s [6] (some 1) [] [], .q 2 [] []] (fun B => (Hp.set o (if B 1 = true then pr l (Dv.ei S).2 else pr l S)).set ox (if B 0 = true then xo false t [] else xo true t [])) (fun _ => [Gx]) Aa (by kernel_rfl) (by simp only [Bool.false_eq_true, if_false]; rw [Du ho, Du hox]) rfl (fun B => by simp) ?_
 apply Y.q
 case h1 =>
  intro B hT hF
  exact Z75
 case hTF => decide
 refine Y.loadUpT (o := ox) (t' := 45) (cs := [A2 6, A6 t, A2 0, A2 0, A6 [], .slice true 6 ([].map A4)]) (cs' := [A2 6, A6 t, A2 0, A2 0, A6 [], .slice false 6 ([].map A4)]) Tryz.isAgg43 (fun B hB => ⟨by simp only [hB]; exact gB hox, by simp [upd, List.set_set] <;> rfl, rfl⟩) ?_
 apply Y.q
 case h1 =>
  intro B hT hF
  exact Z75
 case hTF => decide
 refine Y.callUp (r := A4 (Dv.ei S).1) (o := o) (x0 := pr l S) (x := pr l (Dv.ei S).2) Tryz.call219 (fun B hT hF hB => ⟨by simp only [hB]; exact gA ho hne, ?_, rfl, Bk, ?_⟩) ?_
 ·simp only [upd, hB, Nat.reduceEqDiff, if_false, if_true, Bool.false_eq_true]
  exact (jv hne).symm
 ·simp only [hB]
  exact hcf o _ S (A5 (gA ho hne)) hi rfl
 apply Y.q
 case h1 =>
  intro B hT hF
  exact ax
 case hTF => decide
 refine Y.appendPut (tn := [1, 3]) (U := (Hp.set o (pr l (Dv.ei S).2)).set ox (xo false t [])) (O := [Gx]) (o := ox) (t' := 45) (cs := [A2 6, A6 t, A2 0, A2 0, A6 [], .slice false 6 ([].map A4)]) (by kernel_rfl) jU Tryz.type45 Tryz.sizeOf45 Tryz.sizeOf43 jU (A5 (gB hox)) ?_ ?_ ?_ (hfsz := Tryz.sizeOf43)
 ·simp [Tryz.t45]
 ·simp [Tryz.t45]
 refine R.go ?_
 refine R.storeUpT jS (gB hox) ?_ ?_
 ·first | (rw [K8]; exact Cu) | (have := Cu (n := ((Hp.set o (pr l (Dv.ei S).2)).set ox (xo false t [])).length) (k := 6) (o := true) (l := [(Dv.ei S).1]); simp only [List.map_cons, List.map_nil, Ab] at this; exact this)
 refine R.fin [0, 1, 2] ?_;refine W.seq ?_
 refine AW.loopC (α := List Expr × PS) (fun r => ⟨34, A3 0 (.ptr ox 0) (A3 1 (.ro [.ptr o 0]) (A3 2 (.ptr (oid Hp.length 0) 0) (fun _ => .any))), (Hp.set o (pr l r.2)).set ox (xo true t r.1), [Gx], [], none⟩) (fun r => ArgsAt l Dv.ei S r) (fun r => l.length - r.2.i) (([(Dv.ei S).1], (Dv.ei S).2)) (.start (hf S hi rfl)) (StLe.of_eq (by simp [List.set_set, xo, Ab])) rfl (fun r hx => ?_)
 refine Z54 ?_
 refine R.gw (h := Q.loadUp (gA ho hne)) (hr := ?_)
 refine Jt ?_;refine G.call Tryz.call249 (fun hB => Uv l r.2 Ov o _ (A5 (gA ho hne)) hx.fact.lt hl (by decide)) ?_;refine R.go ?_;refine R.fin [0, 1, 2, 21] ?_
 refine W.cond (fun ht21 => ?_) (fun ht21 => ?_)
 ·have hon := hx.on hl ht21 hf
  have hle := hon.2.1.le
  have hlt0 := hx.fact.lt
  refine Z5 ?_;refine AW.block ?_;refine Z2 ?_;refine R.callUp Tryz.call250 (gA ho hne) (by simp) Bk (j5 l r.2 o _ (A5 (gA ho hne)) hx.fact.lt hll) ?_;refine R.fin [0, 1, 2] ?_
  refine W.drawT0 [0, 1, 0, 4, 3, 0, 63, 127, 255, 127, 639] [1, 3] [.q 1 [] [0], .s [25] (some 0) [] [], .q 1 [] [1], .s [27] (some 1) [] [], .q 2 [] []] (fun B => (Hp.set o (if B 1 = true then pr l (Dv.ei (A9 r.2)).2 else pr l (A9 r.2))).set ox (if B 0 = true then xo false t r.1 else xo true t r.1)) (fun _ => [Gx]) Aa (by kernel_rfl) (by simp only [Bool.false_eq_true, if_false]; exact (jv hne).symm) rfl (fun B => by simp) ?_
  apply Y.q
  case h1 =>
   intro B hT hF
   exact Z75
  case hTF => decide
  refine Y.loadUpT (o := ox) (t' := 45) (cs := [A2 6, A6 t, A2 0, A2 0, A6 [], .slice true 6 (r.1.map A4)]) (cs' := [A2 6, A6 t, A2 0, A2 0, A6 [], .slice false 6 (r.1.map A4)]) Tryz.isAgg43 (fun B hB => ⟨by simp only [hB]; exact gB hox, by simp [upd, List.set_set] <;> rfl, rfl⟩) ?_
  apply Y.q
  case h1 =>
   intro B hT hF
   exact Z75
  case hTF => decide
  refine Y.callUp (r := A4 (Dv.ei (A9 r.2)).1) (o := o) (x0 := pr l (A9 r.2)) (x := pr l (Dv.ei (A9 r.2)).2) Tryz.call219 (fun B hT hF hB => ⟨by simp only [hB]; exact gA ho hne, ?_, rfl, Bk, ?_⟩) ?_
  ·simp only [upd, hB, Nat.reduceEqDiff, if_false, if_true, Bool.false_eq_true]
   exact (jv hne).symm
  ·simp only [hB]
   exact hcf o _ (A9 r.2) (A5 (gA ho hne)) hon.1 hx.fact.nest
  apply Y.q
  case h1 =>
   intro B hT hF
   exact ax
  case hTF => decide
  refine Y.appendPut (tn := [1, 3]) (U := (Hp.set o (pr l (Dv.ei (A9 r.2)).2)).set ox (xo false t r.1)) (O := [Gx]) (o := ox) (t' := 45) (cs := [A2 6, A6 t, A2 0, A2 0, A6 [], .slice false 6 (r.1.map A4)]) (by kernel_rfl) jU Tryz.type45 Tryz.sizeOf45 Tryz.sizeOf43 jU (A5 (gB hox)) ?_ ?_ ?_ (hfsz := Tryz.sizeOf43)
  ·have := hx.fact.len; have := hx.fact.lt; simp only [List.length_map, Tryz.t45]; omega
  ·have := hx.fact.len; have := hx.fact.lt; simp only [List.length_map, Tryz.t45]; omega
  refine R.go ?_
  refine R.storeUpT jS (gB hox) ?_ ?_
  ·first | (rw [K8]; exact Cu) | (have := Cu (n := ((Hp.set o (pr l (Dv.ei S).2)).set ox (xo false t [])).length) (k := 6) (o := true) (l := [(Dv.ei S).1]); simp only [List.map_cons, List.map_nil, Ab] at this; exact this)
  refine R.fin [0, 1, 2] ?_;refine K.blN ?_
  refine K.lpN (r.1 ++ [(Dv.ei (A9 r.2)).1], (Dv.ei (A9 r.2)).2) hon.2.2 (by show l.length - (Dv.ei (A9 r.2)).2.i < l.length - r.2.i; have : r.2.i + 1 ≤ (Dv.ei (A9 r.2)).2.i := hle; omega) (StCut.of_eq ?_)
  simp only [show Tryz.t45.size = 6 from rfl, K8, List.set_set]
 have hout := hx.out (by rw [ht21]; simp)
 refine Z42 ?_;refine Cs ?_
 refine R.gw (h := Q.loadUpN (gB hox)) (hr := ?_)
 refine Z13 ?_;exact K.fin (V.one (V.cellN jA jS)) ⟨by rw [hout, T0]; rfl, by rw [hout]⟩ (hlow := by have := Ad Hp.length (.mk 6 t noV r.1); rw [T0] at this; simpa using this)

/-- within, with the function that gathers a call's kids. -/
theorem vk (l : List Tok) (S : PS) (a : Int) (t : Str) (Dv : Fam) (o : Nat) (Hp : List AObj) (A0 A1 : AObj) (l0 : ObjLow 0 A0) (ho : Hp[o]? = some (pr l S)) (hi : S.i < l.length) (hl : TokEnd l) (hll : l.length ≤ 1048576) (hnl : S.nest ≤ 30) (hd : DeepC l Dv S.nest) :
  ACall Tryz.prog 260 [.ptr o 0, A2 a, .fn (.func 269) [] [.ptr (oid Hp.length 2) 0, .ro [.ptr o 0]]] (Hp ++ [A0, A1, xo true t []]) (fun r H' => r = A4 (if S.nest = 30 then Ap else .mk 6 t noV (Mq l a Dv.ei S).1) ∧ H' = Hp.set o (pr l (Mq l a Dv.ei S).2) ++ [A0, A1, xo true t (Mq l a Dv.ei S).1]) := by
 have hlt := (List.getElem?_eq_some_iff.1 ho).1
 have ho' : (Hp ++ [A0, A1, xo true t []])[o]? = some (pr l S) := A5 ho
 by_cases h30 : S.nest = 30
 ·refine (mj l S a 269 [] [.ptr (oid Hp.length 2) 0, .ro [.ptr o 0]] Ap (Br S) o (Hp ++ [A0, A1, xo true t []]) ((Hp ++ [A0, A1, xo true t []]).set o (pr l (Br S))) ho' (by omega) Tryz.call269 (by simp) (getset ho') rfl (fun h => h) (fun h => absurd h30 h)).mono fun r H' h => ?_
  have e : Mq l a Dv.ei S = ([], Cg 18 a S) := if_pos (by rw [h30]; rfl)
  rw [e, if_pos h30]
  obtain ⟨h1, h2⟩ := h.1 h30
  exact ⟨h1, by rw [h2, List.set_append_left _ _ hlt]⟩
 have hq := Oy (S := Br S) hl hi (hd.ei h30).1
 refine (mj l S a 269 [] [.ptr (oid Hp.length 2) 0, .ro [.ptr o 0]] (.mk 6 t noV (Ex l Dv.ei (Br S)).1) (Ex l Dv.ei (Br S)).2 o (Hp ++ [A0, A1, xo true t []]) (Hp.set o (pr l (Ex l Dv.ei (Br S)).2) ++ [A0, A1, xo true t (Ex l Dv.ei (Br S)).1]) ho' (by omega) Tryz.call269 (by simp) (A5 (getset ho)) hq.nest (fun h y hy => ?_) (fun _ own => ?_)).mono fun r H' h => ?_
 ·rw [List.set_append_left _ _ hlt] at h
  rcases List.mem_append.1 hy with hy | hy
  ·rcases List.mem_or_eq_of_mem_set hy with h1 | h1
   ·obtain ⟨i, hi', rfl⟩ := List.getElem_of_mem h1
    by_cases hio : i = o
    ·subst hio
     have : Hp[i] = pr l S := by rw [List.getElem?_eq_getElem hi'] at ho; injection ho
     rw [this]; exact Bk
    refine h _ (List.mem_append_left _ ?_)
    rw [List.mem_iff_getElem?]
    exact ⟨i, by rw [List.getElem?_set_ne (Ne.symm hio), List.getElem?_eq_getElem hi']⟩
   rw [h1]; exact Bk
  simp only [List.mem_cons, List.not_mem_nil, or_false] at hy
  rcases hy with rfl | rfl | rfl
  ·exact h _ (List.mem_append_right _ (by simp))
  ·exact h _ (List.mem_append_right _ (by simp))
  exact rg
 ·have hoid : oid Hp.length 2 ≠ o := by unfold oid; omega
  have e1 : (Hp ++ [A0, A1, xo true t []]).set o (pr l (Br S)) ++ own = (Hp.set o (pr l (Br S)) ++ [A0, A1, xo true t []]) ++ own := by rw [List.set_append_left _ _ hlt]
  rw [e1]
  have g1 : ((Hp.set o (pr l (Br S)) ++ [A0, A1, xo true t []]) ++ own)[o]? = some (pr l (Br S)) := A5 (A5 (getset ho))
  have g2 : ((Hp.set o (pr l (Br S)) ++ [A0, A1, xo true t []]) ++ own)[oid Hp.length 2]? = some (xo true t []) := A5 (by
   have := Al (U := Hp.set o (pr l (Br S))) (O := [A0, A1, xo true t []]) (n := 2)
   rw [List.length_set] at this
   exact this)
  refine (yk l (Br S) t Dv o (oid Hp.length 2) _ hoid g1 g2 hi hl hll (hd.ei h30).1 (hd.ei h30).2).mono fun r H' h => ⟨h.1, h.2.trans ?_⟩
  rw [List.append_assoc, List.set_append_left _ _ (by simpa using hlt), List.set_set]
  have := D4 (U := Hp.set o (pr l (Ex l Dv.ei (Br S)).2)) (O := [A0, A1, xo true t []] ++ own) (n := 2) (x := xo true t (Ex l Dv.ei (Br S)).1)
  rw [List.length_set] at this
  rw [this]
  simp
 have e : Mq l a Dv.ei S = ((Ex l Dv.ei (Br S)).1, Qv (Ex l Dv.ei (Br S)).2) := if_neg (by
  show ¬ (((S.nest : Int) == 30) = true)
  simp
  omega)
 rw [e, if_neg h30]
 obtain ⟨h1, h2⟩ := h.2 h30
 exact ⟨h1, by rw [h2, List.set_append_left _ _ (by simpa using hlt), List.set_set]⟩
theorem yl (l : List Tok) (S : PS) (Dv : Fam) (t : Tok) (o : Nat) (Hp : List AObj) (ho : Hp[o]? = some (pr l S)) (hi : (A9 S).i < l.length) (hl : TokEnd l) (hll : l.length ≤ 1048576) (hnl : S.nest ≤ 30) (hd : DeepC l Dv S.nest) : ACall Tryz.prog 267 [.ptr o 0, Fw t] Hp (fun r H' => r = A4 (Ey l Dv t S).1 ∧ H' = Hp.set o (pr l (Ey l Dv t S).2)) := by
 have hi0 : S.i < l.length := by have : S.i + 1 < l.length := hi; omega
 have hol := (List.getElem?_eq_some_iff.1 ho).1
 have hkf : KFact l (A9 S) (C2 l Dv S) := Oz hl _ hi (fun h => (hd.ei h).1)
 refine ACall.body [.cell 4 45] [0, 1] Tryz.func267 Tryz.ntmps267 (fun d => ?_)
 refine Z1 ?_;refine Ju ?_;refine R.fin [2, 3, 4] ?_;refine Z1 ?_;refine R.call Tryz.call110 (qi t.text _) ?_;refine R.go ?_;refine R.fin [2, 3, 4, 5] ?_;refine Z8 ?_;refine R.fin [2, 3, 4, 5, 12] ?_
 refine W.cond (fun ht12 => ?_) (fun ht12 => ?_)
 ·have hlt0 : D5 t.text < 0 := by simpa using ht12
  have e : Ey l Dv t S = (Ap, Cg 9 t.at_ S) := if_pos hlt0
  refine Z20 ?_;refine R.callUp Tryz.call221 ho (by simp) Bk (cn l S 9 t.at_ o _ (A5 ho)) ?_;refine En ?_;refine Z23 ?_;exact Z74
 have hge : ¬ D5 t.text < 0 := by simpa using ht12
 refine Kl ?_;refine R.callUp Tryz.call250 ho (by simp) Bk (j5 l S o _ (A5 ho) hi0 hll) ?_;refine Z21 ?_;refine R.fin [2, 3, 4, 5, 6] ?_;refine p8 ?_;refine Z21 ?_;refine R.fin [2, 3, 4, 5, 6, 7] ?_;refine Cs ?_;refine R.nilCell 2 5 6 ?_;refine Z24 ?_;refine Ja ?_
 refine R.callX (up' := (Hp.set o (pr l (A9 S))).set o (pr l (C2 l Dv S).2)) (own' := [Gx, .cells 125 [A2 (A7 l S.i).kind, A6 (A7 l S.i).text, A2 (A7 l S.i).at_], xo true t.text (C2 l Dv S).1]) Tryz.call260 (by have := vk l (A9 S) (A7 l S.i).at_ t.text Dv o (Hp.set o (pr l (A9 S))) Gx (.cells 125 [A2 (A7 l S.i).kind, A6 (A7 l S.i).text, A2 (A7 l S.i).at_]) Yw (getset ho) hi hl hll hnl hd; rw [List.length_set] at this; exact this) (by simp) (fun h => mm h Bk) ?_
 refine R.fin [2, 3, 4, 5, 7] ?_;refine Z2 ?_;refine R.callUp Tryz.call268 (getset (getset ho)) (by simp) Bk (ur l (C2 l Dv S).2 D8 o _ (A5 (getset (getset ho))) hkf.lt hll) ?_;refine R.fin [2, 3, 4, 5, 7] ?_;refine Z54 ?_
 refine R.gw (h := Q.loadUp (getset (getset (getset ho)))) (hr := ?_)
 refine Z62 ?_;refine Z68 ?_;refine R.fin [2, 3, 4, 7, 41] ?_
 refine W.cond (fun ht41 => ?_) (fun ht41 => ?_)
 ·have e : Ey l Dv t S = (Ap, Cg 8 t.at_ (Db l D8 (C2 l Dv S).2)) := by
   unfold Ey
   rw [if_neg hge, if_pos (by have := ht41; simp only [List.length_map] at this; exact this)]
  refine Z20 ?_;refine R.callUp Tryz.call221 (getset (getset (getset ho))) (by simp) Bk (cn l (Db l D8 (C2 l Dv S).2) 8 t.at_ o _ (A5 (getset (getset (getset ho))))) ?_;refine En ?_;refine Z23 ?_;refine K.thR ?_;exact K.fin (V.one (V.cellN jA jS)) ⟨by rw [e, Ab], by rw [e, List.set_set, List.set_set, List.set_set]⟩ (hlow := low_agg _)
 have e : Ey l Dv t S = (.mk 6 t.text noV (C2 l Dv S).1, (Db l D8 (C2 l Dv S).2)) := by
  unfold Ey
  rw [if_neg hge, if_neg (by have := ht41; simp only [List.length_map] at this; rw [Bool.eq_false_iff] at this; exact this)]
 refine Kl ?_;refine En ?_;refine Z23 ?_;exact K.fin (V.one (V.cellN jA jS)) ⟨by rw [e, T0]; rfl, by rw [e, List.set_set, List.set_set]⟩ (hlow := by have := Ad Hp.length (.mk 6 t.text noV (C2 l Dv S).1); rw [T0] at this; simpa using this)

theorem dd {l : List Tok} (hl : TokEnd l) (hll : l.length ≤ 1048576) (n : Nat) (Dv : Fam) (hn : n ≤ 30) (hd : DeepC l Dv n) : Uw l Dv n := fun o Hp S t ho hi hS _ _ => by
 subst hS
 exact yl l S Dv t o Hp ho hi hl hll hn hd
/-! fuse.Forth and plan.Text. -/
theorem Vf {c : List Col} {m : Mov} (h : (Av c m).2 = 0) : (Av c m).1 = Bu c m.take ++ Af c m ∧ Bb c = true ∧ Bb (Av c m).1 = true := by
 unfold Av at h ⊢
 split at h
 ·rename_i h1
  exact absurd h (by simpa using h1)
 rename_i h1
 rw [if_neg h1]
 split at h
 ·rename_i h2
  exact absurd h (by simpa using h2)
 rename_i h2
 rw [if_neg h2]
 split at h
 ·rename_i h3
  exact absurd h (by simpa using h3)
 rename_i h3
 rw [if_neg h3]
 obtain ⟨a, _, b, d, e⟩ := mg (by simpa using h1 : (Bi c m.take (Af c m)).2 = 0)
 rw [e]
 refine ⟨rfl, a, ?_⟩
 unfold Bb
 rw [b, Bool.and_true]
 refine decide_eq_true ?_
 show ((Bu c m.take ++ Af c m).length : Int) ≤ 12
 omega
/-! The text. -/
/-! ONE LINE EACH. -/
theorem Xx {c : List Col} {ms : List Mov} (he : (Ai c ms).2 = 0) : ∀ k, k ≤ ms.length → NS c ms k
 | 0, _ => n9
 | k + 1, h => by
  have ih := Xx he k (by omega)
  have hk : ms[k]? = some ms[k] := List.getElem?_eq_getElem (by omega)
  by_cases ht : (Av (colsAt c ms k) ms[k]).2 = 0
  ·exact Nf hk ih ht
  exact absurd ((Sw hk ih ht).symm.trans he) ht
theorem nl {c : List Col} {ms : List Mov} (he : (Ai c ms).2 = 0) {k : Nat} {m : Mov} (hk : ms[k]? = some m) : (Av (colsAt c ms k) m).2 = 0 := by
 have hl := (List.getElem?_eq_some_iff.1 hk).1
 by_cases ht : (Av (colsAt c ms k) m).2 = 0
 ·exact ht
 exact absurd ((Sw hk (Xx he k (by omega)) ht).symm.trans he) ht
theorem Vg {c : List Col} {ms : List Mov} : ∀ {n k : Nat}, k ≤ n → (B6 c ms n)[k]? = some (colsAt c ms k)
 | 0, k, h => by
  have : k = 0 := by omega
  subst this; rfl
 | n + 1, k, h => by
  have hl := Cb c ms n
  rw [B6]
  by_cases e : k = n + 1
  ·subst e
   rw [List.getElem?_append_right (by omega), hl, Nat.sub_self]
   rfl
  rw [List.getElem?_append_left (by omega)]
  exact Vg (by omega)
theorem Hq {c : List Col} {ms : List Mov} (hc : Bb c = true) (he : (Ai c ms).2 = 0) : ∀ k, Bb (colsAt c ms k) = true
 | 0 => hc
 | k + 1 => by
  cases hk : ms[k]? with
  | none =>
   rw [colsAt, hk]
   exact Hq hc he k
  | some m =>
   rw [G8 hk]
   exact (Vf (nl he hk)).2.2
/-- What a sound migration comes to. -/
theorem K9 {c : List Col} {ms : List Mov} (h : ((Au c ms).2 != 0) = false) : Fa c ms = true ∧ (Ai c ms).2 = 0 ∧ Au c ms = (B6 c ms ms.length, 0) := by
 cases hm : Fa c ms with
 | false => rw [R5 hm] at h; cases h
 | true =>
  by_cases he : (Ai c ms).2 = 0
  ·have e := Sx (Xx he ms.length (Nat.le_refl _))
   exact ⟨rfl, he, R6 hm e⟩
  rw [Pa hm he] at h
  exact absurd (by simpa using h) he
theorem M5 {c : List Col} {ms : List Mov} (h : ((Au c ms).2 != 0) = false) : Cx c ms = (colsAt c ms ms.length, 0) := by
 obtain ⟨_, _, e⟩ := K9 h
 unfold Cx
 rw [if_neg (by rw [h]; simp), e]
 show ((B6 c ms ms.length).getLastD [], _) = _
 rw [List.getLastD_eq_getLast?, List.getLast?_eq_getElem?, Cb]
 have := Vg (c := c) (ms := ms) (n := ms.length) (Nat.le_refl _)
 rw [show ms.length + 1 - 1 = ms.length from rfl, this]
 rfl
/-! SoundJoins: one behind the other, in one. -/
theorem de {c : List Col} {l : List Mov} (h : Fa c l = true) : Cx c l = if (Ai c l).2 != 0 then ([], (Ai c l).2) else ((Ai c l).1.getLastD [], 0) := by
 have e : Ay c l = Ai c l := if_pos h
 unfold Cx Au
 rw [e]
 by_cases h1 : ((Ai c l).2 != 0) = true
 ·rw [if_pos h1, if_pos h1, if_pos h1]
 rw [if_neg h1, if_neg h1]
theorem np {c : List Col} {l : List Mov} (h : (Cx c l).2 = 0) : Fa c l = true ∧ (Ai c l).2 = 0 ∧ (Cx c l).1 = (Ai c l).1.getLastD [] ∧ Bb (Cx c l).1 = true := by
 have hS : ((Au c l).2 != 0) = false := by
  by_cases h1 : ((Au c l).2 != 0) = true
  ·unfold Cx at h
   rw [if_pos h1] at h
   simp only at h
   rw [h] at h1; cases h1
  simpa using h1
 obtain ⟨h1, h2, h3⟩ := K9 hS
 have h4 := M5 hS
 have hc : Bb c = true := by unfold Fa at h1; simp only [Bool.and_eq_true] at h1; exact h1.1
 refine ⟨h1, h2, ?_, by rw [h4]; exact Hq hc h2 _⟩
 rw [de h1, if_neg (by rw [h2]; simp)]
theorem dg {c : List Col} (hc : OkCols c) {l : List Mov} (h : OkMovs l) : OkCols (Cx c l).1 ∧ (Cx c l).1.length ≤ 1000000 := by
 have h0 : OkCols ([] : List Col) := ⟨by decide, fun y hy => by cases hy⟩
 by_cases h1 : ((Au c l).2 != 0) = true
 ·have e : Cx c l = ([], (Au c l).2) := by unfold Cx; rw [if_pos h1]
  rw [e]; exact ⟨h0, Nat.zero_le _⟩
 have hS : ((Au c l).2 != 0) = false := by simpa using h1
 have e := M5 hS
 have h2 : (Cx c l).2 = 0 := by rw [e]
 have hr := (np h2).2.2.2
 refine ⟨by rw [e]; exact Fc hc (fun m hm => h.each m hm) _, ?_⟩
 unfold Bb at hr
 simp only [Bool.and_eq_true, decide_eq_true_eq] at hr
 omega
/-! What is lost is lost. -/
theorem Xy {kd : Int} {nm s : Str} {st : List Str × List Str} (h : nm ∈ st.2) : nm ∈ (E7 kd st s).2 ∧ (nm ∈ (E7 kd st s).1 ↔ nm ∈ st.1) := by
 refine ⟨List.mem_append_left _ h, ?_⟩
 show nm ∈ (if _ then _ else _ : List Str) ↔ _
 split
 ·rename_i h1
  constructor
  ·intro h2
   rcases List.mem_append.1 h2 with h2 | h2
   ·exact h2
   rw [List.mem_singleton.1 h2] at h
   simp only [Bool.and_eq_true, Bool.not_eq_true'] at h1
   rw [List.contains_iff_mem.2 h] at h1
   exact absurd h1.2 (by simp)
  exact fun h2 => List.mem_append_left _ h2
 exact Iff.rfl
theorem Ka {kd : Int} {nm : Str} : ∀ (ns : List Str) (st : List Str × List Str), nm ∈ st.2 → nm ∈ (ns.foldl (E7 kd) st).2 ∧ (nm ∈ (ns.foldl (E7 kd) st).1 ↔ nm ∈ st.1)
 | [], st, h => ⟨h, Iff.rfl⟩
 | s :: r, st, h => by
  obtain ⟨a, b⟩ := Xy (kd := kd) (s := s) h
  obtain ⟨c, d⟩ := Ka r _ a
  exact ⟨c, d.trans b⟩
theorem Mv {kd : Int} {nm s : Str} {st : List Str × List Str} (h : nm ∉ st.2) (hs : s ≠ nm) : nm ∉ (E7 kd st s).2 ∧ (nm ∈ (E7 kd st s).1 ↔ nm ∈ st.1) := by
 refine ⟨fun h2 => ?_, ?_⟩
 ·rcases List.mem_append.1 h2 with h2 | h2
  ·exact h h2
  exact hs (List.mem_singleton.1 h2).symm
 show nm ∈ (if _ then _ else _ : List Str) ↔ _
 split
 ·constructor
  ·intro h2
   rcases List.mem_append.1 h2 with h2 | h2
   ·exact h2
   exact absurd (List.mem_singleton.1 h2).symm hs
  exact fun h2 => List.mem_append_left _ h2
 exact Iff.rfl
theorem Xz {kd : Int} {nm : Str} {st : List Str × List Str} (h : nm ∉ st.2) (h1 : nm ∉ st.1) : nm ∈ (E7 kd st nm).2 ∧ (nm ∈ (E7 kd st nm).1 ↔ kd = 2) := by
 refine ⟨List.mem_append_right _ (List.mem_singleton.2 rfl), ?_⟩
 have hc : st.2.contains nm = false := by
  cases hh : st.2.contains nm with
  | false => rfl
  | true => exact absurd (List.contains_iff_mem.1 hh) h
 show nm ∈ (if _ then _ else _ : List Str) ↔ _
 rw [hc]
 by_cases hk : kd = 2
 ·subst hk
  simp
 rw [if_neg (by simp [hk])]
 exact ⟨fun h2 => absurd h2 h1, fun h2 => absurd h2 hk⟩
theorem Re {kd : Int} {nm : Str} : ∀ (ns : List Str) (st : List Str × List Str), nm ∉ ns → nm ∉ st.2 → nm ∉ (ns.foldl (E7 kd) st).2 ∧ (nm ∈ (ns.foldl (E7 kd) st).1 ↔ nm ∈ st.1)
 | [], st, _, h => ⟨h, Iff.rfl⟩
 | s :: r, st, hn, h => by
  obtain ⟨a, b⟩ := Mv (kd := kd) (s := s) h (fun e => hn (by rw [e]; exact List.mem_cons_self))
  obtain ⟨c, d⟩ := Re r _ (fun e => hn (List.mem_cons_of_mem _ e)) a
  exact ⟨c, d.trans b⟩
theorem Vh {kd : Int} {nm : Str} : ∀ (ns : List Str) (st : List Str × List Str), nm ∈ ns → nm ∉ st.2 → nm ∉ st.1 → nm ∈ (ns.foldl (E7 kd) st).2 ∧ (nm ∈ (ns.foldl (E7 kd) st).1 ↔ kd = 2)
 | [], st, hn, _, _ => by cases hn
 | s :: r, st, hn, h, h1 => by
  by_cases hs : s = nm
  ·subst hs
   obtain ⟨a, b⟩ := Xz (kd := kd) h h1
   obtain ⟨c, d⟩ := Ka r _ a
   exact ⟨c, d.trans b⟩
  obtain ⟨a, b⟩ := Mv (kd := kd) (s := s) h hs
  have hr : nm ∈ r := by
   rcases List.mem_cons.1 hn with e | e
   ·exact absurd e.symm hs
   exact e
  exact Vh r _ hr a (fun e => h1 (b.1 e))
theorem Vi {nm : Str} {m : Mov} {st : List Str × List Str} (h : nm ∈ st.2) : nm ∈ (Ip st m).2 ∧ (nm ∈ (Ip st m).1 ↔ nm ∈ st.1) := by
 obtain ⟨a, b⟩ := Ka (kd := m.kind) (m.take.take m.take.length) st h
 exact ⟨List.mem_append_left _ a, b⟩
theorem Pd {nm : Str} : ∀ (l : List Mov) (st : List Str × List Str), nm ∈ st.2 → (nm ∈ (l.foldl Ip st).1 ↔ nm ∈ st.1)
 | [], st, _ => Iff.rfl
 | m :: r, st, h => by
  obtain ⟨a, b⟩ := Vi (m := m) h
  exact (Pd r _ a).trans b
theorem Vj {c : List Col} {m : Mov} : (Af c m).map (·.name) = m.give.map (·.name) := by
 unfold Af
 split
 ·split
  ·rfl
  cases m.give <;> rfl
 rfl
theorem gone_iff {m : Mov} {nm : Str} : L4 m nm m.take.length = true ↔ nm ∈ m.take := by
 unfold L4
 rw [List.take_length, List.any_eq_true]
 constructor
 ·rintro ⟨s, hs, e⟩
  rw [← beq_iff_eq.1 e]; exact hs
 exact fun h => ⟨nm, h, by simp⟩
theorem Vk {nm : Str} : ∀ (l : List Mov) (c : List Col) (st : List Str × List Str), (Ai c l).2 = 0 → nm ∈ c.map (·.name) → nm ∉ st.2 → nm ∉ st.1 → (nm ∈ (l.foldl Ip st).1 ↔ Dp nm l = true)
 | [], c, st, _, _, _, h1 => by simp [Dp, h1]
 | m :: r, c, st, he, hc, h2, h1 => by
  have ht : (Av c m).2 = 0 ∧ (Ai (Av c m).1 r).2 = 0 := by
   rw [Ai] at he
   by_cases hh : ((Av c m).2 != 0) = true
   ·rw [if_pos hh] at he
    simp only at he
    rw [he] at hh; cases hh
   rw [if_neg hh] at he
   exact ⟨by simpa using hh, he⟩
  obtain ⟨e1, e2, e3⟩ := Vf ht.1
  rw [List.foldl_cons, Dp]
  by_cases hg : L4 m nm m.take.length = true
  ·rw [if_pos hg]
   obtain ⟨a, b⟩ := Vh (kd := m.kind) (m.take.take m.take.length) st (by rw [List.take_length]; exact gone_iff.1 hg) h2 h1
   refine (Pd r _ (List.mem_append_left _ a)).trans (b.trans ?_)
   simp
  rw [if_neg hg]
  have hn : nm ∉ m.take := fun h => hg (gone_iff.2 h)
  obtain ⟨a, b⟩ := Re (kd := m.kind) (m.take.take m.take.length) st (by rw [List.take_length]; exact hn) h2
  have hstay : nm ∈ (Bu c m.take).map (·.name) := by
   obtain ⟨y, hy, hyn⟩ := List.mem_map.1 hc
   refine List.mem_map.2 ⟨y, List.mem_filter.2 ⟨hy, ?_⟩, hyn⟩
   have hyn' : y.name = nm := hyn
   rw [hyn']
   simpa using hn
  have hnd : (((Av c m).1).map (·.name)).Nodup := by
   unfold Bb at e3
   simp only [Bool.and_eq_true] at e3
   exact (iu e3.2).2
  rw [e1, List.map_append, Vj] at hnd
  have hgv : nm ∉ m.give.map (·.name) := fun hh => (List.nodup_append.1 hnd).2.2 nm hstay nm hh rfl
  refine Vk r (Av c m).1 _ ht.2 ?_ ?_ (fun e => h1 (b.1 e))
  ·rw [e1, List.map_append]
   exact List.mem_append_left _ hstay
  intro hh
  rcases List.mem_append.1 hh with hh | hh
  ·exact a hh
  exact hgv hh
theorem nq {c : List Col} {l : List Mov} (hmay : Fa c l = true) (he : (Ai c l).2 = 0) : Iq c l = R9 c l := by
 have hck : (Dl c l).2 = 0 := by
  unfold Dl
  rw [if_pos hmay]
  exact he
 unfold Iq R9
 rw [if_neg (by rw [hck]; simp)]
 congr 1
 refine List.filter_congr fun x hx => ?_
 have h := Vk (nm := x.name) l c ([], []) he (List.mem_map.2 ⟨x, hx, rfl⟩) (by simp) (by simp)
 show (C3 l).1.contains x.name = Dp x.name l
 cases hk : Dp x.name l with
 | true => rw [hk] at h; exact List.contains_iff_mem.2 (h.2 rfl)
 | false =>
  rw [hk] at h
  cases hh : (C3 l).1.contains x.name with
  | false => rfl
  | true => exact absurd (h.1 (List.contains_iff_mem.1 hh)) (by simp)
/-! mig.Parse: the first fault is Ec. -/
inductive PR (α : Type) where
 | ok (r : α) (i : Nat)
 | bad (e a : Int)
def PR.bind {α β : Type} (x : PR α) (f : α → Nat → PR β) : PR β := match x with
 | .ok r i => f r i
 | .bad e a => .bad e a
def Rf {α : Type} (L : List Tok) (i : Nat) (e : Int) : PR α := .bad e (A7 L i).at_
def isP (L : List Tok) (s : Str) (i : Nat) : Bool := (((A7 L i).kind == 5) || ((A7 L i).kind == 2)) && ((A7 L i).text == s)
def Bf (L : List Tok) (s : Str) (i : Nat) : PR Unit := if isP L s i then .ok () (i + 1) else Rf L i 8
def E8 (L : List Tok) (i : Nat) : PR Str := if (A7 L i).kind != 1 then Rf L i 8 else .ok (A7 L i).text (i + 1)
def Zi (L : List Tok) (nm : Str) (j : Nat) : PR Col := if ((A7 L j).kind != 2) || (Mo (A7 L j).text == 0) then Rf L j 8 else .ok ⟨nm, Mo (A7 L j).text⟩ (j + 1)
def Fy (L : List Tok) (i : Nat) : PR Col := (E8 L i).bind (Zi L)
def Hv (L : List Tok) (i : Nat) : PR Expr := if (atM L i).2.2.1 != 0 then .bad (atM L i).2.2.1 (atM L i).2.2.2 else .ok (atM L i).1 (atM L i).2.1.toNat
def Bl (m : Mov) (c : Col) : Mov := { m with give := m.give ++ [c] }
def Zj (m : Mov) (x : Expr) : Mov := { m with ahead := m.ahead ++ [x] }
def Cl (L : List Tok) (m : Mov) (i : Nat) : PR Mov := (Fy L i).bind fun c j => (Bf L [61] j).bind fun _ j => (Hv L j).bind fun x j => .ok (Zj (Bl m c) x) j
def Mw (L : List Tok) (n : Int) (k : Nat) (i : Nat) : Bool := decide ((k : Int) < n) || ((n == 0) && (decide ((k : Int) < 2) || isP L [44] i))
/-- Things with commas between, behind the first k. -/
def L5 (L : List Tok) (n : Int) (one : Mov → Nat → PR Mov) : Nat → Nat → Mov → Nat → PR Mov
 | 0, _, m, i => .ok m i
 | f + 1, k, m, i => if Mw L n k i then (Bf L [44] i).bind fun _ j => (one m j).bind fun m j => L5 L n one f (k + 1) m j else .ok m i
def Eu (L : List Tok) (n : Int) (one : Mov → Nat → PR Mov) (m : Mov) (i : Nat) : PR Mov := (one m i).bind fun m j => L5 L n one (L.length + 1) 1 m j
def Zk : Str := [98, 97, 99, 107]
def Ez : Str := [105, 110, 116, 111]
def toW : Str := [116, 111]
def Zl (m : Mov) (x : Expr) : Mov := { m with back := m.back ++ [x] }
def L6 (L : List Tok) (m : Mov) (i : Nat) : PR Mov := (Hv L i).bind fun x j => .ok (Zl m x) j
def De (L : List Tok) (m : Mov) (i : Nat) : PR Mov := (Bf L Zk i).bind fun _ j => Eu L m.take.length (L6 L) m j
def Fz (L : List Tok) (m : Mov) (i : Nat) : PR Mov := (E8 L i).bind fun s j => (Bf L toW j).bind fun _ j => (E8 L j).bind fun t j => .ok ⟨m.kind, [s], [⟨t, 0⟩], [Bw s], [Bw t]⟩ j
def takeS (m : Mov) (s : Str) : Mov := { m with take := [s] }
def Zm (m : Mov) (s : Str) : Mov := { m with take := m.take ++ [s] }
def Jm (L : List Tok) (m : Mov) (i : Nat) : PR Mov := (E8 L i).bind fun s j => .ok (Zm m s) j
def Ev (L : List Tok) (m : Mov) (i : Nat) : PR Mov :=
 if m.kind == 1 then Cl L m i
 else if m.kind == 2 then (E8 L i).bind fun s j => De L (takeS m s) j
 else if m.kind == 3 then Fz L m i
 else if m.kind == 4 then (E8 L i).bind fun s j => (Bf L Ez j).bind fun _ j => (Eu L 0 (Cl L) (takeS m s) j).bind fun m j => De L m j
 else if m.kind == 5 then (Eu L 0 (Jm L) m i).bind fun m j => (Bf L Ez j).bind fun _ j => (Cl L m j).bind fun m j => De L m j
 else if m.kind == 6 then (Cl L m i).bind fun m j => De L (takeS m (m.give.getD 0 ⟨[], 0⟩).name) j
 else .ok m i
def migWords : List Str := [[], [97, 100, 100], [100, 114, 111, 112], [114, 101, 110, 97, 109, 101], [115, 112, 108, 105, 116], [109, 101, 114, 103, 101], [114, 101, 116, 121, 112, 101]]
def Ce (k : Int) : Str := if (decide (k < 1) || decide (6 < k)) = true then [] else migWords.getD k.toNat []
def Dq (s : Str) : Int := if Ce 1 == s then 1 else if Ce 2 == s then 2 else if Ce 3 == s then 3 else if Ce 4 == s then 4 else if Ce 5 == s then 5 else if Ce 6 == s then 6 else 0
def Is (L : List Tok) (i : Nat) : PR Mov :=
 if ((A7 L i).kind != 2) || (Dq (A7 L i).text == 0) then Rf L i 8
 else (Ev L ⟨Dq (A7 L i).text, [], [], [], []⟩ (i + 1)).bind fun m j => (Bf L [59] j).bind fun _ j => .ok m j
/-- Moves, behind some. -/
def Hr (L : List Tok) : Nat → List Mov → Nat → PR (List Mov)
 | 0, l, i => .ok l i
 | f + 1, l, i => if (A7 L i).kind != 0 then (if (l.length : Int) == 8 then Rf L i 3 else (Is L i).bind fun m j => Hr L f (l ++ [m]) j) else .ok l i
def H0 (L : List Tok) : PR (List Mov) := Hr L 9 [] 0
/-- The moves; the fault's code and place. -/
def Y0 (s : Str) : List Mov × Int × Int :=
 if (Dx s).2.1 != 0 then ([], (Dx s).2.1, (Dx s).2.2)
 else match H0 (Dx s).1 with
  | .ok l _ => (l, 0, 0)
  | .bad e a => ([], e, a)
end Go.SX.Nb
namespace Go.SX
variable [GI : GlobInv]
open Classical
/-- An object that no memory holds: what is told of a state behind an operation that surely panics. -/
def dh : AObj := .cells 0 [.agg [.agg []]]
def bot (b : Bool) : List AObj := if b then [dh] else []
theorem rh {G : Gh} {w : World} {i : Nat} : ¬ ObjRel G w i dh := fun h => by
 obtain ⟨u, _, hr⟩ := H3 (y := .agg [.agg []]) (j := 0) h rfl
 cases hr with
 | agg _ _ vs hn h1 _ => exact absurd (h1 _ (List.mem_singleton.2 rfl)) (by simp [AV.one])
section
variable {P : Program} {d : Nat}
theorem StRel.bot {G : Gh} {st : St} {a : Act} {w : World} (h : StRel d G st a w) (hb : dh ∈ st.own) : False := by
 obtain ⟨i, hi⟩ := List.getElem?_of_mem (List.mem_append_right st.up hb)
 exact rh (h.heap.obj i _ hi)
theorem Nh {b : Bool} {l : List AObj} (h : b = true) : dh ∈ l ++ bot b := by subst h; exact List.mem_append_right _ (List.mem_singleton.2 rfl)
variable {sz : Nat} {dfs : List Nat} {rnd : Option Nat} {l0 : List Oper} {up own : (Nat → Bool) → List AObj} {KP : List PanicEntry → St → Prop} {E : List Oper → (Nat → AV) → Prop} {S : List SegY} {l : List Oper} {fr : Nat → AV} {ty : TypeId} {pos : String} {aft : Array Edge} {s : Nat} {T F : List Nat}
/-- What stands behind the operation that panics never runs. -/
theorem Y.bot {W : List Nat} {o : Oper} (hb : ∀ B : Nat → Bool, (∀ p ∈ T, B p = true) → dh ∈ own B) (h : ChainY P d l0 sz up own dfs rnd KP E S l (Fk (W.map fun s => (s, .any)) fr)) (hg : o.guard = none := by rfl) :
  ChainY P d l0 sz up own dfs rnd KP E (.s W none T F :: S) (o :: l) fr := by
 refine ⟨_, l, W.map fun s => (s, .any), rfl, ⟨?_, hg, fun B f hT _ _ _ G a w hr => ?_⟩, h⟩
 ·simp [Function.comp_def]
 exact (StRel.bot hr (hb B hT)).elim
theorem Y.endBot {tn : List Nat} {Q : St → Prop} (hb : dh ∈ own (fun p => decide (p < tn.length))) : ChainY P d l0 sz up own dfs rnd KP (fun l' f => ARun P d l0.toArray l' ⟨sz, f, up (fun p => decide (p < tn.length)), own (fun p => decide (p < tn.length)), dfs, rnd⟩ Q) [] l fr :=
 fun G a w hr => (StRel.bot hr hb).elim
/-- A call that surely panics. -/
theorem Y.callBad {f0 : Operand} {g : FuncId} {xs : List Operand} {ats : Array TypeId} {first caps args : List AV} {pn : Nat} {up0 own0 : List AObj} {pp : Value → List AObj → Prop} (hcall : ∀ args w, (callFunc g args).run P w = .ok (.enter g args) w)
  (hU : ∀ B : Nat → Bool, B pn = false → up B = up0 ∧ own B = own0) (hA : ACallP P g args (up0 ++ own0) (fun _ _ => False) pp)
  (hpp : ∀ x U O f, U.length = up0.length → (U ++ O).length = (up0 ++ own0).length → pp x (U ++ O) → ((∀ x ∈ up0, ObjLow U.length x) → ∀ x ∈ U, ObjLow U.length x) ∧ (∀ o ∈ dfs, (up0 ++ own0)[o]? = some .defs → (U ++ O)[o]? = some .defs) ∧ KP (Ec x) ⟨sz, f, U, O, dfs, rnd⟩)
  (h : ChainY P d l0 sz up own dfs rnd KP E S l (A3 s .any fr))
  (hf0 : Ae fr f0 = .fn (.func g) first caps := by exact sL0) (ha : first ++ xs.map (Ae fr) ++ caps = args := by exact sL0) :
  ChainY P d l0 sz up own dfs rnd KP E (.s [s] (some pn) T F :: S) (⟨some s, .call ⟨.value f0, xs.toArray, ats⟩, ty, pos, aft, none⟩ :: l) fr := by
 refine ⟨_, l, [(s, .any)], rfl, ⟨rfl, rfl, fun B f _ _ hB hf G a w hr => ?_⟩, h⟩
 obtain ⟨e1, e2⟩ := hU B (hB pn rfl)
 rw [e1, e2] at hr ⊢
 have e : first ++ xs.map (Ae f) ++ caps = args := by rw [Wa hf (fun x hx => by simp [Op.operands, Call.operands, hx])]; exact ha
 have e0 : Ae f f0 = .fn (.func g) first caps := by rw [agr hf (by simp [Op.operands, Call.operands])]; exact hf0
 have hev : St.ev ⟨sz, f, up0, own0, dfs, rnd⟩ f0 = .fn (.func g) first caps := e0
 have hfr := hev ▸ hr.eval f0
 generalize hfv : a.eval f0 = fv at hfr
 cases hfr with
 | fn _ _ _ _ va vc hna hnc h1 h2 =>
  have hxr := Hg hr xs
  subst e
  refine Mc (by intro c h; cases h) (Gf hcall hfv) (hA d G w _ (by simp [hna, hnc]) (fun i y u hy hu => ?_) hr.heap hr.tags hr.top) ?_
  ·rw [List.append_assoc] at hy
   rw [Array.append_assoc] at hu
   rcases Nat.lt_or_ge i first.length with hi | hi
   ·rw [List.getElem?_append_left hi] at hy
    rw [Array.getElem?_append_left (by omega)] at hu
    exact (h1 i y u hy hu).lift
   rw [List.getElem?_append_right hi] at hy
   rw [Array.getElem?_append_right (by omega), hna] at hu
   rcases Nat.lt_or_ge (i - first.length) xs.length with hj | hj
   ·rw [List.getElem?_append_left (by simpa using hj)] at hy
    rw [Array.getElem?_append_left (by simpa using hj)] at hu
    exact (hxr _ y u hy hu).lift
   rw [List.getElem?_append_right (by simpa using hj)] at hy
   rw [Array.getElem?_append_right (by simpa using hj)] at hu
   simp only [List.length_map, List.size_toArray] at hy hu
   exact (h2 _ y u hy hu).lift
  rintro e w' (⟨v, G', y, H', rfl, hrep, hH, hT, hk, hlen, hpo⟩ | ⟨x, G', H', rfl, hH, hT, hk, hlen, hpo⟩)
  ·exact hpo.elim
  have hl' : up0.length ≤ H'.length := by rw [hlen]; simp
  obtain ⟨U, hU'⟩ : ∃ U, U = H'.take up0.length := ⟨_, rfl⟩
  obtain ⟨O, hO⟩ : ∃ O, O = H'.drop up0.length := ⟨_, rfl⟩
  have e1' : H' = U ++ O := by rw [hU', hO]; exact (List.take_append_drop _ _).symm
  have e2' : U.length = up0.length := by rw [hU']; simp; omega
  subst e1'
  obtain ⟨q1, q2, q3⟩ := hpp x U O f e2' hlen hpo
  have h3 := hr.called hH hT hk rfl e2' (fun o ho => q2 o ho (hr.defsAt o ho)) (q1 (by rw [e2']; exact hr.low))
  exact .inr ⟨_, rfl, _, rfl, _, _, h3, hk.less (Nat.le_succ d), e2', rfl, rfl, rfl, q3⟩
/-- A panic, drawn. -/
theorem Y.panic {x : Operand} {t : TypeId} {vs : List Value} {pn : Nat} (hq : ∀ B : Nat → Bool, B pn = false → ∀ f, KP (Ec (.iface t (.agg vs.toArray))) ⟨sz, f, up B, own B, dfs, rnd⟩) (h : ChainY P d l0 sz up own dfs rnd KP E S l fr)
  (hx : Ae fr x = .iface t (.agg (vs.map .v)) := by exact sL0) :
  ChainY P d l0 sz up own dfs rnd KP E (.s [] (some pn) T F :: S) (⟨none, .panic x, ty, pos, aft, none⟩ :: l) fr := by
 refine ⟨_, l, [], rfl, ⟨rfl, rfl, fun B f _ _ hB hf G a w hr => ?_⟩, h⟩
 have hxr := hr.eval x
 have hev : St.ev ⟨sz, f, up B, own B, dfs, rnd⟩ x = .iface t (.agg (vs.map .v)) := by
  show Ae f x = _
  rw [agr hf (by simp [Op.operands])]; exact hx
 rw [hev] at hxr
 refine ⟨fun _ _ => trivial, ?_⟩
 rw [Oper.semAt_eq _ _ _ (by intro c h; cases h)]
 have he : (execOp a.eval ⟨none, .panic x, ty, pos, aft, none⟩).run P w = .halt (.panic (.iface t (.agg vs.toArray))) w := by
  show ((do let v ← Instr.panic (a.eval x); pure (.value v)) : Sem Next).run P w = _
  rw [Nr hxr]
  rfl
 rw [he]
 exact ⟨_, rfl, G, _, hr, Keep.refl _ _ _, rfl, rfl, rfl, rfl, hq B (hB pn rfl) f⟩
theorem G5 {U O A B : List AObj} (hl : U.length = A.length) (h : U ++ O = A ++ B) : A = U ∧ B = O := List.append_inj h.symm hl.symm
theorem Az {U O A B : List AObj} {o : Nat} {x : AObj} (hl : U.length = A.length) (ho : o < A.length) (h : U ++ O = (A ++ B).set o x) : A.set o x = U ∧ B = O := by
 rw [List.set_append_left _ _ ho] at h
 exact List.append_inj h.symm (by simpa using hl.symm)
end
section
variable {P : Program} {d : Nat} {ops : Array Oper}
/-- A call that surely panics. -/
theorem RK.callBad {sz s : Nat} {fr : Nat → AV} {up own : List AObj} {dfs : List Nat} {rnd : Option Nat} {ty : TypeId} {pos : String} {aft : Array Edge} {rest : List Oper} {K : Exit → St → Prop} {f : Operand} {g : FuncId} {xs : List Operand} {ats : Array TypeId} {first caps args : List AV} {pp : Value → List AObj → Prop}
  (hcall : ∀ args w, (callFunc g args).run P w = .ok (.enter g args) w) (h : ACallP P g args (up ++ own) (fun _ _ => False) pp)
  (hpp : ∀ x U O, U.length = up.length → (U ++ O).length = (up ++ own).length → pp x (U ++ O) → ((∀ x ∈ up, ObjLow U.length x) → ∀ x ∈ U, ObjLow U.length x) ∧ (∀ o ∈ dfs, (up ++ own)[o]? = some .defs → (U ++ O)[o]? = some .defs) ∧ K (.panic (Ec x)) ⟨sz, fr, U, O, dfs, rnd⟩)
  (hf : Ae fr f = .fn (.func g) first caps := by exact sL0) (ha : first ++ xs.map (Ae fr) ++ caps = args := by exact sL0) (hs : Nat.blt s sz = true := by rfl) :
  ARunK P d ops (⟨some s, .call ⟨.value f, xs.toArray, ats⟩, ty, pos, aft, none⟩ :: rest) ⟨sz, fr, up, own, dfs, rnd⟩ K := RK.callV hcall h (fun _ _ _ _ _ h => h.elim) hpp hf ha hs
theorem AW.upEq {c : Code} {sz : Nat} {fr : Nat → AV} {up up' own : List AObj} {dfs : List Nat} {rnd : Option Nat} {K : Exit → St → Prop} (e : up = up') (h : AW P d c ⟨sz, fr, up', own, dfs, rnd⟩ K) : AW P d c ⟨sz, fr, up, own, dfs, rnd⟩ K := e ▸ h
end
end Go.SX
namespace Go.SX
variable [GI : GlobInv]
open Classical
section
variable {P : Program} {d : Nat} {st : St} {ty : TypeId} {pos : String} {aft : Array Edge} {gd : Option (Nat × Bool)}
/-- A variable of its own, not laid yet. -/
theorem AOp.allocP {t : TypeId} {z : Value} {k s : Nat} (hz : ∀ w, (zeroValue t).run P w = .ok z w) (hk : z.cells.size = k) (hs : s < st.sz) :
  AOp P d ⟨some s, .alloc t, ty, pos, aft, gd⟩ st (· = st.set s (.cellp k)) := by
 subst hk
 intro G a w h Q'
 let G' : Gh := { G with tag := fun b o => if b = w.heap.size ∧ o < z.cells.size then .tail (.slot d s) else G.tag b o }
 have hfree : ∀ o, G.tag w.heap.size o = .free := fun o => Cz h.tags _ o (Nat.le_refl _)
 have hne : ∀ b o, G.tag b o ≠ .free → ¬ (b = w.heap.size ∧ o < z.cells.size) := fun b o hb hc => by rw [hc.1] at hb; exact hb (hfree o)
 have hkeep : ∀ b o, G.tag b o ≠ .free → G'.tag b o = G.tag b o := fun b o hb => by simp only [G']; rw [if_neg (hne b o hb)]
 have hcell : ∀ b o, G.tag b o ≠ .free → (w.alloc (.cells z.cells t)).cell? ⟨b, o, none⟩ = w.cell? ⟨b, o, none⟩ := fun b o hb => by
  refine World.cell?_alloc_old _ _ _ ?_
  show b ≠ w.heap.size
  rintro rfl
  exact hb (hfree o)
 have T : Turn G w G' (w.alloc (.cells z.cells t)) := by
  refine ⟨fun b o hb => ⟨by rw [hkeep b o (by rw [hb]; simp)]; exact hb, hcell b o (by rw [hb]; simp)⟩, fun b o L hb => by rw [hkeep b o (by rw [hb]; simp)]; exact hb, fun b o i hb => by rw [hkeep b o (by rw [hb]; simp)]; exact hb, Nat.le_refl _, fun o ho => rfl, rfl, rfl, rfl, by simp, Still.alloc _ (fun b o hb => .inl (by simp only [G']; rw [if_neg (by omega)])) (fun i hi => .inl ⟨hi, rfl⟩)⟩
 have h1 : StRel d G' st a (w.alloc (.cells z.cells t)) := by
  refine h.turn (U := st.up) (O := st.own) T ⟨fun i x hx => T.objRel ?_ ?_ (h.heap.obj i x hx) (fun b hb => ?_), h.heap.n, h.heap.inj⟩ rfl h.defsAt ⟨fun b o hb => ?_, fun b o i hb => ?_, fun b o L hb => ?_, h.tags.globKeep T.old⟩ h.low
  ·rw [h.heap.n]; exact (List.getElem?_eq_some_iff.1 hx).1
  ·have := (h.heap.obj i x hx).blt
   show (w.heap.push _)[G.blk i]? = _
   rw [Array.getElem?_push, if_neg (by omega)]
  ·have := hb.lt
   show (w.heap.push _)[b]? = _
   rw [Array.getElem?_push, if_neg (by omega)]
  ·simp only [G'] at hb
   split at hb
   ·rename_i hc
    obtain ⟨rfl, hlt⟩ := hc
    exact ⟨z.cells[o], by rw [World.cell?_alloc_new]; exact Array.getElem?_eq_getElem hlt⟩
   rw [hcell b o hb]
   exact h.tags.ex b o hb
  ·simp only [G'] at hb
   split at hb
   ·cases hb
   rw [World.frozen?_alloc_old]
   ·exact h.tags.obj b o i hb
   show b ≠ w.heap.size
   rintro rfl
   rw [hfree] at hb; cases hb
  simp only [G'] at hb
  split at hb
  ·rename_i hc
   obtain ⟨rfl, hlt⟩ := hc
   exact World.frozen?_alloc_new _ _ _ _
  rw [World.frozen?_alloc_old]
  ·exact h.tags.tail b o L hb
  show b ≠ w.heap.size
  rintro rfl
  rw [hfree] at hb; cases hb
 have hrun : (execOp a.eval (⟨some s, .alloc t, ty, pos, aft, gd⟩ : Oper)).run P w = .ok (.value (.pointer (some ⟨w.heap.size, 0, none⟩))) (w.alloc (.cells z.cells t)) := by
  simp [execOp, Instr.alloc, hz, newVar, newRow]
 refine Bh (by intro c h; cases h) hrun ⟨G', _, h1.put (s := s) (y := .cellp z.cells.size) hs ?_, T.keep d, rfl, rfl, rfl, rfl⟩
 exact .cellp _ _ _ ⟨_, rfl, fun o ho => by simp [G', ho]⟩

/-- It is laid: from now on nobody writes it. -/
theorem AOp.storeP {t : TypeId} {x : Operand} {r k : Nat} {y : AV} (hsz : ∀ w, (sizeOf t).run P w = .ok k w) (hf : st.fr r = .cellp k) (hx : st.ev x = y) (hk : y.cells.length = k) (hk0 : 0 < k) (h1 : y.cells.all AV.one = true) :
  AOp P d ⟨none, .store t (.tmp r) x, ty, pos, aft, gd⟩ st (· = st.set r (.ro y.cells)) := by
 intro G a w h Q'
 have hone : ∀ c ∈ y.cells, c.one = true := fun c hc => List.all_eq_true.1 h1 c hc
 obtain ⟨hc, hcc⟩ := (hx ▸ h.eval x).cells hone
 have hsl := h.slots r
 rw [hf] at hsl
 generalize hv : a.tmps.getD r undef = v at hsl
 cases hsl with
 | cellp l k b ho =>
  obtain ⟨L, hL, ht⟩ := ho
  injection hL with hL
  subst hL
  let us := (a.eval x).cells.toList
  have hul : us.length = k := by simp only [us, Array.length_toList]; omega
  have huone : ∀ u ∈ us, u.oneCell' = true := fun u hu => by
   obtain ⟨j, hj⟩ := List.getElem?_of_mem hu
   have hj' : (a.eval x).cells[j]? = some u := by rw [← Array.getElem?_toList]; exact hj
   have hlt : j < y.cells.length := by rw [← hc]; exact (Array.getElem?_eq_some_iff.1 hj').1
   exact (hcc j _ u (List.getElem?_eq_getElem hlt) hj').one (hone _ (List.getElem_mem hlt))
  have hrun0 := run_storeCells_cells (P := P) b 0 us 0 w (fun j hj => by
    obtain ⟨u, hu⟩ := h.tags.ex b j (by rw [ht j (by omega)]; simp)
    simp only [Nat.add_zero, Nat.zero_add]; rw [hu]; rfl) (fun j hj => by simpa using h.tags.tail _ _ _ (ht j (by omega))) huone
  simp only [Nat.add_zero] at hrun0
  let W := w.setCells b 0 us
  let G' : Gh := { G with tag := fun b' o => if b' = b ∧ o < k then .fix else G.tag b' o }
  have htag : ∀ b' o, G.tag b' o ≠ .tail (.slot d r) → G'.tag b' o = G.tag b' o := fun b' o hb => by
   simp only [G']
   rw [if_neg]
   rintro ⟨rfl, ho⟩
   exact hb (ht o ho)
  have hout : ∀ b' o, ¬ (b' = b ∧ o < k) → W.cell? ⟨b', o, none⟩ = w.cell? ⟨b', o, none⟩ := fun b' o hn =>
   World.cell?_setCells_out _ us 0 w ⟨b', o, none⟩ (fun hb _ => by
    simp only at hb ⊢
    exact .inr (Nat.le_of_not_lt fun h'' => hn ⟨hb, by omega⟩))
  have hcell : ∀ b' o, G.tag b' o ≠ .tail (.slot d r) → W.cell? ⟨b', o, none⟩ = w.cell? ⟨b', o, none⟩ := fun b' o hb => hout b' o (fun hn => hb (by rw [hn.1]; exact ht o hn.2))
  have hnb : ∀ i, i < G.n → G.blk i ≠ b := Ht h.heap h.tags (ht 0 hk0)
  have hheap : ∀ b', b' ≠ b → W.heap[b']? = w.heap[b']? := fun b' hb => Bt _ _ _ _ _ hb
  have hsize : W.heap.size = w.heap.size := Bs _ _ _ _
  have hstill : Still G w G' W := Still.tags (fun b' hb' => hheap b' (fun e => Fq (ht 0 hk0) (e ▸ hb'))) (Nat.le_of_eq hsize.symm) (fun b' o _ => by
   by_cases hc : b' = b ∧ o < k
   ·exact .inr ⟨_, by rw [hc.1]; exact ht o hc.2⟩
   exact .inl (by simp only [G']; rw [if_neg hc])) (fun i hi => .inl ⟨hi, rfl⟩)
  have hfix : ∀ b' o, G.tag b' o = .fix → G'.tag b' o = .fix ∧ W.cell? ⟨b', o, none⟩ = w.cell? ⟨b', o, none⟩ := fun b' o hb => ⟨by rw [htag b' o (by rw [hb]; simp)]; exact hb, hcell b' o (by rw [hb]; simp)⟩
  have htail : ∀ b' o L, L ≠ .slot d r → G.tag b' o = .tail L → G'.tag b' o = .tail L := fun b' o L hL hb => by
   rw [htag b' o (by rw [hb]; intro e; injection e with e; exact hL e)]; exact hb
  have hobj : ∀ b' o i, G.tag b' o = .obj i → G'.tag b' o = .obj i := fun b' o i hb => by rw [htag b' o (by rw [hb]; simp)]; exact hb
  have hrep : ∀ {l : Option Loc} {z : AV} {u : Value}, l ≠ some (.slot d r) → Rep G w l z u → Rep G' W l z u := fun hl hz =>
   hz.mono (G' := G') hfix (Nat.le_refl _) (fun _ _ => rfl) (fun L hL b' o ht' => htail b' o L (fun e => hl (by rw [hL, e])) ht')
  have hkeep : Keep d G w G' W := ⟨hfix, fun b' o e s he ht' => htail b' o _ (by rintro ⟨⟩; omega) ht', Nat.le_refl _, fun _ _ => rfl, Ds _ _ _ _, Cq _ _ _ _, C9 _ _ _ _, Nat.le_of_eq hsize.symm, hstill⟩
  have hvec : ∀ j u, us[j]? = some u → W.cell? ⟨b, j, none⟩ = some u := fun j u hu => by
   have hj := (List.getElem?_eq_some_iff.1 hu).1
   have hex : ∃ u', w.cell? ⟨b, j, none⟩ = some u' := h.tags.ex b j (by rw [ht j (by omega)]; simp)
   obtain ⟨u', hu'⟩ := hex
   have hbk : ∃ vs e fz, w.heap[b]? = some (.cells vs e fz) := by
    simp only [World.cell?] at hu'
    split at hu'
    ·rename_i vs e fz hb; exact ⟨vs, e, fz, hb⟩
    cases hu'
   obtain ⟨vs, e, fz, hbk⟩ := hbk
   have hlen : 0 + us.length ≤ vs.size := by
    rw [hul, Nat.zero_add]
    rcases Nat.lt_or_ge vs.size k with h' | h'
    ·exfalso
     obtain ⟨u2, hu2⟩ := h.tags.ex b vs.size (by rw [ht _ h']; simp)
     simp [World.cell?, hbk] at hu2
    exact h'
   obtain ⟨vs', b1, b2, b3⟩ := Gd b e fz us 0 w vs hbk hlen
   have b3' := b3 j
   rw [if_pos (by omega)] at b3'
   show (w.setCells b 0 us).cell? ⟨b, j, none⟩ = some u
   simp only [World.cell?, b1]
   rw [b3', Nat.sub_zero]
   exact hu
  have hst : StRel d G' (st.set r (.ro y.cells)) a W := by
   refine ⟨h.size, fun s => ?_, ⟨fun i z hz => ?_, h.heap.n, h.heap.inj⟩, h.defs, h.defsAt, h.defsNodup, h.defsGe, ⟨fun b' o hb => ?_, fun b' o i hb => ?_, fun b' o L hb => ?_, h.tags.globKeep hstill⟩, h.rnd, h.low, h.top⟩
   ·show Rep G' W _ (A3 r (.ro y.cells) st.fr s) _
    unfold A3
    by_cases hs : s = r
    ·subst hs
     rw [if_pos rfl, hv]
     refine .ro _ _ ⟨b, 0, none⟩ (fun j => (a.eval x).cells.getD j undef) rfl hone (fun j c hj => ?_) (fun j c hj => ?_)
     all_goals
      have hlt : j < y.cells.length := (List.getElem?_eq_some_iff.1 hj).1
      have hu : (a.eval x).cells[j]? = some ((a.eval x).cells[j]'(by omega)) := Array.getElem?_eq_getElem _
      have e1 : (a.eval x).cells.getD j undef = (a.eval x).cells[j]'(by omega) := by rw [Array.getD_eq_getD_getElem?, hu]; rfl
      rw [e1]
     ·refine ⟨by simp only [G', Nat.zero_add]; rw [if_pos ⟨trivial, by omega⟩], ?_⟩
      rw [Nat.zero_add]
      exact hvec j _ (by simp only [us]; rw [Array.getElem?_toList]; exact hu)
     exact hrep (by simp) (hcc j c _ hj hu)
    rw [if_neg hs]
    exact hrep (by simp; exact fun e => hs e) (h.slots s)
   ·have hob := h.heap.obj i z hz
    have hi : i < G.n := by rw [h.heap.n]; exact (List.getElem?_eq_some_iff.1 hz).1
    have hb := hheap (G.blk i) (hnb i hi)
    cases z with
    | cells t cs =>
     obtain ⟨vs, a1, a2, a3, a4⟩ := hob
     exact ⟨vs, hb.trans a1, a2, fun j y u p q => hrep (by simp) (a3 j y u p q), fun j hj => hobj _ _ _ (a4 j hj)⟩
    | loop sta pd fr sz ps asg bd df =>
     obtain ⟨fn, tmps, a1, a2, a3, a4⟩ := hob
     exact ⟨fn, tmps, hb.trans a1, a2, fun s => hrep (by simp) (a3 s), a4⟩
    | defs => exact hb.trans hob
    | dead => exact hb.trans hob
    | bld t e bs => exact BldRel.turn hob rfl (fun b' o ho => hobj b' o i ho) hb (fun b' ha => hheap b' (fun e => by
      have := ha.tag h.tags (o := 0) (by rw [e, ht 0 hk0]; simp)
      rw [e, ht 0 hk0] at this; cases this))
    | gone =>
     obtain ⟨vs, t, fz, a1, a2⟩ := hob
     exact ⟨vs, t, fz, hb.trans a1, fun j hj => (hfix _ _ (a2 j hj)).1⟩
   ·by_cases hc : b' = b ∧ o < k
    ·obtain ⟨rfl, ho⟩ := hc
     exact ⟨us[o]'(by omega), hvec o _ (List.getElem?_eq_getElem _)⟩
    rw [hout b' o hc]
    simp only [G', if_neg hc] at hb
    exact h.tags.ex b' o hb
   ·rw [World.frozen?_setCells]
    simp only [G'] at hb
    split at hb
    ·cases hb
    exact h.tags.obj b' o i hb
   rw [World.frozen?_setCells]
   simp only [G'] at hb
   split at hb
   ·cases hb
   exact h.tags.tail b' o L hb
  have hrun : (execOp a.eval (⟨none, .store t (.tmp r) x, ty, pos, aft, gd⟩ : Oper)).run P w = .ok .skip W :=
   Dt hsz (show a.eval (.tmp r) = _ from hv) (by omega) hrun0
  exact Dz (by intro c h; cases h) hrun ⟨G', _, hst, hkeep, rfl, rfl, rfl, rfl⟩
end
section
variable {P : Program} {d : Nat} {sz : Nat} {dfs : List Nat} {rnd : Option Nat} {l0 : List Oper} {up own : (Nat → Bool) → List AObj} {KP : List PanicEntry → St → Prop} {E : List Oper → (Nat → AV) → Prop} {S : List SegY} {l : List Oper} {fr : Nat → AV} {ty : TypeId} {pos : String} {aft : Array Edge} {s : Nat} {T F : List Nat}
theorem Y.allocP {t : TypeId} {z : Value} {k : Nat} (hz : ∀ w, (zeroValue t).run P w = .ok z w) (h : ChainY P d l0 sz up own dfs rnd KP E S l (A3 s (.cellp k) fr)) (hk : z.cells.size = k := by rfl) (hs : Nat.blt s sz = true := by rfl) :
  ChainY P d l0 sz up own dfs rnd KP E (.s [s] none T F :: S) (⟨some s, .alloc t, ty, pos, aft, none⟩ :: l) fr := by
 refine ⟨_, l, [(s, .cellp k)], rfl, ⟨rfl, rfl, fun B f _ _ _ hf => .of ?_⟩, h⟩
 exact AOp.allocP (st := ⟨sz, f, up B, own B, dfs, rnd⟩) hz hk (by simpa using hs)
theorem Y.storeP {t : TypeId} {x : Operand} {r k : Nat} {y : AV} {ys : List AV} (hsz : ∀ w, (Go.sizeOf t).run P w = .ok k w) (h : ChainY P d l0 sz up own dfs rnd KP E S l (A3 r (.ro ys) fr))
  (hf : fr r = .cellp k := by exact sL0) (hx : Ae fr x = y := by exact sL0) (hc : y.cells = ys := by exact sL0)
  (hk : ys.length = k := by rfl) (hk0 : 0 < k := by decide) (h1 : ys.all AV.one = true := by exact sL2) :
  ChainY P d l0 sz up own dfs rnd KP E (.s [r] none T F :: S) (⟨none, .store t (.tmp r) x, ty, pos, aft, none⟩ :: l) fr := by
 subst hc
 refine ⟨_, l, [(r, .ro y.cells)], rfl, ⟨rfl, rfl, fun B f _ _ _ hfr => .of ?_⟩, h⟩
 have e : f r = fr r := hfr r (by simp [lk, Rq, Op.operands])
 have ex : Ae f x = y := by rw [agr hfr (by simp [Op.operands])]; exact hx
 exact AOp.storeP (st := ⟨sz, f, up B, own B, dfs, rnd⟩) hsz (e.trans hf) ex hk hk0 h1
end
end Go.SX
