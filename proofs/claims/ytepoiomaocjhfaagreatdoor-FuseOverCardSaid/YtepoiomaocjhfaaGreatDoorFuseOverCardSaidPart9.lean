/- Texts on the way to this: FuseOver answers true for whatever it is handed: any tree over any trees of any columns is what the chapter says, or the error, and the weight of trees is the sum of their nodes. (part 9) -/
import Derived.Lib.ParseIntBTie
import Derived.Shelf.Strings.Builder1
import Derived.Lib.ItoaLen
import Derived.Test.YtepoiomaocjhfaaGreatDoorFuseOverCardSaidPart8
set_option linter.all false
namespace Go.SX.Nb
open Go Go.SX Go.Proofs
variable [ErrAt]
set_option maxRecDepth 4000
theorem c36 (l : List Col) (hl : l.length ≤ 1000000) (Hp : List AObj) : AFun Tryz.prog 36 [Ac l] Hp (Ac l) := by
 refine ACall.body [.tmp 2] [0] Tryz.func36 Tryz.ntmps36 (fun d => ?_)
 refine Z38 ?_;refine Z34 ?_
 refine R.eqlNil jU (by kernel_rfl) (fun b hb => ?_)
 refine R.fin [0, 4] ?_
 refine W.cond (fun ht4 => ?_) (fun ht4 => ?_)
 ·have hl0 : l = [] := by simpa using hb ht4
  subst hl0
  refine Z0 ?_;refine R.nilTmp 2 2 false ?_;refine Z2 ?_;refine K.thR ?_;exact K.fin (V.one V.tmp) ⟨rfl, rfl⟩
 refine U5 ?_;refine I6 ?_;refine R.go ?_
 refine R.append jU Tryz.type58 ?_ ?_ ?_
 ·simp [Tryz.t58]; omega
 ·simp [Tryz.t58]; omega
 refine R.assignT ?_;refine Z2 ?_;exact K.fin (V.one V.tmp) ⟨rfl, rfl⟩

theorem kp {Hp : List AObj} {y : Col} {n : Nat} (h : ∀ x ∈ Hp, ObjLow Hp.length x) : ∀ x ∈ Hp ++ [AObj.cells 58 [], AObj.cells 58 (A6 y.name :: A2 y.kind :: List.replicate n AV.any)], ObjLow (Hp.length + 2) x := by
 intro x hx
 rcases List.mem_append.1 hx with hx | hx
 ·exact ObjLow.le (by omega) (h x hx)
 simp only [List.mem_cons, List.mem_nil_iff, or_false] at hx
 rcases hx with rfl | rfl
 ·intro z hz; cases hz
 intro z hz
 simp only [List.mem_cons] at hz
 rcases hz with rfl | rfl | hz
 ·simp
 ·simp
 rw [List.eq_of_mem_replicate hz]; simp
theorem zk (y : Col) (Hp : List AObj) : ACallO Tryz.prog 36 [Ac [y]] Hp (fun r H' => ∃ cc, 1 ≤ cc ∧ r = .sl (oid Hp.length 1) 2 1 cc ∧ H' = Hp ++ [.cells 58 [], .cells 58 (A6 y.name :: A2 y.kind :: List.replicate ((cc - 1) * 2) AV.any)]) := by
 refine ACallO.body [.tmp 2] [0] Tryz.func36 Tryz.ntmps36 (fun d => ?_)
 refine Z38 ?_;refine Z65 ?_
 refine R.assumeLow (fun hlow => ?_)
 refine R.go ?_
 refine R.eqlNil jU (by kernel_rfl) (fun b hb => ?_)
 refine R.fin [0, 4] ?_
 refine W.cond (fun ht4 => ?_) (fun ht4 => ?_)
 ·exact absurd (hb ht4) (by simp)
 refine U5 ?_;refine R.buildObj0 (n := 0) jU Tryz.sizeOf58 ?_;refine R.go ?_
 refine R.appendObj (k := 2) (n := 1) jU Tryz.type58 (show [Av y] ≠ [] by simp) ?_ ?_ (fun cc hcc => ?_)
 ·simp [Tryz.t58]
 ·simp
 have e0 : I4 [Av y] ++ List.replicate ((cc - [Av y].length) * 2) AV.any = A6 y.name :: A2 y.kind :: List.replicate ((cc - 1) * 2) AV.any := rfl
 rw [e0]
 clear e0
 refine R.go ?_;refine Z2 ?_;exact K.finO 2 (V.tmp (t := 2)) ⟨cc, hcc, rfl, rfl⟩ (hlow := by simp [oid]) (hobj := kp hlow)

theorem wt (c : List Col) (hc : OkCols c) (m : Mov) (h : OkMov m) (h3 : (m.kind == 3) = false) (Hp : List AObj) : AFun Tryz.prog 94 [Ac c, Fy m] Hp (Ac (B1 c m)) := by
 refine ACall.body [.tmp 4] [0, 1] Tryz.func94 Tryz.ntmps94 (fun d => ?_)
 refine gk ?_;refine Z4 ?_;refine R.call Tryz.call36 (c36 m.give h.gives2 _) ?_;refine R.go ?_;refine R.fin [0, 3, 5] ?_;refine Z18 ?_;refine R.fin [0, 3, 5, 12] ?_
 refine W.cond (fun ht12 => ?_) (fun ht12 => ?_)
 ·rw [h3] at ht12; cases ht12
 refine Z6 ?_;refine bg ?_;exact K.fin (V.one V.tmp) ⟨by rw [ob h3] <;> rfl, rfl⟩

theorem wu (c : List Col) (hc : OkCols c) (m : Mov) (h : OkMov m) (h3 : (m.kind == 3) = true) (s : Str) (y : Col) (ht : m.take = [s]) (hg : m.give = [y]) (Hp : List AObj) : AFun Tryz.prog 94 [Ac c, Fy m] Hp (Ac (B1 c m)) := by
 have hgv := od (c := c) h3 ht hg
 have hgy := kn (c := c) h3 ht hg
 obtain ⟨kd, tk, gv, ah, bk⟩ := m
 simp only at ht hg h3
 subst ht hg
 refine ACall.body [.tmp 4] [0, 1] Tryz.func94 Tryz.ntmps94 (fun d => ?_)
 refine gk ?_;refine Z4 ?_;refine R.callO Tryz.call36 (zk y _) ?_
 rintro _ _ ⟨cc, hcc, rfl, rfl⟩
 refine ⟨[.cells 58 [], .cells 58 (A6 y.name :: A2 y.kind :: List.replicate ((cc - 1) * 2) AV.any)], by simp, ?_⟩
 simp only [List.append_nil, List.nil_append]
 refine R.go ?_;refine R.fin [0, 3, 5] ?_;refine Z18 ?_;refine R.fin [0, 3, 5, 12] ?_
 refine W.cond (fun ht12 => ?_) (fun ht12 => ?_)
 ·refine Z7 ?_
  refine R.go (h := Q.indexAddr (0) (A6 s) (fun _ => rfl)) (hr := ?_)
  refine R.go ?_;refine R.call Tryz.call59 (c59 c hc s _) ?_;refine R.go ?_;refine R.fin [0, 5, 6] ?_;refine Z4 ?_;refine R.fin [0, 5, 6, 20] ?_
  refine W.cond (fun ht20 => ?_) (fun ht20 => ?_)
  ·have hf : ¬ Al s c < 0 := by simp at ht20; omega
   obtain ⟨jj, hjj, hjc⟩ := Eg hf
   refine Z35 ?_
   refine R.go (h := Q.indexAddr ((Al s c).toNat) (Av (c.getD (Al s c).toNat ⟨[], 0⟩)) (fun _ => Zr hf)) (hr := ?_)
   refine Z1 ?_;refine R.indexAddrSl (n := 1) 0 jU Tryz.sizeOf58 (by decide) ?_
   refine R.go (h := Q.fieldAddrPtr (hc := rfl)) (hr := ?_)
   refine R.storeOwn (y := A2 (c.getD (Al s c).toNat ⟨[], 0⟩).kind) (ys := [A2 (c.getD (Al s c).toNat ⟨[], 0⟩).kind]) (n := 1) (cs := A6 y.name :: A2 y.kind :: List.replicate ((cc - 1) * 2) AV.any) (cs' := A6 y.name :: A2 (c.getD (Al s c).toNat ⟨[], 0⟩).kind :: List.replicate ((cc - 1) * 2) AV.any) (t' := 58) jS ?_ (hc := rfl) (hput := rfl) (hfit := by simp)
   refine R.fin [5] ?_;refine K.thN ?_;refine Cs ?_;refine R.freeze (k := 2) (n := 1) 5 1 [Av ⟨y.name, (c.getD (Al s c).toNat ⟨[], 0⟩).kind⟩] hcc rfl rfl (Vs [⟨y.name, (c.getD (Al s c).toNat ⟨[], 0⟩).kind⟩]) (Vt [⟨y.name, (c.getD (Al s c).toNat ⟨[], 0⟩).kind⟩]) (Pb [⟨y.name, (c.getD (Al s c).toNat ⟨[], 0⟩).kind⟩]) ?_;refine Z1 ?_;exact u6
  have hf : Al s c < 0 := by simp at ht20; omega
  refine U5 ?_;refine R.freeze (k := 2) (n := 1) 5 1 [Av ⟨y.name, y.kind⟩] hcc rfl rfl (Vs [⟨y.name, y.kind⟩]) (Vt [⟨y.name, y.kind⟩]) (Pb [⟨y.name, y.kind⟩]) ?_;refine Z1 ?_;exact u6
 rw [h3] at ht12; cases ht12

/-- What a move must have before it is turned. -/
structure MvOk (m : Mov) : Prop where
 ok : OkMov m
 ahead : m.ahead.length = m.give.length
 back : m.back.length = m.take.length
 one : (m.kind == 3) = true → m.take.length = 1 ∧ m.give.length = 1
theorem oe {m : Mov} (h : OkMov m) (hc : Ds m = true) : MvOk m := ⟨h, (Gs hc).1, (Gs hc).2, fun h3 => P9 hc (by rw [h3]; rfl)⟩
theorem c94 (c : List Col) (hc : OkCols c) (m : Mov) (h : MvOk m) (Hp : List AObj) : AFun Tryz.prog 94 [Ac c, Fy m] Hp (Ac (B1 c m)) := by
 cases h3 : m.kind == 3 with
 | false => exact wt c hc m h.ok h3 Hp
 | true =>
  obtain ⟨h1, h2⟩ := h.one h3
  obtain ⟨s, hs⟩ := ko h1
  obtain ⟨y, hy⟩ := ko h2
  exact wu c hc m h.ok h3 s y hs hy Hp
theorem Vu {c : List Col} {m : Mov} (h : OkMov m) : OkCols (B1 c m) := by
 refine ⟨by rw [Hc]; exact Nat.le_trans h.gives2 (by decide), fun y hy => ?_⟩
 unfold B1 at hy
 split at hy
 ·split at hy
  ·exact h.gives.2 y hy
  cases hg : m.give with
  | nil => rw [hg] at hy; cases hy
  | cons z r =>
   rw [hg] at hy
   rcases List.mem_cons.1 hy with rfl | hy
   ·exact h.gives.2 z (by rw [hg]; exact List.mem_cons_self)
   exact h.gives.2 y (by rw [hg]; exact List.mem_cons_of_mem _ hy)
 exact h.gives.2 y hy
theorem Vw {c give : List Col} {take : List Str} (hc : OkCols c) (hg : OkCols give) (hg2 : give.length ≤ 1000000) : OkCols (By c take give).1 := by
 have h0 : OkCols ([] : List Col) := ⟨by decide, fun y hy => by cases hy⟩
 unfold By
 split
 ·exact h0
 rename_i hr
 split
 ·exact h0
 split
 ·exact h0
 split
 ·exact h0
 split
 ·exact h0
 exact jk hc (by simpa using hr) hg hg2 rfl
theorem Y6 {c give : List Col} {take : List Str} (h : ((By c take give).2 != 0) = false) : ∀ s ∈ take, ¬ Al s c < 0 := by
 have ht : Ex c take = true := by
  unfold By at h
  split at h
  ·cases h
  split at h
  ·cases h
  rename_i ht
  simpa using ht
 intro s hs hf
 obtain ⟨j, hj⟩ := List.getElem?_of_mem hs
 have := takenM_true.1 ht j s hj
 unfold Jh at this
 rw [show decide (Al s c < 0) = true by simpa using hf] at this
 simp at this
theorem dh {over : List Col} {l : List Expr} {w : List Col} {x : Nat} (hl : x < l.length) (hw : x < w.length) :
  Ch over (l.drop x) (w.drop x) = if T7 l[x] over w[x].kind != 0 then T7 l[x] over w[x].kind else Ch over (l.drop (x + 1)) (w.drop (x + 1)) := by
 rw [List.drop_eq_getElem_cons hl, List.drop_eq_getElem_cons hw]
 rfl
theorem kq {over : List Col} {l : List Expr} {w : List Col} {x : Nat} (hl : l.length ≤ x) : Ch over (l.drop x) (w.drop x) = 0 := by
 rw [List.drop_eq_nil_of_le hl]
 cases w.drop x <;> rfl
theorem Ji {α β : Type} {f : α → β} {l : List α} {x : Nat} (h : x < l.length) : (l.take (x + 1)).map f = (l.take x).map f ++ [f l[x]] := by
 rw [List.take_succ_eq_append_getElem h, List.map_append]; rfl
theorem og {c : List Col} {m : Mov} (h : ((By c m.take (B1 c m)).2 != 0) = true) : Bf c m = ([], (By c m.take (B1 c m)).2) := if_pos h
theorem oh {c : List Col} {m : Mov} (h : ((By c m.take (B1 c m)).2 != 0) = false) (h2 : (Ch c m.ahead (B1 c m) != 0) = true) : Bf c m = ([], Ch c m.ahead (B1 c m)) := by
 unfold Bf; rw [if_neg (by rw [h]; simp), if_pos h2]
theorem oi {c : List Col} {m : Mov} (h : ((By c m.take (B1 c m)).2 != 0) = false) (h2 : (Ch c m.ahead (B1 c m) != 0) = false) (h3 : (Ch (By c m.take (B1 c m)).1 m.back (Ht c m) != 0) = true) : Bf c m = ([], Ch (By c m.take (B1 c m)).1 m.back (Ht c m)) := by
 unfold Bf; rw [if_neg (by rw [h]; simp), if_neg (by rw [h2]; simp), if_pos h3]
theorem ol {c : List Col} {m : Mov} (h : ((By c m.take (B1 c m)).2 != 0) = false) (h2 : (Ch c m.ahead (B1 c m) != 0) = false) (h3 : (Ch (By c m.take (B1 c m)).1 m.back (Ht c m) != 0) = false) : Bf c m = ((By c m.take (B1 c m)).1, 0) := by
 unfold Bf; rw [if_neg (by rw [h]; simp), if_neg (by rw [h2]; simp), if_neg (by rw [h3]; simp)]
theorem c96 (l : List Expr) (h : OkEs l) (w : List Col) (hw : w.length = l.length) (c : List Col) (hc : OkCols c) (Hp : List AObj) : AFun Tryz.prog 96 [B5 l, Ac w, Ac c] Hp (A2 (Ch c l w)) := by
 refine ACall.body [.tmp 6] [0, 1, 2] Tryz.func96 Tryz.ntmps96 (fun d => ?_)
 refine Z0 ?_;refine R.fin [0, 1, 2] ?_;refine Z18 ?_;refine R.fin [1, 2, 11, 12, 13] ?_
 refine AW.loopC (α := Nat) (fun x => ⟨37, A4 1 (Ac w) (A4 2 (Ac c) (A4 11 (B5 l) (A4 12 (A2 (l.length : Nat)) (A4 13 (A2 (x : Nat)) (fun _ => .any))))), Hp, [], [], none⟩) (fun x => x ≤ l.length ∧ Ch c l w = Ch c (l.drop x) (w.drop x)) (fun x => l.length - x) (0) ⟨Nat.zero_le _, rfl⟩ (StLe.of_eq (by simp)) rfl (fun x hx => ?_)
 refine Z0 ?_;refine R.fin [1, 2, 11, 12, 13, 14] ?_
 refine W.condX (fun ht14 => ?_) (fun ht14 => ?_)
 ·have hlt : x < l.length := by simpa using ht14
  have hlw : x < w.length := by omega
  have hlen := h.len
  have hst := dh (over := c) hlt hlw
  refine Nh ?_
  refine R.go (h := Q.indexAddr (x) (A3 l[x]) (fun _ => Ak hlt)) (hr := ?_)
  refine bh ?_;refine R.fin [1, 2, 7, 8, 11, 12, 13] ?_;refine Z28 ?_;refine R.call Tryz.call60 (c60 61 l[x] (h.ok _ (List.getElem_mem hlt)) (by decide) c hc _) ?_;refine Z89 ?_;refine R.fin [1, 2, 7, 8, 10, 11, 12, 13] ?_;refine Z4 ?_;refine R.fin [1, 2, 7, 8, 10, 11, 12, 13, 25] ?_
  refine W.cond (fun ht25 => ?_) (fun ht25 => ?_)
  ·have he : T7 l[x] c w[x].kind = (Iz l[x] c).2 := if_pos ht25
   have hm : Ch c l w = (Iz l[x] c).2 := by rw [hx.2, hst, he, if_pos ht25]
   refine Z4 ?_;refine U3 ?_;exact ur
  refine Z6 ?_;refine W.drawQ [0, 0, 0, 0, 12, 28, 60, 127, 255] 7 Ad (by kernel_rfl) ?_;refine bo ?_
  refine D.go (h := Q.indexAddr (x) (Av w[x]) (fun _ => Ak hlw)) (hr := ?_)
  refine Z17 ?_;refine D.tail ?_;refine R.call Tryz.call32 (c32 61 l[x] (h.ok _ (List.getElem_mem hlt)) (by decide) c hc w[x].kind _) ?_;refine R.go ?_;refine R.fin [1, 2, 11, 12, 13, 35] ?_
  refine W.cond (fun ht35 => ?_) (fun ht35 => ?_)
  ·have he : T7 l[x] c w[x].kind = 10 := by unfold T7; rw [if_neg (by rw [ht25]; simp), if_pos ht35]
   have hm : Ch c l w = 10 := by rw [hx.2, hst, he]; rfl
   refine Z0 ?_;refine Z67 ?_;exact ur
  have he : T7 l[x] c w[x].kind = 0 := by unfold T7; rw [if_neg (by rw [ht25]; simp), if_neg (by rw [ht35]; simp)]
  have hnx : Ch c l w = Ch c (l.drop (x + 1)) (w.drop (x + 1)) := by rw [hx.2, hst, he]; rfl
  refine Z81 ?_;refine R.fin [1, 2, 11, 12, 13] ?_;refine K.lpN (x + 1) ⟨hlt, hnx⟩ (by omega) ?_
  exact StCut.take (own := []) (fun _ => .refl _) (by repeat (first | exact Ap | refine Ao (by first | (simp [or_imp, forall_and]; done) | exact Bb) ?_)) (by simp) (by simp)
 have hxe : l.length ≤ x := by simpa using ht14
 have hm : Ch c l w = 0 := by rw [hx.2, kq hxe]
 refine Sh ?_;refine Z67 ?_;exact ra

theorem c97 (c : List Col) (hc : OkCols c) (m : Mov) (h : OkMov m) (hf : ∀ s ∈ m.take, ¬ Al s c < 0) (Hp : List AObj) : AFun Tryz.prog 97 [Ac c, Fy m] Hp (Ac (Ht c m)) := by
 refine ACall.body [.tmp 4] [0, 1] Tryz.func97 Tryz.ntmps97 (fun d => ?_)
 refine gk ?_;refine Z0 ?_;refine R.fin [0, 3, 5] ?_;refine Z65 ?_;refine R.nilSl 5 2 ?_;refine Z72 ?_;refine R.fin [0, 5, 9, 10, 11] ?_
 refine AW.loopC (α := Nat) (fun x => ⟨26, A4 0 (Ac c) (A4 5 (.slice true 2 (((m.take.take x).map fun s => c.getD (Al s c).toNat ⟨[], 0⟩).map Av)) (A4 9 (Dg m.take) (A4 10 (A2 (m.take.length : Nat)) (A4 11 (A2 (x : Nat)) (fun _ => .any))))), Hp, [], [], none⟩) (fun x => x ≤ m.take.length) (fun x => m.take.length - x) (0) (Nat.zero_le _) (StLe.of_eq (by simp)) rfl (fun x hx => ?_)
 refine Z0 ?_;refine R.fin [0, 5, 9, 10, 11, 12] ?_
 refine W.condX (fun ht12 => ?_) (fun ht12 => ?_)
 ·have hlt : x < m.take.length := by simpa using ht12
  have htk := h.takes
  have hfx := hf _ (List.getElem_mem hlt)
  obtain ⟨jj, hjj, hjc⟩ := Eg hfx
  refine Z88 ?_
  refine R.go (h := Q.indexAddr (x) (A6 m.take[x]) (fun _ => Ak hlt)) (hr := ?_)
  refine Z1 ?_;refine R.fin [0, 5, 7, 9, 10, 11] ?_;refine bf ?_;refine Z25 ?_;refine R.call Tryz.call59 (c59 c hc m.take[x] _) ?_
  refine R.go (h := Q.indexAddr ((Al m.take[x] c).toNat) (Av (c.getD (Al m.take[x] c).toNat ⟨[], 0⟩)) (fun _ => Zr hfx)) (hr := ?_)
  refine Z94 ?_
  refine R.append jU Tryz.type58 ?_ ?_ ?_
  ·simp only [List.length_map, List.length_take, List.length_cons, List.length_nil, Tryz.t58]; omega
  ·simp only [List.length_map, List.length_take, List.length_cons, List.length_nil, Tryz.t58]; omega
  refine R.assignT ?_;refine R.fin [0, 5, 9, 10, 11] ?_;refine Ng ?_;refine R.fin [0, 5, 9, 10, 11] ?_
  refine K.lpN (x + 1) hlt (by omega) (StCut.of_eq ?_)
  rw [Ji hlt, List.map_append]
  rfl
 have hxe : m.take.length ≤ x := by simpa using ht12
 refine Z27 ?_;refine bg ?_;exact K.fin (V.one V.tmp) ⟨by unfold Ht; rw [List.take_of_length_le hxe] <;> rfl, rfl⟩ (hlow := Cx)

theorem c65 (c : List Col) (hc : OkCols c) (m : Mov) (h : MvOk m) (Hp : List AObj) : AFun Tryz.prog 65 [Ac c, Fy m] Hp (.tup [Ac (Bf c m).1, A2 (Bf c m).2]) := by
 refine ACall.body [.tmp 4, .tmp 5] [0, 1] Tryz.func65 Tryz.ntmps65 (fun d => ?_)
 refine Z7 ?_;refine H5 ?_;refine Z4 ?_;refine R.call Tryz.call94 (c94 c hc m h _) ?_;refine R.go ?_;refine R.fin [0, 3, 6] ?_;refine Cs ?_
 have hg := Vu (c := c) h.ok
 have hg2 : (B1 c m).length ≤ 1000000 := by rw [Hc]; exact h.ok.gives2
 refine Z72 ?_;refine R.call Tryz.call95 (c95 c hc m.take h.ok.takes (B1 c m) hg hg2 _) ?_;refine Z89 ?_;refine R.fin [0, 3, 6, 7, 8] ?_;refine Z28 ?_;refine R.fin [0, 3, 6, 7, 8, 23] ?_
 refine W.cond (fun ht23 => ?_) (fun ht23 => ?_)
 ·have hm := og ht23
  refine Z4 ?_;exact qz
 refine Z6 ?_;refine Z46 ?_;refine R.call Tryz.call96 (c96 m.ahead h.ok.ahead (B1 c m) (by rw [Hc, h.ahead]) c hc _) ?_;refine R.go ?_;refine R.fin [0, 3, 7, 9] ?_;refine Z4 ?_;refine R.fin [0, 3, 7, 9, 31] ?_
 refine W.cond (fun ht31 => ?_) (fun ht31 => ?_)
 ·have hm := oh ht23 ht31
  refine Z4 ?_;exact qz
 refine Z6 ?_;refine W.seq ?_;refine W.drawQ [0, 1, 0, 0, 12, 0, 63, 127] 6 Ad (by kernel_rfl) ?_;refine bo ?_;refine D.call Tryz.call97 (c97 c hc m h.ok (Y6 ht23) _) ?_;refine gu ?_;refine R.call Tryz.call96 (c96 m.back h.ok.back (Ht c m) (by rw [Ht, List.length_map, h.back]) (By c m.take (B1 c m)).1 (Vw hc hg hg2) _) ?_;refine R.go ?_;refine R.fin [7, 10] ?_;refine Z4 ?_;refine R.fin [7, 10, 41] ?_
 refine W.cond (fun ht41 => ?_) (fun ht41 => ?_)
 ·have hm := oi ht23 ht31 ht41
  refine Z4 ?_;exact qz
 have hm := ol ht23 ht31 ht41
 refine Lp ?_;refine Ws ?_;exact rb

def Jw {α : Type} (p : α → Bool) (l : List α) : Int := if l.any p then (l.findIdx p : Int) else -1
theorem kr {α : Type} {p : α → Bool} {l : List α} {i : Nat} (h : i < l.length) (hn : p l[i] = true) (hp : ∀ (j : Nat) (y : α), j < i → l[j]? = some y → p y = false) : (i : Int) = Jw p l := by
 unfold Jw
 rw [if_pos (List.any_eq_true.2 ⟨_, List.getElem_mem h, hn⟩)]
 congr 1
 refine (List.findIdx_eq h |>.2 ⟨hn, fun j hj => ?_⟩).symm
 exact hp j (l[j]'(by omega)) hj (List.getElem?_eq_getElem (by omega))
theorem Y7 {α : Type} {p : α → Bool} {l : List α} (h : l.any p = false) : (-1 : Int) = Jw p l := by
 unfold Jw
 rw [if_neg (by rw [h]; simp)]
theorem di {α : Type} (p : α → Bool) (l : List α) : decide (0 ≤ Jw p l) = l.any p := by
 unfold Jw
 cases l.any p <;> simp
def J3 (s : Str) : Bool := !(C8 s)
def Cy (e : Expr) : Bool := !(Am e)
theorem kt {m : Mov} (h : (((m.ahead.length : Int) != (m.give.length : Int)) || ((m.back.length : Int) != (m.take.length : Int))) = true) : Ds m = false := if_pos h
theorem ku {m : Mov} (h : (((m.ahead.length : Int) != (m.give.length : Int)) || ((m.back.length : Int) != (m.take.length : Int))) = false) : Ds m = if m.kind == 1 then ((m.take.length : Int) == 0) && ((m.give.length : Int) == 1)
 else if m.kind == 2 then ((m.take.length : Int) == 1) && ((m.give.length : Int) == 0)
 else if (m.kind == 3) || (m.kind == 6) then ((m.take.length : Int) == 1) && ((m.give.length : Int) == 1)
 else if m.kind == 4 then ((m.take.length : Int) == 1) && decide ((1 : Int) < (m.give.length : Int))
 else if m.kind == 5 then decide ((1 : Int) < (m.take.length : Int)) && ((m.give.length : Int) == 1)
 else false := if_neg (by rw [h]; simp)
theorem zl (m : Mov) (Hp : List AObj) : AFun Tryz.prog 125 [Fy m] Hp (An (Ds m)) := by
 refine ACall.body [.tmp 2] [0] Tryz.func125 Tryz.ntmps125 (fun d => ?_)
 refine Z64 ?_;refine W.drawQ [0, 1, 3, 0, 8, 24, 7, 127] 7 Ad (by kernel_rfl) ?_;refine Z17 ?_;refine U8 ?_;refine D.tail ?_;refine R.go ?_;refine R.fin [1, 3, 4] ?_;refine Z65 ?_
 simp only [List.length_map]
 refine Z72 ?_;refine Z36 ?_;refine Wu ?_;refine R.fin [1, 3, 4, 22] ?_
 refine W.cond (fun ht22 => ?_) (fun ht22 => ?_)
 ·simp only [List.length_map] at ht22
  have hm := kt ht22
  refine Z20 ?_;refine K.thR ?_;exact ra
 simp only [List.length_map] at ht22
 have hn := ku ht22
 refine Z6 ?_;refine Z28 ?_;refine R.fin [3, 4, 24] ?_;refine Z87 ?_;refine R.fin [3, 4, 24, 25] ?_
 refine W.cond (fun ht25 => ?_) (fun ht25 => ?_)
 ·refine Ua ?_;refine Z5 ?_;exact K.fin (V.one V.tmp) ⟨by rw [hn]; first | (simp only [ht22, ht25, hk3, hk6, Bool.true_or, Bool.false_or, Bool.or_true, Bool.or_false, if_true, if_false, Bool.false_eq_true, ↓reduceIte] <;> rfl) | (simp only [ht22, ht25, hk3, Bool.true_or, Bool.false_or, Bool.or_true, if_true, if_false, Bool.false_eq_true, ↓reduceIte] <;> rfl) | (simp only [ht22, ht25, if_true, if_false, Bool.false_eq_true, ↓reduceIte] <;> rfl), rfl⟩
 refine Z4 ?_;refine R.fin [3, 4, 24, 33] ?_
 refine W.cond (fun ht33 => ?_) (fun ht33 => ?_)
 ·refine Ua ?_;refine Z5 ?_;exact K.fin (V.one V.tmp) ⟨by rw [hn]; first | (simp only [ht22, ht25, ht33, hk3, hk6, Bool.true_or, Bool.false_or, Bool.or_true, Bool.or_false, if_true, if_false, Bool.false_eq_true, ↓reduceIte] <;> rfl) | (simp only [ht22, ht25, ht33, hk3, Bool.true_or, Bool.false_or, Bool.or_true, if_true, if_false, Bool.false_eq_true, ↓reduceIte] <;> rfl) | (simp only [ht22, ht25, ht33, if_true, if_false, Bool.false_eq_true, ↓reduceIte] <;> rfl), rfl⟩
 refine Z28 ?_;refine R.fin [3, 4, 24, 41] ?_
 refine W.cond (fun ht41 => ?_) (fun ht41 => ?_)
 ·have hk3 := ht41
  refine Z6 ?_
  refine W.cond (fun ht41 => ?_) (fun ht41 => ?_)
  ·refine Ua ?_;exact Z43
  rw [hk3] at ht41; cases ht41
 have hk3 := ht41
 refine Z13 ?_;refine R.fin [3, 4, 24, 41] ?_;refine K.thN ?_
 refine W.cond (fun ht41 => ?_) (fun ht41 => ?_)
 ·have hk6 := ht41
  refine Ua ?_;exact Z43
 have hk6 := ht41
 refine Z4 ?_;refine R.fin [3, 4, 24, 50] ?_
 refine W.cond (fun ht50 => ?_) (fun ht50 => ?_)
 ·refine Ua ?_;refine Z5 ?_;exact K.fin (V.one V.tmp) ⟨by rw [hn]; first | (simp only [ht22, ht25, ht33, ht41, ht41, ht50, hk3, hk6, Bool.true_or, Bool.false_or, Bool.or_true, Bool.or_false, if_true, if_false, Bool.false_eq_true, ↓reduceIte] <;> rfl) | (simp only [ht22, ht25, ht33, ht41, ht41, ht50, hk3, Bool.true_or, Bool.false_or, Bool.or_true, if_true, if_false, Bool.false_eq_true, ↓reduceIte] <;> rfl) | (simp only [ht22, ht25, ht33, ht41, ht41, ht50, if_true, if_false, Bool.false_eq_true, ↓reduceIte] <;> rfl), rfl⟩
 refine Z4 ?_;refine R.fin [3, 4, 58] ?_
 refine W.cond (fun ht58 => ?_) (fun ht58 => ?_)
 ·refine Ua ?_;refine Z5 ?_;exact vk
 refine U4 ?_;exact vk

theorem zm (s : Str) (hs : s.length ≤ 1048576) (Hp : List AObj) : AFun Tryz.prog 128 [A6 s] Hp (An (J3 s)) := by
 refine ACall.body [.tmp 2] [0] Tryz.func128 Tryz.ntmps128 (fun d => ?_)
 refine Z38 ?_;refine Z0 ?_;refine R.call Tryz.call108 (ii s hs _) ?_;exact fx

theorem zn (e : Expr) (hok : okE 61 e) (Hp : List AObj) : AFun Tryz.prog 126 [A3 e] Hp (An (Cy e)) := by
 refine ACall.body [.tmp 2] [0] Tryz.func126 Tryz.ntmps126 (fun d => ?_)
 refine Ww ?_;exact un

theorem c77 (e : Expr) (hok : okE 61 e) (Hp : List AObj) : AFun Tryz.prog 77 [A3 e] Hp (An (Cy e)) := by
 refine ACall.body [.tmp 2] [0] Tryz.func77 Tryz.ntmps77 (fun d => ?_)
 refine Ww ?_;exact un

theorem zo (l : List Str) (hl : l.length ≤ 1048576) (hn : ∀ s ∈ l, s.length ≤ 1048576) (Hp : List AObj) : AFun Tryz.prog 163 [Dg l, .fn (.func 128) [] []] Hp (A2 (Jw J3 l)) := by
 refine ACall.body [.tmp 4] [0, 1] Tryz.func163 Tryz.ntmps163 (fun d => ?_)
 refine bn ?_
 refine AW.loopC (α := Nat) (fun x => ⟨19, A4 0 (Dg l) (A4 1 (.fn (.func 128) [] []) (A4 7 (A2 l.length) (A4 8 (A2 (x : Nat)) (fun _ => .any)))), Hp, [], [], none⟩) (fun x => x ≤ l.length ∧ ∀ (j : Nat) y, j < x → l[j]? = some y → J3 y = false) (fun x => l.length - x) (0) ⟨Nat.zero_le _, fun j y h => by omega⟩ (StLe.of_eq (by simp)) rfl (fun x hx => ?_)
 refine bc ?_
 refine W.condX (fun ht9 => ?_) (fun ht9 => ?_)
 ·have hlt : x < l.length := by simpa using ht9
  refine bj ?_
  refine R.go (h := Q.indexAddr (x) (A6 l[x]) (fun _ => Ak hlt)) (hr := ?_)
  refine R.go ?_;refine R.callV Tryz.call128 (zm l[x] (hn _ (List.getElem_mem hlt)) _) ?_;refine br ?_
  refine W.cond (fun ht16 => ?_) (fun ht16 => ?_)
  ·exact mf
  exact mj
 have hxe : l.length ≤ x := by simpa using ht9
 exact ml

theorem c127 (l : List Str) (hl : l.length ≤ 1048576) (hn : ∀ s ∈ l, s.length ≤ 1048576) (Hp : List AObj) : AFun Tryz.prog 127 [Dg l, .fn (.func 128) [] []] Hp (An (l.any J3)) := by
 refine ACall.body [.tmp 4] [0, 1] Tryz.func127 Tryz.ntmps127 (fun d => ?_)
 refine Z54 ?_;refine Z4 ?_;refine R.call Tryz.call163 (zo l hl hn _) ?_;refine Z1 ?_;exact Z78

theorem wv (l : List Expr) (hl : l.length ≤ 1048576) (hn : ∀ e ∈ l, okE 61 e) (Hp : List AObj) : AFun Tryz.prog 111 [B5 l, .fn (.func 126) [] []] Hp (A2 (Jw Cy l)) := by
 refine ACall.body [.tmp 4] [0, 1] Tryz.func111 Tryz.ntmps111 (fun d => ?_)
 refine bn ?_
 refine AW.loopC (α := Nat) (fun x => ⟨19, A4 0 (B5 l) (A4 1 (.fn (.func 126) [] []) (A4 7 (A2 l.length) (A4 8 (A2 (x : Nat)) (fun _ => .any)))), Hp, [], [], none⟩) (fun x => x ≤ l.length ∧ ∀ (j : Nat) y, j < x → l[j]? = some y → Cy y = false) (fun x => l.length - x) (0) ⟨Nat.zero_le _, fun j y h => by omega⟩ (StLe.of_eq (by simp)) rfl (fun x hx => ?_)
 refine bc ?_
 refine W.condX (fun ht9 => ?_) (fun ht9 => ?_)
 ·have hlt : x < l.length := by simpa using ht9
  refine bj ?_
  refine R.go (h := Q.indexAddr (x) (A3 l[x]) (fun _ => Ak hlt)) (hr := ?_)
  refine R.go ?_;refine R.callV Tryz.call126 (zn l[x] (hn _ (List.getElem_mem hlt)) _) ?_;refine br ?_
  refine W.cond (fun ht16 => ?_) (fun ht16 => ?_)
  ·exact mf
  exact mj
 have hxe : l.length ≤ x := by simpa using ht9
 exact ml

theorem qf (l : List Expr) (hl : l.length ≤ 1048576) (hn : ∀ e ∈ l, okE 61 e) (Hp : List AObj) : AFun Tryz.prog 76 [B5 l, .fn (.func 126) [] []] Hp (An (l.any Cy)) := by
 refine ACall.body [.tmp 4] [0, 1] Tryz.func76 Tryz.ntmps76 (fun d => ?_)
 refine Z54 ?_;refine Z4 ?_;refine R.call Tryz.call111 (wv l hl hn _) ?_;refine Z1 ?_;exact Z78

theorem ww (l : List Expr) (hl : l.length ≤ 1048576) (hn : ∀ e ∈ l, okE 61 e) (Hp : List AObj) : AFun Tryz.prog 111 [B5 l, .fn (.func 77) [] []] Hp (A2 (Jw Cy l)) := by
 refine ACall.body [.tmp 4] [0, 1] Tryz.func111 Tryz.ntmps111 (fun d => ?_)
 refine bn ?_
 refine AW.loopC (α := Nat) (fun x => ⟨19, A4 0 (B5 l) (A4 1 (.fn (.func 77) [] []) (A4 7 (A2 l.length) (A4 8 (A2 (x : Nat)) (fun _ => .any)))), Hp, [], [], none⟩) (fun x => x ≤ l.length ∧ ∀ (j : Nat) y, j < x → l[j]? = some y → Cy y = false) (fun x => l.length - x) (0) ⟨Nat.zero_le _, fun j y h => by omega⟩ (StLe.of_eq (by simp)) rfl (fun x hx => ?_)
 refine bc ?_
 refine W.condX (fun ht9 => ?_) (fun ht9 => ?_)
 ·have hlt : x < l.length := by simpa using ht9
  refine bj ?_
  refine R.go (h := Q.indexAddr (x) (A3 l[x]) (fun _ => Ak hlt)) (hr := ?_)
  refine R.go ?_;refine R.callV Tryz.call77 (c77 l[x] (hn _ (List.getElem_mem hlt)) _) ?_;refine br ?_
  refine W.cond (fun ht16 => ?_) (fun ht16 => ?_)
  ·exact mf
  exact mj
 have hxe : l.length ≤ x := by simpa using ht9
 exact ml

theorem wx (l : List Expr) (hl : l.length ≤ 1048576) (hn : ∀ e ∈ l, okE 61 e) (Hp : List AObj) : AFun Tryz.prog 76 [B5 l, .fn (.func 77) [] []] Hp (An (l.any Cy)) := by
 refine ACall.body [.tmp 4] [0, 1] Tryz.func76 Tryz.ntmps76 (fun d => ?_)
 refine Z54 ?_;refine Z4 ?_;refine R.call Tryz.call111 (ww l hl hn _) ?_;refine Z1 ?_;exact Z78

theorem oo (s : Str) (Hp : List AObj) : AFun Tryz.prog 130 [A6 s] Hp (A3 (Aj s)) := by
 refine ACall.body [.cell 2 45] [0] Tryz.func130 Tryz.ntmps130 (fun d => ?_)
 refine Z51 ?_;refine Z0 ?_;refine uh ?_;refine R.nilCell 0 5 6 ?_;refine Z2 ?_;exact K.fin (V.one (V.cellN jA jS)) ⟨by rw [A8]; rfl, rfl⟩

theorem c45 (l : List Expr) (hl : l.length ≤ 1048576) (hn : ∀ e ∈ l, okE 61 e) (Hp : List AObj) : AFun Tryz.prog 45 [B5 l] Hp (An (l.any Cy)) := by
 refine ACall.body [.tmp 2] [0] Tryz.func45 Tryz.ntmps45 (fun d => ?_)
 refine Z38 ?_;refine Z0 ?_;refine R.call Tryz.call76 (wx l hl hn _) ?_;exact gc

theorem Vx {m : Mov} {c : Col} : (((!(C8 c.name)) || (!((B9 c.kind == []) == (m.kind == 3)))) || ((m.kind == 3) && (c.kind != 0))) = !J1 m c := by
 unfold J1
 cases C8 c.name <;> cases (B9 c.kind == ([] : Str)) <;> cases (m.kind == 3) <;> cases (c.kind != 0) <;> rfl
theorem sb {m : Mov} (h : (!(Ds m)) = true) : G8 m = false := by
 have : Ds m = false := by simpa using h
 unfold G8; rw [this]; rfl
theorem sc {m : Mov} {c : Col} (hc : c ∈ m.give) (h : J1 m c = false) : G8 m = false := by
 have : m.give.all (J1 m) = false := List.all_eq_false.2 ⟨c, hc, by rw [h]; simp⟩
 unfold G8; rw [this]; simp
theorem sd {m : Mov} (h : ((m.take.any J3 || m.ahead.any Cy) || m.back.any Cy) = true) : G8 m = false := by
 unfold G8
 rw [show J3 = fun s => !(C8 s) from rfl, show Cy = fun e => !(Am e) from rfl, Gy, Gy, Gy] at h
 cases h1 : m.take.all C8 <;> cases h2 : m.ahead.all Am <;> cases h3 : m.back.all Am <;> simp_all
theorem ot {m : Mov} (h1 : Ds m = true) (h2 : m.give.all (J1 m) = true) (h : ((m.take.any J3 || m.ahead.any Cy) || m.back.any Cy) = false) : G8 m = Kc m := by
 unfold G8
 rw [show J3 = fun s => !(C8 s) from rfl, show Cy = fun e => !(Am e) from rfl, Gy, Gy, Gy] at h
 rw [h1, h2]
 cases h1 : m.take.all C8 <;> cases h2 : m.ahead.all Am <;> cases h3 : m.back.all Am <;> simp_all
theorem N3 {α β : Type} {f : α → β} {l : List α} {d : α} (h : 0 < l.length) : (l.map f)[0]? = some (f (l.getD 0 d)) := by
 rw [List.getElem?_map, List.getElem?_eq_getElem h, List.getD_eq_getElem?_getD, List.getElem?_eq_getElem h]
 rfl
theorem Ld {α : Type} {l : List α} {d : α} (h : 0 < l.length) : l.getD 0 d ∈ l := by
 rw [List.getD_eq_getElem?_getD, List.getElem?_eq_getElem h]
 exact List.getElem_mem h
theorem se {m : Mov} (h : (m.kind == 3) = true) : Kc m = (eqE (m.ahead.getD 0 Aa) (Aj (m.take.getD 0 [])) && eqE (m.back.getD 0 Aa) (Aj (m.give.getD 0 ⟨[], 0⟩).name)) := if_pos h
theorem sg {m : Mov} (h : (m.kind == 3) = false) (h6 : (m.kind == 6) = true) : Kc m = (m.take.getD 0 [] == (m.give.getD 0 ⟨[], 0⟩).name) := by unfold Kc; rw [if_neg (by rw [h]; simp), if_pos h6]
theorem sh {m : Mov} (h : (m.kind == 3) = false) (h6 : (m.kind == 6) = false) : Kc m = true := by unfold Kc; rw [if_neg (by rw [h]; simp), if_neg (by rw [h6]; simp)]
theorem c93 (m : Mov) (h : OkMov m) (Hp : List AObj) : AFun Tryz.prog 93 [Fy m] Hp (An (G8 m)) := by
 refine ACall.body [.tmp 2] [0] Tryz.func93 Tryz.ntmps93 (fun d => ?_)
 refine Z64 ?_;refine Z34 ?_;refine R.call Tryz.call125 (zl m _) ?_;refine R.go ?_;refine R.fin [1, 8] ?_
 refine W.cond (fun ht8 => ?_) (fun ht8 => ?_)
 ·have hm := sb ht8
  refine Z20 ?_;exact qt
 have hct : Ds m = true := by simpa using ht8
 refine Z6 ?_;refine Z46 ?_;refine R.fin [1, 10, 11, 12] ?_
 refine AW.loopC (α := Nat) (fun x => ⟨95, A4 1 (.ro (Kb m)) (A4 10 (Ac m.give) (A4 11 (A2 (m.give.length : Nat)) (A4 12 (A2 (x : Nat)) (fun _ => .any)))), Hp, [], [], none⟩) (fun x => x ≤ m.give.length ∧ ∀ (j : Nat) (y : Col), j < x → m.give[j]? = some y → (!J1 m y) = false) (fun x => m.give.length - x) (0) ⟨Nat.zero_le _, fun j y h => by omega⟩ (StLe.of_eq (by simp)) rfl (fun x hx => ?_)
 refine Z0 ?_;refine R.fin [1, 10, 11, 12, 13] ?_
 refine W.condX (fun ht13 => ?_) (fun ht13 => ?_)
 ·have hlt : x < m.give.length := by simpa using ht13
  have hgl := h.gives2
  refine Z88 ?_
  refine R.go (h := Q.indexAddr (x) (Av m.give[x]) (fun _ => Ak hlt)) (hr := ?_)
  refine Nf ?_;refine R.fin [1, 4, 10, 11, 12] ?_;refine W.drawQ [0, 1, 3, 7, 15, 31, 63, 127, 255, 31, 543, 1567, 4095, 8191, 16383, 32767, 65535, 131071, 262143, 524287, 1048575, 2097151, 4194303, 8388607] 12 Ad (by kernel_rfl) ?_;refine Z17 ?_;refine D.call Tryz.call108 (ii m.give[x].name (h.gives.2 _ (List.getElem_mem hlt)) _) ?_;refine Z17 ?_;refine Z99 ?_;refine H.call Tryz.call70 (fun hB => c70 m.give[x].kind _) ?_;refine Z99 ?_;refine Z99 ?_;refine D.tail ?_;refine G.go ?_;refine Z36 ?_;refine Sk ?_;refine Lo ?_;refine R.fin [1, 10, 11, 12, 39] ?_
  refine W.cond (fun ht39 => ?_) (fun ht39 => ?_)
  ·rw [Vx] at ht39
   have hm := sc (List.getElem_mem hlt) (by simpa using ht39)
   refine U6 ?_;exact i6
  rw [Vx] at ht39
  refine Z81 ?_;refine R.fin [1, 10, 11, 12] ?_;refine K.lpN (x + 1) ⟨hlt, Bk hlt hx.2 ht39⟩ (by omega) ?_
  exact StCut.take (own := []) (fun _ => .refl _) (by repeat (first | exact Ap | refine Ao (by first | (simp [or_imp, forall_and]; done) | exact Cx | exact low_ro.2 T9) ?_)) (by simp) (by simp)
 have hxe : m.give.length ≤ x := by simpa using ht13
 have hga : m.give.all (J1 m) = true := by have := Vq hxe hx.2; rw [Gy] at this; simpa using this
 refine Sh ?_;refine R.fin [1, 5] ?_;refine Z28 ?_;refine R.call Tryz.call127 (c127 m.take h.takes h.names _) ?_;refine R.go ?_;refine Z58 ?_;refine G.call Tryz.call76 (fun hB => qf m.ahead h.ahead.len h.ahead.ok _) ?_;refine Z86 ?_;refine G.call Tryz.call76 (fun hB => qf m.back h.back.len h.back.ok _) ?_;refine R.go ?_;refine R.fin [1, 55] ?_
 refine W.cond (fun ht55 => ?_) (fun ht55 => ?_)
 ·have hm := sd ht55
  refine Z20 ?_;exact qt
 have hm0 := ot hct hga ht55
 refine Z6 ?_;refine Z28 ?_;refine R.fin [1, 57] ?_;refine Z87 ?_;refine R.fin [1, 57, 58] ?_
 refine W.cond (fun ht58 => ?_) (fun ht58 => ?_)
 ·obtain ⟨hl1, hl2⟩ := P9 hct (by rw [ht58]; simp)
  obtain ⟨hl3, hl4⟩ := Gs hct
  have g1 := N3 (f := A3) (l := m.ahead) (d := Aa) (by omega)
  have g2 := N3 (f := A3) (l := m.back) (d := Aa) (by omega)
  have g3 := N3 (f := A6) (l := m.take) (d := []) (by omega)
  have g4 := N3 (f := Av) (l := m.give) (d := ⟨[], 0⟩) (by omega)
  have ok1 := h.ahead.ok _ (Ld (l := m.ahead) (d := Aa) (by omega))
  have ok2 := h.back.ok _ (Ld (l := m.back) (d := Aa) (by omega))
  have hm := hm0.trans (se ht58)
  refine W.drawQ [0, 1, 3, 7, 0, 16, 48, 112, 240, 511, 1023, 2047, 4095, 8191, 16383, 2047, 34815, 100351, 231423, 493567, 1017855, 2097151, 4194303, 8388607] 21 Ad (by kernel_rfl) ?_;refine Z17 ?_
  refine D.go (h := Q.indexAddr (0) (A3 (m.ahead.getD 0 Aa)) (fun _ => g1)) (hr := ?_)
  refine Z56 ?_
  refine D.go (h := Q.indexAddr (0) (A6 (m.take.getD 0 [])) (fun _ => g3)) (hr := ?_)
  refine D.go ?_;refine D.call Tryz.call130 (oo (m.take.getD 0 []) _) ?_;refine D.call Tryz.call129 (wj 61 (m.ahead.getD 0 Aa) ok1 (Aj (m.take.getD 0 [])) _) ?_;refine D.go ?_;refine Z99 ?_
  refine H.go (h := Q.indexAddr (0) (A3 (m.back.getD 0 Aa)) (fun _ => g2)) (hr := ?_)
  refine Z99 ?_;refine H.go ?_
  refine H.go (h := Q.indexAddr (0) (Av (m.give.getD 0 ⟨[], 0⟩)) (fun _ => g4)) (hr := ?_)
  refine Z99 ?_;refine H.call Tryz.call130 (fun hB => oo (m.give.getD 0 ⟨[], 0⟩).name _) ?_;refine D.tail ?_;refine G.call Tryz.call129 (fun hB => wj 61 (m.back.getD 0 Aa) ok2 (Aj (m.give.getD 0 ⟨[], 0⟩).name) _) ?_;refine Z40 ?_;exact ul
 refine Z4 ?_;refine R.fin [1, 83] ?_
 refine W.cond (fun ht83 => ?_) (fun ht83 => ?_)
 ·obtain ⟨hl1, hl2⟩ := P9 hct (by rw [ht83]; simp)
  obtain ⟨hl3, hl4⟩ := Gs hct
  have g1 := N3 (f := A3) (l := m.ahead) (d := Aa) (by omega)
  have g2 := N3 (f := A3) (l := m.back) (d := Aa) (by omega)
  have g3 := N3 (f := A6) (l := m.take) (d := []) (by omega)
  have g4 := N3 (f := Av) (l := m.give) (d := ⟨[], 0⟩) (by omega)
  have ok1 := h.ahead.ok _ (Ld (l := m.ahead) (d := Aa) (by omega))
  have ok2 := h.back.ok _ (Ld (l := m.back) (d := Aa) (by omega))
  have hm := hm0.trans (sg ht58 ht83)
  refine W.drawQ [0, 1, 3, 7, 0, 16, 48, 112, 240, 511, 1023] 9 Ad (by kernel_rfl) ?_;refine Z17 ?_
  refine D.go (h := Q.indexAddr (0) (A6 (m.take.getD 0 [])) (fun _ => g3)) (hr := ?_)
  refine Z56 ?_
  refine D.go (h := Q.indexAddr (0) (Av (m.give.getD 0 ⟨[], 0⟩)) (fun _ => g4)) (hr := ?_)
  refine Z17 ?_;refine D.tail ?_;refine Z40 ?_;exact ul
 have hm := hm0.trans (sh ht58 ht83)
 refine U4 ?_;exact i6

def dj (m : Mov) : Bool := !(G8 m)
theorem ou (l : List Mov) : (decide ((l.length : Int) ≤ 8) && !(l.any dj)) = da l := by
 unfold da
 rw [show dj = fun m => !(G8 m) from rfl, Gy]
 simp
theorem c92 (m : Mov) (h : OkMov m) (Hp : List AObj) : AFun Tryz.prog 92 [Fy m] Hp (An (dj m)) := by
 refine ACall.body [.tmp 2] [0] Tryz.func92 Tryz.ntmps92 (fun d => ?_)
 refine Ww ?_;refine R.call Tryz.call93 (c93 m h _) ?_;exact fx

theorem zp (l : List Mov) (h : OkMovs l) (Hp : List AObj) : AFun Tryz.prog 124 [G7 l, .fn (.func 92) [] []] Hp (A2 (Jw dj l)) := by
 refine ACall.body [.tmp 4] [0, 1] Tryz.func124 Tryz.ntmps124 (fun d => ?_)
 refine bn ?_
 refine AW.loopC (α := Nat) (fun x => ⟨19, A4 0 (G7 l) (A4 1 (.fn (.func 92) [] []) (A4 7 (A2 l.length) (A4 8 (A2 (x : Nat)) (fun _ => .any)))), Hp, [], [], none⟩) (fun x => x ≤ l.length ∧ ∀ (j : Nat) (y : Mov), j < x → l[j]? = some y → dj y = false) (fun x => l.length - x) (0) ⟨Nat.zero_le _, fun j y h => by omega⟩ (StLe.of_eq (by simp)) rfl (fun x hx => ?_)
 refine bc ?_
 refine W.condX (fun ht9 => ?_) (fun ht9 => ?_)
 ·have hlt : x < l.length := by simpa using ht9
  have hlen := h.len
  refine bj ?_
  refine R.go (h := Q.indexAddr (x) (Fy l[x]) (fun _ => Ak hlt)) (hr := ?_)
  refine R.go ?_;refine R.callV Tryz.call92 (c92 l[x] (h.each _ (List.getElem_mem hlt)) _) ?_;refine br ?_
  refine W.cond (fun ht16 => ?_) (fun ht16 => ?_)
  ·exact mf
  exact mj
 have hxe : l.length ≤ x := by simpa using ht9
 exact ml

theorem c91 (l : List Mov) (h : OkMovs l) (Hp : List AObj) : AFun Tryz.prog 91 [G7 l, .fn (.func 92) [] []] Hp (An (l.any dj)) := by
 refine ACall.body [.tmp 4] [0, 1] Tryz.func91 Tryz.ntmps91 (fun d => ?_)
 refine Z54 ?_;refine Z4 ?_;refine R.call Tryz.call124 (zp l h _) ?_;refine Z1 ?_;exact Z78

theorem c63 (l : List Mov) (h : OkMovs l) (Hp : List AObj) : AFun Tryz.prog 63 [G7 l] Hp (An (da l)) := by
 refine ACall.body [.tmp 2] [0] Tryz.func63 Tryz.ntmps63 (fun d => ?_)
 refine Z38 ?_;refine Z33 ?_;refine G.go ?_;refine G.call Tryz.call91 (fun hB => c91 l h _) ?_;refine G.go ?_;refine Z40 ?_;exact K.fin (V.one V.tmp) ⟨by rw [← ou, List.length_map], rfl⟩

theorem c34 (c : List Col) (hc : OkCols c) (l : List Mov) (h : OkMovs l) (Hp : List AObj) : AFun Tryz.prog 34 [Ac c, G7 l] Hp (An (Ma c l)) := by
 refine ACall.body [.tmp 4] [0, 1] Tryz.func34 Tryz.ntmps34 (fun d => ?_)
 refine Z54 ?_;refine Z0 ?_;refine R.call Tryz.call19 (c19 c hc _) ?_;refine R.go ?_;refine G.go ?_;refine G.call Tryz.call63 (fun hB => c63 l h _) ?_;refine Z1 ?_;refine Z26 ?_;exact K.fin (V.one V.tmp) ⟨by unfold Ma; rw [On], rfl⟩

theorem dk {Hp : List AObj} {c : List Col} (h : ∀ x ∈ Hp, ObjLow Hp.length x) : ∀ x ∈ Hp ++ [AObj.cells 22 [Ac c]], ObjLow (Hp.length + 1) x := by
 intro x hx
 rcases List.mem_append.1 hx with hx | hx
 ·exact ObjLow.le (by omega) (h x hx)
 rw [List.mem_singleton.1 hx]
 intro z hz
 rw [List.mem_singleton.1 hz]
 exact Cx
theorem c35 (c : List Col) (l : List Mov) (Hp : List AObj) : ACallO Tryz.prog 35 [Ac c, G7 l] Hp (fun r H' => r = .fn (.func 64) [] [.ro [G7 l], .ptr (oid Hp.length 0) 0] ∧ H' = Hp ++ [.cells 22 [Ac c]]) := by
 refine ACallO.body [.tmp 4] [0, 1] Tryz.func35 Tryz.ntmps35 (fun d => ?_)
 refine Wt ?_;refine Z1 ?_;refine Et ?_;refine Cs ?_
 refine R.assumeLow (fun hlow => ?_)
 refine Ip ?_;refine R.go ?_;refine Z26 ?_;exact K.finO 1 (V.tmp (t := 4)) ⟨rfl, rfl⟩ (hlow := by simp [oid, or_imp, forall_and]; exact ⟨fun m _ a _ => Ab _ a, fun m _ a _ => Ab _ a⟩) (hobj := dk hlow)

theorem c64 (l oc : Nat) (ms : List Mov) (hm : ∀ m ∈ ms, MvOk m) (hml : ms.length ≤ 1048576) (C : Nat → List Col) (hC : ∀ k, OkCols (C k)) (U T : Nat → List AObj) (N : Nat → Prop) (Z : List AObj → Prop) (hlen : ∀ k, (U k).length = (U 0).length) (hlenW : ∀ k, (T k).length = (U 0).length) (hll : l < (U 0).length) (hol : oc < (U 0).length)
  (hlw : ∀ k, ∀ x ∈ U k, ObjLow (U 0).length x) (hlW : ∀ k, ∀ x ∈ T k, ObjLow (U 0).length x) (h0 : N 0) (hc : ∀ k, (U k)[oc]? = some (.cells 22 [Ac (C k)])) (hcW : ∀ k, (T k)[oc]? = some (.cells 22 [Ac (C k)]))
  (hn : ∀ k m, ms[k]? = some m → (Bf (C k) m).2 = 0 → (T k).set oc (.cells 22 [Ac (Bf (C k) m).1]) = U (k + 1))
  (hy : ∀ k m X, ms[k]? = some m → N k → AYield Tryz.prog l [Ac (Bf (C k) m).1, A2 (Bf (C k) m).2] (U k ++ X) (fun b H' => ((Bf (C k) m).2 ≠ 0 ∧ ∃ V, H' = V ++ X ∧ V.length = (U 0).length ∧ (∀ x ∈ V, ObjLow (U 0).length x) ∧ Z V) ∨ ((Bf (C k) m).2 = 0 ∧ b = true ∧ N (k + 1) ∧ H' = T k ++ X)))
  (hR : N ms.length → Z (U ms.length)) : ACall Tryz.prog 64 [.yield l, .ro [G7 ms], .ptr oc 0] (U 0) (fun _ H' => Z H') := by
 refine ACall.body [] [0, 1, 2] Tryz.func64 Tryz.ntmps64 (fun d => ?_)
 refine Z7 ?_;refine R.fin [0, 2, 8, 9, 10] ?_
 refine AW.loopC (α := Nat) (fun x => ⟨31, A4 0 (.yield l) (A4 2 (.ptr oc 0) (A4 8 (G7 ms) (A4 9 (A2 ms.length) (A4 10 (A2 (x : Nat)) (fun _ => .any))))), U x, [], [], none⟩) (fun x => x ≤ ms.length ∧ N x) (fun x => ms.length - x) (0) ⟨Nat.zero_le _, h0⟩ (StLe.of_eq (by simp)) rfl (fun x hx => ?_)
 refine Z0 ?_;refine R.fin [0, 2, 8, 9, 10, 11] ?_
 refine W.condX (fun ht11 => ?_) (fun ht11 => ?_)
 ·have hlt : x < ms.length := by simpa using ht11
  refine Z88 ?_
  refine R.go (h := Q.indexAddr (x) (Fy ms[x]) (fun _ => Ak hlt)) (hr := ?_)
  refine Nf ?_;refine R.fin [0, 2, 5, 8, 9, 10] ?_;refine Cs ?_
  refine R.go (h := Q.loadUp (hc x)) (hr := ?_)
  refine R.go ?_;refine R.call Tryz.call65 (c65 (C x) (hC x) ms[x] (hm _ (List.getElem_mem hlt)) _) ?_;refine Z89 ?_;refine R.fin [0, 2, 6, 7, 8, 9, 10] ?_;refine Z18 ?_
  refine R.yield (l := l) (args := [Ac (Bf (C x) ms[x]).1, A2 (Bf (C x) ms[x]).2]) (hy x ms[x] _ (List.getElem?_eq_getElem hlt) hx.2) ?_
  intro b V O hV hb
  have hVO : O = [AObj.cells 64 (Kb ms[x])] ∧ (((Bf (C x) ms[x]).2 ≠ 0 ∧ V.length = (U 0).length ∧ (∀ y ∈ V, ObjLow (U 0).length y) ∧ Z V) ∨ ((Bf (C x) ms[x]).2 = 0 ∧ b = true ∧ N (x + 1) ∧ V = T x)) := by
   rcases hb with ⟨h1, V', h2, h3, h4, h5⟩ | ⟨h1, h2, h3, h4⟩
   ·obtain ⟨rfl, rfl⟩ := List.append_inj h2 (by rw [hV, hlen x, h3])
    exact ⟨rfl, .inl ⟨h1, h3, h4, h5⟩⟩
   have h6 := List.append_inj h4 (by rw [hV, hlen x, hlenW x])
   exact ⟨h6.2, .inr ⟨h1, h2, h3, h6.1⟩⟩
  obtain ⟨rfl, hVO⟩ := hVO
  have hVl : V.length = (U 0).length := by rw [hV, hlen x]
  have hVw : ∀ y ∈ V, ObjLow (U 0).length y := by
   rcases hVO with ⟨_, _, h, _⟩ | ⟨_, _, _, rfl⟩
   ·exact h
   exact hlW _
  refine ⟨fun _ => by rw [hVl]; exact hVw, fun o ho => (by cases ho), ?_⟩
  refine Z36 ?_;refine R.go ?_;refine R.fin [0, 2, 6, 8, 9, 10, 28] ?_
  refine W.cond (fun ht28 => ?_) (fun ht28 => ?_)
  ·have hZ : Z V := by
    rcases hVO with ⟨_, _, _, h⟩ | ⟨h1, h2, _, _⟩
    ·exact h
    rw [h1, h2] at ht28; simp at ht28
   refine Z23 ?_;refine Z5 ?_;refine K.lpR ?_;exact K.fin .nores (hp := hZ)
  have hVn : (Bf (C x) ms[x]).2 = 0 ∧ N (x + 1) ∧ V = T x := by
   rcases hVO with ⟨h1, _, _, _⟩ | ⟨h1, _, h3, h4⟩
   ·simp [h1] at ht28
   exact ⟨h1, h3, h4⟩
  obtain ⟨hz, hN, rfl⟩ := hVn
  have hnx := hn x _ (List.getElem?_eq_getElem hlt) hz
  refine Z6 ?_;refine Sg ?_
  refine R.storeUp jS (hcW x) ?_ ?_
  ·first | exact Cx | (simp [or_imp, forall_and]; done)
  refine R.fin [0, 2, 8, 9, 10] ?_;refine Ng ?_;refine R.fin [0, 2, 8, 9, 10] ?_;refine K.lpN (x + 1) ⟨hlt, hN⟩ (by omega) ?_
  rw [hnx]
  exact StCut.take (own := []) (fun _ => .refl _) (by repeat (first | exact Ap | refine Ao (by first | (simp [or_imp, forall_and]; done) | exact Lc | (have := hlen (x + 1); simp; omega)) ?_)) (by simp) (by simp)
 have hxe : x = ms.length := by have := hx.1; simp at ht11; omega
 refine K.lpE ?_;exact K.finN .nores (hp := by rw [hxe]; exact hR (hxe ▸ hx.2))

/-! The columns on the way through moves. -/
def colsAt (c : List Col) (ms : List Mov) : Nat → List Col
 | 0 => c
 | k + 1 => match ms[k]? with | some m => (Bf (colsAt c ms k) m).1 | none => colsAt c ms k
def Cb (c : List Col) (ms : List Mov) : Nat → List (List Col)
 | 0 => [c]
 | k + 1 => Cb c ms k ++ [colsAt c ms (k + 1)]
def NS (c : List Col) (ms : List Mov) (k : Nat) : Prop := C7 c ms = ((Cb c ms k).dropLast ++ (C7 (colsAt c ms k) (ms.drop k)).1, (C7 (colsAt c ms k) (ms.drop k)).2)
theorem Zs (c : List Col) (ms : List Mov) (k : Nat) : (Cb c ms k).dropLast ++ [colsAt c ms k] = Cb c ms k := by
 cases k with
 | zero => rfl
 | succ k => simp [Cb]
theorem Hd {c : List Col} {ms : List Mov} {k : Nat} {m : Mov} (h : ms[k]? = some m) : colsAt c ms (k + 1) = (Bf (colsAt c ms k) m).1 := by rw [colsAt, h]
theorem Lf {ms : List Mov} {k : Nat} {m : Mov} (hk : ms[k]? = some m) : ms.drop k = m :: ms.drop (k + 1) := by
 obtain ⟨h1, h2⟩ := List.getElem?_eq_some_iff.1 hk
 rw [List.drop_eq_getElem_cons h1, h2]
theorem wy {c : List Col} {ms : List Mov} : NS c ms 0 := rfl
theorem Zt {c : List Col} {ms : List Mov} {k : Nat} {m : Mov} (hk : ms[k]? = some m) (h : NS c ms k) (he : (Bf (colsAt c ms k) m).2 = 0) : NS c ms (k + 1) := by
 unfold NS at h ⊢
 rw [h, Lf hk]
 have e : C7 (colsAt c ms k) (m :: ms.drop (k + 1)) = (colsAt c ms k :: (C7 (Bf (colsAt c ms k) m).1 (ms.drop (k + 1))).1, (C7 (Bf (colsAt c ms k) m).1 (ms.drop (k + 1))).2) := by
  rw [C7, if_neg (by rw [he]; simp)]
 have e2 : (Cb c ms (k + 1)).dropLast = Cb c ms k := by simp [Cb]
 rw [e, e2, Hd hk]
 have e3 := Zs c ms k
 refine Prod.ext ?_ rfl
 show (Cb c ms k).dropLast ++ (colsAt c ms k :: _) = Cb c ms k ++ _
 conv => rhs; rw [← e3]
 simp
theorem Y8 {c : List Col} {ms : List Mov} {k : Nat} {m : Mov} (hk : ms[k]? = some m) (h : NS c ms k) (he : (Bf (colsAt c ms k) m).2 ≠ 0) : (C7 c ms).2 = (Bf (colsAt c ms k) m).2 := by
 unfold NS at h
 rw [h, Lf hk, C7, if_pos (by simpa using he)]
theorem kv {c : List Col} {ms : List Mov} (h : NS c ms ms.length) : C7 c ms = (Cb c ms ms.length, 0) := by
 unfold NS at h
 rw [h, List.drop_length, C7]
 exact Prod.ext (Zs c ms ms.length) rfl
theorem kw {c : List Col} {m : Mov} (hc : OkCols c) (h : OkMov m) : OkCols (Bf c m).1 := by
 have h0 : OkCols ([] : List Col) := ⟨by decide, fun y hy => by cases hy⟩
 unfold Bf
 split
 ·exact h0
 split
 ·exact h0
 split
 ·exact h0
 exact Vw hc (Vu h) (by rw [Hc]; exact h.gives2)
theorem Jj {c : List Col} {ms : List Mov} (hc : OkCols c) (h : ∀ m ∈ ms, OkMov m) : ∀ k, OkCols (colsAt c ms k)
 | 0 => hc
 | k + 1 => by
  rw [colsAt]
  cases hk : ms[k]? with
  | none => exact Jj hc h k
  | some m => exact kw (Jj hc h k) (h m (List.mem_of_getElem? hk))
theorem Lg (c : List Col) (ms : List Mov) : ∀ k, (Cb c ms k).length = k + 1
 | 0 => rfl
 | k + 1 => by rw [Cb, List.length_append, Lg c ms k]; rfl
theorem si {c : List Col} {ms : List Mov} (h : Ma c ms = true) (hk : OkMovs ms) : (∀ m ∈ ms, MvOk m) ∧ ms.length ≤ 8 := by
 unfold Ma da at h
 simp only [Bool.and_eq_true, decide_eq_true_eq, List.all_eq_true] at h
 exact ⟨fun m hm => oe (hk.each m hm) (Rd (h.2.2 m hm)), by omega⟩
theorem Rg {c : List Col} {ms : List Mov} (h : Ma c ms = false) : Fh c ms = ([], 1) := by
 have : Mb c ms = ([], 1) := if_neg (by rw [h]; simp)
 unfold Fh
 rw [this]; rfl
theorem Pc {c : List Col} {ms : List Mov} (h : Ma c ms = true) (he : (C7 c ms).2 ≠ 0) : Fh c ms = ([], (C7 c ms).2) := by
 have : Mb c ms = C7 c ms := if_pos h
 unfold Fh
 rw [this, if_pos (by simpa using he)]
theorem Rh {c : List Col} {ms : List Mov} {o : List (List Col)} (h : Ma c ms = true) (he : C7 c ms = (o, 0)) : Fh c ms = (o, 0) := by
 have : Mb c ms = C7 c ms := if_pos h
 unfold Fh
 rw [this, he]; rfl
abbrev kx (l : List (List Col)) : AV := .slice false 1 (l.map Ac)
theorem Jk {n k : Nat} {o : Bool} {l : List (List Col)} : Low n (.slice o k (l.map Ac)) := low_slice.2 fun y hy => by
 obtain ⟨m, _, rfl⟩ := List.mem_map.1 hy
 exact Cx
theorem zq {U : List AObj} {i j : Nat} {x y : AObj} (h : U[i]? = some x) (hne : j ≠ i) : (U.set j y)[i]? = some x := by rw [List.getElem?_set_ne hne]; exact h
theorem dl {n k : Nat} {o : Bool} {l : List (List Col)} {c : List Col} : Low n (.slice o k (l.map Ac ++ [Ac c])) := by
 have := Jk (n := n) (k := k) (o := o) (l := l ++ [c])
 rwa [List.map_append] at this
theorem c14 (c : List Col) (hc : OkCols c) (hc2 : c.length ≤ 1000000) (l : List Mov) (h : OkMovs l) (Hp : List AObj) : AFun Tryz.prog 14 [Ac c, G7 l] Hp (.tup [kx (Fh c l).1, A2 (Fh c l).2]) := by
 refine ACall.body [.cell 4 34, .cell 5 27] [0, 1, 7, 8] Tryz.func14 Tryz.ntmps14 (fun d => ?_)
 refine Z29 ?_;refine R.alloc jZ ?_;refine R.fin [0, 1, 4, 5, 7, 8] ?_;refine Z28 ?_;refine R.call Tryz.call34 (c34 c hc l h _) ?_;refine R.go ?_;refine R.fin [0, 1, 4, 5, 7, 8, 12] ?_
 refine W.cond (fun ht12 => ?_) (fun ht12 => ?_)
 ·have hm := Rg (by simpa using ht12)
  refine Cs ?_;refine Fa ?_;refine R.nilOwn 0 1 ?_;refine Fa ?_;refine Z73 ?_;exact K.fin (V.two (V.cell jA) (V.cell jA)) ⟨by rw [hm]; rfl, rfl⟩
 have hmay : Ma c l = true := by simpa using ht12
 obtain ⟨hmv, hl8⟩ := si hmay h
 refine O2 ?_;refine R.call Tryz.call36 (c36 c hc2 _) ?_;refine I6 ?_;refine R.alloc jZ ?_;refine R.storeOwnT jS ?_;refine R.fin [0, 1, 4, 5, 6, 7, 8] ?_;refine Z65 ?_
 refine R.assumeLow (fun hlow => ?_)
 refine Z1 ?_;refine R.callO Tryz.call35 (c35 c l _) ?_
 rintro _ _ ⟨rfl, rfl⟩
 refine ⟨[.cells 22 [Ac c]], by simp, ?_⟩
 rw [show oid (Hp ++ [AObj.cells 34 [AV.nil], AObj.cells 27 [A2 0], AObj.cells 34 [AV.slice true 1 [Ac c]]]).length 0 = oid Hp.length 3 by simp [oid]]
 simp only [List.cons_append, List.nil_append]
 refine R.fin [4, 5, 6, 7, 8, 18] ?_;refine AW.block ?_
 refine W.rangeV (m := 4) Tryz.call64 (fun FR as' bd' hFR has hbd => ?_)
 have hFRl : ∀ s, Low (Hp.length + 6) (FR s) := by
  intro s
  rw [hFR]
  refine Low.strip ?_
  revert s
  repeat (first | exact Ap | refine Ao (by first | (simp [oid, or_imp, forall_and]; done) | (simp [oid, or_imp, forall_and]; exact ⟨fun m _ a _ => Ab _ a, fun m _ a _ => Ab _ a⟩) | (simp [oid, or_imp, forall_and] <;> omega)) ?_)
 have hOl : ∀ {e : Int} {o : List (List Col)} {q : List Col} {lp : AObj}, ObjLow (Hp.length + 6) lp → ∀ x ∈ Hp ++ [AObj.cells 34 [AV.nil], AObj.cells 27 [A2 e], AObj.cells 34 [AV.slice true 1 ((o).map Ac)], AObj.cells 22 [Ac (q)], AObj.defs, lp], ObjLow (Hp.length + 6) x := by
  intro e o q lp hlp x hx
  refine Hq (fun x hx => ObjLow.le (by omega) (hlow x hx)) (fun x hx => ?_) x hx
  simp only [List.mem_cons, List.mem_nil_iff, or_false] at hx
  rcases hx with rfl | rfl | rfl | rfl | rfl | rfl
  ·intro y hy; rw [List.mem_singleton.1 hy]; simp
  ·intro y hy; rw [List.mem_singleton.1 hy]; simp
  ·intro y hy; rw [List.mem_singleton.1 hy]; exact Jk
  ·intro y hy; rw [List.mem_singleton.1 hy]; exact Cx
  ·trivial
  exact hlp
 refine ⟨_, c64 (oid Hp.length 5) (oid Hp.length 3) l hmv (by omega) (colsAt c l) (Jj hc fun m hm => h.each m hm) (fun k => Hp ++ [AObj.cells 34 [AV.nil], AObj.cells 27 [A2 0], AObj.cells 34 [AV.slice true 1 ((Cb c l k).map Ac)], AObj.cells 22 [Ac (colsAt c l k)], AObj.defs, AObj.loop LoopState.ready none FR 29 #[19, 20] as' bd' (oid Hp.length 4)]) (fun k => Hp ++ [AObj.cells 34 [AV.nil], AObj.cells 27 [A2 0], AObj.cells 34 [AV.slice true 1 ((Cb c l (k + 1)).map Ac)], AObj.cells 22 [Ac (colsAt c l k)], AObj.defs, AObj.loop LoopState.ready none FR 29 #[19, 20] as' bd' (oid Hp.length 4)]) (NS c l) (fun V => (∃ (o : List (List Col)) (q : List Col), V = Hp ++ [AObj.cells 34 [AV.nil], AObj.cells 27 [A2 0], AObj.cells 34 [AV.slice true 1 ((o).map Ac)], AObj.cells 22 [Ac (q)], AObj.defs, AObj.loop LoopState.ready none FR 29 #[19, 20] as' bd' (oid Hp.length 4)] ∧ C7 c l = (o, 0)) ∨ (∃ (e : Int) (o : List (List Col)) (q : List Col), V = Hp ++ [AObj.cells 34 [AV.nil], AObj.cells 27 [A2 e], AObj.cells 34 [AV.slice true 1 ((o).map Ac)], AObj.cells 22 [Ac (q)], AObj.defs, AObj.loop LoopState.done (some Code.ret) FR 29 #[19, 20] as' bd' (oid Hp.length 4)] ∧ e ≠ 0 ∧ (C7 c l).2 = e)) (fun k => by simp) (fun k => by simp) (by simp [oid]) (by simp [oid]) (fun k => (fun x hx => by rw [List.length_append]; exact hOl (lp := AObj.loop LoopState.ready none FR 29 #[19, 20] as' bd' (oid Hp.length 4)) (by exact ⟨hFRl, by simp [oid]⟩) x hx)) (fun k => (fun x hx => by rw [List.length_append]; exact hOl (lp := AObj.loop LoopState.ready none FR 29 #[19, 20] as' bd' (oid Hp.length 4)) (by exact ⟨hFRl, by simp [oid]⟩) x hx)) wy (fun k => by rw [Aw]; rfl) (fun k => by rw [Aw]; rfl) (fun k m hk he => by rw [E5]; simp only [Hd hk]; rfl) (fun k m X hk hN => ?_) (fun hN => .inl ⟨_, _, rfl, kv hN⟩), ?_⟩
 ·generalize hV : Hp ++ [AObj.cells 34 [AV.nil], AObj.cells 27 [A2 0], AObj.cells 34 [AV.slice true 1 ((Cb c l k).map Ac)], AObj.cells 22 [Ac (colsAt c l k)], AObj.defs, AObj.loop LoopState.ready none FR 29 #[19, 20] as' bd' (oid Hp.length 4)] ++ X = V
  have hL : V[oid Hp.length 5]? = some (AObj.loop LoopState.ready none FR 29 #[19, 20] as' bd' (oid Hp.length 4)) := by rw [← hV, List.append_assoc, Aw]; rfl
  have hA0 : V[oid Hp.length 2]? = some (AObj.cells 34 [AV.slice true 1 ((Cb c l k).map Ac)]) := by rw [← hV, List.append_assoc, Aw]; rfl
  have hB0 : V[oid Hp.length 0]? = some (AObj.cells 34 [AV.nil]) := by rw [← hV, List.append_assoc, Aw]; rfl
  have hC0 : V[oid Hp.length 1]? = some (AObj.cells 27 [A2 0]) := by rw [← hV, List.append_assoc, Aw]; rfl
  refine AYield.ofRound (pd := none) (fr := FR) (sz := 29) (ps := #[19, 20]) (df := oid Hp.length 4) (asg := as') (bd := bd') hL rfl (by decide) (fun d => ?_)
  subst hFR has hbd
  refine W.keep [4, 5, 6, 19, 20] ?_;refine Z0 ?_;refine R.fin [4, 5, 6, 7, 20] ?_;refine Sg ?_;refine R.fin [4, 5, 6, 7, 8] ?_
  refine ⟨rfl, none, hL, ?_⟩
  generalize hbz : (AObj.loop LoopState.busy _ _ _ _ _ _ _) = bz
  have hA : (V.set (oid Hp.length 5) bz)[oid Hp.length 2]? = some (AObj.cells 34 [AV.slice true 1 ((Cb c l k).map Ac)]) := by rw [List.getElem?_set_ne (C1 (by decide))]; exact hA0
  have hB : (V.set (oid Hp.length 5) bz)[oid Hp.length 0]? = some (AObj.cells 34 [AV.nil]) := by rw [List.getElem?_set_ne (C1 (by decide))]; exact hB0
  have hC : (V.set (oid Hp.length 5) bz)[oid Hp.length 1]? = some (AObj.cells 27 [A2 0]) := by rw [List.getElem?_set_ne (C1 (by decide))]; exact hC0
  refine gr ?_;refine R.fin [4, 5, 6, 7, 8, 22] ?_
  refine W.cond (fun ht22 => ?_) (fun ht22 => ?_)
  ·have he : (Bf (colsAt c l k) m).2 ≠ 0 := by simpa using ht22
   refine Z0 ?_
   refine R.storeUp jS hB ?_ ?_
   ·simp
   refine R.storeUp jS (zq hC (C1 (by decide))) ?_ ?_
   ·simp
   refine R.fin [] ?_;refine Z23 ?_;refine K.blR ?_
   subst hbz
   refine K.rdR (Yn hL (C1 (by decide)) (C1 (by decide))) ?_
   refine .inl ⟨he, Hp ++ [AObj.cells 34 [AV.nil], AObj.cells 27 [A2 (Bf (colsAt c l k) m).2], AObj.cells 34 [AV.slice true 1 ((Cb c l k).map Ac)], AObj.cells 22 [Ac (colsAt c l k)], AObj.defs, _], ?_, by simp, (fun x hx => by rw [List.length_append]; exact hOl (lp := _) (by exact ⟨hFRl, by simp [oid]⟩) x hx), .inr ⟨_, _, _, rfl, he, Y8 hk hN he⟩⟩
   subst hV
   simp only [List.append_assoc, E5, List.cons_append, List.nil_append, List.set_cons_succ, List.set_cons_zero]
  have he : (Bf (colsAt c l k) m).2 = 0 := by simpa using ht22
  refine Z6 ?_;refine AW.region ?_;refine R.loadUpT jA hA ?_;refine Z94 ?_
  refine R.append jU Tryz.type22 ?_ ?_ ?_
  ·have hol := Lg c l k; have hkl := (List.getElem?_eq_some_iff.1 hk).1; simp [Tryz.t22]; omega
  ·have hol := Lg c l k; have hkl := (List.getElem?_eq_some_iff.1 hk).1; simp [Tryz.t22]; omega
  refine R.storeUpT jS (getset hA) ?_ ?_
  ·exact dl
  refine Z53 ?_
  subst hbz
  refine r7 ?_
  refine .inr ⟨he, rfl, Zt hk hN he, ?_⟩
  subst hV
  simp only [List.append_assoc, E5, List.cons_append, List.nil_append, List.set_cons_succ, List.set_cons_zero]
  rw [Cb, Hd hk, List.map_append]
  rfl
 rintro r H' (⟨o, q, rfl, hrun⟩ | ⟨e, o, q, rfl, hne, hrun⟩)
 ·refine ⟨Hp, _, _, _, rfl, rfl, fun h => h, ?_, rfl, by simp, ?_⟩
  ·intro o ho
   have : o = oid Hp.length 4 := by simpa using ho
   subst this
   rw [Aw]
   rfl
  refine Z12 ?_;refine Z80 ?_;refine Fa ?_;refine Ws ?_;exact K.fin (V.two (V.cell jA) (V.cell jA)) ⟨by rw [Rh hmay hrun], rfl⟩ (hlow := by simp only [S9, List.mem_cons, List.mem_nil_iff, or_false]; rintro y (rfl | rfl); exact Jk; simp)
 refine ⟨Hp, _, _, _, rfl, rfl, fun h => h, ?_, rfl, by simp, ?_⟩
 ·intro o ho
  have : o = oid Hp.length 4 := by simpa using ho
  subst this
  rw [Aw]
  rfl
 refine W.nilOwn 0 1 ?_;refine Z55 ?_;exact K.fin (V.two (V.cell jA) (V.cell jA)) ⟨by rw [Pc hmay (by rw [hrun]; exact hne), hrun]; rfl, rfl⟩

theorem Ri (s : Str) : Le (.agg [A2 2, A6 s, A2 0, A2 0, A6 [], .nil]) (A3 (Aj s)) := by
 rw [A8]
 refine .agg _ _ rfl (fun y hy => ?_) (fun i y y' hy hy' => ?_)
 ·simp only [Ba, List.mem_cons, List.mem_nil_iff, or_false] at hy
  rcases hy with rfl | rfl | rfl | rfl | rfl | rfl <;> rfl
 match i with
 | 0 => simp at hy; subst hy; simp [Ba, Aj] at hy'; subst hy'; exact .inl rfl
 | 1 => simp at hy; subst hy; simp [Ba, Aj] at hy'; subst hy'; exact .inl rfl
 | 2 => simp at hy; subst hy; simp [Ba, Aj] at hy'; subst hy'; exact .inl rfl
 | 3 => simp at hy; subst hy; simp [Ba, Aj] at hy'; subst hy'; exact .inl rfl
 | 4 => simp at hy; subst hy; simp [Ba, Aj] at hy'; subst hy'; exact .inl rfl
 | 5 => simp at hy; subst hy; simp [Ba, Aj] at hy'; subst hy'; exact .inr ⟨rfl, 6, rfl⟩
 | i + 6 => simp at hy
theorem dm {n k : Nat} {o : Bool} {l : List Str} : Low n (.slice o k (l.map A6)) := by simp [or_imp, forall_and]
def Qb (c : List Col) : List Expr := c.map fun x => Aj x.name
theorem Kf {n k : Nat} {o : Bool} {a : List Expr} {e : Expr} : Low n (.slice o k (a.map A3 ++ [A3 e])) := low_slice.2 fun y hy => by
 rcases List.mem_append.1 hy with h | h
 ·obtain ⟨m, _, rfl⟩ := List.mem_map.1 h
  exact Ab _ _
 rw [List.mem_singleton.1 h]
 exact Ab _ _
theorem Cr {n k : Nat} {o : Bool} {a : List Expr} : Low n (.slice o k (a.map A3)) := low_slice.2 fun y hy => by
 obtain ⟨m, _, rfl⟩ := List.mem_map.1 hy
 exact Ab _ _
theorem c54 (c : List Col) (hc : c.length ≤ 1048576) (Hp : List AObj) : AFun Tryz.prog 54 [Ac c] Hp (B5 (Qb c)) := by
 refine ACall.body [.tmp 2] [0] Tryz.func54 Tryz.ntmps54 (fun d => ?_)
 refine Z38 ?_;refine Z0 ?_;refine H5 ?_;refine Z65 ?_;refine R.nilSl 3 6 ?_;refine Z25 ?_;refine R.fin [3, 6, 7, 8] ?_
 refine AW.loopC (α := Nat) (fun x => ⟨20, A4 3 (.slice true 6 (((c.take x).map fun y => Aj y.name).map A3)) (A4 6 (Ac c) (A4 7 (A2 (c.length : Nat)) (A4 8 (A2 (x : Nat)) (fun _ => .any)))), Hp, [], [], none⟩) (fun x => x ≤ c.length) (fun x => c.length - x) (0) (Nat.zero_le _) (StLe.of_eq (by simp)) rfl (fun x hx => ?_)
 refine Z0 ?_;refine R.fin [3, 6, 7, 8, 9] ?_
 refine W.condX (fun ht9 => ?_) (fun ht9 => ?_)
 ·have hlt : x < c.length := by simpa using ht9
  refine Z88 ?_
  refine R.go (h := Q.indexAddr (x) (Av c[x]) (fun _ => Ak hlt)) (hr := ?_)
  refine Nf ?_;refine R.fin [3, 5, 6, 7, 8] ?_;refine bf ?_;refine Z1 ?_;refine X0 ?_;refine R.wk 15 _ (Ri c[x].name) ?_;refine I6 ?_
  refine R.append jU Tryz.type45 ?_ ?_ ?_
  ·simp only [List.length_map, List.length_take, List.length_cons, List.length_nil, Tryz.t45]; omega
  ·simp only [List.length_map, List.length_take, List.length_cons, List.length_nil, Tryz.t45]; omega
  refine R.assignT ?_;refine R.fin [3, 6, 7, 8] ?_;refine Ng ?_;refine R.fin [3, 6, 7, 8] ?_;refine bt ?_
  rw [Ji hlt, List.map_append]
  exact StCut.take (own := []) (fun _ => .refl _) (by repeat (first | exact Ap | refine Ao (by first | (simp [or_imp, forall_and]; done) | exact Kf | exact Cx) ?_)) (by simp) (by simp)
 have hxe : c.length ≤ x := by simpa using ht9
 refine Z27 ?_;refine Sj ?_;exact K.fin (V.one V.tmp) ⟨by unfold Qb; rw [List.take_of_length_le hxe], rfl⟩ (hlow := Cr)

/-- The parser's object and the move's, turned. -/
def U2 (L : List Tok) (Hp : List AObj) (o om i : Nat) (x : AObj) : List AObj := (Hp.set o (pmO L i)).set om x
theorem U2_len {L : List Tok} {Hp : List AObj} {o om i : Nat} {x : AObj} : (U2 L Hp o om i x).length = Hp.length := by simp [U2]
theorem Cz {L : List Tok} {Hp : List AObj} {o om i : Nat} {x z : AObj} (hm : Hp[om]? = some z) : (U2 L Hp o om i x)[om]? = some x := gB hm
theorem Cg {L : List Tok} {Hp : List AObj} {o om i : Nat} {x z : AObj} (ho : Hp[o]? = some z) (hne : om ≠ o) : (U2 L Hp o om i x)[o]? = some (pmO L i) := gA ho hne
theorem Ct {L : List Tok} {Hp : List AObj} {o om i j : Nat} {x : AObj} (hne : om ≠ o) : (U2 L Hp o om i x).set o (pmO L j) = U2 L Hp o om j x := kb hne
theorem U2_setm {L : List Tok} {Hp : List AObj} {o om i : Nat} {x y : AObj} : (U2 L Hp o om i x).set om y = U2 L Hp o om i y := List.set_set ..
theorem Lh {L : List Tok} {Hp : List AObj} {o om i : Nat} {x : AObj} (ho : Hp[o]? = some (pmO L i)) (hm : Hp[om]? = some x) : U2 L Hp o om i x = Hp := by unfold U2; rw [Ed ho, Ed hm]
theorem Ec {L : List Tok} {Hp : List AObj} {o om i q : Nat} {x : AObj} (h1 : q ≠ o) (h2 : q ≠ om) : (U2 L Hp o om i x)[q]? = Hp[q]? := by unfold U2; rw [List.getElem?_set_ne (Ne.symm h2), List.getElem?_set_ne (Ne.symm h1)]
def W2 (L : List Tok) (o om : Nat) (Hp H' : List AObj) : Prop := ∃ j m, H' = U2 L Hp o om j (mvO m)
theorem Kg {n k : Nat} {o : Bool} {l : List Expr} {x : Expr} : Low n (.slice o k (l.map A3 ++ [.agg (Ba x)])) := by
 rw [show AV.agg (Ba x) = A3 x from (A8 x).symm]; exact Kf
theorem Du {n : Nat} {m : Mov} : ObjLow n (mvO m) := by
 show ∀ y ∈ mvC m, Low n y
 intro y hy
 simp only [mvC, List.mem_cons, List.not_mem_nil, or_false] at hy
 rcases hy with rfl | rfl | rfl | rfl | rfl
 all_goals first | exact Bb | simp [or_imp, forall_and]
theorem dn {L : List Tok} {Hp : List AObj} {o om i : Nat} {m : Mov} {c : Col} {x : AObj} : (U2 L Hp o om i x).set om (.cells 64 [A2 m.kind, .slice true 1 (m.take.map A6), .slice true 2 (m.give.map Av ++ [Av c]), .slice true 6 (m.ahead.map A3), .slice true 6 (m.back.map A3)]) = U2 L Hp o om i (mvO (Bu m c)) := by
 rw [U2_setm]; simp only [mvO, mvC, Bu, List.map_append, List.map_cons, List.map_nil]
theorem dp {L : List Tok} {Hp : List AObj} {o om i : Nat} {m : Mov} {e : Expr} {x : AObj} : (U2 L Hp o om i x).set om (.cells 64 [A2 m.kind, .slice true 1 (m.take.map A6), .slice true 2 (m.give.map Av), .slice true 6 (m.ahead.map A3 ++ [.agg (Ba e)]), .slice true 6 (m.back.map A3)]) = U2 L Hp o om i (mvO (Zl m e)) := by
 rw [U2_setm, show AV.agg (Ba e) = A3 e from (A8 e).symm]; simp only [mvO, mvC, Zl, List.map_append, List.map_cons, List.map_nil]
theorem dq {L : List Tok} {Hp : List AObj} {o om i : Nat} {m : Mov} {e : Expr} {x : AObj} : (U2 L Hp o om i x).set om (.cells 64 [A2 m.kind, .slice true 1 (m.take.map A6), .slice true 2 (m.give.map Av), .slice true 6 (m.ahead.map A3), .slice true 6 (m.back.map A3 ++ [.agg (Ba e)])]) = U2 L Hp o om i (mvO (Zm m e)) := by
 rw [U2_setm, show AV.agg (Ba e) = A3 e from (A8 e).symm]; simp only [mvO, mvC, Zm, List.map_append, List.map_cons, List.map_nil]
theorem dr {L : List Tok} {Hp : List AObj} {o om i : Nat} {m : Mov} {s : Str} {x : AObj} : (U2 L Hp o om i x).set om (.cells 64 [A2 m.kind, .slice true 1 (m.take.map A6 ++ [A6 s]), .slice true 2 (m.give.map Av), .slice true 6 (m.ahead.map A3), .slice true 6 (m.back.map A3)]) = U2 L Hp o om i (mvO (Zn m s)) := by
 rw [U2_setm]; simp only [mvO, mvC, Zn, List.map_append, List.map_cons, List.map_nil]

theorem ov (L : List Tok) (m : Mov) (i o om : Nat) (Hp : List AObj) (hne : om ≠ o) (ho : Hp[o]? = some (pmO L i)) (hm : Hp[om]? = some (mvO m)) (hi : i < L.length) (hl : TokEnd L) (hll : L.length ≤ 500000) (hb : MvLe m (2 * i - 1)) : CP 155 [.ptr o 0, .ptr om 0] Hp (Co L m i) (fun m' j r H' => r = Jv ∧ H' = U2 L Hp o om j (mvO m')) (W2 L o om Hp) := by
 refine ⟨fun hX => ?_⟩
 have := hb.take; have := hb.give; have := hb.ahead; have := hb.back
 refine ACall.body [] [0, 1] Tryz.func155 Tryz.ntmps155 (fun d => ?_)
 rcases hC : Gf L i with ⟨c, j⟩ | ⟨e, a⟩
 rotate_left
 ·exact (Be hX (by first | exact by unfold Co; rw [hC]; rfl | exact hC)).elim
 have hj := Rf hl hi _ _ hC
 refine W.drawY [0, 0, 2, 6, 14, 0, 32, 96, 254, 511, 1023, 2047] [4, 6] [.q 4 [] [], .s [8] (some 0) [] [], .q 1 [] [1], .s [10] (some 1) [] [], .q 1 [1] [], .s [8, 12] none [0, 1] []] (fun B => U2 L Hp o om (if B 1 = true then j else i) (if B 0 = true then .cells 64 [A2 m.kind, .slice true 1 (m.take.map A6), .slice false 2 (m.give.map Av), .slice true 6 (m.ahead.map A3), .slice true 6 (m.back.map A3)] else .cells 64 [A2 m.kind, .slice true 1 (m.take.map A6), .slice true 2 (m.give.map Av), .slice true 6 (m.ahead.map A3), .slice true 6 (m.back.map A3)])) (fun _ => []) Ad (by kernel_rfl) (Lh ho hm) rfl (fun B => U2_len) ?_
 apply Y.q
 case h1 =>
  intro B hT hF
  exact gg
 case hTF => decide
 refine Y.loadUpT (o := om) (t' := 64) (cs := [A2 m.kind, .slice true 1 (m.take.map A6), .slice true 2 (m.give.map Av), .slice true 6 (m.ahead.map A3), .slice true 6 (m.back.map A3)]) (cs' := [A2 m.kind, .slice true 1 (m.take.map A6), .slice false 2 (m.give.map Av), .slice true 6 (m.ahead.map A3), .slice true 6 (m.back.map A3)]) Tryz.isAgg22 (fun B hB => ⟨by simp only [hB]; exact Cz hm, U2_setm.symm, rfl⟩) ?_
 apply Y.q
 case h1 =>
  intro B hT hF
  exact Z68
 case hTF => decide
 refine Y.callUp (r := Av c) (o := o) (x0 := pmO L i) (x := pmO L j) Tryz.call177 (fun B hB1 hB2 hB => ⟨by simp only [hB]; exact Cg ho hne, (Ct hne).symm, rfl, C4, ?_⟩) ?_
 ·simp only [hB]
  exact (zf L i o _ (A5 (Cg ho hne)) hi hl hll).ok hC
 apply Y.q
 case h1 =>
  intro B hT hF
  exact Z44
 case hTF => decide
 refine Y.append jU Tryz.type58 ?_ ?_ ?_
 ·simp [Tryz.t58]; omega
 ·simp [Tryz.t58]; omega
 refine Y.tail (tn := [4, 6]) (U := U2 L Hp o om j (.cells 64 [A2 m.kind, .slice true 1 (m.take.map A6), .slice false 2 (m.give.map Av), .slice true 6 (m.ahead.map A3), .slice true 6 (m.back.map A3)])) ?_;refine Z1 ?_
 refine R.storeUpT jS (Cz hm) ?_ ?_
 ·simp [or_imp, forall_and]
 refine R.fin [0, 1] ?_;refine AW.upEq (dn (m := m) (c := c)) ?_
 rcases hW : Bg L [61] j with ⟨u, j2⟩ | ⟨e, a⟩
 rotate_left
 ·exact (Be hX (by first | exact by unfold Co; rw [hC]; show (Bg L [61] j).bind _ = _; rw [hW]; rfl | exact hW)).elim
 have hj2 := Dt hl hj.2 _ _ hW
 refine Z0 ?_;refine R.callUp (x := pmO L j2) Tryz.call123 (Cg ho hne) (by simp) C4 ((Y4 L [61] j o _ (A5 (Cg ho hne)) hj.2 hll).ok hW) ?_
 rw [Ct hne]
 refine R.fin [0, 1] ?_
 rcases hT : I5 L j2 with ⟨x, k⟩ | ⟨e, a⟩
 rotate_left
 ·exact (Be hX (by first | exact by unfold Co; rw [hC]; show (Bg L [61] j).bind _ = _; rw [hW]; show (I5 L j2).bind _ = _; rw [hT]; rfl | exact hT)).elim
 have hk := L9 hl hll hj2.2 hT
 refine W.drawT0 [0, 1, 3, 7, 0, 16, 15, 0, 255, 511, 1023, 511, 2559, 6655] [3, 5] [.q 3 [] [0], .s [20] (some 0) [] [], .q 1 [] [1], .s [22] (some 1) [] [], .q 2 [] []] (fun B => U2 L Hp o om (if B 1 = true then k else j2) (if B 0 = true then .cells 64 [A2 (Bu m c).kind, .slice true 1 ((Bu m c).take.map A6), .slice true 2 ((Bu m c).give.map Av), .slice false 6 ((Bu m c).ahead.map A3), .slice true 6 ((Bu m c).back.map A3)] else .cells 64 [A2 (Bu m c).kind, .slice true 1 ((Bu m c).take.map A6), .slice true 2 ((Bu m c).give.map Av), .slice true 6 ((Bu m c).ahead.map A3), .slice true 6 ((Bu m c).back.map A3)])) (fun _ => []) Ad (by kernel_rfl) rfl rfl (fun B => by rw [U2_len]; exact U2_len.symm) ?_
 apply Y.q
 case h1 =>
  intro B hT hF
  refine Z56 ?_;exact Sm
 case hTF => decide
 refine Y.loadUpT (o := om) (t' := 64) (cs := [A2 (Bu m c).kind, .slice true 1 ((Bu m c).take.map A6), .slice true 2 ((Bu m c).give.map Av), .slice true 6 ((Bu m c).ahead.map A3), .slice true 6 ((Bu m c).back.map A3)]) (cs' := [A2 (Bu m c).kind, .slice true 1 ((Bu m c).take.map A6), .slice true 2 ((Bu m c).give.map Av), .slice false 6 ((Bu m c).ahead.map A3), .slice true 6 ((Bu m c).back.map A3)]) Tryz.isAgg43 (fun B hB => ⟨by simp only [hB]; exact Cz hm, U2_setm.symm, rfl⟩) ?_
 apply Y.q
 case h1 =>
  intro B hT hF
  exact Z68
 case hTF => decide
 refine Y.callUp (r := A3 x) (o := o) (x0 := pmO L j2) (x := pmO L k) Tryz.call178 (fun B hB1 hB2 hB => ⟨by simp only [hB]; exact Cg ho hne, (Ct hne).symm, rfl, C4, ?_⟩) ?_
 ·simp only [hB]
  exact (wo L j2 o _ (A5 (Cg ho hne)) hj2.2 hl hll).ok hT
 apply Y.q
 case h1 =>
  intro B hT hF
  exact mg
 case hTF => decide
 refine Y.appendPut4 (tn := [3, 5]) (U := U2 L Hp o om k (.cells 64 [A2 (Bu m c).kind, .slice true 1 ((Bu m c).take.map A6), .slice true 2 ((Bu m c).give.map Av), .slice false 6 ((Bu m c).ahead.map A3), .slice true 6 ((Bu m c).back.map A3)])) (O := []) (o := om) (t' := 64) (cs := [A2 (Bu m c).kind, .slice true 1 ((Bu m c).take.map A6), .slice true 2 ((Bu m c).give.map Av), .slice false 6 ((Bu m c).ahead.map A3), .slice true 6 ((Bu m c).back.map A3)]) (by kernel_rfl) jU Tryz.type45 Tryz.sizeOf45 Tryz.sizeOf43 jU (A5 (Cz hm)) ?_ ?_ ?_ (hfsz := Tryz.sizeOf43)
 ·simp [Tryz.t45, Bu]; omega
 ·simp [Tryz.t45, Bu]; omega
 refine Z1 ?_
 refine R.storeUpT jS (Cz hm) ?_ ?_
 ·exact Kg
 refine R.fin [] ?_;exact K.finN .nores (hp := ⟨Zl (Bu m c) x, k, by unfold Co; rw [hC]; show (Bg L [61] j).bind _ = _; rw [hW]; show (I5 L j2).bind _ = _; rw [hT]; rfl, rfl, by exact dp (m := Bu m c)⟩)

/-- What is asked of a part of a move that is a closure. -/
def Zu (L : List Tok) (o om g : Nat) (caps : List AV) (Hp : List AObj) (one : Mov → Nat → PR Mov) : Prop :=
 ∀ m i, MvLe m (2 * i - 1) → 0 < i → i < L.length → CP g caps (U2 L Hp o om i (mvO m)) (one m i) (fun m' j r H' => r = Jv ∧ H' = U2 L Hp o om j (mvO m')) (W2 L o om Hp)
theorem Ga {L : List Tok} {Hp : List AObj} {o om i j : Nat} {x y : AObj} (hne : om ≠ o) : U2 L (U2 L Hp o om i x) o om j y = U2 L Hp o om j y := by
 unfold U2
 rw [kb hne, List.set_set]
theorem ky {L : List Tok} {Hp H' : List AObj} {o om i : Nat} {x : AObj} (hne : om ≠ o) (h : W2 L o om (U2 L Hp o om i x) H') : W2 L o om Hp H' := by
 obtain ⟨j, m, e⟩ := h
 exact ⟨j, m, by rw [e, Ga hne]⟩
theorem zr (L : List Tok) (m : Mov) (i o om bp bm : Nat) (Hp : List AObj) (hne : om ≠ o) (ho : Hp[o]? = some (pmO L i)) (hm : Hp[om]? = some (mvO m)) (hbp : Hp[bp]? = some (.cells 94 [.ptr o 0])) (hbm : Hp[bm]? = some (.cells 155 [.ptr om 0])) (hi : i < L.length) (hl : TokEnd L) (hll : L.length ≤ 500000) (hb : MvLe m (2 * i - 1)) : CP 179 [.ptr bm 0, .ptr bp 0] Hp (N1 L m i) (fun m' j r H' => r = Jv ∧ H' = U2 L Hp o om j (mvO m')) (W2 L o om Hp) := by
 refine ⟨fun hX => ?_⟩
 have n1 : bp ≠ o := fun e => by rw [e, ho] at hbp; simp at hbp
 have n2 : bp ≠ om := fun e => by rw [e, hm] at hbp; simp at hbp
 have n3 : bm ≠ o := fun e => by rw [e, ho] at hbm; simp at hbm
 have n4 : bm ≠ om := fun e => by rw [e, hm] at hbm; simp at hbm
 have := hb.take; have := hb.give; have := hb.ahead; have := hb.back
 refine ACall.body [] [0, 1] Tryz.func179 Tryz.ntmps179 (fun d => ?_)
 refine W.flip Ad (by kernel_rfl) Tryz.zeroValue4 Tryz.sizeOf4 Tryz.isAgg4 (fun fb => ?_)
 refine AW.keep [0, 1, 3] (by simp only [go_sem, ↓reduceIte, Nat.reduceEqDiff, Nat.reduceAdd] <;> rfl) ?_
 refine W.cond (fun ht3 => ?_) (fun ht3 => ?_)
 ·rcases hT : I5 L i with ⟨x, k⟩ | ⟨e, a⟩
  rotate_left
  ·exact vl
  have hk := L9 hl hll hi hT
  refine W.drawZ0 [0, 1, 3, 7, 0, 16, 15, 0, 255, 511, 1023, 2047] [3, 5] [.q 3 [] [0], .s [7] (some 0) [] [], .q 1 [] [1], .s [9] (some 1) [] [], .q 2 [] []] (fun B => U2 L Hp o om (if B 1 = true then k else i) (if B 0 = true then .cells 64 [A2 m.kind, .slice true 1 (m.take.map A6), .slice true 2 (m.give.map Av), .slice true 6 (m.ahead.map A3), .slice false 6 (m.back.map A3)] else .cells 64 [A2 m.kind, .slice true 1 (m.take.map A6), .slice true 2 (m.give.map Av), .slice true 6 (m.ahead.map A3), .slice true 6 (m.back.map A3)])) (fun _ => [.cells 4 [.v (.bool fb)]]) Ad (by kernel_rfl) (Lh ho hm) rfl (fun B => U2_len) ?_
  apply Y.q
  case h1 =>
   intro B hT hF
   refine D.go (h := Q.loadUp ((Ec n3 n4).trans hbm)) (hr := ?_)
   exact Z66
  case hTF => decide
  refine Y.loadUpT (o := om) (t' := 64) (cs := [A2 m.kind, .slice true 1 (m.take.map A6), .slice true 2 (m.give.map Av), .slice true 6 (m.ahead.map A3), .slice true 6 (m.back.map A3)]) (cs' := [A2 m.kind, .slice true 1 (m.take.map A6), .slice true 2 (m.give.map Av), .slice true 6 (m.ahead.map A3), .slice false 6 (m.back.map A3)]) Tryz.isAgg43 (fun B hB => ⟨by simp only [hB]; exact Cz hm, U2_setm.symm, rfl⟩) ?_
  apply Y.q
  case h1 =>
   intro B hT hF
   refine D.go (h := Q.loadUp ((Ec n1 n2).trans hbp)) (hr := ?_)
   exact Sm
  case hTF => decide
  refine Y.callUp (r := A3 x) (o := o) (x0 := pmO L i) (x := pmO L k) Tryz.call178 (fun B hB1 hB2 hB => ⟨by simp only [hB]; exact Cg ho hne, (Ct hne).symm, rfl, C4, ?_⟩) ?_
  ·simp only [hB]
   exact vm
  apply Y.q
  case h1 =>
   intro B hT hF
   exact mg
  case hTF => decide
  refine Y.put2 (tn := [3, 5]) (U := U2 L Hp o om k (.cells 64 [A2 m.kind, .slice true 1 (m.take.map A6), .slice true 2 (m.give.map Av), .slice true 6 (m.ahead.map A3), .slice false 6 (m.back.map A3)])) (O := [.cells 4 [.v (.bool fb)]]) (o := om) (t' := 64) (cs := [A2 m.kind, .slice true 1 (m.take.map A6), .slice true 2 (m.give.map Av), .slice true 6 (m.ahead.map A3), .slice false 6 (m.back.map A3)]) jU Tryz.type45 Tryz.sizeOf45 Tryz.sizeOf43 jU (A5 (Cz hm)) ?_ ?_ ?_ (hfsz := Tryz.sizeOf43)
  ·simp [Tryz.t45]; omega
  ·simp [Tryz.t45]; omega
  refine Z1 ?_
  refine R.storeUpT jS (Cz hm) ?_ ?_
  ·exact Kg
  exact tw
 rcases hT : I5 L i with ⟨x, k⟩ | ⟨e, a⟩
 rotate_left
 ·exact vl
 have hk := L9 hl hll hi hT
 refine W.drawY0 [0, 0, 2, 6, 14, 0, 32, 96, 254, 511, 1023, 2047] [4, 6] [.q 4 [] [], .s [20] (some 0) [] [], .q 1 [] [1], .s [22] (some 1) [] [], .q 1 [1] [], .s [20, 24] none [0, 1] []] (fun B => U2 L Hp o om (if B 1 = true then k else i) (if B 0 = true then .cells 64 [A2 m.kind, .slice true 1 (m.take.map A6), .slice true 2 (m.give.map Av), .slice true 6 (m.ahead.map A3), .slice false 6 (m.back.map A3)] else .cells 64 [A2 m.kind, .slice true 1 (m.take.map A6), .slice true 2 (m.give.map Av), .slice true 6 (m.ahead.map A3), .slice true 6 (m.back.map A3)])) (fun _ => [.cells 4 [.v (.bool fb)]]) Ad (by kernel_rfl) (Lh ho hm) rfl (fun B => U2_len) ?_
 apply Y.q
 case h1 =>
  intro B hT hF
  refine D.go (h := Q.loadUp ((Ec n3 n4).trans hbm)) (hr := ?_)
  refine D.go (h := Q.loadUp ((Ec n3 n4).trans hbm)) (hr := ?_)
  exact Z66
 case hTF => decide
 refine Y.loadUpT (o := om) (t' := 64) (cs := [A2 m.kind, .slice true 1 (m.take.map A6), .slice true 2 (m.give.map Av), .slice true 6 (m.ahead.map A3), .slice true 6 (m.back.map A3)]) (cs' := [A2 m.kind, .slice true 1 (m.take.map A6), .slice true 2 (m.give.map Av), .slice true 6 (m.ahead.map A3), .slice false 6 (m.back.map A3)]) Tryz.isAgg43 (fun B hB => ⟨by simp only [hB]; exact Cz hm, U2_setm.symm, rfl⟩) ?_
 apply Y.q
 case h1 =>
  intro B hT hF
  refine D.go (h := Q.loadUp ((Ec n1 n2).trans hbp)) (hr := ?_)
  exact Sm
 case hTF => decide
 refine Y.callUp (r := A3 x) (o := o) (x0 := pmO L i) (x := pmO L k) Tryz.call178 (fun B hB1 hB2 hB => ⟨by simp only [hB]; exact Cg ho hne, (Ct hne).symm, rfl, C4, ?_⟩) ?_
 ·simp only [hB]
  exact vm
 apply Y.q
 case h1 =>
  intro B hT hF
  exact Z44
 case hTF => decide
 refine Y.append jU Tryz.type45 ?_ ?_ ?_
 ·simp [Tryz.t45]; omega
 ·simp [Tryz.t45]; omega
 refine Y.tail (tn := [4, 6]) (U := U2 L Hp o om k (.cells 64 [A2 m.kind, .slice true 1 (m.take.map A6), .slice true 2 (m.give.map Av), .slice true 6 (m.ahead.map A3), .slice false 6 (m.back.map A3)])) ?_;refine Z1 ?_
 refine R.storeUpT jS (Cz hm) ?_ ?_
 ·exact Kg
 exact tw

theorem F4 {L : List Tok} {Hp : List AObj} {o om i j n : Nat} {x y : AObj} (hne : om ≠ o) (hy : ObjLow n y) (h : ∀ z ∈ U2 L Hp o om i x, ObjLow n z) : ∀ z ∈ U2 L Hp o om j y, ObjLow n z := by
 intro z hz
 rw [show U2 L Hp o om j y = ((U2 L Hp o om i x).set o (pmO L j)).set om y by rw [Ct hne, U2_setm]] at hz
 rcases List.mem_or_eq_of_mem_set hz with hz | rfl
 ·rcases List.mem_or_eq_of_mem_set hz with hz | rfl
  ·exact h z hz
  exact C4
 exact hy
theorem Cl {L : List Tok} {Hp own : List AObj} {o om i : Nat} {x : AObj} (h1 : o < Hp.length) (h2 : om < Hp.length) : U2 L (Hp ++ own) o om i x = U2 L Hp o om i x ++ own := by
 unfold U2
 rw [List.set_append_left _ _ h1, List.set_append_left _ _ (by simpa using h2)]
/-- Where the loop of things with commas between stands. -/
structure ListAt (L : List Tok) (n : Int) (one : Mov → Nat → PR Mov) (X : PR Mov) (x : Nat × Mov × Nat) : Prop where
 lt : x.2.2 < L.length
 pos : 0 < x.2.2
 le : MvLe x.2.1 (2 * x.2.2)
 k : x.1 ≤ x.2.2
 fuel : ∃ f, X = L7 L n one f x.1 x.2.1 x.2.2 ∧ L.length - x.2.2 < f
theorem ListAt.step {L : List Tok} {n : Int} {one : Mov → Nat → PR Mov} {X : PR Mov} {x : Nat × Mov × Nat} (h : ListAt L n one X x) (hq : N0 L n x.1 x.2.2 = true) : ∃ f, X = ((Bg L [44] x.2.2).bind fun _ j => (one x.2.1 j).bind fun m j => L7 L n one f (x.1 + 1) m j) ∧ L.length - x.2.2 < f + 1 := by
 obtain ⟨f, e, hf⟩ := h.fuel
 obtain ⟨f, rfl⟩ : ∃ g, f = g + 1 := ⟨f - 1, by omega⟩
 refine ⟨f, ?_, hf⟩
 rw [e, L7, if_pos hq]
theorem ListAt.on {L : List Tok} (hl : TokEnd L) {n : Int} {one : Mov → Nat → PR Mov} (hP : Qa L one) {X : PR Mov} {x : Nat × Mov × Nat} (h : ListAt L n one X x) (hq : N0 L n x.1 x.2.2 = true) {u : Unit} {j : Nat} (hW : Bg L [44] x.2.2 = .ok u j) {m2 : Mov} {j2 : Nat} (hO : one x.2.1 j = .ok m2 j2) : ListAt L n one X (x.1 + 1, m2, j2) ∧ x.2.2 < j2 := by
 obtain ⟨f, e, hf⟩ := h.step hq
 have h1 := Dt hl h.lt _ _ hW
 have hj : j = x.2.2 + 1 := by
  unfold Bg at hW
  split at hW
  ·injection hW with _ h; exact h.symm
  cases hW
 obtain ⟨a1, a2, a3⟩ := hP x.2.1 j (h.le.mono (by omega)) (by omega) h1.2 _ _ hO
 have := h.k
 refine ⟨⟨a2, by show 0 < j2; omega, a3, by show x.1 + 1 ≤ j2; omega, f, ?_, by show L.length - j2 < f; omega⟩, by omega⟩
 rw [e, hW]
 show (one x.2.1 j).bind _ = _
 rw [hO]; rfl
theorem ListAt.bad1 {L : List Tok} {n : Int} {one : Mov → Nat → PR Mov} {X : PR Mov} {x : Nat × Mov × Nat} (h : ListAt L n one X x) (hq : N0 L n x.1 x.2.2 = true) {e a : Int} (hW : Bg L [44] x.2.2 = .bad e a) : X = .bad e a := by
 obtain ⟨f, e, _⟩ := h.step hq
 rw [e, hW]; rfl
theorem ListAt.bad2 {L : List Tok} {n : Int} {one : Mov → Nat → PR Mov} {X : PR Mov} {x : Nat × Mov × Nat} (h : ListAt L n one X x) (hq : N0 L n x.1 x.2.2 = true) {u : Unit} {j : Nat} (hW : Bg L [44] x.2.2 = .ok u j) {e a : Int} (hO : one x.2.1 j = .bad e a) : X = .bad e a := by
 obtain ⟨f, e, _⟩ := h.step hq
 rw [e, hW]
 show (one x.2.1 j).bind _ = _
 rw [hO]; rfl
theorem ListAt.out {L : List Tok} {n : Int} {one : Mov → Nat → PR Mov} {X : PR Mov} {x : Nat × Mov × Nat} (h : ListAt L n one X x) (hq : N0 L n x.1 x.2.2 = false) : X = .ok x.2.1 x.2.2 := by
 obtain ⟨f, e, hf⟩ := h.fuel
 obtain ⟨f, rfl⟩ : ∃ g, f = g + 1 := ⟨f - 1, by omega⟩
 rw [e, L7, if_neg (by rw [hq]; simp)]
theorem zt (L : List Tok) (m : Mov) (i o om bp bm : Nat) (Hp : List AObj) (hne : om ≠ o) (ho : Hp[o]? = some (pmO L i)) (hm : Hp[om]? = some (mvO m)) (hbp : Hp[bp]? = some (.cells 94 [.ptr o 0])) (hbm : Hp[bm]? = some (.cells 155 [.ptr om 0])) (hi : i < L.length) (hl : TokEnd L) (hll : L.length ≤ 500000) (hb : MvLe m (2 * i - 1)) : CP 161 [.ptr bm 0, .ptr bp 0] Hp (L8 L m i) (fun m' j r H' => r = Jv ∧ H' = U2 L Hp o om j (mvO m')) (W2 L o om Hp) := by
 refine ⟨fun hX => ?_⟩
 have n1 : bp ≠ o := fun e => by rw [e, ho] at hbp; simp at hbp
 have n2 : bp ≠ om := fun e => by rw [e, hm] at hbp; simp at hbp
 have n3 : bm ≠ o := fun e => by rw [e, ho] at hbm; simp at hbm
 have n4 : bm ≠ om := fun e => by rw [e, hm] at hbm; simp at hbm
 have := hb.take; have := hb.give; have := hb.ahead; have := hb.back
 refine ACall.body [] [0, 1] Tryz.func161 Tryz.ntmps161 (fun d => ?_)
 rcases hT : Ef L i with ⟨s, k⟩ | ⟨e, a⟩
 rotate_left
 ·exact (Be hX (by first | exact by unfold L8; rw [hT]; rfl | exact hT)).elim
 have hk := F3 hl hi _ _ hT
 refine W.drawY0 [0, 0, 2, 6, 14, 0, 32, 96, 254, 511, 1023, 2047] [4, 6] [.q 4 [] [], .s [6] (some 0) [] [], .q 1 [] [1], .s [8] (some 1) [] [], .q 1 [1] [], .s [6, 10] none [0, 1] []] (fun B => U2 L Hp o om (if B 1 = true then k else i) (if B 0 = true then .cells 64 [A2 m.kind, .slice false 1 (m.take.map A6), .slice true 2 (m.give.map Av), .slice true 6 (m.ahead.map A3), .slice true 6 (m.back.map A3)] else .cells 64 [A2 m.kind, .slice true 1 (m.take.map A6), .slice true 2 (m.give.map Av), .slice true 6 (m.ahead.map A3), .slice true 6 (m.back.map A3)])) (fun _ => []) Ad (by kernel_rfl) (Lh ho hm) rfl (fun B => U2_len) ?_
 apply Y.q
 case h1 =>
  intro B hT hF
  refine D.go (h := Q.loadUp ((Ec n3 n4).trans hbm)) (hr := ?_)
  refine D.go (h := Q.loadUp ((Ec n3 n4).trans hbm)) (hr := ?_)
  exact Z66
 case hTF => decide
 refine Y.loadUpT (o := om) (t' := 64) (cs := [A2 m.kind, .slice true 1 (m.take.map A6), .slice true 2 (m.give.map Av), .slice true 6 (m.ahead.map A3), .slice true 6 (m.back.map A3)]) (cs' := [A2 m.kind, .slice false 1 (m.take.map A6), .slice true 2 (m.give.map Av), .slice true 6 (m.ahead.map A3), .slice true 6 (m.back.map A3)]) Tryz.isAgg37 (fun B hB => ⟨by simp only [hB]; exact Cz hm, U2_setm.symm, rfl⟩) ?_
 apply Y.q
 case h1 =>
  intro B hT hF
  refine D.go (h := Q.loadUp ((Ec n1 n2).trans hbp)) (hr := ?_)
  exact Sm
 case hTF => decide
 refine Y.callUp (r := A6 s) (o := o) (x0 := pmO L i) (x := pmO L k) Tryz.call156 (fun B hB1 hB2 hB => ⟨by simp only [hB]; exact Cg ho hne, (Ct hne).symm, rfl, C4, ?_⟩) ?_
 ·simp only [hB]
  exact (dd L i o _ (A5 (Cg ho hne)) hi hll).ok hT
 apply Y.q
 case h1 =>
  intro B hT hF
  exact Z44
 case hTF => decide
 refine Y.append jU Tryz.type9 ?_ ?_ ?_
 ·simp [Tryz.t9]; omega
 ·simp [Tryz.t9]; omega
 refine Y.tail (tn := [4, 6]) (U := U2 L Hp o om k (.cells 64 [A2 m.kind, .slice false 1 (m.take.map A6), .slice true 2 (m.give.map Av), .slice true 6 (m.ahead.map A3), .slice true 6 (m.back.map A3)])) ?_;refine Z1 ?_
 refine R.storeUpT jS (Cz hm) ?_ ?_
 ·simp [or_imp, forall_and]
 refine R.fin [] ?_;exact K.finN .nores (hp := ⟨Zn m s, k, by unfold L8; rw [hT]; rfl, rfl, by exact dr⟩)

theorem zu (L : List Tok) (m : Mov) (i o om bp bm : Nat) (Hp : List AObj) (hne : om ≠ o) (ho : Hp[o]? = some (pmO L i)) (hm : Hp[om]? = some (mvO m)) (hbp : Hp[bp]? = some (.cells 94 [.ptr o 0])) (hbm : Hp[bm]? = some (.cells 155 [.ptr om 0])) (hi : i < L.length) (hl : TokEnd L) (hll : L.length ≤ 500000) (hb : MvLe m (2 * i - 1)) : CP 160 [.ptr bp 0, .ptr bm 0] Hp (Co L m i) (fun m' j r H' => r = Jv ∧ H' = U2 L Hp o om j (mvO m')) (W2 L o om Hp) := by
 refine ⟨fun hX => ?_⟩
 have hol := (List.getElem?_eq_some_iff.1 ho).1
 have hml := (List.getElem?_eq_some_iff.1 hm).1
 have n1 : bp ≠ o := fun e => by rw [e, ho] at hbp; simp at hbp
 have n2 : bp ≠ om := fun e => by rw [e, hm] at hbp; simp at hbp
 have n3 : bm ≠ o := fun e => by rw [e, ho] at hbm; simp at hbm
 have n4 : bm ≠ om := fun e => by rw [e, hm] at hbm; simp at hbm
 have := hb.take; have := hb.give; have := hb.ahead; have := hb.back
 refine ACall.body [] [0, 1] Tryz.func160 Tryz.ntmps160 (fun d => ?_)
 refine i7 ?_
 rcases hT : Co L m i with ⟨m2, k⟩ | ⟨e, a⟩
 rotate_left
 ·exact (Be hX hT).elim
 refine AW.region ?_
 refine R.go (h := Q.loadUp ((Ec n1 n2).trans hbp)) (hr := ?_)
 refine R.go (h := Q.loadUp ((Ec n3 n4).trans hbm)) (hr := ?_)
 refine R.callX (up' := U2 L Hp o om k (mvO m2)) (own' := []) Tryz.call155 (((ov L m i o om _ hne (A5 (Cg ho hne)) (A5 (Cz hm)) hi hl hll hb).ok hT).mono (fun r H' e => ⟨e.1, e.2.trans (by rw [List.append_nil, List.append_nil, Ga hne])⟩)) (by rw [U2_len, U2_len]) (fun h => F4 hne Du h) ?_;refine R.fin [] ?_;exact K.finN .nores (hp := ⟨m2, k, rfl, rfl, rfl⟩)

theorem sj (L : List Tok) (n : Int) (m : Mov) (i o om g : Nat) (caps : List AV) (one : Mov → Nat → PR Mov) (Hp : List AObj) (hne : om ≠ o) (ho : Hp[o]? = some (pmO L i)) (hm : Hp[om]? = some (mvO m)) (h0 : 0 < i) (hi : i < L.length) (hl : TokEnd L) (hll : L.length ≤ 500000) (hb : MvLe m (2 * i - 1)) (hcall : ∀ args w, (callFunc g args).run Tryz.prog w = .ok (.enter g args) w) (hC : Zu L o om g caps Hp one) (hP : Qa L one) : CP 159 [.ptr o 0, A2 n, .fn (.func g) [] caps] Hp (F0 L n one m i) (fun m' j r H' => r = Jv ∧ H' = U2 L Hp o om j (mvO m')) (W2 L o om Hp) := by
 refine ⟨fun hX => ?_⟩
 have hol := (List.getElem?_eq_some_iff.1 ho).1
 have hml := (List.getElem?_eq_some_iff.1 hm).1
 refine ACall.body [] [0, 1, 2] Tryz.func159 Tryz.ntmps159 (fun d => ?_)
 refine i7 ?_
 rcases h1 : one m i with ⟨m1, j1⟩ | ⟨e, a⟩
 rotate_left
 ·exact (Be hX (by first | exact by unfold F0; rw [h1]; rfl | exact h1)).elim
 have g1 := hP m i hb h0 hi _ _ h1
 have e0 : F0 L n one m i = L7 L n one (L.length + 1) 1 m1 j1 := by unfold F0; rw [h1]; rfl
 refine Z0 ?_
 refine R.callVX (up' := U2 L Hp o om j1 (mvO m1)) (own' := []) hcall (by rw [List.append_nil, List.append_nil]; exact (hC m i hb h0 hi).ok h1) (by rw [U2_len, U2_len]) (fun h => F4 hne Du h) ?_
 refine R.fin [0, 1, 2] ?_;refine Z0 ?_;refine Wz ?_
 refine AW.loopC (α := Nat × Mov × Nat) (fun x => ⟨30, A4 0 (.ptr o 0) (A4 1 (A2 n) (A4 2 (.fn (.func g) [] caps) (A4 6 (A2 (x.1 : Int)) (fun _ => .any)))), U2 L Hp o om x.2.2 (mvO x.2.1), [], [], none⟩) (fun x => ListAt L n one (F0 L n one m i) x) (fun x => L.length - x.2.2) ((1, m1, j1)) ⟨g1.2.1, by show 0 < j1; omega, g1.2.2, by show 1 ≤ j1; omega, _, e0, by show L.length - j1 < _; omega⟩ (StLe.refl _) rfl (fun x hx => ?_)
 refine Z46 ?_;refine Sk ?_;refine Z58 ?_;refine G.call Tryz.call162 (fun hB => wm L [44] x.2.2 o _ (A5 (Cg ho hne)) hx.lt) ?_;refine Lo ?_;refine R.fin [0, 1, 2, 6, 23] ?_
 refine W.cond (fun ht23 => ?_) (fun ht23 => ?_)
 ·have hq : N0 L n x.1 x.2.2 = true := ht23
  refine Z62 ?_
  rcases hW : Bg L [44] x.2.2 with ⟨u, j⟩ | ⟨e, a⟩
  rotate_left
  ·exact (Be hX (by first | exact hx.bad1 hq hW | exact hW)).elim
  have hj := Dt hl hx.lt _ _ hW
  have hpos := hx.pos
  refine Z0 ?_;refine R.callUp (x := pmO L j) Tryz.call123 (Cg ho hne) (by simp) C4 ((Y4 L [44] x.2.2 o _ (A5 (Cg ho hne)) hx.lt hll).ok hW) ?_
  rw [Ct hne]
  refine Wz ?_
  rcases hO : one x.2.1 j with ⟨m2, j2⟩ | ⟨e, a⟩
  rotate_left
  ·exact (Be hX (by first | exact hx.bad2 hq hW hO | exact hO)).elim
  have hon := hx.on hl hP hq hW hO
  refine Sg ?_
  refine R.callVX (up' := U2 L Hp o om j2 (mvO m2)) (own' := []) hcall (by rw [List.append_nil, List.append_nil]; exact (hC x.2.1 j (hx.le.mono (by omega)) (by omega) hj.2).ok hO) (by rw [U2_len, U2_len]) (fun h => F4 hne Du h) ?_
  refine Wz ?_;refine Z12 ?_;refine Sg ?_
  refine R.go (h := Q.add64 (h2 := fun _ => by have := hx.k; have := hx.lt; omega)) (hr := ?_)
  refine R.go ?_;refine Wz ?_
  refine K.lpN (x.1 + 1, m2, j2) hon.1 (by have := hx.lt; have := hon.2; show L.length - j2 < L.length - x.2.2; omega) (StCut.of_eq rfl)
 have hq : N0 L n x.1 x.2.2 = false := ht23
 have e := hx.out hq
 refine Z37 ?_;refine K.lpE ?_;exact K.finN .nores (hp := ⟨_, _, e, rfl, rfl⟩)

theorem CP.mono {g : FuncId} {args : List AV} {H : List AObj} {α : Type} {X : PR α} {Q Q' : α → Nat → AV → List AObj → Prop} {R R' : List AObj → Prop} (h : CP g args H X Q R) (hQ : ∀ c j r H', Q c j r H' → Q' c j r H') (hR : ∀ H', R H' → R' H') : CP g args H X Q' R' :=
 ⟨fun hX => (h.run hX).mono (fun r H' ⟨c, j, e, hq⟩ => ⟨c, j, e, hQ _ _ _ _ hq⟩)⟩
section
variable {L : List Tok} {o om bp bm : Nat} {X : List AObj} {z z' : AObj}
theorem dt (hne : om ≠ o) (ho : X[o]? = some z) (hm : X[om]? = some z') (hbp : X[bp]? = some (.cells 94 [.ptr o 0])) (hbm : X[bm]? = some (.cells 155 [.ptr om 0])) (n1 : bp ≠ o) (n2 : bp ≠ om) (n3 : bm ≠ o) (n4 : bm ≠ om) (hl : TokEnd L) (hll : L.length ≤ 500000) : Zu L o om 179 [.ptr bm 0, .ptr bp 0] X (N1 L) :=
 fun m i hb _ hi => (zr L m i o om bp bm (U2 L X o om i (mvO m)) hne (Cg ho hne) (Cz hm) ((Ec n1 n2).trans hbp) ((Ec n3 n4).trans hbm) hi hl hll hb).mono (fun c j r H' e => ⟨e.1, e.2.trans (Ga hne)⟩) (fun H' h => ky hne h)
theorem du (hne : om ≠ o) (ho : X[o]? = some z) (hm : X[om]? = some z') (hbp : X[bp]? = some (.cells 94 [.ptr o 0])) (hbm : X[bm]? = some (.cells 155 [.ptr om 0])) (n1 : bp ≠ o) (n2 : bp ≠ om) (n3 : bm ≠ o) (n4 : bm ≠ om) (hl : TokEnd L) (hll : L.length ≤ 500000) : Zu L o om 161 [.ptr bm 0, .ptr bp 0] X (L8 L) :=
 fun m i hb _ hi => (zt L m i o om bp bm (U2 L X o om i (mvO m)) hne (Cg ho hne) (Cz hm) ((Ec n1 n2).trans hbp) ((Ec n3 n4).trans hbm) hi hl hll hb).mono (fun c j r H' e => ⟨e.1, e.2.trans (Ga hne)⟩) (fun H' h => ky hne h)
theorem dv (hne : om ≠ o) (ho : X[o]? = some z) (hm : X[om]? = some z') (hbp : X[bp]? = some (.cells 94 [.ptr o 0])) (hbm : X[bm]? = some (.cells 155 [.ptr om 0])) (n1 : bp ≠ o) (n2 : bp ≠ om) (n3 : bm ≠ o) (n4 : bm ≠ om) (hl : TokEnd L) (hll : L.length ≤ 500000) : Zu L o om 160 [.ptr bp 0, .ptr bm 0] X (Co L) :=
 fun m i hb _ hi => (zu L m i o om bp bm (U2 L X o om i (mvO m)) hne (Cg ho hne) (Cz hm) ((Ec n1 n2).trans hbp) ((Ec n3 n4).trans hbm) hi hl hll hb).mono (fun c j r H' e => ⟨e.1, e.2.trans (Ga hne)⟩) (fun H' h => ky hne h)
end
attribute [go_sem] U2_len
theorem dw {L : List Tok} {Hp own : List AObj} {o om i n : Nat} {x z : AObj} (h : own[n]? = some z) : (U2 L Hp o om i x ++ own)[oid Hp.length n]? = some z := by
 unfold oid
 rw [List.getElem?_append_right (by rw [U2_len]; omega), U2_len, Nat.add_sub_cancel_left]
 exact h
theorem G5 {n k o : Nat} (h : o < n) : oid n k ≠ o := by unfold oid; omega
theorem ow (L : List Tok) (m : Mov) (i o om : Nat) (Hp : List AObj) (hne : om ≠ o) (ho : Hp[o]? = some (pmO L i)) (hm : Hp[om]? = some (mvO m)) (hi : i < L.length) (hl : TokEnd L) (hll : L.length ≤ 500000) (hb : MvLe m (2 * i)) : CP 157 [.ptr o 0, .ptr om 0] Hp (Dk L m i) (fun m' j r H' => r = Jv ∧ H' = U2 L Hp o om j (mvO m')) (W2 L o om Hp) := by
 refine ⟨fun hX => ?_⟩
 have hol := (List.getElem?_eq_some_iff.1 ho).1
 have hml := (List.getElem?_eq_some_iff.1 hm).1
 refine ACall.body [] [0, 1] Tryz.func157 Tryz.ntmps157 (fun d => ?_)
 refine Wt ?_;refine R.box ?_;refine Et ?_;refine i7 ?_
 rcases hW : Bg L k7 i with ⟨u, j⟩ | ⟨e, a⟩
 rotate_left
 ·exact (Be hX (by first | exact by unfold Dk; rw [hW]; rfl | exact hW)).elim
 have hj := Dt hl hi _ _ hW
 refine Z0 ?_;refine R.callUp (x := pmO L j) Tryz.call123 (Cg ho hne) (by simp) C4 ((Y4 L k7 i o _ (A5 (Cg ho hne)) hi hll).ok hW) ?_
 rw [Ct hne]
 refine Et ?_
 rcases hP : F0 L ((m.take.map A6).length : Int) (N1 L) m j with ⟨m2, k⟩ | ⟨e, a⟩
 rotate_left
 ·exact (Be hX (by first | exact by unfold Dk; rw [hW]; show F0 L _ _ m j = _; rw [← hP, List.length_map] | exact hP)).elim
 refine W.drawQ0 [0, 0, 2, 6, 14, 30, 0, 127] 7 Ad (by kernel_rfl) ?_;refine bo ?_
 refine D.go (h := Q.loadUp (Cz hm)) (hr := ?_)
 refine D.go ?_;refine D.makeFunc ?_;refine D.tail ?_
 refine R.callX (up' := U2 L Hp o om k (mvO m2)) (own' := [.cells 94 [.ptr o 0], .cells 155 [.ptr om 0]]) Tryz.call159 (((sj L (((m.take.map A6).length : Int)) m j o om 179 [.ptr (oid Hp.length 1) 0, .ptr (oid Hp.length 0) 0] (N1 L) (U2 L Hp o om j (mvO m) ++ [.cells 94 [.ptr o 0], .cells 155 [.ptr om 0]]) hne (A5 (Cg ho hne)) (A5 (Cz hm)) (by omega) hj.2 hl hll (hb.mono (by omega)) Tryz.call179 (dt (z := pmO L j) (z' := mvO m) hne (A5 (Cg ho hne)) (A5 (Cz hm)) (dw rfl) (dw rfl) (G5 hol) (G5 hml) (G5 hol) (G5 hml) hl hll) (Vn hl hll)).ok hP).mono (fun r H' e => ⟨e.1, e.2.trans (by first | rw [Cl (by rw [U2_len]; exact hol) (by rw [U2_len]; exact hml), Ga hne] | rw [Cl hol hml])⟩)) (by first | rfl | rw [U2_len, U2_len] | rw [U2_len]) (fun h => F4 hne Du h) ?_
 refine R.fin [] ?_;exact K.finN .nores (hp := ⟨m2, k, by unfold Dk; rw [hW]; show F0 L _ _ m j = _; rw [← hP, List.length_map], rfl, rfl⟩)

theorem Rj {L : List Tok} {Hp : List AObj} {o om i : Nat} {m : Mov} {s : Str} {x : AObj} : (U2 L Hp o om i x).set om (.cells 64 [A2 m.kind, .slice true 1 [A6 s], .slice true 2 (m.give.map Av), .slice true 6 (m.ahead.map A3), .slice true 6 (m.back.map A3)]) = U2 L Hp o om i (mvO (takeS m s)) := U2_setm
theorem Zv {n : Nat} {x : Expr} : Low n (.slice true 6 [.agg (Ba x)]) := by
 have := Bb (n := n) (k := 6) (o := true) (l := [x])
 simp only [List.map_cons, List.map_nil] at this
 rw [A8] at this
 exact this
theorem Vy {n : Nat} {x : Expr} : Low n (.slice true 6 [A3 x]) := Bb (l := [x])
theorem kz {L : List Tok} {m m1 : Mov} {i k : Nat} (h : Co L m i = .ok m1 k) : (m1.give.map Av)[0]? = some (Av (m1.give.getD 0 ⟨[], 0⟩)) := by
 obtain ⟨c, j, h1, h2⟩ := PR.bind_ok h
 obtain ⟨u, j2, h3, h4⟩ := PR.bind_ok h2
 obtain ⟨x, j3, h5, h6⟩ := PR.bind_ok h4
 injection h6 with h6 h7
 subst h6
 show ((m.give ++ [c]).map Av)[0]? = some (Av ((m.give ++ [c]).getD 0 ⟨[], 0⟩))
 cases m.give <;> rfl
section
variable {L : List Tok} {m : Mov} {i : Nat}
theorem l3 (h1 : (m.kind == 1) = true) : F1 L m i = Co L m i := if_pos h1
theorem Y9 (h1 : (m.kind == 1) = false) (h2 : (m.kind == 2) = true) : F1 L m i = (Ef L i).bind fun s j => Dk L (takeS m s) j := by
 unfold F1; rw [if_neg (by rw [h1]; simp), if_pos h2]
theorem l4 (h1 : (m.kind == 1) = false) (h2 : (m.kind == 2) = false) (h3 : (m.kind == 3) = true) : F1 L m i = Gg L m i := by
 unfold F1; rw [if_neg (by rw [h1]; simp), if_neg (by rw [h2]; simp), if_pos h3]
theorem Pd (h1 : (m.kind == 1) = false) (h2 : (m.kind == 2) = false) (h3 : (m.kind == 3) = false) (h4 : (m.kind == 4) = true) : F1 L m i = (Ef L i).bind fun s j => (Bg L G9 j).bind fun _ j => (F0 L 0 (Co L) (takeS m s) j).bind fun m j => Dk L m j := by
 unfold F1; rw [if_neg (by rw [h1]; simp), if_neg (by rw [h2]; simp), if_neg (by rw [h3]; simp), if_pos h4]
theorem Pe (h1 : (m.kind == 1) = false) (h2 : (m.kind == 2) = false) (h3 : (m.kind == 3) = false) (h4 : (m.kind == 4) = false) (h5 : (m.kind == 5) = true) : F1 L m i = (F0 L 0 (L8 L) m i).bind fun m j => (Bg L G9 j).bind fun _ j => (Co L m j).bind fun m j => Dk L m j := by
 unfold F1; rw [if_neg (by rw [h1]; simp), if_neg (by rw [h2]; simp), if_neg (by rw [h3]; simp), if_neg (by rw [h4]; simp), if_pos h5]
theorem Ya (h1 : (m.kind == 1) = false) (h2 : (m.kind == 2) = false) (h3 : (m.kind == 3) = false) (h4 : (m.kind == 4) = false) (h5 : (m.kind == 5) = false) (h6 : (m.kind == 6) = true) : F1 L m i = (Co L m i).bind fun m j => Dk L (takeS m (m.give.getD 0 ⟨[], 0⟩).name) j := by
 unfold F1; rw [if_neg (by rw [h1]; simp), if_neg (by rw [h2]; simp), if_neg (by rw [h3]; simp), if_neg (by rw [h4]; simp), if_neg (by rw [h5]; simp), if_pos h6]
theorem sk (h1 : (m.kind == 1) = false) (h2 : (m.kind == 2) = false) (h3 : (m.kind == 3) = false) (h4 : (m.kind == 4) = false) (h5 : (m.kind == 5) = false) (h6 : (m.kind == 6) = false) : F1 L m i = .ok m i := by
 unfold F1; rw [if_neg (by rw [h1]; simp), if_neg (by rw [h2]; simp), if_neg (by rw [h3]; simp), if_neg (by rw [h4]; simp), if_neg (by rw [h5]; simp), if_neg (by rw [h6]; simp)]
end
theorem zv (L : List Tok) (m : Mov) (i o om : Nat) (Hp : List AObj) (hne : om ≠ o) (ho : Hp[o]? = some (pmO L i)) (hm : Hp[om]? = some (mvO m)) (hi : i < L.length) (hl : TokEnd L) (hll : L.length ≤ 500000) (hb : MvLe m (2 * i - 1)) : CP 158 [.ptr o 0, .ptr om 0] Hp (Gg L m i) (fun m' j r H' => r = Jv ∧ H' = U2 L Hp o om j (mvO m')) (W2 L o om Hp) := by
 refine ⟨fun hX => ?_⟩
 refine ACall.body [] [0, 1] Tryz.func158 Tryz.ntmps158 (fun d => ?_)
 refine i7 ?_
 rcases h1 : Ef L i with ⟨s, j⟩ | ⟨e, a⟩
 rotate_left
 ·exact (Be hX (by first | exact by unfold Gg; rw [h1]; rfl | exact h1)).elim
 have hj := F3 hl hi _ _ h1
 refine Z4 ?_;refine R.callUp (x := pmO L j) Tryz.call156 (Cg ho hne) (by simp) C4 ((dd L i o _ (A5 (Cg ho hne)) hi hll).ok h1) ?_
 rw [Ct hne]
 refine I6 ?_;refine Z1 ?_
 refine R.storeUpT jS (Cz hm) ?_ ?_
 ·simp [or_imp, forall_and]
 refine R.fin [0, 1] ?_;refine AW.upEq (U2_setm (y := .cells 64 [A2 m.kind, .slice true 1 ([A6 s]), .slice true 2 (m.give.map Av), .slice true 6 (m.ahead.map A3), .slice true 6 (m.back.map A3)])) ?_
 rcases h2 : Bg L toW j with ⟨u, j2⟩ | ⟨e, a⟩
 rotate_left
 ·exact (Be hX (by first | exact by unfold Gg; rw [h1]; show (Bg L toW j).bind _ = _; rw [h2]; rfl | exact h2)).elim
 have hj2 := Dt hl hj.2 _ _ h2
 refine Z0 ?_;refine R.callUp (x := pmO L j2) Tryz.call123 (Cg ho hne) (by simp) C4 ((Y4 L toW j o _ (A5 (Cg ho hne)) hj.2 hll).ok h2) ?_
 rw [Ct hne]
 refine R.fin [0, 1] ?_
 rcases h3 : Ef L j2 with ⟨t, k⟩ | ⟨e, a⟩
 rotate_left
 ·exact (Be hX (by first | exact by unfold Gg; rw [h1]; show (Bg L toW j).bind _ = _; rw [h2]; show (Ef L j2).bind _ = _; rw [h3]; rfl | exact h3)).elim
 refine Z0 ?_;refine R.callUp (x := pmO L k) Tryz.call156 (Cg ho hne) (by simp) C4 ((dd L j2 o _ (A5 (Cg ho hne)) hj2.2 hll).ok h3) ?_
 rw [Ct hne]
 refine R.go ?_;refine R.fin [1, 4] ?_;refine Z4 ?_;refine Ud ?_;refine I6 ?_;refine Z1 ?_
 refine R.storeUpT jS (Cz hm) ?_ ?_
 ·simp [or_imp, forall_and]
 refine R.fin [1, 4] ?_;refine AW.upEq (U2_setm (y := .cells 64 [A2 m.kind, .slice true 1 ([A6 s]), .slice true 2 ([Av ⟨t, 0⟩]), .slice true 6 (m.ahead.map A3), .slice true 6 (m.back.map A3)])) ?_;refine Z13 ?_;refine Z25 ?_
 refine R.go (h := Q.loadUp (Cz hm)) (hr := ?_)
 refine R.go (h := Q.indexAddr (0) (A6 s) (fun _ => rfl)) (hr := ?_)
 refine R.go ?_;refine R.call Tryz.call130 (oo s _) ?_;refine I6 ?_;refine R.go ?_;refine R.call Tryz.call130 (oo t _) ?_;refine I6 ?_;refine Z1 ?_
 refine R.storeUpT jS (Cz hm) ?_ ?_
 ·first | exact Zv | exact Vy
 rw [U2_setm]
 refine Z1 ?_
 refine R.storeUpT jS (Cz hm) ?_ ?_
 ·first | exact Zv | exact Vy
 rw [U2_setm]
 refine R.fin [] ?_;exact K.finN .nores (hp := ⟨⟨m.kind, [s], [⟨t, 0⟩], [Aj s], [Aj t]⟩, k, by unfold Gg; rw [h1]; show (Bg L toW j).bind _ = _; rw [h2]; show (Ef L j2).bind _ = _; rw [h3]; rfl, rfl, by simp only [mvO, mvC, List.map_cons, List.map_nil, A8]⟩)

theorem dx {L : List Tok} {Hp : List AObj} {o om i : Nat} {m : Mov} {c : Col} {x : AObj} : (U2 L Hp o om i x).set om (.cells 64 [A2 m.kind, .slice true 1 [A6 c.name], .slice true 2 (m.give.map Av), .slice true 6 (m.ahead.map A3), .slice true 6 (m.back.map A3)]) = U2 L Hp o om i (mvO (takeS m c.name)) := U2_setm
theorem zw (L : List Tok) (m : Mov) (i o om : Nat) (Hp : List AObj) (hne : om ≠ o) (ho : Hp[o]? = some (pmO L i)) (hm : Hp[om]? = some (mvO m)) (hi : i < L.length) (hl : TokEnd L) (hll : L.length ≤ 500000) (hb : MvLe m (2 * i - 1)) (h0 : 0 < i) : CP 122 [.ptr o 0, .ptr om 0] Hp (F1 L m i) (fun m' j r H' => r = Jv ∧ H' = U2 L Hp o om j (mvO m')) (W2 L o om Hp) := by
 refine ⟨fun hX => ?_⟩
 have hol := (List.getElem?_eq_some_iff.1 ho).1
 have hml := (List.getElem?_eq_some_iff.1 hm).1
 refine ACall.body [] [0, 1] Tryz.func122 Tryz.ntmps122 (fun d => ?_)
 refine Wt ?_;refine R.box ?_;refine Et ?_;refine i7 ?_;refine Z7 ?_
 refine R.go (h := Q.loadUp (Cz hm)) (hr := ?_)
 refine R.fin [2, 3, 7] ?_;refine Z87 ?_;refine R.fin [2, 3, 7, 8] ?_
 refine W.cond (fun ht8 => ?_) (fun ht8 => ?_)
 ·rcases h1 : Co L m i with ⟨m1, k⟩ | ⟨e, a⟩
  rotate_left
  ·exact (Be hX (by first | exact by rw [l3 ht8]; rw [h1] | exact h1)).elim
  refine Z13 ?_
  refine R.callX (up' := U2 L Hp o om k (mvO m1)) (own' := [.cells 94 [.ptr o 0], .cells 155 [.ptr om 0]]) Tryz.call155 (((ov L m i o om (U2 L Hp o om i (mvO m) ++ [.cells 94 [.ptr o 0], .cells 155 [.ptr om 0]]) hne (A5 (Cg ho hne)) (A5 (Cz hm)) hi hl hll hb).ok h1).mono (fun r H' e => ⟨e.1, e.2.trans (by first | rw [Cl (by rw [U2_len]; exact hol) (by rw [U2_len]; exact hml), Ga hne] | rw [Cl hol hml])⟩)) (by first | rfl | rw [U2_len, U2_len] | rw [U2_len]) (fun h => F4 hne Du h) ?_
  refine Z53 ?_;exact K.finN .nores (hp := ⟨m1, k, by rw [l3 ht8]; rw [h1], rfl, rfl⟩)
 refine Z4 ?_;refine R.fin [2, 3, 7, 13] ?_
 refine W.cond (fun ht13 => ?_) (fun ht13 => ?_)
 ·rcases h1 : Ef L i with ⟨s, j⟩ | ⟨e, a⟩
  rotate_left
  ·exact (Be hX (by first | exact by rw [Y9 ht8 ht13]; rw [h1]; rfl | exact h1)).elim
  have hj := F3 hl hi _ _ h1
  refine W.drawY [0, 0, 2, 6, 15, 31, 63] [2] [.q 2 [] [], .s [17] (some 0) [] [], .s [18] none [0] []] (fun B => U2 L Hp o om (if B 0 = true then j else i) (mvO m)) (fun _ => [.cells 94 [.ptr o 0], .cells 155 [.ptr om 0]]) Ad (by kernel_rfl) rfl rfl (fun B => by rw [U2_len]; exact U2_len.symm) ?_
  apply Y.q
  case h1 =>
   intro B hT hF
   exact Z66
  case hTF => decide
  refine Y.callUp (r := A6 s) (o := o) (x0 := pmO L i) (x := pmO L j) Tryz.call156 (fun B hB1 hB2 hB => ⟨by simp only [hB]; exact Cg ho hne, (Ct hne).symm, rfl, C4, ?_⟩) ?_
  ·simp only [hB]
   exact (dd L i o _ (A5 (Cg ho hne)) hi hll).ok h1
  refine uf ?_;refine Z1 ?_
  refine R.storeUpT jS (Cz hm) ?_ ?_
  ·simp [or_imp, forall_and]
  refine Et ?_;refine AW.upEq (Rj (m := m) (s := s)) ?_
  rcases h2 : Dk L (takeS m s) j with ⟨m2, k⟩ | ⟨e, a⟩
  rotate_left
  ·exact (Be hX (by first | exact by rw [Y9 ht8 ht13]; rw [h1]; show Dk L (takeS m s) j = _; rw [h2] | exact h2)).elim
  refine Z13 ?_
  refine R.callX (up' := U2 L Hp o om k (mvO m2)) (own' := [.cells 94 [.ptr o 0], .cells 155 [.ptr om 0]]) Tryz.call157 (((ow L (takeS m s) j o om (U2 L Hp o om j (mvO (takeS m s)) ++ [.cells 94 [.ptr o 0], .cells 155 [.ptr om 0]]) hne (A5 (Cg ho hne)) (A5 (Cz hm)) hj.2 hl hll ((hb.mono (by omega : 2 * i - 1 ≤ 2 * j)).takeS (by omega))).ok h2).mono (fun r H' e => ⟨e.1, e.2.trans (by first | rw [Cl (by rw [U2_len]; exact hol) (by rw [U2_len]; exact hml), Ga hne] | rw [Cl hol hml])⟩)) (by first | rfl | rw [U2_len, U2_len] | rw [U2_len]) (fun h => F4 hne Du h) ?_
  refine Z53 ?_;exact K.finN .nores (hp := ⟨m2, k, by rw [Y9 ht8 ht13]; rw [h1]; show Dk L (takeS m s) j = _; rw [h2], rfl, rfl⟩)
 refine Z4 ?_;refine R.fin [2, 3, 7, 24] ?_
 refine W.cond (fun ht24 => ?_) (fun ht24 => ?_)
 ·rcases h1 : Gg L m i with ⟨m1, k⟩ | ⟨e, a⟩
  rotate_left
  ·exact (Be hX (by first | exact by rw [l4 ht8 ht13 ht24]; rw [h1] | exact h1)).elim
  refine Z13 ?_
  refine R.callX (up' := U2 L Hp o om k (mvO m1)) (own' := [.cells 94 [.ptr o 0], .cells 155 [.ptr om 0]]) Tryz.call158 (((zv L m i o om (U2 L Hp o om i (mvO m) ++ [.cells 94 [.ptr o 0], .cells 155 [.ptr om 0]]) hne (A5 (Cg ho hne)) (A5 (Cz hm)) hi hl hll hb).ok h1).mono (fun r H' e => ⟨e.1, e.2.trans (by first | rw [Cl (by rw [U2_len]; exact hol) (by rw [U2_len]; exact hml), Ga hne] | rw [Cl hol hml])⟩)) (by first | rfl | rw [U2_len, U2_len] | rw [U2_len]) (fun h => F4 hne Du h) ?_
  refine Z53 ?_;exact K.finN .nores (hp := ⟨m1, k, by rw [l4 ht8 ht13 ht24]; rw [h1], rfl, rfl⟩)
 refine Z4 ?_;refine R.fin [2, 3, 7, 29] ?_
 refine W.cond (fun ht29 => ?_) (fun ht29 => ?_)
 ·rcases h1 : Ef L i with ⟨s, j⟩ | ⟨e, a⟩
  rotate_left
  ·exact (Be hX (by first | exact by rw [Pd ht8 ht13 ht24 ht29]; rw [h1]; rfl | exact h1)).elim
  have hj := F3 hl hi _ _ h1
  refine W.drawY [0, 0, 2, 6, 15, 31, 63] [2] [.q 2 [] [], .s [33] (some 0) [] [], .s [34] none [0] []] (fun B => U2 L Hp o om (if B 0 = true then j else i) (mvO m)) (fun _ => [.cells 94 [.ptr o 0], .cells 155 [.ptr om 0]]) Ad (by kernel_rfl) rfl rfl (fun B => by rw [U2_len]; exact U2_len.symm) ?_
  apply Y.q
  case h1 =>
   intro B hT hF
   exact Z66
  case hTF => decide
  refine Y.callUp (r := A6 s) (o := o) (x0 := pmO L i) (x := pmO L j) Tryz.call156 (fun B hB1 hB2 hB => ⟨by simp only [hB]; exact Cg ho hne, (Ct hne).symm, rfl, C4, ?_⟩) ?_
  ·simp only [hB]
   exact (dd L i o _ (A5 (Cg ho hne)) hi hll).ok h1
  refine uf ?_;refine Z1 ?_
  refine R.storeUpT jS (Cz hm) ?_ ?_
  ·simp [or_imp, forall_and]
  refine Et ?_;refine AW.upEq (Rj (m := m) (s := s)) ?_
  rcases h2 : Bg L G9 j with ⟨u, j2⟩ | ⟨e, a⟩
  rotate_left
  ·exact (Be hX (by first | exact by rw [Pd ht8 ht13 ht24 ht29]; rw [h1]; show (Bg L G9 j).bind _ = _; rw [h2]; rfl | exact h2)).elim
  have hj2 := Dt hl hj.2 _ _ h2
  refine Z0 ?_;refine R.callUp (x := pmO L j2) Tryz.call123 (Cg ho hne) (by simp) C4 ((Y4 L G9 j o _ (A5 (Cg ho hne)) hj.2 hll).ok h2) ?_
  rw [Ct hne]
  refine Et ?_
  rcases h3 : F0 L 0 (Co L) (takeS m s) j2 with ⟨m1, j3⟩ | ⟨e, a⟩
  rotate_left
  ·exact (Be hX (by first | exact by rw [Pd ht8 ht13 ht24 ht29]; rw [h1]; show (Bg L G9 j).bind _ = _; rw [h2]; show (F0 L 0 (Co L) (takeS m s) j2).bind _ = _; rw [h3]; rfl | exact h3)).elim
  have hj3 := La hl (Gx hl hll) (takeS m s) j2 ((hb.mono (by omega : 2 * i - 1 ≤ 2 * j2 - 1)).takeS (by omega)) (by omega) hj2.2 _ _ h3
  refine Z0 ?_;refine Ip ?_
  refine R.callX (up' := U2 L Hp o om j3 (mvO m1)) (own' := [.cells 94 [.ptr o 0], .cells 155 [.ptr om 0]]) Tryz.call159 (((sj L (0) (takeS m s) j2 o om 160 [.ptr (oid Hp.length 0) 0, .ptr (oid Hp.length 1) 0] (Co L) (U2 L Hp o om j2 (mvO (takeS m s)) ++ [.cells 94 [.ptr o 0], .cells 155 [.ptr om 0]]) hne (A5 (Cg ho hne)) (A5 (Cz hm)) (by omega) hj2.2 hl hll ((hb.mono (by omega : 2 * i - 1 ≤ 2 * j2 - 1)).takeS (by omega)) Tryz.call160 (dv (z := pmO L j2) (z' := mvO (takeS m s)) hne (A5 (Cg ho hne)) (A5 (Cz hm)) (dw rfl) (dw rfl) (G5 hol) (G5 hml) (G5 hol) (G5 hml) hl hll) (Gx hl hll)).ok h3).mono (fun r H' e => ⟨e.1, e.2.trans (by first | rw [Cl (by rw [U2_len]; exact hol) (by rw [U2_len]; exact hml), Ga hne] | rw [Cl hol hml])⟩)) (by first | rfl | rw [U2_len, U2_len] | rw [U2_len]) (fun h => F4 hne Du h) ?_
  refine Et ?_
  rcases h4 : Dk L m1 j3 with ⟨m2, k⟩ | ⟨e, a⟩
  rotate_left
  ·exact (Be hX (by first | exact by rw [Pd ht8 ht13 ht24 ht29]; rw [h1]; show (Bg L G9 j).bind _ = _; rw [h2]; show (F0 L 0 (Co L) (takeS m s) j2).bind _ = _; rw [h3]; show Dk L m1 j3 = _; rw [h4] | exact h4)).elim
  refine Z13 ?_
  refine R.callX (up' := U2 L Hp o om k (mvO m2)) (own' := [.cells 94 [.ptr o 0], .cells 155 [.ptr om 0]]) Tryz.call157 (((ow L m1 j3 o om (U2 L Hp o om j3 (mvO m1) ++ [.cells 94 [.ptr o 0], .cells 155 [.ptr om 0]]) hne (A5 (Cg ho hne)) (A5 (Cz hm)) hj3.2.1 hl hll hj3.2.2).ok h4).mono (fun r H' e => ⟨e.1, e.2.trans (by first | rw [Cl (by rw [U2_len]; exact hol) (by rw [U2_len]; exact hml), Ga hne] | rw [Cl hol hml])⟩)) (by first | rfl | rw [U2_len, U2_len] | rw [U2_len]) (fun h => F4 hne Du h) ?_
  refine Z53 ?_;exact K.finN .nores (hp := ⟨m2, k, by rw [Pd ht8 ht13 ht24 ht29]; rw [h1]; show (Bg L G9 j).bind _ = _; rw [h2]; show (F0 L 0 (Co L) (takeS m s) j2).bind _ = _; rw [h3]; show Dk L m1 j3 = _; rw [h4], rfl, rfl⟩)
 refine Z4 ?_;refine R.fin [2, 3, 7, 45] ?_
 refine W.cond (fun ht45 => ?_) (fun ht45 => ?_)
 ·rcases h1 : F0 L 0 (L8 L) m i with ⟨m1, j⟩ | ⟨e, a⟩
  rotate_left
  ·exact (Be hX (by first | exact by rw [Pe ht8 ht13 ht24 ht29 ht45]; rw [h1]; rfl | exact h1)).elim
  have hj := La hl (Pa hl) m i hb h0 hi _ _ h1
  refine Z0 ?_;refine Ip ?_
  refine R.callX (up' := U2 L Hp o om j (mvO m1)) (own' := [.cells 94 [.ptr o 0], .cells 155 [.ptr om 0]]) Tryz.call159 (((sj L (0) m i o om 161 [.ptr (oid Hp.length 1) 0, .ptr (oid Hp.length 0) 0] (L8 L) (U2 L Hp o om i (mvO m) ++ [.cells 94 [.ptr o 0], .cells 155 [.ptr om 0]]) hne (A5 (Cg ho hne)) (A5 (Cz hm)) h0 hi hl hll hb Tryz.call161 (du (z := pmO L i) (z' := mvO m) hne (A5 (Cg ho hne)) (A5 (Cz hm)) (dw rfl) (dw rfl) (G5 hol) (G5 hml) (G5 hol) (G5 hml) hl hll) (Pa hl)).ok h1).mono (fun r H' e => ⟨e.1, e.2.trans (by first | rw [Cl (by rw [U2_len]; exact hol) (by rw [U2_len]; exact hml), Ga hne] | rw [Cl hol hml])⟩)) (by first | rfl | rw [U2_len, U2_len] | rw [U2_len]) (fun h => F4 hne Du h) ?_
  refine Et ?_
  rcases h2 : Bg L G9 j with ⟨u, j2⟩ | ⟨e, a⟩
  rotate_left
  ·exact (Be hX (by first | exact by rw [Pe ht8 ht13 ht24 ht29 ht45]; rw [h1]; show (Bg L G9 j).bind _ = _; rw [h2]; rfl | exact h2)).elim
  have hj2 := Dt hl hj.2.1 _ _ h2
  have hj2e := Hv h2
  refine Z0 ?_;refine R.callUp (x := pmO L j2) Tryz.call123 (Cg ho hne) (by simp) C4 ((Y4 L G9 j o _ (A5 (Cg ho hne)) hj.2.1 hll).ok h2) ?_
  rw [Ct hne]
  refine Et ?_
  rcases h3 : Co L m1 j2 with ⟨m2, j3⟩ | ⟨e, a⟩
  rotate_left
  ·exact (Be hX (by first | exact by rw [Pe ht8 ht13 ht24 ht29 ht45]; rw [h1]; show (Bg L G9 j).bind _ = _; rw [h2]; show (Co L m1 j2).bind _ = _; rw [h3]; rfl | exact h3)).elim
  have hj3 := Gx hl hll m1 j2 (hj.2.2.mono (by omega)) (by omega) hj2.2 _ _ h3
  refine Z4 ?_
  refine R.callX (up' := U2 L Hp o om j3 (mvO m2)) (own' := [.cells 94 [.ptr o 0], .cells 155 [.ptr om 0]]) Tryz.call155 (((ov L m1 j2 o om (U2 L Hp o om j2 (mvO m1) ++ [.cells 94 [.ptr o 0], .cells 155 [.ptr om 0]]) hne (A5 (Cg ho hne)) (A5 (Cz hm)) hj2.2 hl hll (hj.2.2.mono (by omega))).ok h3).mono (fun r H' e => ⟨e.1, e.2.trans (by first | rw [Cl (by rw [U2_len]; exact hol) (by rw [U2_len]; exact hml), Ga hne] | rw [Cl hol hml])⟩)) (by first | rfl | rw [U2_len, U2_len] | rw [U2_len]) (fun h => F4 hne Du h) ?_
  refine Et ?_
  rcases h4 : Dk L m2 j3 with ⟨m3, k⟩ | ⟨e, a⟩
  rotate_left
  ·exact (Be hX (by first | exact by rw [Pe ht8 ht13 ht24 ht29 ht45]; rw [h1]; show (Bg L G9 j).bind _ = _; rw [h2]; show (Co L m1 j2).bind _ = _; rw [h3]; show Dk L m2 j3 = _; rw [h4] | exact h4)).elim
  refine Z13 ?_
  refine R.callX (up' := U2 L Hp o om k (mvO m3)) (own' := [.cells 94 [.ptr o 0], .cells 155 [.ptr om 0]]) Tryz.call157 (((ow L m2 j3 o om (U2 L Hp o om j3 (mvO m2) ++ [.cells 94 [.ptr o 0], .cells 155 [.ptr om 0]]) hne (A5 (Cg ho hne)) (A5 (Cz hm)) hj3.2.1 hl hll hj3.2.2).ok h4).mono (fun r H' e => ⟨e.1, e.2.trans (by first | rw [Cl (by rw [U2_len]; exact hol) (by rw [U2_len]; exact hml), Ga hne] | rw [Cl hol hml])⟩)) (by first | rfl | rw [U2_len, U2_len] | rw [U2_len]) (fun h => F4 hne Du h) ?_
  refine Z53 ?_;exact K.finN .nores (hp := ⟨m3, k, by rw [Pe ht8 ht13 ht24 ht29 ht45]; rw [h1]; show (Bg L G9 j).bind _ = _; rw [h2]; show (Co L m1 j2).bind _ = _; rw [h3]; show Dk L m2 j3 = _; rw [h4], rfl, rfl⟩)
 refine Z4 ?_;refine R.fin [2, 3, 58] ?_
 refine W.cond (fun ht58 => ?_) (fun ht58 => ?_)
 ·rcases h1 : Co L m i with ⟨m1, j⟩ | ⟨e, a⟩
  rotate_left
  ·exact (Be hX (by first | exact by rw [Ya ht8 ht13 ht24 ht29 ht45 ht58]; rw [h1]; rfl | exact h1)).elim
  have hj := Gx hl hll m i hb h0 hi _ _ h1
  refine Z4 ?_
  refine R.callX (up' := U2 L Hp o om j (mvO m1)) (own' := [.cells 94 [.ptr o 0], .cells 155 [.ptr om 0]]) Tryz.call155 (((ov L m i o om (U2 L Hp o om i (mvO m) ++ [.cells 94 [.ptr o 0], .cells 155 [.ptr om 0]]) hne (A5 (Cg ho hne)) (A5 (Cz hm)) hi hl hll hb).ok h1).mono (fun r H' e => ⟨e.1, e.2.trans (by first | rw [Cl (by rw [U2_len]; exact hol) (by rw [U2_len]; exact hml), Ga hne] | rw [Cl hol hml])⟩)) (by first | rfl | rw [U2_len, U2_len] | rw [U2_len]) (fun h => F4 hne Du h) ?_
  refine Et ?_;refine W.drawY [0, 0, 2, 6, 14, 30, 62, 126, 254, 511, 1023, 2047] [] [.q 8 [] [], .s [71] none [] []] (fun _ => U2 L Hp o om j (mvO m1)) (fun _ => [.cells 94 [.ptr o 0], .cells 155 [.ptr om 0]]) Ad (by kernel_rfl) rfl rfl (fun B => rfl) ?_
  apply Y.q
  case h1 =>
   intro B hT hF
   refine bo ?_
   refine D.go (h := Q.loadUp (Cz hm)) (hr := ?_)
   refine D.go (h := Q.indexAddr (0) (Av (m1.give.getD 0 ⟨[], 0⟩)) (fun _ => kz h1)) (hr := ?_)
   exact Z66
  case hTF => decide
  refine Y.buildSlice jU Tryz.sizeOf9 Tryz.zeroValue9 ?_;refine Y.tail (tn := []) (U := U2 L Hp o om j (mvO m1)) ?_;refine Z1 ?_
  refine R.storeUpT jS (Cz hm) ?_ ?_
  ·simp [or_imp, forall_and]
  refine Et ?_;refine AW.upEq (dx (m := m1) (c := m1.give.getD 0 ⟨[], 0⟩)) ?_
  rcases h2 : Dk L (takeS m1 (m1.give.getD 0 ⟨[], 0⟩).name) j with ⟨m2, k⟩ | ⟨e, a⟩
  rotate_left
  ·exact (Be hX (by first | exact by rw [Ya ht8 ht13 ht24 ht29 ht45 ht58]; rw [h1]; show Dk L (takeS m1 (m1.give.getD 0 ⟨[], 0⟩).name) j = _; rw [h2] | exact h2)).elim
  refine Z13 ?_
  refine R.callX (up' := U2 L Hp o om k (mvO m2)) (own' := [.cells 94 [.ptr o 0], .cells 155 [.ptr om 0]]) Tryz.call157 (((ow L (takeS m1 (m1.give.getD 0 ⟨[], 0⟩).name) j o om (U2 L Hp o om j (mvO (takeS m1 (m1.give.getD 0 ⟨[], 0⟩).name)) ++ [.cells 94 [.ptr o 0], .cells 155 [.ptr om 0]]) hne (A5 (Cg ho hne)) (A5 (Cz hm)) hj.2.1 hl hll (hj.2.2.takeS (by omega))).ok h2).mono (fun r H' e => ⟨e.1, e.2.trans (by first | rw [Cl (by rw [U2_len]; exact hol) (by rw [U2_len]; exact hml), Ga hne] | rw [Cl hol hml])⟩)) (by first | rfl | rw [U2_len, U2_len] | rw [U2_len]) (fun h => F4 hne Du h) ?_
  refine Z53 ?_;exact K.finN .nores (hp := ⟨m2, k, by rw [Ya ht8 ht13 ht24 ht29 ht45 ht58]; rw [h1]; show Dk L (takeS m1 (m1.give.getD 0 ⟨[], 0⟩).name) j = _; rw [h2], rfl, rfl⟩)
 refine AW.skip ?_;refine K.blN ?_;exact K.finN .nores (hp := ⟨m, i, sk ht8 ht13 ht24 ht29 ht45 ht58, rfl, rfl⟩)

def wz : Str := [32, 97, 100, 100, 32, 100, 114, 111, 112, 32, 114, 101, 110, 97, 109, 101, 32, 115, 112, 108, 105, 116, 32, 109, 101, 114, 103, 101, 32, 114, 101, 116, 121, 112, 101]
theorem dy : Iq wz [32] = migWords := by kernel_rfl
theorem zx (k : Int) (Hp : List AObj) : AFun Tryz.prog 154 [A2 k] Hp (A6 (Ca k)) := by
 refine ACall.body [.tmp 2] [0] Tryz.func154 Tryz.ntmps154 (fun d => ?_)
 refine Z38 ?_;refine Z18 ?_;refine Lo ?_;refine R.fin [0, 8] ?_
 refine W.cond (fun ht8 => ?_) (fun ht8 => ?_)
 ·have hm : Ca k = [] := if_pos ht8
  refine Z20 ?_;exact qt
 have hm : Ca k = migWords.getD k.toNat [] := if_neg (by rw [ht8]; simp)
 refine U5 ?_;refine R.call Tryz.call100 (re wz [32] (by decide) (by decide) _) ?_
 rw [dy]
 refine R.go ?_
 have hk : 1 ≤ k ∧ k ≤ 6 := by simp at ht8; omega
 have hget : (migWords.map A6)[k.toNat]? = some (A6 (migWords.getD k.toNat [])) := by
  have hlt : k.toNat < migWords.length := by show k.toNat < 7; omega
  rw [List.getElem?_map, List.getElem?_eq_getElem hlt, List.getD_eq_getElem?_getD, List.getElem?_eq_getElem hlt]
  rfl
 refine R.go (h := Q.indexAddr (k.toNat) (A6 (migWords.getD k.toNat [])) (fun _ => hget)) (hr := ?_)
 refine Z40 ?_;exact i6

theorem dz {s : Str} {x : Nat} (h : ∀ j : Nat, j < x → (Ca ((j : Int) + 1) == s) = false) (hx : x < 6) (he : (Ca ((x : Int) + 1) == s) = true) : Eh s = (x : Int) + 1 := by
 have a : ∀ j : Nat, j < x → ∀ k : Int, k = (j : Int) + 1 → (Ca k == s) = false := fun j hj k e => by rw [e]; exact h j hj
 have b : ∀ k : Int, k = (x : Int) + 1 → (Ca k == s) = true := fun k e => by rw [e]; exact he
 have h6 : x = 0 ∨ x = 1 ∨ x = 2 ∨ x = 3 ∨ x = 4 ∨ x = 5 := by omega
 unfold Eh
 rcases h6 with rfl | rfl | rfl | rfl | rfl | rfl
 ·rw [if_pos (b 1 rfl)]; rfl
 ·rw [if_neg (by rw [a 0 (by omega) 1 rfl]; simp), if_pos (b 2 rfl)]; rfl
 ·rw [if_neg (by rw [a 0 (by omega) 1 rfl]; simp), if_neg (by rw [a 1 (by omega) 2 rfl]; simp), if_pos (b 3 rfl)]; rfl
 ·rw [if_neg (by rw [a 0 (by omega) 1 rfl]; simp), if_neg (by rw [a 1 (by omega) 2 rfl]; simp), if_neg (by rw [a 2 (by omega) 3 rfl]; simp), if_pos (b 4 rfl)]; rfl
 ·rw [if_neg (by rw [a 0 (by omega) 1 rfl]; simp), if_neg (by rw [a 1 (by omega) 2 rfl]; simp), if_neg (by rw [a 2 (by omega) 3 rfl]; simp), if_neg (by rw [a 3 (by omega) 4 rfl]; simp), if_pos (b 5 rfl)]; rfl
 rw [if_neg (by rw [a 0 (by omega) 1 rfl]; simp), if_neg (by rw [a 1 (by omega) 2 rfl]; simp), if_neg (by rw [a 2 (by omega) 3 rfl]; simp), if_neg (by rw [a 3 (by omega) 4 rfl]; simp), if_neg (by rw [a 4 (by omega) 5 rfl]; simp), if_pos (b 6 rfl)]; rfl
theorem Vz {s : Str} {x : Nat} (h : ∀ j : Nat, j < x → (Ca ((j : Int) + 1) == s) = false) (he : (Ca ((x : Int) + 1) == s) = false) : ∀ j : Nat, j < x + 1 → (Ca ((j : Int) + 1) == s) = false := fun j hj => by
 rcases Nat.lt_or_ge j x with h1 | h1
 ·exact h j h1
 rw [show j = x by omega]; exact he
theorem ea {s : Str} {x : Nat} (h : ∀ j : Nat, j < x → (Ca ((j : Int) + 1) == s) = false) (hx : 6 ≤ x) : Eh s = 0 := by
 have a : ∀ j : Nat, j < 6 → ∀ k : Int, k = (j : Int) + 1 → (Ca k == s) = false := fun j hj k e => by rw [e]; exact h j (by omega)
 unfold Eh
 rw [if_neg (by rw [a 0 (by omega) 1 rfl]; simp), if_neg (by rw [a 1 (by omega) 2 rfl]; simp), if_neg (by rw [a 2 (by omega) 3 rfl]; simp), if_neg (by rw [a 3 (by omega) 4 rfl]; simp), if_neg (by rw [a 4 (by omega) 5 rfl]; simp), if_neg (by rw [a 5 (by omega) 6 rfl]; simp)]
theorem zy (s : Str) (Hp : List AObj) : AFun Tryz.prog 121 [A6 s] Hp (A2 (Eh s)) := by
 refine ACall.body [.tmp 2] [0] Tryz.func121 Tryz.ntmps121 (fun d => ?_)
 refine Z38 ?_;refine Z34 ?_;refine H5 ?_
 refine AW.loopC (α := Nat) (fun x => ⟨13, A4 0 (A6 s) (A4 3 (A2 ((x : Nat) + 1)) (fun _ => .any)), Hp, [], [], none⟩) (fun x => ∀ j : Nat, j < x → (Ca ((j : Int) + 1) == s) = false) (fun x => 6 - x) (0) (fun j h => by omega) (StLe.refl _) rfl (fun x hx => ?_)
 refine Z28 ?_;refine R.fin [0, 3, 5] ?_
 refine W.cond (fun ht5 => ?_) (fun ht5 => ?_)
 ·have hx6 : x < 6 := by simp at ht5; omega
  refine Z62 ?_;refine Z0 ?_;refine R.call Tryz.call154 (zx _ _) ?_;refine Z1 ?_;refine R.fin [0, 3, 11] ?_
  refine W.cond (fun ht11 => ?_) (fun ht11 => ?_)
  ·refine Sj ?_;refine Z42 ?_;exact K.fin (V.one V.tmp) ⟨by rw [dz hx hx6 ht11], rfl⟩
  refine ge ?_
  refine K.lpN (x + 1) (Vz hx ht11) (by omega) (StCut.of_eq rfl)
 have hx6 : 6 ≤ x := by simp at ht5; omega
 refine Ub ?_;exact K.fin (V.one V.tmp) ⟨by rw [ea hx hx6], rfl⟩

theorem sm {L : List Tok} {Hp own : List AObj} {o i n : Nat} {x : AObj} (h1 : o < Hp.length) : U2 L (Hp ++ own) o (oid Hp.length n) i x = Hp.set o (pmO L i) ++ own.set n x := by
 unfold U2 oid
 rw [List.set_append_left _ _ h1, List.set_append, if_neg (by simp), List.length_set, Nat.add_sub_cancel_left]
theorem l5 {L : List Tok} {Hp : List AObj} {o i j n : Nat} (h : ∀ z ∈ Hp.set o (pmO L i), ObjLow n z) : ∀ z ∈ Hp.set o (pmO L j), ObjLow n z := by
 intro z hz
 rw [show Hp.set o (pmO L j) = (Hp.set o (pmO L i)).set o (pmO L j) by rw [List.set_set]] at hz
 rcases List.mem_or_eq_of_mem_set hz with hz | rfl
 ·exact h z hz
 exact C4
theorem c90 (L : List Tok) (i o : Nat) (Hp : List AObj) (ho : Hp[o]? = some (pmO L i)) (hi : i < L.length) (hl : TokEnd L) (hll : L.length ≤ 500000) : CP 90 [.ptr o 0] Hp (J2 L i) (fun m j r H' => r = Fy m ∧ H' = Hp.set o (pmO L j)) (W1 L o Hp) := by
 refine ⟨fun hX => ?_⟩
 have hol := (List.getElem?_eq_some_iff.1 ho).1
 have hne : oid Hp.length 2 ≠ o := by unfold oid; omega
 refine ACall.body [.cell 2 64] [0] Tryz.func90 Tryz.ntmps90 (fun d => ?_)
 refine Z51 ?_;refine qx ?_;refine U1 ?_;refine Z4 ?_;refine R.call Tryz.call121 (zy (A7 L i).text _) ?_;refine R.build (places := #[(0, 1), (1, 1), (2, 1), (3, 1), (4, 1)]) jU (fun w => by simp) jZ ?_;refine Z15 ?_;refine R.fin [0, 2, 3, 4] ?_;refine Z65 ?_;refine R.nilCell 2 1 1 ?_;refine R.nilCell 2 2 2 ?_;refine R.nilCell 2 3 6 ?_;refine R.nilCell 2 4 6 ?_;refine Z1 ?_;refine Z86 ?_;refine R.go ?_;refine R.fin [0, 2, 4, 18] ?_
 refine W.cond (fun ht18 => ?_) (fun ht18 => ?_)
 ·have e : J2 L i = .bad 8 (A7 L i).at_ := if_pos ht18
  exact gz
 have e0 : J2 L i = (F1 L (⟨Eh (A7 L i).text, [], [], [], []⟩ : Mov) (i + 1)).bind fun m j => (Bg L [59] j).bind fun _ j => .ok m j := if_neg (by rw [ht18]; simp)
 have hi1 : i + 1 < L.length := hl.step hi (by simp only [Bool.or_eq_false_iff, bne_eq_false_iff_eq] at ht18; rw [ht18.1]; decide)
 refine Lp ?_
 refine R.go (h := Q.loadUp ho) (hr := ?_)
 refine Z25 ?_
 refine R.storeUp jS ho ?_ ?_
 ·simp
 refine R.fin [0, 2, 4] ?_
 rcases hR : F1 L (⟨Eh (A7 L i).text, [], [], [], []⟩ : Mov) (i + 1) with ⟨m1, k⟩ | ⟨e, a⟩
 rotate_left
 ·exact (Be hX (by first | exact by rw [e0]; rw [hR]; rfl | exact hR)).elim
 have hk := Zo hl hll (⟨Eh (A7 L i).text, [], [], [], []⟩ : Mov) (i + 1) ⟨Nat.zero_le _, Nat.zero_le _, Nat.zero_le _, Nat.zero_le _⟩ (by omega) hi1 _ _ hR
 refine Z0 ?_
 refine R.callX (up' := Hp.set o (pmO L k)) (own' := [.cells 64 [A2 0, .nil, .nil, .nil, .nil], .cells 125 [.v (.int .i64 (A7 L i).kind), .v (sv (A7 L i).text), .v (.int .i64 ((A7 L i).at_ : Int))], mvO m1]) Tryz.call122 (((zw L (⟨Eh (A7 L i).text, [], [], [], []⟩ : Mov) (i + 1) o (oid Hp.length 2) (Hp.set o (pmO L (i + 1)) ++ [.cells 64 [A2 0, .nil, .nil, .nil, .nil], .cells 125 [.v (.int .i64 (A7 L i).kind), .v (sv (A7 L i).text), .v (.int .i64 ((A7 L i).at_ : Int))], mvO (⟨Eh (A7 L i).text, [], [], [], []⟩ : Mov)]) hne (by rw [List.getElem?_append_left (by simpa using hol)]; exact getset ho) (by unfold oid; rw [List.getElem?_append_right (by simp)]; simp) hi1 hl hll ⟨Nat.zero_le _, Nat.zero_le _, Nat.zero_le _, Nat.zero_le _⟩ (by omega)).ok hR).mono (fun r H' e => ⟨e.1, e.2.trans (by rw [show oid Hp.length 2 = oid (Hp.set o (pmO L (i + 1))).length 2 by simp]; rw [sm (by simpa using hol), List.set_set]; rfl)⟩)) (by simp) (fun h => by simpa using l5 h) ?_
 refine R.fin [0, 2, 4] ?_
 rcases hW : Bg L [59] k with ⟨u, j2⟩ | ⟨e, a⟩
 rotate_left
 ·exact (Be hX (by first | exact by rw [e0]; rw [hR]; show (Bg L [59] k).bind _ = _; rw [hW]; rfl | exact hW)).elim
 refine Z0 ?_;refine R.callUp (x := pmO L j2) Tryz.call123 (getset ho) (by simp) C4 ((Y4 L [59] k o _ (A5 (getset ho)) hk.2.1 hll).ok hW) ?_
 rw [List.set_set]
 refine R.fin [2, 4] ?_;refine Z0 ?_;refine Z11 ?_;exact K.fin (V.one (V.cellN jA jS)) (hp := ⟨m1, j2, by rw [e0]; rw [hR]; show (Bg L [59] k).bind _ = _; rw [hW]; rfl, rfl, rfl⟩) (hlow := Vr)

/-- What mig.parser.moves comes to: the moves, or none and the fault. -/
def Kh (L : List Tok) : List Mov × Int × Int := match Fz L with
 | .ok l _ => (l, 0, 0)
 | .bad e a => ([], e, a)
abbrev Ta (L : List Tok) : AV := .tup [G7 (Kh L).1, .agg [A2 (Kh L).2.1, A2 (Kh L).2.2]]
theorem oy {fc : Func} {r0 crest : Code} (hf : Tryz.prog.funcs[87]? = some fc) (hb : fc.body = some (.seq r0 crest)) (d a b : Nat) (H : List AObj) : AW Tryz.prog (d + 1) crest ⟨8, A4 2 (.v .nilIface) (A4 3 (.v .nilIface) (Go.SX.argsF [.ptr a 0, .ptr b 0])), H, [], [], none⟩ (fun e s2 => (e = .normal ∨ e = .ret) ∧ s2.defs = [] ∧ s2.up = H) := by
 have e := Tryz.func87.symm.trans hf
 injection e with e
 subst e
 injection hb with hb
 injection hb with h1 h2
 subst h2
 refine AW.keep [0, 1, 2] (by simp only [go_sem, ↓reduceIte, Nat.reduceEqDiff, Nat.reduceAdd] <;> rfl) ?_
 refine Z0 ?_;refine R.neqNil0 jU ?_;refine R.fin [0, 1, 2, 5] ?_
 refine W.cond (fun ht5 => ?_) (fun ht5 => ?_)
 ·cases ht5
 refine AW.skip ?_;exact ⟨.inl rfl, rfl, rfl⟩

/-- Where the loop of moves stands. -/
structure MovAt (L : List Tok) (x : List Mov × Nat) : Prop where
 lt : x.2 < L.length
 le : x.1.length ≤ 8
 at_ : Fz L = Hu L (9 - x.1.length) x.1 x.2
theorem oz {L : List Tok} (hl : TokEnd L) (hll : L.length ≤ 500000) {i : Nat} (hi : i < L.length) {m : Mov} {j : Nat} (h : J2 L i = .ok m j) : i < j ∧ j < L.length := by
 unfold J2 at h
 split at h
 ·cases h
 rename_i h0
 have hi1 : i + 1 < L.length := hl.step hi (by
  simp only [Bool.or_eq_true, not_or, Bool.not_eq_true, bne_eq_false_iff_eq] at h0
  rw [h0.1]; decide)
 obtain ⟨m1, k, h1, h2⟩ := PR.bind_ok h
 obtain ⟨u, j2, h3, h4⟩ := PR.bind_ok h2
 injection h4 with h5 h6
 subst h6
 obtain ⟨a1, a2, _⟩ := Zo hl hll _ (i + 1) ⟨Nat.zero_le _, Nat.zero_le _, Nat.zero_le _, Nat.zero_le _⟩ (by omega) hi1 _ _ h1
 obtain ⟨b1, b2⟩ := Dt hl a2 _ _ h3
 exact ⟨by omega, b2⟩
theorem J4 {L : List Tok} {l : List Mov} {i : Nat} (hl : l.length ≤ 8) : Hu L (9 - l.length) l i = if (A7 L i).kind != 0 then (if (l.length : Int) == 8 then Re L i 3 else (J2 L i).bind fun m j => Hu L (8 - l.length) (l ++ [m]) j) else .ok l i := by
 rw [show 9 - l.length = (8 - l.length) + 1 by omega, Hu]
theorem MovAt.out {L : List Tok} {x : List Mov × Nat} (h : MovAt L x) (hk : ((A7 L x.2).kind != 0) = false) : Fz L = .ok x.1 x.2 := by
 rw [h.at_, J4 h.le, if_neg (by rw [hk]; simp)]
theorem MovAt.long {L : List Tok} {x : List Mov × Nat} (h : MovAt L x) (hk : ((A7 L x.2).kind != 0) = true) (h8 : ((x.1.length : Int) == 8) = true) : Fz L = .bad 3 (A7 L x.2).at_ := by
 rw [h.at_, J4 h.le, if_pos hk, if_pos h8]; rfl
theorem MovAt.step {L : List Tok} {x : List Mov × Nat} (h : MovAt L x) (hk : ((A7 L x.2).kind != 0) = true) (h8 : ((x.1.length : Int) == 8) = false) : Fz L = (J2 L x.2).bind fun m j => Hu L (8 - x.1.length) (x.1 ++ [m]) j := by
 rw [h.at_, J4 h.le, if_pos hk, if_neg (by rw [h8]; simp)]
theorem MovAt.bad {L : List Tok} {x : List Mov × Nat} (h : MovAt L x) (hk : ((A7 L x.2).kind != 0) = true) (h8 : ((x.1.length : Int) == 8) = false) {e a : Int} (hM : J2 L x.2 = .bad e a) : Fz L = .bad e a := by
 rw [h.step hk h8, hM]; rfl
theorem MovAt.on {L : List Tok} (hl : TokEnd L) (hll : L.length ≤ 500000) {x : List Mov × Nat} (h : MovAt L x) (hk : ((A7 L x.2).kind != 0) = true) (h8 : ((x.1.length : Int) == 8) = false) {m : Mov} {j : Nat} (hM : J2 L x.2 = .ok m j) : MovAt L (x.1 ++ [m], j) ∧ x.2 < j := by
 obtain ⟨a1, a2⟩ := oz hl hll h.lt hM
 have h1 : x.1.length ≤ 7 := by
  have := h.le
  simp only [beq_eq_false_iff_ne, ne_eq] at h8
  omega
 refine ⟨⟨a2, by show (x.1 ++ [m]).length ≤ 8; simp; omega, ?_⟩, a1⟩
 rw [h.step hk h8, hM]
 show Hu L (8 - x.1.length) (x.1 ++ [m]) j = Hu L (9 - (x.1 ++ [m]).length) (x.1 ++ [m]) j
 rw [show 9 - (x.1 ++ [m]).length = 8 - x.1.length by rw [List.length_append, List.length_singleton]; omega]
theorem eb {L : List Tok} {l : List Mov} {i : Nat} (h : Fz L = .ok l i) : Ta L = .tup [G7 l, .agg [A2 0, A2 0]] := by unfold Ta Kh; rw [h]
theorem p8 {fn fc : Func} {x0 r1 y r0 crest : Code} (hf : Tryz.prog.funcs[62]? = some fn) (hb : fn.body = some (.seq x0 (.seq r1 y))) (hf2 : Tryz.prog.funcs[87]? = some fc) (hb2 : fc.body = some (.seq r0 crest)) (L : List Tok) (o : Nat) (Hp : List AObj) (ho : Hp[o]? = some (pmO L 0)) (hl : TokEnd L) (hll : L.length ≤ 500000) (hX : ∃ l i, Fz L = .ok l i) (d : Nat) :
  AW Tryz.prog (d + 1) y ⟨21, A4 0 (.ptr o 0) (A4 2 (.ptr (oid Hp.length 0) 0) (A4 3 (.ptr (oid Hp.length 1) 0) (A4 4 (.fn (.func 87) [] [.ptr (oid Hp.length 0) 0, .ptr (oid Hp.length 1) 0]) fun _ => .any))), Hp, [.cells 23 [.nil], .cells 60 [A2 0, A2 0]], [], none⟩ (KG Tryz.prog crest 8 3 2 [.ptr (oid Hp.length 0) 0, .ptr (oid Hp.length 1) 0] [.cell 2 23, .cell 3 60] Hp.length (fun r H' => r = Ta L ∧ ∃ i, H' = Hp.set o (pmO L i))) := by
 have e := Tryz.func62.symm.trans hf
 injection e with e
 subst e
 injection hb with hb
 injection hb with h1 h2
 injection h2 with h2 h3
 subst h3
 refine AW.keep [0, 2, 3] (by simp only [go_sem, ↓reduceIte, Nat.reduceEqDiff, Nat.reduceAdd] <;> rfl) ?_
 refine AW.upEq (Ed ho).symm ?_;refine W.seq ?_
 refine AW.loopC (α := List Mov × Nat) (fun x => ⟨21, A4 0 (.ptr o 0) (A4 2 (.ptr (oid Hp.length 0) 0) (A4 3 (.ptr (oid Hp.length 1) 0) (fun _ => .any))), Hp.set o (pmO L x.2), [.cells 23 [.slice true 5 (x.1.map Fy)], .cells 60 [A2 0, A2 0]], [], none⟩) (fun x => MovAt L x) (fun x => L.length - x.2) (([], 0)) ⟨hl.pos, by decide, rfl⟩ (StLe.nilCell (own := [.cells 23 [.nil], .cells 60 [A2 0, A2 0]]) (n := 0) (j0 := 0) (k := 5) (t := 23) (cs := [.nil]) rfl rfl) rfl (fun x hx => ?_)
 refine Z34 ?_;refine R.call Tryz.call88 (c88 L x.2 o _ (A5 (getset ho)) hx.lt) ?_;refine Z1 ?_;refine R.fin [0, 2, 3, 8] ?_
 refine W.cond (fun ht8 => ?_) (fun ht8 => ?_)
 ·have hk : ((A7 L x.2).kind != 0) = true := ht8
  refine gt ?_;refine Z18 ?_;refine R.fin [0, 2, 3, 11] ?_
  refine W.cond (fun ht11 => ?_) (fun ht11 => ?_)
  ·have h8 : ((x.1.length : Int) == 8) = true := by rw [List.length_map] at ht11; exact ht11
   exact (Be hX (hx.long hk h8)).elim
  have h8 : ((x.1.length : Int) == 8) = false := by rw [List.length_map] at ht11; exact ht11
  refine Z6 ?_
  rcases hM : J2 L x.2 with ⟨m, j⟩ | ⟨e, a⟩
  rotate_left
  ·exact (Be hX (by first | exact hx.bad hk h8 hM | exact hM)).elim
  have hon := hx.on hl hll hk h8 hM
  refine W.drawY0 [0, 0, 2, 6, 15, 31] [0, 2] [.s [14] (some 0) [] [], .q 1 [] [1], .s [16] (some 1) [] [], .q 1 [1] []] (fun B => Hp.set o (pmO L (if B 1 = true then j else x.2))) (fun B => if B 0 = true then [.cells 23 [.slice false 5 (x.1.map Fy)], .cells 60 [A2 0, A2 0]] else [.cells 23 [.slice true 5 (x.1.map Fy)], .cells 60 [A2 0, A2 0]]) Ad (by kernel_rfl) rfl rfl (fun B => by simp) ?_
  refine Y.loadOwnT (u := Hp.length) (n := 0) (t' := 23) (cs := [.slice true 5 (x.1.map Fy)]) (cs' := [.slice false 5 (x.1.map Fy)]) Tryz.isAgg23 (fun B hB => ⟨by simp, by simp only [hB]; rfl, by simp only [hB]; rfl, rfl⟩) ?_
  apply Y.q
  case h1 =>
   intro B hT hF
   exact Z68
  case hTF => decide
  refine Y.callUp (r := Fy m) (o := o) (x0 := pmO L x.2) (x := pmO L j) Tryz.call90 (fun B hB1 hB2 hB => ⟨by simp only [hB]; exact getset ho, by simp only [hB]; exact (List.set_set ..).symm, rfl, C4, ?_⟩) ?_
  ·simp only [hB]
   exact ((c90 L x.2 o _ (A5 (getset ho)) hx.lt hl hll).ok hM)
  apply Y.q
  case h1 =>
   intro B hT hF
   exact Z44
  case hTF => decide
  refine Y.tail (tn := [0, 2]) (U := Hp.set o (pmO L j)) (O := [.cells 23 [.slice false 5 (x.1.map Fy)], .cells 60 [A2 0, A2 0]]) ?_
  refine R.append jU Tryz.type64 ?_ ?_ ?_
  ·simp [Tryz.t64]; have := hx.le; omega
  ·simp [Tryz.t64]; have := hx.le; omega
  refine R.storeOwnT jS ?_;refine R.fin [0, 2, 3] ?_;refine K.blN ?_
  refine K.lpN (x.1 ++ [m], j) hon.1 (by have := hx.lt; have := hon.2; show L.length - j < L.length - x.2; omega) (StCut.of_eq (by simp [List.map_append, show Tryz.t64.size = 5 from rfl]))
 have hk : ((A7 L x.2).kind != 0) = false := ht8
 have e := hx.out hk
 refine Z59 ?_;refine Z0 ?_;refine uv ?_;refine Fa ?_;refine gb ?_;exact KG.fin .ret (V.two (V.cell Tryz.isAgg23) (V.cellN Tryz.isAgg60 Tryz.sizeOf60)) (fun d => oy hf2 hb2 d _ _ _) ⟨(eb e).symm, x.2, rfl⟩ (hlow := by simpa using (Lc (n := Hp.length) (k := 5) (o := false) (l := x.1)))

theorem c62 (L : List Tok) (o : Nat) (Hp : List AObj) (ho : Hp[o]? = some (pmO L 0)) (hl : TokEnd L) (hll : L.length ≤ 500000) (hX : ∃ l i, Fz L = .ok l i) : ACall Tryz.prog 62 [.ptr o 0] Hp (fun r H' => r = Ta L ∧ ∃ i, H' = Hp.set o (pmO L i)) := by
 refine ACall.guarded (n := 21) (nc := 8) (a := 3) (b := 2) (os := [oid Hp.length 0, oid Hp.length 1]) (own0 := [.cells 23 [.nil], .cells 60 [A2 0, A2 0]]) (rs := [.cell 2 23, .cell 3 60])
  (fr0 := A4 0 (.ptr o 0) (A4 2 (.ptr (oid Hp.length 0) 0) (A4 3 (.ptr (oid Hp.length 1) 0) fun _ => .any))) (fr1 := A4 0 (.ptr o 0) (A4 2 (.ptr (oid Hp.length 0) 0) (A4 3 (.ptr (oid Hp.length 1) 0) (A4 4 (.fn (.func 87) [] [.ptr (oid Hp.length 0) 0, .ptr (oid Hp.length 1) 0]) fun _ => .any))))
  Tryz.func62 rfl rfl Tryz.ntmps62 (by simp) Tryz.func87 rfl Tryz.ntmps87 rfl (by simp) (by decide) (by decide) Tryz.call87 (fun d => ?_) (fun d => ?_) rfl (fun d l => ?_)
 ·refine AW.keep [0] (by simp only [go_sem, ↓reduceIte, Nat.reduceEqDiff, Nat.reduceAdd] <;> rfl) ?_
  refine AW.region ?_;refine R.alloc jZ ?_;refine R.alloc jZ ?_;refine R.fin [0, 2, 3] ?_;exact ⟨rfl, rfl⟩
 ·refine Ip ?_;refine R.fin [0, 2, 3, 4] ?_
  rfl
 exact @p8 { b := ErrAt.b, bd := d + 1, bl := l } _ _ _ _ _ _ _ Tryz.func62 rfl Tryz.func87 rfl L o Hp ho hl hll hX d
theorem so {s : Str} (h : ((E7 s).2.1 != 0) = false) : Y3 s = Kh (E7 s).1 := by
 unfold Y3 Kh
 rw [if_neg (by rw [h]; simp)]
 cases Fz (E7 s).1 <;> rfl
theorem c33 (s : Str) (hs : s.length ≤ 1048576) (hz0 : (E7 s).2.1 = 0) (hX : ∃ l i, Fz (E7 s).1 = .ok l i) (Hp : List AObj) : AFun Tryz.prog 33 [A6 s] Hp (.tup [G7 (Y3 s).1, .agg [A2 (Y3 s).2.1, A2 (Y3 s).2.2]]) := by
 refine ACall.body [.tmp 2, .cell 3 60] [0] Tryz.func33 Tryz.ntmps33 (fun d => ?_)
 refine gq ?_;refine H5 ?_;refine Z0 ?_;refine R.call Tryz.call61 (c61 s hs _) ?_;refine Z25 ?_;refine qu ?_;refine R.fin [3, 4, 5] ?_;refine Z18 ?_;refine R.fin [3, 4, 5, 13] ?_
 refine W.cond (fun ht13 => ?_) (fun ht13 => ?_)
 ·rw [hz0] at ht13; cases ht13
 have hz : (E7 s).2.1 = 0 := by simpa using ht13
 have hle := nj hz
 have hlen := o5 hz
 have e := so ht13
 refine O2 ?_;refine Ud ?_;refine R.box ?_
 refine R.callEx (fun _ => Hp) (fun i => [.cells 60 [A2 0, A2 0], .cells 60 [A2 (E7 s).2.1, A2 ((E7 s).2.2 : Nat)], pmO (E7 s).1 i]) Tryz.call62 ((c62 (E7 s).1 (oid Hp.length 2) _ (by rw [Aw]; rfl) hle (by omega) hX).mono (fun r H' ⟨e, i, h⟩ => ⟨e, i, h.trans (by rw [E5]; rfl)⟩)) (fun _ => rfl) (fun _ h => h) (fun i => ?_)
 refine Z25 ?_;refine Fa ?_;refine gb ?_;exact K.fin (V.two V.tmp (V.cellN jA jS)) ⟨by rw [e], rfl⟩ (hlow := by simpa using (Lc (n := Hp.length) (k := 5) (o := false) (l := (Kh (E7 s).1).1)))

/-! fuse: trees in columns' places. -/
mutual
def putF (c : List Col) (l : List Expr) : Expr → Option Expr
 | .mk o t v k => if o == 2 then (if Al t c < 0 then none else some (l.getD (Al t c).toNat Aa)) else (Ft c l k).map fun k' => .mk o t v k'
def Ft (c : List Col) (l : List Expr) : List Expr → Option (List Expr)
  | [] => some []
  | e :: r => match putF c l e with
    | none => none
    | some y => (Ft c l r).map fun s => y :: s
 end
/-- fuse.Over. -/
def D0 (x : Expr) (c : List Col) (l : List Expr) : Expr × Int :=
 if (((!(Am x)) || l.any Cy) || !(Jq c)) || ((c.length : Int) != (l.length : Int)) then (Aa, 1)
 else match putF c l x with
  | none => (Aa, 9)
  | some y => if Am y then (y, 0) else (Aa, 3)
/-- fuse.over: the trees, till one goes wrong. -/
def Bx (c : List Col) (by_ : List Expr) : List Expr → List Expr × Int
 | [] => ([], 0)
 | x :: r => if (D0 x c by_).2 != 0 then ([], (D0 x c by_).2) else if (Bx c by_ r).2 != 0 then ([], (Bx c by_ r).2) else ((D0 x c by_).1 :: (Bx c by_ r).1, 0)
/-- fuse.stay. -/
def Bz (take : List Str) : List Col → List Expr → List Expr
 | y :: c, x :: l => if take.contains y.name then Bz take c l else x :: Bz take c l
 | _, _ => []
theorem He {take : List Str} : ∀ {c : List Col} {l : List Expr}, c.length = l.length → (Bz take c l).length = (C3 c take).length
 | [], [], _ => rfl
 | [], _ :: _, h => by simp at h
 | _ :: _, [], h => by simp at h
 | y :: c, x :: l, h => by
  have ih := He (take := take) (c := c) (l := l) (by simpa using h)
  unfold Bz C3
  by_cases hc : take.contains y.name = true
  ·rw [if_pos hc]
   simp only [List.filter_cons, hc, Bool.not_true, Bool.false_eq_true, if_false]
   exact ih
  rw [if_neg hc]
  have hc' : take.contains y.name = false := by simpa using hc
  simp only [List.filter_cons, hc', Bool.not_false, if_true, List.length_cons]
  exact congrArg (· + 1) ih
theorem Hw {c : List Col} {by_ : List Expr} : ∀ (l : List Expr), (Bx c by_ l).2 = 0 → (Bx c by_ l).1.length = l.length
 | [], _ => rfl
 | x :: r, h => by
  unfold Bx at h ⊢
  split at h
  ·rename_i h1
   exact absurd h (by simpa using h1)
  rename_i h1
  rw [if_neg h1]
  split at h
  ·rename_i h2
   exact absurd h (by simpa using h2)
  rename_i h2
  rw [if_neg h2]
  have := Hw (c := c) (by_ := by_) r (by simpa using h2)
  simp [this]
def W0 (c : List Col) (l : List Expr) (e : Expr) : Expr := (putF c l e).getD Aa
theorem Rk {c : List Col} {l : List Expr} : ∀ {k : List Expr}, (∀ (j : Nat) (y : Expr), k[j]? = some y → (!(putF c l y).isSome) = false) → Ft c l k = some (k.map (W0 c l))
 | [], _ => rfl
 | e :: r, h => by
  have h1 := h 0 e rfl
  have h2 := Rk (c := c) (l := l) (k := r) (fun j y hy => h (j + 1) y hy)
  rw [Ft]
  cases he : putF c l e with
  | none => rw [he] at h1; cases h1
  | some z => rw [h2, List.map_cons, show W0 c l e = z by unfold W0; rw [he]; rfl]; rfl
theorem Rl {c : List Col} {l : List Expr} : ∀ {k : List Expr} {e : Expr}, e ∈ k → putF c l e = none → Ft c l k = none
 | a :: r, e, hm, h => by
  rw [Ft]
  rcases List.mem_cons.1 hm with rfl | hm
  ·rw [h]
  have := Rl hm h
  cases ha : putF c l a with
  | none => rfl
  | some z => rw [this]; rfl
theorem Pf {c : List Col} {l : List Expr} {x : Expr} (h : (x.op == 2) = true) : putF c l x = if Al x.text c < 0 then none else some (l.getD (Al x.text c).toNat Aa) := by
 cases x; rw [putF]; exact if_pos h
theorem Pg {c : List Col} {l : List Expr} {x : Expr} (h : (x.op == 2) = false) : putF c l x = (Ft c l x.kids).map fun k' => .mk x.op x.text x.val k' := by
 cases x; rw [putF]; exact if_neg (fun e => Bool.false_ne_true (h.symm.trans e))
theorem W3 {c : List Col} {l : List Expr} {s : Str} (hl : c.length = l.length) (hf : ¬ Al s c < 0) : (l.map A3)[(Al s c).toNat]? = some (A3 (l.getD (Al s c).toNat Aa)) ∧ (Al s c).toNat < l.length ∧ 0 ≤ Al s c := by
 obtain ⟨j, hj, hjl⟩ := Eg hf
 rw [hj, Int.toNat_natCast]
 refine ⟨?_, by omega, by omega⟩
 rw [List.getElem?_map, List.getElem?_eq_getElem (by omega), List.getD_eq_getElem?_getD, List.getElem?_eq_getElem (by omega)]
 rfl
theorem c46 (c : List Col) (hc : OkCols c) (l : List Expr) (hl : c.length = l.length) : ∀ (n : Nat) (x : Expr), okE n x → ∀ Hp : List AObj, AFun Tryz.prog 46 [A3 x, Ac c, B5 l] Hp (.tup [A3 ((putF c l x).getD Aa), An (putF c l x).isSome]) := by
 intro n
 induction n with
 | zero => exact fun e h => h.elim
 | succ n ih =>
 intro x hok Hp
 refine ACall.body [.cell 6 45, .tmp 7] [0, 1, 2] Tryz.func46 Tryz.ntmps46 (fun d => ?_)
 refine Wt ?_;refine R.alloc jZ ?_;refine R.go ?_;refine R.fin [1, 2, 3, 6] ?_;refine Z18 ?_;refine R.fin [1, 2, 3, 6, 16] ?_
 refine W.cond (fun ht16 => ?_) (fun ht16 => ?_)
 ·have hpn := Pf (c := c) (l := l) ht16
  refine Z7 ?_;refine R.call Tryz.call59 (c59 c hc x.text _) ?_;refine R.go ?_;refine R.fin [2, 6, 8] ?_;refine Z28 ?_;refine R.fin [2, 6, 8, 22] ?_
  refine W.cond (fun ht22 => ?_) (fun ht22 => ?_)
  ·have hm : putF c l x = none := by rw [hpn, if_pos (by simpa using ht22)]
   refine bi ?_;refine Z23 ?_;refine K.thR ?_;exact vn
  have hneg : ¬ Al x.text c < 0 := by simpa using ht22
  have hm : putF c l x = some (l.getD (Al x.text c).toNat Aa) := by rw [hpn, if_neg hneg]
  refine Wx ?_
  obtain ⟨_, hg1, hg2⟩ := W3 hl hneg
  refine R.go (h := Q.indexAddr ((Al x.text c).toNat) (A3 (l.getD (Al x.text c).toNat Aa)) (fun _ => (W3 hl hneg).1)) (hr := ?_)
  refine Z69 ?_;refine Z49 ?_;refine Z23 ?_;exact K.fin (V.two (V.cellN jA jS) V.tmp) ⟨by rw [hm]; show _ = AV.tup [A3 (l.getD _ Aa), An true]; rw [A8] <;> rfl, rfl⟩ (hlow := by simp [or_imp, forall_and, Ab])
 have hpk := Pg (c := c) (l := l) ht16
 refine Lp ?_;refine R.fin [1, 2, 3, 6, 9] ?_;refine Z80 ?_;refine R.fin [1, 2, 3, 6, 9] ?_;refine Z65 ?_;refine R.nilCell 0 5 6 ?_;refine Z25 ?_;refine R.fin [1, 2, 3, 6, 31, 32, 33] ?_
 refine AW.loopC (α := Nat) (fun i => ⟨55, A4 1 (Ac c) (A4 2 (B5 l) (A4 3 (.ptr (oid Hp.length 0) 0) (A4 6 (.ptr (oid Hp.length 1) 0) (A4 31 (.slice false 6 (x.kids.map A3)) (A4 32 (A2 (x.kids.length : Nat)) (A4 33 (A2 (i : Nat)) (fun _ => .any))))))), Hp, [.cells 45 [A2 x.op, A6 x.text, A2 x.val.kind, A2 x.val.n, A6 x.val.s, .slice true 6 (((x.kids.take i).map (W0 c l)).map A3)], .cells 45 [A2 0, A6 [], A2 0, A2 0, A6 [], .nil]], [], none⟩) (fun i => i ≤ x.kids.length ∧ ∀ (j : Nat) (y : Expr), j < i → x.kids[j]? = some y → (!(putF c l y).isSome) = false) (fun i => x.kids.length - i) (0) ⟨Nat.zero_le _, fun j y h => by omega⟩ (StLe.of_eq (by simp)) rfl (fun i hi => ?_)
 refine Z0 ?_;refine R.fin [1, 2, 3, 6, 31, 32, 33, 34] ?_
 refine W.condX (fun ht34 => ?_) (fun ht34 => ?_)
 ·have hlt : i < x.kids.length := by simpa using ht34
  have hkl := hok.2.1
  refine Z88 ?_
  refine R.go (h := Q.indexAddr (i) (A3 x.kids[i]) (fun _ => Ak hlt)) (hr := ?_)
  refine Nf ?_;refine R.fin [1, 2, 3, 6, 11, 31, 32, 33] ?_;refine Z7 ?_;refine R.call Tryz.call46 (ih x.kids[i] (hok.2.2 _ (List.getElem_mem hlt)) _) ?_;refine U7 ?_;refine R.fin [1, 2, 3, 6, 12, 13, 31, 32, 33] ?_;refine Z28 ?_;refine R.fin [1, 2, 3, 6, 12, 31, 32, 33, 45] ?_
  refine W.cond (fun ht45 => ?_) (fun ht45 => ?_)
  ·have hm : putF c l x = none := by rw [hpk, Rl (List.getElem_mem hlt) (by simpa using ht45)]; rfl
   refine bi ?_;refine Z23 ?_;refine Z42 ?_;exact vn
  refine Z6 ?_;refine Sg ?_;refine R.loadOwnT jA ?_;refine Z94 ?_
  refine R.append jU Tryz.type45 ?_ ?_ ?_
  ·simp only [List.length_map, List.length_take, List.length_cons, List.length_nil, Tryz.t45]; omega
  ·simp only [List.length_map, List.length_take, List.length_cons, List.length_nil, Tryz.t45]; omega
  refine R.go ?_;refine R.storeOwnT jS ?_;refine R.fin [1, 2, 3, 6, 31, 32, 33] ?_;refine Ng ?_;refine R.fin [1, 2, 3, 6, 31, 32, 33] ?_;refine K.lpN (i + 1) ⟨hlt, Bk hlt hi.2 ht45⟩ (by omega) ?_
  have hlo := fun m => ka (n := m) (x := x) (o := true) (l := (x.kids.take i).map (W0 c l) ++ [W0 c l x.kids[i]])
  simp only [List.map_append, List.map_cons, List.map_nil, A8] at hlo
  simp only [show Tryz.t45.size = 6 from rfl]
  rw [Ji hlt, List.map_append, List.map_cons, List.map_nil, A8]
  exact StCut.take (fun _ => .refl _) (by repeat (first | exact Ap | refine Ao (by first | exact Cr | exact Cx | (simp [oid, Ab]; done) | (simp [oid] <;> omega)) ?_)) (zc (hlo _) T3) (by simp)
 have hxe : x.kids.length ≤ i := by simpa using ht34
 have hm : putF c l x = some (.mk x.op x.text x.val (x.kids.map (W0 c l))) := by rw [hpk, Rk (fun j y hy => hi.2 j y (by have := (List.getElem?_eq_some_iff.1 hy).1; omega) hy)]; rfl
 refine Z27 ?_;refine Z80 ?_;refine Z49 ?_;refine AW.ret ?_;exact K.fin (V.two (V.cellN jA jS) V.tmp) ⟨by rw [hm]; show _ = AV.tup [A3 (.mk x.op x.text x.val (x.kids.map (W0 c l))), An true]; rw [Kd, List.take_of_length_le hxe], rfl⟩ (hlow := by simp [or_imp, forall_and]; intro y hy; obtain ⟨e, _, rfl⟩ := List.mem_map.1 (List.mem_of_mem_take hy); exact Ab _ _)

theorem Ki {c : List Col} {l : List Expr} : ∀ {k s : List Expr}, Ft c l k = some s → s.length = k.length ∧ ∀ y ∈ s, ∃ e ∈ k, putF c l e = some y
 | [], s, h => by
  rw [Ft] at h
  injection h with h
  subst h
  exact ⟨rfl, fun y hy => by cases hy⟩
 | a :: r, s, h => by
  rw [Ft] at h
  cases ha : putF c l a with
  | none => rw [ha] at h; cases h
  | some z =>
   rw [ha] at h
   simp only at h
   cases hr : Ft c l r with
   | none => rw [hr] at h; cases h
   | some t =>
    rw [hr] at h
    injection h with h
    subst h
    obtain ⟨h1, h2⟩ := Ki hr
    refine ⟨by simp [h1], fun y hy => ?_⟩
    rcases List.mem_cons.1 hy with rfl | hy
    ·exact ⟨a, List.mem_cons_self, ha⟩
    obtain ⟨e, he, hp⟩ := h2 y hy
    exact ⟨e, List.mem_cons_of_mem _ he, hp⟩
theorem Tb {c : List Col} {l : List Expr} {m : Nat} (hl : ∀ e ∈ l, okE (m + 1) e) (hc : c.length = l.length) : ∀ (n : Nat) (x y : Expr), okE n x → putF c l x = some y → okE (m + 1 + n) y
 | 0, x, y, h, _ => h.elim
 | n + 1, x, y, h, hp => by
  cases h2 : x.op == 2 with
  | true =>
   rw [Pf h2] at hp
   split at hp
   ·cases hp
   rename_i hf
   injection hp with hp
   subst hp
   obtain ⟨j, hj, hjl⟩ := Eg hf
   rw [hj, Int.toNat_natCast, List.getD_eq_getElem?_getD, List.getElem?_eq_getElem (by omega)]
   exact Cw (by omega) (hl _ (List.getElem_mem (by omega)))
  | false =>
   rw [Pg h2] at hp
   cases hk : Ft c l x.kids with
   | none => rw [hk] at hp; cases hp
   | some s =>
    rw [hk] at hp
    injection hp with hp
    subst hp
    obtain ⟨h3, h4⟩ := Ki hk
    refine ⟨h.1, by show s.length ≤ _; rw [h3]; exact h.2.1, fun z hz => ?_⟩
    obtain ⟨e, he, hpe⟩ := h4 z hz
    exact Tb hl hc n e z (h.2.2 e he) hpe
theorem sq {x : Expr} {c : List Col} {l : List Expr} (h : ((((!(Am x)) || l.any Cy) || !(Jq c)) || ((c.length : Int) != (l.length : Int))) = true) : D0 x c l = (Aa, 1) := if_pos h
theorem sr {x : Expr} {c : List Col} {l : List Expr} (h : ((((!(Am x)) || l.any Cy) || !(Jq c)) || ((c.length : Int) != (l.length : Int))) = false) : D0 x c l = match putF c l x with
  | none => (Aa, 9)
  | some y => if Am y then (y, 0) else (Aa, 3) := if_neg (by rw [h]; simp)
theorem c23 (x : Expr) (hok : okE 61 x) (c : List Col) (hc : OkCols c) (l : List Expr) (hll : l.length ≤ 1048576) (hlo : ∀ e ∈ l, okE 61 e) (Hp : List AObj) : AFun Tryz.prog 23 [A3 x, Ac c, B5 l] Hp (.tup [A3 (D0 x c l).1, A2 (D0 x c l).2]) := by
 refine ACall.body [.cell 6 45, .tmp 7] [0, 1, 2] Tryz.func23 Tryz.ntmps23 (fun d => ?_)
 refine gq ?_;refine R.go ?_;refine R.fin [1, 2, 3, 6] ?_;refine Z34 ?_;refine R.call Tryz.call44 (c44 61 x hok (by decide) _) ?_;refine Z82 ?_;refine G.call Tryz.call45 (fun hB => c45 l hll hlo _) ?_;refine Z82 ?_;refine G.call Tryz.call41 (fun hB => c41 c hc _) ?_;refine G.go ?_;refine Z36 ?_;refine Wu ?_;refine R.fin [1, 2, 3, 6, 28] ?_
 refine W.cond (fun ht28 => ?_) (fun ht28 => ?_)
 ·simp only [List.length_map] at ht28
  have hm := sq ht28
  refine Z93 ?_;refine R.nilCell 0 5 6 ?_;refine Z49 ?_;exact Z57
 simp only [List.length_map] at ht28
 have hm0 := sr ht28
 have hcl : c.length = l.length := by simp only [Bool.or_eq_false_iff, bne_eq_false_iff_eq] at ht28; have := ht28.2; omega
 refine Lp ?_;refine R.call Tryz.call46 (c46 c hc l hcl 61 x hok _) ?_;refine U7 ?_;refine R.fin [6, 8, 9] ?_;refine Z19 ?_;refine Z7 ?_;refine R.fin [6, 8, 37] ?_
 refine W.cond (fun ht37 => ?_) (fun ht37 => ?_)
 ·have hp : putF c l x = none := by simpa using ht37
  have hm : D0 x c l = (Aa, 9) := by rw [hm0, hp]
  refine Z93 ?_;refine R.nilCell 0 5 6 ?_;refine Z49 ?_;exact tt
 obtain ⟨y, hp⟩ : ∃ y, putF c l x = some y := by
  cases h : putF c l x with
  | none => rw [h] at ht37; cases ht37
  | some y => exact ⟨y, rfl⟩
 have hyo : okE 122 ((putF c l x).getD Aa) := by rw [hp]; exact Tb (m := 60) hlo hcl 61 x y hok hp
 refine Z0 ?_;refine R.call Tryz.call44 (c44 122 ((putF c l x).getD Aa) hyo (by decide) _) ?_;refine Z1 ?_;refine R.fin [6, 8, 41] ?_
 refine W.cond (fun ht41 => ?_) (fun ht41 => ?_)
 ·have hm : D0 x c l = (Aa, 3) := by
   rw [hp] at ht41
   rw [hm0, hp]
   exact if_neg (by simpa using ht41)
  refine Z93 ?_;refine R.nilCell 0 5 6 ?_;refine Z49 ?_;exact tt
 have hm : D0 x c l = (y, 0) := by
  rw [hp] at ht41
  rw [hm0, hp]
  exact if_pos (by simpa using ht41)
 refine Z16 ?_;refine Z80 ?_;refine Z49 ?_;refine AW.ret ?_;exact K.fin (V.two (V.cellN jA jS) V.tmp) ⟨by rw [hm, hp]; show _ = AV.tup [A3 y, A2 0]; rw [A8]; rfl, rfl⟩ (hlow := by simp [or_imp, forall_and, Ab])

set_option maxRecDepth 8000
/-! The words of a print. -/
/-! What a tree comes to: eval's model. -/
abbrev Rs := Val × Int
def Ph (e : Int) : Rs := (noV, e)
def Gt (r : Rs) : Rs := if (r.2 == 0) && (r.1.kind != 0) && (r.1.kind != 3) then Ph 10 else r
def l6 (strong : Val) (a b : Rs) : Rs := if ((Gt a).2 != 0) || ((Gt a).1 == strong) then Gt a else if (((Gt b).2 != 0) || ((Gt b).1 == strong)) || ((Gt a).1.kind != 0) then Gt b else ((Gt a).1, 0)
def ifW : Str := [105, 102]
def p9 : Str := [110, 118, 108]
def Li : Str := [105, 115, 110, 117, 108, 108]
def x5 (t : Str) (a b c : Rs) : Rs :=
 if t == ifW then (if (Gt a).2 != 0 then Ph (Gt a).2 else if (Gt a).1 == Ui true then b else c)
 else if a.2 != 0 then Ph a.2 else if t == Li then (Ui (a.1.kind == 0), 0) else if a.1.kind != 0 then (a.1, 0) else b
def zz (strict : List Val → Rs) (l : List Rs) : Rs := match l.find? (fun q => q.2 != 0) with | some q => Ph q.2 | none => if l.any (fun q => q.1.kind == 0) then (noV, 0) else strict (l.map (·.1))
def Pi (c : List Col) (l : List Val) (t : Str) : Rs := if Al t c < 0 then Ph 9 else (l.getD (Al t c).toNat noV, 0)
def orW : Str := [111, 114]
def AA0 : Str := [97, 110, 100]
/-- A node, of what its kids come to; what a strict node comes to is a parameter. -/
def qg (strict : Int → Str → List Val → Rs) (c : List Col) (l : List Val) (o : Int) (t : Str) (v : Val) (ks : List Rs) : Rs :=
 if o == 1 then (v, 0) else if o == 2 then Pi c l t
 else if (o == 5) && (t == orW) then l6 (Ui true) (ks.getD 0 (noV, 0)) (ks.getD 1 (noV, 0))
 else if (o == 5) && (t == AA0) then l6 (Ui false) (ks.getD 0 (noV, 0)) (ks.getD 1 (noV, 0))
 else if (o == 6) && (((t == ifW) || (t == p9)) || (t == Li)) then x5 t (ks.getD 0 (noV, 0)) (ks.getD 1 (noV, 0)) (ks.getD 2 (noV, 0))
 else zz (strict o t) ks
mutual
def N4 (strict : Int → Str → List Val → Rs) (c : List Col) (l : List Val) : Expr → Rs
 | .mk o t v k => qg strict c l o t v (Rm strict c l k)
def Rm (strict : Int → Str → List Val → Rs) (c : List Col) (l : List Val) : List Expr → List Rs
  | [] => []
  | e :: r => N4 strict c l e :: Rm strict c l r
 end
/-! A tree in a column's place comes to what its value would there. -/
mutual
theorem eval_put {f : Int → Str → List Val → Rs} {c : List Col} {l m : List Val} {s : Str} {y : Expr} (hs : Pi c m s = N4 f c l y) (ho : ∀ t, t ≠ s → Pi c m t = Pi c l t) : ∀ x : Expr, N4 f c l (Eb s y x) = N4 f c m x
 | .mk o t v k => by
  rw [Eb]
  split
  ·rename_i h
   rw [Bool.and_eq_true, beq_iff_eq, beq_iff_eq] at h
   obtain ⟨rfl, rfl⟩ := h
   rw [← hs, N4]
   rfl
  rename_i h
  rw [N4, N4, Rn hs ho k]
  unfold qg
  by_cases h2 : (o == 2) = true
  ·have : t ≠ s := fun e => h (by rw [h2, e]; simp)
   rw [ho t this]
  rw [if_neg h2, if_neg h2]
theorem Rn {f : Int → Str → List Val → Rs} {c : List Col} {l m : List Val} {s : Str} {y : Expr} (hs : Pi c m s = N4 f c l y) (ho : ∀ t, t ≠ s → Pi c m t = Pi c l t) : ∀ k : List Expr, Rm f c l (Q6 s y k) = Rm f c m k
  | [] => rfl
  | e :: r => by rw [Q6, Rm, Rm, eval_put hs ho e, Rn hs ho r]
 end
/-! Who is not Ew plays no part. -/
/-! What a strict node comes to. -/
/-! Values are xb, and their numbers have 64 bits. -/
/-! A text between marks. -/
set_option maxRecDepth 4000
theorem ec (e : Expr) : (Ax e).length ≤ sizeE e := by
 have h1 := Uz (Fx e) []
 rw [co] at h1
 have h2 : (Ax e).length = ((Fx e).foldl Db []).length := rfl
 simp only [List.length_nil] at h1
 omega
set_option maxRecDepth 8000
/-! Who decides decides: the law's sources, columns and truths. -/
/-! Rows. -/
/-! Rows that differ in what is not Ew. -/
/-! Who has a kind comes to it. -/
theorem Pj {t : Str} {n : Nat} (h : Ay t = (n : Int)) : (t = [108, 101, 110] ∧ n = 1) ∨ (t = [115, 116, 114] ∧ n = 1) ∨ (t = [110, 117, 109] ∧ n = 1) ∨ (t = Li ∧ n = 1) ∨ (t = p9 ∧ n = 2) ∨ (t = [108, 101, 102, 116] ∧ n = 2) ∨ (t = [114, 105, 103, 104, 116] ∧ n = 2) ∨ (t = ifW ∧ n = 3) := by
 by_cases hm : t ∈ arityList.map (·.1)
 ·have ha : ∀ s ∈ arityList.map (·.1), (s = [108, 101, 110] ∧ Ay s = 1) ∨ (s = [115, 116, 114] ∧ Ay s = 1) ∨ (s = [110, 117, 109] ∧ Ay s = 1) ∨ (s = Li ∧ Ay s = 1) ∨ (s = p9 ∧ Ay s = 2) ∨ (s = [108, 101, 102, 116] ∧ Ay s = 2) ∨ (s = [114, 105, 103, 104, 116] ∧ Ay s = 2) ∨ (s = ifW ∧ Ay s = 3) := by
   have : ((arityList.map (·.1)).all fun s => decide ((s = [108, 101, 110] ∧ Ay s = 1) ∨ (s = [115, 116, 114] ∧ Ay s = 1) ∨ (s = [110, 117, 109] ∧ Ay s = 1) ∨ (s = Li ∧ Ay s = 1) ∨ (s = p9 ∧ Ay s = 2) ∨ (s = [108, 101, 102, 116] ∧ Ay s = 2) ∨ (s = [114, 105, 103, 104, 116] ∧ Ay s = 2) ∨ (s = ifW ∧ Ay s = 3))) = true := by kernel_rfl
   exact fun s hs => of_decide_eq_true (List.all_eq_true.1 this s hs)
  have := ha t hm
  rw [h] at this
  rcases this with ⟨e, h2⟩ | ⟨e, h2⟩ | ⟨e, h2⟩ | ⟨e, h2⟩ | ⟨e, h2⟩ | ⟨e, h2⟩ | ⟨e, h2⟩ | ⟨e, h2⟩
  ·exact .inl ⟨e, by omega⟩
  ·exact .inr (.inl ⟨e, by omega⟩)
  ·exact .inr (.inr (.inl ⟨e, by omega⟩))
  ·exact .inr (.inr (.inr (.inl ⟨e, by omega⟩)))
  ·exact .inr (.inr (.inr (.inr (.inl ⟨e, by omega⟩))))
  ·exact .inr (.inr (.inr (.inr (.inr (.inl ⟨e, by omega⟩)))))
  ·exact .inr (.inr (.inr (.inr (.inr (.inr (.inl ⟨e, by omega⟩))))))
  exact .inr (.inr (.inr (.inr (.inr (.inr (.inr ⟨e, by omega⟩))))))
 have h1 : Ay t = -1 := by
  unfold Ay
  rw [List.find?_eq_none.2 fun p hp => by
   simp only [beq_iff_eq]
   rintro rfl
   exact hm (List.mem_map.2 ⟨p, hp, rfl⟩)]
 omega
/-! The print of a tree, and its words. -/
def I8 (least : Nat) (x : Expr) (s : Str) : Str := if least ≤ levE x then s else 40 :: (s ++ [41])
def En : List Str → Str
 | [] => []
 | s :: r => 44 :: 32 :: (s ++ En r)
def Lj (o : Int) (t : Str) (v : Val) (k : List Expr) (ss : List Str) : Str :=
 if o == 1 then E1 v else if o == 2 then t
 else if o == 3 then 45 :: I8 6 (k.getD 0 Aa) (ss.getD 0 [])
 else if o == 4 then d7 ++ 32 :: I8 2 (k.getD 0 Aa) (ss.getD 0 [])
 else if o == 5 then I8 (Ez (Aq t).toNat) (k.getD 0 Aa) (ss.getD 0 []) ++ 32 :: (t ++ 32 :: I8 ((Aq t).toNat + 1) (k.getD 1 Aa) (ss.getD 1 []))
 else t ++ 40 :: ((En ss).drop 2 ++ [41])
mutual
def Ae : Expr → Str
 | .mk o t v k => Lj o t v k (J5 k)
def J5 : List Expr → List Str
  | [] => []
  | e :: r => Ae e :: J5 r
 end
theorem Kj : ∀ l, J5 l = l.map Ae
 | [] => rfl
 | e :: r => by rw [J5, Kj r]; rfl
theorem su (v : Val) : Ae (I7 v) = E1 v := by simp [I7, Ae, Lj]
theorem pc (t : Str) : Ae (Aj t) = t := by simp [Aj, Ae, Lj]
theorem sw (a : Expr) : Ae (Em 3 a) = 45 :: I8 6 a (Ae a) := by simp [Em, Ae, J5, Lj]
theorem x6 (a : Expr) : Ae (Em 4 a) = d7 ++ 32 :: I8 2 a (Ae a) := by simp [Em, Ae, J5, Lj]
theorem sx (t : Str) (a b : Expr) : Ae (Gq t a b) = I8 (Ez (Aq t).toNat) a (Ae a) ++ 32 :: (t ++ 32 :: I8 ((Aq t).toNat + 1) b (Ae b)) := by simp [Gq, Ae, J5, Lj]
theorem pg (t : Str) (k : List Expr) : Ae (.mk 6 t noV k) = t ++ 40 :: ((En (J5 k)).drop 2 ++ [41]) := by simp [Ae, Lj]
/-! What was parsed nests no deeper than may be. -/
/-! What nests too deep is told to be too deep. -/
def F2 (l : List Tok) (x : Expr) : Prop := ∀ (k : Nat) (S : PS) (rest : List TK), (k = 0 ∨ k = 1 ∨ k = 4 ∨ k = 5) → k ≤ levE x → S.code = 0 → S.nest ≤ 30 → 30 < S.nest + Zi x → seg l S.i = P6 x ++ rest → jx (k + 1) rest → (Dq l (ofL k) (pf l (fam l S.nest) (k + 1)) S).2.code = 18
/-! What was parsed is right, where the words are the lexer's. -/
/-! The lexer's words. -/
/-! The parse laws where nothing is too deep. -/
/-! The parser from a word on, and of a source. -/
/-! Other trees have other words, and other prints. -/
/-! The laws of printing. -/
/-- show.Print. -/
def N5 (x : Expr) : Str × Int := if !(Am x) then ([], 1) else if decide ((4000 : Int) < ((Ae x).length : Int)) then ([], 3) else (Ae x, 0)
theorem E3 {x : Expr} (h : Ai x = true) : Cf C2 x = true := by
 unfold Ai at h
 rw [Bool.and_eq_true] at h
 exact h.2
set_option maxRecDepth 4000
theorem I9 {k : List Expr} {i : Nat} (h : i < k.length) : (k.map A3)[i]? = some (A3 (k.getD i Aa)) ∧ k.getD i Aa ∈ k ∧ ∀ (f : Expr → Rs) (d : Rs), (k.map f).getD i d = f (k.getD i Aa) := by
 have e : k.getD i Aa = k[i] := by rw [List.getD_eq_getElem?_getD, List.getElem?_eq_getElem h]; rfl
 rw [e]
 refine ⟨by simp [h], List.getElem_mem h, fun f d => ?_⟩
 rw [List.getD_eq_getElem?_getD, List.getElem?_map, List.getElem?_eq_getElem h]
 rfl
theorem l7 {e : Expr} (h : C2 e = true) : (e.op = 5 → e.kids.length = 2) ∧ (e.op = 3 ∨ e.op = 4 → e.kids.length = 1) ∧ (e.op = 6 → Ay e.text = (e.kids.length : Int)) ∧ (e.op = 1 ∨ e.op = 2 ∨ e.op = 3 ∨ e.op = 4 ∨ e.op = 5 ∨ e.op = 6) := by
 cases Fg h with
 | val v hp h0 => simp [I7, Expr.op]
 | name t ht => simp [Aj, Expr.op]
 | neg a => simp [Em, Expr.op, Expr.kids]
 | no a => simp [Em, Expr.op, Expr.kids]
 | bin t a b ht => simp [Gq, Expr.op, Expr.kids]
 | call t k ht => simpa [Expr.op, Expr.kids, Expr.text] using ht
def Kk (s : Str) : Int := if s == [111, 114] then 0 else if s == [97, 110, 100] then 1 else if (((((s == [61]) || (s == [33, 61])) || (s == [60])) || (s == [60, 61])) || (s == [62])) || (s == [62, 61]) then 3 else if ((s == [43]) || (s == [45])) || (s == [38]) then 4 else if ((s == [42]) || (s == [47])) || (s == [37]) then 5 else 7
theorem ee (s : Str) : Kk s = if 0 ≤ Aq s then Aq s else 7 := by
 by_cases hf : s ∈ levels.flatten
 ·have h3 : (levels.flatten.all fun s => decide (Kk s = if 0 ≤ Aq s then Aq s else 7)) = true := by kernel_rfl
  exact of_decide_eq_true (List.all_eq_true.1 h3 s hf)
 have hn := hf
 have h : Aq s = -1 := by
  rcases J0 s with h | ⟨h, _⟩
  ·exact absurd h hf
  exact h
 rw [h]
 simp only [levels, List.flatten_cons, List.flatten_nil, List.append_nil, List.cons_append, List.nil_append, List.mem_cons, List.not_mem_nil, or_false, not_or] at hn
 obtain ⟨a1, a2, a3, a4, a5, a6, a7, a8, a9, b1, b2, b3, b4, b5⟩ := hn
 simp [Kk, *]
/-- The level of a node. -/
def Yb (e : Expr) : Int := if e.op == 4 then 2 else if e.op == 3 then 6 else if e.op == 5 then Kk e.text else 7
theorem Zw {e : Expr} (h : C2 e = true) : Yb e = (levE e : Int) := by
 unfold Yb levE
 split
 ·rfl
 split
 ·rfl
 split
 ·rename_i h5
  have hb : 0 ≤ Aq e.text := by
   have h5' : e.op = 5 := by simpa using h5
   rw [Oy] at h
   unfold E2 at h
   simp [h5'] at h
   exact h.2.1
  rw [ee, if_pos hb]
  omega
 rfl
theorem AA1 (s : Str) (Hp : List AObj) : AFun Tryz.prog 136 [A6 s] Hp (A2 (Kk s)) := by
 refine ACall.body [.tmp 2] [0] Tryz.func136 Tryz.ntmps136 (fun d => ?_)
 refine Z38 ?_;refine Z34 ?_;refine R.fin [3] ?_;refine Z87 ?_;refine R.fin [3, 4] ?_
 refine W.cond (fun ht4 => ?_) (fun ht4 => ?_)
 ·exact gh
 refine Z4 ?_;refine R.fin [3, 6] ?_
 refine W.cond (fun ht6 => ?_) (fun ht6 => ?_)
 ·exact gh
 refine W.join ⟨23, A4 3 (A6 s) (A4 8 (An ((((((s == [61]) || (s == [33, 61])) || (s == [60])) || (s == [60, 61])) || (s == [62])) || (s == [62, 61]))) (fun _ => .any)), Hp, [], [], none⟩ ?_ ?_
 ·refine gj ?_
  refine W.cond (fun ht8 => ?_) (fun ht8 => ?_)
  ·exact g7
  refine gj ?_
  refine W.cond (fun ht8 => ?_) (fun ht8 => ?_)
  ·exact g7
  refine gj ?_
  refine W.cond (fun ht8 => ?_) (fun ht8 => ?_)
  ·exact g7
  refine gj ?_
  refine W.cond (fun ht8 => ?_) (fun ht8 => ?_)
  ·exact g7
  refine gj ?_
  refine W.cond (fun ht8 => ?_) (fun ht8 => ?_)
  ·exact g7
  refine Z13 ?_;refine R.fin [3, 8] ?_;exact Z48
 refine W.cond (fun ht8 => ?_) (fun ht8 => ?_)
 ·exact gh
 refine W.join ⟨23, A4 3 (A6 s) (A4 15 (An (((s == [43]) || (s == [45])) || (s == [38]))) (fun _ => .any)), Hp, [], [], none⟩ ?_ ?_
 ·refine Z4 ?_;refine R.fin [3, 15] ?_
  refine W.cond (fun ht15 => ?_) (fun ht15 => ?_)
  ·refine W.keep [3, 15] ?_;exact Z98
  refine Z4 ?_;refine R.fin [3, 15] ?_
  refine W.cond (fun ht15 => ?_) (fun ht15 => ?_)
  ·refine W.keep [3, 15] ?_;exact Z98
  refine Z13 ?_;refine R.fin [3, 15] ?_;exact Z48
 refine W.cond (fun ht15 => ?_) (fun ht15 => ?_)
 ·exact gh
 refine W.join ⟨23, A4 19 (An (((s == [42]) || (s == [47])) || (s == [37]))) (fun _ => .any), Hp, [], [], none⟩ ?_ ?_
 ·refine Z4 ?_;refine R.fin [3, 19] ?_
  refine W.cond (fun ht19 => ?_) (fun ht19 => ?_)
  ·refine W.keep [19] ?_;exact Z98
  refine Z4 ?_;refine R.fin [3, 19] ?_
  refine W.cond (fun ht19 => ?_) (fun ht19 => ?_)
  ·refine W.keep [19] ?_;exact Z98
  refine Z13 ?_;refine R.fin [19] ?_;exact Z48
 refine W.cond (fun ht19 => ?_) (fun ht19 => ?_)
 ·exact gh
 refine U4 ?_;exact K.fin (V.one V.tmp) ⟨by simp_all [Kk], rfl⟩

theorem x7 (e : Expr) (Hp : List AObj) : AFun Tryz.prog 101 [A3 e] Hp (A2 (Yb e)) := by
 refine ACall.body [.tmp 2] [0] Tryz.func101 Tryz.ntmps101 (fun d => ?_)
 refine Z64 ?_;refine Z28 ?_;refine R.fin [1, 4] ?_;refine Z87 ?_;refine R.fin [1, 4, 5] ?_
 refine W.cond (fun ht5 => ?_) (fun ht5 => ?_)
 ·refine Z20 ?_;exact qv
 refine Z4 ?_;refine R.fin [1, 4, 7] ?_
 refine W.cond (fun ht7 => ?_) (fun ht7 => ?_)
 ·refine Z20 ?_;exact qv
 refine Z4 ?_;refine R.fin [1, 9] ?_
 refine W.cond (fun ht9 => ?_) (fun ht9 => ?_)
 ·refine Z4 ?_;refine R.call Tryz.call136 (AA1 e.text _) ?_;refine R.go ?_;refine Z2 ?_;exact qv
 refine U4 ?_;exact K.fin (V.one V.tmp) ⟨by simp_all [Yb], rfl⟩

end Go.SX.Nb
namespace Go.Proofs
open Go.Shelf Go.RowKit

section
variable {P : Program} (w : World)

/-- Bytes behind a builder's bytes: what is handed back lies where it lay, or in the next block, or nowhere still. -/
theorem ef {t u ty e : TypeId} {i : TypeInfo} (ht : P.underlying t = some (.slice e)) (hu : P.underlying u = some .string) (hi : P.info? e = some i) (hz : i.zero = some (.int .u8 0)) (hsize : i.size = 1) (hby : i.bytes = 1)
  (v : Value) (n : Nat) (xs : List Value) (hown : w.ownsRow 0 e 1 v n xs) (s : ByteArray) (hb : n + s.size ≤ 140737488355328) :
  ∃ v' w', (Builtin.append_ #[t, u] ty #[v, .string s]).run P w = .ok v' w' ∧ w'.ownsRow 0 e 1 v' (n + s.size) (xs ++ Lib.strCells s) ∧ w.grownBy w' v'.ownBlock ∧
   ((v = .slice none 0 0 ∧ v' = v ∧ s.size = 0) ∨ (∃ g cap, v = .slice (some ⟨g, 0, none⟩) n cap ∧ v' = .slice (some ⟨g, 0, none⟩) (n + s.size) cap) ∨ ∃ cap, v' = .slice (some ⟨w.heap.size, 0, none⟩) (n + s.size) cap ∧ 0 < n + s.size) := by
 have h63 : n + s.size ≤ maxLen := by unfold maxLen; omega
 obtain ⟨v', w', hr, h1, h2, h3⟩ := Lib.run_append_own_string (P := P) w 0 t u ty e i ht hu hi hz hsize hby v n xs hown s h63 hb (Nat.zero_le _)
 have hxl : xs.length = n := by simpa using hown.1
 refine ⟨v', w', hr, h1, ?_⟩
 rcases hown.2 with ⟨rfl, rfl⟩ | ⟨g, cap, cur, rfl, hbg, hg, hnc, hcm, hcs, htake⟩
 ·by_cases hm : s.size = 0
  ·have e1 := h3.2 ⟨rfl, hm⟩
   exact ⟨by rw [e1]; exact h2, .inl ⟨rfl, e1, hm⟩⟩
  have hr2 := run_append_nil_string (P := P) w t u ty e i (.int .u8 0) ht hu hi hz s (by omega) (by omega) (by rw [hby]; omega)
  rw [hr] at hr2
  injection hr2 with e1 e2
  refine ⟨?_, .inr (.inr ⟨_, by rw [e1, Nat.zero_add], by omega⟩)⟩
  rw [e2]
  exact ⟨rfl, rfl, rfl, by simp, fun k hk _ => Lib.alloc_old w.drew _ k hk⟩
 by_cases hroom : n + s.size ≤ cap
 ·have hcs' : cur.size = cap := by simpa using hcs
  have hr2 := Lib.run_append_room_string (P := P) w t u ty e i ht hu hi hsize g n cap cur hg s hroom (by omega)
  rw [hr] at hr2
  injection hr2 with e1 e2
  exact ⟨by rw [e1]; exact h2, .inr (.inl ⟨g, cap, rfl, e1⟩)⟩
 have holds : ∀ j u, xs[j]? = some u → w.cell? ((⟨g, 0, none⟩ : Addr).add j) = some u := hown.cells (g := g) rfl
 have hr2 := Lib.run_append_grow_string (P := P) w t u ty e i (.int .u8 0) ht hu hi hz ⟨g, 0, none⟩ n cap xs (by rw [hsize]; simpa using hxl) holds s (by omega) (by omega) (by rw [hby]; exact growslice_fits (by omega) (by omega))
 rw [hr] at hr2
 injection hr2 with e1 e2
 refine ⟨?_, .inr (.inr ⟨_, e1, by omega⟩)⟩
 rw [e2]
 exact ⟨rfl, rfl, rfl, by simp, fun k hk _ => Lib.alloc_old w.drew _ k hk⟩
end

theorem Mc {P : Program} {w w' : World} {ops : Array Oper} {rest : List Oper} {o : Oper} {a : Act} {Q : Exit → Act → World → Prop} {v v' : Value} {s : ByteArray} (hgd : o.guard = none) (sl x : Operand) (t u ty : TypeId)
  (ho : o.op = .call { callee := .builtin .append, args := #[sl, x], argTypes := #[t, u] }) (hty : o.type = ty) (hs : a.eval sl = v) (hx : a.eval x = .string s) (hrun : (Builtin.append_ #[t, u] ty #[v, .string s]).run P w = .ok v' w')
  (h : wpList P ops Q rest (a.put o.dst v') w') : wpList P ops Q (o :: rest) a w := by
 refine wpList_plain hgd fun K hK => ?_
 subst hty
 unfold Oper.wp execOp
 simp only [ho, resolve, invoke, builtin, Sem.run_bind, Sem.run_pure, Result.andThen_ok, List.map_toArray, List.map_cons, List.map_nil, hs, hx, hrun]
 exact hK _ _ h

section
variable {P : Program} {ρ : Ren}

set_option maxHeartbeats 1000000 in
set_option maxRecDepth 100000 in
/-- The check of an unused builder within a block of type T. -/
theorem eg (L : Lays.n240 P ρ) (X : Builder.X72 P ρ) {T : TypeId} (hl : liesAt P P.depth T (2 / P.cellsOf T) 0 (ρ.t 72) 1 = true) (b : Nat) (w : World) (h0 : w.cell? ⟨b, 0, none⟩ = some (.pointer none)) (hsh : w.shape? b = some (T, 2)) (hfz : w.frozen? ⟨b, 0, none⟩ = false) :
  Calls P (ρ.f 240) #[.pointer (some ⟨b, 0, none⟩)] w fun e w' => e = .returned (.tuple #[]) ∧ w' = w.setCell ⟨b, 0, none⟩ (.pointer (some ⟨b, 0, none⟩)) := by
 obtain ⟨j, hj, hjs⟩ := Option.map_eq_some_iff.1 X.sizeBuilder
 have mixed := L.mixed
 have t72 := L.t72; have a72 := L.a72; have z72 := L.z72; have v72 := L.v72; have u72 := run_underlying L.t72
 have t70 := L.t70; have a70 := L.a70; have z70 := L.z70; have v70 := L.v70; have u70 := run_underlying L.t70
 have t9 := L.t9; have a9 := L.a9; have z9 := L.z9; have v9 := L.v9; have u9 := run_underlying L.t9
 have t4 := L.t4; have a4 := L.a4; have z4 := L.z4; have v4 := L.v4; have u4 := run_underlying L.t4
 have t164 := L.t164; have a164 := L.a164; have z164 := L.z164; have v164 := L.v164; have u164 := run_underlying L.t164
 go_enter L.f240, Body.n240_ntmps ρ
 go_wp2
 rw [Lib.run_to_unsafe w ⟨b, 0, none⟩ L.t70 L.t164 hj (by rw [hjs]; decide) hsh (Nat.zero_lt_succ 1)]
 simp only [Result.andThen]
 rw [Oper.upon_value]
 go_wp2
 rw [run_callFunc_extern L.f276 (by kernel_rfl) (by kernel_rfl) (by kernel_rfl) (e := Extern.AbiNoEscape.same) (by kernel_rfl)]
 rw [Lib.run_noEscape]
 simp only [Result.andThen]
 rw [Oper.upon_value]
 go_wp2
 rw [Lib.run_from_unsafe w ⟨b, 0, none⟩ L.t164 L.t70 hj hsh hl]
 simp only [Result.andThen]
 rw [Oper.upon_value]
 go_wp2
 go_end0
 exact ⟨rfl, rfl⟩

/-- The check: behind it the first cell holds the builder's own address; nothing else turns. -/
theorem l8 (L : Lays.n240 P ρ) (X : Builder.X72 P ρ) {T e : TypeId} (hl : liesAt P P.depth T (2 / P.cellsOf T) 0 (ρ.t 72) 1 = true) (b : Nat) (p v : Value) (n : Nat) (bs : List Value) (w : World) (h : Io T e b p v n bs w) :
  Calls P (ρ.f 240) #[.pointer (some ⟨b, 0, none⟩)] w fun e' w' => e' = .returned (.tuple #[]) ∧ Io T e b (.pointer (some ⟨b, 0, none⟩)) v n bs w' ∧ w.grownBy w' (some b) ∧ w'.heap.size = w.heap.size := by
 obtain ⟨h1, hp, h3, h4⟩ := h
 rcases hp with rfl | rfl
 ·refine (eg L X hl b w (by rw [Lib.cell_of_heap h1]; rfl) (by simp [World.shape?, h1]) (Lib.frozen_of_heap h1 0)).mono ?_
  rintro e' w' ⟨rfl, rfl⟩
  have hgr : w.grownBy (w.setCell ⟨b, 0, none⟩ (.pointer (some ⟨b, 0, none⟩))) (some b) := ⟨rfl, rfl, rfl, by simp [World.setCell], fun k _ hk => Below.heap_setCell _ _ _ _ (fun e => hk (by simp [e]))⟩
  exact ⟨rfl, ⟨by simp [World.setCell, Array.getElem?_modify, h1], .inr rfl, h3.kept hgr (.inr h4), h4⟩, hgr, by simp [World.setCell]⟩
 refine (Any.Builder_copyCheck_used L X b w (by rw [Lib.cell_of_heap h1]; rfl)).mono ?_
 rintro e' w' ⟨rfl, rfl⟩
 exact ⟨rfl, ⟨h1, .inr rfl, h3, h4⟩, ⟨rfl, rfl, rfl, Nat.le_refl _, fun _ _ _ => rfl⟩, rfl⟩

set_option maxHeartbeats 1000000 in
set_option maxRecDepth 100000 in
/-- How many bytes there are. -/
theorem bldLen (L : Lays.n170 P ρ) {T e : TypeId} (b : Nat) (p v : Value) (n : Nat) (bs : List Value) (w : World) (h : Io T e b p v n bs w) :
  Calls P (ρ.f 170) #[.pointer (some ⟨b, 0, none⟩)] w fun e' w' => e' = .returned (.int .i64 n) ∧ w' = w := by
 obtain ⟨h1, _, h3, _⟩ := h
 obtain ⟨ao, cap, rfl⟩ : ∃ ao cap, v = .slice ao n cap := by
  rcases h3.2 with ⟨hv, h0⟩ | ⟨g, cap, cur, hv, _⟩
  ·exact ⟨none, 0, by rw [hv, h0]⟩
  exact ⟨_, _, hv⟩
 have c1 : w.cell? ⟨b, 1, none⟩ = some (.slice ao n cap) := by rw [Lib.cell_of_heap h1]; rfl
 have mixed := L.mixed
 have t72 := L.t72; have a72 := L.a72; have z72 := L.z72; have v72 := L.v72; have u72 := run_underlying L.t72
 have t70 := L.t70; have a70 := L.a70; have z70 := L.z70; have v70 := L.v70; have u70 := run_underlying L.t70
 have t37 := L.t37; have a37 := L.a37; have z37 := L.z37; have v37 := L.v37; have u37 := run_underlying L.t37
 have t3 := L.t3; have a3 := L.a3; have z3 := L.z3; have v3 := L.v3; have u3 := run_underlying L.t3
 go_enter L.f170, Body.n170_ntmps ρ
 go_wp2
 go_ret
 exact ⟨rfl, rfl⟩

set_option maxHeartbeats 2000000 in
set_option maxRecDepth 100000 in
/-- A text is written behind it. -/
theorem bldWrite (L : Lays.n166 P ρ) (X : Builder.Extra P ρ) {T : TypeId} (hl : liesAt P P.depth T (2 / P.cellsOf T) 0 (ρ.t 72) 1 = true) (hTe : T ≠ ρ.t 5) (b : Nat) (p v : Value) (n : Nat) (bs : List Value) (s : ByteArray) (w : World) (h : Io T (ρ.t 5) b p v n bs w)
  (hlen : n + s.size ≤ 140737488355328) :
  Calls P (ρ.f 166) #[.pointer (some ⟨b, 0, none⟩), .string s] w fun e w' => e = .returned (.tuple #[.int .i64 s.size, .nilIface]) ∧ ∃ v', Io T (ρ.t 5) b (.pointer (some ⟨b, 0, none⟩)) v' (n + s.size) (bs ++ Lib.strCells s) w' ∧
   (w'.os = w.os ∧ w'.tape = w.tape ∧ w'.output = w.output ∧ w.heap.size ≤ w'.heap.size) ∧ (∀ k, k < w.heap.size → k ≠ b → v'.ownBlock ≠ some k → w'.heap[k]? = w.heap[k]?) ∧
   ((v = .slice none 0 0 ∧ v' = v ∧ s.size = 0) ∨ (∃ g cap, v = .slice (some ⟨g, 0, none⟩) n cap ∧ v' = .slice (some ⟨g, 0, none⟩) (n + s.size) cap) ∨ ∃ cap, v' = .slice (some ⟨w.heap.size, 0, none⟩) (n + s.size) cap ∧ 0 < n + s.size) := by
 obtain ⟨i0, hi, hz0, hz1, hz2⟩ := info_parts X.infoByte
 have mixed := L.mixed
 have t72 := L.t72; have a72 := L.a72; have z72 := L.z72; have v72 := L.v72; have u72 := run_underlying L.t72
 have t70 := L.t70; have a70 := L.a70; have z70 := L.z70; have v70 := L.v70; have u70 := run_underlying L.t70
 have t37 := L.t37; have a37 := L.a37; have z37 := L.z37; have v37 := L.v37; have u37 := run_underlying L.t37
 have t3 := L.t3; have a3 := L.a3; have z3 := L.z3; have v3 := L.v3; have u3 := run_underlying L.t3
 have t9 := L.t9; have a9 := L.a9; have z9 := L.z9; have v9 := L.v9; have u9 := run_underlying L.t9
 have t4 := L.t4; have a4 := L.a4; have z4 := L.z4; have v4 := L.v4; have u4 := run_underlying L.t4
 have t164 := L.t164; have a164 := L.a164; have z164 := L.z164; have v164 := L.v164; have u164 := run_underlying L.t164
 have t5 := X.t5; have a5 := X.a5; have z5 := X.z5; have v5 := X.v5; have u5 := run_underlying X.t5
 have e240 : ∀ args w, (callFunc (ρ.f 240) args).run P w = .ok (.enter (ρ.f 240) args) w := enters_of L.f240 (by kernel_rfl) rfl
 go_enter L.f166, Body.n166_ntmps ρ
 go_wp2_with (go_at_fn (ρ.f 240); refine (l8 { L with } X.toX72 hl b p v n bs _ h).mono ?_)
 rintro e w1 ⟨rfl, ⟨hbk, _, hown, hne⟩, hg1, hs1⟩
 have c0 : w1.cell? ⟨b, 0, none⟩ = some (.pointer (some ⟨b, 0, none⟩)) := by rw [Lib.cell_of_heap hbk]; rfl
 have c1 : w1.cell? ⟨b, 1, none⟩ = some v := by rw [Lib.cell_of_heap hbk]; rfl
 obtain ⟨v', w2, hrun, hown', hgrow, hcase⟩ := ef (P := P) w1 (ty := ρ.t 37) L.t37 L.t9 hi hz0 hz1 hz2 v n bs hown s hlen
 have hlt : b < w1.heap.size := (Array.getElem?_eq_some_iff.1 hbk).1
 have hne' : v'.ownBlock ≠ some b := by
  rcases hcase with ⟨_, e1, _⟩ | ⟨g, cap, e1, e2⟩ | ⟨cap, e1, _⟩
  ·rw [e1]; exact hne
  ·rw [e2]; rw [e1] at hne; exact hne
  rw [e1]; simp [Value.ownBlock]; omega
 have hb2 : w2.heap[b]? = some (.cells #[.pointer (some ⟨b, 0, none⟩), v] T (0, 0)) := by
  rw [hgrow.block b hlt (fun e => hne' e.symm)]
  exact hbk
 have d0 : w2.cell? ⟨b, 0, none⟩ = some (.pointer (some ⟨b, 0, none⟩)) := by rw [Lib.cell_of_heap hb2]; rfl
 have d1 : w2.cell? ⟨b, 1, none⟩ = some v := by rw [Lib.cell_of_heap hb2]; rfl
 have f1 : w2.frozen? ⟨b, 1, none⟩ = false := Lib.frozen_of_heap hb2 1
 obtain ⟨ao, n', cap, rfl⟩ : ∃ ao n' cap, v' = .slice ao n' cap := by
  rcases hown'.2 with ⟨hv, _⟩ | ⟨g, cap, cur, hv, _⟩
  ·exact ⟨_, _, _, hv⟩
  exact ⟨_, _, _, hv⟩
 go_wp2_with (at_builtin; refine Mc rfl _ _ (ρ.t 37) (ρ.t 9) (ρ.t 37) rfl rfl rfl rfl hrun ?_)
 go_ret2
 refine ⟨rfl, _, ⟨by simp [World.setCell, Array.getElem?_modify, hb2], .inr rfl, hown'.kept (row := some b) ⟨rfl, rfl, rfl, by simp [World.setCell], fun k _ hk => Below.heap_setCell _ _ _ _ (fun e => hk (by simp [e]))⟩ (.inr hne'), hne'⟩, ⟨?_, ?_, ?_, ?_⟩, fun k hk hkb hkr => ?_, ?_⟩
 ·exact hgrow.os.trans hg1.os
 ·exact hgrow.tape.trans hg1.tape
 ·exact hgrow.output.trans hg1.output
 ·have := hgrow.size
  simp [World.setCell]; omega
 ·rw [Below.heap_setCell _ _ _ _ hkb, hgrow.block k (by omega) (fun e => hkr e.symm), hg1.block k hk (by simpa using hkb)]
 rw [hs1] at hcase; exact hcase

set_option maxHeartbeats 2000000 in
set_option maxRecDepth 100000 in
/-- Its text: some of its row is frozen; nothing else turns. -/
theorem bldString (L : Lays.n169 P ρ) (X : Builder.Extra P ρ) {T : TypeId} (b : Nat) (p v : Value) (l : List UInt8) (w : World) (h : Io T (ρ.t 5) b p v l.length (Lib.byteCells l) w) (hcap : ∀ g, v ≠ .slice (some ⟨g, 0, none⟩) 0 0) :
  Calls P (ρ.f 169) #[.pointer (some ⟨b, 0, none⟩)] w fun e w' => e = .returned (.string ⟨l.toArray⟩) ∧ (w'.os = w.os ∧ w'.tape = w.tape ∧ w'.output = w.output ∧ w.heap.size ≤ w'.heap.size) ∧ ∀ k, v.ownBlock ≠ some k → w'.heap[k]? = w.heap[k]? := by
 obtain ⟨hbk, _, hown, hne⟩ := h
 have mixed := L.mixed
 have t72 := L.t72; have a72 := L.a72; have z72 := L.z72; have v72 := L.v72; have u72 := run_underlying L.t72
 have t70 := L.t70; have a70 := L.a70; have z70 := L.z70; have v70 := L.v70; have u70 := run_underlying L.t70
 have t37 := L.t37; have a37 := L.a37; have z37 := L.z37; have v37 := L.v37; have u37 := run_underlying L.t37
 have t127 := L.t127; have a127 := L.a127; have z127 := L.z127; have v127 := L.v127; have u127 := run_underlying L.t127
 have t3 := L.t3; have a3 := L.a3; have z3 := L.z3; have v3 := L.v3; have u3 := run_underlying L.t3
 have t9 := L.t9; have a9 := L.a9; have z9 := L.z9; have v9 := L.v9; have u9 := run_underlying L.t9
 have t5 := X.t5; have a5 := X.a5; have z5 := X.z5; have v5 := X.v5; have u5 := run_underlying X.t5
 rcases hown.2 with ⟨rfl, h0⟩ | ⟨g, cap, cur, rfl, hbg, hg, hnc, hcm, hcs, htake⟩
 ·have hl : l = [] := List.eq_nil_of_length_eq_zero h0
  subst hl
  have hUS := Any.unsafeString_none L X
  have c1 : w.drew.cell? ⟨b, 1, none⟩ = some (.slice none 0 0) := by
   have : w.drew.heap[b]? = some (.cells #[p, .slice none 0 0] T (0, 0)) := hbk
   rw [Lib.cell_of_heap this]; rfl
  have hSD : (Builtin.unsafeSliceData_ #[(ρ.t 37)] (ρ.t 127) #[.slice none 0 0]).run P w.drew = .ok (.pointer none) w.drew := rfl
  go_enter L.f169, Body.n169_ntmps ρ
  go_wp2
  go_region_o
  all_goals (go_wp2; go_ret; exact ⟨rfl, ⟨rfl, rfl, rfl, Nat.le_refl _⟩, fun _ _ => rfl⟩)
 have hc0 : cap ≠ 0 := by
  rintro rfl
  exact hcap g (by rw [show l.length = 0 by omega])
 have c1 : w.drew.cell? ⟨b, 1, none⟩ = some (.slice (some ⟨g, 0, none⟩) l.length cap) := by
  have : w.drew.heap[b]? = some (.cells #[p, .slice (some ⟨g, 0, none⟩) l.length cap] T (0, 0)) := hbk
  rw [Lib.cell_of_heap this]; rfl
 have hSD : (Builtin.unsafeSliceData_ #[(ρ.t 37)] (ρ.t 127) #[.slice (some ⟨g, 0, none⟩) l.length cap]).run P w.drew = .ok (.pointer (some ⟨g, 0, none⟩)) w.drew :=
  Lib.run_unsafeSliceData_row _ _ _ _ _ _ hc0
 by_cases hl : l = []
 ·subst hl
  have hUS := Any.unsafeString_none L X
  clear hc0 hcap
  simp only [List.length_nil] at c1 hSD
  go_enter L.f169, Body.n169_ntmps ρ
  go_wp2
  go_region_o
  all_goals (go_wp2; go_ret; exact ⟨rfl, ⟨rfl, rfl, rfl, Nat.le_refl _⟩, fun _ _ => rfl⟩)
 have hUS : (Builtin.unsafeString_ #[(ρ.t 127), (ρ.t 3)] (ρ.t 9) #[.pointer (some ⟨g, 0, none⟩), .int .i64 l.length]).run P w.drew = .ok (.string ⟨l.toArray⟩) (w.drew.freeze ⟨g, 0, none⟩ l.length) := by
  refine Lib.run_unsafeString_row w.drew (ρ.t 127) (ρ.t 3) (ρ.t 9) (ρ.t 5) L.t127 X.cellsByte g cur.size (by have hg' : w.drew.heap[g]? = some (.cells cur (ρ.t 5) (0, 0)) := hg; simp [World.shape?, hg']) l hl (by omega) (by unfold maxLen at hcm; omega) ?_
  intro j x hx
  exact hown.cells (g := g) rfl j (.int .u8 x.toNat) (by simp [Lib.byteCells, hx])
 have hfz : ∀ k, g ≠ k → (w.drew.freeze ⟨g, 0, none⟩ l.length).heap[k]? = w.heap[k]? := fun k hk => by
  unfold World.freeze
  split
  ·rfl
  show (w.heap.modify g _)[k]? = _
  rw [Array.getElem?_modify, if_neg hk]
 have hfs : (w.drew.freeze ⟨g, 0, none⟩ l.length).heap.size = w.heap.size := by
  unfold World.freeze
  split
  ·rfl
  show (w.heap.modify g _).size = _
  simp
 have hfo : (w.drew.freeze ⟨g, 0, none⟩ l.length).os = w.os ∧ (w.drew.freeze ⟨g, 0, none⟩ l.length).tape = w.tape ∧ (w.drew.freeze ⟨g, 0, none⟩ l.length).output = w.output := by
  unfold World.freeze
  split <;> exact ⟨rfl, rfl, rfl⟩
 clear hc0 hcap
 go_enter L.f169, Body.n169_ntmps ρ
 go_wp2
 go_region_o
 all_goals (go_wp2; go_ret; exact ⟨rfl, ⟨hfo.1, hfo.2.1, hfo.2.2, Nat.le_of_eq hfs.symm⟩, fun k hk => hfz k (fun e => hk (by rw [e]; rfl))⟩)
end
end Go.Proofs

namespace Go.SX.Nb
open Go Go.SX Go.Proofs Go.Shelf
variable [ErrAt]
set_option maxRecDepth 8000
/-! show's builder. -/
theorem x8 : Builder.Extra Tryz.prog Tryz.ren155 where
 sizeBuilder := by kernel_rfl
 liesBuilder := by kernel_rfl
 t5 := Tryz.underlying5
 a5 := Tryz.isAgg5
 z5 := Tryz.sizeOf5
 v5 := Tryz.zeroValue5
 infoByte := by kernel_rfl
 cellsByte := by kernel_rfl
 sizeByte := by kernel_rfl
 neB5 := by decide
theorem ph : liesAt Tryz.prog Tryz.prog.depth 109 (2 / Tryz.prog.cellsOf 109) 0 107 1 = true := by kernel_rfl
abbrev Pk (bs : Str) : AObj := .bld 109 5 bs
theorem Br {n : Nat} {bs : Str} : ObjLow n (Pk bs) := trivial
/-- (*strings.Builder).WriteString. -/
theorem Pl (bs s : Str) (hl : bs.length + s.length ≤ 140737488355328) (o : Nat) (Hp : List AObj) (ho : Hp[o]? = some (Pk bs)) :
  ACall Tryz.prog 102 [.ptr o 0, A6 s] Hp (fun r H' => r = .tup [A2 s.length, .v .nilIface] ∧ H' = Hp.set o (Pk (bs ++ s))) := by
 refine ACall.bldWrite ho (fun b p v w h => ?_)
 have hw := bldWrite Tryz.lays166 x8 (T := 109) ph (by decide) b p v bs.length (Lib.byteCells bs) ⟨s.toArray⟩ w h (by rw [D6]; exact hl)
 rw [D6, Lib.strCells_eq, ← Lib.byteCells_append] at hw
 exact hw
/-- (*strings.Builder).Len. -/
theorem c72 (bs : Str) (o : Nat) (Hp : List AObj) (ho : Hp[o]? = some (Pk bs)) : AFun Tryz.prog 72 [.ptr o 0] Hp (A2 bs.length) :=
 AFun.bldLen ho (fun b p v w h => bldLen Tryz.lays170 (T := 109) (e := 5) b p v _ _ w h)
/-- (*strings.Builder).String. -/
theorem c73 (bs : Str) (o : Nat) (Hp : List AObj) (ho : Hp[o]? = some (Pk bs)) : ACall Tryz.prog 73 [.ptr o 0] Hp (fun r H' => r = A6 bs ∧ H' = Hp.set o (.cells 109 [.any, .any])) :=
 ACall.bldString ho (fun b p v w h hc => bldString (ρ := Tryz.ren155) { Tryz.lays155 with } x8 (T := 109) b p v bs w h hc)
end Go.SX.Nb
namespace Go.SX.Nb
open Go Go.SX Go.Proofs
variable [ErrAt]
set_option maxRecDepth 4000
abbrev qh : AV := .v (.tuple #[])
abbrev Eo : Nat := 1099511627776
/-- What node writes. -/
def l9 (e : Expr) : Prop := ∀ (o : Nat) (bs : Str) (Hp : List AObj), Hp[o]? = some (Pk bs) → bs.length + (Ae e).length ≤ Eo → ACall Tryz.prog 71 [.ptr o 0, A3 e] Hp (fun r H' => r = qh ∧ H' = Hp.set o (Pk (bs ++ Ae e)))
theorem eh (e : Expr) : Ae e = Lj e.op e.text e.val e.kids (e.kids.map Ae) := by
 cases e with
 | mk o t v k => rw [Ae, Kj]; rfl
theorem pi {k : List Expr} {i : Nat} (h : i < k.length) : (k.map Ae).getD i [] = Ae (k.getD i Aa) := by
 rw [List.getD_eq_getElem?_getD, List.getD_eq_getElem?_getD, List.getElem?_map, List.getElem?_eq_getElem h]
 rfl
theorem Ro (l : List Str) (s : Str) : En (l ++ [s]) = En l ++ (44 :: 32 :: s) := by
 induction l with
 | nil => simp [En]
 | cons a r ih => simp [En, ih]
theorem la {k : List Expr} {x : Nat} (h : x < k.length) : (En ((k.take (x + 1)).map Ae)).drop 2 = (En ((k.take x).map Ae)).drop 2 ++ (if 0 < x then [44, 32] else []) ++ Ae k[x] := by
 rw [List.take_succ_eq_append_getElem h, List.map_append, List.map_singleton, Ro]
 cases x with
 | zero => simp [En]
 | succ x =>
  have : 2 ≤ (En ((k.take (x + 1)).map Ae)).length := by
   rw [List.take_succ_eq_append_getElem (by omega), List.map_append, List.map_singleton, Ro]
   simp
   omega
  rw [List.drop_append_of_le_length this, if_pos (by omega)]
  simp
theorem sy {k : List Expr} (x : Nat) : (En ((k.take x).map Ae)).length ≤ (En (k.map Ae)).length := by
 have : k.map Ae = (k.take x).map Ae ++ (k.drop x).map Ae := by rw [← List.map_append, List.take_append_drop]
 rw [this]
 have : ∀ a b : List Str, (En a).length ≤ (En (a ++ b)).length := by
  intro a b
  induction a with
  | nil => simp [En]
  | cons c r ih => simp [En]; exact ih
 exact this _ _
theorem W4 {H : List AObj} {o : Nat} {a b : AObj} : (H.set o a).set o b = H.set o b := List.set_set _
theorem ek (e : Expr) (he : l9 e) (hlev : Yb e = (levE e : Int)) (least : Nat) (l0 : Int) (hl0 : l0 = (least : Int)) (o : Nat) (bs : Str) (Hp : List AObj) (ho : Hp[o]? = some (Pk bs)) (hb : bs.length + (I8 least e (Ae e)).length ≤ Eo) : ACall Tryz.prog 104 [.ptr o 0, A3 e, A2 l0] Hp (fun r H' => r = qh ∧ H' = Hp.set o (Pk (bs ++ I8 least e (Ae e)))) := by
 subst hl0
 refine ACall.body [] [0, 1, 2] Tryz.func104 Tryz.ntmps104 (fun d => ?_)
 refine Z0 ?_;refine R.fin [0, 2, 4] ?_;refine Z34 ?_;refine R.call Tryz.call101 (x7 e _) ?_;refine Z1 ?_;refine R.fin [0, 4, 9] ?_
 refine W.cond (fun ht9 => ?_) (fun ht9 => ?_)
 ·have hz : least ≤ levE e := by
   have h := ht9
   rw [hlev] at h
   simpa using h
  rw [show I8 least e (Ae e) = Ae e from if_pos hz] at hb ⊢
  refine Z4 ?_;refine R.callUp Tryz.call71 ho (by simp) Br (he o bs _ (A5 ho) (by omega)) ?_;refine R.fin [] ?_;refine Z23 ?_;exact K.fin .nores ⟨rfl, by simp⟩
 have hz : ¬ least ≤ levE e := by
  have h := ht9
  rw [hlev] at h
  simpa using h
 rw [show I8 least e (Ae e) = 40 :: (Ae e ++ [41]) from if_neg hz] at hb ⊢
 simp only [List.length_cons, List.length_append, List.length_nil, Eo] at hb
 refine Lp ?_
 refine R.callUp Tryz.call102 ho (by simp) Br (Pl bs [40] (by simp only [Eo, List.length_append, List.length_cons, List.length_nil] at *; omega) o _ (A5 ho)) ?_
 refine R.fin [0, 4] ?_;refine Z4 ?_
 refine R.callUp Tryz.call71 (getset ho) (by simp) Br (he o (bs ++ [40]) _ (A5 (getset ho)) (by simp only [Eo, List.length_append, List.length_cons, List.length_nil] at *; omega)) ?_
 refine R.fin [0] ?_;refine Z35 ?_
 refine R.callUp Tryz.call102 (getset (getset ho)) (by simp) Br (Pl (bs ++ [40] ++ Ae e) [41] (by simp only [Eo, List.length_append, List.length_cons, List.length_nil] at *; omega) o _ (A5 (getset (getset ho)))) ?_
 refine R.fin [] ?_;exact K.finN .nores ⟨rfl, by simp⟩

theorem c71 : ∀ (n : Nat) (e : Expr), okE n e → Cf C2 e = true → Cf Fp e = true → l9 e := by
 intro n
 induction n with
 | zero => exact fun e h => h.elim
 | succ n ih =>
 intro e hok hnd hrg o bs Hp ho hb
 have hnd0 := hnd
 have hrg0 := hrg
 rw [D9, Bool.and_eq_true] at hnd0 hrg0
 have hev : ∀ y ∈ e.kids, l9 y := fun y hy => ih y (hok.2.2 y hy) ((Cv _ _).1 hnd0.2 y hy) ((Cv _ _).1 hrg0.2 y hy)
 have hlv : ∀ y ∈ e.kids, Yb y = (levE y : Int) := fun y hy => Zw (by have := (Cv _ _).1 hnd0.2 y hy; rw [D9, Bool.and_eq_true] at this; exact this.1)
 obtain ⟨k5, k34, k6, kall⟩ := l7 hnd0.1
 have hi64 : mu e.val.n := by
  have := hrg0.1
  simp only [Fp, Bool.and_eq_true, decide_eq_true_eq] at this
  exact this
 have hlv0 := Zw hnd0.1
 have pe := eh e
 have hol := (List.getElem?_eq_some_iff.1 ho).1
 unfold Lj at pe
 refine ACall.body [] [0, 1] Tryz.func71 Tryz.ntmps71 (fun d => ?_)
 refine Z0 ?_;refine H5 ?_;refine Z0 ?_;refine R.call Tryz.call101 (x7 e _) ?_;refine R.go ?_;refine R.fin [0, 3, 4] ?_;refine Z4 ?_;refine R.fin [0, 3, 4, 11] ?_;refine Z87 ?_;refine R.fin [0, 3, 4, 11, 12] ?_
 refine W.cond (fun ht12 => ?_) (fun ht12 => ?_)
 ·rw [if_pos ht12] at pe
  refine W.drawQ0 [0, 1, 3, 0, 8, 24, 63] 6 Ad (by kernel_rfl) ?_;refine U8 ?_;refine D.call Tryz.call103 (w5 e.val hi64 _) ?_;refine D.tail ?_
  refine R.callUp Tryz.call102 ho (by simp) Br (Pl bs (E1 e.val) (by rw [pe] at hb; simp only [Eo] at hb; omega) o _ (A5 ho)) ?_
  exact Z60
 rw [if_neg (by rw [ht12]; simp)] at pe
 refine Z4 ?_;refine R.fin [0, 3, 4, 11, 21] ?_
 refine W.cond (fun ht21 => ?_) (fun ht21 => ?_)
 ·rw [if_pos ht21] at pe
  refine W.drawQ0 [0, 1, 3, 0, 8, 31] 5 Ad (by kernel_rfl) ?_;refine U8 ?_;refine D.tail ?_
  refine R.callUp Tryz.call102 ho (by simp) Br (Pl bs e.text (by rw [pe] at hb; simp only [Eo] at hb; omega) o _ (A5 ho)) ?_
  exact Z60
 rw [if_neg (by rw [ht21]; simp)] at pe
 refine Z4 ?_;refine R.fin [0, 3, 4, 11, 29] ?_
 refine W.cond (fun ht29 => ?_) (fun ht29 => ?_)
 ·rw [if_pos ht29] at pe
  have hkl := k34 (.inl (by simpa using ht29))
  rw [pi (by omega)] at pe
  rw [pe] at hb
  simp only [List.length_cons, Eo] at hb
  refine Z7 ?_
  refine R.callUp Tryz.call102 ho (by simp) Br (Pl bs [45] (by simp only [Eo, List.length_append, List.length_cons, List.length_nil] at *; omega) o _ (A5 ho)) ?_
  refine H5 ?_;refine Z35 ?_
  refine R.go (h := Q.indexAddr (0) (A3 (e.kids.getD 0 Aa)) (fun _ => (I9 (by omega)).1)) (hr := ?_)
  refine R.go ?_
  refine R.callUp Tryz.call104 (getset ho) (by simp) Br (ek (e.kids.getD 0 Aa) (hev _ (I9 (by omega)).2.1) (hlv _ (I9 (by omega)).2.1) (6) _ (rfl) o (bs ++ [45]) _ (A5 (getset ho)) (by simp only [Eo, List.length_append, List.length_cons, List.length_nil] at *; omega)) ?_
  exact Z60
 rw [if_neg (by rw [ht29]; simp)] at pe
 refine Z4 ?_;refine R.fin [0, 3, 4, 11, 41] ?_
 refine W.cond (fun ht41 => ?_) (fun ht41 => ?_)
 ·rw [if_pos ht41] at pe
  have hkl := k34 (.inr (by simpa using ht41))
  rw [pi (by omega)] at pe
  rw [pe] at hb
  simp only [List.length_cons, List.length_append, d7, List.length_nil, Eo] at hb
  refine Z7 ?_
  refine R.callUp Tryz.call102 ho (by simp) Br (Pl bs [110, 111, 116, 32] (by simp only [Eo, List.length_append, List.length_cons, List.length_nil] at *; omega) o _ (A5 ho)) ?_
  refine H5 ?_;refine Z35 ?_
  refine R.go (h := Q.indexAddr (0) (A3 (e.kids.getD 0 Aa)) (fun _ => (I9 (by omega)).1)) (hr := ?_)
  refine R.go ?_
  refine R.callUp Tryz.call104 (getset ho) (by simp) Br (ek (e.kids.getD 0 Aa) (hev _ (I9 (by omega)).2.1) (hlv _ (I9 (by omega)).2.1) (2) _ (rfl) o (bs ++ [110, 111, 116, 32]) _ (A5 (getset ho)) (by simp only [Eo, List.length_append, List.length_cons, List.length_nil] at *; omega)) ?_
  exact Z60
 rw [if_neg (by rw [ht41]; simp)] at pe
 refine Z4 ?_;refine R.fin [0, 3, 4, 11, 53] ?_
 refine W.cond (fun ht53 => ?_) (fun ht53 => ?_)
 ·rw [if_pos ht53] at pe
  have h5 : e.op = 5 := by simpa using ht53
  have hkl := k5 h5
  have hlv5 : levE e = (Aq e.text).toNat := by simp [levE, h5]
  have hl5 := jv e.text
  rw [pi (by omega), pi (by omega)] at pe
  rw [pe] at hb
  simp only [List.length_cons, List.length_append, Eo] at hb
  rw [hlv0, hlv5]
  refine Z4 ?_;refine R.fin [0, 3, 4, 5] ?_;refine Z28 ?_;refine R.fin [0, 3, 4, 5, 57] ?_
  refine W.cond (fun ht57 => ?_) (fun ht57 => ?_)
  ·have h3 : (Aq e.text).toNat = 3 := by have := ht57; simp at this; omega
   have hf1 : (((Aq e.text).toNat : Int) + 1) = ((Ez (Aq e.text).toNat : Nat) : Int) := by rw [h3]; rfl
   refine Z35 ?_;refine R.fin [0, 3, 4, 5] ?_;refine K.thN ?_;refine Z7 ?_
   refine R.go (h := Q.indexAddr (0) (A3 (e.kids.getD 0 Aa)) (fun _ => (I9 (by omega)).1)) (hr := ?_)
   refine Z1 ?_
   refine R.callUp Tryz.call104 ho (by simp) Br (ek (e.kids.getD 0 Aa) (hev _ (I9 (by omega)).2.1) (hlv _ (I9 (by omega)).2.1) (Ez (Aq e.text).toNat) _ (by first | exact hf1 | rw [hf2]) o (bs) _ (A5 ho) (by simp only [Eo, List.length_append, List.length_cons, List.length_nil] at *; omega)) ?_
   refine ut ?_;refine U8 ?_
   refine D.go (h := Q.sadd (hl := fun _ => by simp only [List.length_cons, List.length_nil]; omega)) (hr := ?_)
   refine D.go (h := Q.sadd (hl := fun _ => by simp only [List.length_cons, List.length_nil, List.length_append]; omega)) (hr := ?_)
   refine D.tail ?_
   refine R.callUp Tryz.call102 (getset ho) (by simp) Br (Pl (bs ++ I8 (Ez (Aq e.text).toNat) (e.kids.getD 0 Aa) (Ae (e.kids.getD 0 Aa))) (32 :: (e.text ++ [32])) (by simp only [Eo, List.length_append, List.length_cons, List.length_nil] at *; omega) o _ (A5 (getset ho))) ?_
   refine R.fin [0, 3, 4] ?_;refine Z35 ?_
   refine R.go (h := Q.indexAddr (1) (A3 (e.kids.getD 1 Aa)) (fun _ => (I9 (by omega)).1)) (hr := ?_)
   refine Z25 ?_
   refine R.callUp Tryz.call104 (getset (getset ho)) (by simp) Br (ek (e.kids.getD 1 Aa) (hev _ (I9 (by omega)).2.1) (hlv _ (I9 (by omega)).2.1) ((Aq e.text).toNat + 1) _ (by first | rfl | (push_cast; rfl)) o (bs ++ I8 (Ez (Aq e.text).toNat) (e.kids.getD 0 Aa) (Ae (e.kids.getD 0 Aa)) ++ 32 :: (e.text ++ [32])) _ (A5 (getset (getset ho))) (by simp only [Eo, List.length_append, List.length_cons, List.length_nil] at *; omega)) ?_
   exact Z60
  have h3 : (Aq e.text).toNat ≠ 3 := by have := ht57; simp at this; omega
  have hf2 : Ez (Aq e.text).toNat = (Aq e.text).toNat := by unfold Ez; rw [if_neg h3]
  refine Lp ?_
  refine R.go (h := Q.indexAddr (0) (A3 (e.kids.getD 0 Aa)) (fun _ => (I9 (by omega)).1)) (hr := ?_)
  refine Z1 ?_
  refine R.callUp Tryz.call104 ho (by simp) Br (ek (e.kids.getD 0 Aa) (hev _ (I9 (by omega)).2.1) (hlv _ (I9 (by omega)).2.1) (Ez (Aq e.text).toNat) _ (by first | exact hf1 | rw [hf2]) o (bs) _ (A5 ho) (by simp only [Eo, List.length_append, List.length_cons, List.length_nil] at *; omega)) ?_
  refine ut ?_;refine U8 ?_
  refine D.go (h := Q.sadd (hl := fun _ => by simp only [List.length_cons, List.length_nil]; omega)) (hr := ?_)
  refine D.go (h := Q.sadd (hl := fun _ => by simp only [List.length_cons, List.length_nil, List.length_append]; omega)) (hr := ?_)
  refine D.tail ?_
  refine R.callUp Tryz.call102 (getset ho) (by simp) Br (Pl (bs ++ I8 (Ez (Aq e.text).toNat) (e.kids.getD 0 Aa) (Ae (e.kids.getD 0 Aa))) (32 :: (e.text ++ [32])) (by simp only [Eo, List.length_append, List.length_cons, List.length_nil] at *; omega) o _ (A5 (getset ho))) ?_
  refine R.fin [0, 3, 4] ?_;refine Z35 ?_
  refine R.go (h := Q.indexAddr (1) (A3 (e.kids.getD 1 Aa)) (fun _ => (I9 (by omega)).1)) (hr := ?_)
  refine Z25 ?_
  refine R.callUp Tryz.call104 (getset (getset ho)) (by simp) Br (ek (e.kids.getD 1 Aa) (hev _ (I9 (by omega)).2.1) (hlv _ (I9 (by omega)).2.1) ((Aq e.text).toNat + 1) _ (by first | rfl | (push_cast; rfl)) o (bs ++ I8 (Ez (Aq e.text).toNat) (e.kids.getD 0 Aa) (Ae (e.kids.getD 0 Aa)) ++ 32 :: (e.text ++ [32])) _ (A5 (getset (getset ho))) (by simp only [Eo, List.length_append, List.length_cons, List.length_nil] at *; omega)) ?_
  exact Z60
 rw [if_neg (by rw [ht53]; simp)] at pe
 refine Z4 ?_;refine R.fin [0, 3, 83] ?_
 refine W.cond (fun ht83 => ?_) (fun ht83 => ?_)
 ·have hsl : ∀ x, ((En ((e.kids.take x).map Ae)).drop 2).length ≤ ((En (e.kids.map Ae)).drop 2).length := fun x => by have := sy (k := e.kids) x; rw [List.length_drop, List.length_drop]; omega
  have hkl6 := hok.2.1
  rw [pe] at hb
  simp only [List.length_cons, List.length_append, List.length_nil, Eo] at hb
  refine W.drawQ [0, 1, 3, 0, 8, 24, 63] 6 Ad (by kernel_rfl) ?_;refine U8 ?_
  refine D.go (h := Q.sadd (hl := fun _ => by simp only [List.length_cons, List.length_nil]; omega)) (hr := ?_)
  refine D.tail ?_
  refine R.callUp Tryz.call102 ho (by simp) Br (Pl bs (e.text ++ [40]) (by simp only [Eo, List.length_append, List.length_cons, List.length_nil] at *; omega) o _ (A5 ho)) ?_
  refine H5 ?_;refine Z46 ?_;refine R.fin [0, 93, 94, 95] ?_
  refine AW.loopC (α := Nat) (fun x => ⟨114, A4 0 (.ptr o 0) (A4 93 (.slice false 6 (e.kids.map A3)) (A4 94 (A2 (e.kids.length : Nat)) (A4 95 (A2 (x : Nat)) (fun _ => .any)))), Hp.set o (Pk (bs ++ (e.text ++ [40]) ++ (En ((e.kids.take x).map Ae)).drop 2)), [], [], none⟩) (fun x => x ≤ e.kids.length) (fun x => e.kids.length - x) (0) (Nat.zero_le _) (StLe.of_eq (by simp [En])) rfl (fun x hx => ?_)
  refine Z0 ?_;refine R.fin [0, 93, 94, 95, 96] ?_
  refine W.condX (fun ht96 => ?_) (fun ht96 => ?_)
  ·have hlt : x < e.kids.length := by simpa using ht96
   have hst := la hlt
   have hsl1 := hsl (x + 1)
   have hslx := hsl x
   refine Nh ?_
   refine R.go (h := Q.indexAddr (x) (A3 e.kids[x]) (fun _ => Ak hlt)) (hr := ?_)
   refine bh ?_;refine R.fin [0, 6, 7, 93, 94, 95] ?_;refine Z28 ?_;refine R.fin [0, 7, 93, 94, 95, 101] ?_
   refine W.cond (fun ht101 => ?_) (fun ht101 => ?_)
   ·have h0x : 0 < x := by simpa using ht101
    rw [if_pos h0x] at hst
    have hstl := congrArg List.length hst
    simp only [List.length_append, List.length_cons, List.length_nil] at hstl
    refine Z35 ?_
    refine R.callUp Tryz.call102 (getset ho) (by simp) Br (Pl (bs ++ (e.text ++ [40]) ++ (En ((e.kids.take x).map Ae)).drop 2) [44, 32] (by simp only [Eo, List.length_append, List.length_cons, List.length_nil] at *; omega) o _ (A5 (getset ho))) ?_
    refine R.fin [0, 7, 93, 94, 95] ?_;refine K.thN ?_;refine Z13 ?_
    first | refine R.callUp Tryz.call71 (getset ho) (by simp) Br (hev _ (List.getElem_mem hlt) o (bs ++ (e.text ++ [40]) ++ (En ((e.kids.take x).map Ae)).drop 2) _ (A5 (getset ho)) (by simp only [Eo, List.length_append, List.length_cons, List.length_nil] at *; omega)) ?_ | refine R.callUp Tryz.call71 (getset (getset ho)) (by simp) Br (hev _ (List.getElem_mem hlt) o (bs ++ (e.text ++ [40]) ++ (En ((e.kids.take x).map Ae)).drop 2 ++ [44, 32]) _ (A5 (getset (getset ho))) (by simp only [Eo, List.length_append, List.length_cons, List.length_nil] at *; omega)) ?_
    refine R.fin [0, 93, 94, 95] ?_;refine Ng ?_;refine R.fin [0, 93, 94, 95] ?_;refine bt ?_
    simp only [hst, W4, List.append_assoc, List.append_nil]
    exact StCut.take (own := []) (fun _ => .refl _) (by repeat (first | exact Ap | refine Ao (by first | exact Bb | exact T8 | (simp [or_imp, forall_and, oid] <;> omega)) ?_)) (by simp) (by simp)
   have h0x : ¬ 0 < x := by simpa using ht101
   rw [if_neg h0x] at hst
   have hstl := congrArg List.length hst
   simp only [List.length_append, List.length_cons, List.length_nil] at hstl
   refine Z6 ?_;refine Z13 ?_
   first | refine R.callUp Tryz.call71 (getset ho) (by simp) Br (hev _ (List.getElem_mem hlt) o (bs ++ (e.text ++ [40]) ++ (En ((e.kids.take x).map Ae)).drop 2) _ (A5 (getset ho)) (by simp only [Eo, List.length_append, List.length_cons, List.length_nil] at *; omega)) ?_ | refine R.callUp Tryz.call71 (getset (getset ho)) (by simp) Br (hev _ (List.getElem_mem hlt) o (bs ++ (e.text ++ [40]) ++ (En ((e.kids.take x).map Ae)).drop 2 ++ [44, 32]) _ (A5 (getset (getset ho))) (by simp only [Eo, List.length_append, List.length_cons, List.length_nil] at *; omega)) ?_
   refine R.fin [0, 93, 94, 95] ?_;refine Ng ?_;refine R.fin [0, 93, 94, 95] ?_;refine bt ?_
   simp only [hst, W4, List.append_assoc, List.append_nil]
   exact StCut.take (own := []) (fun _ => .refl _) (by repeat (first | exact Ap | refine Ao (by first | exact Bb | exact T8 | (simp [or_imp, forall_and, oid] <;> omega)) ?_)) (by simp) (by simp)
  have hxe : e.kids.take x = e.kids := List.take_of_length_le (by simp at ht96; omega)
  have hslx := hsl x
  refine Z27 ?_;refine Z35 ?_
  refine R.callUp Tryz.call102 (getset ho) (by simp) Br (Pl (bs ++ (e.text ++ [40]) ++ (En ((e.kids.take x).map Ae)).drop 2) [41] (by simp only [Eo, List.length_append, List.length_cons, List.length_nil] at *; omega) o _ (A5 (getset ho))) ?_
  refine Z53 ?_;exact K.finN .nores ⟨rfl, by rw [pe, hxe] <;> simp⟩
 exfalso
 have h6 := kall
 simp at ht12 ht21 ht29 ht41 ht53 ht83
 omega

set_option maxRecDepth 8000
/-! How long a print is. -/
theorem Yc {v : Val} (hp : D8 v = true) (hi : mu v.n) : (E1 v).length ≤ 402 := by
 unfold E1
 rw [hp]
 simp only [Bool.not_true, Bool.false_eq_true, if_false]
 split
 ·have := Lib.itoa_length_le v.n hi.1 hi.2
  omega
 split
 ·rename_i h1 h2
  rw [My]
  have h3 := V6 v.s
  have h4 : v.s.length ≤ 200 := by
   have k2 : v.kind = 2 := by simpa using h2
   simp [D8, k2] at hp
   omega
  simp
  omega
 split
 ·simp
 split <;> simp
theorem Nq (k : Nat) (x : Expr) (s : Str) : (I8 k x s).length ≤ s.length + 2 := by
 unfold I8
 split <;> simp
theorem W5 {t : Str} (h : 0 ≤ Aq t) : t.length ≤ 3 := by
 rcases J0 t with hm | ⟨hm, _⟩
 ·have h3 : (levels.flatten.all fun s => decide (s.length ≤ 3)) = true := by kernel_rfl
  exact of_decide_eq_true (List.all_eq_true.1 h3 t hm)
 omega
theorem Pm {t : Str} {n : Nat} (h : Ay t = (n : Int)) : t.length ≤ 6 := by
 rcases Pj h with ⟨e, _⟩ | ⟨e, _⟩ | ⟨e, _⟩ | ⟨e, _⟩ | ⟨e, _⟩ | ⟨e, _⟩ | ⟨e, _⟩ | ⟨e, _⟩ <;> rw [e] <;> decide
theorem lb {k : List Expr} (h : ∀ y ∈ k, (Ae y).length + 10 ≤ 440 * sizeE y) : (En (k.map Ae)).length ≤ 440 * Ah k := by
 induction k with
 | nil => simp [En]
 | cons y r ih =>
  have h1 := h y List.mem_cons_self
  have h2 := ih (fun z hz => h z (List.mem_cons_of_mem _ hz))
  simp only [List.map_cons, En, Ah, List.length_cons, List.length_append]
  omega
theorem Rp : ∀ (n : Nat) (e : Expr), sizeE e ≤ n → Cf C2 e = true → Cf Fp e = true → (Ae e).length + 10 ≤ 440 * sizeE e
 | 0, e, h, _, _ => by rw [Ev] at h; omega
 | n + 1, e, h, hn, hr => by
  rw [D9, Bool.and_eq_true] at hn hr
  have hk : ∀ y ∈ e.kids, (Ae y).length + 10 ≤ 440 * sizeE y := fun y hy => by
   obtain ⟨i, hi⟩ := List.getElem?_of_mem hy
   obtain ⟨hlt, rfl⟩ := List.getElem?_eq_some_iff.1 hi
   exact Rp n _ (by have := Uo e hlt; omega) ((Cv _ _).1 hn.2 _ hy) ((Cv _ _).1 hr.2 _ hy)
  have hi : mu e.val.n := by
   have := hr.1
   simp only [Fp, Bool.and_eq_true, decide_eq_true_eq] at this
   exact this
  rw [Ev]
  cases Fg hn.1 with
  | val v hp h0 =>
   rw [su]
   have := Yc hp (v := v) hi
   simp only [I7, Expr.kids, Ah]
   omega
  | name t ht =>
   rw [pc]
   have : t.length ≤ 16 := by
    cases t with
    | nil => simp
    | cons c r =>
     simp only [El, Bool.and_eq_true, decide_eq_true_eq] at ht
     exact ht.1.1.1
   simp only [Aj, Expr.kids, Ah]
   omega
  | neg a =>
   rw [sw]
   have h1 := Nq 6 a (Ae a)
   have h2 := hk a (by simp [Em, Expr.kids])
   simp only [Em, Expr.kids, Ah, List.length_cons]
   omega
  | no a =>
   rw [x6]
   have h1 := Nq 2 a (Ae a)
   have h2 := hk a (by simp [Em, Expr.kids])
   simp only [Em, Expr.kids, Ah, List.length_cons, List.length_append, d7, List.length_nil]
   omega
  | bin t a b ht =>
   rw [sx]
   have h1 := Nq (Ez (Aq t).toNat) a (Ae a)
   have h2 := Nq ((Aq t).toNat + 1) b (Ae b)
   have h3 := hk a (by simp [Gq, Expr.kids])
   have h4 := hk b (by simp [Gq, Expr.kids])
   have h5 := W5 ht
   simp only [Gq, Expr.kids, Ah, List.length_cons, List.length_append]
   omega
  | call t k ha =>
   rw [pg]
   have h1 := Pm ha
   have h2 := lb (k := k) hk
   rw [← Kj] at h2
   simp only [Expr.kids, List.length_cons, List.length_append, List.length_drop, List.length_nil]
   omega
theorem W6 {e : Expr} (hr : Ai e = true) (hg : Cf Fp e = true) : (Ae e).length ≤ 132000 := by
 have h1 := E3 hr
 have h2 : sizeE e ≤ 300 := by
  unfold Ai at hr
  simp only [Bool.and_eq_true, decide_eq_true_eq] at hr
  exact hr.1.2
 have := Rp _ e (Nat.le_refl _) h1 hg
 omega
set_option maxRecDepth 4000
theorem Yd {e : Expr} (h : C2 e = true) : e.text.length ≤ 16 ∧ e.kids.length ≤ 8 := by
 cases Fg h with
 | val v hp h0 => exact ⟨by simp [I7, Expr.text], by simp [I7, Expr.kids]⟩
 | name t ht =>
  refine ⟨?_, by simp [Aj, Expr.kids]⟩
  show t.length ≤ 16
  cases t with
  | nil => simp
  | cons c r =>
   simp only [El, Bool.and_eq_true, decide_eq_true_eq] at ht
   exact ht.1.1.1
 | neg a => exact ⟨by simp [Em, Expr.text], by simp [Em, Expr.kids]⟩
 | no a => exact ⟨by simp [Em, Expr.text], by simp [Em, Expr.kids]⟩
 | bin t a b ht => exact ⟨by have := W5 ht; show t.length ≤ 16; omega, by simp [Gq, Expr.kids]⟩
 | call t k ha =>
  refine ⟨by have := Pm ha; show t.length ≤ 16; omega, ?_⟩
  show k.length ≤ 8
  rcases Pj ha with ⟨_, e⟩ | ⟨_, e⟩ | ⟨_, e⟩ | ⟨_, e⟩ | ⟨_, e⟩ | ⟨_, e⟩ | ⟨_, e⟩ | ⟨_, e⟩ <;> omega
theorem Rq : ∀ {l : List Expr} {y : Expr}, y ∈ l → depthE y ≤ C6 l
 | a :: r, y, h => by
  rw [C6]
  rcases List.mem_cons.1 h with rfl | h
  ·omega
  have := Rq h
  omega
theorem Zx : ∀ (n : Nat) (e : Expr), depthE e ≤ n → Cf C2 e = true → okE n e
 | 0, e, h, _ => by rw [Jg] at h; omega
 | n + 1, e, h, hn => by
  rw [D9, Bool.and_eq_true] at hn
  rw [Jg] at h
  have hs := Yd hn.1
  refine ⟨by omega, by omega, fun y hy => Zx n y (by have := Rq hy; omega) ((Cv _ _).1 hn.2 y hy)⟩
theorem Hf {e : Expr} (h : Ai e = true) : okE 30 e ∧ sizeE e ≤ 300 := by
 have h1 := E3 h
 unfold Ai at h
 simp only [Bool.and_eq_true, decide_eq_true_eq] at h
 exact ⟨Zx 30 e h.1.1 h1, h.1.2⟩
theorem c42 (n : Nat) (e : Expr) (hok : okE n e) (hn : n ≤ 1048576) (hg : Cf Fp e = true) (Hp : List AObj) : AFun Tryz.prog 42 [A3 e] Hp (.tup [A6 (N5 e).1, A2 (N5 e).2]) := by
 refine ACall.body [.tmp 2, .tmp 3] [0] Tryz.func42 Tryz.ntmps42 (fun d => ?_)
 refine Z7 ?_;refine R.fin [1] ?_;refine Z34 ?_;refine R.call Tryz.call44 (c44 n e hok hn _) ?_;refine R.go ?_;refine R.fin [1, 7] ?_
 refine W.cond (fun ht7 => ?_) (fun ht7 => ?_)
 ·have hsh : N5 e = ([], 1) := if_pos ht7
  refine Z4 ?_;refine Et ?_;exact ue
 have hnr : ¬ (!(Am e)) = true := by rw [ht7]; simp
 have hr : Ai e = true := by rw [← E8]; simpa using ht7
 have hps := W6 hr hg
 refine U5 ?_;refine R.build (places := #[(0, 2)]) jU (fun w => by simp) jZ ?_;refine R.box ?_;refine R.go ?_;refine R.fin [1, 4] ?_;refine Cs ?_;refine R.toBld 0 109 5 ?_;refine Z1 ?_
 refine R.callOwn (n := 0) (x := Pk (Ae e)) Tryz.call71 (c71 n e hok (E3 hr) hg (oid Hp.length 0) [] _ (by rw [Aw]; rfl) (by simp only [Eo, List.length_nil]; omega)) ?_
 refine R.fin [4] ?_;refine Z18 ?_
 refine R.call Tryz.call72 (c72 (Ae e) (oid Hp.length 0) _ (by rw [Aw]; rfl)) ?_
 refine R.go ?_;refine R.fin [4, 17] ?_
 refine W.cond (fun ht17 => ?_) (fun ht17 => ?_)
 ·have hsh : N5 e = ([], 3) := by unfold N5; rw [if_neg hnr, if_pos ht17]
  refine Z4 ?_;refine Et ?_;exact ue
 have hsh : N5 e = (Ae e, 0) := by unfold N5; rw [if_neg hnr, if_neg (by rw [ht17]; simp)]
 refine Lp ?_
 refine R.callOwn (n := 0) (x := .cells 109 [.any, .any]) Tryz.call73 (c73 (Ae e) (oid Hp.length 0) _ (by rw [Aw]; rfl)) ?_
 refine Z1 ?_;refine gb ?_;exact vo

/-! fuse.Forth and plan.Text. -/
def B8 (c : List Col) (ms : List Mov) : Nat → List Expr
 | 0 => Qb c
 | k + 1 => match ms[k]? with
  | some m => Bz m.take (colsAt c ms k) (B8 c ms k) ++ (Bx (colsAt c ms k) (B8 c ms k) m.ahead).1
  | none => B8 c ms k
def H1 (c : List Col) (t : List Expr) : List Mov → List Expr × Int
 | [] => (t, 0)
 | m :: r => if (Bx c t m.ahead).2 != 0 then ([], (Bx c t m.ahead).2) else H1 (Bf c m).1 (Bz m.take c t ++ (Bx c t m.ahead).1) r
/-- fuse.Forth. -/
def Md (c : List Col) (l : List Mov) : List Expr × Int := if (Fh c l).2 != 0 then ([], 1) else H1 c (Qb c) l
def Hy (c : List Col) (ms : List Mov) (k : Nat) : Prop := H1 c (Qb c) ms = H1 (colsAt c ms k) (B8 c ms k) (ms.drop k)
theorem AA2 {c : List Col} {ms : List Mov} : Hy c ms 0 := rfl
theorem pj {c : List Col} {ms : List Mov} {k : Nat} {m : Mov} (hk : ms[k]? = some m) (h : Hy c ms k) (he : ((Bx (colsAt c ms k) (B8 c ms k) m.ahead).2 != 0) = false) : Hy c ms (k + 1) := by
 unfold Hy at h ⊢
 rw [h, Lf hk, H1, if_neg (by rw [he]; simp), Hd hk, B8, hk]
theorem t6 {c : List Col} {ms : List Mov} {k : Nat} {m : Mov} (hk : ms[k]? = some m) (h : Hy c ms k) (he : ((Bx (colsAt c ms k) (B8 c ms k) m.ahead).2 != 0) = true) : H1 c (Qb c) ms = ([], (Bx (colsAt c ms k) (B8 c ms k) m.ahead).2) := by
 unfold Hy at h
 rw [h, Lf hk, H1, if_pos he]
theorem t7 {c : List Col} {ms : List Mov} (h : Hy c ms ms.length) : H1 c (Qb c) ms = (B8 c ms ms.length, 0) := by
 unfold Hy at h
 rw [h, List.drop_length, H1]
/-- Trees that may be walked, printed and put again. -/
structure TOk (t : List Expr) : Prop where
 ok : ∀ e ∈ t, okE 61 e
 rng : ∀ e ∈ t, Cf Fp e = true
theorem Jl {take : List Str} : ∀ {c : List Col} {l : List Expr}, ∀ e ∈ Bz take c l, e ∈ l
 | [], [], e, h => by cases h
 | [], _ :: _, e, h => by cases h
 | _ :: _, [], e, h => by cases h
 | y :: c, x :: l, e, h => by
  unfold Bz at h
  split at h
  ·exact List.mem_cons_of_mem _ (Jl e h)
  rcases List.mem_cons.1 h with rfl | h
  ·exact List.mem_cons_self
  exact List.mem_cons_of_mem _ (Jl e h)
theorem W7 {c : List Col} {l : List Expr} (hl : ∀ e ∈ l, Cf Fp e = true) (hc : c.length = l.length) : ∀ (n : Nat) (x y : Expr), okE n x → Cf Fp x = true → putF c l x = some y → Cf Fp y = true
 | 0, x, y, h, _, _ => h.elim
 | n + 1, x, y, h, hr, hp => by
  cases h2 : x.op == 2 with
  | true =>
   rw [Pf h2] at hp
   split at hp
   ·cases hp
   rename_i hf
   injection hp with hp
   subst hp
   obtain ⟨j, hj, hjl⟩ := Eg hf
   rw [hj, Int.toNat_natCast, List.getD_eq_getElem?_getD, List.getElem?_eq_getElem (by omega)]
   exact hl _ (List.getElem_mem (by omega))
  | false =>
   rw [Pg h2] at hp
   cases hk : Ft c l x.kids with
   | none => rw [hk] at hp; cases hp
   | some s =>
    rw [hk] at hp
    injection hp with hp
    subst hp
    obtain ⟨h3, h4⟩ := Ki hk
    rw [D9, Bool.and_eq_true] at hr
    rw [D9, Bool.and_eq_true]
    refine ⟨hr.1, (Cv _ _).2 fun z hz => ?_⟩
    obtain ⟨e, he, hpe⟩ := h4 z hz
    exact W7 hl hc n e z (h.2.2 e he) ((Cv _ _).1 hr.2 e he) hpe
theorem lc {x : Expr} {c : List Col} {l : List Expr} (hx : okE 61 x) (hr : Cf Fp x = true) (ht : TOk l) (he : (D0 x c l).2 = 0) : okE 61 (D0 x c l).1 ∧ Cf Fp (D0 x c l).1 = true ∧ Am (D0 x c l).1 = true := by
 unfold D0 at he ⊢
 split at he
 ·exact absurd (show (1 : Int) = 0 from he) (by decide)
 rename_i h1
 rw [if_neg h1]
 have hcl : c.length = l.length := by
  simp only [Bool.not_eq_true, Bool.or_eq_false_iff, bne_eq_false_iff_eq] at h1
  have := h1.2
  omega
 cases hp : putF c l x with
 | none => rw [hp] at he; exact absurd (show (9 : Int) = 0 from he) (by decide)
 | some y =>
  rw [hp] at he
  simp only at he ⊢
  split at he
  ·rename_i h2
   rw [if_pos h2]
   have h3 : Ai y = true := by rw [← E8]; exact h2
   exact ⟨Cw (by decide) (Hf h3).1, W7 ht.rng hcl 61 x y hx hr hp, h2⟩
  exact absurd (show (3 : Int) = 0 from he) (by decide)
theorem Rr {c : List Col} {t : List Expr} (ht : TOk t) : ∀ (l : List Expr), (∀ e ∈ l, okE 61 e) → (∀ e ∈ l, Cf Fp e = true) → (Bx c t l).2 = 0 → TOk (Bx c t l).1
 | [], _, _, _ => ⟨fun e h => (List.not_mem_nil h).elim, fun e h => (List.not_mem_nil h).elim⟩
 | x :: r, h1, h2, he => by
  unfold Bx at he ⊢
  split at he
  ·rename_i h3
   exact absurd he (by simpa using h3)
  rename_i h3
  rw [if_neg h3]
  split at he
  ·rename_i h4
   exact absurd he (by simpa using h4)
  rename_i h4
  rw [if_neg h4]
  have ih := Rr (c := c) ht r (fun e he => h1 e (List.mem_cons_of_mem _ he)) (fun e he => h2 e (List.mem_cons_of_mem _ he)) (by simpa using h4)
  have hx := lc (c := c) (h1 x List.mem_cons_self) (h2 x List.mem_cons_self) ht (by simpa using h3)
  refine ⟨fun e he => ?_, fun e he => ?_⟩
  ·rcases List.mem_cons.1 he with rfl | he
   ·exact hx.1
   exact ih.ok e he
  rcases List.mem_cons.1 he with rfl | he
  ·exact hx.2.1
  exact ih.rng e he
theorem t8 {c : List Col} (hc : OkCols c) : TOk (Qb c) := by
 refine ⟨fun e he => ?_, fun e he => ?_⟩
 ·obtain ⟨y, hy, rfl⟩ := List.mem_map.1 he
  exact ⟨hc.2 y hy, by simp [Aj, Expr.kids], fun z hz => by simp [Aj, Expr.kids] at hz⟩
 obtain ⟨y, hy, rfl⟩ := List.mem_map.1 he
 rfl
/-- What holds of the trees behind k moves, if all went well till there. -/
theorem pk {c : List Col} {ms : List Mov} {k : Nat} {m : Mov} (hk : ms[k]? = some m) (hm : OkMov m) (h : TOk (B8 c ms k)) (he : ((Bx (colsAt c ms k) (B8 c ms k) m.ahead).2 != 0) = false) : TOk (B8 c ms (k + 1)) := by
 have h1 := Rr (c := colsAt c ms k) h m.ahead hm.ahead.ok hm.ahead.rng (by simpa using he)
 rw [B8, hk]
 refine ⟨fun e he => ?_, fun e he => ?_⟩
 ·rcases List.mem_append.1 he with he | he
  ·exact h.ok e (Jl e he)
  exact h1.ok e he
 rcases List.mem_append.1 he with he | he
 ·exact h.rng e (Jl e he)
 exact h1.rng e he
theorem lf {c : List Col} {m : Mov} (h : (Bf c m).2 = 0) : (Bf c m).1 = C3 c m.take ++ B1 c m ∧ Cu c = true ∧ Cu (Bf c m).1 = true := by
 unfold Bf at h ⊢
 split at h
 ·rename_i h1
  exact absurd h (by simpa using h1)
 rename_i h1
 rw [if_neg h1]
 split at h
 ·rename_i h2
  exact absurd h (by simpa using h2)
 rename_i h2
 rw [if_neg h2]
 split at h
 ·rename_i h3
  exact absurd h (by simpa using h3)
 rename_i h3
 rw [if_neg h3]
 obtain ⟨a, _, b, d, e⟩ := nq (by simpa using h1 : (By c m.take (B1 c m)).2 = 0)
 rw [e]
 refine ⟨rfl, a, ?_⟩
 unfold Cu
 rw [b, Bool.and_true]
 refine decide_eq_true ?_
 show ((C3 c m.take ++ B1 c m).length : Int) ≤ 12
 omega
theorem lg {c : List Col} {ms : List Mov} {k : Nat} {m : Mov} (hk : ms[k]? = some m) (hm : G8 m = true) (ht : (Bf (colsAt c ms k) m).2 = 0) (h : (B8 c ms k).length = (colsAt c ms k).length) (he : ((Bx (colsAt c ms k) (B8 c ms k) m.ahead).2 != 0) = false) : (B8 c ms (k + 1)).length = (colsAt c ms (k + 1)).length := by
 rw [B8, Hd hk, hk]
 show (Bz _ _ _ ++ _).length = _
 rw [(lf ht).1, List.length_append, List.length_append, Hc, He h.symm, Hw _ (by simpa using he), (Gs (Rd hm)).1]
/-! The text. -/
theorem Pn {n k : Nat} {o : Bool} {a : List Expr} {e : Expr} : Low n (.slice o k (a.map A3 ++ [.agg (Ba e)])) := by
 have := Kf (n := n) (k := k) (o := o) (a := a) (e := e)
 rwa [A8] at this
theorem Rt {c : List Col} {t : List Expr} : ∀ {l : List Expr}, (∀ (j : Nat) (y : Expr), l[j]? = some y → ((D0 y c t).2 != 0) = false) → Bx c t l = (l.map (fun e => (D0 e c t).1), 0)
 | [], _ => rfl
 | x :: r, h => by
  have h1 := h 0 x rfl
  have ih := Rt (c := c) (t := t) (l := r) (fun j y hy => h (j + 1) y hy)
  rw [Bx, if_neg (by rw [h1]; simp), if_neg (by rw [ih]; simp), ih]
  rfl
theorem Ru {c : List Col} {t : List Expr} : ∀ {l : List Expr} {x : Nat} {y : Expr}, (∀ (j : Nat) (z : Expr), j < x → l[j]? = some z → ((D0 z c t).2 != 0) = false) → l[x]? = some y → ((D0 y c t).2 != 0) = true → Bx c t l = ([], (D0 y c t).2)
 | [], _, _, _, h, _ => by simp at h
 | a :: r, 0, y, h0, h, h1 => by
  have : a = y := by simpa using h
  subst this
  rw [Bx, if_pos h1]
 | a :: r, x + 1, y, h0, h, h1 => by
  have h2 := h0 0 a (by omega) rfl
  have ih := Ru (c := c) (t := t) (l := r) (x := x) (y := y) (fun j z hj hz => h0 (j + 1) z (by omega) hz) (by simpa using h) h1
  rw [Bx, if_neg (by rw [h2]; simp), if_pos (by rw [ih]; exact h1), ih]
theorem c55 (l : List Expr) (hl : l.length ≤ 1048576) (hlo : ∀ e ∈ l, okE 61 e) (c : List Col) (hc : OkCols c) (by_ : List Expr) (hbl : by_.length ≤ 1048576) (hbo : ∀ e ∈ by_, okE 61 e) (Hp : List AObj) : AFun Tryz.prog 55 [B5 l, Ac c, B5 by_] Hp (.tup [B5 (Bx c by_ l).1, A2 (Bx c by_ l).2]) := by
 refine ACall.body [.tmp 6, .tmp 7] [0, 1, 2] Tryz.func55 Tryz.ntmps55 (fun d => ?_)
 refine Z4 ?_;refine R.fin [0, 1, 2] ?_;refine Z0 ?_;refine R.fin [0, 1, 2, 8] ?_;refine Z65 ?_;refine R.nilSl 8 6 ?_;refine Z25 ?_;refine R.fin [1, 2, 8, 13, 14, 15] ?_
 refine AW.loopC (α := Nat) (fun x => ⟨35, A4 1 (Ac c) (A4 2 (B5 by_) (A4 8 (.slice true 6 (((l.take x).map (fun e => (D0 e c by_).1)).map A3)) (A4 13 (B5 l) (A4 14 (A2 (l.length : Nat)) (A4 15 (A2 (x : Nat)) (fun _ => .any)))))), Hp, [], [], none⟩) (fun x => x ≤ l.length ∧ ∀ (j : Nat) (y : Expr), j < x → l[j]? = some y → ((D0 y c by_).2 != 0) = false) (fun x => l.length - x) (0) ⟨Nat.zero_le _, fun j y h => by omega⟩ (StLe.of_eq (by simp)) rfl (fun x hx => ?_)
 refine Z0 ?_;refine R.fin [1, 2, 8, 13, 14, 15, 16] ?_
 refine W.condX (fun ht16 => ?_) (fun ht16 => ?_)
 ·have hlt : x < l.length := by simpa using ht16
  refine Z88 ?_
  refine R.go (h := Q.indexAddr (x) (A3 l[x]) (fun _ => Ak hlt)) (hr := ?_)
  refine Nf ?_;refine R.fin [1, 2, 8, 10, 13, 14, 15] ?_;refine Z7 ?_;refine R.call Tryz.call23 (c23 l[x] (hlo _ (List.getElem_mem hlt)) c hc by_ hbl hbo _) ?_;refine U7 ?_;refine R.fin [1, 2, 8, 11, 12, 13, 14, 15] ?_;refine Z28 ?_;refine R.fin [1, 2, 8, 11, 12, 13, 14, 15, 27] ?_
  refine W.cond (fun ht27 => ?_) (fun ht27 => ?_)
  ·have hm := Ru hx.2 (List.getElem?_eq_getElem hlt) ht27
   refine Z4 ?_;refine R.nilTmp 6 6 false ?_;refine Z49 ?_;refine Z23 ?_;refine Z42 ?_;exact rb
  refine Z6 ?_;refine bf ?_;refine Z94 ?_
  refine R.append jU Tryz.type45 ?_ ?_ ?_
  ·simp only [List.length_map, List.length_take, List.length_cons, List.length_nil, Tryz.t45]; omega
  ·simp only [List.length_map, List.length_take, List.length_cons, List.length_nil, Tryz.t45]; omega
  refine R.assignT ?_;refine R.fin [1, 2, 8, 13, 14, 15] ?_;refine Ng ?_;refine R.fin [1, 2, 8, 13, 14, 15] ?_;refine K.lpN (x + 1) ⟨hlt, Bk hlt hx.2 ht27⟩ (by omega) ?_
  rw [Ji hlt, List.map_append]
  rw [List.map_cons, List.map_nil, A8]
  simp only [show Tryz.t45.size = 6 from rfl]
  exact StCut.take (own := []) (fun _ => .refl _) (by repeat (first | exact Ap | refine Ao (by first | (simp [or_imp, forall_and]; done) | exact Pn | exact Cr | exact Cx) ?_)) (by simp) (by simp)
 have hxe : l.length ≤ x := by simpa using ht16
 have hm : Bx c by_ l = (l.map (fun e => (D0 e c by_).1), 0) := Rt fun j y hy => hx.2 j y (by have := (List.getElem?_eq_some_iff.1 hy).1; omega) hy
 refine Z27 ?_;refine Z7 ?_;refine R.fin [6, 7] ?_;refine AW.ret ?_;exact K.fin (V.two V.tmp V.tmp) ⟨by rw [hm, List.take_of_length_le hxe], rfl⟩ (hlow := by simp only [S9, List.mem_cons, List.mem_nil_iff, or_false]; rintro y (rfl | rfl); exact Cr; simp)

theorem c56 (m : Mov) (c : List Col) (l : List Expr) (Hp : List AObj) : AFun Tryz.prog 56 [Fy m, Ac c, B5 l] Hp (.fn (.func 81) [] [.ro [Ac c], .ro (Kb m), .ro [B5 l]]) := by
 refine ACall.body [.tmp 6] [0, 1, 2] Tryz.func56 Tryz.ntmps56 (fun d => ?_)
 refine Z33 ?_;refine R.fin [3, 4, 5] ?_;refine Cs ?_;refine Ip ?_;refine R.go ?_;refine Z67 ?_;exact K.fin (V.one V.tmp) (hlow := by simp [or_imp, forall_and, Ab])

theorem Ye {take : List Str} {c : List Col} {l : List Expr} {k : Nat} {y : Col} (hcl : c.length = l.length) (hy : c[k]? = some y) (h : take.contains y.name = true) : Bz take (c.take (k + 1)) (l.take (k + 1)) = Bz take (c.take k) (l.take k) := by
 induction c generalizing l k with
 | nil => simp at hy
 | cons a r ih =>
  cases l with
  | nil => simp at hcl
  | cons b s =>
   cases k with
   | zero =>
    have : a = y := by simpa using hy
    subst this
    simp only [List.take_succ_cons, List.take_zero]
    rw [Bz, if_pos h]
   | succ k =>
    have ih' := ih (l := s) (k := k) (by simpa using hcl) (by simpa using hy)
    rw [List.take_succ_cons, List.take_succ_cons, List.take_succ_cons, List.take_succ_cons, Bz, Bz, ih']
theorem lh {take : List Str} {c : List Col} {l : List Expr} {k : Nat} {y : Col} {e : Expr} (hcl : c.length = l.length) (hy : c[k]? = some y) (he : l[k]? = some e) (h : take.contains y.name = false) : Bz take (c.take (k + 1)) (l.take (k + 1)) = Bz take (c.take k) (l.take k) ++ [e] := by
 induction c generalizing l k with
 | nil => simp at hy
 | cons a r ih =>
  cases l with
  | nil => simp at hcl
  | cons b s =>
   cases k with
   | zero =>
    have h1 : a = y := by simpa using hy
    have h2 : b = e := by simpa using he
    subst h1
    subst h2
    simp only [List.take_succ_cons, List.take_zero]
    rw [Bz, if_neg (by rw [h]; simp)]
    rfl
   | succ k =>
    have ih' := ih (l := s) (k := k) (by simpa using hcl) (by simpa using hy) (by simpa using he)
    rw [List.take_succ_cons, List.take_succ_cons, List.take_succ_cons, List.take_succ_cons, Bz, Bz, ih']
    split <;> rfl
theorem Yf {n : Nat} {m : Mov} : Low n (.ro (Kb m)) := by
 refine .ro _ fun y hy => ?_
 simp only [List.mem_cons, List.mem_nil_iff, or_false] at hy
 rcases hy with rfl | rfl | rfl | rfl | rfl
 ·exact .v _
 ·exact dm
 ·exact Cx
 ·exact Cr
 exact Cr
theorem c81 (l0 : Nat) (m : Mov) (c : List Col) (l : List Expr) (hc : c.length ≤ 1048576) (hcl : c.length = l.length) (ht : m.take.length ≤ 1048576) (U : Nat → List AObj) (hlen : ∀ k, (U k).length = (U 0).length) (hll : l0 < (U 0).length)
  (hlw : ∀ k, ∀ x ∈ U k, ObjLow (U 0).length x) (hn : ∀ k y, c[k]? = some y → m.take.contains y.name = true → U (k + 1) = U k)
  (hy : ∀ k y e X, c[k]? = some y → l[k]? = some e → m.take.contains y.name = false → AYield Tryz.prog l0 [A3 e] (U k ++ X) (fun b H' => b = true ∧ H' = U (k + 1) ++ X)) : ACall Tryz.prog 81 [.yield l0, .ro [Ac c], .ro (Kb m), .ro [B5 l]] (U 0) (fun _ H' => H' = U c.length) := by
 refine ACall.body [] [0, 1, 2, 3] Tryz.func81 Tryz.ntmps81 (fun d => ?_)
 refine Z7 ?_;refine R.fin [0, 2, 3, 7, 8, 9] ?_
 refine AW.loopC (α := Nat) (fun x => ⟨30, A4 0 (.yield l0) (A4 2 (.ro (Kb m)) (A4 3 (.ro [B5 l]) (A4 7 (Ac c) (A4 8 (A2 (c.length : Nat)) (A4 9 (A2 (x : Nat)) (fun _ => .any)))))), U x, [], [], none⟩) (fun x => x ≤ c.length) (fun x => c.length - x) (0) (Nat.zero_le _) (StLe.of_eq (by simp)) rfl (fun x hx => ?_)
 refine Z0 ?_;refine R.fin [0, 2, 3, 7, 8, 9, 10] ?_
 refine W.condX (fun ht10 => ?_) (fun ht10 => ?_)
 ·have hlt : x < c.length := by simpa using ht10
  have hle : x < l.length := by omega
  refine Nh ?_
  refine R.go (h := Q.indexAddr (x) (Av c[x]) (fun _ => Ak hlt)) (hr := ?_)
  refine bh ?_;refine R.fin [0, 2, 3, 5, 6, 7, 8, 9] ?_;refine Z33 ?_;refine R.call Tryz.call40 (c40 m.take _ ht _) ?_;refine Z86 ?_
  refine G.go (h := Q.indexAddr (x) (A3 l[x]) (fun _ => Ak hle)) (hr := ?_)
  refine G.go ?_
  refine G.yield (l := l0) (C := ((!m.take.contains c[x].name) == true)) (args := [A3 l[x]]) (fun hC => hy x c[x] _ _ (List.getElem?_eq_getElem hlt) (List.getElem?_eq_getElem hle) (by simpa using hC)) ?_
  intro b V O hV hb hb0
  have hVO : V = U (x + 1) ∧ O = [AObj.cells 58 [A6 c[x].name, A2 c[x].kind]] ∧ (m.take.contains c[x].name = false → b = true) := by
   cases hcn : m.take.contains c[x].name with
   | true =>
    obtain ⟨h1, h2⟩ := hb0 (by rw [hcn]; rfl)
    exact ⟨h1.trans (hn x c[x] (List.getElem?_eq_getElem hlt) hcn).symm, h2, fun e => by cases e⟩
   | false =>
    obtain ⟨h1, h2⟩ := hb (by rw [hcn]; rfl)
    have h3 := List.append_inj h2 (by rw [hV, hlen x, hlen (x + 1)])
    exact ⟨h3.1, h3.2, fun _ => h1⟩
  obtain ⟨rfl, rfl, hbt⟩ := hVO
  refine ⟨fun _ => by rw [hlen (x + 1)]; exact hlw (x + 1), fun o ho => (by cases ho), ?_⟩
  refine Si ?_;refine R.fin [0, 2, 3, 7, 8, 9, 28] ?_
  refine W.cond (fun ht28 => ?_) (fun ht28 => ?_)
  ·exfalso
   have hcf : m.take.contains c[x].name = false := by simp at ht28 ⊢; exact ht28.1
   rw [hbt hcf] at ht28
   simp at ht28
  refine Z81 ?_;refine R.fin [0, 2, 3, 7, 8, 9] ?_;refine bt ?_
  exact StCut.take (own := []) (fun _ => .refl _) (by repeat (first | exact Ap | refine Ao (by first | (simp [or_imp, forall_and]; done) | exact Yf | (simp [or_imp, forall_and, Ab]; done) | (have := hlen (x + 1); simp; omega)) ?_)) (by simp) (by simp)
 have hxe : x = c.length := by simp at ht10; omega
 exact ux

/-! ONE LINE EACH. -/
theorem Yg {c : List Col} {ms : List Mov} (he : (C7 c ms).2 = 0) : ∀ k, k ≤ ms.length → NS c ms k
 | 0, _ => wy
 | k + 1, h => by
  have ih := Yg he k (by omega)
  have hk : ms[k]? = some ms[k] := List.getElem?_eq_getElem (by omega)
  by_cases ht : (Bf (colsAt c ms k) ms[k]).2 = 0
  ·exact Zt hk ih ht
  exact absurd ((Y8 hk ih ht).symm.trans he) ht
theorem pl {c : List Col} {ms : List Mov} (he : (C7 c ms).2 = 0) {k : Nat} {m : Mov} (hk : ms[k]? = some m) : (Bf (colsAt c ms k) m).2 = 0 := by
 have hl := (List.getElem?_eq_some_iff.1 hk).1
 by_cases ht : (Bf (colsAt c ms k) m).2 = 0
 ·exact ht
 exact absurd ((Y8 hk (Yg he k (by omega)) ht).symm.trans he) ht
theorem Po {c : List Col} {ms : List Mov} : ∀ {n k : Nat}, k ≤ n → (Cb c ms n)[k]? = some (colsAt c ms k)
 | 0, k, h => by
  have : k = 0 := by omega
  subst this; rfl
 | n + 1, k, h => by
  have hl := Lg c ms n
  rw [Cb]
  by_cases e : k = n + 1
  ·subst e
   rw [List.getElem?_append_right (by omega), hl, Nat.sub_self]
   rfl
  rw [List.getElem?_append_left (by omega)]
  exact Po (by omega)
theorem el {c : List Col} {ms : List Mov} (h : Ma c ms = true) : ∀ m ∈ ms, G8 m = true := by
 unfold Ma da at h
 simp only [Bool.and_eq_true, List.all_eq_true] at h
 exact h.2.2
/-- What a sound migration comes to. -/
theorem Yh {c : List Col} {ms : List Mov} (h : ((Fh c ms).2 != 0) = false) : Ma c ms = true ∧ (C7 c ms).2 = 0 ∧ Fh c ms = (Cb c ms ms.length, 0) := by
 cases hm : Ma c ms with
 | false => rw [Rg hm] at h; cases h
 | true =>
  by_cases he : (C7 c ms).2 = 0
  ·have e := kv (Yg he ms.length (Nat.le_refl _))
   exact ⟨rfl, he, Rh hm e⟩
  rw [Pc hm he] at h
  exact absurd (by simpa using h) he
theorem li {n : Nat} {m : Mov} {t : TypeId} : ObjLow n (.cells t (Kb m)) := T9
theorem lj {c : List Col} {l : List Mov} (h : ((Fh c l).2 != 0) = true) : Md c l = ([], 1) := if_pos h
theorem en {c : List Col} {l : List Mov} (h : ((Fh c l).2 != 0) = false) : Md c l = H1 c (Qb c) l := if_neg (by rw [h]; simp)
theorem ll {c : List Col} {ms : List Mov} {k : Nat} {m : Mov} (h : ms[k]? = some m) : B5 (B8 c ms (k + 1)) = .slice false 6 ((Bz m.take (colsAt c ms k) (B8 c ms k)).map A3 ++ (Bx (colsAt c ms k) (B8 c ms k) m.ahead).1.map A3) := by
 rw [B8, h, ← List.map_append]
theorem c27 (c : List Col) (hc : OkCols c) (hc2 : c.length ≤ 1000000) (l : List Mov) (h : OkMovs l) (Hp : List AObj) : AFun Tryz.prog 27 [Ac c, G7 l] Hp (.tup [B5 (Md c l).1, A2 (Md c l).2]) := by
 refine ACall.body [.tmp 4, .tmp 5] [0, 1] Tryz.func27 Tryz.ntmps27 (fun d => ?_)
 refine Z4 ?_;refine R.fin [0, 1] ?_;refine Z4 ?_;refine R.call Tryz.call14 (c14 c hc hc2 l h _) ?_;refine Z89 ?_;refine R.fin [0, 1, 6, 7] ?_;refine Z28 ?_;refine R.fin [0, 1, 6, 22] ?_
 refine W.cond (fun ht22 => ?_) (fun ht22 => ?_)
 ·have hm := lj ht22
  refine Z0 ?_;refine R.nilTmp 4 6 false ?_;exact uu
 have hm := en ht22
 obtain ⟨hmay, hst, hss⟩ := Yh ht22
 have hmvo := el hmay
 rw [hss]
 refine O2 ?_;refine R.call Tryz.call54 (c54 c (by omega) _) ?_;refine R.go ?_;refine R.fin [1, 6, 8] ?_;refine Z18 ?_;refine R.fin [6, 8, 25, 26, 27] ?_
 refine AW.loopG (α := Nat × List AObj × List Nat) (fun s => ⟨65, A4 6 (kx (Cb c l l.length)) (A4 8 (B5 (B8 c l s.1)) (A4 25 (G7 l) (A4 26 (A2 (l.length : Nat)) (A4 27 (A2 (s.1 : Nat)) (fun _ => .any))))), Hp, s.2.1, s.2.2, none⟩) (fun s => s.1 ≤ l.length ∧ Hy c l s.1 ∧ TOk (B8 c l s.1) ∧ (B8 c l s.1).length = (colsAt c l s.1).length ∧ (∀ x ∈ s.2.1, ObjLow (Hp.length + s.2.1.length) x) ∧ ∀ o ∈ s.2.2, (Hp ++ s.2.1)[o]? = some .defs) (fun s => l.length - s.1) ((0, [], [])) ⟨Nat.zero_le _, AA2, t8 hc, by simp [B8, Qb, colsAt], (fun x hx => (List.not_mem_nil hx).elim), fun o ho => (List.not_mem_nil ho).elim⟩ (StLe.of_eq (by simp [B8])) rfl (fun s hs => ?_)
 obtain ⟨k, O, Df⟩ := s
 obtain ⟨hk0, hnf, hTo, hTl, hOo, hDo⟩ := hs
 dsimp only at hk0 hnf hTo hTl hOo hDo ⊢
 refine Z0 ?_;refine R.fin [6, 8, 25, 26, 27, 28] ?_
 refine W.condX (fun ht28 => ?_) (fun ht28 => ?_)
 ·have hlt : k < l.length := by simpa using ht28
  have hll := h.len
  have hmk : l[k]? = some l[k] := List.getElem?_eq_getElem hlt
  have hmo := h.each _ (List.getElem_mem hlt)
  have hCo := Jj hc (fun m hm => h.each m hm) k
  refine Nh ?_
  refine R.go (h := Q.indexAddr (k) (Fy l[k]) (fun _ => Ak hlt)) (hr := ?_)
  refine R.go ?_;refine R.alloc (n := O.length) (ho := rfl) jZ ?_;refine R.go ?_
  refine R.storeOwn (n := O.length + 0) (ho := oat.trans rfl) (hset := by rw [fq] <;> simp only [List.set_cons_succ, List.set_cons_zero] <;> rfl) jS ?_
  refine R.fin [6, 8, 9, 10, 25, 26, 27] ?_;refine W.drawQ [0, 1, 0, 0, 12, 28, 0, 127, 255, 511, 511, 1023, 4095] 12 Ad (by kernel_rfl) ?_;refine D.go ?_
  refine D.go (h := Q.loadOwn (n := O.length + 0) (ho := oat.trans rfl)) (hr := ?_)
  refine Z17 ?_
  refine D.go (h := Q.indexAddr (k) (Ac (colsAt c l k)) (fun _ => wr (Po (by omega)))) (hr := ?_)
  refine Z17 ?_
  refine D.call Tryz.call55 (c55 l[k].ahead hmo.ahead.len hmo.ahead.ok (colsAt c l k) hCo (B8 c l k) (by have := hCo.1; omega) hTo.ok _) ?_
  refine bo ?_;refine D.tail ?_;refine R.go ?_;refine R.fin [6, 8, 9, 10, 11, 12, 25, 26, 27] ?_;refine Z28 ?_;refine R.fin [6, 8, 9, 10, 11, 12, 25, 26, 27, 44] ?_
  refine W.cond (fun ht44 => ?_) (fun ht44 => ?_)
  ·have hm2 := t6 hmk hnf ht44
   refine Z4 ?_;refine R.nilTmp 4 6 false ?_;refine R.go ?_;refine Z73 ?_;refine Z5 ?_;refine K.lgR ?_;refine K.thR ?_;exact K.fin (V.two V.tmp V.tmp) ⟨by rw [hm, hm2] <;> rfl, rfl⟩
  refine U5 ?_
  refine R.alloc (n := O.length + 1) (hn := by simp) (ho := by simp only [List.append_assoc, List.cons_append, List.nil_append] <;> rfl) jZ ?_
  refine R.nilOwn (O.length + 1) 6 ?_ (ho := oat.trans rfl) (hset := by rw [fq] <;> simp only [List.set_cons_succ, List.set_cons_zero] <;> rfl)
  refine R.assumeLow (fun hlow => ?_)
  refine R.fin [6, 8, 9, 10, 11, 13, 25, 26, 27] ?_;refine W.seq ?_;refine W.drawQ [0, 0, 0, 6, 14, 0, 63] 6 Ad (by kernel_rfl) ?_
  refine D.go (h := Q.loadOwnN (n := O.length + 0) (ho := oat.trans rfl)) (hr := ?_)
  refine Z17 ?_
  refine D.go (h := Q.indexAddr (k) (Ac (colsAt c l k)) (fun _ => wr (Po (by omega)))) (hr := ?_)
  refine Z17 ?_;refine D.tail ?_;refine R.call Tryz.call56 (c56 l[k] (colsAt c l k) (B8 c l k) _) ?_;refine R.fin [6, 11, 13, 25, 26, 27, 52] ?_;refine AW.block ?_
  refine W.rangeV (m := O.length + 2) (hm := by simp) (ha := rfl) Tryz.call81 (fun FR as' bd' hFR has hbd => ?_)
  generalize hCd : colsAt c l k = C at *
  generalize hTd : B8 c l k = T at *
  generalize hmd : l[k] = m at *
  have hFRl : ∀ s, Low (Hp.length + (O.length + 4)) (FR s) := by
   intro s
   rw [hFR]
   refine Low.strip ?_
   revert s
   repeat (first | exact Ap | refine Ao (by first | exact Cr | exact Jk | exact Lc | (simp [oid, or_imp, forall_and, Ab]; done) | (simp [oid, or_imp, forall_and] <;> try omega)) ?_)
  have hstl : ∀ q, (Bz m.take (C.take q) (T.take q)).length ≤ 1048576 := fun q => by
   have h1 := He (take := m.take) (c := C.take q) (l := T.take q) (by simp [hTl])
   have h2 := Fq (C.take q) m.take
   have h3 := hCo.1
   rw [List.length_take] at h2
   omega
  have hOl : ∀ {j : Nat} {o : Bool} {lp : AObj}, ObjLow (Hp.length + (O.length + 4)) lp → ∀ x ∈ O ++ [AObj.cells 64 (Kb m), AObj.cells 43 [AV.slice o 6 ((Bz m.take (C.take j) (T.take j)).map A3)], AObj.defs, lp], ObjLow (Hp.length + (O.length + 4)) x := by
   intro j o lp hlp x hx
   rcases List.mem_append.1 hx with hx | hx
   ·exact ObjLow.le (by omega) (hOo x hx)
   simp only [List.mem_cons, List.mem_nil_iff, or_false] at hx
   rcases hx with rfl | rfl | rfl | rfl
   ·exact li
   ·intro y hy
    rw [List.mem_singleton.1 hy]
    exact Cr
   ·trivial
   exact hlp
  refine ⟨_, ACall.heapEq (by rw [List.append_assoc]; rfl) (c81 (oid Hp.length (O.length + 3)) m C T hCo.1 hTl.symm hmo.takes (fun j => Hp ++ (O ++ [AObj.cells 64 (Kb m), AObj.cells 43 [AV.slice true 6 ((Bz m.take (C.take j) (T.take j)).map A3)], AObj.defs, AObj.loop LoopState.ready none FR 65 #[53] as' bd' (oid Hp.length (O.length + 2))])) (fun j => by simp) (by simp [oid]) (fun j x hx => ?_) (fun j y hk hcn => by simp only [Ye hTl.symm hk hcn]) (fun q y e X hk hke hcn => ?_)), ?_⟩
  ·have := Hq (fun x hx => ObjLow.le (by omega) (hlow x hx)) (hOl (o := true) (lp := AObj.loop LoopState.ready none FR 65 #[53] as' bd' (oid Hp.length (O.length + 2))) ⟨hFRl, by simp [oid]⟩) x hx
   simpa using this
  ·generalize hV : Hp ++ (O ++ [AObj.cells 64 (Kb m), AObj.cells 43 [AV.slice true 6 ((Bz m.take (C.take q) (T.take q)).map A3)], AObj.defs, AObj.loop LoopState.ready none FR 65 #[53] as' bd' (oid Hp.length (O.length + 2))]) ++ X = V
   have hL : V[(oid Hp.length (O.length + 3))]? = some (AObj.loop LoopState.ready none FR 65 #[53] as' bd' (oid Hp.length (O.length + 2))) := by rw [← hV, List.append_assoc, List.append_assoc, Kv]; rfl
   have hA0 : V[(oid Hp.length (O.length + 1))]? = some (AObj.cells 43 [AV.slice true 6 ((Bz m.take (C.take q) (T.take q)).map A3)]) := by rw [← hV, List.append_assoc, List.append_assoc, Kv]; rfl
   refine AYield.ofRound (pd := none) (fr := FR) (sz := 65) (ps := #[53]) (df := (oid Hp.length (O.length + 2))) (asg := as') (bd := bd') hL rfl (by decide) (fun d => ?_)
   subst hFR has hbd
   refine W.keep [13, 53] ?_;refine AW.region ?_;refine Z15 ?_;refine R.fin [13, 14] ?_
   refine ⟨rfl, none, hL, ?_⟩
   generalize hbz : (AObj.loop LoopState.busy _ _ _ _ _ _ _) = bz
   have hA : (V.set (oid Hp.length (O.length + 3)) bz)[(oid Hp.length (O.length + 1))]? = some (AObj.cells 43 [AV.slice true 6 ((Bz m.take (C.take q) (T.take q)).map A3)]) := by rw [List.getElem?_set_ne (C1 (by omega))]; exact hA0
   refine AW.block ?_
   refine W.drawT0 [0, 0, 1, 0, 15, 31, 63, 31] [0] [.s [54] (some 0) [] [], .q 3 [] []] (fun B => (V.set (oid Hp.length (O.length + 3)) bz).set (oid Hp.length (O.length + 1)) (if B 0 = true then AObj.cells 43 [AV.slice false 6 ((Bz m.take (C.take q) (T.take q)).map A3)] else AObj.cells 43 [AV.slice true 6 ((Bz m.take (C.take q) (T.take q)).map A3)])) (fun _ => [.cells 45 (Ba e)]) Ad (by kernel_rfl) (by simp only [Bool.false_eq_true, if_false]; exact Ed hA) rfl (fun B => by simp) ?_
   refine Y.loadUpT (o := (oid Hp.length (O.length + 1))) (t' := 43) (cs := [.slice true 6 ((Bz m.take (C.take q) (T.take q)).map A3)]) (cs' := [.slice false 6 ((Bz m.take (C.take q) (T.take q)).map A3)]) Tryz.isAgg43 (fun B hB => ⟨by simp only [hB]; exact getset hA, by simp only [upd, if_true, List.set_set], rfl⟩) ?_
   apply Y.q
   case h1 =>
    intro B hT hF
    refine Z17 ?_;exact Z44
   case hTF => decide
   refine Y.appendPut3 (tn := [0]) (U := (V.set (oid Hp.length (O.length + 3)) bz).set (oid Hp.length (O.length + 1)) (AObj.cells 43 [AV.slice false 6 ((Bz m.take (C.take q) (T.take q)).map A3)])) (O := [.cells 45 (Ba e)]) (o := (oid Hp.length (O.length + 1))) (t' := 43) (cs := [.slice false 6 ((Bz m.take (C.take q) (T.take q)).map A3)]) (by kernel_rfl) jU Tryz.type45 Tryz.sizeOf45 Tryz.sizeOf43 (A5 (getset hA)) ?_ ?_ ?_
   ·have := hstl q; simp [Tryz.t45]; omega
   ·have := hstl q; simp [Tryz.t45]; omega
   refine R.storeUpT jS (getset hA) ?_ ?_
   ·exact Pn
   refine Z53 ?_
   subst hbz
   refine K.rdN (Yn hL (C1 (by omega)) (C1 (by omega))) ?_
   refine ⟨rfl, ?_⟩
   subst hV
   simp only [List.append_assoc, fu, List.cons_append, List.nil_append, List.set_cons_succ, List.set_cons_zero]
   rw [lh hTl.symm hk hke hcn, List.map_append, List.map_cons, List.map_nil, A8]
  rintro r H' rfl
  simp only [List.take_length, hTl ▸ List.take_length]
  refine ⟨Hp, _, _, _, rfl, rfl, fun h => h, ?_, (oat (i := 3)).trans rfl, by simp, ?_⟩
  ·intro o ho
   rcases List.mem_cons.1 ho with rfl | ho
   ·rw [Kv]
    rfl
   rw [← List.append_assoc]
   exact A5 (hDo o ho)
  refine Z12 ?_;refine AW.region ?_
  refine ARun.ownEq (O ++ [AObj.cells 64 (Kb m), AObj.cells 43 [AV.slice true 6 ((Bz m.take C T).map A3)], AObj.defs, AObj.loop LoopState.exhausted none FR 65 #[53] as' bd' (oid Hp.length (O.length + 2))]) (by rw [show O.length + 2 + 1 = O.length + 3 from rfl, fq] <;> rfl) ?_
  refine R.loadOwnT (n := O.length + 1) (ho := oat.trans rfl) (hset := by rw [fq] <;> simp only [List.set_cons_succ, List.set_cons_zero] <;> rfl) jA ?_
  refine R.go ?_
  refine R.append jU Tryz.type45 ?_ ?_ ?_
  ·have h1 := He (take := m.take) hTl.symm; have h2 := Fq C m.take; have h3 := hCo.1; have h4 := Hw (c := C) (by_ := T) m.ahead (by simpa using ht44); have h5 := hmo.ahead.len; simp only [List.length_map, Tryz.t45]; omega
  ·have h1 := He (take := m.take) hTl.symm; have h2 := Fq C m.take; have h3 := hCo.1; have h4 := Hw (c := C) (by_ := T) m.ahead (by simpa using ht44); have h5 := hmo.ahead.len; simp only [List.length_map, Tryz.t45]; omega
  refine R.wk 62 _ (.strip true 6 _) ?_;refine R.go ?_;refine R.fin [6, 8, 25, 26, 27] ?_;refine Ng ?_;refine R.fin [6, 8, 25, 26, 27] ?_
  have hlp : ObjLow (Hp.length + (O.length + 4)) (AObj.loop LoopState.exhausted none FR 65 #[53] as' bd' (oid Hp.length (O.length + 2))) := ⟨hFRl, by simp [oid]⟩
  have hOn := hOl (j := C.length) (o := false) hlp
  have hse : Bz m.take (C.take C.length) (T.take C.length) = Bz m.take C T := by rw [List.take_length, List.take_of_length_le (by omega)]
  rw [hse] at hOn
  refine K.lgN (k + 1, O ++ [AObj.cells 64 (Kb m), AObj.cells 43 [AV.slice false 6 ((Bz m.take C T).map A3)], AObj.defs, AObj.loop LoopState.exhausted none FR 65 #[53] as' bd' (oid Hp.length (O.length + 2))], (oid Hp.length (O.length + 2)) :: Df) ⟨hlt, ?_, ?_, ?_, ?_, ?_⟩ (by dsimp only; omega) (StCut.of_eq ?_) (by simp)
  ·subst hCd hTd hmd; exact pj hmk hnf ht44
  ·subst hCd hTd hmd; exact pk hmk hmo hTo ht44
  ·subst hCd hTd hmd; exact lg hmk (hmvo _ (List.getElem_mem hlt)) (pl hst hmk) hTl ht44
  ·simpa using hOn
  ·intro o ho
   rcases List.mem_cons.1 ho with rfl | ho
   ·dsimp only; rw [Kv]; rfl
   dsimp only; rw [← List.append_assoc]; exact A5 (hDo o ho)
  dsimp only
  rw [ll hmk, hCd, hTd]
  rfl
 have hke : k = l.length := by simp at ht28; omega
 subst hke
 have hm2 := t7 hnf
 refine K.lgE ?_;refine K.thN ?_;refine Z7 ?_;refine Ws ?_;exact K.fin (V.two V.tmp V.tmp) ⟨by rw [hm, hm2], rfl⟩ (hlow := by simp only [S9, List.mem_cons, List.mem_nil_iff, or_false]; rintro y (rfl | rfl); exact Cr; simp)

/-! SoundJoins: one behind the other, in one. -/
/-! How long plan.Text's pieces are. -/
section
variable {O X U : List AObj} {i : Nat} {b y : AObj}
end
/-- Moves whose numbers are ones of 64 bits. -/
structure RngMv (m : Mov) : Prop where
 ahead : ∀ e ∈ m.ahead, Cf Fp e = true
 back : ∀ e ∈ m.back, Cf Fp e = true
theorem W8 {l : List Expr} (h20 : l.length ≤ 1048576) (h : l.any Ix = false) (hr : ∀ e ∈ l, Cf Fp e = true) : OkEs l := by
 have h1 : ∀ e ∈ l, Slim e := fun e he => Hs (by
  rw [List.any_eq_false] at h
  simpa using h e he)
 exact ⟨h20, fun e he => (h1 e he).ok, fun e he => by have := (h1 e he).size; omega, hr⟩
theorem eo {m : Mov} (h : Y5 m = false) (hr : RngMv m) : OkMov m := by
 unfold Y5 at h
 simp only [Bool.or_eq_false_iff, decide_eq_false_iff_not] at h
 obtain ⟨⟨⟨⟨⟨⟨h1, h2⟩, h3⟩, h4⟩, h5⟩, h6⟩, h7⟩ := h
 have h50 : m.give.length ≤ 1000000 := by
  unfold Is at h1
  simp only [Bool.or_eq_false_iff, decide_eq_false_iff_not] at h1
  omega
 refine ⟨by omega, fun s hs => ?_, Ze h1, h50, W8 (by omega) h6 hr.ahead, W8 (by omega) h7 hr.back⟩
 rw [List.any_eq_false] at h5
 have := h5 s hs
 simp only [decide_eq_true_eq] at this
 omega
theorem ep {l : List Mov} (h : km l = false) (hr : ∀ m ∈ l, RngMv m) : OkMovs l := by
 unfold km at h
 simp only [Bool.or_eq_false_iff, decide_eq_false_iff_not] at h
 refine ⟨by omega, fun m hm => eo ?_ (hr m hm)⟩
 rw [List.any_eq_false] at h
 simpa using h.2 m hm
/-! fuse: the chapter's example, and the weight of trees. -/
def fzS : Str := [114, 101, 110, 97, 109, 101, 32, 97, 32, 116, 111, 32, 98, 59, 32, 97, 100, 100, 32, 99, 32, 105, 110, 116, 32, 61, 32, 98, 32, 42, 32, 50, 59]
def fzL : List Mov := (Y3 fzS).1
theorem lm : Y3 fzS = (fzL, 0, 0) := by kernel_rfl
def fzC : List Col := [⟨[97], 1⟩]
theorem pm : OkCols fzC := ⟨by decide, fun y hy => by rw [List.mem_singleton.1 hy]; decide⟩
def weightM (l : List Expr) : Nat := (l.map sizeE).sum
theorem J6 {l : List Expr} {x : Nat} (h : x < l.length) : weightM (l.take (x + 1)) = weightM (l.take x) + sizeE l[x] := by
 unfold weightM
 rw [List.take_succ_eq_append_getElem h, List.map_append, List.sum_append]
 simp
theorem Me {l : List Expr} {B : Nat} (h : ∀ e ∈ l, sizeE e ≤ B) : ∀ x, weightM (l.take x) ≤ x * B
 | 0 => by simp [weightM]
 | x + 1 => by
  have ih := Me h x
  by_cases hx : x < l.length
  ·rw [J6 hx]
   have := h l[x] (List.getElem_mem _)
   rw [Nat.add_mul]; omega
  rw [List.take_of_length_le (by omega)] at ih ⊢
  rw [Nat.add_mul]; omega
theorem c26 (l : List Expr) (hll : l.length ≤ 1048576) (hlo : ∀ e ∈ l, okE 61 e) (hls : ∀ e ∈ l, sizeE e ≤ 1048576) (Hp : List AObj) : AFun Tryz.prog 26 [B5 l] Hp (A2 (weightM l : Nat)) := by
 refine ACall.body [.tmp 2] [0] Tryz.func26 Tryz.ntmps26 (fun d => ?_)
 refine Z38 ?_;refine Z0 ?_;refine H5 ?_;refine Z18 ?_;refine R.fin [3, 6, 7, 8] ?_
 refine AW.loopC (α := Nat) (fun x => ⟨18, A4 3 (A2 (weightM (l.take x) : Nat)) (A4 6 (B5 l) (A4 7 (A2 (l.length : Nat)) (A4 8 (A2 (x : Nat)) (fun _ => .any)))), Hp, [], [], none⟩) (fun x => x ≤ l.length) (fun x => l.length - x) (0) (Nat.zero_le _) (StLe.of_eq (by simp [weightM])) rfl (fun x hx => ?_)
 refine Z0 ?_;refine R.fin [3, 6, 7, 8, 9] ?_
 refine W.condX (fun ht9 => ?_) (fun ht9 => ?_)
 ·have hlt : x < l.length := by simpa using ht9
  have hwn := J6 hlt
  have hwl := Me hls x
  have hsx := hls _ (List.getElem_mem hlt)
  refine Z88 ?_
  refine R.go (h := Q.indexAddr (x) (A3 l[x]) (fun _ => Ak hlt)) (hr := ?_)
  refine Nf ?_;refine R.fin [3, 5, 6, 7, 8] ?_;refine Z13 ?_;refine R.call Tryz.call53 (c53 61 l[x] (hlo _ (List.getElem_mem _)) (by omega) (hls _ (List.getElem_mem _)) _) ?_;refine Z1 ?_;refine R.fin [3, 6, 7, 8] ?_;refine Ng ?_;refine R.fin [3, 6, 7, 8] ?_;refine bt ?_
  rw [hwn]
  refine StCut.take (own := []) (fun _ => .refl _) (by repeat (first | exact Ap | refine Ao (by first | (simp [oid, or_imp, forall_and]; done) | exact Cr) ?_)) (by simp) (by simp)
 have hxe : l.length ≤ x := by simpa using ht9
 refine Z27 ?_;refine Sj ?_;exact K.fin (V.one V.tmp) ⟨by rw [List.take_of_length_le hxe], rfl⟩

/-! ref21.Over: names that nothing has stand between. -/
def Dw (i : Nat) : Str := [35, UInt8.ofNat (97 + i)]
def Au (c : List Col) (x : Expr) : Nat → Expr
 | 0 => x
 | i + 1 => match c[i]? with | some y => Eb y.name (Aj (Dw i)) (Au c x i) | none => Au c x i
def Bc (l : List Expr) (x : Expr) : Nat → Expr
 | 0 => x
 | i + 1 => match l[i]? with | some z => Eb (Dw i) z (Bc l x i) | none => Bc l x i
/-- ref21.Over. -/
def Jx (x : Expr) (c : List Col) (l : List Expr) : Expr × Int :=
 if ((!(Ai x)) || !(Dp c)) || ((c.length : Int) != (l.length : Int)) then (Aa, 1)
 else if l.any (fun e => !(Ai e)) then (Aa, 1)
 else if (Ax x).any (fun t => decide (Al t c < 0)) then (Aa, 9)
 else if !(Ai (Bc l (Au c x c.length) c.length)) then (Aa, 3)
 else (Bc l (Au c x c.length) c.length, 0)
mutual
def F5 (f : Str → Expr) : Expr → Expr
 | .mk o t v k => if o == 2 then f t else .mk o t v (F6 f k)
def F6 (f : Str → Expr) : List Expr → List Expr
  | [] => []
  | e :: r => F5 f e :: F6 f r
 end
mutual
theorem Pp (s : Str) (y : Expr) (f : Str → Expr) : ∀ x : Expr, Eb s y (F5 f x) = F5 (fun t => Eb s y (f t)) x
 | .mk o t v k => by
  rw [F5, F5]
  by_cases h : (o == 2) = true
  ·rw [if_pos h, if_pos h]
  have h1 : (o == 2) = false := by simpa using h
  rw [if_neg h, if_neg h, Eb, h1, if_neg (by simp), Rv s y f k]
theorem Rv (s : Str) (y : Expr) (f : Str → Expr) : ∀ x : List Expr, Q6 s y (F6 f x) = F6 (fun t => Eb s y (f t)) x
  | [] => rfl
  | e :: r => by rw [F6, F6, Q6, Pp s y f e, Rv s y f r]
 end
theorem Kl (c : List Col) (f : Str → Expr) (x : Expr) : ∀ i, Au c (F5 f x) i = F5 (fun t => Au c (f t) i) x
 | 0 => rfl
 | i + 1 => by
  rw [Au, Kl c f x i]
  simp only [Au]
  cases c[i]? with
  | none => rfl
  | some y => exact Pp _ _ _ x
theorem Km (l : List Expr) (f : Str → Expr) (x : Expr) : ∀ i, Bc l (F5 f x) i = F5 (fun t => Bc l (f t) i) x
 | 0 => rfl
 | i + 1 => by
  rw [Bc, Km l f x i]
  simp only [Bc]
  cases l[i]? with
  | none => rfl
  | some y => exact Pp _ _ _ x
mutual
theorem Tc : ∀ x : Expr, Cf C2 x = true → F5 Aj x = x
 | .mk o t v k, h => by
  rw [D9, Bool.and_eq_true] at h
  rw [F5]
  by_cases h2 : (o == 2) = true
  ·rw [if_pos h2]
   obtain ⟨h3, _⟩ := h
   have ho : o = 2 := by simpa using h2
   subst ho
   cases Fg h3
   rfl
  rw [if_neg h2, W9 k h.2]
theorem W9 : ∀ x : List Expr, Fo C2 x = true → F6 Aj x = x
  | [], _ => rfl
  | e :: r, h => by
    rw [Fo, Bool.and_eq_true] at h
    rw [F6, Tc e h.1, W9 r h.2]
 end
mutual
theorem Pq {f g : Str → Expr} : ∀ x : Expr, (∀ t, Ew t x = true → f t = g t) → F5 f x = F5 g x
 | .mk o t v k, h => by
  rw [F5, F5]
  by_cases h2 : (o == 2) = true
  ·rw [if_pos h2, if_pos h2]
   exact h t (by rw [Dh]; show ((o == 2 && t == t) || _) = true; rw [h2]; simp)
  rw [if_neg h2, if_neg h2, N6 k fun t ht => h t (by rw [Dh]; show (_ || Dn t k) = true; rw [ht]; simp)]
theorem N6 {f g : Str → Expr} : ∀ x : List Expr, (∀ t, Dn t x = true → f t = g t) → F6 f x = F6 g x
  | [], _ => rfl
  | e :: r, h => by
    rw [F6, F6, Pq e fun t ht => h t (by rw [Cd, ht]; rfl), N6 r fun t ht => h t (by rw [Cd, ht]; simp)]
 end
mutual
theorem Rw (c : List Col) (l : List Expr) : ∀ x : Expr, (∀ t, Ew t x = true → ¬ (Al t c < 0)) → putF c l x = some (F5 (fun t => l.getD (Al t c).toNat Aa) x)
 | .mk o t v k, h => by
  rw [putF, F5]
  by_cases h2 : (o == 2) = true
  ·rw [if_pos h2, if_pos h2, if_neg (h t (by rw [Dh]; show ((o == 2 && t == t) || _) = true; rw [h2]; simp))]
  rw [if_neg h2, if_neg h2, Pr c l k fun t ht => h t (by rw [Dh]; show (_ || Dn t k) = true; rw [ht]; simp)]
  rfl
theorem Pr (c : List Col) (l : List Expr) : ∀ x : List Expr, (∀ t, Dn t x = true → ¬ (Al t c < 0)) → Ft c l x = some (F6 (fun t => l.getD (Al t c).toNat Aa) x)
  | [], _ => rfl
  | e :: r, h => by
    rw [Ft, F6, Rw c l e fun t ht => h t (by rw [Cd, ht]; rfl), Pr c l r fun t ht => h t (by rw [Cd, ht]; simp)]
    rfl
 end
mutual
theorem Zy (c : List Col) (l : List Expr) {s : Str} (hs : Al s c < 0) : ∀ x : Expr, Cf C2 x = true → Ew s x = true → putF c l x = none
 | .mk o t v k, hn, h => by
  rw [putF]
  by_cases h2 : (o == 2) = true
  ·rw [if_pos h2]
   rw [D9, Bool.and_eq_true] at hn
   obtain ⟨h3, _⟩ := hn
   have ho : o = 2 := by simpa using h2
   subst ho
   cases Fg h3
   rw [Dh] at h
   have : t = s := by
    simp [Aj, Expr.op, Expr.text, Expr.kids, Dn, Cq] at h
    exact h
   rw [if_pos (by rw [this]; exact hs)]
  rw [if_neg h2]
  rw [D9, Bool.and_eq_true] at hn
  have h1 : (o == 2) = false := by simpa using h2
  rw [Dh] at h
  have h : ((o == 2 && t == s) || Dn s k) = true := h
  rw [h1, Bool.false_and, Bool.false_or] at h
  rw [Wa c l hs k hn.2 h]
  rfl
theorem Wa (c : List Col) (l : List Expr) {s : Str} (hs : Al s c < 0) : ∀ x : List Expr, Fo C2 x = true → Dn s x = true → Ft c l x = none
  | [], _, h => by cases h
  | e :: r, hn, h => by
    rw [Fo, Bool.and_eq_true] at hn
    rw [Cd, Bool.or_eq_true] at h
    rw [Ft]
    rcases h with h | h
    · rw [Zy c l hs e hn.1 h]
    rw [Wa c l hs r hn.2 h]
    cases putF c l e <;> rfl
 end
mutual
theorem Kn {s : Str} : ∀ x : Expr, Cf C2 x = true → Ew s x = true → El s = true
 | .mk o t v k, hn, h => by
  rw [D9, Bool.and_eq_true] at hn
  rw [Dh, Bool.or_eq_true] at h
  rcases h with h | h
  ·obtain ⟨h3, _⟩ := hn
   have h : (o == 2 && t == s) = true := h
   simp only [Bool.and_eq_true, beq_iff_eq] at h
   obtain ⟨rfl, rfl⟩ := h
   cases Fg h3 with
   | name t ht => exact ht
  exact N7 k hn.2 h
theorem N7 {s : Str} : ∀ x : List Expr, Fo C2 x = true → Dn s x = true → El s = true
  | [], _, h => by cases h
  | e :: r, hn, h => by
    rw [Fo, Bool.and_eq_true] at hn
    rw [Cd, Bool.or_eq_true] at h
    rcases h with h | h
    · exact Kn e hn.1 h
    exact N7 r hn.2 h
 end
theorem Zz (i : Nat) : El (Dw i) = false := by
 have : Do 35 = false := by decide
 unfold Dw El
 simp [this]
theorem ln {i j : Nat} (hi : i < 100) (hj : j < 100) (h : Dw i = Dw j) : i = j := by
 unfold Dw at h
 simp only [List.cons.injEq, and_true, true_and] at h
 have := congrArg UInt8.toNat h
 simp only [UInt8.toNat_ofNat'] at this
 omega
theorem N8 (s : Str) (y : Expr) : Eb s y (Aj s) = y := k8 (by simp [Aj, Expr.op, Expr.text])
theorem Hz {s t : Str} (y : Expr) (h : t ≠ s) : Eb s y (Aj t) = Aj t := by
 rw [Aj, Eb, if_neg (by simpa using h)]
 rfl
theorem I0 {c : List Col} (hc : Dp c = true) {t : Str} {j : Nat} (hj : Al t c = (j : Int)) (hjc : j < c.length) (ht : (c.getD j ⟨[], 0⟩).name = t) : ∀ i, Au c (Aj t) i = if i ≤ j then Aj t else Aj (Dw j)
 | 0 => by rw [if_pos (Nat.zero_le _)]; rfl
 | i + 1 => by
  obtain ⟨hok, hnd⟩ := jb hc
  rw [Au]
  have ih := I0 hc hj hjc ht i
  cases hi : c[i]? with
  | none =>
   have : c.length ≤ i := List.getElem?_eq_none_iff.1 hi
   rw [ih]
   show (if i ≤ j then Aj t else Aj (Dw j)) = _
   rw [if_neg (by omega), if_neg (by omega)]
  | some y =>
   show Eb y.name _ _ = _
   have hf := Xy hnd hi
   rw [ih]
   by_cases e : i = j
   ·subst e
    have hy : y.name = t := by
     rw [← ht, List.getD_eq_getElem?_getD, hi]
     rfl
    rw [if_pos (Nat.le_refl _), if_neg (by omega), hy]
    exact N8 _ _
   by_cases h : i ≤ j
   ·rw [if_pos h, if_pos (by omega)]
    refine Hz _ fun h2 => ?_
    rw [← h2, hj] at hf
    omega
   rw [if_neg h, if_neg (by omega)]
   refine Hz _ fun h2 => ?_
   have h3 := (hok y (List.mem_of_getElem? hi)).name
   rw [← h2, Ff, Zz] at h3
   cases h3
theorem Ko {l : List Expr} (hl : ∀ e ∈ l, Cf C2 e = true) (h100 : l.length < 100) {j : Nat} (hj : j < l.length) : ∀ i, Bc l (Aj (Dw j)) i = if i ≤ j then Aj (Dw j) else l.getD j Aa
 | 0 => by rw [if_pos (Nat.zero_le _)]; rfl
 | i + 1 => by
  rw [Bc]
  have ih := Ko hl h100 hj i
  cases hi : l[i]? with
  | none =>
   have : l.length ≤ i := List.getElem?_eq_none_iff.1 hi
   rw [ih]
   show (if i ≤ j then Aj (Dw j) else l.getD j Aa) = _
   rw [if_neg (by omega), if_neg (by omega)]
  | some z =>
   show Eb (Dw i) z _ = _
   have hil := (List.getElem?_eq_some_iff.1 hi).1
   rw [ih]
   by_cases e : i = j
   ·subst e
    rw [if_pos (Nat.le_refl _), if_neg (by omega), N8, List.getD_eq_getElem?_getD, hi]
    rfl
   by_cases h : i ≤ j
   ·rw [if_pos h, if_pos (by omega)]
    exact Hz _ fun h2 => e (ln (by omega) (by omega) h2.symm)
   rw [if_neg h, if_neg (by omega), List.getD_eq_getElem?_getD, List.getElem?_eq_getElem hj]
   refine put_none _ _ _ ?_
   cases hn : Ew (Dw i) l[j] with
   | false => exact hn
   | true =>
    have h3 := Kn l[j] (hl _ (List.getElem_mem hj)) hn
    rw [Zz] at h3
    cases h3
/-- What is put one behind the other, over marks, is put at once. -/
theorem pq {x : Expr} {c : List Col} {l : List Expr} (h12 : c.length < 100) : D0 x c l = Jx x c l := by
 have hany : l.any Cy = l.any (fun e => !(Ai e)) := by
  congr 1
  funext e
  rw [Cy, E8]
 unfold D0 Jx
 rw [E8, hany, Nm]
 by_cases h1 : (((!(Ai x)) || !(Dp c)) || ((c.length : Int) != (l.length : Int))) = true
 ·rw [if_pos h1, if_pos (by simp only [Bool.or_eq_true] at h1 ⊢; rcases h1 with (h | h) | h; exact .inl (.inl (.inl h)); exact .inl (.inr h); exact .inr h)]
 rw [if_neg h1]
 by_cases h2 : (l.any fun e => !(Ai e)) = true
 ·rw [if_pos h2, if_pos (by rw [h2]; simp)]
 rw [if_neg h2, if_neg (by simp only [Bool.or_eq_true] at h1 ⊢; rintro (((h | h) | h) | h); exact h1 (.inl (.inl h)); exact h2 h; exact h1 (.inl (.inr h)); exact h1 (.inr h))]
 simp only [Bool.or_eq_true, not_or, Bool.not_eq_true', Bool.not_eq_false, bne_iff_ne, ne_eq, Classical.not_not] at h1
 obtain ⟨⟨hx, hc⟩, hl⟩ := h1
 have hxn := E3 hx
 have hln : ∀ e ∈ l, Cf C2 e = true := fun e he => E3 (by
  cases h : Ai e with
  | true => rfl
  | false => exact absurd (List.any_eq_true.2 ⟨e, he, by rw [h]; rfl⟩) h2)
 by_cases h3 : ((Ax x).any fun t => decide (Al t c < 0)) = true
 ·rw [if_pos h3]
  obtain ⟨t, ht, hf⟩ := List.any_eq_true.1 h3
  rw [Zy c l (of_decide_eq_true hf) x hxn (by rw [← M1]; exact List.contains_iff_mem.2 ht)]
 rw [if_neg h3]
 have hfd : ∀ t, Ew t x = true → ¬ (Al t c < 0) := fun t ht hf => h3 (List.any_eq_true.2 ⟨t, List.contains_iff_mem.1 (by rw [M1]; exact ht), decide_eq_true hf⟩)
 rw [Rw c l x hfd]
 have e : Bc l (Au c x c.length) c.length = F5 (fun t => l.getD (Al t c).toNat Aa) x := by
  have e1 : Au c x c.length = F5 (fun t => Au c (Aj t) c.length) x := by
   conv => lhs; rw [← Tc x hxn]
   exact Kl c Aj x c.length
  rw [e1, Km]
  refine Pq x fun t ht => ?_
  obtain ⟨j, hj, hjc⟩ := Eg (hfd t ht)
  obtain ⟨j', y, hy, hyn, hj'⟩ := find_mem.1 (hfd t ht)
  have hjj : j = j' := by omega
  subst hjj
  rw [I0 hc hj hjc (by rw [List.getD_eq_getElem?_getD, hy]; exact hyn), if_neg (by omega), Ko hln (by omega) (by omega), if_neg (by omega), hj]
  rfl
 rw [e]
 show (if Am _ = true then _ else _) = _
 rw [E8]
 cases Ai (F5 (fun t => l.getD (Al t c).toNat Aa) x) <;> rfl
/-! How great the trees of ref21.Over are on the way. -/
mutual
theorem Mf {f : Str → Expr} {S : Nat} (h1 : 1 ≤ S) : ∀ x : Expr, (∀ t, Ew t x = true → sizeE (f t) ≤ S) → sizeE (F5 f x) ≤ sizeE x * S
 | .mk o t v k, h => by
  rw [F5]
  by_cases h2 : (o == 2) = true
  ·rw [if_pos h2, sizeE]
   have h3 := h t (by rw [Dh]; show ((o == 2 && t == t) || _) = true; rw [h2]; simp)
   have : S ≤ (1 + Ah k) * S := Nat.le_mul_of_pos_left _ (by omega)
   omega
  rw [if_neg h2, sizeE, sizeE, Nat.add_mul]
  have := Ps h1 k fun t ht => h t (by rw [Dh]; show (_ || Dn t k) = true; rw [ht]; simp)
  omega
theorem Ps {f : Str → Expr} {S : Nat} (h1 : 1 ≤ S) : ∀ x : List Expr, (∀ t, Dn t x = true → sizeE (f t) ≤ S) → Ah (F6 f x) ≤ Ah x * S
  | [], _ => by simp [F6, Ah]
  | e :: r, h => by
    rw [F6, Ah, Ah, Nat.add_mul]
    have a := Mf h1 e fun t ht => h t (by rw [Cd, ht]; rfl)
    have b := Ps h1 r fun t ht => h t (by rw [Cd, ht]; simp)
    omega
 end
theorem Rx (f : Str → Expr) : ∀ k, F6 f k = k.map (F5 f)
 | [] => rfl
 | e :: r => by rw [F6, Rx f r]; rfl
theorem Ry {t : Str} {x : Expr} : ∀ {k : List Expr}, x ∈ k → Ew t x = true → Dn t k = true
 | a :: r, h, hn => by
  rw [Cd]
  rcases List.mem_cons.1 h with rfl | h
  ·rw [hn]; rfl
  rw [Ry h hn]; simp
theorem Td {f : Str → Expr} {m : Nat} : ∀ (n : Nat) (x : Expr), okE n x → (∀ t, Ew t x = true → okE m (f t)) → okE (n + m) (F5 f x)
 | 0, x, h, _ => h.elim
 | n + 1, .mk o t v k, h, hf => by
  rw [F5]
  by_cases h2 : (o == 2) = true
  ·rw [if_pos h2]
   exact Cw (by omega) (hf t (by rw [Dh]; show ((o == 2 && t == t) || _) = true; rw [h2]; simp))
  rw [if_neg h2, show n + 1 + m = (n + m) + 1 by omega, Rx]
  refine ⟨h.1, by show (k.map (F5 f)).length ≤ _; rw [List.length_map]; exact h.2.1, fun z hz => ?_⟩
  have hz' : z ∈ k.map (F5 f) := hz
  obtain ⟨y, hy, rfl⟩ := List.mem_map.1 hz'
  exact Td n y (h.2.2 y hy) fun t ht => hf t (by rw [Dh]; show (_ || Dn t k) = true; rw [Ry hy ht]; simp)
theorem Te {s : Str} (h : s.length ≤ 1048576) : okE 1 (Aj s) := ⟨h, by simp [Aj, Expr.kids], fun z hz => by simp [Aj, Expr.kids] at hz⟩
theorem er (s : Str) : sizeE (Aj s) = 1 := rfl
/-- What ref21.Over stands on behind its checks. -/
structure OverOk (x : Expr) (c : List Col) (l : List Expr) : Prop where
 hx : Ai x = true
 hc : Dp c = true
 hl : c.length = l.length
 top : c.length < 100
 all : ∀ e ∈ l, Ai e = true
 fd : ∀ t, Ew t x = true → ¬ (Al t c < 0)
theorem OverOk.m1 {x : Expr} {c : List Col} {l : List Expr} (h : OverOk x c l) (i : Nat) : Au c x i = F5 (fun t => Au c (Aj t) i) x := by
 conv => lhs; rw [← Tc x (E3 h.hx)]
 exact Kl c Aj x i
theorem OverOk.name {x : Expr} {c : List Col} {l : List Expr} (h : OverOk x c l) {t : Str} (ht : Ew t x = true) (i : Nat) : Au c (Aj t) i = Aj t ∨ ∃ j, Au c (Aj t) i = Aj (Dw j) := by
 obtain ⟨j, hj, hjc⟩ := Eg (h.fd t ht)
 obtain ⟨j', y, hy, hyn, hj'⟩ := find_mem.1 (h.fd t ht)
 have hjj : j = j' := by omega
 subst hjj
 rw [I0 h.hc hj hjc (by rw [List.getD_eq_getElem?_getD, hy]; exact hyn)]
 split
 ·exact .inl rfl
 exact .inr ⟨_, rfl⟩
theorem Yi {t : Str} (h : El t = true) : t.length ≤ 16 := by
 cases t with
 | nil => simp
 | cons c r =>
  simp only [El, Bool.and_eq_true, decide_eq_true_eq] at h
  exact h.1.1.1
theorem OverOk.marks {x : Expr} {c : List Col} {l : List Expr} (h : OverOk x c l) (i : Nat) : okE 31 (Au c x i) ∧ sizeE (Au c x i) ≤ 300 := by
 have h0 := Hf h.hx
 rw [h.m1 i]
 refine ⟨Td (m := 1) 30 x h0.1 fun t ht => ?_, ?_⟩
 ·rcases h.name ht i with e | ⟨j, e⟩
  ·rw [e]
   exact Te (by have := Yi (Kn x (E3 h.hx) ht); omega)
  rw [e]
  exact Te (by simp [Dw])
 have := Mf (f := fun t => Au c (Aj t) i) (S := 1) (Nat.le_refl _) x fun t ht => by
  rcases h.name ht i with e | ⟨j, e⟩ <;> rw [e] <;> exact Nat.le_refl _
 omega
theorem OverOk.f1 {x : Expr} {c : List Col} {l : List Expr} (h : OverOk x c l) (i : Nat) : Bc l (Au c x c.length) i = F5 (fun t => Bc l (Au c (Aj t) c.length) i) x := by
 rw [h.m1, Km]
theorem OverOk.fill {x : Expr} {c : List Col} {l : List Expr} (h : OverOk x c l) {t : Str} (ht : Ew t x = true) (i : Nat) : (∃ j, Bc l (Au c (Aj t) c.length) i = Aj (Dw j)) ∨ Bc l (Au c (Aj t) c.length) i ∈ l := by
 obtain ⟨j, hj, hjc⟩ := Eg (h.fd t ht)
 obtain ⟨j', y, hy, hyn, hj'⟩ := find_mem.1 (h.fd t ht)
 have hjj : j = j' := by omega
 subst hjj
 have hl := h.hl
 have ht := h.top
 rw [I0 h.hc hj hjc (by rw [List.getD_eq_getElem?_getD, hy]; exact hyn), if_neg (by omega), Ko (fun e he => E3 (h.all e he)) (by omega) (by omega)]
 split
 ·exact .inl ⟨j, rfl⟩
 refine .inr ?_
 rw [List.getD_eq_getElem?_getD, List.getElem?_eq_getElem (by omega)]
 exact List.getElem_mem (by omega)
theorem OverOk.fills {x : Expr} {c : List Col} {l : List Expr} (h : OverOk x c l) (i : Nat) : okE 60 (Bc l (Au c x c.length) i) ∧ sizeE (Bc l (Au c x c.length) i) ≤ 90000 := by
 have h0 := Hf h.hx
 rw [h.f1 i]
 refine ⟨Td (m := 30) 30 x h0.1 fun t ht => ?_, ?_⟩
 ·rcases h.fill ht i with ⟨j, e⟩ | e
  ·rw [e]
   exact Cw (by omega) (Te (by simp [Dw]))
  exact (Hf (h.all _ e)).1
 have := Mf (f := fun t => Bc l (Au c (Aj t) c.length) i) (S := 300) (by decide) x fun t ht => by
  rcases h.fill ht i with ⟨j, e⟩ | e
  ·rw [e, er]; decide
  exact (Hf (h.all _ e)).2
 have h2 : sizeE x * 300 ≤ 300 * 300 := Nat.mul_le_mul_right _ h0.2
 omega
theorem x9 (i : Nat) (h : i < 100) : IntKind.u8.wrap (97 + (i : Int)) = ((UInt8.ofNat (97 + i)).toNat : Int) := by
 have e : (UInt8.ofNat (97 + i)).toNat = (97 + i) % 256 := UInt8.toNat_ofNat'
 rw [e]
 simp [IntKind.wrap, IntKind.signed, IntKind.bits]
theorem pt {x : Expr} {c : List Col} {l : List Expr} (h : (((!(Ai x)) || !(Dp c)) || ((c.length : Int) != (l.length : Int))) = true) : Jx x c l = (Aa, 1) := if_pos h
theorem pu {x : Expr} {c : List Col} {l : List Expr} (h : (((!(Ai x)) || !(Dp c)) || ((c.length : Int) != (l.length : Int))) = false) {e : Expr} (he : e ∈ l) (h2 : Ai e = false) : Jx x c l = (Aa, 1) := by
 unfold Jx
 rw [if_neg (by rw [h]; simp), if_pos (List.any_eq_true.2 ⟨e, he, by rw [h2]; rfl⟩)]
theorem pv {x : Expr} {c : List Col} {l : List Expr} (h : (((!(Ai x)) || !(Dp c)) || ((c.length : Int) != (l.length : Int))) = false) (h2 : ∀ (j : Nat) (e : Expr), l[j]? = some e → (!(Ai e)) = false) : l.any (fun e => !(Ai e)) = false ∧ Jx x c l = if (Ax x).any (fun t => decide (Al t c < 0)) then (Aa, 9)
 else if !(Ai (Bc l (Au c x c.length) c.length)) then (Aa, 3)
 else (Bc l (Au c x c.length) c.length, 0) := by
 have h3 : l.any (fun e => !(Ai e)) = false := by
  rw [List.any_eq_false]
  intro e he
  obtain ⟨j, hj⟩ := List.getElem?_of_mem he
  rw [h2 j e hj]
  simp
 refine ⟨h3, ?_⟩
 unfold Jx
 rw [if_neg (by rw [h]; simp), if_neg (by rw [h3]; simp)]
theorem lq {x : Expr} {c : List Col} {l : List Expr} (h : (((!(Ai x)) || !(Dp c)) || ((c.length : Int) != (l.length : Int))) = false) (h2 : l.any (fun e => !(Ai e)) = false) (h100 : c.length < 100) (h3 : ∀ (j : Nat) (t : Str), (Ax x)[j]? = some t → decide (Al t c < 0) = false) : OverOk x c l := by
 simp only [Bool.or_eq_false_iff, Bool.not_eq_false', bne_eq_false_iff_eq] at h
 refine ⟨h.1.1, h.1.2, by omega, h100, fun e he => ?_, fun t ht => ?_⟩
 ·rw [List.any_eq_false] at h2
  simpa using h2 e he
 have : t ∈ Ax x := List.contains_iff_mem.1 (by rw [M1]; exact ht)
 obtain ⟨j, hj⟩ := List.getElem?_of_mem this
 simpa using h3 j t hj
theorem lr {c : List Col} {x : Expr} {i : Nat} (h : i < c.length) : Au c x (i + 1) = Eb c[i].name (Aj (Dw i)) (Au c x i) := by rw [Au, List.getElem?_eq_getElem h]
theorem ls {l : List Expr} {x : Expr} {i : Nat} (h : i < l.length) : Bc l x (i + 1) = Eb (Dw i) l[i] (Bc l x i) := by rw [Bc, List.getElem?_eq_getElem h]
theorem c52 (i : Nat) (h : i < 100) (Hp : List AObj) : AFun Tryz.prog 52 [A2 (i : Nat)] Hp (A6 (Dw i)) := by
 refine ACall.body [.tmp 2] [0] Tryz.func52 Tryz.ntmps52 (fun d => ?_)
 refine Z38 ?_;refine Z0 ?_
 refine R.go (h := Q.add64 (h1 := fun _ => by omega) (h2 := fun _ => by omega)) (hr := ?_)
 refine R.go ?_
 rw [x9 i h]
 refine I6 ?_;refine R.bytesStr [UInt8.ofNat (97 + i)] jU jU jU ?_
 refine R.go (h := Q.sadd (hl := fun _ => by simp only [List.length_cons, List.length_nil]; omega)) (hr := ?_)
 exact gc

theorem c24 (x : Expr) (hok : okE 61 x) (hsz : sizeE x ≤ 1048576) (c : List Col) (hc : OkCols c) (h100 : c.length < 100) (l : List Expr) (hll : l.length ≤ 1048576) (hlo : ∀ e ∈ l, okE 61 e) (hls : ∀ e ∈ l, sizeE e ≤ 1048576) (Hp : List AObj) : AFun Tryz.prog 24 [A3 x, Ac c, B5 l] Hp (.tup [A3 (Jx x c l).1, A2 (Jx x c l).2]) := by
 refine ACall.body [.cell 6 45, .tmp 7] [0, 1, 2] Tryz.func24 Tryz.ntmps24 (fun d => ?_)
 refine Wt ?_;refine R.alloc jZ ?_;refine R.go ?_;refine R.fin [1, 2, 3, 6] ?_;refine Z34 ?_;refine R.call Tryz.call47 (c47 61 x hok (by decide) hsz _) ?_;refine Z82 ?_;refine G.call Tryz.call48 (fun hB => c48 c hc _) ?_;refine G.go ?_;refine Z36 ?_;refine Wu ?_;refine R.fin [1, 2, 3, 6, 27] ?_
 refine W.cond (fun ht27 => ?_) (fun ht27 => ?_)
 ·simp only [List.length_map] at ht27
  have hm := pt ht27
  refine bi ?_;exact Z57
 simp only [List.length_map] at ht27
 refine Uc ?_;refine R.fin [1, 2, 3, 6, 8] ?_
 refine AW.loopC (α := Nat) (fun i => ⟨93, A4 1 (Ac c) (A4 2 (B5 l) (A4 3 (.ptr (oid Hp.length 0) 0) (A4 6 (.ptr (oid Hp.length 1) 0) (A4 8 (A2 (i : Nat)) (fun _ => .any))))), Hp, [.cells 45 (Ba x), .cells 45 [A2 0, A6 [], A2 0, A2 0, A6 [], .nil]], [], none⟩) (fun i => i ≤ l.length ∧ ∀ (j : Nat) (y : Expr), j < i → l[j]? = some y → (!(Ai y)) = false) (fun i => l.length - i) (0) ⟨Nat.zero_le _, fun j y h => by omega⟩ (StLe.of_eq (by simp)) rfl (fun i hi => ?_)
 refine Z46 ?_;refine R.fin [1, 2, 3, 6, 8, 32] ?_
 refine W.cond (fun ht32 => ?_) (fun ht32 => ?_)
 ·have hlt : i < l.length := by simpa using ht32
  refine U9 ?_
  refine R.go (h := Q.indexAddr (i) (A3 l[i]) (fun _ => Ak hlt)) (hr := ?_)
  refine R.go ?_;refine R.call Tryz.call47 (c47 61 l[i] (hlo _ (List.getElem_mem hlt)) (by decide) (hls _ (List.getElem_mem hlt)) _) ?_;refine R.go ?_;refine R.fin [1, 2, 3, 6, 8, 40] ?_
  refine W.cond (fun ht40 => ?_) (fun ht40 => ?_)
  ·have hm := pu ht27 (List.getElem_mem hlt) (by simpa using ht40)
   refine bi ?_;refine AW.ret ?_;exact Z97
  refine Z96 ?_;refine R.fin [1, 2, 3, 6, 8] ?_;exact K.lpN (i + 1) ⟨hlt, Bk hlt hi.2 ht40⟩ (by omega) (StCut.of_eq rfl)
 have hxe : l.length ≤ i := by simpa using ht32
 obtain ⟨hany, hm3⟩ := pv ht27 (fun j y hy => hi.2 j y (by have := (List.getElem?_eq_some_iff.1 hy).1; omega) hy)
 have hnl := ec x
 refine Z59 ?_;refine Z0 ?_;refine R.call Tryz.call49 (c49 x hsz _) ?_;refine R.go ?_;refine R.fin [1, 2, 3, 6, 9] ?_;refine Z34 ?_;refine R.fin [1, 2, 3, 6, 9, 10] ?_
 refine AW.loopC (α := Nat) (fun i => ⟨93, A4 1 (Ac c) (A4 2 (B5 l) (A4 3 (.ptr (oid Hp.length 0) 0) (A4 6 (.ptr (oid Hp.length 1) 0) (A4 9 (Dg (Ax x)) (A4 10 (A2 (i : Nat)) (fun _ => .any)))))), Hp, [.cells 45 (Ba x), .cells 45 [A2 0, A6 [], A2 0, A2 0, A6 [], .nil]], [], none⟩) (fun i => i ≤ (Ax x).length ∧ ∀ (j : Nat) (y : Str), j < i → (Ax x)[j]? = some y → decide (Al y c < 0) = false) (fun i => (Ax x).length - i) (0) ⟨Nat.zero_le _, fun j y h => by omega⟩ (StLe.of_eq (by simp)) rfl (fun i hi => ?_)
 refine Z46 ?_;refine R.fin [1, 2, 3, 6, 9, 10, 47] ?_
 refine W.cond (fun ht47 => ?_) (fun ht47 => ?_)
 ·have hlt : i < (Ax x).length := by simpa using ht47
  refine Z62 ?_;refine Z7 ?_
  refine R.go (h := Q.indexAddr (i) (A6 (Ax x)[i]) (fun _ => Ak hlt)) (hr := ?_)
  refine R.go ?_;refine R.call Tryz.call50 (c50 c hc (Ax x)[i] _) ?_;refine R.go ?_;refine R.fin [1, 2, 3, 6, 9, 10, 56] ?_
  refine W.cond (fun ht56 => ?_) (fun ht56 => ?_)
  ·have hm : Jx x c l = (Aa, 9) := by rw [hm3, if_pos (List.any_eq_true.2 ⟨_, List.getElem_mem hlt, ht56⟩)]
   refine bi ?_;refine AW.ret ?_;exact Z97
  refine Z96 ?_;refine R.fin [1, 2, 3, 6, 9, 10] ?_;exact K.lpN (i + 1) ⟨hlt, Bk hlt hi.2 ht56⟩ (by omega) (StCut.of_eq rfl)
 have hxe : (Ax x).length ≤ i := by simpa using ht47
 have hn3 : ∀ (j : Nat) (t : Str), (Ax x)[j]? = some t → decide (Al t c < 0) = false := fun j y hy => hi.2 j y (by have := (List.getElem?_eq_some_iff.1 hy).1; omega) hy
 have hov := lq ht27 hany h100 hn3
 have hm4 := hm3.trans (if_neg (by rw [List.any_eq_true]; rintro ⟨t, ht, hf⟩; obtain ⟨j, hj⟩ := List.getElem?_of_mem ht; rw [hn3 j t hj] at hf; cases hf))
 have hcl := hov.hl
 refine Z59 ?_;refine Z34 ?_;refine R.fin [1, 2, 3, 6, 11] ?_
 refine AW.loopC (α := Nat) (fun i => ⟨93, A4 1 (Ac c) (A4 2 (B5 l) (A4 3 (.ptr (oid Hp.length 0) 0) (A4 6 (.ptr (oid Hp.length 1) 0) (A4 11 (A2 (i : Nat)) (fun _ => .any))))), Hp, [.cells 45 (Ba (Au c x i)), .cells 45 [A2 0, A6 [], A2 0, A2 0, A6 [], .nil]], [], none⟩) (fun i => i ≤ c.length) (fun i => c.length - i) (0) (Nat.zero_le _) (StLe.of_eq (by simp [Au])) rfl (fun i hi => ?_)
 refine Z46 ?_;refine R.fin [1, 2, 3, 6, 11, 61] ?_
 refine W.cond (fun ht61 => ?_) (fun ht61 => ?_)
 ·have hlt : i < c.length := by simpa using ht61
  refine Z62 ?_;refine W.drawQ0 [0, 0, 0, 6, 14, 30, 0, 64, 192, 511, 1023] 9 Ad (by kernel_rfl) ?_;refine Z56 ?_
  refine D.go (h := Q.indexAddr (i) (Av c[i]) (fun _ => Ak hlt)) (hr := ?_)
  refine Z56 ?_;refine D.call Tryz.call52 (c52 i (by omega) _) ?_;refine D.build (places := #[(0, 1), (1, 1), (2, 3), (5, 1)]) jU (fun w => by simp) jZ ?_;refine D.tail ?_;refine R.wk 72 _ (Ri (Dw i)) ?_;refine R.call Tryz.call51 (c51 c[i].name (Aj (Dw i)) 61 (Au c x i) (Cw (by decide) (hov.marks i).1) _) ?_;refine Fa ?_;refine R.fin [1, 2, 3, 6, 11] ?_;refine Px ?_;refine R.fin [1, 2, 3, 6, 11] ?_;exact K.lpN (i + 1) hlt (by omega) (StCut.of_eq (by rw [lr hlt]; rfl))
 have hxe : i = c.length := by simp at ht61; omega
 subst hxe
 refine Z59 ?_;refine Z34 ?_;refine R.fin [1, 2, 3, 6, 12] ?_
 refine AW.loopC (α := Nat) (fun i => ⟨93, A4 1 (Ac c) (A4 2 (B5 l) (A4 3 (.ptr (oid Hp.length 0) 0) (A4 6 (.ptr (oid Hp.length 1) 0) (A4 12 (A2 (i : Nat)) (fun _ => .any))))), Hp, [.cells 45 (Ba (Bc l (Au c x c.length) i)), .cells 45 [A2 0, A6 [], A2 0, A2 0, A6 [], .nil]], [], none⟩) (fun i => i ≤ c.length) (fun i => c.length - i) (0) (Nat.zero_le _) (StLe.of_eq (by simp [Bc])) rfl (fun i hi => ?_)
 refine Z46 ?_;refine R.fin [1, 2, 3, 6, 12, 77] ?_
 refine W.cond (fun ht77 => ?_) (fun ht77 => ?_)
 ·have hlt : i < c.length := by simpa using ht77
  have hle : i < l.length := by omega
  refine Z62 ?_;refine W.drawQ0 [0, 0, 2, 0, 0, 24, 56, 127, 255] 7 Ad (by kernel_rfl) ?_;refine Z17 ?_;refine D.call Tryz.call52 (c52 i (by omega) _) ?_;refine Z17 ?_
  refine D.go (h := Q.indexAddr (i) (A3 l[i]) (fun _ => Ak hle)) (hr := ?_)
  refine gu ?_;refine R.call Tryz.call51 (c51 (Dw i) l[i] 61 (Bc l (Au c x c.length) i) (Cw (by decide) (hov.fills i).1) _) ?_;refine Fa ?_;refine R.fin [1, 2, 3, 6, 12] ?_;refine Px ?_;refine R.fin [1, 2, 3, 6, 12] ?_;exact K.lpN (i + 1) hlt (by omega) (StCut.of_eq (by rw [ls hle]; rfl))
 have hxe : i = c.length := by simp at ht77; omega
 subst hxe
 refine Z59 ?_;refine Z34 ?_
 refine R.call Tryz.call47 (c47 61 (Bc l (Au c x c.length) c.length) (Cw (by decide) (hov.fills c.length).1) (by decide) (by have := (hov.fills c.length).2; omega) _) ?_
 refine R.go ?_;refine R.fin [3, 6, 90] ?_
 refine W.cond (fun ht90 => ?_) (fun ht90 => ?_)
 ·have hm := hm4.trans (if_pos ht90)
  refine bi ?_;exact Z57
 have hm := hm4.trans (if_neg (by rw [ht90]; simp))
 refine Z6 ?_;refine Z80 ?_;refine Z49 ?_;refine AW.ret ?_;exact K.fin (V.two (V.cellN jA jS) V.tmp) ⟨by rw [hm]; show _ = AV.tup [A3 (Bc l (Au c x c.length) c.length), A2 0]; rw [A8] <;> rfl, rfl⟩ (hlow := by simp [or_imp, forall_and, Ab])

theorem tc {l : List Mov} (h : (l.all fun m => m.ahead.all (fun e => Cf Fp e) && m.back.all (fun e => Cf Fp e)) = true) : ∀ m ∈ l, RngMv m := fun m hm => by
 have := List.all_eq_true.1 h m hm
 rw [Bool.and_eq_true] at this
 exact ⟨fun e he => List.all_eq_true.1 this.1 e he, fun e he => List.all_eq_true.1 this.2 e he⟩
theorem xa : OkMovs fzL := ep (by kernel_rfl) (tc (by kernel_rfl))
def fzT : List Expr := (Md fzC fzL).1
theorem lu : Md fzC fzL = (fzT, 0) := by kernel_rfl
def fzE : Expr := fzT.getD 1 Aa
theorem td : (fzT.map A3)[1]? = some (A3 fzE) := by kernel_rfl
theorem tg : fzT.length = 2 := by kernel_rfl
theorem th : Cf Fp fzE = true := by kernel_rfl
theorem pw : Ix fzE = false := by kernel_rfl
theorem px : N5 fzE = ([97, 32, 42, 32, 50], 0) := by kernel_rfl
theorem c20 (Hp : List AObj) : AFun Tryz.prog 20 [] Hp (An true) := by
 refine ACall.body [.tmp 0] [] Tryz.func20 Tryz.ntmps20 (fun d => ?_)
 refine Z0 ?_;refine R.fin [] ?_;refine Cs ?_;refine R.call Tryz.call33 (c33 fzS (by decide) (by kernel_rfl) (wl (by kernel_rfl)) _) ?_
 rw [lm]
 refine Z25 ?_;refine qu ?_;refine R.fin [1, 2] ?_;refine Cs ?_;refine Ud ?_;refine R.buildSl jU jS jZ ?_;refine R.go ?_;refine R.call Tryz.call27 (c27 fzC pm (by decide) fzL xa _) ?_
 rw [lu]
 refine Z89 ?_;refine R.fin [2, 3, 4] ?_;refine Z46 ?_;refine Z9 ?_;refine Z86 ?_;refine R.go ?_;refine R.fin [3, 29] ?_
 refine W.cond (fun ht29 => ?_) (fun ht29 => ?_)
 ·rw [List.length_map, tg] at ht29; cases ht29
 refine O2 ?_
 refine R.go (h := Q.indexAddr (1) (A3 fzE) (fun _ => td)) (hr := ?_)
 refine R.go ?_;refine R.call Tryz.call42 (c42 61 fzE (Hs pw).ok (by decide) th _) ?_
 rw [px]
 refine Z89 ?_;refine R.fin [5, 6] ?_;refine Z7 ?_;refine Z9 ?_;refine Z1 ?_;refine R.fin [0] ?_;refine AW.ret ?_;exact K.fin (V.one V.tmp) ⟨by rfl, rfl⟩

theorem lv {x : Expr} {c : List Col} {l : List Expr} (hx : okE 61 x) (hl : ∀ e ∈ l, okE 61 e) : okE 122 (D0 x c l).1 := by
 have h0 : okE 122 Aa := ⟨by simp [Aa, Expr.text], by simp [Aa, Expr.kids], fun z hz => by simp [Aa, Expr.kids] at hz⟩
 unfold D0
 split
 ·exact h0
 rename_i hg
 simp only [Bool.or_eq_true, not_or] at hg
 have hc : c.length = l.length := by have := hg.2; simp at this; omega
 cases hp : putF c l x with
 | none => exact h0
 | some y =>
  have hy : okE 122 y := Tb (m := 60) hl hc 61 x y hx hp
  simp only
  split
  ·exact hy
  exact h0
theorem Wb {l : List Expr} {i : Nat} (h : i < l.length) (hw : ∀ e ∈ l.take i, Ix e = false) (hi : Ix l[i] = false) : ∀ e ∈ l.take (i + 1), Ix e = false := fun e he => by
 rw [List.take_succ_eq_append_getElem h] at he
 rcases List.mem_append.1 he with he | he
 ·exact hw e he
 rw [List.mem_singleton.1 he]; exact hi
theorem c5 (x : Expr) (c : List Col) (l : List Expr) (Hp : List AObj) : AFun Tryz.prog 5 [A3 x, Ac c, B5 l] Hp (An true) := by
 refine ACall.body [.tmp 6] [0, 1, 2] Tryz.func5 Tryz.ntmps5 (fun d => ?_)
 refine Z4 ?_;refine R.fin [1, 2, 3] ?_;refine Z65 ?_;refine R.call Tryz.call20 (c20 _) ?_;refine R.go ?_;refine R.fin [1, 2, 3, 17] ?_
 refine W.cond (fun ht17 => ?_) (fun ht17 => ?_)
 ·cases ht17
 refine Uc ?_;refine R.call Tryz.call21 (c21 x _) ?_;refine R.go ?_;refine G.go ?_;refine G.call Tryz.call9 (fun hB => ym c _) ?_;refine Z86 ?_;refine Z86 ?_;refine R.go ?_;refine R.fin [1, 2, 3, 33] ?_
 refine W.cond (fun ht33 => ?_) (fun ht33 => ?_)
 ·refine Z0 ?_;refine U3 ?_;exact Sl
 have hg : Ix x = false ∧ Is c = false ∧ l.length ≤ 26 ∧ c.length ≤ 26 := by
  simp only [Bool.or_eq_false_iff, decide_eq_false_iff_not, List.length_map] at ht33
  exact ⟨ht33.1.1.1, ht33.1.1.2, by omega, by omega⟩
 obtain ⟨hwx, hmc, h26, h26c⟩ := hg
 have hxs := Hs hwx
 have hc := Ze hmc
 refine O2 ?_
 refine R.call Tryz.call22 (c22 61 x hxs.ok (by have := hxs.size; omega) _) ?_
 refine R.go ?_;refine R.fin [1, 2, 3, 7] ?_;refine Z0 ?_;refine R.fin [1, 2, 3, 7, 8] ?_;refine Z0 ?_;refine R.fin [1, 2, 3, 7, 8, 9] ?_;refine Z34 ?_;refine R.fin [1, 2, 3, 7, 8, 9, 10] ?_
 refine AW.loopC (α := Nat × Nat) (fun s => ⟨91, A4 1 (Ac c) (A4 2 (B5 l) (A4 3 (.ro (Ba x)) (A4 7 (A2 (sizeE x : Nat)) (A4 8 (A2 (s.2 : Nat)) (A4 9 (A2 (weightM (l.take s.1) : Nat)) (A4 10 (A2 (s.1 : Nat)) (fun _ => .any))))))), Hp, [], [], none⟩) (fun s => s.1 ≤ l.length ∧ (∀ e ∈ l.take s.1, Ix e = false) ∧ s.2 ≤ 500) (fun s => l.length - s.1) ((0, 1)) ⟨Nat.zero_le _, by simp, by decide⟩ (StLe.of_eq (by simp [weightM])) rfl (fun s hs => ?_)
 obtain ⟨i, mo⟩ := s
 obtain ⟨hi0, hw, hm⟩ := hs
 dsimp only at hi0 hw hm ⊢
 refine Z46 ?_;refine R.fin [1, 2, 3, 7, 8, 9, 10, 39] ?_
 refine W.cond (fun ht39 => ?_) (fun ht39 => ?_)
 ·have hlt : i < l.length := by simpa using ht39
  refine Z62 ?_;refine Z28 ?_
  refine R.go (h := Q.indexAddr (i) (A3 l[i]) (fun _ => Ak hlt)) (hr := ?_)
  refine R.go ?_;refine R.call Tryz.call21 (c21 l[i] _) ?_;refine R.fin [1, 2, 3, 7, 8, 9, 10, 46] ?_
  refine W.cond (fun ht46 => ?_) (fun ht46 => ?_)
  ·refine Z0 ?_;refine U3 ?_;refine Z42 ?_;exact Sl
  have hi := Hs ht46
  have hwn := J6 hlt
  have hwl : weightM (l.take i) ≤ i * 500 := by
   have := Me (l := l.take i) (B := 500) (fun e he => (Hs (hw e he)).size) i
   rwa [List.take_take, Nat.min_self] at this
  have hsz := hi.size
  refine Wx ?_
  refine R.go (h := Q.indexAddr (i) (A3 l[i]) (fun _ => Ak hlt)) (hr := ?_)
  refine R.go ?_
  refine R.call Tryz.call22 (c22 61 l[i] hi.ok (by have := hi.size; omega) _) ?_
  refine R.go ?_;refine R.fin [1, 2, 3, 7, 8, 9, 10, 11] ?_;refine Z33 ?_;refine R.fin [1, 2, 3, 7, 8, 9, 10, 11] ?_;refine Z7 ?_;refine R.fin [1, 2, 3, 7, 8, 9, 10, 11, 57] ?_
  refine W.cond (fun ht57 => ?_) (fun ht57 => ?_)
  ·obtain ⟨q, hq, hq5⟩ : ∃ q, q = sizeE l[i] ∧ q ≤ 500 := ⟨_, rfl, hsz⟩
   refine Z13 ?_;refine R.fin [1, 2, 3, 7, 8, 9, 10] ?_;refine Px ?_;exact Z95
  obtain ⟨q, hq, hq5⟩ : ∃ q, q = mo ∧ q ≤ 500 := ⟨_, rfl, hm⟩
  refine Z96 ?_;exact Z95
 have hie : i = l.length := by simp at ht39; omega
 subst hie
 rw [List.take_length] at hw
 have hlo : ∀ e ∈ l, okE 61 e := fun e he => (Hs (hw e he)).ok
 have hls : ∀ e ∈ l, sizeE e ≤ 1048576 := fun e he => by have := (Hs (hw e he)).size; omega
 have hoe := pq (x := x) (l := l) (c := c) (by omega)
 have hyo := lv (c := c) hxs.ok hlo
 refine Z59 ?_;refine Z46 ?_;refine R.fin [1, 2, 3, 9, 62] ?_
 refine W.cond (fun ht62 => ?_) (fun ht62 => ?_)
 ·refine Z0 ?_;refine U3 ?_;exact Sl
 refine Lp ?_;refine R.call Tryz.call23 (c23 x hxs.ok c hc l (by omega) hlo _) ?_;refine U7 ?_;refine R.fin [1, 2, 3, 9, 12, 13] ?_;refine Z7 ?_
 refine R.call Tryz.call24 (c24 x hxs.ok (by have := hxs.size; omega) c hc (by omega) l (by omega) hlo hls _) ?_
 refine U7 ?_;refine R.fin [2, 9, 12, 13, 14, 15] ?_;refine Z33 ?_;refine Z9 ?_;refine G.call Tryz.call25 (fun hB => c25 122 _ hyo _ _) ?_;refine Z82 ?_;refine G.call Tryz.call26 (fun hB => c26 l (by omega) hlo hls _) ?_;refine Z9 ?_;refine Z1 ?_;refine Z67 ?_;exact K.fin (V.one V.tmp) ⟨by rw [← hoe, List.take_length]; simp [V1], rfl⟩

end Go.SX.Nb
