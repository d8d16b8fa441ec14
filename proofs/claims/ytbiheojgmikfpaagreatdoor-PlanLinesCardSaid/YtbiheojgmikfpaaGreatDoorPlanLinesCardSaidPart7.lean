/- Texts on the way to this: PlanLines answers true for whatever it is handed: of any sound migration the text of its plan has a line for each step and one more for each column behind; what comes and what goes is what both schemas differ in. (part 7) -/
import Derived.Lib.ParseIntBTie
import Derived.Shelf.Strings.Builder1
import Derived.Lib.ItoaLen
import Derived.Test.YtbiheojgmikfpaaGreatDoorPlanLinesCardSaidPart6
set_option linter.all false
namespace Go.SX.Nb
open Go Go.SX Go.Proofs
variable [ErrAt]
set_option maxRecDepth 4000
theorem c81 (l : List Col) (hl : l.length ≤ 1000000) (Hp : List AObj) : AFun Tryz.prog 81 [A4 l] Hp (A4 l) := by
 refine ACall.body [.tmp 2] [0] Tryz.func81 Tryz.ntmps81 (fun d => ?_)
 refine Nc ?_
 refine R.eqlNil jU (by kernel_rfl) (fun b hb => ?_)
 refine R.fin [0, 4] ?_
 refine W.cond (fun ht4 => ?_) (fun ht4 => ?_)
 ·have hl0 : l = [] := by simpa using hb ht4
  subst hl0
  refine Z0 ?_;refine R.nilTmp 2 2 false ?_;refine Z2 ?_;refine K.thR ?_;exact K.fin (V.one V.tmp) ⟨rfl, rfl⟩
 refine Ig ?_;refine J9 ?_;refine Ap ?_
 refine R.append jU Tryz.type47 ?_ ?_ ?_
 ·simp [Tryz.t47]; omega
 ·simp [Tryz.t47]; omega
 refine R.assignT ?_;refine Z2 ?_;exact K.fin (V.one V.tmp) ⟨rfl, rfl⟩

theorem ag {Hp : List AObj} {y : Col} {n : Nat} (h : ∀ x ∈ Hp, ObjLow Hp.length x) : ∀ x ∈ Hp ++ [AObj.cells 47 [], AObj.cells 47 (A8 y.name :: A3 y.kind :: List.replicate n AV.any)], ObjLow (Hp.length + 2) x := by
 intro x hx
 rcases List.mem_append.1 hx with hx | hx
 ·exact ObjLow.le (by omega) (h x hx)
 simp only [List.mem_cons, List.mem_nil_iff, or_false] at hx
 rcases hx with rfl | rfl
 ·intro z hz; cases hz
 intro z hz
 simp only [List.mem_cons] at hz
 rcases hz with rfl | rfl | hz
 ·simp
 ·simp
 rw [List.eq_of_mem_replicate hz]; simp
theorem ph (y : Col) (Hp : List AObj) : ACallO Tryz.prog 81 [A4 [y]] Hp (fun r H' => ∃ cc, 1 ≤ cc ∧ r = .sl (oid Hp.length 1) 2 1 cc ∧ H' = Hp ++ [.cells 47 [], .cells 47 (A8 y.name :: A3 y.kind :: List.replicate ((cc - 1) * 2) AV.any)]) := by
 refine ACallO.body [.tmp 2] [0] Tryz.func81 Tryz.ntmps81 (fun d => ?_)
 refine Z49 ?_;refine Z18 ?_
 refine R.assumeLow (fun hlow => ?_)
 refine Ap ?_
 refine R.eqlNil jU (by kernel_rfl) (fun b hb => ?_)
 refine R.fin [0, 4] ?_
 refine W.cond (fun ht4 => ?_) (fun ht4 => ?_)
 ·exact absurd (hb ht4) (by simp)
 refine Ig ?_;refine R.buildObj0 (n := 0) jU Tryz.sizeOf47 ?_;refine Ap ?_
 refine R.appendObj (k := 2) (n := 1) jU Tryz.type47 (show [B3 y] ≠ [] by simp) ?_ ?_ (fun cc hcc => ?_)
 ·simp [Tryz.t47]
 ·simp
 have e0 : Fu [B3 y] ++ List.replicate ((cc - [B3 y].length) * 2) AV.any = A8 y.name :: A3 y.kind :: List.replicate ((cc - 1) * 2) AV.any := rfl
 rw [e0]
 clear e0
 refine B6 ?_;refine Z2 ?_;exact K.finO 2 (V.tmp (t := 2)) ⟨cc, hcc, rfl, rfl⟩ (hlow := by simp [oid]) (hobj := ag hlow)

theorem n9 (c : List Col) (hc : OkCols c) (m : Mov) (h : OkMov m) (h3 : (m.kind == 3) = false) (Hp : List AObj) : AFun Tryz.prog 135 [A4 c, F4 m] Hp (A4 (Ac c m)) := by
 refine ACall.body [.tmp 4] [0, 1] Tryz.func135 Tryz.ntmps135 (fun d => ?_)
 refine Qs ?_;refine B2 ?_;refine Z80 ?_;refine R.call Tryz.call81 (c81 m.give h.gives2 _) ?_;refine B6 ?_;refine cz ?_;refine R.fin [0, 3, 5, 12] ?_
 refine W.cond (fun ht12 => ?_) (fun ht12 => ?_)
 ·rw [h3] at ht12; cases ht12
 refine Z5 ?_;exact l6

theorem na (c : List Col) (hc : OkCols c) (m : Mov) (h : OkMov m) (h3 : (m.kind == 3) = true) (s : Str) (y : Col) (ht : m.take = [s]) (hg : m.give = [y]) (Hp : List AObj) : AFun Tryz.prog 135 [A4 c, F4 m] Hp (A4 (Ac c m)) := by
 have hgv := V3 (c := c) h3 ht hg
 have hgy := Rv (c := c) h3 ht hg
 obtain ⟨kd, tk, gv, ah, bk⟩ := m
 simp only at ht hg h3
 subst ht hg
 refine ACall.body [.tmp 4] [0, 1] Tryz.func135 Tryz.ntmps135 (fun d => ?_)
 refine Qs ?_;refine B2 ?_;refine Z80 ?_;refine R.callO Tryz.call81 (ph y _) ?_
 rintro _ _ ⟨cc, hcc, rfl, rfl⟩
 refine ⟨[.cells 47 [], .cells 47 (A8 y.name :: A3 y.kind :: List.replicate ((cc - 1) * 2) AV.any)], by simp, ?_⟩
 simp only [List.append_nil, List.nil_append]
 refine B6 ?_;refine cz ?_;refine R.fin [0, 3, 5, 12] ?_
 refine W.cond (fun ht12 => ?_) (fun ht12 => ?_)
 ·refine Z1 ?_;refine Z63 ?_;refine R.indexAddr (0) (A8 s) jU jS rfl ?_;refine Dr ?_;refine R.call Tryz.call84 (c84 c hc s _) ?_;refine B6 ?_;refine R.fin [0, 5, 6] ?_;refine Z1 ?_;refine R.geq ?_;refine R.fin [0, 5, 6, 20] ?_
  refine W.cond (fun ht20 => ?_) (fun ht20 => ?_)
  ·have hf : ¬ Ah s c < 0 := by simp at ht20; omega
   obtain ⟨jj, hjj, hjc⟩ := D9 hf
   refine Z14 ?_;refine kz ?_;refine Z72 ?_;refine kv ?_
   refine R.storeOwn (y := A3 (c.getD (Ah s c).toNat ⟨[], 0⟩).kind) (ys := [A3 (c.getD (Ah s c).toNat ⟨[], 0⟩).kind]) (n := 1) (cs := A8 y.name :: A3 y.kind :: List.replicate ((cc - 1) * 2) AV.any) (cs' := A8 y.name :: A3 (c.getD (Ah s c).toNat ⟨[], 0⟩).kind :: List.replicate ((cc - 1) * 2) AV.any) (t' := 47) jS ?_ (hc := rfl) (hput := rfl) (hfit := by simp)
   refine R.fin [5] ?_;refine K.thN ?_;refine Z87 ?_;refine Ap ?_;exact cq
  have hf : Ah s c < 0 := by simp at ht20; omega
  refine Ig ?_;refine kf ?_;exact cq
 rw [h3] at ht12; cases ht12

/-- What a move must have before it is turned. -/
structure MvOk (m : Mov) : Prop where
 ok : OkMov m
 ahead : m.ahead.length = m.give.length
 back : m.back.length = m.take.length
 one : (m.kind == 3) = true → m.take.length = 1 ∧ m.give.length = 1
theorem ep {m : Mov} (h : OkMov m) (hc : Cg m = true) : MvOk m := ⟨h, (E7 hc).1, (E7 hc).2, fun h3 => Hd hc (by rw [h3]; rfl)⟩
theorem pi (c : List Col) (hc : OkCols c) (m : Mov) (h : MvOk m) (Hp : List AObj) : AFun Tryz.prog 135 [A4 c, F4 m] Hp (A4 (Ac c m)) := by
 cases h3 : m.kind == 3 with
 | false => exact n9 c hc m h.ok h3 Hp
 | true =>
  obtain ⟨h1, h2⟩ := h.one h3
  obtain ⟨s, hs⟩ := Pz h1
  obtain ⟨y, hy⟩ := Pz h2
  exact na c hc m h.ok h3 s y hs hy Hp
theorem c47 (c : List Col) (hc : OkCols c) (m : Mov) (h : MvOk m) (Hp : List AObj) : AFun Tryz.prog 47 [A4 c, F4 m] Hp (A4 (Ac c m)) := by
 cases h3 : m.kind == 3 with
 | false => exact pc c hc m h.ok h3 Hp
 | true =>
  obtain ⟨h1, h2⟩ := h.one h3
  obtain ⟨s, hs⟩ := Pz h1
  obtain ⟨y, hy⟩ := Pz h2
  exact pg c hc m h.ok h3 s y hs hy Hp
theorem Mh {c : List Col} {m : Mov} (h : OkMov m) : OkCols (Ac c m) := by
 refine ⟨by rw [E8]; exact Nat.le_trans h.gives2 (by decide), fun y hy => ?_⟩
 unfold Ac at hy
 split at hy
 ·split at hy
  ·exact h.gives.2 y hy
  cases hg : m.give with
  | nil => rw [hg] at hy; cases hy
  | cons z r =>
   rw [hg] at hy
   rcases List.mem_cons.1 hy with rfl | hy
   ·exact h.gives.2 z (by rw [hg]; exact List.mem_cons_self)
   exact h.gives.2 y (by rw [hg]; exact List.mem_cons_of_mem _ hy)
 exact h.gives.2 y hy
theorem Mi {c give : List Col} {take : List Str} (hc : OkCols c) (hg : OkCols give) (hg2 : give.length ≤ 1000000) : OkCols (Bd c take give).1 := by
 have h0 : OkCols ([] : List Col) := ⟨by decide, fun y hy => by cases hy⟩
 unfold Bd
 split
 ·exact h0
 rename_i hr
 split
 ·exact h0
 split
 ·exact h0
 split
 ·exact h0
 split
 ·exact h0
 exact Ts hc (by simpa using hr) hg hg2 rfl
theorem Mj {c give : List Col} {take : List Str} (h : ((Bd c take give).2 != 0) = false) : ∀ s ∈ take, ¬ Ah s c < 0 := by
 have ht : Cv c take = true := by
  unfold Bd at h
  split at h
  ·cases h
  split at h
  ·cases h
  rename_i ht
  simpa using ht
 intro s hs hf
 obtain ⟨j, hj⟩ := List.getElem?_of_mem hs
 have := takenM_true.1 ht j s hj
 unfold Dc at this
 rw [show decide (Ah s c < 0) = true by simpa using hf] at this
 simp at this
theorem Ka {over : List Col} {l : List Expr} {w : List Col} {x : Nat} (hl : x < l.length) (hw : x < w.length) :
  Bg over (l.drop x) (w.drop x) = if I2 l[x] over w[x].kind != 0 then I2 l[x] over w[x].kind else Bg over (l.drop (x + 1)) (w.drop (x + 1)) := by
 rw [List.drop_eq_getElem_cons hl, List.drop_eq_getElem_cons hw]
 rfl
theorem Mk {over : List Col} {l : List Expr} {w : List Col} {x : Nat} (hl : l.length ≤ x) : Bg over (l.drop x) (w.drop x) = 0 := by
 rw [List.drop_eq_nil_of_le hl]
 cases w.drop x <;> rfl
theorem Fv {α β : Type} {f : α → β} {l : List α} {x : Nat} (h : x < l.length) : (l.take (x + 1)).map f = (l.take x).map f ++ [f l[x]] := by
 rw [List.take_succ_eq_append_getElem h, List.map_append]; rfl
theorem V5 {c : List Col} {m : Mov} (h : ((Bd c m.take (Ac c m)).2 != 0) = true) : Az c m = ([], (Bd c m.take (Ac c m)).2) := if_pos h
theorem V6 {c : List Col} {m : Mov} (h : ((Bd c m.take (Ac c m)).2 != 0) = false) (h2 : (Bg c m.ahead (Ac c m) != 0) = true) : Az c m = ([], Bg c m.ahead (Ac c m)) := by
 unfold Az; rw [if_neg (by rw [h]; simp), if_pos h2]
theorem V7 {c : List Col} {m : Mov} (h : ((Bd c m.take (Ac c m)).2 != 0) = false) (h2 : (Bg c m.ahead (Ac c m) != 0) = false) (h3 : (Bg (Bd c m.take (Ac c m)).1 m.back (Di c m) != 0) = true) : Az c m = ([], Bg (Bd c m.take (Ac c m)).1 m.back (Di c m)) := by
 unfold Az; rw [if_neg (by rw [h]; simp), if_neg (by rw [h2]; simp), if_pos h3]
theorem V8 {c : List Col} {m : Mov} (h : ((Bd c m.take (Ac c m)).2 != 0) = false) (h2 : (Bg c m.ahead (Ac c m) != 0) = false) (h3 : (Bg (Bd c m.take (Ac c m)).1 m.back (Di c m) != 0) = false) : Az c m = ((Bd c m.take (Ac c m)).1, 0) := by
 unfold Az; rw [if_neg (by rw [h]; simp), if_neg (by rw [h2]; simp), if_neg (by rw [h3]; simp)]
theorem nb (l : List Expr) (h : OkEs l) (w : List Col) (hw : w.length = l.length) (c : List Col) (hc : OkCols c) (Hp : List AObj) : AFun Tryz.prog 137 [Bf l, A4 w, A4 c] Hp (A3 (Bg c l w)) := by
 refine ACall.body [.tmp 6] [0, 1, 2] Tryz.func137 Tryz.ntmps137 (fun d => ?_)
 refine Z0 ?_;refine R.fin [0, 1, 2] ?_;refine N8 ?_;refine R.fin [1, 2, 11, 12, 13] ?_
 refine AW.loopC (α := Nat) (fun x => ⟨37, A2 1 (A4 w) (A2 2 (A4 c) (A2 11 (Bf l) (A2 12 (A3 (l.length : Nat)) (A2 13 (A3 (x : Nat)) (fun _ => .any))))), Hp, [], [], none⟩) (fun x => x ≤ l.length ∧ Bg c l w = Bg c (l.drop x) (w.drop x)) (fun x => l.length - x) (0) ⟨Nat.zero_le _, rfl⟩ (StLe.of_eq (by simp)) rfl (fun x hx => ?_)
 refine Z44 ?_;refine R.fin [1, 2, 11, 12, 13, 14] ?_
 refine W.condX (fun ht14 => ?_) (fun ht14 => ?_)
 ·have hlt : x < l.length := by simpa using ht14
  have hlw : x < w.length := by omega
  have hlen := h.len
  have hst := Ka (over := c) hlt hlw
  refine L1 ?_;refine Y3 ?_;refine Sw ?_;refine R.fin [1, 2, 7, 8, 11, 12, 13] ?_;refine Z18 ?_;refine Pj ?_;refine Ap ?_;refine R.call Tryz.call161 (n8 61 l[x] (h.ok _ (List.getElem_mem hlt)) (by decide) c hc _) ?_;refine Z96 ?_;refine R.fin [1, 2, 7, 8, 10, 11, 12, 13] ?_;refine Z1 ?_;refine R.neq ?_;refine R.fin [1, 2, 7, 8, 10, 11, 12, 13, 25] ?_
  refine W.cond (fun ht25 => ?_) (fun ht25 => ?_)
  ·have he : I2 l[x] c w[x].kind = (Cj l[x] c).2 := if_pos ht25
   have hm : Bg c l w = (Cj l[x] c).2 := by rw [hx.2, hst, he, if_pos ht25]
   refine Z36 ?_;refine Z84 ?_;refine K.thR ?_;exact Z99
  refine Z5 ?_;refine W.draw [0, 0, 0, 0, 12, 28, 60, 127, 255] 7 Am (by kernel_rfl) ?_;refine D.loadOwnN jA jS ?_;refine N5 ?_;refine D.move ?_;refine D.indexAddr (x) (B3 w[x]) jU jS (Ae hlw) ?_;refine D.fieldAddrRo (off := 1) jU Tryz.sizeOf3 ?_;refine Ye ?_;refine R.call Tryz.call162 (pa 61 l[x] (h.ok _ (List.getElem_mem hlt)) (by decide) c hc w[x].kind _) ?_;refine R.not ?_;refine R.fin [1, 2, 11, 12, 13, 35] ?_
  refine W.cond (fun ht35 => ?_) (fun ht35 => ?_)
  ·have he : I2 l[x] c w[x].kind = 10 := by unfold I2; rw [if_neg (by rw [ht25]; simp), if_pos ht35]
   have hm : Bg c l w = 10 := by rw [hx.2, hst, he]; rfl
   refine Ph ?_;exact Z99
  have he : I2 l[x] c w[x].kind = 0 := by unfold I2; rw [if_neg (by rw [ht25]; simp), if_neg (by rw [ht35]; simp)]
  have hnx : Bg c l w = Bg c (l.drop (x + 1)) (w.drop (x + 1)) := by rw [hx.2, hst, he]; rfl
  refine Hx ?_;refine R.fin [1, 2, 11, 12, 13] ?_;refine K.lpN (x + 1) ⟨hlt, hnx⟩ (by omega) ?_
  exact StCut.take (own := []) (fun _ => .refl _) (by repeat (first | exact Aj | refine Ai (by first | (simp [or_imp, forall_and]; done) | exact Eu) ?_)) (by simp) (by simp)
 have hxe : l.length ≤ x := by simpa using ht14
 have hm : Bg c l w = 0 := by rw [hx.2, Mk hxe]
 refine Z29 ?_;exact ly

theorem pj (c : List Col) (hc : OkCols c) (m : Mov) (h : OkMov m) (hf : ∀ s ∈ m.take, ¬ Ah s c < 0) (Hp : List AObj) : AFun Tryz.prog 138 [A4 c, F4 m] Hp (A4 (Di c m)) := by
 refine ACall.body [.tmp 4] [0, 1] Tryz.func138 Tryz.ntmps138 (fun d => ?_)
 refine Qs ?_;refine Z0 ?_;refine R.fin [0, 3, 5] ?_;refine Z18 ?_;refine R.nilSl 5 2 ?_;refine Z63 ?_;refine Z35 ?_;refine R.fin [0, 5, 9, 10, 11] ?_
 refine AW.loopC (α := Nat) (fun x => ⟨26, A2 0 (A4 c) (A2 5 (.slice true 2 (((m.take.take x).map fun s => c.getD (Ah s c).toNat ⟨[], 0⟩).map B3)) (A2 9 (C2 m.take) (A2 10 (A3 (m.take.length : Nat)) (A2 11 (A3 (x : Nat)) (fun _ => .any))))), Hp, [], [], none⟩) (fun x => x ≤ m.take.length) (fun x => m.take.length - x) (0) (Nat.zero_le _) (StLe.of_eq (by simp)) rfl (fun x hx => ?_)
 refine Z44 ?_;refine R.fin [0, 5, 9, 10, 11, 12] ?_
 refine W.condX (fun ht12 => ?_) (fun ht12 => ?_)
 ·have hlt : x < m.take.length := by simpa using ht12
  have htk := h.takes
  have hfx := hf _ (List.getElem_mem hlt)
  obtain ⟨jj, hjj, hjc⟩ := D9 hfx
  refine Z65 ?_;refine R.indexAddr (x) (A8 m.take[x]) jU jS (Ae hlt) ?_;refine Yb ?_;refine R.fin [0, 5, 7, 9, 10, 11] ?_;refine N6 ?_;refine Jw ?_;refine Ap ?_;refine R.call Tryz.call84 (c84 c hc m.take[x] _) ?_;refine R.indexAddr ((Ah m.take[x] c).toNat) (B3 (c.getD (Ah m.take[x] c).toNat ⟨[], 0⟩)) jU jS (Q0 hfx) ?_;refine E0 ?_;refine J9 ?_
  refine R.append jU Tryz.type47 ?_ ?_ ?_
  ·simp only [List.length_map, List.length_take, List.length_cons, List.length_nil, Tryz.t47]; omega
  ·simp only [List.length_map, List.length_take, List.length_cons, List.length_nil, Tryz.t47]; omega
  refine R.assignT ?_;refine R.fin [0, 5, 9, 10, 11] ?_;refine Ih ?_;refine R.fin [0, 5, 9, 10, 11] ?_
  refine K.lpN (x + 1) hlt (by omega) (StCut.of_eq ?_)
  rw [Fv hlt, List.map_append]
  rfl
 have hxe : m.take.length ≤ x := by simpa using ht12
 refine Z29 ?_;refine Qr ?_;exact K.fin (V.one V.tmp) ⟨by unfold Di; rw [List.take_of_length_le hxe] <;> rfl, rfl⟩ (hlow := Bm)

theorem pk (c : List Col) (hc : OkCols c) (m : Mov) (h : MvOk m) (Hp : List AObj) : AFun Tryz.prog 108 [A4 c, F4 m] Hp (.tup [A4 (Az c m).1, A3 (Az c m).2]) := by
 refine ACall.body [.tmp 4, .tmp 5] [0, 1] Tryz.func108 Tryz.ntmps108 (fun d => ?_)
 refine cr ?_;refine Ep ?_;refine Yh ?_;refine R.call Tryz.call135 (pi c hc m h _) ?_;refine B6 ?_;refine R.fin [0, 3, 6] ?_;refine B2 ?_
 have hg := Mh (c := c) h.ok
 have hg2 : (Ac c m).length ≤ 1000000 := by rw [E8]; exact h.ok.gives2
 refine Ap ?_;refine Z63 ?_;refine Ap ?_;refine R.call Tryz.call136 (p9 c hc m.take h.ok.takes (Ac c m) hg hg2 _) ?_;refine Z96 ?_;refine R.fin [0, 3, 6, 7, 8] ?_;refine Gp ?_;refine R.fin [0, 3, 6, 7, 8, 23] ?_
 refine W.cond (fun ht23 => ?_) (fun ht23 => ?_)
 ·have hm := V5 ht23
  exact Wb
 refine Z5 ?_;refine Z18 ?_;refine ig ?_;refine Jw ?_;refine R.call Tryz.call137 (nb m.ahead h.ok.ahead (Ac c m) (by rw [E8, h.ahead]) c hc _) ?_;refine B6 ?_;refine R.fin [0, 3, 7, 9] ?_;refine Z1 ?_;refine R.neq ?_;refine R.fin [0, 3, 7, 9, 31] ?_
 refine W.cond (fun ht31 => ?_) (fun ht31 => ?_)
 ·have hm := V6 ht23 ht31
  exact Wb
 refine Z5 ?_;refine W.seq ?_;refine W.draw [0, 1, 0, 0, 12, 0, 63, 127] 6 Am (by kernel_rfl) ?_;refine D.fieldAddrRo (off := 4) jU Tryz.sizeOf53 ?_;refine Z92 ?_;refine Nh ?_;refine D.call Tryz.call138 (pj c hc m h.ok (Mj ht23) _) ?_;refine D.move ?_;refine D.tail ?_;refine R.call Tryz.call137 (nb m.back h.ok.back (Di c m) (by rw [Di, List.length_map, h.back]) (Bd c m.take (Ac c m)).1 (Mi hc hg hg2) _) ?_;refine B6 ?_;refine R.fin [7, 10] ?_;refine Z1 ?_;refine R.neq ?_;refine R.fin [7, 10, 41] ?_
 refine W.cond (fun ht41 => ?_) (fun ht41 => ?_)
 ·have hm := V7 ht23 ht31 ht41
  exact Wb
 have hm := V8 ht23 ht31 ht41
 refine Jv ?_;exact Y1

theorem c28 (c : List Col) (hc : OkCols c) (m : Mov) (h : MvOk m) (Hp : List AObj) : AFun Tryz.prog 28 [A4 c, F4 m] Hp (.tup [A4 (Az c m).1, A3 (Az c m).2]) := by
 refine ACall.body [.tmp 4, .tmp 5] [0, 1] Tryz.func28 Tryz.ntmps28 (fun d => ?_)
 refine cr ?_;refine Ep ?_;refine Yh ?_;refine R.call Tryz.call47 (c47 c hc m h _) ?_;refine B6 ?_;refine R.fin [0, 3, 6] ?_;refine B2 ?_
 have hg := Mh (c := c) h.ok
 have hg2 : (Ac c m).length ≤ 1000000 := by rw [E8]; exact h.ok.gives2
 have hgl := E8 c m
 have hah := h.ahead
 have hbk := h.back
 have htk := h.ok.takes
 refine Ap ?_;refine Z63 ?_;refine Ap ?_;refine R.call Tryz.call48 (c48 c hc m.take h.ok.takes (Ac c m) hg hg2 _) ?_;refine Z96 ?_;refine R.fin [0, 3, 6, 7, 8] ?_;refine Gp ?_;refine R.fin [0, 3, 6, 7, 8, 25] ?_
 refine W.cond (fun ht25 => ?_) (fun ht25 => ?_)
 ·have hm := V5 ht25
  exact Wb
 have hfd := Mj ht25
 refine Nd ?_;refine R.fin [0, 3, 6, 7, 9] ?_
 refine AW.loopC (α := Nat) (fun x => ⟨77, A2 0 (A4 c) (A2 3 (.ro (F3 m)) (A2 6 (A4 (Ac c m)) (A2 7 (A4 (Bd c m.take (Ac c m)).1) (A2 9 (A3 (x : Nat)) (fun _ => .any))))), Hp, [], [], none⟩) (fun x => x ≤ (Ac c m).length ∧ Bg c m.ahead (Ac c m) = Bg c (m.ahead.drop x) ((Ac c m).drop x)) (fun x => (Ac c m).length - x) (0) ⟨Nat.zero_le _, rfl⟩ (StLe.of_eq (by simp)) rfl (fun x hx => ?_)
 refine Hz ?_;refine R.fin [0, 3, 6, 7, 9, 30] ?_
 refine W.cond (fun ht30 => ?_) (fun ht30 => ?_)
 ·have hlt : x < (Ac c m).length := by simpa using ht30
  have hla : x < m.ahead.length := by omega
  have hst := Ka (over := c) hla hlt
  refine Z89 ?_;refine W.draw [0, 1, 0, 7, 15, 0, 0, 96, 224, 480, 0, 2047, 4095] 11 Am (by kernel_rfl) ?_;refine D.fieldAddrRo (off := 3) jU Tryz.sizeOf53 ?_;refine Z92 ?_;refine D.indexAddr (x) (A6 m.ahead[x]) jU jS (Ae hla) ?_;refine Nh ?_;refine N5 ?_;refine D.indexAddr (x) (B3 (Ac c m)[x]) jU jS (Ae hlt) ?_;refine D.fieldAddrRo (off := 1) jU Tryz.sizeOf3 ?_;refine Z92 ?_;refine D.tail ?_;refine R.call Tryz.call49 (c49 61 m.ahead[x] (h.ok.ahead.ok _ (List.getElem_mem hla)) (by decide) (h.ok.ahead.size _ (List.getElem_mem hla)) (Ac c m)[x].kind c hc _) ?_;refine B6 ?_;refine R.fin [0, 3, 6, 7, 9, 10] ?_;refine Z1 ?_;refine R.neq ?_;refine R.fin [0, 3, 6, 7, 9, 10, 46] ?_
  refine W.cond (fun ht46 => ?_) (fun ht46 => ?_)
  ·have hf1 : Bg c m.ahead (Ac c m) = I2 m.ahead[x] c (Ac c m)[x].kind := by rw [hx.2, hst, if_pos ht46]
   have hm := V6 ht25 (by rw [hf1]; exact ht46)
   rw [hf1] at hm
   refine ie ?_;refine Z9 ?_;exact gr
  have hnx : Bg c m.ahead (Ac c m) = Bg c (m.ahead.drop (x + 1)) ((Ac c m).drop (x + 1)) := by rw [hx.2, hst, if_neg (by rw [ht46]; simp)]
  refine Z86 ?_;refine R.fin [0, 3, 6, 7, 9] ?_;exact K.lpN (x + 1) ⟨hlt, hnx⟩ (by omega) (StCut.of_eq rfl)
 have hxe : (Ac c m).length ≤ x := by simpa using ht30
 have hf1 : Bg c m.ahead (Ac c m) = 0 := by rw [hx.2, Mk (by omega)]
 refine Z73 ?_;refine Z74 ?_;refine R.fin [0, 3, 7, 11] ?_
 refine AW.loopC (α := Nat) (fun k => ⟨77, A2 0 (A4 c) (A2 3 (.ro (F3 m)) (A2 7 (A4 (Bd c m.take (Ac c m)).1) (A2 11 (A3 (k : Nat)) (fun _ => .any)))), Hp, [], [], none⟩) (fun k => k ≤ m.take.length ∧ Bg (Bd c m.take (Ac c m)).1 m.back (Di c m) = Bg (Bd c m.take (Ac c m)).1 (m.back.drop k) ((Di c m).drop k)) (fun k => m.take.length - k) (0) ⟨Nat.zero_le _, rfl⟩ (StLe.of_eq (by simp)) rfl (fun k hk => ?_)
 refine Z12 ?_;refine Z63 ?_;refine Z53 ?_;refine R.fin [0, 3, 7, 11, 52] ?_
 refine W.cond (fun ht52 => ?_) (fun ht52 => ?_)
 ·have hkt : k < m.take.length := by simpa using ht52
  have hkb : k < m.back.length := by omega
  have hfx := hfd _ (List.getElem_mem hkt)
  obtain ⟨jj, hjj, hjc⟩ := D9 hfx
  have hkc : k < (Di c m).length := by rw [Di, List.length_map]; exact hkt
  have htc : (Di c m)[k] = c.getD (Ah m.take[k] c).toNat ⟨[], 0⟩ := by simp only [Di, List.getElem_map]
  have hst := Ka (over := (Bd c m.take (Ac c m)).1) hkb hkc
  rw [htc] at hst
  refine Z89 ?_;refine W.draw [0, 1, 0, 7, 15, 0, 0, 0, 128, 0, 896, 1920, 4032, 8160, 16352, 32736, 0, 131071, 262143] 17 Am (by kernel_rfl) ?_;refine D.fieldAddrRo (off := 4) jU Tryz.sizeOf53 ?_;refine Z92 ?_;refine D.indexAddr (k) (A6 m.back[k]) jU jS (Ae hkb) ?_;refine Nh ?_;refine N5 ?_;refine D.fieldAddrRo (off := 1) jU Tryz.sizeOf34 ?_;refine Z92 ?_;refine D.indexAddr (k) (A8 m.take[k]) jU jS (Ae hkt) ?_;refine Ik ?_;refine D.call Tryz.call50 (c50 c hc m.take[k] _) ?_;refine D.indexAddr ((Ah m.take[k] c).toNat) (B3 (c.getD (Ah m.take[k] c).toNat ⟨[], 0⟩)) jU jS (Q0 hfx) ?_;refine D.fieldAddrRo (off := 1) jU Tryz.sizeOf3 ?_;refine Z92 ?_;refine D.tail ?_
  refine R.call Tryz.call49 (c49 61 m.back[k] (h.ok.back.ok _ (List.getElem_mem hkb)) (by decide) (h.ok.back.size _ (List.getElem_mem hkb)) (c.getD (Ah m.take[k] c).toNat ⟨[], 0⟩).kind (Bd c m.take (Ac c m)).1 (Mi hc hg hg2) _) ?_;refine B6 ?_;refine R.fin [0, 3, 7, 11, 12] ?_;refine Z1 ?_;refine R.neq ?_;refine R.fin [0, 3, 7, 11, 12, 74] ?_
  refine W.cond (fun ht74 => ?_) (fun ht74 => ?_)
  ·have hf2 := hk.2.trans hst
   rw [if_pos ht74] at hf2
   have hm := V7 ht25 (by rw [hf1]; rfl) (by rw [hf2]; exact ht74)
   rw [hf2] at hm
   refine ie ?_;refine Z9 ?_;exact gr
  have hnx := hk.2.trans hst
  rw [if_neg (by rw [ht74]; simp)] at hnx
  refine Z86 ?_;refine R.fin [0, 3, 7, 11] ?_;exact K.lpN (k + 1) ⟨hkt, hnx⟩ (by omega) (StCut.of_eq rfl)
 have hke : m.take.length ≤ k := by simpa using ht52
 have hm := V8 ht25 (by rw [hf1]; rfl) (by rw [hk.2, Mk (by omega)]; rfl)
 refine Z73 ?_;refine Z1 ?_;exact Y1

def I9 {α : Type} (p : α → Bool) (l : List α) : Int := if l.any p then (l.findIdx p : Int) else -1
theorem ai {α : Type} {p : α → Bool} {l : List α} {i : Nat} (h : i < l.length) (hn : p l[i] = true) (hp : ∀ (j : Nat) (y : α), j < i → l[j]? = some y → p y = false) : (i : Int) = I9 p l := by
 unfold I9
 rw [if_pos (List.any_eq_true.2 ⟨_, List.getElem_mem h, hn⟩)]
 congr 1
 refine (List.findIdx_eq h |>.2 ⟨hn, fun j hj => ?_⟩).symm
 exact hp j (l[j]'(by omega)) hj (List.getElem?_eq_getElem (by omega))
theorem U4 {α : Type} {p : α → Bool} {l : List α} (h : l.any p = false) : (-1 : Int) = I9 p l := by
 unfold I9
 rw [if_neg (by rw [h]; simp)]
theorem Wz {α : Type} (p : α → Bool) (l : List α) : decide (0 ≤ I9 p l) = l.any p := by
 unfold I9
 cases l.any p <;> simp
def He (s : Str) : Bool := !(Be s)
def Cw (e : Expr) : Bool := !(Ab e)
theorem Ry {m : Mov} (h : (((m.ahead.length : Int) != (m.give.length : Int)) || ((m.back.length : Int) != (m.take.length : Int))) = true) : Cg m = false := if_pos h
theorem Rz {m : Mov} (h : (((m.ahead.length : Int) != (m.give.length : Int)) || ((m.back.length : Int) != (m.take.length : Int))) = false) : Cg m = if m.kind == 1 then ((m.take.length : Int) == 0) && ((m.give.length : Int) == 1)
 else if m.kind == 2 then ((m.take.length : Int) == 1) && ((m.give.length : Int) == 0)
 else if (m.kind == 3) || (m.kind == 6) then ((m.take.length : Int) == 1) && ((m.give.length : Int) == 1)
 else if m.kind == 4 then ((m.take.length : Int) == 1) && decide ((1 : Int) < (m.give.length : Int))
 else if m.kind == 5 then decide ((1 : Int) < (m.take.length : Int)) && ((m.give.length : Int) == 1)
 else false := if_neg (by rw [h]; simp)
theorem pl (m : Mov) (Hp : List AObj) : AFun Tryz.prog 152 [F4 m] Hp (Af (Cg m)) := by
 refine ACall.body [.tmp 2] [0] Tryz.func152 Tryz.ntmps152 (fun d => ?_)
 refine Z97 ?_;refine W.draw [0, 1, 3, 0, 8, 24, 7, 127] 7 Am (by kernel_rfl) ?_;refine cb ?_;refine D.len jU ?_;refine ck ?_;refine D.len jU ?_;refine Wd ?_;refine R.fin [1, 3, 4] ?_;refine Z18 ?_
 simp only [List.length_map]
 refine ig ?_;refine Z35 ?_;refine R.neq ?_;refine Ap ?_;refine cl ?_;refine G.len jU ?_;refine Sz ?_;refine R.fin [1, 3, 4, 22] ?_
 refine W.cond (fun ht22 => ?_) (fun ht22 => ?_)
 ·simp only [List.length_map] at ht22
  have hm := Ry ht22
  exact d9
 simp only [List.length_map] at ht22
 have hn := Rz ht22
 refine Z5 ?_;refine Pf ?_;refine R.fin [3, 4, 24] ?_;refine N9 ?_;refine R.fin [3, 4, 24, 25] ?_
 refine W.cond (fun ht25 => ?_) (fun ht25 => ?_)
 ·refine J8 ?_;refine Qq ?_;refine Z10 ?_;exact K.fin (V.one V.tmp) ⟨by rw [hn]; first | (simp only [ht22, ht25, hk3, hk6, Bool.true_or, Bool.false_or, Bool.or_true, Bool.or_false, if_true, if_false, Bool.false_eq_true, ↓reduceIte] <;> rfl) | (simp only [ht22, ht25, hk3, Bool.true_or, Bool.false_or, Bool.or_true, if_true, if_false, Bool.false_eq_true, ↓reduceIte] <;> rfl) | (simp only [ht22, ht25, if_true, if_false, Bool.false_eq_true, ↓reduceIte] <;> rfl), rfl⟩
 refine Z39 ?_;refine R.fin [3, 4, 24, 33] ?_
 refine W.cond (fun ht33 => ?_) (fun ht33 => ?_)
 ·refine J8 ?_;refine Qq ?_;refine Z10 ?_;exact K.fin (V.one V.tmp) ⟨by rw [hn]; first | (simp only [ht22, ht25, ht33, hk3, hk6, Bool.true_or, Bool.false_or, Bool.or_true, Bool.or_false, if_true, if_false, Bool.false_eq_true, ↓reduceIte] <;> rfl) | (simp only [ht22, ht25, ht33, hk3, Bool.true_or, Bool.false_or, Bool.or_true, if_true, if_false, Bool.false_eq_true, ↓reduceIte] <;> rfl) | (simp only [ht22, ht25, ht33, if_true, if_false, Bool.false_eq_true, ↓reduceIte] <;> rfl), rfl⟩
 refine Z18 ?_;refine Z21 ?_;refine R.fin [3, 4, 24, 41] ?_
 refine W.cond (fun ht41 => ?_) (fun ht41 => ?_)
 ·have hk3 := ht41
  refine Z5 ?_
  refine W.cond (fun ht41 => ?_) (fun ht41 => ?_)
  ·refine J8 ?_;refine Qq ?_;exact Z56
  rw [hk3] at ht41; cases ht41
 have hk3 := ht41
 refine Gq ?_;refine Z21 ?_;refine R.fin [3, 4, 24, 41] ?_;refine K.thN ?_
 refine W.cond (fun ht41 => ?_) (fun ht41 => ?_)
 ·have hk6 := ht41
  refine J8 ?_;refine Qq ?_;exact Z56
 have hk6 := ht41
 refine Z39 ?_;refine R.fin [3, 4, 24, 50] ?_
 refine W.cond (fun ht50 => ?_) (fun ht50 => ?_)
 ·refine J8 ?_;refine Z15 ?_;refine G.gtr ?_;refine Z20 ?_;refine Z10 ?_;exact K.fin (V.one V.tmp) ⟨by rw [hn]; first | (simp only [ht22, ht25, ht33, ht41, ht41, ht50, hk3, hk6, Bool.true_or, Bool.false_or, Bool.or_true, Bool.or_false, if_true, if_false, Bool.false_eq_true, ↓reduceIte] <;> rfl) | (simp only [ht22, ht25, ht33, ht41, ht41, ht50, hk3, Bool.true_or, Bool.false_or, Bool.or_true, if_true, if_false, Bool.false_eq_true, ↓reduceIte] <;> rfl) | (simp only [ht22, ht25, ht33, ht41, ht41, ht50, if_true, if_false, Bool.false_eq_true, ↓reduceIte] <;> rfl), rfl⟩
 refine Z39 ?_;refine R.fin [3, 4, 58] ?_
 refine W.cond (fun ht58 => ?_) (fun ht58 => ?_)
 ·refine Z1 ?_;refine R.gtr ?_;refine Qq ?_;refine Z10 ?_;exact m9
 refine Qv ?_;exact m9

theorem pm (s : Str) (hs : s.length ≤ 1048576) (Hp : List AObj) : AFun Tryz.prog 155 [A8 s] Hp (Af (He s)) := by
 refine ACall.body [.tmp 2] [0] Tryz.func155 Tryz.ntmps155 (fun d => ?_)
 refine Nf ?_;refine R.call Tryz.call119 (dp s hs _) ?_;exact ip

theorem po (e : Expr) (hok : okE 61 e) (Hp : List AObj) : AFun Tryz.prog 153 [A6 e] Hp (Af (Cw e)) := by
 refine ACall.body [.tmp 2] [0] Tryz.func153 Tryz.ntmps153 (fun d => ?_)
 refine Z97 ?_;refine Z88 ?_;exact m3

theorem pq (e : Expr) (hok : okE 61 e) (Hp : List AObj) : AFun Tryz.prog 140 [A6 e] Hp (Af (Cw e)) := by
 refine ACall.body [.tmp 2] [0] Tryz.func140 Tryz.ntmps140 (fun d => ?_)
 refine Z97 ?_;refine Z88 ?_;exact m3

theorem pr (l : List Str) (hl : l.length ≤ 1048576) (hn : ∀ s ∈ l, s.length ≤ 1048576) (Hp : List AObj) : AFun Tryz.prog 167 [C2 l, .fn (.func 155) [] []] Hp (A3 (I9 He l)) := by
 refine ACall.body [.tmp 4] [0, 1] Tryz.func167 Tryz.ntmps167 (fun d => ?_)
 refine Wf ?_
 refine AW.loopC (α := Nat) (fun x => ⟨19, A2 0 (C2 l) (A2 1 (.fn (.func 155) [] []) (A2 7 (A3 l.length) (A2 8 (A3 (x : Nat)) (fun _ => .any)))), Hp, [], [], none⟩) (fun x => x ≤ l.length ∧ ∀ (j : Nat) y, j < x → l[j]? = some y → He y = false) (fun x => l.length - x) (0) ⟨Nat.zero_le _, fun j y h => by omega⟩ (StLe.of_eq (by simp)) rfl (fun x hx => ?_)
 refine W7 ?_
 refine W.condX (fun ht9 => ?_) (fun ht9 => ?_)
 ·have hlt : x < l.length := by simpa using ht9
  refine We ?_;refine R.indexAddr (x) (A8 l[x]) jU jS (Ae hlt) ?_;refine Dr ?_;refine R.callV Tryz.call155 (pm l[x] (hn _ (List.getElem_mem hlt)) _) ?_;refine Wi ?_
  refine W.cond (fun ht16 => ?_) (fun ht16 => ?_)
  ·exact ct
  exact cv
 have hxe : l.length ≤ x := by simpa using ht9
 exact de

theorem pt (l : List Str) (hl : l.length ≤ 1048576) (hn : ∀ s ∈ l, s.length ≤ 1048576) (Hp : List AObj) : AFun Tryz.prog 154 [C2 l, .fn (.func 155) [] []] Hp (Af (l.any He)) := by
 refine ACall.body [.tmp 4] [0, 1] Tryz.func154 Tryz.ntmps154 (fun d => ?_)
 refine Z71 ?_;refine Z31 ?_;refine R.call Tryz.call167 (pr l hl hn _) ?_;exact cw

theorem nc (l : List Expr) (hl : l.length ≤ 1048576) (hn : ∀ e ∈ l, okE 61 e) (Hp : List AObj) : AFun Tryz.prog 163 [Bf l, .fn (.func 153) [] []] Hp (A3 (I9 Cw l)) := by
 refine ACall.body [.tmp 4] [0, 1] Tryz.func163 Tryz.ntmps163 (fun d => ?_)
 refine Wf ?_
 refine AW.loopC (α := Nat) (fun x => ⟨19, A2 0 (Bf l) (A2 1 (.fn (.func 153) [] []) (A2 7 (A3 l.length) (A2 8 (A3 (x : Nat)) (fun _ => .any)))), Hp, [], [], none⟩) (fun x => x ≤ l.length ∧ ∀ (j : Nat) y, j < x → l[j]? = some y → Cw y = false) (fun x => l.length - x) (0) ⟨Nat.zero_le _, fun j y h => by omega⟩ (StLe.of_eq (by simp)) rfl (fun x hx => ?_)
 refine W7 ?_
 refine W.condX (fun ht9 => ?_) (fun ht9 => ?_)
 ·have hlt : x < l.length := by simpa using ht9
  refine We ?_;refine Y3 ?_;refine R.callV Tryz.call153 (po l[x] (hn _ (List.getElem_mem hlt)) _) ?_;refine Wi ?_
  refine W.cond (fun ht16 => ?_) (fun ht16 => ?_)
  ·exact ct
  exact cv
 have hxe : l.length ≤ x := by simpa using ht9
 exact de

theorem gh (l : List Expr) (hl : l.length ≤ 1048576) (hn : ∀ e ∈ l, okE 61 e) (Hp : List AObj) : AFun Tryz.prog 139 [Bf l, .fn (.func 153) [] []] Hp (Af (l.any Cw)) := by
 refine ACall.body [.tmp 4] [0, 1] Tryz.func139 Tryz.ntmps139 (fun d => ?_)
 refine Z71 ?_;refine Z31 ?_;refine R.call Tryz.call163 (nc l hl hn _) ?_;exact cw

theorem nd (l : List Expr) (hl : l.length ≤ 1048576) (hn : ∀ e ∈ l, okE 61 e) (Hp : List AObj) : AFun Tryz.prog 163 [Bf l, .fn (.func 140) [] []] Hp (A3 (I9 Cw l)) := by
 refine ACall.body [.tmp 4] [0, 1] Tryz.func163 Tryz.ntmps163 (fun d => ?_)
 refine Wf ?_
 refine AW.loopC (α := Nat) (fun x => ⟨19, A2 0 (Bf l) (A2 1 (.fn (.func 140) [] []) (A2 7 (A3 l.length) (A2 8 (A3 (x : Nat)) (fun _ => .any)))), Hp, [], [], none⟩) (fun x => x ≤ l.length ∧ ∀ (j : Nat) y, j < x → l[j]? = some y → Cw y = false) (fun x => l.length - x) (0) ⟨Nat.zero_le _, fun j y h => by omega⟩ (StLe.of_eq (by simp)) rfl (fun x hx => ?_)
 refine W7 ?_
 refine W.condX (fun ht9 => ?_) (fun ht9 => ?_)
 ·have hlt : x < l.length := by simpa using ht9
  refine We ?_;refine Y3 ?_;refine R.callV Tryz.call140 (pq l[x] (hn _ (List.getElem_mem hlt)) _) ?_;refine Wi ?_
  refine W.cond (fun ht16 => ?_) (fun ht16 => ?_)
  ·exact ct
  exact cv
 have hxe : l.length ≤ x := by simpa using ht9
 exact de

theorem nf (l : List Expr) (hl : l.length ≤ 1048576) (hn : ∀ e ∈ l, okE 61 e) (Hp : List AObj) : AFun Tryz.prog 139 [Bf l, .fn (.func 140) [] []] Hp (Af (l.any Cw)) := by
 refine ACall.body [.tmp 4] [0, 1] Tryz.func139 Tryz.ntmps139 (fun d => ?_)
 refine Z71 ?_;refine Z31 ?_;refine R.call Tryz.call163 (nd l hl hn _) ?_;exact cw

theorem ng (s : Str) (Hp : List AObj) : AFun Tryz.prog 157 [A8 s] Hp (A6 (Bi s)) := by
 refine ACall.body [.cell 2 60] [0] Tryz.func157 Tryz.ntmps157 (fun d => ?_)
 refine B2 ?_;refine R.alloc jZ ?_;refine R.fin [0, 2] ?_;refine Z1 ?_;refine d8 ?_;refine Z2 ?_;exact K.fin (V.one (V.cellN jA jS)) ⟨by rw [Bv]; rfl, rfl⟩

theorem pu (l : List Expr) (hl : l.length ≤ 1048576) (hn : ∀ e ∈ l, okE 61 e) (Hp : List AObj) : AFun Tryz.prog 113 [Bf l] Hp (Af (l.any Cw)) := by
 refine ACall.body [.tmp 2] [0] Tryz.func113 Tryz.ntmps113 (fun d => ?_)
 refine Nf ?_;refine R.call Tryz.call139 (nf l hl hn _) ?_;refine B6 ?_;exact Z90

theorem S0 {m : Mov} {c : Col} : (((!(Be c.name)) || (!((Bh c.kind == []) == (m.kind == 3)))) || ((m.kind == 3) && (c.kind != 0))) = !E6 m c := by
 unfold E6
 cases Be c.name <;> cases (Bh c.kind == ([] : Str)) <;> cases (m.kind == 3) <;> cases (c.kind != 0) <;> rfl
theorem jk {m : Mov} (h : (!(Cg m)) = true) : Cn m = false := by
 have : Cg m = false := by simpa using h
 unfold Cn; rw [this]; rfl
theorem jl {m : Mov} {c : Col} (hc : c ∈ m.give) (h : E6 m c = false) : Cn m = false := by
 have : m.give.all (E6 m) = false := List.all_eq_false.2 ⟨c, hc, by rw [h]; simp⟩
 unfold Cn; rw [this]; simp
theorem jm {m : Mov} (h : ((m.take.any He || m.ahead.any Cw) || m.back.any Cw) = true) : Cn m = false := by
 unfold Cn
 rw [show He = fun s => !(Be s) from rfl, show Cw = fun e => !(Ab e) from rfl, Dd, Dd, Dd] at h
 cases h1 : m.take.all Be <;> cases h2 : m.ahead.all Ab <;> cases h3 : m.back.all Ab <;> simp_all
theorem er {m : Mov} (h1 : Cg m = true) (h2 : m.give.all (E6 m) = true) (h : ((m.take.any He || m.ahead.any Cw) || m.back.any Cw) = false) : Cn m = F5 m := by
 unfold Cn
 rw [show He = fun s => !(Be s) from rfl, show Cw = fun e => !(Ab e) from rfl, Dd, Dd, Dd] at h
 rw [h1, h2]
 cases h1 : m.take.all Be <;> cases h2 : m.ahead.all Ab <;> cases h3 : m.back.all Ab <;> simp_all
theorem Gm {α β : Type} {f : α → β} {l : List α} {d : α} (h : 0 < l.length) : (l.map f)[0]? = some (f (l.getD 0 d)) := by
 rw [List.getElem?_map, List.getElem?_eq_getElem h, List.getD_eq_getElem?_getD, List.getElem?_eq_getElem h]
 rfl
theorem Fw {α : Type} {l : List α} {d : α} (h : 0 < l.length) : l.getD 0 d ∈ l := by
 rw [List.getD_eq_getElem?_getD, List.getElem?_eq_getElem h]
 exact List.getElem_mem h
theorem aj {m : Mov} (h : (m.kind == 3) = true) : F5 m = (eqE (m.ahead.getD 0 Aa) (Bi (m.take.getD 0 [])) && eqE (m.back.getD 0 Aa) (Bi (m.give.getD 0 ⟨[], 0⟩).name)) := if_pos h
theorem ak {m : Mov} (h : (m.kind == 3) = false) (h6 : (m.kind == 6) = true) : F5 m = (m.take.getD 0 [] == (m.give.getD 0 ⟨[], 0⟩).name) := by unfold F5; rw [if_neg (by rw [h]; simp), if_pos h6]
theorem al {m : Mov} (h : (m.kind == 3) = false) (h6 : (m.kind == 6) = false) : F5 m = true := by unfold F5; rw [if_neg (by rw [h]; simp), if_neg (by rw [h6]; simp)]
theorem pv (m : Mov) (h : OkMov m) (Hp : List AObj) : AFun Tryz.prog 134 [F4 m] Hp (Af (Cn m)) := by
 refine ACall.body [.tmp 2] [0] Tryz.func134 Tryz.ntmps134 (fun d => ?_)
 refine Z97 ?_;refine Sx ?_;refine R.call Tryz.call152 (pl m _) ?_;refine R.not ?_;refine R.fin [1, 8] ?_
 refine W.cond (fun ht8 => ?_) (fun ht8 => ?_)
 ·have hm := jk ht8
  exact Yl
 have hct : Cg m = true := by simpa using ht8
 refine Z5 ?_;refine Z18 ?_;refine Z80 ?_;refine Z35 ?_;refine R.fin [1, 10, 11, 12] ?_
 refine AW.loopC (α := Nat) (fun x => ⟨95, A2 1 (.ro (F3 m)) (A2 10 (A4 m.give) (A2 11 (A3 (m.give.length : Nat)) (A2 12 (A3 (x : Nat)) (fun _ => .any)))), Hp, [], [], none⟩) (fun x => x ≤ m.give.length ∧ ∀ (j : Nat) (y : Col), j < x → m.give[j]? = some y → (!E6 m y) = false) (fun x => m.give.length - x) (0) ⟨Nat.zero_le _, fun j y h => by omega⟩ (StLe.of_eq (by simp)) rfl (fun x hx => ?_)
 refine Z44 ?_;refine R.fin [1, 10, 11, 12, 13] ?_
 refine W.condX (fun ht13 => ?_) (fun ht13 => ?_)
 ·have hlt : x < m.give.length := by simpa using ht13
  have hgl := h.gives2
  refine Z65 ?_;refine R.indexAddr (x) (B3 m.give[x]) jU jS (Ae hlt) ?_;refine Yd ?_;refine R.fin [1, 4, 10, 11, 12] ?_;refine W.draw [0, 1, 3, 7, 15, 31, 63, 127, 255, 31, 543, 1567, 4095, 8191, 16383, 32767, 65535, 131071, 262143, 524287, 1048575, 2097151, 4194303, 8388607] 12 Am (by kernel_rfl) ?_;refine D.fieldAddrPtr (fo := 0) jU Tryz.sizeOf9 ?_;refine D.loadOwn jA ?_;refine D.call Tryz.call119 (dp m.give[x].name (h.gives.2 _ (List.getElem_mem hlt)) _) ?_;refine D.not ?_;refine D.move ?_;refine H.fieldAddrPtr (fo := 1) jU Tryz.sizeOf3 ?_;refine H.loadOwn jA ?_;refine H.call Tryz.call40 (fun hB => c40 m.give[x].kind _) ?_;refine H.seql ?_;refine H.fieldAddrRo (off := 0) jU Tryz.sizeOf3 ?_;refine I0 ?_;refine H.eql ?_;refine D.tail ?_;refine G.bneq jU ?_;refine Sy ?_;refine ic ?_;refine G.eql ?_;refine G.move ?_;refine G.fieldAddrPtr (fo := 1) jU Tryz.sizeOf3 ?_
  refine G.loadOwn jA ?_;refine G.neq ?_;refine G.pickAnd ?_;refine R.pickOr ?_;refine R.fin [1, 10, 11, 12, 39] ?_
  refine W.cond (fun ht39 => ?_) (fun ht39 => ?_)
  ·rw [S0] at ht39
   have hm := jl (List.getElem_mem hlt) (by simpa using ht39)
   exact gt
  rw [S0] at ht39
  refine Hx ?_;refine R.fin [1, 10, 11, 12] ?_;refine K.lpN (x + 1) ⟨hlt, An hlt hx.2 ht39⟩ (by omega) ?_
  exact StCut.take (own := []) (fun _ => .refl _) (by repeat (first | exact Aj | refine Ai (by first | (simp [or_imp, forall_and]; done) | exact Bm | exact low_ro.2 Px) ?_)) (by simp) (by simp)
 have hxe : m.give.length ≤ x := by simpa using ht13
 have hga : m.give.all (E6 m) = true := by have := Da hxe hx.2; rw [Dd] at this; simpa using this
 refine Z29 ?_;refine Z0 ?_;refine R.fin [1, 5] ?_;refine Z18 ?_;refine Z63 ?_;refine R.call Tryz.call154 (pt m.take h.takes h.names _) ?_;refine Ap ?_;refine G.fieldAddrRo (off := 3) jU Tryz.sizeOf53 ?_;refine Ii ?_;refine G.move ?_;refine G.call Tryz.call139 (fun hB => gh m.ahead h.ahead.len h.ahead.ok _) ?_;refine Sy ?_;refine cl ?_;refine G.move ?_;refine G.call Tryz.call139 (fun hB => gh m.back h.back.len h.back.ok _) ?_;refine R.pickOr ?_;refine R.fin [1, 55] ?_
 refine W.cond (fun ht55 => ?_) (fun ht55 => ?_)
 ·have hm := jm ht55
  exact Yl
 have hm0 := er hct hga ht55
 refine Z5 ?_;refine Pf ?_;refine R.fin [1, 57] ?_;refine N9 ?_;refine R.fin [1, 57, 58] ?_
 refine W.cond (fun ht58 => ?_) (fun ht58 => ?_)
 ·obtain ⟨hl1, hl2⟩ := Hd hct (by rw [ht58]; simp)
  obtain ⟨hl3, hl4⟩ := E7 hct
  have g1 := Gm (f := A6) (l := m.ahead) (d := Aa) (by omega)
  have g2 := Gm (f := A6) (l := m.back) (d := Aa) (by omega)
  have g3 := Gm (f := A8) (l := m.take) (d := []) (by omega)
  have g4 := Gm (f := B3) (l := m.give) (d := ⟨[], 0⟩) (by omega)
  have ok1 := h.ahead.ok _ (Fw (l := m.ahead) (d := Aa) (by omega))
  have ok2 := h.back.ok _ (Fw (l := m.back) (d := Aa) (by omega))
  have hm := hm0.trans (aj ht58)
  refine W.draw [0, 1, 3, 7, 0, 16, 48, 112, 240, 511, 1023, 2047, 4095, 8191, 16383, 2047, 34815, 100351, 231423, 493567, 1017855, 2097151, 4194303, 8388607] 21 Am (by kernel_rfl) ?_;refine D.fieldAddrRo (off := 3) jU Tryz.sizeOf53 ?_;refine Ik ?_;refine D.indexAddr (0) (A6 (m.ahead.getD 0 Aa)) jU jS g1 ?_;refine Nh ?_;refine cb ?_;refine D.indexAddr (0) (A8 (m.take.getD 0 [])) jU jS g3 ?_;refine Ik ?_;refine D.call Tryz.call157 (ng (m.take.getD 0 []) _) ?_;refine D.call Tryz.call156 (n6 61 (m.ahead.getD 0 Aa) ok1 (Bi (m.take.getD 0 [])) _) ?_;refine D.move ?_;refine H.fieldAddrRo (off := 4) jU Tryz.sizeOf53 ?_;refine I0 ?_;refine H.indexAddr (0) (A6 (m.back.getD 0 Aa)) jU jS (fun _ => g2) ?_;refine H.loadRoN jA jS ?_;refine H.fieldAddrRo (off := 2) jU Tryz.sizeOf22 ?_;refine I0 ?_
  refine H.indexAddr (0) (B3 (m.give.getD 0 ⟨[], 0⟩)) jU jS (fun _ => g4) ?_;refine ib ?_;refine H.call Tryz.call157 (fun hB => ng (m.give.getD 0 ⟨[], 0⟩).name _) ?_;refine D.tail ?_;refine G.call Tryz.call156 (fun hB => n6 61 (m.back.getD 0 Aa) ok2 (Bi (m.give.getD 0 ⟨[], 0⟩).name) _) ?_;refine Z20 ?_;exact lg
 refine Z39 ?_;refine R.fin [1, 83] ?_
 refine W.cond (fun ht83 => ?_) (fun ht83 => ?_)
 ·obtain ⟨hl1, hl2⟩ := Hd hct (by rw [ht83]; simp)
  obtain ⟨hl3, hl4⟩ := E7 hct
  have g1 := Gm (f := A6) (l := m.ahead) (d := Aa) (by omega)
  have g2 := Gm (f := A6) (l := m.back) (d := Aa) (by omega)
  have g3 := Gm (f := A8) (l := m.take) (d := []) (by omega)
  have g4 := Gm (f := B3) (l := m.give) (d := ⟨[], 0⟩) (by omega)
  have ok1 := h.ahead.ok _ (Fw (l := m.ahead) (d := Aa) (by omega))
  have ok2 := h.back.ok _ (Fw (l := m.back) (d := Aa) (by omega))
  have hm := hm0.trans (ak ht58 ht83)
  refine ln ?_;refine D.indexAddr (0) (A8 (m.take.getD 0 [])) jU jS g3 ?_;refine Ik ?_;refine ck ?_;refine D.indexAddr (0) (B3 (m.give.getD 0 ⟨[], 0⟩)) jU jS g4 ?_;refine D.fieldAddrRo (off := 0) jU Tryz.sizeOf9 ?_;refine Ye ?_;refine Z8 ?_;exact lg
 have hm := hm0.trans (al ht58 ht83)
 refine Qv ?_;exact Yv

def X0 (m : Mov) : Bool := !(Cn m)
theorem et (l : List Mov) : (decide ((l.length : Int) ≤ 8) && !(l.any X0)) = Gs l := by
 unfold Gs
 rw [show X0 = fun m => !(Cn m) from rfl, Dd]
 simp
theorem pw (m : Mov) (h : OkMov m) (Hp : List AObj) : AFun Tryz.prog 133 [F4 m] Hp (Af (X0 m)) := by
 refine ACall.body [.tmp 2] [0] Tryz.func133 Tryz.ntmps133 (fun d => ?_)
 refine Z97 ?_;refine Z88 ?_;refine R.call Tryz.call134 (pv m h _) ?_;exact ip

theorem px (l : List Mov) (h : OkMovs l) (Hp : List AObj) : AFun Tryz.prog 151 [C0 l, .fn (.func 133) [] []] Hp (A3 (I9 X0 l)) := by
 refine ACall.body [.tmp 4] [0, 1] Tryz.func151 Tryz.ntmps151 (fun d => ?_)
 refine Wf ?_
 refine AW.loopC (α := Nat) (fun x => ⟨19, A2 0 (C0 l) (A2 1 (.fn (.func 133) [] []) (A2 7 (A3 l.length) (A2 8 (A3 (x : Nat)) (fun _ => .any)))), Hp, [], [], none⟩) (fun x => x ≤ l.length ∧ ∀ (j : Nat) (y : Mov), j < x → l[j]? = some y → X0 y = false) (fun x => l.length - x) (0) ⟨Nat.zero_le _, fun j y h => by omega⟩ (StLe.of_eq (by simp)) rfl (fun x hx => ?_)
 refine W7 ?_
 refine W.condX (fun ht9 => ?_) (fun ht9 => ?_)
 ·have hlt : x < l.length := by simpa using ht9
  have hlen := h.len
  refine We ?_;refine gy ?_;refine R.callV Tryz.call133 (pw l[x] (h.each _ (List.getElem_mem hlt)) _) ?_;refine Wi ?_
  refine W.cond (fun ht16 => ?_) (fun ht16 => ?_)
  ·exact ct
  exact cv
 have hxe : l.length ≤ x := by simpa using ht9
 exact de

theorem py (l : List Mov) (h : OkMovs l) (Hp : List AObj) : AFun Tryz.prog 132 [C0 l, .fn (.func 133) [] []] Hp (Af (l.any X0)) := by
 refine ACall.body [.tmp 4] [0, 1] Tryz.func132 Tryz.ntmps132 (fun d => ?_)
 refine Z71 ?_;refine Z31 ?_;refine R.call Tryz.call151 (px l h _) ?_;exact cw

theorem pz (l : List Mov) (h : OkMovs l) (Hp : List AObj) : AFun Tryz.prog 106 [C0 l] Hp (Af (Gs l)) := by
 refine ACall.body [.tmp 2] [0] Tryz.func106 Tryz.ntmps106 (fun d => ?_)
 refine Nf ?_;refine R.len jU ?_;refine R.leq ?_;refine Z15 ?_;refine G.call Tryz.call132 (fun hB => py l h _) ?_;refine G.not ?_;refine T5 ?_;exact K.fin (V.one V.tmp) ⟨by rw [← et, List.length_map], rfl⟩

theorem c80 (c : List Col) (hc : OkCols c) (l : List Mov) (h : OkMovs l) (Hp : List AObj) : AFun Tryz.prog 80 [A4 c, C0 l] Hp (Af (Ge c l)) := by
 refine ACall.body [.tmp 4] [0, 1] Tryz.func80 Tryz.ntmps80 (fun d => ?_)
 refine Z71 ?_;refine Z1 ?_;refine R.call Tryz.call39 (c39 c hc _) ?_;refine Z15 ?_;refine G.call Tryz.call106 (fun hB => pz l h _) ?_;refine Z20 ?_;refine Z23 ?_;exact K.fin (V.one V.tmp) ⟨by unfold Ge; rw [H9], rfl⟩

theorem X1 {Hp : List AObj} {c : List Col} (h : ∀ x ∈ Hp, ObjLow Hp.length x) : ∀ x ∈ Hp ++ [AObj.cells 22 [A4 c]], ObjLow (Hp.length + 1) x := by
 intro x hx
 rcases List.mem_append.1 hx with hx | hx
 ·exact ObjLow.le (by omega) (h x hx)
 rw [List.mem_singleton.1 hx]
 intro z hz
 rw [List.mem_singleton.1 hz]
 exact Bm
theorem c82 (c : List Col) (l : List Mov) (Hp : List AObj) : ACallO Tryz.prog 82 [A4 c, C0 l] Hp (fun r H' => r = .fn (.func 107) [] [.ro [C0 l], .ptr (oid Hp.length 0) 0] ∧ H' = Hp ++ [.cells 22 [A4 c]]) := by
 refine ACallO.body [.tmp 4] [0, 1] Tryz.func82 Tryz.ntmps82 (fun d => ?_)
 refine B2 ?_;refine R.box ?_;refine Wa ?_;refine R.fin [2, 3] ?_;refine B2 ?_
 refine R.assumeLow (fun hlow => ?_)
 refine Yf ?_;refine Z23 ?_;exact K.finO 1 (V.tmp (t := 4)) ⟨rfl, rfl⟩ (hlow := by simp [oid, or_imp, forall_and]; exact ⟨fun m _ a _ => As _ a, fun m _ a _ => As _ a⟩) (hobj := X1 hlow)

theorem q8 (l oc : Nat) (ms : List Mov) (hm : ∀ m ∈ ms, MvOk m) (hml : ms.length ≤ 1048576) (C : Nat → List Col) (hC : ∀ k, OkCols (C k)) (U T : Nat → List AObj) (N : Nat → Prop) (Z : List AObj → Prop) (hlen : ∀ k, (U k).length = (U 0).length) (hlenW : ∀ k, (T k).length = (U 0).length) (hll : l < (U 0).length) (hol : oc < (U 0).length)
  (hlw : ∀ k, ∀ x ∈ U k, ObjLow (U 0).length x) (hlW : ∀ k, ∀ x ∈ T k, ObjLow (U 0).length x) (h0 : N 0) (hc : ∀ k, (U k)[oc]? = some (.cells 22 [A4 (C k)])) (hcW : ∀ k, (T k)[oc]? = some (.cells 22 [A4 (C k)]))
  (hn : ∀ k m, ms[k]? = some m → (Az (C k) m).2 = 0 → (T k).set oc (.cells 22 [A4 (Az (C k) m).1]) = U (k + 1))
  (hy : ∀ k m X, ms[k]? = some m → N k → AYield Tryz.prog l [A4 (Az (C k) m).1, A3 (Az (C k) m).2] (U k ++ X) (fun b H' => ((Az (C k) m).2 ≠ 0 ∧ ∃ V, H' = V ++ X ∧ V.length = (U 0).length ∧ (∀ x ∈ V, ObjLow (U 0).length x) ∧ Z V) ∨ ((Az (C k) m).2 = 0 ∧ b = true ∧ N (k + 1) ∧ H' = T k ++ X)))
  (hR : N ms.length → Z (U ms.length)) : ACall Tryz.prog 107 [.yield l, .ro [C0 ms], .ptr oc 0] (U 0) (fun _ H' => Z H') := by
 refine ACall.body [] [0, 1, 2] Tryz.func107 Tryz.ntmps107 (fun d => ?_)
 refine W9 ?_;refine Z35 ?_;refine R.fin [0, 2, 8, 9, 10] ?_
 refine AW.loopC (α := Nat) (fun x => ⟨31, A2 0 (.yield l) (A2 2 (.ptr oc 0) (A2 8 (C0 ms) (A2 9 (A3 ms.length) (A2 10 (A3 (x : Nat)) (fun _ => .any))))), U x, [], [], none⟩) (fun x => x ≤ ms.length ∧ N x) (fun x => ms.length - x) (0) ⟨Nat.zero_le _, h0⟩ (StLe.of_eq (by simp)) rfl (fun x hx => ?_)
 refine Z44 ?_;refine R.fin [0, 2, 8, 9, 10, 11] ?_
 refine W.condX (fun ht11 => ?_) (fun ht11 => ?_)
 ·have hlt : x < ms.length := by simpa using ht11
  refine Z65 ?_;refine R.indexAddr (x) (F4 ms[x]) jU jS (Ae hlt) ?_;refine Yd ?_;refine R.fin [0, 2, 5, 8, 9, 10] ?_;refine B2 ?_;refine R.loadUp jA (hc x) ?_;refine Pj ?_;refine R.call Tryz.call108 (pk (C x) (hC x) ms[x] (hm _ (List.getElem_mem hlt)) _) ?_;refine Z96 ?_;refine R.fin [0, 2, 6, 7, 8, 9, 10] ?_;refine Z67 ?_;refine Ap ?_
  refine R.yield (l := l) (args := [A4 (Az (C x) ms[x]).1, A3 (Az (C x) ms[x]).2]) (hy x ms[x] _ (List.getElem?_eq_getElem hlt) hx.2) ?_
  intro b V O hV hb
  have hVO : O = [AObj.cells 55 (F3 ms[x])] ∧ (((Az (C x) ms[x]).2 ≠ 0 ∧ V.length = (U 0).length ∧ (∀ y ∈ V, ObjLow (U 0).length y) ∧ Z V) ∨ ((Az (C x) ms[x]).2 = 0 ∧ b = true ∧ N (x + 1) ∧ V = T x)) := by
   rcases hb with ⟨h1, V', h2, h3, h4, h5⟩ | ⟨h1, h2, h3, h4⟩
   ·obtain ⟨rfl, rfl⟩ := List.append_inj h2 (by rw [hV, hlen x, h3])
    exact ⟨rfl, .inl ⟨h1, h3, h4, h5⟩⟩
   have h6 := List.append_inj h4 (by rw [hV, hlen x, hlenW x])
   exact ⟨h6.2, .inr ⟨h1, h2, h3, h6.1⟩⟩
  obtain ⟨rfl, hVO⟩ := hVO
  have hVl : V.length = (U 0).length := by rw [hV, hlen x]
  have hVw : ∀ y ∈ V, ObjLow (U 0).length y := by
   rcases hVO with ⟨_, _, h, _⟩ | ⟨_, _, _, rfl⟩
   ·exact h
   exact hlW _
  refine ⟨fun _ => by rw [hVl]; exact hVw, fun o ho => (by cases ho), ?_⟩
  refine Pg ?_;refine ce ?_;refine R.fin [0, 2, 6, 8, 9, 10, 28] ?_
  refine W.cond (fun ht28 => ?_) (fun ht28 => ?_)
  ·have hZ : Z V := by
    rcases hVO with ⟨_, _, _, h⟩ | ⟨h1, h2, _, _⟩
    ·exact h
    rw [h1, h2] at ht28; simp at ht28
   refine Yg ?_;refine Z4 ?_;refine K.lpR ?_;exact K.fin .nores (hp := hZ)
  have hVn : (Az (C x) ms[x]).2 = 0 ∧ N (x + 1) ∧ V = T x := by
   rcases hVO with ⟨h1, _, _, _⟩ | ⟨h1, _, h3, h4⟩
   ·simp [h1] at ht28
   exact ⟨h1, h3, h4⟩
  obtain ⟨hz, hN, rfl⟩ := hVn
  have hnx := hn x _ (List.getElem?_eq_getElem hlt) hz
  refine Z5 ?_;refine Z14 ?_
  refine R.storeUp jS (hcW x) ?_ ?_
  ·first | exact Bm | (simp [or_imp, forall_and]; done)
  refine R.fin [0, 2, 8, 9, 10] ?_;refine Ih ?_;refine R.fin [0, 2, 8, 9, 10] ?_;refine K.lpN (x + 1) ⟨hlt, hN⟩ (by omega) ?_
  rw [hnx]
  exact StCut.take (own := []) (fun _ => .refl _) (by repeat (first | exact Aj | refine Ai (by first | (simp [or_imp, forall_and]; done) | exact Jj | (have := hlen (x + 1); simp; omega)) ?_)) (by simp) (by simp)
 have hxe : x = ms.length := by have := hx.1; simp at ht11; omega
 refine K.lpE ?_;exact K.finN .nores (hp := by rw [hxe]; exact hR (hxe ▸ hx.2))

/-! The columns on the way through moves. -/
def colsAt (c : List Col) (ms : List Mov) : Nat → List Col
 | 0 => c
 | k + 1 => match ms[k]? with | some m => (Az (colsAt c ms k) m).1 | none => colsAt c ms k
def Ba (c : List Col) (ms : List Mov) : Nat → List (List Col)
 | 0 => [c]
 | k + 1 => Ba c ms k ++ [colsAt c ms (k + 1)]
def NS (c : List Col) (ms : List Mov) (k : Nat) : Prop := B1 c ms = ((Ba c ms k).dropLast ++ (B1 (colsAt c ms k) (ms.drop k)).1, (B1 (colsAt c ms k) (ms.drop k)).2)
theorem Q2 (c : List Col) (ms : List Mov) (k : Nat) : (Ba c ms k).dropLast ++ [colsAt c ms k] = Ba c ms k := by
 cases k with
 | zero => rfl
 | succ k => simp [Ba]
theorem Ea {c : List Col} {ms : List Mov} {k : Nat} {m : Mov} (h : ms[k]? = some m) : colsAt c ms (k + 1) = (Az (colsAt c ms k) m).1 := by rw [colsAt, h]
theorem Hf {ms : List Mov} {k : Nat} {m : Mov} (hk : ms[k]? = some m) : ms.drop k = m :: ms.drop (k + 1) := by
 obtain ⟨h1, h2⟩ := List.getElem?_eq_some_iff.1 hk
 rw [List.drop_eq_getElem_cons h1, h2]
theorem jn {c : List Col} {ms : List Mov} : NS c ms 0 := rfl
theorem Q3 {c : List Col} {ms : List Mov} {k : Nat} {m : Mov} (hk : ms[k]? = some m) (h : NS c ms k) (he : (Az (colsAt c ms k) m).2 = 0) : NS c ms (k + 1) := by
 unfold NS at h ⊢
 rw [h, Hf hk]
 have e : B1 (colsAt c ms k) (m :: ms.drop (k + 1)) = (colsAt c ms k :: (B1 (Az (colsAt c ms k) m).1 (ms.drop (k + 1))).1, (B1 (Az (colsAt c ms k) m).1 (ms.drop (k + 1))).2) := by
  rw [B1, if_neg (by rw [he]; simp)]
 have e2 : (Ba c ms (k + 1)).dropLast = Ba c ms k := by simp [Ba]
 rw [e, e2, Ea hk]
 have e3 := Q2 c ms k
 refine Prod.ext ?_ rfl
 show (Ba c ms k).dropLast ++ (colsAt c ms k :: _) = Ba c ms k ++ _
 conv => rhs; rw [← e3]
 simp
theorem U5 {c : List Col} {ms : List Mov} {k : Nat} {m : Mov} (hk : ms[k]? = some m) (h : NS c ms k) (he : (Az (colsAt c ms k) m).2 ≠ 0) : (B1 c ms).2 = (Az (colsAt c ms k) m).2 := by
 unfold NS at h
 rw [h, Hf hk, B1, if_pos (by simpa using he)]
theorem U6 {c : List Col} {ms : List Mov} (h : NS c ms ms.length) : B1 c ms = (Ba c ms ms.length, 0) := by
 unfold NS at h
 rw [h, List.drop_length, B1]
 exact Prod.ext (Q2 c ms ms.length) rfl
theorem S1 {c : List Col} {m : Mov} (hc : OkCols c) (h : OkMov m) : OkCols (Az c m).1 := by
 have h0 : OkCols ([] : List Col) := ⟨by decide, fun y hy => by cases hy⟩
 unfold Az
 split
 ·exact h0
 split
 ·exact h0
 split
 ·exact h0
 exact Mi hc (Mh h) (by rw [E8]; exact h.gives2)
theorem Fx {c : List Col} {ms : List Mov} (hc : OkCols c) (h : ∀ m ∈ ms, OkMov m) : ∀ k, OkCols (colsAt c ms k)
 | 0 => hc
 | k + 1 => by
  rw [colsAt]
  cases hk : ms[k]? with
  | none => exact Fx hc h k
  | some m => exact S1 (Fx hc h k) (h m (List.mem_of_getElem? hk))
theorem Ei (c : List Col) (ms : List Mov) : ∀ k, (Ba c ms k).length = k + 1
 | 0 => rfl
 | k + 1 => by rw [Ba, List.length_append, Ei c ms k]; rfl
theorem am {c : List Col} {ms : List Mov} (h : Ge c ms = true) (hk : OkMovs ms) : (∀ m ∈ ms, MvOk m) ∧ ms.length ≤ 8 := by
 unfold Ge Gs at h
 simp only [Bool.and_eq_true, decide_eq_true_eq, List.all_eq_true] at h
 exact ⟨fun m hm => ep (hk.each m hm) (Od (h.2.2 m hm)), by omega⟩
theorem Og {c : List Col} {ms : List Mov} (h : Ge c ms = false) : At c ms = ([], 1) := by
 have : Bw c ms = ([], 1) := if_neg (by rw [h]; simp)
 unfold At
 rw [this]; rfl
theorem Ml {c : List Col} {ms : List Mov} (h : Ge c ms = true) (he : (B1 c ms).2 ≠ 0) : At c ms = ([], (B1 c ms).2) := by
 have : Bw c ms = B1 c ms := if_pos h
 unfold At
 rw [this, if_pos (by simpa using he)]
theorem Oh {c : List Col} {ms : List Mov} {o : List (List Col)} (h : Ge c ms = true) (he : B1 c ms = (o, 0)) : At c ms = (o, 0) := by
 have : Bw c ms = B1 c ms := if_pos h
 unfold At
 rw [this, he]; rfl
abbrev U7 (l : List (List Col)) : AV := .slice false 1 (l.map A4)
theorem Fy {n k : Nat} {o : Bool} {l : List (List Col)} : Low n (.slice o k (l.map A4)) := low_slice.2 fun y hy => by
 obtain ⟨m, _, rfl⟩ := List.mem_map.1 hy
 exact Bm
theorem q9 {U : List AObj} {i j : Nat} {x y : AObj} (h : U[i]? = some x) (hne : j ≠ i) : (U.set j y)[i]? = some x := by rw [List.getElem?_set_ne hne]; exact h
theorem X2 {n k : Nat} {o : Bool} {l : List (List Col)} {c : List Col} : Low n (.slice o k (l.map A4 ++ [A4 c])) := by
 have := Fy (n := n) (k := k) (o := o) (l := l ++ [c])
 rwa [List.map_append] at this
theorem c56 (c : List Col) (hc : OkCols c) (hc2 : c.length ≤ 1000000) (l : List Mov) (h : OkMovs l) (Hp : List AObj) : AFun Tryz.prog 56 [A4 c, C0 l] Hp (.tup [U7 (At c l).1, A3 (At c l).2]) := by
 refine ACall.body [.cell 4 37, .cell 5 28] [0, 1, 7, 8] Tryz.func56 Tryz.ntmps56 (fun d => ?_)
 refine B2 ?_;refine R.alloc jZ ?_;refine R.alloc jZ ?_;refine R.fin [0, 1, 4, 5, 7, 8] ?_;refine Z67 ?_;refine R.call Tryz.call80 (c80 c hc l h _) ?_;refine R.not ?_;refine R.fin [0, 1, 4, 5, 7, 8, 12] ?_
 refine W.cond (fun ht12 => ?_) (fun ht12 => ?_)
 ·have hm := Og (by simpa using ht12)
  refine B2 ?_;refine H6 ?_;refine R.nilOwn 0 1 ?_;refine H6 ?_;refine Z47 ?_;exact K.fin (V.two (V.cell jA) (V.cell jA)) ⟨by rw [hm]; rfl, rfl⟩
 have hmay : Ge c l = true := by simpa using ht12
 obtain ⟨hmv, hl8⟩ := am hmay h
 refine Jv ?_;refine R.call Tryz.call81 (c81 c hc2 _) ?_;refine J9 ?_;refine R.alloc jZ ?_;refine R.storeOwnT jS ?_;refine R.fin [0, 1, 4, 5, 6, 7, 8] ?_;refine Z18 ?_
 refine R.assumeLow (fun hlow => ?_)
 refine Jw ?_;refine R.callO Tryz.call82 (c82 c l _) ?_
 rintro _ _ ⟨rfl, rfl⟩
 refine ⟨[.cells 22 [A4 c]], by simp, ?_⟩
 rw [show oid (Hp ++ [AObj.cells 37 [AV.nil], AObj.cells 28 [A3 0], AObj.cells 37 [AV.slice true 1 [A4 c]]]).length 0 = oid Hp.length 3 by simp [oid]]
 simp only [List.cons_append, List.nil_append]
 refine R.fin [4, 5, 6, 7, 8, 18] ?_;refine AW.block ?_
 refine W.rangeV (m := 4) Tryz.call107 (fun FR as' bd' hFR has hbd => ?_)
 have hFRl : ∀ s, Low (Hp.length + 6) (FR s) := by
  intro s
  rw [hFR]
  refine Low.strip ?_
  revert s
  repeat (first | exact Aj | refine Ai (by first | (simp [oid, or_imp, forall_and]; done) | (simp [oid, or_imp, forall_and]; exact ⟨fun m _ a _ => As _ a, fun m _ a _ => As _ a⟩) | (simp [oid, or_imp, forall_and] <;> omega)) ?_)
 have hOl : ∀ {e : Int} {o : List (List Col)} {q : List Col} {lp : AObj}, ObjLow (Hp.length + 6) lp → ∀ x ∈ Hp ++ [AObj.cells 37 [AV.nil], AObj.cells 28 [A3 e], AObj.cells 37 [AV.slice true 1 ((o).map A4)], AObj.cells 22 [A4 (q)], AObj.defs, lp], ObjLow (Hp.length + 6) x := by
  intro e o q lp hlp x hx
  refine Fd (fun x hx => ObjLow.le (by omega) (hlow x hx)) (fun x hx => ?_) x hx
  simp only [List.mem_cons, List.mem_nil_iff, or_false] at hx
  rcases hx with rfl | rfl | rfl | rfl | rfl | rfl
  ·intro y hy; rw [List.mem_singleton.1 hy]; simp
  ·intro y hy; rw [List.mem_singleton.1 hy]; simp
  ·intro y hy; rw [List.mem_singleton.1 hy]; exact Fy
  ·intro y hy; rw [List.mem_singleton.1 hy]; exact Bm
  ·trivial
  exact hlp
 refine ⟨_, q8 (oid Hp.length 5) (oid Hp.length 3) l hmv (by omega) (colsAt c l) (Fx hc fun m hm => h.each m hm) (fun k => Hp ++ [AObj.cells 37 [AV.nil], AObj.cells 28 [A3 0], AObj.cells 37 [AV.slice true 1 ((Ba c l k).map A4)], AObj.cells 22 [A4 (colsAt c l k)], AObj.defs, AObj.loop LoopState.ready none FR 29 #[19, 20] as' bd' (oid Hp.length 4)]) (fun k => Hp ++ [AObj.cells 37 [AV.nil], AObj.cells 28 [A3 0], AObj.cells 37 [AV.slice true 1 ((Ba c l (k + 1)).map A4)], AObj.cells 22 [A4 (colsAt c l k)], AObj.defs, AObj.loop LoopState.ready none FR 29 #[19, 20] as' bd' (oid Hp.length 4)]) (NS c l) (fun V => (∃ (o : List (List Col)) (q : List Col), V = Hp ++ [AObj.cells 37 [AV.nil], AObj.cells 28 [A3 0], AObj.cells 37 [AV.slice true 1 ((o).map A4)], AObj.cells 22 [A4 (q)], AObj.defs, AObj.loop LoopState.ready none FR 29 #[19, 20] as' bd' (oid Hp.length 4)] ∧ B1 c l = (o, 0)) ∨ (∃ (e : Int) (o : List (List Col)) (q : List Col), V = Hp ++ [AObj.cells 37 [AV.nil], AObj.cells 28 [A3 e], AObj.cells 37 [AV.slice true 1 ((o).map A4)], AObj.cells 22 [A4 (q)], AObj.defs, AObj.loop LoopState.done (some Code.ret) FR 29 #[19, 20] as' bd' (oid Hp.length 4)] ∧ e ≠ 0 ∧ (B1 c l).2 = e)) (fun k => by simp) (fun k => by simp) (by simp [oid]) (by simp [oid]) (fun k => (fun x hx => by rw [List.length_append]; exact hOl (lp := AObj.loop LoopState.ready none FR 29 #[19, 20] as' bd' (oid Hp.length 4)) (by exact ⟨hFRl, by simp [oid]⟩) x hx)) (fun k => (fun x hx => by rw [List.length_append]; exact hOl (lp := AObj.loop LoopState.ready none FR 29 #[19, 20] as' bd' (oid Hp.length 4)) (by exact ⟨hFRl, by simp [oid]⟩) x hx)) jn (fun k => by rw [Bc]; rfl) (fun k => by rw [Bc]; rfl) (fun k m hk he => by rw [Eo]; simp only [Ea hk]; rfl) (fun k m X hk hN => ?_) (fun hN => .inl ⟨_, _, rfl, U6 hN⟩), ?_⟩
 ·generalize hV : Hp ++ [AObj.cells 37 [AV.nil], AObj.cells 28 [A3 0], AObj.cells 37 [AV.slice true 1 ((Ba c l k).map A4)], AObj.cells 22 [A4 (colsAt c l k)], AObj.defs, AObj.loop LoopState.ready none FR 29 #[19, 20] as' bd' (oid Hp.length 4)] ++ X = V
  have hL : V[oid Hp.length 5]? = some (AObj.loop LoopState.ready none FR 29 #[19, 20] as' bd' (oid Hp.length 4)) := by rw [← hV, List.append_assoc, Bc]; rfl
  have hA0 : V[oid Hp.length 2]? = some (AObj.cells 37 [AV.slice true 1 ((Ba c l k).map A4)]) := by rw [← hV, List.append_assoc, Bc]; rfl
  have hB0 : V[oid Hp.length 0]? = some (AObj.cells 37 [AV.nil]) := by rw [← hV, List.append_assoc, Bc]; rfl
  have hC0 : V[oid Hp.length 1]? = some (AObj.cells 28 [A3 0]) := by rw [← hV, List.append_assoc, Bc]; rfl
  refine AYield.ofRound (pd := none) (fr := FR) (sz := 29) (ps := #[19, 20]) (df := oid Hp.length 4) (asg := as') (bd := bd') hL rfl (by decide) (fun d => ?_)
  subst hFR has hbd
  refine W.keep [4, 5, 6, 19, 20] ?_;refine Z0 ?_;refine R.fin [4, 5, 6, 7, 20] ?_;refine cy ?_;refine R.fin [4, 5, 6, 7, 8] ?_
  refine ⟨rfl, none, hL, ?_⟩
  generalize hbz : (AObj.loop LoopState.busy _ _ _ _ _ _ _) = bz
  have hA : (V.set (oid Hp.length 5) bz)[oid Hp.length 2]? = some (AObj.cells 37 [AV.slice true 1 ((Ba c l k).map A4)]) := by rw [List.getElem?_set_ne (Cc (by decide))]; exact hA0
  have hB : (V.set (oid Hp.length 5) bz)[oid Hp.length 0]? = some (AObj.cells 37 [AV.nil]) := by rw [List.getElem?_set_ne (Cc (by decide))]; exact hB0
  have hC : (V.set (oid Hp.length 5) bz)[oid Hp.length 1]? = some (AObj.cells 28 [A3 0]) := by rw [List.getElem?_set_ne (Cc (by decide))]; exact hC0
  refine AW.block ?_;refine Gp ?_;refine R.fin [4, 5, 6, 7, 8, 22] ?_
  refine W.cond (fun ht22 => ?_) (fun ht22 => ?_)
  ·have he : (Az (colsAt c l k) m).2 ≠ 0 := by simpa using ht22
   refine Z1 ?_
   refine R.storeUp jS hB ?_ ?_
   ·simp
   refine R.storeUp jS (q9 hC (Cc (by decide))) ?_ ?_
   ·simp
   refine R.fin [] ?_;refine Yg ?_;refine K.blR ?_
   subst hbz
   refine K.rdR (Qp hL (Cc (by decide)) (Cc (by decide))) ?_
   refine .inl ⟨he, Hp ++ [AObj.cells 37 [AV.nil], AObj.cells 28 [A3 (Az (colsAt c l k) m).2], AObj.cells 37 [AV.slice true 1 ((Ba c l k).map A4)], AObj.cells 22 [A4 (colsAt c l k)], AObj.defs, _], ?_, by simp, (fun x hx => by rw [List.length_append]; exact hOl (lp := _) (by exact ⟨hFRl, by simp [oid]⟩) x hx), .inr ⟨_, _, _, rfl, he, U5 hk hN he⟩⟩
   subst hV
   simp only [List.append_assoc, Eo, List.cons_append, List.nil_append, List.set_cons_succ, List.set_cons_zero]
  have he : (Az (colsAt c l k) m).2 = 0 := by simpa using ht22
  refine Z5 ?_;refine Gq ?_;refine R.loadUpT jA hA ?_;refine cp ?_
  refine R.append jU Tryz.type22 ?_ ?_ ?_
  ·have hol := Ei c l k; have hkl := (List.getElem?_eq_some_iff.1 hk).1; simp [Tryz.t22]; omega
  ·have hol := Ei c l k; have hkl := (List.getElem?_eq_some_iff.1 hk).1; simp [Tryz.t22]; omega
  refine R.storeUpT jS (Ao hA) ?_ ?_
  ·exact X2
  refine Yp ?_
  subst hbz
  refine K.rdN (Qp hL (Cc (by decide)) (Cc (by decide))) ?_
  refine .inr ⟨he, rfl, Q3 hk hN he, ?_⟩
  subst hV
  simp only [List.append_assoc, Eo, List.cons_append, List.nil_append, List.set_cons_succ, List.set_cons_zero]
  rw [Ba, Ea hk, List.map_append]
  rfl
 rintro r H' (⟨o, q, rfl, hrun⟩ | ⟨e, o, q, rfl, hne, hrun⟩)
 ·refine ⟨Hp, _, _, _, rfl, rfl, fun h => h, ?_, rfl, by simp, ?_⟩
  ·intro o ho
   have : o = oid Hp.length 4 := by simpa using ho
   subst this
   rw [Bc]
   rfl
  refine Z6 ?_;refine Yc ?_;refine H6 ?_;refine H6 ?_;refine Z9 ?_;exact K.fin (V.two (V.cell jA) (V.cell jA)) ⟨by rw [Oh hmay hrun], rfl⟩ (hlow := by simp only [L3, List.mem_cons, List.mem_nil_iff, or_false]; rintro y (rfl | rfl); exact Fy; simp)
 refine ⟨Hp, _, _, _, rfl, rfl, fun h => h, ?_, rfl, by simp, ?_⟩
 ·intro o ho
  have : o = oid Hp.length 4 := by simpa using ho
  subst this
  rw [Bc]
  rfl
 refine W.nilOwn 0 1 ?_;refine AW.ret ?_;refine Z4 ?_;exact K.fin (V.two (V.cell jA) (V.cell jA)) ⟨by rw [Ml hmay (by rw [hrun]; exact hne), hrun]; rfl, rfl⟩

theorem X3 (c : List Col) (ms : List Mov) : (B1 c ms).1 ≠ [] := by
 cases ms with
 | nil => simp [B1]
 | cons m r =>
  rw [B1]
  split <;> simp
theorem Mm : ∀ (c : List Col) (ms : List Mov), (B1 c ms).1.length ≤ ms.length + 1
 | c, [] => by simp [B1]
 | c, m :: r => by
  rw [B1]
  split
  ·simp
  have := Mm (Az c m).1 r
  simp only [List.length_cons]
  omega
theorem Kb {c : List Col} {ms : List Mov} (h : ((At c ms).2 != 0) = false) : (At c ms).1 ≠ [] ∧ (At c ms).1.length ≤ 9 := by
 unfold At at h ⊢
 by_cases h1 : ((Bw c ms).2 != 0) = true
 ·rw [if_pos h1] at h
  rw [h1] at h; cases h
 rw [if_neg h1]
 by_cases h2 : Ge c ms = true
 ·have e : Bw c ms = B1 c ms := if_pos h2
  rw [e]
  have h3 : ms.length ≤ 8 := by
   unfold Ge Gs at h2
   simp only [Bool.and_eq_true, decide_eq_true_eq] at h2
   omega
  have := Mm c ms
  exact ⟨X3 c ms, by omega⟩
 have e : Bw c ms = ([], 1) := if_neg h2
 rw [e] at h1
 exact absurd rfl h1
theorem S2 {l : List (List Col)} (h : l ≠ []) : (l.map A4)[l.length - 1]? = some (A4 (l.getLastD [])) := by
 have h1 : 0 < l.length := List.length_pos_iff.2 h
 rw [List.getElem?_map, List.getElem?_eq_getElem (by omega), ← List.getLast_eq_getElem (h := h), List.getLastD_eq_getLast?, List.getLast?_eq_some_getLast h]
 rfl
theorem c36 (c : List Col) (hc : OkCols c) (hc2 : c.length ≤ 1000000) (l : List Mov) (h : OkMovs l) (Hp : List AObj) : AFun Tryz.prog 36 [A4 c, C0 l] Hp (.tup [A4 (C8 c l).1, A3 (C8 c l).2]) := by
 refine ACall.body [.tmp 4, .tmp 5] [0, 1] Tryz.func36 Tryz.ntmps36 (fun d => ?_)
 refine T3 ?_;refine R.call Tryz.call56 (c56 c hc hc2 l h _) ?_;refine Z96 ?_;refine R.fin [6, 7] ?_;refine Gp ?_;refine R.fin [6, 7, 15] ?_
 refine W.cond (fun ht15 => ?_) (fun ht15 => ?_)
 ·have hm : C8 c l = ([], (At c l).2) := if_pos ht15
  exact Wb
 have hm : C8 c l = ((At c l).1.getLastD [], 0) := if_neg (by rw [ht15]; simp)
 obtain ⟨hne, hl9⟩ := Kb ht15
 have hl0 : 0 < (At c l).1.length := List.length_pos_iff.2 hne
 refine Qy ?_;refine R.len jU ?_
 rw [List.length_map]
 refine R.sub64 (h1 := by omega) (h2 := by omega) ?_;refine R.indexAddr (((At c l).1.length - 1)) (A4 ((At c l).1.getLastD [])) jU jS (S2 hne) ?_;refine Dr ?_;exact Y1

theorem ACall.argLe {P : Program} {g : FuncId} {args args' : List AV} {H : List AObj} {post : AV → List AObj → Prop} (h : ACall P g args' H post) (hl : args.length = args'.length) (hle : ∀ (i : Nat) (y y' : AV), args[i]? = some y → args'[i]? = some y' → Le y y') : ACall P g args H post :=
 fun d G w vs h1 h2 h3 h4 => h d G w vs (h1.trans hl) (fun i y u hy hu => by
  have hi : i < args.length := by rw [hl]; exact (List.getElem?_eq_some_iff.1 hy).1
  exact (h2 i _ u (List.getElem?_eq_getElem hi) hu).le (hle i _ y (List.getElem?_eq_getElem hi) hy)) h3 h4
theorem Oi (s : Str) : Le (.agg [A3 2, A8 s, A3 0, A3 0, A8 [], .nil]) (A6 (Bi s)) := by
 rw [Bv]
 refine .agg _ _ rfl (fun y hy => ?_) (fun i y y' hy hy' => ?_)
 ·simp only [Dn, List.mem_cons, List.mem_nil_iff, or_false] at hy
  rcases hy with rfl | rfl | rfl | rfl | rfl | rfl <;> rfl
 match i with
 | 0 => simp at hy; subst hy; simp [Dn, Bi] at hy'; subst hy'; exact .inl rfl
 | 1 => simp at hy; subst hy; simp [Dn, Bi] at hy'; subst hy'; exact .inl rfl
 | 2 => simp at hy; subst hy; simp [Dn, Bi] at hy'; subst hy'; exact .inl rfl
 | 3 => simp at hy; subst hy; simp [Dn, Bi] at hy'; subst hy'; exact .inl rfl
 | 4 => simp at hy; subst hy; simp [Dn, Bi] at hy'; subst hy'; exact .inl rfl
 | 5 => simp at hy; subst hy; simp [Dn, Bi] at hy'; subst hy'; exact .inr ⟨rfl, 6, rfl⟩
 | i + 6 => simp at hy
theorem nh (x : Expr) (hx : okE 61 x) (s : Str) (Hp : List AObj) : AFun Tryz.prog 69 [A6 x, .agg [A3 2, A8 s, A3 0, A3 0, A8 [], .nil]] Hp (Af (eqE x (Bi s))) :=
 ACall.argLe (c69 61 x hx (Bi s) Hp) rfl fun i y y' hy hy' => by
  match i with
  | 0 => simp at hy hy'; subst hy; subst hy'; exact .refl _
  | 1 => simp only [List.getElem?_cons_succ, List.getElem?_cons_zero, Option.some.injEq] at hy hy'; subst hy; subst hy'; exact Oi s
  | i + 2 => simp at hy
def F7 (m : Mov) : Bool :=
 if m.kind == 1 then ((m.take.length : Int) == 0) && ((m.give.length : Int) == 1)
 else if m.kind == 2 then ((m.take.length : Int) == 1) && ((m.give.length : Int) == 0)
 else if (m.kind == 3) || (m.kind == 6) then ((m.take.length : Int) == 1) && ((m.give.length : Int) == 1)
 else if m.kind == 4 then ((m.take.length : Int) == 1) && decide ((2 : Int) ≤ (m.give.length : Int))
 else if m.kind == 5 then decide ((2 : Int) ≤ (m.take.length : Int)) && ((m.give.length : Int) == 1)
 else false
theorem an (n : Nat) : decide ((1 : Int) < (n : Int)) = decide ((2 : Int) ≤ (n : Int)) := by
 by_cases h : 2 ≤ n
 ·have h1 : (1 : Int) < n := by omega
  have h2 : (2 : Int) ≤ n := by omega
  simp [h1, h2]
 have h1 : ¬ (1 : Int) < n := by omega
 have h2 : ¬ (2 : Int) ≤ n := by omega
 simp [h1, h2]
theorem ap {m : Mov} (h : (((m.ahead.length : Int) != (m.give.length : Int)) || ((m.back.length : Int) != (m.take.length : Int))) = false) : Cg m = F7 m := by
 rw [Rz h, an, an]
 rfl
theorem X4 (k : Int) : (Bh k == ([] : Str)) = (decide (k < 1) || decide (3 < k)) := by
 unfold Bh
 by_cases h : k < 1 ∨ 3 < k
 ·rw [if_pos (by first | exact h | omega)]
  rcases h with h | h <;> simp [h]
 rw [if_neg (by first | exact h | omega)]
 have hk : k = 1 ∨ k = 2 ∨ k = 3 := by omega
 rcases hk with rfl | rfl | rfl <;> rfl
theorem Oj {m : Mov} {c : Col} : (((!(Be c.name)) || ((m.kind == 3) && (c.kind != 0))) || ((m.kind != 3) && (decide (c.kind < 1) || decide (3 < c.kind)))) = !E6 m c := by
 rw [← X4]
 unfold E6
 rw [show (m.kind != 3) = !(m.kind == 3) from rfl]
 cases h3 : (m.kind == 3) with
 | false => cases Be c.name <;> cases (Bh c.kind == ([] : Str)) <;> cases (c.kind != 0) <;> rfl
 | true =>
  by_cases h0 : c.kind = 0
  ·have e : (Bh c.kind == ([] : Str)) = true := by rw [h0]; rfl
   have e0 : (c.kind != 0) = false := by rw [h0]; rfl
   rw [e, e0]
   cases Be c.name <;> rfl
  have e0 : (c.kind != 0) = true := by simpa using h0
  rw [e0]
  cases Be c.name <;> cases (Bh c.kind == ([] : Str)) <;> rfl
theorem L6 (l : List Expr) : l.all B0 = l.all Ab := by
 congr 1
 funext e
 exact (Cr e).symm
theorem eu {m : Mov} (h : (((((m.ahead.length : Int) != (m.give.length : Int)) || ((m.back.length : Int) != (m.take.length : Int))) || (!(m.ahead.all B0))) || (!(m.back.all B0))) = true) : Cn m = false := by
 rw [L6, L6] at h
 unfold Cn
 cases h1 : (((m.ahead.length : Int) != (m.give.length : Int)) || ((m.back.length : Int) != (m.take.length : Int))) with
 | true => rw [Ry h1]; rfl
 | false =>
  rw [h1] at h
  cases h2 : m.ahead.all Ab <;> cases h3 : m.back.all Ab <;> simp_all
theorem ew {m : Mov} (h : (((((m.ahead.length : Int) != (m.give.length : Int)) || ((m.back.length : Int) != (m.take.length : Int))) || (!(m.ahead.all B0))) || (!(m.back.all B0))) = false) : Cg m = F7 m ∧ Cn m = (((F7 m && m.give.all (E6 m)) && m.take.all Be) && F5 m) := by
 rw [L6, L6] at h
 simp only [Bool.or_eq_false_iff, Bool.not_eq_false'] at h
 have hk := ap (m := m) (by simp only [Bool.or_eq_false_iff]; exact h.1.1)
 refine ⟨hk, ?_⟩
 unfold Cn
 rw [hk, h.1.2, h.2]
 simp
theorem ey {m : Mov} (h6 : (m.kind == 6) = false) : F5 m = ((m.kind != 3) || (eqE (m.ahead.getD 0 Aa) (Bi (m.take.getD 0 [])) && eqE (m.back.getD 0 Aa) (Bi (m.give.getD 0 ⟨[], 0⟩).name))) := by
 rw [show (m.kind != 3) = !(m.kind == 3) from rfl]
 cases h : (m.kind == 3) with
 | true => rw [aj h]; rfl
 | false => rw [al h h6]; rfl
theorem f5 {m : Mov} (h6 : (m.kind == 6) = true) : F5 m = (m.take.getD 0 [] == (m.give.getD 0 ⟨[], 0⟩).name) := ak (by simp at h6 ⊢; omega) h6
theorem c46 (m : Mov) (h : OkMov m) (Hp : List AObj) : AFun Tryz.prog 46 [F4 m] Hp (Af (Cn m)) := by
 refine ACall.body [.tmp 2] [0] Tryz.func46 Tryz.ntmps46 (fun d => ?_)
 refine Z97 ?_;refine W.draw [0, 1, 3, 0, 8, 24, 7, 127] 7 Am (by kernel_rfl) ?_;refine cb ?_;refine D.len jU ?_;refine ck ?_;refine D.len jU ?_;refine Wd ?_;refine R.fin [1, 3, 4] ?_;refine Z18 ?_
 simp only [List.length_map]
 refine ig ?_;refine Z35 ?_;refine R.neq ?_;refine Ap ?_;refine cl ?_;refine G.len jU ?_;refine Sz ?_;refine Ap ?_;refine G.fieldAddrRo (off := 3) jU Tryz.sizeOf53 ?_;refine Ii ?_;refine G.call Tryz.call68 (fun hB => c68 m.ahead h.ahead _) ?_;refine G.not ?_;refine Sy ?_;refine cl ?_;refine G.call Tryz.call68 (fun hB => c68 m.back h.back _) ?_;refine Wc ?_;refine R.fin [1, 3, 4, 38] ?_
 refine W.cond (fun ht38 => ?_) (fun ht38 => ?_)
 ·simp only [List.length_map] at ht38
  have hm := eu ht38
  exact Yl
 simp only [List.length_map] at ht38
 obtain ⟨hck, hm0⟩ := ew ht38
 refine Z5 ?_;refine Z0 ?_;refine R.fin [1, 3, 4, 5] ?_
 refine W.join ⟨178, A2 1 (.ro (F3 m)) (A2 3 (A3 (m.take.length : Nat)) (A2 4 (A3 (m.give.length : Nat)) (A2 5 (Af (F7 m)) (fun _ => .any)))), Hp, [], [], none⟩ ?_ ?_
 ·refine Lo ?_;refine R.fin [1, 3, 4, 5, 40] ?_;refine N9 ?_;refine R.fin [1, 3, 4, 5, 40, 41] ?_
  refine W.cond (fun ht41 => ?_) (fun ht41 => ?_)
  ·refine Yt ?_;refine Yu ?_;refine K.thJ ?_;exact StLe.of_eq (by unfold F7; first | (simp only [ht38, ht41, hk3, hk6, Bool.true_or, Bool.false_or, Bool.or_true, Bool.or_false, if_true, if_false, Bool.false_eq_true, ↓reduceIte] <;> rfl) | (simp only [ht38, ht41, hk3, Bool.true_or, Bool.false_or, Bool.or_true, if_true, if_false, Bool.false_eq_true, ↓reduceIte] <;> rfl) | (simp only [ht38, ht41, if_true, if_false, Bool.false_eq_true, ↓reduceIte] <;> rfl))
  refine Z39 ?_;refine R.fin [1, 3, 4, 5, 40, 49] ?_
  refine W.cond (fun ht49 => ?_) (fun ht49 => ?_)
  ·refine Yt ?_;refine Yu ?_;refine K.thJ ?_;exact StLe.of_eq (by unfold F7; first | (simp only [ht38, ht41, ht49, hk3, hk6, Bool.true_or, Bool.false_or, Bool.or_true, Bool.or_false, if_true, if_false, Bool.false_eq_true, ↓reduceIte] <;> rfl) | (simp only [ht38, ht41, ht49, hk3, Bool.true_or, Bool.false_or, Bool.or_true, if_true, if_false, Bool.false_eq_true, ↓reduceIte] <;> rfl) | (simp only [ht38, ht41, ht49, if_true, if_false, Bool.false_eq_true, ↓reduceIte] <;> rfl))
  refine Z18 ?_;refine Z21 ?_;refine R.fin [1, 3, 4, 5, 40, 57] ?_
  refine W.cond (fun ht57 => ?_) (fun ht57 => ?_)
  ·have hk3 := ht57
   refine Z5 ?_
   refine W.cond (fun ht57 => ?_) (fun ht57 => ?_)
   ·refine Yt ?_;refine Yu ?_;exact Z58
   rw [hk3] at ht57; cases ht57
  have hk3 := ht57
  refine Gq ?_;refine Z21 ?_;refine R.fin [1, 3, 4, 5, 40, 57] ?_;refine K.thN ?_
  refine W.cond (fun ht57 => ?_) (fun ht57 => ?_)
  ·have hk6 := ht57
   refine Yt ?_;refine Yu ?_;exact Z58
  have hk6 := ht57
  refine Z39 ?_;refine R.fin [1, 3, 4, 5, 40, 66] ?_
  refine W.cond (fun ht66 => ?_) (fun ht66 => ?_)
  ·refine Yt ?_;refine Z15 ?_;refine G.geq ?_;refine Z20 ?_;refine kj ?_;refine K.thJ ?_;exact StLe.of_eq (by unfold F7; first | (simp only [ht38, ht41, ht49, ht57, ht57, ht66, hk3, hk6, Bool.true_or, Bool.false_or, Bool.or_true, Bool.or_false, if_true, if_false, Bool.false_eq_true, ↓reduceIte] <;> rfl) | (simp only [ht38, ht41, ht49, ht57, ht57, ht66, hk3, Bool.true_or, Bool.false_or, Bool.or_true, if_true, if_false, Bool.false_eq_true, ↓reduceIte] <;> rfl) | (simp only [ht38, ht41, ht49, ht57, ht57, ht66, if_true, if_false, Bool.false_eq_true, ↓reduceIte] <;> rfl))
  refine Z39 ?_;refine R.fin [1, 3, 4, 5, 74] ?_
  refine W.cond (fun ht74 => ?_) (fun ht74 => ?_)
  ·refine Z14 ?_;refine R.geq ?_;refine Yu ?_;exact Z52
  refine W.keep [1, 3, 4, 5] ?_;refine AW.skip ?_;refine K.blN ?_;exact Z52
 refine Z12 ?_;refine R.not ?_;refine R.fin [1, 3, 4, 83] ?_
 refine W.cond (fun ht83 => ?_) (fun ht83 => ?_)
 ·have hkf : F7 m = false := by simpa using ht83
  have hm : Cn m = false := by rw [hm0, hkf]; rfl
  exact Yl
 have hkm : F7 m = true := by simpa using ht83
 have hct : Cg m = true := hck.trans hkm
 obtain ⟨hl3, hl4⟩ := E7 hct
 refine Nd ?_;refine R.fin [1, 3, 4, 6] ?_
 refine AW.loopC (α := Nat) (fun x => ⟨178, A2 1 (.ro (F3 m)) (A2 3 (A3 (m.take.length : Nat)) (A2 4 (A3 (m.give.length : Nat)) (A2 6 (A3 (x : Nat)) (fun _ => .any)))), Hp, [], [], none⟩) (fun x => x ≤ m.take.length ∧ ∀ (j : Nat) (y : Str), j < x → m.take[j]? = some y → (!Be y) = false) (fun x => m.take.length - x) (0) ⟨Nat.zero_le _, fun j y h => by omega⟩ (StLe.of_eq (by simp)) rfl (fun x hx => ?_)
 refine Z67 ?_;refine R.lss ?_;refine R.fin [1, 3, 4, 6, 86] ?_
 refine W.cond (fun ht86 => ?_) (fun ht86 => ?_)
 ·have hlt : x < m.take.length := by simpa using ht86
  have htk := h.takes
  refine Qx ?_;refine Z63 ?_;refine Ap ?_;refine R.indexAddr (x) (A8 m.take[x]) jU jS (Ae hlt) ?_;refine Dr ?_;refine R.call Tryz.call67 (c67 m.take[x] (h.names _ (List.getElem_mem hlt)) _) ?_;refine R.not ?_;refine R.fin [1, 3, 4, 6, 95] ?_
  refine W.cond (fun ht95 => ?_) (fun ht95 => ?_)
  ·rw [← Cq] at ht95
   have hm : Cn m = false := by
    rw [hm0, List.all_eq_false.2 ⟨_, List.getElem_mem hlt, by simpa using ht95⟩]
    simp
   exact gt
  rw [← Cq] at ht95
  refine Z86 ?_;refine R.fin [1, 3, 4, 6] ?_;exact K.lpN (x + 1) ⟨hlt, An hlt hx.2 ht95⟩ (by omega) (StCut.of_eq rfl)
 have hxe : m.take.length ≤ x := by simpa using ht86
 have hta : m.take.all Be = true := by have := Da hxe hx.2; rw [Dd] at this; simpa using this
 refine Z73 ?_;refine Z74 ?_;refine R.fin [1, 4, 7] ?_
 refine AW.loopC (α := Nat) (fun k => ⟨178, A2 1 (.ro (F3 m)) (A2 4 (A3 (m.give.length : Nat)) (A2 7 (A3 (k : Nat)) (fun _ => .any))), Hp, [], [], none⟩) (fun k => k ≤ m.give.length ∧ ∀ (j : Nat) (y : Col), j < k → m.give[j]? = some y → (!E6 m y) = false) (fun k => m.give.length - k) (0) ⟨Nat.zero_le _, fun j y h => by omega⟩ (StLe.of_eq (by simp)) rfl (fun k hk => ?_)
 refine Z67 ?_;refine R.lss ?_;refine R.fin [1, 4, 7, 98] ?_
 refine W.cond (fun ht98 => ?_) (fun ht98 => ?_)
 ·have hlk : k < m.give.length := by simpa using ht98
  have hgl := h.gives2
  refine Qx ?_;refine Z80 ?_;refine Ap ?_;refine R.indexAddr (k) (B3 m.give[k]) jU jS (Ae hlk) ?_;refine Z72 ?_;refine B6 ?_;refine R.fin [1, 4, 7, 8] ?_;refine B2 ?_;refine Z80 ?_;refine Ap ?_;refine R.indexAddr (k) (B3 m.give[k]) jU jS (Ae hlk) ?_;refine W3 ?_;refine R.call Tryz.call67 (c67 m.give[k].name (h.gives.2 _ (List.getElem_mem hlk)) _) ?_;refine R.not ?_;refine Ap ?_;refine ic ?_;refine G.eql ?_;refine Yr ?_;refine G.neq ?_;refine G.pickAnd ?_;refine Sy ?_;refine ic ?_;refine G.neq ?_;refine Yr ?_;refine G.lss ?_;refine Yr ?_;refine G.gtr ?_;refine G.pickOr ?_;refine G.pickAnd ?_;refine R.pickOr ?_;refine R.fin [1, 4, 7, 136] ?_
  refine W.cond (fun ht136 => ?_) (fun ht136 => ?_)
  ·rw [← Cq, Oj] at ht136
   have hm : Cn m = false := by
    rw [hm0, List.all_eq_false.2 ⟨_, List.getElem_mem hlk, by simpa using ht136⟩]
    simp
   exact gt
  rw [← Cq, Oj] at ht136
  refine Z86 ?_;refine R.fin [1, 4, 7] ?_;exact K.lpN (k + 1) ⟨hlk, An hlk hk.2 ht136⟩ (by omega) (StCut.of_eq rfl)
 have hke : m.give.length ≤ k := by simpa using ht98
 have hga : m.give.all (E6 m) = true := by have := Da hke hk.2; rw [Dd] at this; simpa using this
 have hm1 : Cn m = F5 m := by rw [hm0, hkm, hga, hta]; rfl
 have g1 := fun h0 => Gm (f := A6) (l := m.ahead) (d := Aa) h0
 have g2 := fun h0 => Gm (f := A6) (l := m.back) (d := Aa) h0
 have g3 := fun h0 => Gm (f := A8) (l := m.take) (d := []) h0
 have g4 := fun h0 => Gm (f := B3) (l := m.give) (d := ⟨[], 0⟩) h0
 refine Z73 ?_;refine Y8 ?_;refine R.fin [1, 139] ?_
 refine W.cond (fun ht139 => ?_) (fun ht139 => ?_)
 ·obtain ⟨hl1, hl2⟩ := Hd hct (by rw [ht139]; simp)
  have hm := hm1.trans (f5 ht139)
  refine ln ?_;refine D.indexAddr (0) (A8 (m.take.getD 0 [])) jU jS (g3 (by omega)) ?_;refine Ik ?_;refine ck ?_;refine D.indexAddr (0) (B3 (m.give.getD 0 ⟨[], 0⟩)) jU jS (g4 (by omega)) ?_;refine D.fieldAddrRo (off := 0) jU Tryz.sizeOf9 ?_;refine Ye ?_;refine Z8 ?_;refine Z2 ?_;exact Z82
 have hm := hm1.trans (ey ht139)
 have len3 : ((m.kind != 3) == false) = true → 0 < m.ahead.length ∧ 0 < m.take.length ∧ 0 < m.back.length ∧ 0 < m.give.length := fun hB => by
  obtain ⟨a1, a2⟩ := Hd hct (by simp at hB; rw [hB]; rfl)
  omega
 have and3 : ∀ {b : Bool}, (((m.kind != 3) == false) && b) = true → ((m.kind != 3) == false) = true := fun h => en h
 refine Z5 ?_;refine W.draw [0, 1, 3, 7, 15, 31, 63, 127, 15, 271, 783, 1807, 3855, 8191, 16383, 32767, 65535, 131071, 262143, 32767, 557055, 1605631, 3702783, 7897087, 16285695, 33554431, 67108863, 134217727, 268435455] 25 Am (by kernel_rfl) ?_;refine D.fieldAddrRo (off := 0) jU Tryz.sizeOf3 ?_;refine Ik ?_;refine D.neq ?_;refine D.move ?_;refine H.fieldAddrRo (off := 3) jU Tryz.sizeOf53 ?_;refine I0 ?_;refine H.indexAddr (0) (A6 (m.ahead.getD 0 Aa)) jU jS (fun hB => g1 (len3 hB).1) ?_;refine H.loadRoN jA jS ?_;refine H.fieldAddrRo (off := 1) jU Tryz.sizeOf34 ?_;refine I0 ?_;refine H.indexAddr (0) (A8 (m.take.getD 0 [])) jU jS (fun hB => g3 (len3 hB).2.1) ?_;refine I0 ?_;refine H.build (places := #[(0, 1), (1, 1), (2, 3), (5, 1)]) jU (fun w => by simp) jZ ?_
 refine H.call Tryz.call69 (fun hB => nh (m.ahead.getD 0 Aa) (h.ahead.ok _ (Fw (len3 hB).1)) (m.take.getD 0 []) _) ?_;refine H.move ?_;refine H.fieldAddrRo (off := 4) jU Tryz.sizeOf53 ?_;refine I0 ?_;refine H.indexAddr (0) (A6 (m.back.getD 0 Aa)) jU jS (fun hB => g2 (len3 (and3 hB)).2.2.1) ?_;refine H.loadRoN jA jS ?_;refine H.fieldAddrRo (off := 2) jU Tryz.sizeOf22 ?_;refine I0 ?_;refine H.indexAddr (0) (B3 (m.give.getD 0 ⟨[], 0⟩)) jU jS (fun hB => g4 (len3 (and3 hB)).2.2.2) ?_;refine ib ?_;refine H.build (places := #[(0, 1), (1, 1), (2, 3), (5, 1)]) jU (fun w => by simp) jZ ?_;refine D.tail ?_;refine G.call Tryz.call69 (fun hB => nh (m.back.getD 0 Aa) (h.back.ok _ (Fw (len3 (and3 hB)).2.2.1)) (m.give.getD 0 ⟨[], 0⟩).name _) ?_;refine G.pickAnd ?_;refine Yk ?_;exact lm

theorem c27 (l : List Mov) (h : OkMovs l) (Hp : List AObj) : AFun Tryz.prog 27 [C0 l] Hp (Af (Gs l)) := by
 refine ACall.body [.tmp 2] [0] Tryz.func27 Tryz.ntmps27 (fun d => ?_)
 refine Nc ?_;refine Qt ?_;refine R.fin [0, 6] ?_
 refine W.cond (fun ht6 => ?_) (fun ht6 => ?_)
 ·rw [List.length_map] at ht6
  have hm : Gs l = false := by
   unfold Gs
   rw [show decide ((l.length : Int) ≤ 8) = false by simp at ht6 ⊢; omega]
   rfl
  exact d9
 rw [List.length_map] at ht6
 have h8 : decide ((l.length : Int) ≤ 8) = true := by simp at ht6 ⊢; omega
 have hl8 : l.length ≤ 8 := by simp at h8; omega
 refine Nd ?_;refine Ep ?_
 refine AW.loopC (α := Nat) (fun x => ⟨19, A2 0 (C0 l) (A2 3 (A3 (x : Nat)) (fun _ => .any)), Hp, [], [], none⟩) (fun x => x ≤ l.length ∧ ∀ (j : Nat) (y : Mov), j < x → l[j]? = some y → (!Cn y) = false) (fun x => l.length - x) (0) ⟨Nat.zero_le _, fun j y h => by omega⟩ (StLe.of_eq (by simp)) rfl (fun x hx => ?_)
 refine Hz ?_;refine R.fin [0, 3, 10] ?_
 refine W.cond (fun ht10 => ?_) (fun ht10 => ?_)
 ·have hlt : x < l.length := by simpa using ht10
  refine Na ?_;refine gy ?_;refine R.call Tryz.call46 (c46 l[x] (h.each _ (List.getElem_mem hlt)) _) ?_;refine R.not ?_;refine R.fin [0, 3, 18] ?_
  refine W.cond (fun ht18 => ?_) (fun ht18 => ?_)
  ·have hm : Gs l = false := by
    unfold Gs
    rw [List.all_eq_false.2 ⟨_, List.getElem_mem hlt, by simpa using ht18⟩]
    simp
   exact gw
  refine Z86 ?_;refine Ep ?_;exact K.lpN (x + 1) ⟨hlt, An hlt hx.2 ht18⟩ (by omega) (StCut.of_eq rfl)
 have hxe : l.length ≤ x := by simpa using ht10
 have hm : Gs l = true := by
  have h2 := Da hxe hx.2
  rw [Dd] at h2
  unfold Gs
  rw [h8]
  simpa using h2
 exact da

theorem f6 (c : List Col) (ms : List Mov) : ∀ k, ((Ba c ms k).map A4)[k]? = some (A4 (colsAt c ms k))
 | 0 => rfl
 | k + 1 => by
  have h := Ei c ms k
  rw [Ba, List.map_append, List.getElem?_append_right (by rw [List.length_map]; omega), List.length_map, h, Nat.sub_self]
  rfl
theorem U8 {c : List Col} {ms : List Mov} {k : Nat} {m : Mov} (hk : ms[k]? = some m) (h : NS c ms k) (he : (Az (colsAt c ms k) m).2 ≠ 0) : B1 c ms = (Ba c ms k, (Az (colsAt c ms k) m).2) := by
 unfold NS at h
 rw [h, Hf hk, B1, if_pos (by simpa using he)]
 exact Prod.ext (Q2 c ms k) rfl
theorem jo {c : List Col} {l : List Mov} (h : ((!(B9 c)) || (!(Gs l))) = true) : Bw c l = ([], 1) := if_neg (by unfold Ge; cases h1 : B9 c <;> cases h2 : Gs l <;> simp_all)
theorem f7 {c : List Col} {l : List Mov} (h : ((!(B9 c)) || (!(Gs l))) = false) : Ge c l = true := by unfold Ge; cases h1 : B9 c <;> cases h2 : Gs l <;> simp_all
theorem c12 (c : List Col) (hc : OkCols c) (l : List Mov) (h : OkMovs l) (Hp : List AObj) : AFun Tryz.prog 12 [A4 c, C0 l] Hp (.tup [U7 (Bw c l).1, A3 (Bw c l).2]) := by
 refine ACall.body [.tmp 4, .tmp 5] [0, 1] Tryz.func12 Tryz.ntmps12 (fun d => ?_)
 refine cd ?_;refine Z12 ?_;refine R.call Tryz.call26 (c26 c hc _) ?_;refine Pg ?_;refine G.call Tryz.call27 (fun hB => c27 l h _) ?_;refine Wc ?_;refine R.fin [0, 1, 17] ?_
 refine W.cond (fun ht17 => ?_) (fun ht17 => ?_)
 ·have hm := jo ht17
  refine Z0 ?_;refine R.nilTmp 4 1 false ?_;refine B6 ?_;refine Z47 ?_;exact K.fin (V.two V.tmp V.tmp) ⟨by rw [hm]; rfl, rfl⟩
 have hmay := f7 ht17
 obtain ⟨hmv, hl8⟩ := am hmay h
 have hmr : Bw c l = B1 c l := if_pos hmay
 refine Jv ?_;refine W5 ?_;refine R.fin [1, 6] ?_;refine Z74 ?_;refine R.fin [1, 6, 7] ?_
 refine AW.loopC (α := Nat) (fun x => ⟨47, A2 1 (C0 l) (A2 6 (.slice true 1 ((Ba c l x).map A4)) (A2 7 (A3 (x : Nat)) (fun _ => .any))), Hp, [], [], none⟩) (fun x => x ≤ l.length ∧ NS c l x) (fun x => l.length - x) (0) ⟨Nat.zero_le _, jn⟩ (StLe.of_eq (by simp [Ba])) rfl (fun x hx => ?_)
 refine Hz ?_;refine R.fin [1, 6, 7, 23] ?_
 refine W.cond (fun ht23 => ?_) (fun ht23 => ?_)
 ·have hlt : x < l.length := by simpa using ht23
  refine Z89 ?_;refine W.draw [0, 0, 3, 7, 0, 0, 48, 112, 255, 511, 1023, 1023, 2047, 8191] 13 Am (by kernel_rfl) ?_;refine N5 ?_;refine D.indexAddr (x) (A4 (colsAt c l x)) jU jS (f6 c l x) ?_;refine Z92 ?_;refine D.move ?_;refine D.indexAddr (x) (F4 l[x]) jU jS (Ae hlt) ?_;refine Nh ?_;refine D.call Tryz.call28 (c28 (colsAt c l x) (Fx hc (fun m hm => h.each m hm) x) l[x] (hmv _ (List.getElem_mem hlt)) _) ?_;refine D.move ?_;refine D.extract ?_;refine D.extract ?_;refine Wd ?_;refine R.fin [1, 6, 7, 8, 9] ?_;refine Gp ?_;refine R.fin [1, 6, 7, 8, 9, 39] ?_
  refine W.cond (fun ht39 => ?_) (fun ht39 => ?_)
  ·have he : (Az (colsAt c l x) l[x]).2 ≠ 0 := by simpa using ht39
   have hm : Bw c l = (Ba c l x, (Az (colsAt c l x) l[x]).2) := hmr.trans (U8 (List.getElem?_eq_getElem hlt) hx.2 he)
   refine Z31 ?_;refine Wg ?_;refine Z59 ?_;exact ma
  have he : (Az (colsAt c l x) l[x]).2 = 0 := by simpa using ht39
  refine Z5 ?_;refine N6 ?_;refine cp ?_
  refine R.append jU Tryz.type22 ?_ ?_ ?_
  ·have hol := Ei c l x; simp [Tryz.t22]; omega
  ·have hol := Ei c l x; simp [Tryz.t22]; omega
  refine R.assignT ?_;refine R.fin [1, 6, 7] ?_;refine Lr ?_;refine R.fin [1, 6, 7] ?_
  refine K.lpN (x + 1) ⟨hlt, Q3 (List.getElem?_eq_getElem hlt) hx.2 he⟩ (by omega) (StCut.of_eq ?_)
  rw [Ba, Ea (List.getElem?_eq_getElem hlt), List.map_append]
  rfl
 have hxe : x = l.length := by have := hx.1; simp at ht23; omega
 have hm : Bw c l = (Ba c l x, 0) := by rw [hmr]; subst hxe; exact U6 hx.2
 refine Z73 ?_;refine Z1 ?_;refine Z77 ?_;exact ma

theorem Ok : ∀ (ms : List Mov) (c : List Col), OkCols c → (∀ m ∈ ms, OkMov m) → ∀ x ∈ (B1 c ms).1, OkCols x
 | [], c, hc, _, x, hx => by
  simp [B1] at hx
  rw [hx]; exact hc
 | m :: r, c, hc, h, x, hx => by
  rw [B1] at hx
  split at hx
  ·simp at hx
   rw [hx]; exact hc
  rcases List.mem_cons.1 hx with rfl | hx
  ·exact hc
  exact Ok r _ (S1 hc (h m List.mem_cons_self)) (fun m' hm' => h m' (List.mem_cons_of_mem _ hm')) x hx
theorem Jk {c : List Col} {l : List Mov} (hc : OkCols c) (h : OkMovs l) : OkCols (C8 c l).1 := by
 have h0 : OkCols ([] : List Col) := ⟨by decide, fun y hy => by cases hy⟩
 unfold C8
 split
 ·exact h0
 rename_i h1
 have hne := Kb (c := c) (ms := l) (by simpa using h1)
 have hmem : (At c l).1.getLastD [] ∈ (At c l).1 := by
  rw [List.getLastD_eq_getLast?, List.getLast?_eq_some_getLast hne.1]
  exact List.getLast_mem hne.1
 revert hmem
 generalize (At c l).1.getLastD [] = x
 intro hmem
 unfold At at hmem h1
 split at hmem
 ·cases hmem
 unfold Bw at hmem
 split at hmem
 ·exact Ok l c hc (fun m hm => h.each m hm) x hmem
 cases hmem
def Au (c : List Col) (l : List Mov) : List Col × List Col × List Col × Int := if (C8 c l).2 != 0 then ([], [], [], 1) else ((C8 c l).1, Cf c (C8 c l).1, Cf (C8 c l).1 c, 0)
structure Stp where
 kind : Int
 cols : List Col
abbrev jp (s : Stp) : AV := .agg [A3 s.kind, A4 s.cols]
abbrev aq (l : List Stp) : AV := .slice false 2 (l.map jp)
def A7 (c : List Col) (l : List Mov) : List Stp × Int := if (Au c l).2.2.2 != 0 then ([], (Au c l).2.2.2) else ([⟨1, (Au c l).2.2.1⟩, ⟨2, (Au c l).1⟩, ⟨3, (Au c l).2.2.1⟩, ⟨4, (Au c l).2.2.1⟩, ⟨5, (Au c l).1⟩, ⟨6, (Au c l).2.1⟩, ⟨7, []⟩], 0)
def Dw (c : List Col) (l : List Mov) : List Str × List Str := if (Au c l).2.2.2 != 0 then ([], []) else ((Au c l).2.2.1.map (·.name), (Au c l).2.1.map (·.name))
theorem le7 : Le (.agg [A3 7, .nil]) (.agg [A3 7, .slice false 2 []]) := by
 refine .agg _ _ rfl (fun y hy => ?_) (fun i y y' hy hy' => ?_)
 ·simp only [List.mem_cons, List.mem_nil_iff, or_false] at hy
  rcases hy with rfl | rfl <;> rfl
 match i with
 | 0 => simp at hy hy'; subst hy; subst hy'; exact .inl rfl
 | 1 => simp at hy hy'; subst hy; subst hy'; exact .inr ⟨rfl, 2, rfl⟩
 | i + 2 => simp at hy
theorem Kc {n k : Nat} {o : Bool} {l : List Str} : Low n (.slice o k (l.map A8)) := by simp [or_imp, forall_and]
theorem X5 {n k : Nat} {o : Bool} {a b : List Str} : Low n (.slice o k (a.map A8 ++ b.map A8)) := by rw [← List.map_append]; exact Kc
theorem ar {c : List Col} {l : List Mov} (h : ((Au c l).2.2.2 != 0) = false) : A7 c l = ([⟨1, (Au c l).2.2.1⟩, ⟨2, (Au c l).1⟩, ⟨3, (Au c l).2.2.1⟩, ⟨4, (Au c l).2.2.1⟩, ⟨5, (Au c l).1⟩, ⟨6, (Au c l).2.1⟩, ⟨7, []⟩], 0) := if_neg (by rw [h]; simp)
theorem Kd (a b : List Col) : (Cf a b).length ≤ a.length := by unfold Cf; exact List.length_filter_le _ _
theorem c25 (c : List Col) (hc : c.length ≤ 1048576) (Hp : List AObj) : AFun Tryz.prog 25 [A4 c] Hp (C2 (c.map (·.name))) := by
 refine ACall.body [.tmp 2] [0] Tryz.func25 Tryz.ntmps25 (fun d => ?_)
 refine Z49 ?_;refine Z0 ?_;refine Ep ?_;refine Z18 ?_;refine R.nilSl 3 1 ?_;refine T0 ?_;refine R.fin [3, 6, 7, 8] ?_
 refine AW.loopC (α := Nat) (fun x => ⟨19, A2 3 (.slice true 1 (((c.take x).map (·.name)).map A8)) (A2 6 (A4 c) (A2 7 (A3 (c.length : Nat)) (A2 8 (A3 (x : Nat)) (fun _ => .any)))), Hp, [], [], none⟩) (fun x => x ≤ c.length) (fun x => c.length - x) (0) (Nat.zero_le _) (StLe.of_eq (by simp)) rfl (fun x hx => ?_)
 refine Z44 ?_;refine R.fin [3, 6, 7, 8, 9] ?_
 refine W.condX (fun ht9 => ?_) (fun ht9 => ?_)
 ·have hlt : x < c.length := by simpa using ht9
  refine Z65 ?_;refine Z62 ?_;refine Z42 ?_;refine R.fin [3, 5, 6, 7, 8] ?_;refine N6 ?_;refine Z79 ?_;refine J9 ?_
  refine R.append jU Tryz.type9 ?_ ?_ ?_
  ·simp only [List.length_map, List.length_take, List.length_cons, List.length_nil, Tryz.t9]; omega
  ·simp only [List.length_map, List.length_take, List.length_cons, List.length_nil, Tryz.t9]; omega
  refine R.assignT ?_;refine R.fin [3, 6, 7, 8] ?_;refine Ih ?_;refine R.fin [3, 6, 7, 8] ?_;refine Ng ?_
  rw [Fv hlt, List.map_append]
  exact StCut.take (own := []) (fun _ => .refl _) (by repeat (first | exact Aj | refine Ai (by first | (simp [or_imp, forall_and]; done) | exact X5 | exact Bm) ?_)) (by simp) (by simp)
 have hxe : c.length ≤ x := by simpa using ht9
 refine Z29 ?_;refine Z36 ?_;refine Z2 ?_;exact K.fin (V.one V.tmp) ⟨by rw [List.take_of_length_le hxe], rfl⟩ (hlow := Kc)

theorem c20 (c : List Col) (hc : OkCols c) (hc2 : c.length ≤ 1000000) (l : List Mov) (h : OkMovs l) (Hp : List AObj) : AFun Tryz.prog 20 [A4 c, C0 l] Hp (.tup [A4 (Au c l).1, A4 (Au c l).2.1, A4 (Au c l).2.2.1, A3 (Au c l).2.2.2]) := by
 refine ACall.body [.tmp 4, .tmp 5, .tmp 6, .tmp 7] [0, 1] Tryz.func20 Tryz.ntmps20 (fun d => ?_)
 refine Z0 ?_;refine Z7 ?_;refine B6 ?_;refine R.fin [0, 1] ?_;refine Z31 ?_;refine R.call Tryz.call36 (c36 c hc hc2 l h _) ?_;refine Z96 ?_;refine R.fin [0, 4, 7] ?_;refine Gp ?_;refine R.fin [0, 4, 15] ?_
 refine W.cond (fun ht15 => ?_) (fun ht15 => ?_)
 ·have hm : Au c l = ([], [], [], 1) := if_pos ht15
  refine Z0 ?_;refine Z7 ?_;refine R.nilTmp 4 2 false ?_;refine R.nilTmp 5 2 false ?_;refine R.nilTmp 6 2 false ?_;refine B6 ?_;refine R.fin [4, 5, 6, 7] ?_;refine Yg ?_;exact mb
 have hm : Au c l = ((C8 c l).1, Cf c (C8 c l).1, Cf (C8 c l).1 c, 0) := if_neg (by rw [ht15]; simp)
 refine Qy ?_;refine R.call Tryz.call37 (c37 c (C8 c l).1 hc.1 (Jk hc h).1 _) ?_;refine Z96 ?_;refine R.fin [4, 5, 6] ?_;refine kx ?_;refine Z7 ?_;refine Z7 ?_;refine R.fin [4, 5, 6, 7] ?_;refine AW.ret ?_;exact mb

theorem c8 (c : List Col) (hc : OkCols c) (hc2 : c.length ≤ 1000000) (l : List Mov) (h : OkMovs l) (Hp : List AObj) : AFun Tryz.prog 8 [A4 c, C0 l] Hp (.tup [aq (A7 c l).1, A3 (A7 c l).2]) := by
 refine ACall.body [.tmp 4, .tmp 5] [0, 1] Tryz.func8 Tryz.ntmps8 (fun d => ?_)
 refine T3 ?_;refine R.call Tryz.call20 (c20 c hc hc2 l h _) ?_;refine Z60 ?_;refine Z34 ?_;refine Z7 ?_;refine Z7 ?_;refine R.fin [6, 7, 8, 9] ?_;refine Gp ?_;refine R.fin [6, 7, 8, 9, 19] ?_
 refine W.cond (fun ht19 => ?_) (fun ht19 => ?_)
 ·have hm : A7 c l = ([], (Au c l).2.2.2) := if_pos ht19
  exact Wb
 have hm := ar ht19
 refine Jv ?_;refine Y0 ?_;refine Y0 ?_;refine Y0 ?_;refine Y0 ?_;refine Y0 ?_;refine dh ?_;refine dh ?_;refine R.wk 33 _ le7 ?_;refine R.buildSl jU jS jZ ?_;exact Y1

theorem c11 (c : List Col) (hc : OkCols c) (hc2 : c.length ≤ 1000000) (l : List Mov) (h : OkMovs l) (Hp : List AObj) : AFun Tryz.prog 11 [A4 c, C0 l] Hp (.tup [C2 (Dw c l).1, C2 (Dw c l).2]) := by
 refine ACall.body [.tmp 4, .tmp 5] [0, 1] Tryz.func11 Tryz.ntmps11 (fun d => ?_)
 refine T3 ?_;refine R.call Tryz.call20 (c20 c hc hc2 l h _) ?_;refine Z60 ?_;refine Z34 ?_;refine Z7 ?_;refine Z7 ?_;refine R.fin [7, 8, 9] ?_;refine Gp ?_;refine R.fin [7, 8, 19] ?_
 refine W.cond (fun ht19 => ?_) (fun ht19 => ?_)
 ·have hm : Dw c l = ([], []) := if_pos ht19
  refine Z41 ?_;refine R.nilTmp 4 1 false ?_;refine R.nilTmp 5 1 false ?_;exact Z50
 have hm : Dw c l = ((Au c l).2.2.1.map (·.name), (Au c l).2.1.map (·.name)) := if_neg (by rw [ht19]; simp)
 have hle : (Au c l).2.2.1.length ≤ 1048576 ∧ (Au c l).2.1.length ≤ 1048576 := by
  unfold Au
  split
  ·exact ⟨by decide, by decide⟩
  exact ⟨Nat.le_trans (Kd _ _) (Jk hc h).1, Nat.le_trans (Kd _ _) hc.1⟩
 refine Jv ?_;refine R.call Tryz.call25 (c25 (Au c l).2.2.1 hle.1 _) ?_;refine Ap ?_;refine R.call Tryz.call25 (c25 (Au c l).2.1 hle.2 _) ?_;exact Y1

def Ke (c : List Col) : List Expr := c.map fun x => Bi x.name
theorem Mn {n k : Nat} {o : Bool} {a : List Expr} {e : Expr} : Low n (.slice o k (a.map A6 ++ [A6 e])) := low_slice.2 fun y hy => by
 rcases List.mem_append.1 hy with h | h
 ·obtain ⟨m, _, rfl⟩ := List.mem_map.1 h
  exact As _ _
 rw [List.mem_singleton.1 h]
 exact As _ _
theorem Ci {n k : Nat} {o : Bool} {a : List Expr} : Low n (.slice o k (a.map A6)) := low_slice.2 fun y hy => by
 obtain ⟨m, _, rfl⟩ := List.mem_map.1 hy
 exact As _ _
theorem c61 (c : List Col) (hc : c.length ≤ 1048576) (Hp : List AObj) : AFun Tryz.prog 61 [A4 c] Hp (Bf (Ke c)) := by
 refine ACall.body [.tmp 2] [0] Tryz.func61 Tryz.ntmps61 (fun d => ?_)
 refine Z49 ?_;refine Z0 ?_;refine Ep ?_;refine Z18 ?_;refine R.nilSl 3 6 ?_;refine T0 ?_;refine R.fin [3, 6, 7, 8] ?_
 refine AW.loopC (α := Nat) (fun x => ⟨20, A2 3 (.slice true 6 (((c.take x).map fun y => Bi y.name).map A6)) (A2 6 (A4 c) (A2 7 (A3 (c.length : Nat)) (A2 8 (A3 (x : Nat)) (fun _ => .any)))), Hp, [], [], none⟩) (fun x => x ≤ c.length) (fun x => c.length - x) (0) (Nat.zero_le _) (StLe.of_eq (by simp)) rfl (fun x hx => ?_)
 refine Z44 ?_;refine R.fin [3, 6, 7, 8, 9] ?_
 refine W.condX (fun ht9 => ?_) (fun ht9 => ?_)
 ·have hlt : x < c.length := by simpa using ht9
  refine Z65 ?_;refine Z62 ?_;refine Z42 ?_;refine R.fin [3, 5, 6, 7, 8] ?_;refine N6 ?_;refine ls ?_;refine R.wk 15 _ (Oi c[x].name) ?_;refine J9 ?_
  refine R.append jU Tryz.type60 ?_ ?_ ?_
  ·simp only [List.length_map, List.length_take, List.length_cons, List.length_nil, Tryz.t60]; omega
  ·simp only [List.length_map, List.length_take, List.length_cons, List.length_nil, Tryz.t60]; omega
  refine R.assignT ?_;refine R.fin [3, 6, 7, 8] ?_;refine Ih ?_;refine R.fin [3, 6, 7, 8] ?_;refine Ng ?_
  rw [Fv hlt, List.map_append]
  exact StCut.take (own := []) (fun _ => .refl _) (by repeat (first | exact Aj | refine Ai (by first | (simp [or_imp, forall_and]; done) | exact Mn | exact Bm) ?_)) (by simp) (by simp)
 have hxe : c.length ≤ x := by simpa using ht9
 refine Z29 ?_;refine Z36 ?_;refine Z2 ?_;exact K.fin (V.one V.tmp) ⟨by unfold Ke; rw [List.take_of_length_le hxe], rfl⟩ (hlow := Ci)

/-! fuse: trees in columns' places. -/
mutual
def Dx (c : List Col) (l : List Expr) : Expr → Option Expr
 | .mk o t v k => if o == 2 then (if Ah t c < 0 then none else some (l.getD (Ah t c).toNat Aa)) else (Fz c l k).map fun k' => .mk o t v k'
def Fz (c : List Col) (l : List Expr) : List Expr → Option (List Expr)
  | [] => some []
  | e :: r => match Dx c l e with
    | none => none
    | some y => (Fz c l r).map fun s => y :: s
 end
/-- fuse.Over. -/
def D0 (x : Expr) (c : List Col) (l : List Expr) : Expr × Int :=
 if (((!(Ab x)) || l.any Cw) || !(I6 c)) || ((c.length : Int) != (l.length : Int)) then (Aa, 1)
 else match Dx c l x with
  | none => (Aa, 9)
  | some y => if Ab y then (y, 0) else (Aa, 3)
/-- fuse.over: the trees, till one goes wrong. -/
def Bu (c : List Col) (by_ : List Expr) : List Expr → List Expr × Int
 | [] => ([], 0)
 | x :: r => if (D0 x c by_).2 != 0 then ([], (D0 x c by_).2) else if (Bu c by_ r).2 != 0 then ([], (Bu c by_ r).2) else ((D0 x c by_).1 :: (Bu c by_ r).1, 0)
/-- fuse.stay. -/
def Bx (take : List Str) : List Col → List Expr → List Expr
 | y :: c, x :: l => if take.contains y.name then Bx take c l else x :: Bx take c l
 | _, _ => []
theorem G4 {take : List Str} : ∀ {c : List Col} {l : List Expr}, c.length = l.length → (Bx take c l).length = (Bp c take).length
 | [], [], _ => rfl
 | [], _ :: _, h => by simp at h
 | _ :: _, [], h => by simp at h
 | y :: c, x :: l, h => by
  have ih := G4 (take := take) (c := c) (l := l) (by simpa using h)
  unfold Bx Bp
  by_cases hc : take.contains y.name = true
  ·rw [if_pos hc]
   simp only [List.filter_cons, hc, Bool.not_true, Bool.false_eq_true, if_false]
   exact ih
  rw [if_neg hc]
  have hc' : take.contains y.name = false := by simpa using hc
  simp only [List.filter_cons, hc', Bool.not_false, if_true, List.length_cons]
  exact congrArg (· + 1) ih
theorem Gf {c : List Col} {by_ : List Expr} : ∀ (l : List Expr), (Bu c by_ l).2 = 0 → (Bu c by_ l).1.length = l.length
 | [], _ => rfl
 | x :: r, h => by
  unfold Bu at h ⊢
  split at h
  ·rename_i h1
   exact absurd h (by simpa using h1)
  rename_i h1
  rw [if_neg h1]
  split at h
  ·rename_i h2
   exact absurd h (by simpa using h2)
  rename_i h2
  rw [if_neg h2]
  have := Gf (c := c) (by_ := by_) r (by simpa using h2)
  simp [this]
theorem jq (o : Int) (t : Str) (v : Val) (k : List Expr) : A6 (.mk o t v k) = .agg [A3 o, .v (sv t), A3 v.kind, A3 v.n, .v (sv v.s), .slice false 6 (k.map A6)] := by rw [Bv]; rfl
theorem au {n : Nat} {x : Expr} {o : Bool} {l : List Expr} : ObjLow n (.cells 60 [A3 x.op, .v (sv x.text), A3 x.val.kind, A3 x.val.n, .v (sv x.val.s), .slice o 6 (l.map A6)]) := by
 show ∀ z ∈ [A3 x.op, AV.v (sv x.text), A3 x.val.kind, A3 x.val.n, AV.v (sv x.val.s), AV.slice o 6 (l.map A6)], Low n z
 intro z hz
 simp only [List.mem_cons, List.not_mem_nil, or_false] at hz
 rcases hz with rfl | rfl | rfl | rfl | rfl | rfl
 all_goals first | exact Eu | simp
theorem qa {α : Type} {P : α → Prop} {a b : α} (h1 : P a) (h2 : P b) : ∀ x ∈ [a, b], P x := by
 intro x hx
 simp only [List.mem_cons, List.not_mem_nil, or_false] at hx
 rcases hx with rfl | rfl
 ·exact h1
 exact h2
def S3 (c : List Col) (l : List Expr) (e : Expr) : Expr := (Dx c l e).getD Aa
theorem Ol {c : List Col} {l : List Expr} : ∀ {k : List Expr}, (∀ (j : Nat) (y : Expr), k[j]? = some y → (!(Dx c l y).isSome) = false) → Fz c l k = some (k.map (S3 c l))
 | [], _ => rfl
 | e :: r, h => by
  have h1 := h 0 e rfl
  have h2 := Ol (c := c) (l := l) (k := r) (fun j y hy => h (j + 1) y hy)
  rw [Fz]
  cases he : Dx c l e with
  | none => rw [he] at h1; cases h1
  | some z => rw [h2, List.map_cons, show S3 c l e = z by unfold S3; rw [he]; rfl]; rfl
theorem Om {c : List Col} {l : List Expr} : ∀ {k : List Expr} {e : Expr}, e ∈ k → Dx c l e = none → Fz c l k = none
 | a :: r, e, hm, h => by
  rw [Fz]
  rcases List.mem_cons.1 hm with rfl | hm
  ·rw [h]
  have := Om hm h
  cases ha : Dx c l a with
  | none => rfl
  | some z => rw [this]; rfl
theorem Mo {c : List Col} {l : List Expr} {x : Expr} (h : (x.op == 2) = true) : Dx c l x = if Ah x.text c < 0 then none else some (l.getD (Ah x.text c).toNat Aa) := by
 cases x; rw [Dx]; exact if_pos h
theorem Mp {c : List Col} {l : List Expr} {x : Expr} (h : (x.op == 2) = false) : Dx c l x = (Fz c l x.kids).map fun k' => .mk x.op x.text x.val k' := by
 cases x; rw [Dx]; exact if_neg (fun e => Bool.false_ne_true (h.symm.trans e))
theorem S4 {c : List Col} {l : List Expr} {s : Str} (hl : c.length = l.length) (hf : ¬ Ah s c < 0) : (l.map A6)[(Ah s c).toNat]? = some (A6 (l.getD (Ah s c).toNat Aa)) ∧ (Ah s c).toNat < l.length ∧ 0 ≤ Ah s c := by
 obtain ⟨j, hj, hjl⟩ := D9 hf
 rw [hj, Int.toNat_natCast]
 refine ⟨?_, by omega, by omega⟩
 rw [List.getElem?_map, List.getElem?_eq_getElem (by omega), List.getD_eq_getElem?_getD, List.getElem?_eq_getElem (by omega)]
 rfl
theorem qb (c : List Col) (hc : OkCols c) (l : List Expr) (hl : c.length = l.length) : ∀ (n : Nat) (x : Expr), okE n x → ∀ Hp : List AObj, AFun Tryz.prog 114 [A6 x, A4 c, Bf l] Hp (.tup [A6 ((Dx c l x).getD Aa), Af (Dx c l x).isSome]) := by
 intro n
 induction n with
 | zero => exact fun e h => h.elim
 | succ n ih =>
 intro x hok Hp
 refine ACall.body [.cell 6 60, .tmp 7] [0, 1, 2] Tryz.func114 Tryz.ntmps114 (fun d => ?_)
 refine B2 ?_;refine R.box ?_;refine gn ?_;refine R.fin [1, 2, 3, 6] ?_;refine Z18 ?_;refine W4 ?_;refine R.eql ?_;refine R.fin [1, 2, 3, 6, 16] ?_
 refine W.cond (fun ht16 => ?_) (fun ht16 => ?_)
 ·have hpn := Mo (c := c) (l := l) ht16
  refine Z1 ?_;refine R.fieldAddrPtr (fo := 1) jU Tryz.sizeOf9 ?_;refine Ij ?_;refine R.call Tryz.call84 (c84 c hc x.text _) ?_;refine B6 ?_;refine R.fin [2, 6, 8] ?_;refine Z12 ?_;refine R.lss ?_;refine R.fin [2, 6, 8, 22] ?_
  refine W.cond (fun ht22 => ?_) (fun ht22 => ?_)
  ·have hm : Dx c l x = none := by rw [hpn, if_pos (by simpa using ht22)]
   refine B2 ?_;refine Z61 ?_;refine R.nilCell 1 5 6 ?_;refine Z76 ?_;refine K.thR ?_;refine K.thR ?_;exact mc
  have hneg : ¬ Ah x.text c < 0 := by simpa using ht22
  have hm : Dx c l x = some (l.getD (Ah x.text c).toNat Aa) := by rw [hpn, if_neg hneg]
  refine Qy ?_
  obtain ⟨_, hg1, hg2⟩ := S4 hl hneg
  refine R.indexAddr ((Ah x.text c).toNat) (A6 (l.getD (Ah x.text c).toNat Aa)) jU jS (S4 hl hneg).1 ?_;refine E0 ?_;refine H6 ?_;refine Z76 ?_;refine K.thR ?_;exact K.fin (V.two (V.cellN jA jS) V.tmp) ⟨by rw [hm]; show _ = AV.tup [A6 (l.getD _ Aa), Af true]; rw [Bv] <;> rfl, rfl⟩ (hlow := by simp [or_imp, forall_and, As])
 have hpk := Mp (c := c) (l := l) ht16
 refine Ig ?_;refine di ?_;refine Ij ?_;refine B6 ?_;refine R.fin [1, 2, 3, 6, 9] ?_;refine B2 ?_;refine di ?_;refine H6 ?_;refine R.fin [1, 2, 3, 6, 9] ?_;refine Z18 ?_;refine R.nilCell 0 5 6 ?_;refine T0 ?_;refine R.fin [1, 2, 3, 6, 31, 32, 33] ?_
 refine AW.loopC (α := Nat) (fun i => ⟨55, A2 1 (A4 c) (A2 2 (Bf l) (A2 3 (.ptr (oid Hp.length 0) 0) (A2 6 (.ptr (oid Hp.length 1) 0) (A2 31 (.slice false 6 (x.kids.map A6)) (A2 32 (A3 (x.kids.length : Nat)) (A2 33 (A3 (i : Nat)) (fun _ => .any))))))), Hp, [.cells 60 [A3 x.op, A8 x.text, A3 x.val.kind, A3 x.val.n, A8 x.val.s, .slice true 6 (((x.kids.take i).map (S3 c l)).map A6)], .cells 60 [A3 0, A8 [], A3 0, A3 0, A8 [], .nil]], [], none⟩) (fun i => i ≤ x.kids.length ∧ ∀ (j : Nat) (y : Expr), j < i → x.kids[j]? = some y → (!(Dx c l y).isSome) = false) (fun i => x.kids.length - i) (0) ⟨Nat.zero_le _, fun j y h => by omega⟩ (StLe.of_eq (by simp)) rfl (fun i hi => ?_)
 refine Z44 ?_;refine R.fin [1, 2, 3, 6, 31, 32, 33, 34] ?_
 refine W.condX (fun ht34 => ?_) (fun ht34 => ?_)
 ·have hlt : i < x.kids.length := by simpa using ht34
  have hkl := hok.2.1
  refine Z65 ?_;refine R.indexAddr (i) (A6 x.kids[i]) jU jS (Ae hlt) ?_;refine Yd ?_;refine R.fin [1, 2, 3, 6, 11, 31, 32, 33] ?_;refine Pe ?_;refine Jw ?_;refine R.call Tryz.call114 (ih x.kids[i] (hok.2.2 _ (List.getElem_mem hlt)) _) ?_;refine Z60 ?_;refine Z42 ?_;refine B6 ?_;refine R.fin [1, 2, 3, 6, 12, 13, 31, 32, 33] ?_;refine Z12 ?_;refine R.not ?_;refine R.fin [1, 2, 3, 6, 12, 31, 32, 33, 45] ?_
  refine W.cond (fun ht45 => ?_) (fun ht45 => ?_)
  ·have hm : Dx c l x = none := by rw [hpk, Om (List.getElem_mem hlt) (by simpa using ht45)]; rfl
   refine B2 ?_;refine Z61 ?_;refine R.nilCell 1 5 6 ?_;refine Z76 ?_;refine K.thR ?_;refine Z59 ?_;exact mc
  refine Z5 ?_;refine Gq ?_;refine di ?_;refine R.loadOwnT jA ?_;refine co ?_
  refine R.append jU Tryz.type60 ?_ ?_ ?_
  ·simp only [List.length_map, List.length_take, List.length_cons, List.length_nil, Tryz.t60]; omega
  ·simp only [List.length_map, List.length_take, List.length_cons, List.length_nil, Tryz.t60]; omega
  refine di ?_;refine R.storeOwnT jS ?_;refine R.fin [1, 2, 3, 6, 31, 32, 33] ?_;refine Ih ?_;refine R.fin [1, 2, 3, 6, 31, 32, 33] ?_;refine K.lpN (i + 1) ⟨hlt, An hlt hi.2 ht45⟩ (by omega) ?_
  have hlo := fun m => au (n := m) (x := x) (o := true) (l := (x.kids.take i).map (S3 c l) ++ [S3 c l x.kids[i]])
  simp only [List.map_append, List.map_cons, List.map_nil, Bv] at hlo
  simp only [show Tryz.t60.size = 6 from rfl]
  rw [Fv hlt, List.map_append, List.map_cons, List.map_nil, Bv]
  exact StCut.take (fun _ => .refl _) (by repeat (first | exact Aj | refine Ai (by first | exact Ci | exact Bm | (simp [oid, As]; done) | (simp [oid] <;> omega)) ?_)) (qa (hlo _) ee) (by simp)
 have hxe : x.kids.length ≤ i := by simpa using ht34
 have hm : Dx c l x = some (.mk x.op x.text x.val (x.kids.map (S3 c l))) := by rw [hpk, Ol (fun j y hy => hi.2 j y (by have := (List.getElem?_eq_some_iff.1 hy).1; omega) hy)]; rfl
 refine Z29 ?_;refine Pe ?_;refine H6 ?_;refine Z76 ?_;exact K.fin (V.two (V.cellN jA jS) V.tmp) ⟨by rw [hm]; show _ = AV.tup [A6 (.mk x.op x.text x.val (x.kids.map (S3 c l))), Af true]; rw [jq, List.take_of_length_le hxe], rfl⟩ (hlow := by simp [or_imp, forall_and]; intro y hy; obtain ⟨e, _, rfl⟩ := List.mem_map.1 (List.mem_of_mem_take hy); exact As _ _)

theorem Ir {c : List Col} {l : List Expr} : ∀ {k s : List Expr}, Fz c l k = some s → s.length = k.length ∧ ∀ y ∈ s, ∃ e ∈ k, Dx c l e = some y
 | [], s, h => by
  rw [Fz] at h
  injection h with h
  subst h
  exact ⟨rfl, fun y hy => by cases hy⟩
 | a :: r, s, h => by
  rw [Fz] at h
  cases ha : Dx c l a with
  | none => rw [ha] at h; cases h
  | some z =>
   rw [ha] at h
   simp only at h
   cases hr : Fz c l r with
   | none => rw [hr] at h; cases h
   | some t =>
    rw [hr] at h
    injection h with h
    subst h
    obtain ⟨h1, h2⟩ := Ir hr
    refine ⟨by simp [h1], fun y hy => ?_⟩
    rcases List.mem_cons.1 hy with rfl | hy
    ·exact ⟨a, List.mem_cons_self, ha⟩
    obtain ⟨e, he, hp⟩ := h2 y hy
    exact ⟨e, List.mem_cons_of_mem _ he, hp⟩
theorem V9 {c : List Col} {l : List Expr} {m : Nat} (hl : ∀ e ∈ l, okE (m + 1) e) (hc : c.length = l.length) : ∀ (n : Nat) (x y : Expr), okE n x → Dx c l x = some y → okE (m + 1 + n) y
 | 0, x, y, h, _ => h.elim
 | n + 1, x, y, h, hp => by
  cases h2 : x.op == 2 with
  | true =>
   rw [Mo h2] at hp
   split at hp
   ·cases hp
   rename_i hf
   injection hp with hp
   subst hp
   obtain ⟨j, hj, hjl⟩ := D9 hf
   rw [hj, Int.toNat_natCast, List.getD_eq_getElem?_getD, List.getElem?_eq_getElem (by omega)]
   exact Tw (by omega) (hl _ (List.getElem_mem (by omega)))
  | false =>
   rw [Mp h2] at hp
   cases hk : Fz c l x.kids with
   | none => rw [hk] at hp; cases hp
   | some s =>
    rw [hk] at hp
    injection hp with hp
    subst hp
    obtain ⟨h3, h4⟩ := Ir hk
    refine ⟨h.1, by show s.length ≤ _; rw [h3]; exact h.2.1, fun z hz => ?_⟩
    obtain ⟨e, he, hpe⟩ := h4 z hz
    exact V9 hl hc n e z (h.2.2 e he) hpe
theorem jr {x : Expr} {c : List Col} {l : List Expr} (h : ((((!(Ab x)) || l.any Cw) || !(I6 c)) || ((c.length : Int) != (l.length : Int))) = true) : D0 x c l = (Aa, 1) := if_pos h
theorem js {x : Expr} {c : List Col} {l : List Expr} (h : ((((!(Ab x)) || l.any Cw) || !(I6 c)) || ((c.length : Int) != (l.length : Int))) = false) : D0 x c l = match Dx c l x with
  | none => (Aa, 9)
  | some y => if Ab y then (y, 0) else (Aa, 3) := if_neg (by rw [h]; simp)
theorem c86 (x : Expr) (hok : okE 61 x) (c : List Col) (hc : OkCols c) (l : List Expr) (hll : l.length ≤ 1048576) (hlo : ∀ e ∈ l, okE 61 e) (Hp : List AObj) : AFun Tryz.prog 86 [A6 x, A4 c, Bf l] Hp (.tup [A6 (D0 x c l).1, A3 (D0 x c l).2]) := by
 refine ACall.body [.cell 6 60, .tmp 7] [0, 1, 2] Tryz.func86 Tryz.ntmps86 (fun d => ?_)
 refine Z28 ?_;refine gn ?_;refine R.fin [1, 2, 3, 6] ?_;refine Sx ?_;refine R.call Tryz.call64 (c64 61 x hok (by decide) _) ?_;refine Pg ?_;refine G.call Tryz.call113 (fun hB => pu l hll hlo _) ?_;refine R.pickOr ?_;refine Z15 ?_;refine G.call Tryz.call59 (fun hB => c59 c hc _) ?_;refine Wc ?_;refine Z15 ?_;refine G.len jU ?_;refine Yq ?_;refine ce ?_;refine R.fin [1, 2, 3, 6, 28] ?_
 refine W.cond (fun ht28 => ?_) (fun ht28 => ?_)
 ·simp only [List.length_map] at ht28
  have hm := jr ht28
  refine B2 ?_;refine d8 ?_;refine Z76 ?_;refine K.thR ?_;exact md
 simp only [List.length_map] at ht28
 have hm0 := js ht28
 have hcl : c.length = l.length := by simp only [Bool.or_eq_false_iff, bne_eq_false_iff_eq] at ht28; have := ht28.2; omega
 refine Z5 ?_;refine Z88 ?_;refine Jw ?_;refine R.call Tryz.call114 (qb c hc l hcl 61 x hok _) ?_;refine Z60 ?_;refine Z42 ?_;refine B6 ?_;refine R.fin [6, 8, 9] ?_;refine L1 ?_;refine W6 ?_;refine R.fin [6, 8, 37] ?_
 refine W.cond (fun ht37 => ?_) (fun ht37 => ?_)
 ·have hp : Dx c l x = none := by simpa using ht37
  have hm : D0 x c l = (Aa, 9) := by rw [hm0, hp]
  refine B2 ?_;refine d8 ?_;refine Z76 ?_;exact ke
 obtain ⟨y, hp⟩ : ∃ y, Dx c l x = some y := by
  cases h : Dx c l x with
  | none => rw [h] at ht37; cases ht37
  | some y => exact ⟨y, rfl⟩
 have hyo : okE 122 ((Dx c l x).getD Aa) := by rw [hp]; exact V9 (m := 60) hlo hcl 61 x y hok hp
 refine Pe ?_;refine R.call Tryz.call64 (c64 122 ((Dx c l x).getD Aa) hyo (by decide) _) ?_;refine W6 ?_;refine R.fin [6, 8, 41] ?_
 refine W.cond (fun ht41 => ?_) (fun ht41 => ?_)
 ·have hm : D0 x c l = (Aa, 3) := by
   rw [hp] at ht41
   rw [hm0, hp]
   exact if_neg (by simpa using ht41)
  refine B2 ?_;refine d8 ?_;refine Z76 ?_;exact ke
 have hm : D0 x c l = (y, 0) := by
  rw [hp] at ht41
  rw [hm0, hp]
  exact if_pos (by simpa using ht41)
 refine Z16 ?_;refine Pe ?_;refine H6 ?_;refine Z76 ?_;exact K.fin (V.two (V.cellN jA jS) V.tmp) ⟨by rw [hm, hp]; show _ = AV.tup [A6 y, A3 0]; rw [Bv]; rfl, rfl⟩ (hlow := by simp [or_imp, forall_and, As])

set_option maxRecDepth 8000
/-! The words of a print. -/
/-! What a tree comes to: eval's model. -/
abbrev Rs := Val × Int
def Mq (e : Int) : Rs := (noV, e)
def F8 (r : Rs) : Rs := if (r.2 == 0) && (r.1.kind != 0) && (r.1.kind != 3) then Mq 10 else r
def av (strong : Val) (a b : Rs) : Rs := if ((F8 a).2 != 0) || ((F8 a).1 == strong) then F8 a else if (((F8 b).2 != 0) || ((F8 b).1 == strong)) || ((F8 a).1.kind != 0) then F8 b else ((F8 a).1, 0)
def ifW : Str := [105, 102]
def f8 : Str := [110, 118, 108]
def Jl : Str := [105, 115, 110, 117, 108, 108]
def ni (t : Str) (a b c : Rs) : Rs :=
 if t == ifW then (if (F8 a).2 != 0 then Mq (F8 a).2 else if (F8 a).1 == R3 true then b else c)
 else if a.2 != 0 then Mq a.2 else if t == Jl then (R3 (a.1.kind == 0), 0) else if a.1.kind != 0 then (a.1, 0) else b
def qc (strict : List Val → Rs) (l : List Rs) : Rs := match l.find? (fun q => q.2 != 0) with | some q => Mq q.2 | none => if l.any (fun q => q.1.kind == 0) then (noV, 0) else strict (l.map (·.1))
def Mr (c : List Col) (l : List Val) (t : Str) : Rs := if Ah t c < 0 then Mq 9 else (l.getD (Ah t c).toNat noV, 0)
def orW : Str := [111, 114]
def qd : Str := [97, 110, 100]
/-- A node, of what its kids come to; what a strict node comes to is a parameter. -/
def gi (strict : Int → Str → List Val → Rs) (c : List Col) (l : List Val) (o : Int) (t : Str) (v : Val) (ks : List Rs) : Rs :=
 if o == 1 then (v, 0) else if o == 2 then Mr c l t
 else if (o == 5) && (t == orW) then av (R3 true) (ks.getD 0 (noV, 0)) (ks.getD 1 (noV, 0))
 else if (o == 5) && (t == qd) then av (R3 false) (ks.getD 0 (noV, 0)) (ks.getD 1 (noV, 0))
 else if (o == 6) && (((t == ifW) || (t == f8)) || (t == Jl)) then ni t (ks.getD 0 (noV, 0)) (ks.getD 1 (noV, 0)) (ks.getD 2 (noV, 0))
 else qc (strict o t) ks
mutual
def Kq (strict : Int → Str → List Val → Rs) (c : List Col) (l : List Val) : Expr → Rs
 | .mk o t v k => gi strict c l o t v (On strict c l k)
def On (strict : Int → Str → List Val → Rs) (c : List Col) (l : List Val) : List Expr → List Rs
  | [] => []
  | e :: r => Kq strict c l e :: On strict c l r
 end
/-! A tree in a column's place comes to what its value would there. -/
mutual
theorem eval_put {f : Int → Str → List Val → Rs} {c : List Col} {l m : List Val} {s : Str} {y : Expr} (hs : Mr c m s = Kq f c l y) (ho : ∀ t, t ≠ s → Mr c m t = Mr c l t) : ∀ x : Expr, Kq f c l (j7 s y x) = Kq f c m x
 | .mk o t v k => by
  rw [j7]
  split
  ·rename_i h
   rw [Bool.and_eq_true, beq_iff_eq, beq_iff_eq] at h
   obtain ⟨rfl, rfl⟩ := h
   rw [← hs, Kq]
   rfl
  rename_i h
  rw [Kq, Kq, Oo hs ho k]
  unfold gi
  by_cases h2 : (o == 2) = true
  ·have : t ≠ s := fun e => h (by rw [h2, e]; simp)
   rw [ho t this]
  rw [if_neg h2, if_neg h2]
theorem Oo {f : Int → Str → List Val → Rs} {c : List Col} {l m : List Val} {s : Str} {y : Expr} (hs : Mr c m s = Kq f c l y) (ho : ∀ t, t ≠ s → Mr c m t = Mr c l t) : ∀ k : List Expr, On f c l (dy s y k) = On f c m k
  | [] => rfl
  | e :: r => by rw [dy, On, On, eval_put hs ho e, Oo hs ho r]
 end
/-! Who is not named plays no part. -/
/-! What a strict node comes to. -/
/-! Values are nl, and their numbers have 64 bits. -/
/-! A text between marks. -/
set_option maxRecDepth 4000
set_option maxRecDepth 8000
/-! Who decides decides: the law's sources, columns and truths. -/
/-! Rows. -/
/-! Rows that differ in what is not named. -/
/-! Who has a kind comes to it. -/
theorem Ms {t : Str} {n : Nat} (h : Av t = (n : Int)) : (t = [108, 101, 110] ∧ n = 1) ∨ (t = [115, 116, 114] ∧ n = 1) ∨ (t = [110, 117, 109] ∧ n = 1) ∨ (t = Jl ∧ n = 1) ∨ (t = f8 ∧ n = 2) ∨ (t = [108, 101, 102, 116] ∧ n = 2) ∨ (t = [114, 105, 103, 104, 116] ∧ n = 2) ∨ (t = ifW ∧ n = 3) := by
 by_cases hm : t ∈ arityList.map (·.1)
 ·have ha : ∀ s ∈ arityList.map (·.1), (s = [108, 101, 110] ∧ Av s = 1) ∨ (s = [115, 116, 114] ∧ Av s = 1) ∨ (s = [110, 117, 109] ∧ Av s = 1) ∨ (s = Jl ∧ Av s = 1) ∨ (s = f8 ∧ Av s = 2) ∨ (s = [108, 101, 102, 116] ∧ Av s = 2) ∨ (s = [114, 105, 103, 104, 116] ∧ Av s = 2) ∨ (s = ifW ∧ Av s = 3) := by
   have : ((arityList.map (·.1)).all fun s => decide ((s = [108, 101, 110] ∧ Av s = 1) ∨ (s = [115, 116, 114] ∧ Av s = 1) ∨ (s = [110, 117, 109] ∧ Av s = 1) ∨ (s = Jl ∧ Av s = 1) ∨ (s = f8 ∧ Av s = 2) ∨ (s = [108, 101, 102, 116] ∧ Av s = 2) ∨ (s = [114, 105, 103, 104, 116] ∧ Av s = 2) ∨ (s = ifW ∧ Av s = 3))) = true := by kernel_rfl
   exact fun s hs => of_decide_eq_true (List.all_eq_true.1 this s hs)
  have := ha t hm
  rw [h] at this
  rcases this with ⟨e, h2⟩ | ⟨e, h2⟩ | ⟨e, h2⟩ | ⟨e, h2⟩ | ⟨e, h2⟩ | ⟨e, h2⟩ | ⟨e, h2⟩ | ⟨e, h2⟩
  ·exact .inl ⟨e, by omega⟩
  ·exact .inr (.inl ⟨e, by omega⟩)
  ·exact .inr (.inr (.inl ⟨e, by omega⟩))
  ·exact .inr (.inr (.inr (.inl ⟨e, by omega⟩)))
  ·exact .inr (.inr (.inr (.inr (.inl ⟨e, by omega⟩))))
  ·exact .inr (.inr (.inr (.inr (.inr (.inl ⟨e, by omega⟩)))))
  ·exact .inr (.inr (.inr (.inr (.inr (.inr (.inl ⟨e, by omega⟩))))))
  exact .inr (.inr (.inr (.inr (.inr (.inr (.inr ⟨e, by omega⟩))))))
 have h1 : Av t = -1 := by
  unfold Av
  rw [List.find?_eq_none.2 fun p hp => by
   simp only [beq_iff_eq]
   rintro rfl
   exact hm (List.mem_map.2 ⟨p, hp, rfl⟩)]
 omega
/-! The print of a tree, and its words. -/
def Gt (least : Nat) (x : Expr) (s : Str) : Str := if least ≤ levE x then s else 40 :: (s ++ [41])
def Do : List Str → Str
 | [] => []
 | s :: r => 44 :: 32 :: (s ++ Do r)
def Jm (o : Int) (t : Str) (v : Val) (k : List Expr) (ss : List Str) : Str :=
 if o == 1 then Ds v else if o == 2 then t
 else if o == 3 then 45 :: Gt 6 (k.getD 0 Aa) (ss.getD 0 [])
 else if o == 4 then Wx ++ 32 :: Gt 2 (k.getD 0 Aa) (ss.getD 0 [])
 else if o == 5 then Gt (Dv (Ag t).toNat) (k.getD 0 Aa) (ss.getD 0 []) ++ 32 :: (t ++ 32 :: Gt ((Ag t).toNat + 1) (k.getD 1 Aa) (ss.getD 1 []))
 else t ++ 40 :: ((Do ss).drop 2 ++ [41])
mutual
def A9 : Expr → Str
 | .mk o t v k => Jm o t v k (Hg k)
def Hg : List Expr → List Str
  | [] => []
  | e :: r => A9 e :: Hg r
 end
theorem Is : ∀ l, Hg l = l.map A9
 | [] => rfl
 | e :: r => by rw [Hg, Is r]; rfl
theorem jt (v : Val) : A9 (Pt v) = Ds v := by simp [Pt, A9, Jm]
theorem f9 (t : Str) : A9 (Bi t) = t := by simp [Bi, A9, Jm]
theorem ju (a : Expr) : A9 (Gr 3 a) = 45 :: Gt 6 a (A9 a) := by simp [Gr, A9, Hg, Jm]
theorem nj (a : Expr) : A9 (Gr 4 a) = Wx ++ 32 :: Gt 2 a (A9 a) := by simp [Gr, A9, Hg, Jm]
theorem jv (t : Str) (a b : Expr) : A9 (Nk t a b) = Gt (Dv (Ag t).toNat) a (A9 a) ++ 32 :: (t ++ 32 :: Gt ((Ag t).toNat + 1) b (A9 b)) := by simp [Nk, A9, Hg, Jm]
theorem fa (t : Str) (k : List Expr) : A9 (.mk 6 t noV k) = t ++ 40 :: ((Do (Hg k)).drop 2 ++ [41]) := by simp [A9, Jm]
/-! What was parsed nests no deeper than may be. -/
/-! What nests too deep is told to be too deep. -/
def F2 (l : List Tok) (x : Expr) : Prop := ∀ (k : Nat) (S : PS) (rest : List TK), (k = 0 ∨ k = 1 ∨ k = 4 ∨ k = 5) → k ≤ levE x → S.code = 0 → S.nest ≤ 30 → 30 < S.nest + V1 x → seg l S.i = Md x ++ rest → aa (k + 1) rest → (Ob l (ofL k) (pf l (fam l S.nest) (k + 1)) S).2.code = 18
/-! What was parsed is right, where the words are the lexer's. -/
/-! The lexer's words. -/
/-! The parse laws where nothing is too deep. -/
/-! The parser from a word on, and of a source. -/
/-! Other trees have other words, and other prints. -/
/-! The laws of printing. -/
/-- show.Print. -/
def Gn (x : Expr) : Str × Int := if !(Ab x) then ([], 1) else if decide ((4000 : Int) < ((A9 x).length : Int)) then ([], 3) else (A9 x, 0)
theorem It {x : Expr} (h : B0 x = true) : Cm C3 x = true := by
 unfold B0 at h
 rw [Bool.and_eq_true] at h
 exact h.2
set_option maxRecDepth 4000
theorem Jn {k : List Expr} {i : Nat} (h : i < k.length) : (k.map A6)[i]? = some (A6 (k.getD i Aa)) ∧ k.getD i Aa ∈ k ∧ ∀ (f : Expr → Rs) (d : Rs), (k.map f).getD i d = f (k.getD i Aa) := by
 have e : k.getD i Aa = k[i] := by rw [List.getD_eq_getElem?_getD, List.getElem?_eq_getElem h]; rfl
 rw [e]
 refine ⟨by simp [h], List.getElem_mem h, fun f d => ?_⟩
 rw [List.getD_eq_getElem?_getD, List.getElem?_map, List.getElem?_eq_getElem h]
 rfl
theorem aw {e : Expr} (h : C3 e = true) : (e.op = 5 → e.kids.length = 2) ∧ (e.op = 3 ∨ e.op = 4 → e.kids.length = 1) ∧ (e.op = 6 → Av e.text = (e.kids.length : Int)) ∧ (e.op = 1 ∨ e.op = 2 ∨ e.op = 3 ∨ e.op = 4 ∨ e.op = 5 ∨ e.op = 6) := by
 cases Ip h with
 | val v hp h0 => simp [Pt, Expr.op]
 | name t ht => simp [Bi, Expr.op]
 | neg a => simp [Gr, Expr.op, Expr.kids]
 | no a => simp [Gr, Expr.op, Expr.kids]
 | bin t a b ht => simp [Nk, Expr.op, Expr.kids]
 | call t k ht => simpa [Expr.op, Expr.kids, Expr.text] using ht
def Iu (s : Str) : Int := if s == [111, 114] then 0 else if s == [97, 110, 100] then 1 else if (((((s == [61]) || (s == [33, 61])) || (s == [60])) || (s == [60, 61])) || (s == [62])) || (s == [62, 61]) then 3 else if ((s == [43]) || (s == [45])) || (s == [38]) then 4 else if ((s == [42]) || (s == [47])) || (s == [37]) then 5 else 7
theorem X6 (s : Str) : Iu s = if 0 ≤ Ag s then Ag s else 7 := by
 by_cases hf : s ∈ levels.flatten
 ·have h3 : (levels.flatten.all fun s => decide (Iu s = if 0 ≤ Ag s then Ag s else 7)) = true := by kernel_rfl
  exact of_decide_eq_true (List.all_eq_true.1 h3 s hf)
 have hn := hf
 have h : Ag s = -1 := by
  rcases Hc s with h | ⟨h, _⟩
  ·exact absurd h hf
  exact h
 rw [h]
 simp only [levels, List.flatten_cons, List.flatten_nil, List.append_nil, List.cons_append, List.nil_append, List.mem_cons, List.not_mem_nil, or_false, not_or] at hn
 obtain ⟨a1, a2, a3, a4, a5, a6, a7, a8, a9, b1, b2, b3, b4, b5⟩ := hn
 simp [Iu, *]
/-- The level of a node. -/
def X7 (e : Expr) : Int := if e.op == 4 then 2 else if e.op == 3 then 6 else if e.op == 5 then Iu e.text else 7
theorem Va {e : Expr} (h : C3 e = true) : X7 e = (levE e : Int) := by
 unfold X7 levE
 split
 ·rfl
 split
 ·rfl
 split
 ·rename_i h5
  have hb : 0 ≤ Ag e.text := by
   have h5' : e.op = 5 := by simpa using h5
   rw [M7] at h
   unfold Cz at h
   simp [h5'] at h
   exact h.2.1
  rw [X6, if_pos hb]
  omega
 rfl
theorem qe (s : Str) (Hp : List AObj) : AFun Tryz.prog 122 [A8 s] Hp (A3 (Iu s)) := by
 refine ACall.body [.tmp 2] [0] Tryz.func122 Tryz.ntmps122 (fun d => ?_)
 refine Nc ?_;refine R.fin [3] ?_;refine AW.block ?_;refine Z25 ?_;refine R.fin [3, 4] ?_
 refine W.cond (fun ht4 => ?_) (fun ht4 => ?_)
 ·exact Y2
 refine Z25 ?_;refine R.fin [3, 6] ?_
 refine W.cond (fun ht6 => ?_) (fun ht6 => ?_)
 ·exact Y2
 refine W.join ⟨23, A2 3 (A8 s) (A2 8 (Af ((((((s == [61]) || (s == [33, 61])) || (s == [60])) || (s == [60, 61])) || (s == [62])) || (s == [62, 61]))) (fun _ => .any)), Hp, [], [], none⟩ ?_ ?_
 ·refine Yj ?_
  refine W.cond (fun ht8 => ?_) (fun ht8 => ?_)
  ·exact Y7
  refine Yj ?_
  refine W.cond (fun ht8 => ?_) (fun ht8 => ?_)
  ·exact Y7
  refine Yj ?_
  refine W.cond (fun ht8 => ?_) (fun ht8 => ?_)
  ·exact Y7
  refine Yj ?_
  refine W.cond (fun ht8 => ?_) (fun ht8 => ?_)
  ·exact Y7
  refine Yj ?_
  refine W.cond (fun ht8 => ?_) (fun ht8 => ?_)
  ·exact Y7
  refine J6 ?_;refine R.fin [3, 8] ?_;exact Z68
 refine W.cond (fun ht8 => ?_) (fun ht8 => ?_)
 ·exact Y2
 refine W.join ⟨23, A2 3 (A8 s) (A2 15 (Af (((s == [43]) || (s == [45])) || (s == [38]))) (fun _ => .any)), Hp, [], [], none⟩ ?_ ?_
 ·refine Z25 ?_;refine R.fin [3, 15] ?_
  refine W.cond (fun ht15 => ?_) (fun ht15 => ?_)
  ·refine W.keep [3, 15] ?_;exact Y5
  refine Z25 ?_;refine R.fin [3, 15] ?_
  refine W.cond (fun ht15 => ?_) (fun ht15 => ?_)
  ·refine W.keep [3, 15] ?_;exact Y5
  refine J6 ?_;refine R.fin [3, 15] ?_;exact Z68
 refine W.cond (fun ht15 => ?_) (fun ht15 => ?_)
 ·exact Y2
 refine W.join ⟨23, A2 19 (Af (((s == [42]) || (s == [47])) || (s == [37]))) (fun _ => .any), Hp, [], [], none⟩ ?_ ?_
 ·refine Z25 ?_;refine R.fin [3, 19] ?_
  refine W.cond (fun ht19 => ?_) (fun ht19 => ?_)
  ·refine W.keep [19] ?_;exact Y5
  refine Z25 ?_;refine R.fin [3, 19] ?_
  refine W.cond (fun ht19 => ?_) (fun ht19 => ?_)
  ·refine W.keep [19] ?_;exact Y5
  refine J6 ?_;refine R.fin [19] ?_;exact Z68
 refine W.cond (fun ht19 => ?_) (fun ht19 => ?_)
 ·exact Y2
 refine Qv ?_;exact K.fin (V.one V.tmp) ⟨by simp_all [Iu], rfl⟩

theorem c91 (e : Expr) (Hp : List AObj) : AFun Tryz.prog 91 [A6 e] Hp (A3 (X7 e)) := by
 refine ACall.body [.tmp 2] [0] Tryz.func91 Tryz.ntmps91 (fun d => ?_)
 refine Z97 ?_;refine Pf ?_;refine R.fin [1, 4] ?_;refine N9 ?_;refine R.fin [1, 4, 5] ?_
 refine W.cond (fun ht5 => ?_) (fun ht5 => ?_)
 ·exact lh
 refine Z39 ?_;refine R.fin [1, 4, 7] ?_
 refine W.cond (fun ht7 => ?_) (fun ht7 => ?_)
 ·exact lh
 refine Z39 ?_;refine R.fin [1, 9] ?_
 refine W.cond (fun ht9 => ?_) (fun ht9 => ?_)
 ·refine J7 ?_;refine R.call Tryz.call122 (qe e.text _) ?_;refine Ys ?_;exact iu
 refine Qv ?_;exact iu

end Go.SX.Nb
namespace Go.Proofs
open Go.Shelf Go.RowKit

section
variable {P : Program} (w : World)

/-- Bytes behind a builder's bytes: what is handed back lies where it lay, or in the next block, or nowhere still. -/
theorem X8 {t u ty e : TypeId} {i : TypeInfo} (ht : P.underlying t = some (.slice e)) (hu : P.underlying u = some .string) (hi : P.info? e = some i) (hz : i.zero = some (.int .u8 0)) (hsize : i.size = 1) (hby : i.bytes = 1)
  (v : Value) (n : Nat) (xs : List Value) (hown : w.ownsRow 0 e 1 v n xs) (s : ByteArray) (hb : n + s.size ≤ 140737488355328) :
  ∃ v' w', (Builtin.append_ #[t, u] ty #[v, .string s]).run P w = .ok v' w' ∧ w'.ownsRow 0 e 1 v' (n + s.size) (xs ++ Lib.strCells s) ∧ w.grownBy w' v'.ownBlock ∧
   ((v = .slice none 0 0 ∧ v' = v ∧ s.size = 0) ∨ (∃ g cap, v = .slice (some ⟨g, 0, none⟩) n cap ∧ v' = .slice (some ⟨g, 0, none⟩) (n + s.size) cap) ∨ ∃ cap, v' = .slice (some ⟨w.heap.size, 0, none⟩) (n + s.size) cap ∧ 0 < n + s.size) := by
 have h63 : n + s.size ≤ maxLen := by unfold maxLen; omega
 obtain ⟨v', w', hr, h1, h2, h3⟩ := Lib.run_append_own_string (P := P) w 0 t u ty e i ht hu hi hz hsize hby v n xs hown s h63 hb (Nat.zero_le _)
 have hxl : xs.length = n := by simpa using hown.1
 refine ⟨v', w', hr, h1, ?_⟩
 rcases hown.2 with ⟨rfl, rfl⟩ | ⟨g, cap, cur, rfl, hbg, hg, hnc, hcm, hcs, htake⟩
 ·by_cases hm : s.size = 0
  ·have e1 := h3.2 ⟨rfl, hm⟩
   exact ⟨by rw [e1]; exact h2, .inl ⟨rfl, e1, hm⟩⟩
  have hr2 := run_append_nil_string (P := P) w t u ty e i (.int .u8 0) ht hu hi hz s (by omega) (by omega) (by rw [hby]; omega)
  rw [hr] at hr2
  injection hr2 with e1 e2
  refine ⟨?_, .inr (.inr ⟨_, by rw [e1, Nat.zero_add], by omega⟩)⟩
  rw [e2]
  exact ⟨rfl, rfl, rfl, by simp, fun k hk _ => Lib.alloc_old w.drew _ k hk⟩
 by_cases hroom : n + s.size ≤ cap
 ·have hcs' : cur.size = cap := by simpa using hcs
  have hr2 := Lib.run_append_room_string (P := P) w t u ty e i ht hu hi hsize g n cap cur hg s hroom (by omega)
  rw [hr] at hr2
  injection hr2 with e1 e2
  exact ⟨by rw [e1]; exact h2, .inr (.inl ⟨g, cap, rfl, e1⟩)⟩
 have holds : ∀ j u, xs[j]? = some u → w.cell? ((⟨g, 0, none⟩ : Addr).add j) = some u := hown.cells (g := g) rfl
 have hr2 := Lib.run_append_grow_string (P := P) w t u ty e i (.int .u8 0) ht hu hi hz ⟨g, 0, none⟩ n cap xs (by rw [hsize]; simpa using hxl) holds s (by omega) (by omega) (by rw [hby]; exact growslice_fits (by omega) (by omega))
 rw [hr] at hr2
 injection hr2 with e1 e2
 refine ⟨?_, .inr (.inr ⟨_, e1, by omega⟩)⟩
 rw [e2]
 exact ⟨rfl, rfl, rfl, by simp, fun k hk _ => Lib.alloc_old w.drew _ k hk⟩
end

theorem Kf {P : Program} {w w' : World} {ops : Array Oper} {rest : List Oper} {o : Oper} {a : Act} {Q : Exit → Act → World → Prop} {v v' : Value} {s : ByteArray} (hgd : o.guard = none) (sl x : Operand) (t u ty : TypeId)
  (ho : o.op = .call { callee := .builtin .append, args := #[sl, x], argTypes := #[t, u] }) (hty : o.type = ty) (hs : a.eval sl = v) (hx : a.eval x = .string s) (hrun : (Builtin.append_ #[t, u] ty #[v, .string s]).run P w = .ok v' w')
  (h : wpList P ops Q rest (a.put o.dst v') w') : wpList P ops Q (o :: rest) a w := by
 refine wpList_plain hgd fun K hK => ?_
 subst hty
 unfold Oper.wp execOp
 simp only [ho, resolve, invoke, builtin, Sem.run_bind, Sem.run_pure, Result.andThen_ok, List.map_toArray, List.map_cons, List.map_nil, hs, hx, hrun]
 exact hK _ _ h

section
variable {P : Program} {ρ : Ren}

set_option maxHeartbeats 1000000 in
set_option maxRecDepth 100000 in
/-- The check of an unused builder within a block of type T. -/
theorem X9 (L : Lays.n240 P ρ) (X : Builder.X72 P ρ) {T : TypeId} (hl : liesAt P P.depth T (2 / P.cellsOf T) 0 (ρ.t 72) 1 = true) (b : Nat) (w : World) (h0 : w.cell? ⟨b, 0, none⟩ = some (.pointer none)) (hsh : w.shape? b = some (T, 2)) (hfz : w.frozen? ⟨b, 0, none⟩ = false) :
  Calls P (ρ.f 240) #[.pointer (some ⟨b, 0, none⟩)] w fun e w' => e = .returned (.tuple #[]) ∧ w' = w.setCell ⟨b, 0, none⟩ (.pointer (some ⟨b, 0, none⟩)) := by
 obtain ⟨j, hj, hjs⟩ := Option.map_eq_some_iff.1 X.sizeBuilder
 have mixed := L.mixed
 have t72 := L.t72; have a72 := L.a72; have z72 := L.z72; have v72 := L.v72; have u72 := run_underlying L.t72
 have t70 := L.t70; have a70 := L.a70; have z70 := L.z70; have v70 := L.v70; have u70 := run_underlying L.t70
 have t9 := L.t9; have a9 := L.a9; have z9 := L.z9; have v9 := L.v9; have u9 := run_underlying L.t9
 have t4 := L.t4; have a4 := L.a4; have z4 := L.z4; have v4 := L.v4; have u4 := run_underlying L.t4
 have t164 := L.t164; have a164 := L.a164; have z164 := L.z164; have v164 := L.v164; have u164 := run_underlying L.t164
 go_enter L.f240, Body.n240_ntmps ρ
 go_wp2
 rw [Lib.run_to_unsafe w ⟨b, 0, none⟩ L.t70 L.t164 hj (by rw [hjs]; decide) hsh (Nat.zero_lt_succ 1)]
 simp only [Result.andThen]
 rw [Oper.upon_value]
 go_wp2
 rw [run_callFunc_extern L.f276 (by kernel_rfl) (by kernel_rfl) (by kernel_rfl) (e := Extern.AbiNoEscape.same) (by kernel_rfl)]
 rw [Lib.run_noEscape]
 simp only [Result.andThen]
 rw [Oper.upon_value]
 go_wp2
 rw [Lib.run_from_unsafe w ⟨b, 0, none⟩ L.t164 L.t70 hj hsh hl]
 simp only [Result.andThen]
 rw [Oper.upon_value]
 go_wp2
 go_end0
 exact ⟨rfl, rfl⟩

/-- The check: behind it the first cell holds the builder's own address; nothing else turns. -/
theorem ax (L : Lays.n240 P ρ) (X : Builder.X72 P ρ) {T e : TypeId} (hl : liesAt P P.depth T (2 / P.cellsOf T) 0 (ρ.t 72) 1 = true) (b : Nat) (p v : Value) (n : Nat) (bs : List Value) (w : World) (h : H3 T e b p v n bs w) :
  Calls P (ρ.f 240) #[.pointer (some ⟨b, 0, none⟩)] w fun e' w' => e' = .returned (.tuple #[]) ∧ H3 T e b (.pointer (some ⟨b, 0, none⟩)) v n bs w' ∧ w.grownBy w' (some b) ∧ w'.heap.size = w.heap.size := by
 obtain ⟨h1, hp, h3, h4⟩ := h
 rcases hp with rfl | rfl
 ·refine (X9 L X hl b w (by rw [Lib.cell_of_heap h1]; rfl) (by simp [World.shape?, h1]) (Lib.frozen_of_heap h1 0)).mono ?_
  rintro e' w' ⟨rfl, rfl⟩
  have hgr : w.grownBy (w.setCell ⟨b, 0, none⟩ (.pointer (some ⟨b, 0, none⟩))) (some b) := ⟨rfl, rfl, rfl, by simp [World.setCell], fun k _ hk => Below.heap_setCell _ _ _ _ (fun e => hk (by simp [e]))⟩
  exact ⟨rfl, ⟨by simp [World.setCell, Array.getElem?_modify, h1], .inr rfl, h3.kept hgr (.inr h4), h4⟩, hgr, by simp [World.setCell]⟩
 refine (Any.Builder_copyCheck_used L X b w (by rw [Lib.cell_of_heap h1]; rfl)).mono ?_
 rintro e' w' ⟨rfl, rfl⟩
 exact ⟨rfl, ⟨h1, .inr rfl, h3, h4⟩, ⟨rfl, rfl, rfl, Nat.le_refl _, fun _ _ _ => rfl⟩, rfl⟩

set_option maxHeartbeats 1000000 in
set_option maxRecDepth 100000 in
/-- How many bytes there are. -/
theorem bldLen (L : Lays.n170 P ρ) {T e : TypeId} (b : Nat) (p v : Value) (n : Nat) (bs : List Value) (w : World) (h : H3 T e b p v n bs w) :
  Calls P (ρ.f 170) #[.pointer (some ⟨b, 0, none⟩)] w fun e' w' => e' = .returned (.int .i64 n) ∧ w' = w := by
 obtain ⟨h1, _, h3, _⟩ := h
 obtain ⟨ao, cap, rfl⟩ : ∃ ao cap, v = .slice ao n cap := by
  rcases h3.2 with ⟨hv, h0⟩ | ⟨g, cap, cur, hv, _⟩
  ·exact ⟨none, 0, by rw [hv, h0]⟩
  exact ⟨_, _, hv⟩
 have c1 : w.cell? ⟨b, 1, none⟩ = some (.slice ao n cap) := by rw [Lib.cell_of_heap h1]; rfl
 have mixed := L.mixed
 have t72 := L.t72; have a72 := L.a72; have z72 := L.z72; have v72 := L.v72; have u72 := run_underlying L.t72
 have t70 := L.t70; have a70 := L.a70; have z70 := L.z70; have v70 := L.v70; have u70 := run_underlying L.t70
 have t37 := L.t37; have a37 := L.a37; have z37 := L.z37; have v37 := L.v37; have u37 := run_underlying L.t37
 have t3 := L.t3; have a3 := L.a3; have z3 := L.z3; have v3 := L.v3; have u3 := run_underlying L.t3
 go_enter L.f170, Body.n170_ntmps ρ
 go_wp2
 go_ret
 exact ⟨rfl, rfl⟩

set_option maxHeartbeats 2000000 in
set_option maxRecDepth 100000 in
/-- A text is written behind it. -/
theorem bldWrite (L : Lays.n166 P ρ) (X : Builder.Extra P ρ) {T : TypeId} (hl : liesAt P P.depth T (2 / P.cellsOf T) 0 (ρ.t 72) 1 = true) (hTe : T ≠ ρ.t 5) (b : Nat) (p v : Value) (n : Nat) (bs : List Value) (s : ByteArray) (w : World) (h : H3 T (ρ.t 5) b p v n bs w)
  (hlen : n + s.size ≤ 140737488355328) :
  Calls P (ρ.f 166) #[.pointer (some ⟨b, 0, none⟩), .string s] w fun e w' => e = .returned (.tuple #[.int .i64 s.size, .nilIface]) ∧ ∃ v', H3 T (ρ.t 5) b (.pointer (some ⟨b, 0, none⟩)) v' (n + s.size) (bs ++ Lib.strCells s) w' ∧
   (w'.os = w.os ∧ w'.tape = w.tape ∧ w'.output = w.output ∧ w.heap.size ≤ w'.heap.size) ∧ (∀ k, k < w.heap.size → k ≠ b → v'.ownBlock ≠ some k → w'.heap[k]? = w.heap[k]?) ∧
   ((v = .slice none 0 0 ∧ v' = v ∧ s.size = 0) ∨ (∃ g cap, v = .slice (some ⟨g, 0, none⟩) n cap ∧ v' = .slice (some ⟨g, 0, none⟩) (n + s.size) cap) ∨ ∃ cap, v' = .slice (some ⟨w.heap.size, 0, none⟩) (n + s.size) cap ∧ 0 < n + s.size) := by
 obtain ⟨i0, hi, hz0, hz1, hz2⟩ := info_parts X.infoByte
 have mixed := L.mixed
 have t72 := L.t72; have a72 := L.a72; have z72 := L.z72; have v72 := L.v72; have u72 := run_underlying L.t72
 have t70 := L.t70; have a70 := L.a70; have z70 := L.z70; have v70 := L.v70; have u70 := run_underlying L.t70
 have t37 := L.t37; have a37 := L.a37; have z37 := L.z37; have v37 := L.v37; have u37 := run_underlying L.t37
 have t3 := L.t3; have a3 := L.a3; have z3 := L.z3; have v3 := L.v3; have u3 := run_underlying L.t3
 have t9 := L.t9; have a9 := L.a9; have z9 := L.z9; have v9 := L.v9; have u9 := run_underlying L.t9
 have t4 := L.t4; have a4 := L.a4; have z4 := L.z4; have v4 := L.v4; have u4 := run_underlying L.t4
 have t164 := L.t164; have a164 := L.a164; have z164 := L.z164; have v164 := L.v164; have u164 := run_underlying L.t164
 have t5 := X.t5; have a5 := X.a5; have z5 := X.z5; have v5 := X.v5; have u5 := run_underlying X.t5
 have e240 : ∀ args w, (callFunc (ρ.f 240) args).run P w = .ok (.enter (ρ.f 240) args) w := enters_of L.f240 (by kernel_rfl) rfl
 go_enter L.f166, Body.n166_ntmps ρ
 go_wp2_with (go_at_fn (ρ.f 240); refine (ax { L with } X.toX72 hl b p v n bs _ h).mono ?_)
 rintro e w1 ⟨rfl, ⟨hbk, _, hown, hne⟩, hg1, hs1⟩
 have c0 : w1.cell? ⟨b, 0, none⟩ = some (.pointer (some ⟨b, 0, none⟩)) := by rw [Lib.cell_of_heap hbk]; rfl
 have c1 : w1.cell? ⟨b, 1, none⟩ = some v := by rw [Lib.cell_of_heap hbk]; rfl
 obtain ⟨v', w2, hrun, hown', hgrow, hcase⟩ := X8 (P := P) w1 (ty := ρ.t 37) L.t37 L.t9 hi hz0 hz1 hz2 v n bs hown s hlen
 have hlt : b < w1.heap.size := (Array.getElem?_eq_some_iff.1 hbk).1
 have hne' : v'.ownBlock ≠ some b := by
  rcases hcase with ⟨_, e1, _⟩ | ⟨g, cap, e1, e2⟩ | ⟨cap, e1, _⟩
  ·rw [e1]; exact hne
  ·rw [e2]; rw [e1] at hne; exact hne
  rw [e1]; simp [Value.ownBlock]; omega
 have hb2 : w2.heap[b]? = some (.cells #[.pointer (some ⟨b, 0, none⟩), v] T (0, 0)) := by
  rw [hgrow.block b hlt (fun e => hne' e.symm)]
  exact hbk
 have d0 : w2.cell? ⟨b, 0, none⟩ = some (.pointer (some ⟨b, 0, none⟩)) := by rw [Lib.cell_of_heap hb2]; rfl
 have d1 : w2.cell? ⟨b, 1, none⟩ = some v := by rw [Lib.cell_of_heap hb2]; rfl
 have f1 : w2.frozen? ⟨b, 1, none⟩ = false := Lib.frozen_of_heap hb2 1
 obtain ⟨ao, n', cap, rfl⟩ : ∃ ao n' cap, v' = .slice ao n' cap := by
  rcases hown'.2 with ⟨hv, _⟩ | ⟨g, cap, cur, hv, _⟩
  ·exact ⟨_, _, _, hv⟩
  exact ⟨_, _, _, hv⟩
 go_wp2_with (at_builtin; refine Kf rfl _ _ (ρ.t 37) (ρ.t 9) (ρ.t 37) rfl rfl rfl rfl hrun ?_)
 go_ret2
 refine ⟨rfl, _, ⟨by simp [World.setCell, Array.getElem?_modify, hb2], .inr rfl, hown'.kept (row := some b) ⟨rfl, rfl, rfl, by simp [World.setCell], fun k _ hk => Below.heap_setCell _ _ _ _ (fun e => hk (by simp [e]))⟩ (.inr hne'), hne'⟩, ⟨?_, ?_, ?_, ?_⟩, fun k hk hkb hkr => ?_, ?_⟩
 ·exact hgrow.os.trans hg1.os
 ·exact hgrow.tape.trans hg1.tape
 ·exact hgrow.output.trans hg1.output
 ·have := hgrow.size
  simp [World.setCell]; omega
 ·rw [Below.heap_setCell _ _ _ _ hkb, hgrow.block k (by omega) (fun e => hkr e.symm), hg1.block k hk (by simpa using hkb)]
 rw [hs1] at hcase; exact hcase

set_option maxHeartbeats 2000000 in
set_option maxRecDepth 100000 in
/-- Its text: some of its row is frozen; nothing else turns. -/
theorem bldString (L : Lays.n169 P ρ) (X : Builder.Extra P ρ) {T : TypeId} (b : Nat) (p v : Value) (l : List UInt8) (w : World) (h : H3 T (ρ.t 5) b p v l.length (Lib.byteCells l) w) (hcap : ∀ g, v ≠ .slice (some ⟨g, 0, none⟩) 0 0) :
  Calls P (ρ.f 169) #[.pointer (some ⟨b, 0, none⟩)] w fun e w' => e = .returned (.string ⟨l.toArray⟩) ∧ (w'.os = w.os ∧ w'.tape = w.tape ∧ w'.output = w.output ∧ w.heap.size ≤ w'.heap.size) ∧ ∀ k, v.ownBlock ≠ some k → w'.heap[k]? = w.heap[k]? := by
 obtain ⟨hbk, _, hown, hne⟩ := h
 have mixed := L.mixed
 have t72 := L.t72; have a72 := L.a72; have z72 := L.z72; have v72 := L.v72; have u72 := run_underlying L.t72
 have t70 := L.t70; have a70 := L.a70; have z70 := L.z70; have v70 := L.v70; have u70 := run_underlying L.t70
 have t37 := L.t37; have a37 := L.a37; have z37 := L.z37; have v37 := L.v37; have u37 := run_underlying L.t37
 have t127 := L.t127; have a127 := L.a127; have z127 := L.z127; have v127 := L.v127; have u127 := run_underlying L.t127
 have t3 := L.t3; have a3 := L.a3; have z3 := L.z3; have v3 := L.v3; have u3 := run_underlying L.t3
 have t9 := L.t9; have a9 := L.a9; have z9 := L.z9; have v9 := L.v9; have u9 := run_underlying L.t9
 have t5 := X.t5; have a5 := X.a5; have z5 := X.z5; have v5 := X.v5; have u5 := run_underlying X.t5
 rcases hown.2 with ⟨rfl, h0⟩ | ⟨g, cap, cur, rfl, hbg, hg, hnc, hcm, hcs, htake⟩
 ·have hl : l = [] := List.eq_nil_of_length_eq_zero h0
  subst hl
  have hUS := Any.unsafeString_none L X
  have c1 : w.drew.cell? ⟨b, 1, none⟩ = some (.slice none 0 0) := by
   have : w.drew.heap[b]? = some (.cells #[p, .slice none 0 0] T (0, 0)) := hbk
   rw [Lib.cell_of_heap this]; rfl
  have hSD : (Builtin.unsafeSliceData_ #[(ρ.t 37)] (ρ.t 127) #[.slice none 0 0]).run P w.drew = .ok (.pointer none) w.drew := rfl
  go_enter L.f169, Body.n169_ntmps ρ
  go_wp2
  go_region_o
  all_goals (go_wp2; go_ret; exact ⟨rfl, ⟨rfl, rfl, rfl, Nat.le_refl _⟩, fun _ _ => rfl⟩)
 have hc0 : cap ≠ 0 := by
  rintro rfl
  exact hcap g (by rw [show l.length = 0 by omega])
 have c1 : w.drew.cell? ⟨b, 1, none⟩ = some (.slice (some ⟨g, 0, none⟩) l.length cap) := by
  have : w.drew.heap[b]? = some (.cells #[p, .slice (some ⟨g, 0, none⟩) l.length cap] T (0, 0)) := hbk
  rw [Lib.cell_of_heap this]; rfl
 have hSD : (Builtin.unsafeSliceData_ #[(ρ.t 37)] (ρ.t 127) #[.slice (some ⟨g, 0, none⟩) l.length cap]).run P w.drew = .ok (.pointer (some ⟨g, 0, none⟩)) w.drew :=
  Lib.run_unsafeSliceData_row _ _ _ _ _ _ hc0
 by_cases hl : l = []
 ·subst hl
  have hUS := Any.unsafeString_none L X
  clear hc0 hcap
  simp only [List.length_nil] at c1 hSD
  go_enter L.f169, Body.n169_ntmps ρ
  go_wp2
  go_region_o
  all_goals (go_wp2; go_ret; exact ⟨rfl, ⟨rfl, rfl, rfl, Nat.le_refl _⟩, fun _ _ => rfl⟩)
 have hUS : (Builtin.unsafeString_ #[(ρ.t 127), (ρ.t 3)] (ρ.t 9) #[.pointer (some ⟨g, 0, none⟩), .int .i64 l.length]).run P w.drew = .ok (.string ⟨l.toArray⟩) (w.drew.freeze ⟨g, 0, none⟩ l.length) := by
  refine Lib.run_unsafeString_row w.drew (ρ.t 127) (ρ.t 3) (ρ.t 9) (ρ.t 5) L.t127 X.cellsByte g cur.size (by have hg' : w.drew.heap[g]? = some (.cells cur (ρ.t 5) (0, 0)) := hg; simp [World.shape?, hg']) l hl (by omega) (by unfold maxLen at hcm; omega) ?_
  intro j x hx
  exact hown.cells (g := g) rfl j (.int .u8 x.toNat) (by simp [Lib.byteCells, hx])
 have hfz : ∀ k, g ≠ k → (w.drew.freeze ⟨g, 0, none⟩ l.length).heap[k]? = w.heap[k]? := fun k hk => by
  unfold World.freeze
  split
  ·rfl
  show (w.heap.modify g _)[k]? = _
  rw [Array.getElem?_modify, if_neg hk]
 have hfs : (w.drew.freeze ⟨g, 0, none⟩ l.length).heap.size = w.heap.size := by
  unfold World.freeze
  split
  ·rfl
  show (w.heap.modify g _).size = _
  simp
 have hfo : (w.drew.freeze ⟨g, 0, none⟩ l.length).os = w.os ∧ (w.drew.freeze ⟨g, 0, none⟩ l.length).tape = w.tape ∧ (w.drew.freeze ⟨g, 0, none⟩ l.length).output = w.output := by
  unfold World.freeze
  split <;> exact ⟨rfl, rfl, rfl⟩
 clear hc0 hcap
 go_enter L.f169, Body.n169_ntmps ρ
 go_wp2
 go_region_o
 all_goals (go_wp2; go_ret; exact ⟨rfl, ⟨hfo.1, hfo.2.1, hfo.2.2, Nat.le_of_eq hfs.symm⟩, fun k hk => hfz k (fun e => hk (by rw [e]; rfl))⟩)
end
end Go.Proofs

namespace Go.SX.Nb
open Go Go.SX Go.Proofs Go.Shelf
variable [ErrAt]
set_option maxRecDepth 8000
/-! show's builder. -/
theorem fb : Builder.Extra Tryz.prog Tryz.ren155 where
 sizeBuilder := by kernel_rfl
 liesBuilder := by kernel_rfl
 t5 := Tryz.underlying5
 a5 := Tryz.isAgg5
 z5 := Tryz.sizeOf5
 v5 := Tryz.zeroValue5
 infoByte := by kernel_rfl
 cellsByte := by kernel_rfl
 sizeByte := by kernel_rfl
 neB5 := by decide
theorem fc : liesAt Tryz.prog Tryz.prog.depth 112 (2 / Tryz.prog.cellsOf 112) 0 66 1 = true := by kernel_rfl
abbrev Mt (bs : Str) : AObj := .bld 112 5 bs
theorem Bs {n : Nat} {bs : Str} : ObjLow n (Mt bs) := trivial
/-- (*strings.Builder).WriteString. -/
theorem c21 (bs s : Str) (hl : bs.length + s.length ≤ 140737488355328) (o : Nat) (Hp : List AObj) (ho : Hp[o]? = some (Mt bs)) :
  ACall Tryz.prog 21 [.ptr o 0, A8 s] Hp (fun r H' => r = .tup [A3 s.length, .v .nilIface] ∧ H' = Hp.set o (Mt (bs ++ s))) := by
 refine ACall.bldWrite ho (fun b p v w h => ?_)
 have hw := bldWrite Tryz.lays166 fb (T := 112) fc (by decide) b p v bs.length (Lib.byteCells bs) ⟨s.toArray⟩ w h (by rw [C7]; exact hl)
 rw [C7, Lib.strCells_eq, ← Lib.byteCells_append] at hw
 exact hw
/-- (*strings.Builder).Len. -/
theorem c66 (bs : Str) (o : Nat) (Hp : List AObj) (ho : Hp[o]? = some (Mt bs)) : AFun Tryz.prog 66 [.ptr o 0] Hp (A3 bs.length) :=
 AFun.bldLen ho (fun b p v w h => bldLen Tryz.lays170 (T := 112) (e := 5) b p v _ _ w h)
/-- (*strings.Builder).String. -/
theorem c24 (bs : Str) (o : Nat) (Hp : List AObj) (ho : Hp[o]? = some (Mt bs)) : ACall Tryz.prog 24 [.ptr o 0] Hp (fun r H' => r = A8 bs ∧ H' = Hp.set o (.cells 112 [.any, .any])) :=
 ACall.bldString ho (fun b p v w h hc => bldString (ρ := Tryz.ren155) { Tryz.lays155 with } fb (T := 112) b p v bs w h hc)
end Go.SX.Nb
namespace Go.SX.Nb
open Go Go.SX Go.Proofs
variable [ErrAt]
set_option maxRecDepth 4000
abbrev gj : AV := .v (.tuple #[])
abbrev Dp : Nat := 1099511627776
/-- What node writes. -/
def ay (e : Expr) : Prop := ∀ (o : Nat) (bs : Str) (Hp : List AObj), Hp[o]? = some (Mt bs) → bs.length + (A9 e).length ≤ Dp → ACall Tryz.prog 65 [.ptr o 0, A6 e] Hp (fun r H' => r = gj ∧ H' = Hp.set o (Mt (bs ++ A9 e)))
theorem Xa (e : Expr) : A9 e = Jm e.op e.text e.val e.kids (e.kids.map A9) := by
 cases e with
 | mk o t v k => rw [A9, Is]; rfl
theorem fd {k : List Expr} {i : Nat} (h : i < k.length) : (k.map A9).getD i [] = A9 (k.getD i Aa) := by
 rw [List.getD_eq_getElem?_getD, List.getD_eq_getElem?_getD, List.getElem?_map, List.getElem?_eq_getElem h]
 rfl
theorem Oq (l : List Str) (s : Str) : Do (l ++ [s]) = Do l ++ (44 :: 32 :: s) := by
 induction l with
 | nil => simp [Do]
 | cons a r ih => simp [Do, ih]
theorem az {k : List Expr} {x : Nat} (h : x < k.length) : (Do ((k.take (x + 1)).map A9)).drop 2 = (Do ((k.take x).map A9)).drop 2 ++ (if 0 < x then [44, 32] else []) ++ A9 k[x] := by
 rw [List.take_succ_eq_append_getElem h, List.map_append, List.map_singleton, Oq]
 cases x with
 | zero => simp [Do]
 | succ x =>
  have : 2 ≤ (Do ((k.take (x + 1)).map A9)).length := by
   rw [List.take_succ_eq_append_getElem (by omega), List.map_append, List.map_singleton, Oq]
   simp
   omega
  rw [List.drop_append_of_le_length this, if_pos (by omega)]
  simp
theorem jx {k : List Expr} (x : Nat) : (Do ((k.take x).map A9)).length ≤ (Do (k.map A9)).length := by
 have : k.map A9 = (k.take x).map A9 ++ (k.drop x).map A9 := by rw [← List.map_append, List.take_append_drop]
 rw [this]
 have : ∀ a b : List Str, (Do a).length ≤ (Do (a ++ b)).length := by
  intro a b
  induction a with
  | nil => simp [Do]
  | cons c r ih => simp [Do]; exact ih
 exact this _ _
theorem S5 {H : List AObj} {o : Nat} {a b : AObj} : (H.set o a).set o b = H.set o b := List.set_set _
theorem c93 (e : Expr) (he : ay e) (hlev : X7 e = (levE e : Int)) (least : Nat) (l0 : Int) (hl0 : l0 = (least : Int)) (o : Nat) (bs : Str) (Hp : List AObj) (ho : Hp[o]? = some (Mt bs)) (hb : bs.length + (Gt least e (A9 e)).length ≤ Dp) : ACall Tryz.prog 93 [.ptr o 0, A6 e, A3 l0] Hp (fun r H' => r = gj ∧ H' = Hp.set o (Mt (bs ++ Gt least e (A9 e)))) := by
 subst hl0
 refine ACall.body [] [0, 1, 2] Tryz.func93 Tryz.ntmps93 (fun d => ?_)
 refine Z28 ?_;refine R.fin [0, 2, 4] ?_;refine Sx ?_;refine R.call Tryz.call91 (c91 e _) ?_;refine Ap ?_;refine R.geq ?_;refine R.fin [0, 4, 9] ?_
 refine W.cond (fun ht9 => ?_) (fun ht9 => ?_)
 ·have hz : least ≤ levE e := by
   have h := ht9
   rw [hlev] at h
   simpa using h
  rw [show Gt least e (A9 e) = A9 e from if_pos hz] at hb ⊢
  refine Yh ?_;refine R.callUp Tryz.call65 ho (by simp) Bs (he o bs _ (Ar ho) (by omega)) ?_;refine R.fin [] ?_;refine Yg ?_;exact K.fin .nores ⟨rfl, by simp⟩
 have hz : ¬ least ≤ levE e := by
  have h := ht9
  rw [hlev] at h
  simpa using h
 rw [show Gt least e (A9 e) = 40 :: (A9 e ++ [41]) from if_neg hz] at hb ⊢
 simp only [List.length_cons, List.length_append, List.length_nil, Dp] at hb
 refine Jv ?_;refine Z75 ?_
 refine R.callUp Tryz.call21 ho (by simp) Bs (c21 bs [40] (by simp only [Dp, List.length_append, List.length_cons, List.length_nil] at *; omega) o _ (Ar ho)) ?_
 refine R.fin [0, 4] ?_;refine Yh ?_
 refine R.callUp Tryz.call65 (Ao ho) (by simp) Bs (he o (bs ++ [40]) _ (Ar (Ao ho)) (by simp only [Dp, List.length_append, List.length_cons, List.length_nil] at *; omega)) ?_
 refine R.fin [0] ?_;refine Z14 ?_;refine Z75 ?_
 refine R.callUp Tryz.call21 (Ao (Ao ho)) (by simp) Bs (c21 (bs ++ [40] ++ A9 e) [41] (by simp only [Dp, List.length_append, List.length_cons, List.length_nil] at *; omega) o _ (Ar (Ao (Ao ho)))) ?_
 refine R.fin [] ?_;exact K.finN .nores ⟨rfl, by simp⟩

theorem c65 : ∀ (n : Nat) (e : Expr), okE n e → Cm C3 e = true → Cm Fa e = true → ay e := by
 intro n
 induction n with
 | zero => exact fun e h => h.elim
 | succ n ih =>
 intro e hok hnd hrg o bs Hp ho hb
 have hnd0 := hnd
 have hrg0 := hrg
 rw [Db, Bool.and_eq_true] at hnd0 hrg0
 have hev : ∀ y ∈ e.kids, ay y := fun y hy => ih y (hok.2.2 y hy) ((Ce _ _).1 hnd0.2 y hy) ((Ce _ _).1 hrg0.2 y hy)
 have hlv : ∀ y ∈ e.kids, X7 y = (levE y : Int) := fun y hy => Va (by have := (Ce _ _).1 hnd0.2 y hy; rw [Db, Bool.and_eq_true] at this; exact this.1)
 obtain ⟨k5, k34, k6, kall⟩ := aw hnd0.1
 have hi64 : dq e.val.n := by
  have := hrg0.1
  simp only [Fa, Bool.and_eq_true, decide_eq_true_eq] at this
  exact this
 have hlv0 := Va hnd0.1
 have pe := Xa e
 have hol := (List.getElem?_eq_some_iff.1 ho).1
 unfold Jm at pe
 refine ACall.body [] [0, 1] Tryz.func65 Tryz.ntmps65 (fun d => ?_)
 refine Z28 ?_;refine Ep ?_;refine Z88 ?_;refine R.call Tryz.call91 (c91 e _) ?_;refine B6 ?_;refine Pi ?_;refine Lo ?_;refine R.fin [0, 3, 4, 11] ?_;refine N9 ?_;refine R.fin [0, 3, 4, 11, 12] ?_
 refine W.cond (fun ht12 => ?_) (fun ht12 => ?_)
 ·rw [if_pos ht12] at pe
  refine W.draw0 [0, 1, 3, 0, 8, 24, 63] 6 Am (by kernel_rfl) ?_;refine Yn ?_;refine D.fieldAddrPtr (fo := 0) jU Tryz.sizeOf66 ?_;refine D.fieldAddrRo (off := 2) jU Tryz.sizeOf58 ?_;refine Nh ?_;refine D.call Tryz.call92 (c92 e.val hi64 _) ?_;refine D.tail ?_
  refine R.callUp Tryz.call21 ho (by simp) Bs (c21 bs (Ds e.val) (by rw [pe] at hb; simp only [Dp] at hb; omega) o _ (Ar ho)) ?_
  exact W8
 rw [if_neg (by rw [ht12]; simp)] at pe
 refine Z39 ?_;refine R.fin [0, 3, 4, 11, 21] ?_
 refine W.cond (fun ht21 => ?_) (fun ht21 => ?_)
 ·rw [if_pos ht21] at pe
  refine W.draw0 [0, 1, 3, 0, 8, 31] 5 Am (by kernel_rfl) ?_;refine Yn ?_;refine ca ?_;refine Ye ?_
  refine R.callUp Tryz.call21 ho (by simp) Bs (c21 bs e.text (by rw [pe] at hb; simp only [Dp] at hb; omega) o _ (Ar ho)) ?_
  exact W8
 rw [if_neg (by rw [ht21]; simp)] at pe
 refine Z39 ?_;refine R.fin [0, 3, 4, 11, 29] ?_
 refine W.cond (fun ht29 => ?_) (fun ht29 => ?_)
 ·rw [if_pos ht29] at pe
  have hkl := k34 (.inl (by simpa using ht29))
  rw [fd (by omega)] at pe
  rw [pe] at hb
  simp only [List.length_cons, Dp] at hb
  refine Z1 ?_;refine Z75 ?_
  refine R.callUp Tryz.call21 ho (by simp) Bs (c21 bs [45] (by simp only [Dp, List.length_append, List.length_cons, List.length_nil] at *; omega) o _ (Ar ho)) ?_
  refine Ep ?_;refine Z14 ?_;refine Z24 ?_;refine bx ?_
  refine R.callUp Tryz.call93 (Ao ho) (by simp) Bs (c93 (e.kids.getD 0 Aa) (hev _ (Jn (by omega)).2.1) (hlv _ (Jn (by omega)).2.1) (6) _ (rfl) o (bs ++ [45]) _ (Ar (Ao ho)) (by simp only [Dp, List.length_append, List.length_cons, List.length_nil] at *; omega)) ?_
  exact W8
 rw [if_neg (by rw [ht29]; simp)] at pe
 refine Z39 ?_;refine R.fin [0, 3, 4, 11, 41] ?_
 refine W.cond (fun ht41 => ?_) (fun ht41 => ?_)
 ·rw [if_pos ht41] at pe
  have hkl := k34 (.inr (by simpa using ht41))
  rw [fd (by omega)] at pe
  rw [pe] at hb
  simp only [List.length_cons, List.length_append, Wx, List.length_nil, Dp] at hb
  refine Z1 ?_;refine Z75 ?_
  refine R.callUp Tryz.call21 ho (by simp) Bs (c21 bs [110, 111, 116, 32] (by simp only [Dp, List.length_append, List.length_cons, List.length_nil] at *; omega) o _ (Ar ho)) ?_
  refine Ep ?_;refine Z14 ?_;refine Z24 ?_;refine bx ?_
  refine R.callUp Tryz.call93 (Ao ho) (by simp) Bs (c93 (e.kids.getD 0 Aa) (hev _ (Jn (by omega)).2.1) (hlv _ (Jn (by omega)).2.1) (2) _ (rfl) o (bs ++ [110, 111, 116, 32]) _ (Ar (Ao ho)) (by simp only [Dp, List.length_append, List.length_cons, List.length_nil] at *; omega)) ?_
  exact W8
 rw [if_neg (by rw [ht41]; simp)] at pe
 refine Z39 ?_;refine R.fin [0, 3, 4, 11, 53] ?_
 refine W.cond (fun ht53 => ?_) (fun ht53 => ?_)
 ·rw [if_pos ht53] at pe
  have h5 : e.op = 5 := by simpa using ht53
  have hkl := k5 h5
  have hlv5 : levE e = (Ag e.text).toNat := by simp [levE, h5]
  have hl5 := Zz e.text
  rw [fd (by omega), fd (by omega)] at pe
  rw [pe] at hb
  simp only [List.length_cons, List.length_append, Dp] at hb
  rw [hlv0, hlv5]
  refine Z36 ?_;refine R.fin [0, 3, 4, 5] ?_;refine Z12 ?_;refine R.eql ?_;refine R.fin [0, 3, 4, 5, 57] ?_
  refine W.cond (fun ht57 => ?_) (fun ht57 => ?_)
  ·have h3 : (Ag e.text).toNat = 3 := by have := ht57; simp at this; omega
   have hf1 : (((Ag e.text).toNat : Int) + 1) = ((Dv (Ag e.text).toNat : Nat) : Int) := by rw [h3]; rfl
   refine Z51 ?_;refine R.fin [0, 3, 4, 5] ?_;refine K.thN ?_;refine Z1 ?_;refine Z24 ?_;refine bx ?_;refine Ap ?_
   refine R.callUp Tryz.call93 ho (by simp) Bs (c93 (e.kids.getD 0 Aa) (hev _ (Jn (by omega)).2.1) (hlv _ (Jn (by omega)).2.1) (Dv (Ag e.text).toNat) _ (by first | exact hf1 | rw [hf2]) o (bs) _ (Ar ho) (by simp only [Dp, List.length_append, List.length_cons, List.length_nil] at *; omega)) ?_
   refine lx ?_;refine Yn ?_;refine ca ?_;refine Ik ?_
   refine D.sadd (hl := by simp only [List.length_cons, List.length_nil]; omega) ?_
   refine D.sadd (hl := by simp only [List.length_cons, List.length_nil, List.length_append]; omega) ?_
   refine D.tail ?_
   refine R.callUp Tryz.call21 (Ao ho) (by simp) Bs (c21 (bs ++ Gt (Dv (Ag e.text).toNat) (e.kids.getD 0 Aa) (A9 (e.kids.getD 0 Aa))) (32 :: (e.text ++ [32])) (by simp only [Dp, List.length_append, List.length_cons, List.length_nil] at *; omega) o _ (Ar (Ao ho))) ?_
   refine Pi ?_;refine Z14 ?_;refine Z24 ?_;refine ld ?_;refine Ap ?_;refine R.add64 ?_
   refine R.callUp Tryz.call93 (Ao (Ao ho)) (by simp) Bs (c93 (e.kids.getD 1 Aa) (hev _ (Jn (by omega)).2.1) (hlv _ (Jn (by omega)).2.1) ((Ag e.text).toNat + 1) _ (by first | rfl | (push_cast; rfl)) o (bs ++ Gt (Dv (Ag e.text).toNat) (e.kids.getD 0 Aa) (A9 (e.kids.getD 0 Aa)) ++ 32 :: (e.text ++ [32])) _ (Ar (Ao (Ao ho))) (by simp only [Dp, List.length_append, List.length_cons, List.length_nil] at *; omega)) ?_
   exact W8
  have h3 : (Ag e.text).toNat ≠ 3 := by have := ht57; simp at this; omega
  have hf2 : Dv (Ag e.text).toNat = (Ag e.text).toNat := by unfold Dv; rw [if_neg h3]
  refine Jv ?_;refine Z24 ?_;refine bx ?_;refine Ap ?_
  refine R.callUp Tryz.call93 ho (by simp) Bs (c93 (e.kids.getD 0 Aa) (hev _ (Jn (by omega)).2.1) (hlv _ (Jn (by omega)).2.1) (Dv (Ag e.text).toNat) _ (by first | exact hf1 | rw [hf2]) o (bs) _ (Ar ho) (by simp only [Dp, List.length_append, List.length_cons, List.length_nil] at *; omega)) ?_
  refine lx ?_;refine Yn ?_;refine ca ?_;refine Ik ?_
  refine D.sadd (hl := by simp only [List.length_cons, List.length_nil]; omega) ?_
  refine D.sadd (hl := by simp only [List.length_cons, List.length_nil, List.length_append]; omega) ?_
  refine D.tail ?_
  refine R.callUp Tryz.call21 (Ao ho) (by simp) Bs (c21 (bs ++ Gt (Dv (Ag e.text).toNat) (e.kids.getD 0 Aa) (A9 (e.kids.getD 0 Aa))) (32 :: (e.text ++ [32])) (by simp only [Dp, List.length_append, List.length_cons, List.length_nil] at *; omega) o _ (Ar (Ao ho))) ?_
  refine Pi ?_;refine Z14 ?_;refine Z24 ?_;refine ld ?_;refine Ap ?_;refine R.add64 ?_
  refine R.callUp Tryz.call93 (Ao (Ao ho)) (by simp) Bs (c93 (e.kids.getD 1 Aa) (hev _ (Jn (by omega)).2.1) (hlv _ (Jn (by omega)).2.1) ((Ag e.text).toNat + 1) _ (by first | rfl | (push_cast; rfl)) o (bs ++ Gt (Dv (Ag e.text).toNat) (e.kids.getD 0 Aa) (A9 (e.kids.getD 0 Aa)) ++ 32 :: (e.text ++ [32])) _ (Ar (Ao (Ao ho))) (by simp only [Dp, List.length_append, List.length_cons, List.length_nil] at *; omega)) ?_
  exact W8
 rw [if_neg (by rw [ht53]; simp)] at pe
 refine Z39 ?_;refine R.fin [0, 3, 83] ?_
 refine W.cond (fun ht83 => ?_) (fun ht83 => ?_)
 ·have hsl : ∀ x, ((Do ((e.kids.take x).map A9)).drop 2).length ≤ ((Do (e.kids.map A9)).drop 2).length := fun x => by have := jx (k := e.kids) x; rw [List.length_drop, List.length_drop]; omega
  have hkl6 := hok.2.1
  rw [pe] at hb
  simp only [List.length_cons, List.length_append, List.length_nil, Dp] at hb
  refine W.draw [0, 1, 3, 0, 8, 24, 63] 6 Am (by kernel_rfl) ?_;refine Yn ?_;refine ca ?_;refine Ik ?_
  refine D.sadd (hl := by simp only [List.length_cons, List.length_nil]; omega) ?_
  refine D.tail ?_
  refine R.callUp Tryz.call21 ho (by simp) Bs (c21 bs (e.text ++ [40]) (by simp only [Dp, List.length_append, List.length_cons, List.length_nil] at *; omega) o _ (Ar ho)) ?_
  refine Ep ?_;refine Z18 ?_;refine Z24 ?_;refine Z35 ?_;refine R.fin [0, 93, 94, 95] ?_
  refine AW.loopC (α := Nat) (fun x => ⟨114, A2 0 (.ptr o 0) (A2 93 (.slice false 6 (e.kids.map A6)) (A2 94 (A3 (e.kids.length : Nat)) (A2 95 (A3 (x : Nat)) (fun _ => .any)))), Hp.set o (Mt (bs ++ (e.text ++ [40]) ++ (Do ((e.kids.take x).map A9)).drop 2)), [], [], none⟩) (fun x => x ≤ e.kids.length) (fun x => e.kids.length - x) (0) (Nat.zero_le _) (StLe.of_eq (by simp [Do])) rfl (fun x hx => ?_)
  refine Z44 ?_;refine R.fin [0, 93, 94, 95, 96] ?_
  refine W.condX (fun ht96 => ?_) (fun ht96 => ?_)
  ·have hlt : x < e.kids.length := by simpa using ht96
   have hst := az hlt
   have hsl1 := hsl (x + 1)
   have hslx := hsl x
   refine L1 ?_;refine Z69 ?_;refine Sw ?_;refine R.fin [0, 6, 7, 93, 94, 95] ?_;refine Z12 ?_;refine R.gtr ?_;refine R.fin [0, 7, 93, 94, 95, 101] ?_
   refine W.cond (fun ht101 => ?_) (fun ht101 => ?_)
   ·have h0x : 0 < x := by simpa using ht101
    rw [if_pos h0x] at hst
    have hstl := congrArg List.length hst
    simp only [List.length_append, List.length_cons, List.length_nil] at hstl
    refine Z14 ?_;refine Z75 ?_
    refine R.callUp Tryz.call21 (Ao ho) (by simp) Bs (c21 (bs ++ (e.text ++ [40]) ++ (Do ((e.kids.take x).map A9)).drop 2) [44, 32] (by simp only [Dp, List.length_append, List.length_cons, List.length_nil] at *; omega) o _ (Ar (Ao ho))) ?_
    refine R.fin [0, 7, 93, 94, 95] ?_;refine K.thN ?_;refine Z14 ?_;refine Pj ?_
    first | refine R.callUp Tryz.call65 (Ao ho) (by simp) Bs (hev _ (List.getElem_mem hlt) o (bs ++ (e.text ++ [40]) ++ (Do ((e.kids.take x).map A9)).drop 2) _ (Ar (Ao ho)) (by simp only [Dp, List.length_append, List.length_cons, List.length_nil] at *; omega)) ?_ | refine R.callUp Tryz.call65 (Ao (Ao ho)) (by simp) Bs (hev _ (List.getElem_mem hlt) o (bs ++ (e.text ++ [40]) ++ (Do ((e.kids.take x).map A9)).drop 2 ++ [44, 32]) _ (Ar (Ao (Ao ho))) (by simp only [Dp, List.length_append, List.length_cons, List.length_nil] at *; omega)) ?_
    refine R.fin [0, 93, 94, 95] ?_;refine Ih ?_;refine R.fin [0, 93, 94, 95] ?_;refine Ng ?_
    simp only [hst, S5, List.append_assoc, List.append_nil]
    exact StCut.take (own := []) (fun _ => .refl _) (by repeat (first | exact Aj | refine Ai (by first | exact Eu | exact Pw | (simp [or_imp, forall_and, oid] <;> omega)) ?_)) (by simp) (by simp)
   have h0x : ¬ 0 < x := by simpa using ht101
   rw [if_neg h0x] at hst
   have hstl := congrArg List.length hst
   simp only [List.length_append, List.length_cons, List.length_nil] at hstl
   refine Z5 ?_;refine Z14 ?_;refine Pj ?_
   first | refine R.callUp Tryz.call65 (Ao ho) (by simp) Bs (hev _ (List.getElem_mem hlt) o (bs ++ (e.text ++ [40]) ++ (Do ((e.kids.take x).map A9)).drop 2) _ (Ar (Ao ho)) (by simp only [Dp, List.length_append, List.length_cons, List.length_nil] at *; omega)) ?_ | refine R.callUp Tryz.call65 (Ao (Ao ho)) (by simp) Bs (hev _ (List.getElem_mem hlt) o (bs ++ (e.text ++ [40]) ++ (Do ((e.kids.take x).map A9)).drop 2 ++ [44, 32]) _ (Ar (Ao (Ao ho))) (by simp only [Dp, List.length_append, List.length_cons, List.length_nil] at *; omega)) ?_
   refine R.fin [0, 93, 94, 95] ?_;refine Ih ?_;refine R.fin [0, 93, 94, 95] ?_;refine Ng ?_
   simp only [hst, S5, List.append_assoc, List.append_nil]
   exact StCut.take (own := []) (fun _ => .refl _) (by repeat (first | exact Aj | refine Ai (by first | exact Eu | exact Pw | (simp [or_imp, forall_and, oid] <;> omega)) ?_)) (by simp) (by simp)
  have hxe : e.kids.take x = e.kids := List.take_of_length_le (by simp at ht96; omega)
  have hslx := hsl x
  refine Z29 ?_;refine Z14 ?_;refine Z75 ?_
  refine R.callUp Tryz.call21 (Ao ho) (by simp) Bs (c21 (bs ++ (e.text ++ [40]) ++ (Do ((e.kids.take x).map A9)).drop 2) [41] (by simp only [Dp, List.length_append, List.length_cons, List.length_nil] at *; omega) o _ (Ar (Ao ho))) ?_
  refine Yp ?_;exact K.finN .nores ⟨rfl, by rw [pe, hxe] <;> simp⟩
 exfalso
 have h6 := kall
 simp at ht12 ht21 ht29 ht41 ht53 ht83
 omega

set_option maxRecDepth 8000
/-! How long a print is. -/
theorem U9 {v : Val} (hp : Cp v = true) (hi : dq v.n) : (Ds v).length ≤ 402 := by
 unfold Ds
 rw [hp]
 simp only [Bool.not_true, Bool.false_eq_true, if_false]
 split
 ·have := Lib.itoa_length_le v.n hi.1 hi.2
  omega
 split
 ·rename_i h1 h2
  rw [Rg]
  have h3 := Rf v.s
  have h4 : v.s.length ≤ 200 := by
   have k2 : v.kind = 2 := by simpa using h2
   simp [Cp, k2] at hp
   omega
  simp
  omega
 split
 ·simp
 split <;> simp
theorem L7 (k : Nat) (x : Expr) (s : Str) : (Gt k x s).length ≤ s.length + 2 := by
 unfold Gt
 split <;> simp
theorem S6 {t : Str} (h : 0 ≤ Ag t) : t.length ≤ 3 := by
 rcases Hc t with hm | ⟨hm, _⟩
 ·have h3 : (levels.flatten.all fun s => decide (s.length ≤ 3)) = true := by kernel_rfl
  exact of_decide_eq_true (List.all_eq_true.1 h3 t hm)
 omega
theorem Mu {t : Str} {n : Nat} (h : Av t = (n : Int)) : t.length ≤ 6 := by
 rcases Ms h with ⟨e, _⟩ | ⟨e, _⟩ | ⟨e, _⟩ | ⟨e, _⟩ | ⟨e, _⟩ | ⟨e, _⟩ | ⟨e, _⟩ | ⟨e, _⟩ <;> rw [e] <;> decide
theorem b6 {k : List Expr} (h : ∀ y ∈ k, (A9 y).length + 10 ≤ 440 * sizeE y) : (Do (k.map A9)).length ≤ 440 * Bo k := by
 induction k with
 | nil => simp [Do]
 | cons y r ih =>
  have h1 := h y List.mem_cons_self
  have h2 := ih (fun z hz => h z (List.mem_cons_of_mem _ hz))
  simp only [List.map_cons, Do, Bo, List.length_cons, List.length_append]
  omega
theorem Ot : ∀ (n : Nat) (e : Expr), sizeE e ≤ n → Cm C3 e = true → Cm Fa e = true → (A9 e).length + 10 ≤ 440 * sizeE e
 | 0, e, h, _, _ => by rw [Ez] at h; omega
 | n + 1, e, h, hn, hr => by
  rw [Db, Bool.and_eq_true] at hn hr
  have hk : ∀ y ∈ e.kids, (A9 y).length + 10 ≤ 440 * sizeE y := fun y hy => by
   obtain ⟨i, hi⟩ := List.getElem?_of_mem hy
   obtain ⟨hlt, rfl⟩ := List.getElem?_eq_some_iff.1 hi
   exact Ot n _ (by have := R5 e hlt; omega) ((Ce _ _).1 hn.2 _ hy) ((Ce _ _).1 hr.2 _ hy)
  have hi : dq e.val.n := by
   have := hr.1
   simp only [Fa, Bool.and_eq_true, decide_eq_true_eq] at this
   exact this
  rw [Ez]
  cases Ip hn.1 with
  | val v hp h0 =>
   rw [jt]
   have := U9 hp (v := v) hi
   simp only [Pt, Expr.kids, Bo]
   omega
  | name t ht =>
   rw [f9]
   have : t.length ≤ 16 := by
    cases t with
    | nil => simp
    | cons c r =>
     simp only [Ey, Bool.and_eq_true, decide_eq_true_eq] at ht
     exact ht.1.1.1
   simp only [Bi, Expr.kids, Bo]
   omega
  | neg a =>
   rw [ju]
   have h1 := L7 6 a (A9 a)
   have h2 := hk a (by simp [Gr, Expr.kids])
   simp only [Gr, Expr.kids, Bo, List.length_cons]
   omega
  | no a =>
   rw [nj]
   have h1 := L7 2 a (A9 a)
   have h2 := hk a (by simp [Gr, Expr.kids])
   simp only [Gr, Expr.kids, Bo, List.length_cons, List.length_append, Wx, List.length_nil]
   omega
  | bin t a b ht =>
   rw [jv]
   have h1 := L7 (Dv (Ag t).toNat) a (A9 a)
   have h2 := L7 ((Ag t).toNat + 1) b (A9 b)
   have h3 := hk a (by simp [Nk, Expr.kids])
   have h4 := hk b (by simp [Nk, Expr.kids])
   have h5 := S6 ht
   simp only [Nk, Expr.kids, Bo, List.length_cons, List.length_append]
   omega
  | call t k ha =>
   rw [fa]
   have h1 := Mu ha
   have h2 := b6 (k := k) hk
   rw [← Is] at h2
   simp only [Expr.kids, List.length_cons, List.length_append, List.length_drop, List.length_nil]
   omega
theorem S7 {e : Expr} (hr : B0 e = true) (hg : Cm Fa e = true) : (A9 e).length ≤ 132000 := by
 have h1 := It hr
 have h2 : sizeE e ≤ 300 := by
  unfold B0 at hr
  simp only [Bool.and_eq_true, decide_eq_true_eq] at hr
  exact hr.1.2
 have := Ot _ e (Nat.le_refl _) h1 hg
 omega
set_option maxRecDepth 4000
theorem fe : C9 (.agg #[.int .i64 0, .string ⟨#[]⟩, .int .i64 0, .int .i64 0, .string ⟨#[]⟩, .slice none 0 0]) = .agg [A3 0, A8 [], A3 0, A3 0, A8 [], .nil] := rfl
attribute [go_sem] fe
theorem Ua {e : Expr} (h : C3 e = true) : e.text.length ≤ 16 ∧ e.kids.length ≤ 8 := by
 cases Ip h with
 | val v hp h0 => exact ⟨by simp [Pt, Expr.text], by simp [Pt, Expr.kids]⟩
 | name t ht =>
  refine ⟨?_, by simp [Bi, Expr.kids]⟩
  show t.length ≤ 16
  cases t with
  | nil => simp
  | cons c r =>
   simp only [Ey, Bool.and_eq_true, decide_eq_true_eq] at ht
   exact ht.1.1.1
 | neg a => exact ⟨by simp [Gr, Expr.text], by simp [Gr, Expr.kids]⟩
 | no a => exact ⟨by simp [Gr, Expr.text], by simp [Gr, Expr.kids]⟩
 | bin t a b ht => exact ⟨by have := S6 ht; show t.length ≤ 16; omega, by simp [Nk, Expr.kids]⟩
 | call t k ha =>
  refine ⟨by have := Mu ha; show t.length ≤ 16; omega, ?_⟩
  show k.length ≤ 8
  rcases Ms ha with ⟨_, e⟩ | ⟨_, e⟩ | ⟨_, e⟩ | ⟨_, e⟩ | ⟨_, e⟩ | ⟨_, e⟩ | ⟨_, e⟩ | ⟨_, e⟩ <;> omega
theorem Ou : ∀ {l : List Expr} {y : Expr}, y ∈ l → depthE y ≤ C1 l
 | a :: r, y, h => by
  rw [C1]
  rcases List.mem_cons.1 h with rfl | h
  ·omega
  have := Ou h
  omega
theorem Vb : ∀ (n : Nat) (e : Expr), depthE e ≤ n → Cm C3 e = true → okE n e
 | 0, e, h, _ => by rw [Hs] at h; omega
 | n + 1, e, h, hn => by
  rw [Db, Bool.and_eq_true] at hn
  rw [Hs] at h
  have hs := Ua hn.1
  refine ⟨by omega, by omega, fun y hy => Vb n y (by have := Ou hy; omega) ((Ce _ _).1 hn.2 y hy)⟩
theorem Xb {e : Expr} (h : B0 e = true) : okE 30 e ∧ sizeE e ≤ 300 := by
 have h1 := It h
 unfold B0 at h
 simp only [Bool.and_eq_true, decide_eq_true_eq] at h
 exact ⟨Vb 30 e h.1.1 h1, h.1.2⟩
theorem c44 (n : Nat) (e : Expr) (hok : okE n e) (hn : n ≤ 1048576) (hg : Cm Fa e = true) (Hp : List AObj) : AFun Tryz.prog 44 [A6 e] Hp (.tup [A8 (Gn e).1, A3 (Gn e).2]) := by
 refine ACall.body [.tmp 2, .tmp 3] [0] Tryz.func44 Tryz.ntmps44 (fun d => ?_)
 refine cr ?_;refine R.fin [1] ?_;refine Sx ?_;refine R.call Tryz.call64 (c64 n e hok hn _) ?_;refine R.not ?_;refine R.fin [1, 7] ?_
 refine W.cond (fun ht7 => ?_) (fun ht7 => ?_)
 ·have hsh : Gn e = ([], 1) := if_pos ht7
  refine Z41 ?_;refine R.fin [2, 3] ?_;exact l5
 have hnr : ¬ (!(Ab e)) = true := by rw [ht7]; simp
 have hr : B0 e = true := by rw [← Cr]; simpa using ht7
 have hps := S7 hr hg
 refine Ig ?_;refine R.build (places := #[(0, 2)]) jU (fun w => by simp) jZ ?_;refine R.box ?_;refine B6 ?_;refine R.fin [1, 4] ?_;refine B2 ?_;refine R.toBld 0 112 5 ?_;refine Ap ?_;refine E0 ?_
 refine R.callOwn (n := 0) (x := Mt (A9 e)) Tryz.call65 (c65 n e hok (It hr) hg (oid Hp.length 0) [] _ (by rw [Bc]; rfl) (by simp only [Dp, List.length_nil]; omega)) ?_
 refine R.fin [4] ?_;refine Z12 ?_;refine Z75 ?_
 refine R.call Tryz.call66 (c66 (A9 e) (oid Hp.length 0) _ (by rw [Bc]; rfl)) ?_
 refine R.gtr ?_;refine R.fin [4, 17] ?_
 refine W.cond (fun ht17 => ?_) (fun ht17 => ?_)
 ·have hsh : Gn e = ([], 3) := by unfold Gn; rw [if_neg hnr, if_pos ht17]
  refine Z41 ?_;refine R.fin [2, 3] ?_;exact l5
 have hsh : Gn e = (A9 e, 0) := by unfold Gn; rw [if_neg hnr, if_neg (by rw [ht17]; simp)]
 refine Jv ?_;refine Z75 ?_
 refine R.callOwn (n := 0) (x := .cells 112 [.any, .any]) Tryz.call24 (c24 (A9 e) (oid Hp.length 0) _ (by rw [Bc]; rfl)) ?_
 refine Z7 ?_;refine R.fin [2, 3] ?_;refine AW.ret ?_;exact me

/-! fuse.Forth and plan.Text. -/
def Aq (c : List Col) (ms : List Mov) : Nat → List Expr
 | 0 => Ke c
 | k + 1 => match ms[k]? with
  | some m => Bx m.take (colsAt c ms k) (Aq c ms k) ++ (Bu (colsAt c ms k) (Aq c ms k) m.ahead).1
  | none => Aq c ms k
def El (c : List Col) (t : List Expr) : List Mov → List Expr × Int
 | [] => (t, 0)
 | m :: r => if (Bu c t m.ahead).2 != 0 then ([], (Bu c t m.ahead).2) else El (Az c m).1 (Bx m.take c t ++ (Bu c t m.ahead).1) r
/-- fuse.Forth. -/
def Ax (c : List Col) (l : List Mov) : List Expr × Int := if (At c l).2 != 0 then ([], 1) else El c (Ke c) l
def Fi (c : List Col) (ms : List Mov) (k : Nat) : Prop := El c (Ke c) ms = El (colsAt c ms k) (Aq c ms k) (ms.drop k)
theorem nk {c : List Col} {ms : List Mov} : Fi c ms 0 := rfl
theorem Vc {c : List Col} {ms : List Mov} {k : Nat} {m : Mov} (hk : ms[k]? = some m) (h : Fi c ms k) (he : ((Bu (colsAt c ms k) (Aq c ms k) m.ahead).2 != 0) = false) : Fi c ms (k + 1) := by
 unfold Fi at h ⊢
 rw [h, Hf hk, El, if_neg (by rw [he]; simp), Ea hk, Aq, hk]
theorem b7 {c : List Col} {ms : List Mov} {k : Nat} {m : Mov} (hk : ms[k]? = some m) (h : Fi c ms k) (he : ((Bu (colsAt c ms k) (Aq c ms k) m.ahead).2 != 0) = true) : El c (Ke c) ms = ([], (Bu (colsAt c ms k) (Aq c ms k) m.ahead).2) := by
 unfold Fi at h
 rw [h, Hf hk, El, if_pos he]
theorem b8 {c : List Col} {ms : List Mov} (h : Fi c ms ms.length) : El c (Ke c) ms = (Aq c ms ms.length, 0) := by
 unfold Fi at h
 rw [h, List.drop_length, El]
/-- Trees that may be walked, printed and put again. -/
structure TOk (t : List Expr) : Prop where
 ok : ∀ e ∈ t, okE 61 e
 rng : ∀ e ∈ t, Cm Fa e = true
theorem Hv {take : List Str} : ∀ {c : List Col} {l : List Expr}, ∀ e ∈ Bx take c l, e ∈ l
 | [], [], e, h => by cases h
 | [], _ :: _, e, h => by cases h
 | _ :: _, [], e, h => by cases h
 | y :: c, x :: l, e, h => by
  unfold Bx at h
  split at h
  ·exact List.mem_cons_of_mem _ (Hv e h)
  rcases List.mem_cons.1 h with rfl | h
  ·exact List.mem_cons_self
  exact List.mem_cons_of_mem _ (Hv e h)
theorem S8 {c : List Col} {l : List Expr} (hl : ∀ e ∈ l, Cm Fa e = true) (hc : c.length = l.length) : ∀ (n : Nat) (x y : Expr), okE n x → Cm Fa x = true → Dx c l x = some y → Cm Fa y = true
 | 0, x, y, h, _, _ => h.elim
 | n + 1, x, y, h, hr, hp => by
  cases h2 : x.op == 2 with
  | true =>
   rw [Mo h2] at hp
   split at hp
   ·cases hp
   rename_i hf
   injection hp with hp
   subst hp
   obtain ⟨j, hj, hjl⟩ := D9 hf
   rw [hj, Int.toNat_natCast, List.getD_eq_getElem?_getD, List.getElem?_eq_getElem (by omega)]
   exact hl _ (List.getElem_mem (by omega))
  | false =>
   rw [Mp h2] at hp
   cases hk : Fz c l x.kids with
   | none => rw [hk] at hp; cases hp
   | some s =>
    rw [hk] at hp
    injection hp with hp
    subst hp
    obtain ⟨h3, h4⟩ := Ir hk
    rw [Db, Bool.and_eq_true] at hr
    rw [Db, Bool.and_eq_true]
    refine ⟨hr.1, (Ce _ _).2 fun z hz => ?_⟩
    obtain ⟨e, he, hpe⟩ := h4 z hz
    exact S8 hl hc n e z (h.2.2 e he) ((Ce _ _).1 hr.2 e he) hpe
theorem b9 {x : Expr} {c : List Col} {l : List Expr} (hx : okE 61 x) (hr : Cm Fa x = true) (ht : TOk l) (he : (D0 x c l).2 = 0) : okE 61 (D0 x c l).1 ∧ Cm Fa (D0 x c l).1 = true ∧ Ab (D0 x c l).1 = true := by
 unfold D0 at he ⊢
 split at he
 ·exact absurd (show (1 : Int) = 0 from he) (by decide)
 rename_i h1
 rw [if_neg h1]
 have hcl : c.length = l.length := by
  simp only [Bool.not_eq_true, Bool.or_eq_false_iff, bne_eq_false_iff_eq] at h1
  have := h1.2
  omega
 cases hp : Dx c l x with
 | none => rw [hp] at he; exact absurd (show (9 : Int) = 0 from he) (by decide)
 | some y =>
  rw [hp] at he
  simp only at he ⊢
  split at he
  ·rename_i h2
   rw [if_pos h2]
   have h3 : B0 y = true := by rw [← Cr]; exact h2
   exact ⟨Tw (by decide) (Xb h3).1, S8 ht.rng hcl 61 x y hx hr hp, h2⟩
  exact absurd (show (3 : Int) = 0 from he) (by decide)
theorem Ov {c : List Col} {t : List Expr} (ht : TOk t) : ∀ (l : List Expr), (∀ e ∈ l, okE 61 e) → (∀ e ∈ l, Cm Fa e = true) → (Bu c t l).2 = 0 → TOk (Bu c t l).1
 | [], _, _, _ => ⟨fun e h => (List.not_mem_nil h).elim, fun e h => (List.not_mem_nil h).elim⟩
 | x :: r, h1, h2, he => by
  unfold Bu at he ⊢
  split at he
  ·rename_i h3
   exact absurd he (by simpa using h3)
  rename_i h3
  rw [if_neg h3]
  split at he
  ·rename_i h4
   exact absurd he (by simpa using h4)
  rename_i h4
  rw [if_neg h4]
  have ih := Ov (c := c) ht r (fun e he => h1 e (List.mem_cons_of_mem _ he)) (fun e he => h2 e (List.mem_cons_of_mem _ he)) (by simpa using h4)
  have hx := b9 (c := c) (h1 x List.mem_cons_self) (h2 x List.mem_cons_self) ht (by simpa using h3)
  refine ⟨fun e he => ?_, fun e he => ?_⟩
  ·rcases List.mem_cons.1 he with rfl | he
   ·exact hx.1
   exact ih.ok e he
  rcases List.mem_cons.1 he with rfl | he
  ·exact hx.2.1
  exact ih.rng e he
theorem ba {c : List Col} (hc : OkCols c) : TOk (Ke c) := by
 refine ⟨fun e he => ?_, fun e he => ?_⟩
 ·obtain ⟨y, hy, rfl⟩ := List.mem_map.1 he
  exact ⟨hc.2 y hy, by simp [Bi, Expr.kids], fun z hz => by simp [Bi, Expr.kids] at hz⟩
 obtain ⟨y, hy, rfl⟩ := List.mem_map.1 he
 rfl
/-- What holds of the trees behind k moves, if all went well till there. -/
theorem Vd {c : List Col} {ms : List Mov} {k : Nat} {m : Mov} (hk : ms[k]? = some m) (hm : OkMov m) (h : TOk (Aq c ms k)) (he : ((Bu (colsAt c ms k) (Aq c ms k) m.ahead).2 != 0) = false) : TOk (Aq c ms (k + 1)) := by
 have h1 := Ov (c := colsAt c ms k) h m.ahead hm.ahead.ok hm.ahead.rng (by simpa using he)
 rw [Aq, hk]
 refine ⟨fun e he => ?_, fun e he => ?_⟩
 ·rcases List.mem_append.1 he with he | he
  ·exact h.ok e (Hv e he)
  exact h1.ok e he
 rcases List.mem_append.1 he with he | he
 ·exact h.rng e (Hv e he)
 exact h1.rng e he
theorem S9 {c : List Col} {m : Mov} (h : (Az c m).2 = 0) : (Az c m).1 = Bp c m.take ++ Ac c m ∧ B9 c = true ∧ B9 (Az c m).1 = true := by
 unfold Az at h ⊢
 split at h
 ·rename_i h1
  exact absurd h (by simpa using h1)
 rename_i h1
 rw [if_neg h1]
 split at h
 ·rename_i h2
  exact absurd h (by simpa using h2)
 rename_i h2
 rw [if_neg h2]
 split at h
 ·rename_i h3
  exact absurd h (by simpa using h3)
 rename_i h3
 rw [if_neg h3]
 obtain ⟨a, _, b, d, e⟩ := eb (by simpa using h1 : (Bd c m.take (Ac c m)).2 = 0)
 rw [e]
 refine ⟨rfl, a, ?_⟩
 unfold B9
 rw [b, Bool.and_true]
 refine decide_eq_true ?_
 show ((Bp c m.take ++ Ac c m).length : Int) ≤ 12
 omega
theorem Sa {c : List Col} {ms : List Mov} {k : Nat} {m : Mov} (hk : ms[k]? = some m) (hm : Cn m = true) (ht : (Az (colsAt c ms k) m).2 = 0) (h : (Aq c ms k).length = (colsAt c ms k).length) (he : ((Bu (colsAt c ms k) (Aq c ms k) m.ahead).2 != 0) = false) : (Aq c ms (k + 1)).length = (colsAt c ms (k + 1)).length := by
 rw [Aq, Ea hk, hk]
 show (Bx _ _ _ ++ _).length = _
 rw [(S9 ht).1, List.length_append, List.length_append, E8, G4 h.symm, Gf _ (by simpa using he), (E7 (Od hm)).1]
/-! The text. -/
def Jo (t : List Expr × Int) (i : Nat) : Str := if t.2 == 0 then (if (Gn (t.1.getD i Aa)).2 == 0 then (Gn (t.1.getD i Aa)).1 else [63]) else [63]
def Jp (t : List Expr × Int) (i : Nat) (y : Col) : Str := [9] ++ y.name ++ [32, 61, 32] ++ Jo t i ++ [10]
def Cl (t : List Expr × Int) (d : List Col) : Nat → Str
 | 0 => []
 | k + 1 => Cl t d k ++ match d[k]? with | some y => Jp t k y | none => []
theorem Sb {t : List Expr × Int} {d : List Col} {k : Nat} {y : Col} (h : d[k]? = some y) : Cl t d (k + 1) = Cl t d k ++ Jp t k y := by rw [Cl, h]
def F9 (d : List Col) : Str := if decide ((0 : Int) < (d.length : Int)) then [32] ++ D7 d else []
def Dy (t : List Expr × Int) (s : Stp) : Str := ((Bl s.kind ++ F9 s.cols) ++ [10]) ++ (if s.kind == 2 then Cl t s.cols s.cols.length else [])
def Bn (t : List Expr × Int) (p : List Stp) : Nat → Str
 | 0 => []
 | k + 1 => Bn t p k ++ match p[k]? with | some s => Dy t s | none => []
theorem bb {t : List Expr × Int} {p : List Stp} {k : Nat} {s : Stp} (h : p[k]? = some s) : Bn t p (k + 1) = Bn t p k ++ Dy t s := by rw [Bn, h]
/-- plan.Text. -/
def E1 (c : List Col) (l : List Mov) : Str × Int := if (A7 c l).2 != 0 then ([], (A7 c l).2) else (Bn (Ax c l) (A7 c l).1 (A7 c l).1.length, 0)
theorem Mv {n k : Nat} {o : Bool} {a : List Expr} {e : Expr} : Low n (.slice o k (a.map A6 ++ [.agg (Dn e)])) := by
 have := Mn (n := n) (k := k) (o := o) (a := a) (e := e)
 rwa [Bv] at this
theorem Ow {c : List Col} {t : List Expr} : ∀ {l : List Expr}, (∀ (j : Nat) (y : Expr), l[j]? = some y → ((D0 y c t).2 != 0) = false) → Bu c t l = (l.map (fun e => (D0 e c t).1), 0)
 | [], _ => rfl
 | x :: r, h => by
  have h1 := h 0 x rfl
  have ih := Ow (c := c) (t := t) (l := r) (fun j y hy => h (j + 1) y hy)
  rw [Bu, if_neg (by rw [h1]; simp), if_neg (by rw [ih]; simp), ih]
  rfl
theorem Ox {c : List Col} {t : List Expr} : ∀ {l : List Expr} {x : Nat} {y : Expr}, (∀ (j : Nat) (z : Expr), j < x → l[j]? = some z → ((D0 z c t).2 != 0) = false) → l[x]? = some y → ((D0 y c t).2 != 0) = true → Bu c t l = ([], (D0 y c t).2)
 | [], _, _, _, h, _ => by simp at h
 | a :: r, 0, y, h0, h, h1 => by
  have : a = y := by simpa using h
  subst this
  rw [Bu, if_pos h1]
 | a :: r, x + 1, y, h0, h, h1 => by
  have h2 := h0 0 a (by omega) rfl
  have ih := Ox (c := c) (t := t) (l := r) (x := x) (y := y) (fun j z hj hz => h0 (j + 1) z (by omega) hz) (by simpa using h) h1
  rw [Bu, if_neg (by rw [h2]; simp), if_pos (by rw [ih]; exact h1), ih]
theorem c62 (l : List Expr) (hl : l.length ≤ 1048576) (hlo : ∀ e ∈ l, okE 61 e) (c : List Col) (hc : OkCols c) (by_ : List Expr) (hbl : by_.length ≤ 1048576) (hbo : ∀ e ∈ by_, okE 61 e) (Hp : List AObj) : AFun Tryz.prog 62 [Bf l, A4 c, Bf by_] Hp (.tup [Bf (Bu c by_ l).1, A3 (Bu c by_ l).2]) := by
 refine ACall.body [.tmp 6, .tmp 7] [0, 1, 2] Tryz.func62 Tryz.ntmps62 (fun d => ?_)
 refine Z41 ?_;refine R.fin [0, 1, 2] ?_;refine Z0 ?_;refine R.fin [0, 1, 2, 8] ?_;refine Z18 ?_;refine R.nilSl 8 6 ?_;refine T0 ?_;refine R.fin [1, 2, 8, 13, 14, 15] ?_
 refine AW.loopC (α := Nat) (fun x => ⟨35, A2 1 (A4 c) (A2 2 (Bf by_) (A2 8 (.slice true 6 (((l.take x).map (fun e => (D0 e c by_).1)).map A6)) (A2 13 (Bf l) (A2 14 (A3 (l.length : Nat)) (A2 15 (A3 (x : Nat)) (fun _ => .any)))))), Hp, [], [], none⟩) (fun x => x ≤ l.length ∧ ∀ (j : Nat) (y : Expr), j < x → l[j]? = some y → ((D0 y c by_).2 != 0) = false) (fun x => l.length - x) (0) ⟨Nat.zero_le _, fun j y h => by omega⟩ (StLe.of_eq (by simp)) rfl (fun x hx => ?_)
 refine Z44 ?_;refine R.fin [1, 2, 8, 13, 14, 15, 16] ?_
 refine W.condX (fun ht16 => ?_) (fun ht16 => ?_)
 ·have hlt : x < l.length := by simpa using ht16
  refine Z65 ?_;refine Y3 ?_;refine Z42 ?_;refine R.fin [1, 2, 8, 10, 13, 14, 15] ?_;refine Pe ?_;refine Jw ?_;refine R.call Tryz.call86 (c86 l[x] (hlo _ (List.getElem_mem hlt)) c hc by_ hbl hbo _) ?_;refine Z60 ?_;refine Z42 ?_;refine B6 ?_;refine R.fin [1, 2, 8, 11, 12, 13, 14, 15] ?_;refine Gp ?_;refine R.fin [1, 2, 8, 11, 12, 13, 14, 15, 27] ?_
  refine W.cond (fun ht27 => ?_) (fun ht27 => ?_)
  ·have hm := Ox hx.2 (List.getElem?_eq_getElem hlt) ht27
   refine Z36 ?_;refine R.nilTmp 6 6 false ?_;refine Z76 ?_;refine K.thR ?_;exact gr
  refine Z5 ?_;refine N6 ?_;refine co ?_
  refine R.append jU Tryz.type60 ?_ ?_ ?_
  ·simp only [List.length_map, List.length_take, List.length_cons, List.length_nil, Tryz.t60]; omega
  ·simp only [List.length_map, List.length_take, List.length_cons, List.length_nil, Tryz.t60]; omega
  refine R.assignT ?_;refine R.fin [1, 2, 8, 13, 14, 15] ?_;refine Ih ?_;refine R.fin [1, 2, 8, 13, 14, 15] ?_;refine K.lpN (x + 1) ⟨hlt, An hlt hx.2 ht27⟩ (by omega) ?_
  rw [Fv hlt, List.map_append]
  rw [List.map_cons, List.map_nil, Bv]
  simp only [show Tryz.t60.size = 6 from rfl]
  exact StCut.take (own := []) (fun _ => .refl _) (by repeat (first | exact Aj | refine Ai (by first | (simp [or_imp, forall_and]; done) | exact Mv | exact Ci | exact Bm) ?_)) (by simp) (by simp)
 have hxe : l.length ≤ x := by simpa using ht16
 have hm : Bu c by_ l = (l.map (fun e => (D0 e c by_).1), 0) := Ow fun j y hy => hx.2 j y (by have := (List.getElem?_eq_some_iff.1 hy).1; omega) hy
 refine Z29 ?_;refine Z1 ?_;refine Z7 ?_;refine Z46 ?_;exact K.fin (V.two V.tmp V.tmp) ⟨by rw [hm, List.take_of_length_le hxe], rfl⟩ (hlow := by simp only [L3, List.mem_cons, List.mem_nil_iff, or_false]; rintro y (rfl | rfl); exact Ci; simp)

theorem c63 (m : Mov) (c : List Col) (l : List Expr) (Hp : List AObj) : AFun Tryz.prog 63 [F4 m, A4 c, Bf l] Hp (.fn (.func 87) [] [.ro [A4 c], .ro (F3 m), .ro [Bf l]]) := by
 refine ACall.body [.tmp 6] [0, 1, 2] Tryz.func63 Tryz.ntmps63 (fun d => ?_)
 refine Z28 ?_;refine R.boxRo ?_;refine Wa ?_;refine R.fin [3, 4, 5] ?_;refine B2 ?_;refine Yf ?_;exact kw

theorem Ub {take : List Str} {c : List Col} {l : List Expr} {k : Nat} {y : Col} (hcl : c.length = l.length) (hy : c[k]? = some y) (h : take.contains y.name = true) : Bx take (c.take (k + 1)) (l.take (k + 1)) = Bx take (c.take k) (l.take k) := by
 induction c generalizing l k with
 | nil => simp at hy
 | cons a r ih =>
  cases l with
  | nil => simp at hcl
  | cons b s =>
   cases k with
   | zero =>
    have : a = y := by simpa using hy
    subst this
    simp only [List.take_succ_cons, List.take_zero]
    rw [Bx, if_pos h]
   | succ k =>
    have ih' := ih (l := s) (k := k) (by simpa using hcl) (by simpa using hy)
    rw [List.take_succ_cons, List.take_succ_cons, List.take_succ_cons, List.take_succ_cons, Bx, Bx, ih']
theorem bc {take : List Str} {c : List Col} {l : List Expr} {k : Nat} {y : Col} {e : Expr} (hcl : c.length = l.length) (hy : c[k]? = some y) (he : l[k]? = some e) (h : take.contains y.name = false) : Bx take (c.take (k + 1)) (l.take (k + 1)) = Bx take (c.take k) (l.take k) ++ [e] := by
 induction c generalizing l k with
 | nil => simp at hy
 | cons a r ih =>
  cases l with
  | nil => simp at hcl
  | cons b s =>
   cases k with
   | zero =>
    have h1 : a = y := by simpa using hy
    have h2 : b = e := by simpa using he
    subst h1
    subst h2
    simp only [List.take_succ_cons, List.take_zero]
    rw [Bx, if_neg (by rw [h]; simp)]
    rfl
   | succ k =>
    have ih' := ih (l := s) (k := k) (by simpa using hcl) (by simpa using hy) (by simpa using he)
    rw [List.take_succ_cons, List.take_succ_cons, List.take_succ_cons, List.take_succ_cons, Bx, Bx, ih']
    split <;> rfl
theorem Uc {n : Nat} {m : Mov} : Low n (.ro (F3 m)) := by
 refine .ro _ fun y hy => ?_
 simp only [List.mem_cons, List.mem_nil_iff, or_false] at hy
 rcases hy with rfl | rfl | rfl | rfl | rfl
 ·exact .v _
 ·exact Kc
 ·exact Bm
 ·exact Ci
 exact Ci
theorem c87 (l0 : Nat) (m : Mov) (c : List Col) (l : List Expr) (hc : c.length ≤ 1048576) (hcl : c.length = l.length) (ht : m.take.length ≤ 1048576) (U : Nat → List AObj) (hlen : ∀ k, (U k).length = (U 0).length) (hll : l0 < (U 0).length)
  (hlw : ∀ k, ∀ x ∈ U k, ObjLow (U 0).length x) (hn : ∀ k y, c[k]? = some y → m.take.contains y.name = true → U (k + 1) = U k)
  (hy : ∀ k y e X, c[k]? = some y → l[k]? = some e → m.take.contains y.name = false → AYield Tryz.prog l0 [A6 e] (U k ++ X) (fun b H' => b = true ∧ H' = U (k + 1) ++ X)) : ACall Tryz.prog 87 [.yield l0, .ro [A4 c], .ro (F3 m), .ro [Bf l]] (U 0) (fun _ H' => H' = U c.length) := by
 refine ACall.body [] [0, 1, 2, 3] Tryz.func87 Tryz.ntmps87 (fun d => ?_)
 refine W9 ?_;refine Z35 ?_;refine R.fin [0, 2, 3, 7, 8, 9] ?_
 refine AW.loopC (α := Nat) (fun x => ⟨30, A2 0 (.yield l0) (A2 2 (.ro (F3 m)) (A2 3 (.ro [Bf l]) (A2 7 (A4 c) (A2 8 (A3 (c.length : Nat)) (A2 9 (A3 (x : Nat)) (fun _ => .any)))))), U x, [], [], none⟩) (fun x => x ≤ c.length) (fun x => c.length - x) (0) (Nat.zero_le _) (StLe.of_eq (by simp)) rfl (fun x hx => ?_)
 refine Z44 ?_;refine R.fin [0, 2, 3, 7, 8, 9, 10] ?_
 refine W.condX (fun ht10 => ?_) (fun ht10 => ?_)
 ·have hlt : x < c.length := by simpa using ht10
  have hle : x < l.length := by omega
  refine L1 ?_;refine Z62 ?_;refine Sw ?_;refine R.fin [0, 2, 3, 5, 6, 7, 8, 9] ?_;refine B2 ?_;refine Z63 ?_;refine Z79 ?_;refine R.call Tryz.call88 (c88 m.take _ ht _) ?_;refine Pg ?_;refine Ii ?_;refine G.move ?_;refine G.indexAddr (x) (A6 l[x]) jU jS (fun _ => Ae hle) ?_;refine G.loadRoN jA jS ?_
  refine G.yield (l := l0) (C := ((!m.take.contains c[x].name) == true)) (args := [A6 l[x]]) (fun hC => hy x c[x] _ _ (List.getElem?_eq_getElem hlt) (List.getElem?_eq_getElem hle) (by simpa using hC)) ?_
  intro b V O hV hb hb0
  have hVO : V = U (x + 1) ∧ O = [AObj.cells 47 [A8 c[x].name, A3 c[x].kind]] ∧ (m.take.contains c[x].name = false → b = true) := by
   cases hcn : m.take.contains c[x].name with
   | true =>
    obtain ⟨h1, h2⟩ := hb0 (by rw [hcn]; rfl)
    exact ⟨h1.trans (hn x c[x] (List.getElem?_eq_getElem hlt) hcn).symm, h2, fun e => by cases e⟩
   | false =>
    obtain ⟨h1, h2⟩ := hb (by rw [hcn]; rfl)
    have h3 := List.append_inj h2 (by rw [hV, hlen x, hlen (x + 1)])
    exact ⟨h3.1, h3.2, fun _ => h1⟩
  obtain ⟨rfl, rfl, hbt⟩ := hVO
  refine ⟨fun _ => by rw [hlen (x + 1)]; exact hlw (x + 1), fun o ho => (by cases ho), ?_⟩
  refine Yo ?_;refine R.fin [0, 2, 3, 7, 8, 9, 28] ?_
  refine W.cond (fun ht28 => ?_) (fun ht28 => ?_)
  ·exfalso
   have hcf : m.take.contains c[x].name = false := by simp at ht28 ⊢; exact ht28.1
   rw [hbt hcf] at ht28
   simp at ht28
  refine Hx ?_;refine R.fin [0, 2, 3, 7, 8, 9] ?_;refine Ng ?_
  exact StCut.take (own := []) (fun _ => .refl _) (by repeat (first | exact Aj | refine Ai (by first | (simp [or_imp, forall_and]; done) | exact Uc | (simp [or_imp, forall_and, As]; done) | (have := hlen (x + 1); simp; omega)) ?_)) (by simp) (by simp)
 have hxe : x = c.length := by simp at ht10; omega
 exact i6

/-! ONE LINE EACH. -/
def lf (s : Str) : Nat := s.count 10
theorem Hh (a b : Str) : lf (a ++ b) = lf a + lf b := List.count_append
theorem Sc {t : List Expr × Int} {d : List Col} : ∀ k, k ≤ d.length → k ≤ lf (Cl t d k)
 | 0, _ => Nat.zero_le _
 | k + 1, h => by
  have ih := Sc (t := t) (d := d) k (by omega)
  rw [Sb (List.getElem?_eq_getElem (by omega)), Hh]
  have : 1 ≤ lf (Jp t k d[k]) := by
   unfold Jp
   rw [Hh]
   have : lf ([10] : Str) = 1 := by decide
   omega
  omega
theorem Hw (t : List Expr × Int) (s : Stp) : 1 ≤ lf (Dy t s) := by
 unfold Dy
 rw [Hh, Hh]
 have : lf ([10] : Str) = 1 := by decide
 omega
theorem ff (t : List Expr × Int) (d : List Col) : 1 + d.length ≤ lf (Dy t ⟨2, d⟩) := by
 unfold Dy
 rw [Hh, Hh]
 have : lf ([10] : Str) = 1 := by decide
 have h2 := Sc (t := t) (d := d) d.length (Nat.le_refl _)
 have h3 : (if ((⟨2, d⟩ : Stp).kind == 2) = true then Cl t d d.length else []) = Cl t d d.length := if_pos rfl
 rw [h3]
 omega
theorem fg (t : List Expr × Int) (a d b e f g h : List Col) : 7 + d.length ≤ lf (Bn t [⟨1, a⟩, ⟨2, d⟩, ⟨3, b⟩, ⟨4, e⟩, ⟨5, f⟩, ⟨6, g⟩, ⟨7, h⟩] 7) := by
 have eq : Bn t [⟨1, a⟩, ⟨2, d⟩, ⟨3, b⟩, ⟨4, e⟩, ⟨5, f⟩, ⟨6, g⟩, ⟨7, h⟩] 7 = ((((((([] ++ Dy t ⟨1, a⟩) ++ Dy t ⟨2, d⟩) ++ Dy t ⟨3, b⟩) ++ Dy t ⟨4, e⟩) ++ Dy t ⟨5, f⟩) ++ Dy t ⟨6, g⟩) ++ Dy t ⟨7, h⟩) := rfl
 rw [eq]
 simp only [Hh]
 have h1 := Hw t ⟨1, a⟩
 have h2 := ff t d
 have h3 := Hw t ⟨3, b⟩
 have h4 := Hw t ⟨4, e⟩
 have h5 := Hw t ⟨5, f⟩
 have h6 := Hw t ⟨6, g⟩
 have h7 := Hw t ⟨7, h⟩
 omega
/-- Both schemas differ in what comes and goes. -/
theorem Ud {a b : List Col} (ha : a.Nodup) (hb : b.Nodup) : a.length + (Cf b a).length = b.length + (Cf a b).length := by
 have h1 := List.length_eq_countP_add_countP (fun y => b.contains y) (l := a)
 have h2 := List.length_eq_countP_add_countP (fun y => a.contains y) (l := b)
 have h3 : (a.filter fun y => b.contains y).length = (b.filter fun y => a.contains y).length := by
  refine List.Perm.length_eq ((List.perm_ext_iff_of_nodup (List.filter_sublist.nodup ha) (List.filter_sublist.nodup hb)).2 fun y => ?_)
  simp only [List.mem_filter, List.contains_iff_mem]
  exact And.comm
 have h4 : List.countP (fun y => decide ¬(b.contains y) = true) a = (Cf a b).length := by
  rw [List.countP_eq_length_filter]
  unfold Cf
  congr 2
  funext y
  cases b.contains y <;> rfl
 have h5 : List.countP (fun y => decide ¬(a.contains y) = true) b = (Cf b a).length := by
  rw [List.countP_eq_length_filter]
  unfold Cf
  congr 2
  funext y
  cases a.contains y <;> rfl
 rw [h4, List.countP_eq_length_filter] at h1
 rw [h5, List.countP_eq_length_filter] at h2
 omega
theorem Sd {c : List Col} (h : (c.map (·.name)).Nodup) : c.Nodup := by
 induction c with
 | nil => exact List.nodup_nil
 | cons y r ih =>
  rw [List.map_cons, List.nodup_cons] at h
  rw [List.nodup_cons]
  exact ⟨fun hy => h.1 (List.mem_map_of_mem hy), ih h.2⟩
theorem Kr {c : List Col} (h : B9 c = true) : c.Nodup := Sd (Zn (by rw [H9]; exact h)).2.2
theorem Ue {c : List Col} {ms : List Mov} (he : (B1 c ms).2 = 0) : ∀ k, k ≤ ms.length → NS c ms k
 | 0, _ => jn
 | k + 1, h => by
  have ih := Ue he k (by omega)
  have hk : ms[k]? = some ms[k] := List.getElem?_eq_getElem (by omega)
  by_cases ht : (Az (colsAt c ms k) ms[k]).2 = 0
  ·exact Q3 hk ih ht
  exact absurd ((U5 hk ih ht).symm.trans he) ht
theorem Q4 {c : List Col} {ms : List Mov} (he : (B1 c ms).2 = 0) {k : Nat} {m : Mov} (hk : ms[k]? = some m) : (Az (colsAt c ms k) m).2 = 0 := by
 have hl := (List.getElem?_eq_some_iff.1 hk).1
 by_cases ht : (Az (colsAt c ms k) m).2 = 0
 ·exact ht
 exact absurd ((U5 hk (Ue he k (by omega)) ht).symm.trans he) ht
theorem Mw {c : List Col} {ms : List Mov} : ∀ {n k : Nat}, k ≤ n → (Ba c ms n)[k]? = some (colsAt c ms k)
 | 0, k, h => by
  have : k = 0 := by omega
  subst this; rfl
 | n + 1, k, h => by
  have hl := Ei c ms n
  rw [Ba]
  by_cases e : k = n + 1
  ·subst e
   rw [List.getElem?_append_right (by omega), hl, Nat.sub_self]
   rfl
  rw [List.getElem?_append_left (by omega)]
  exact Mw (by omega)
theorem Oy {c : List Col} {ms : List Mov} (h : Ge c ms = true) : ∀ m ∈ ms, Cn m = true := by
 unfold Ge Gs at h
 simp only [Bool.and_eq_true, List.all_eq_true] at h
 exact h.2.2
theorem Jq {c : List Col} {ms : List Mov} (hc : B9 c = true) (he : (B1 c ms).2 = 0) : ∀ k, B9 (colsAt c ms k) = true
 | 0 => hc
 | k + 1 => by
  cases hk : ms[k]? with
  | none =>
   rw [colsAt, hk]
   exact Jq hc he k
  | some m =>
   rw [Ea hk]
   exact (S9 (Q4 he hk)).2.2
/-- What a sound migration comes to. -/
theorem Gg {c : List Col} {ms : List Mov} (h : ((At c ms).2 != 0) = false) : Ge c ms = true ∧ (B1 c ms).2 = 0 ∧ At c ms = (Ba c ms ms.length, 0) := by
 cases hm : Ge c ms with
 | false => rw [Og hm] at h; cases h
 | true =>
  by_cases he : (B1 c ms).2 = 0
  ·have e := U6 (Ue he ms.length (Nat.le_refl _))
   exact ⟨rfl, he, Oh hm e⟩
  rw [Ml hm he] at h
  exact absurd (by simpa using h) he
theorem Kg {c : List Col} {ms : List Mov} (h : ((At c ms).2 != 0) = false) : C8 c ms = (colsAt c ms ms.length, 0) := by
 obtain ⟨_, _, e⟩ := Gg h
 unfold C8
 rw [if_neg (by rw [h]; simp), e]
 show ((Ba c ms ms.length).getLastD [], _) = _
 rw [List.getLastD_eq_getLast?, List.getLast?_eq_getElem?, Ei]
 have := Mw (c := c) (ms := ms) (n := ms.length) (Nat.le_refl _)
 rw [show ms.length + 1 - 1 = ms.length from rfl, this]
 rfl
theorem be {n : Nat} {m : Mov} {t : TypeId} : ObjLow n (.cells t (F3 m)) := Px
theorem bf {c : List Col} {l : List Mov} (h : ((At c l).2 != 0) = true) : Ax c l = ([], 1) := if_pos h
theorem Xc {c : List Col} {l : List Mov} (h : ((At c l).2 != 0) = false) : Ax c l = El c (Ke c) l := if_neg (by rw [h]; simp)
theorem bg {c : List Col} {ms : List Mov} {k : Nat} {m : Mov} (h : ms[k]? = some m) : Bf (Aq c ms (k + 1)) = .slice false 6 ((Bx m.take (colsAt c ms k) (Aq c ms k)).map A6 ++ (Bu (colsAt c ms k) (Aq c ms k) m.ahead).1.map A6) := by
 rw [Aq, h, ← List.map_append]
theorem c43 (c : List Col) (hc : OkCols c) (hc2 : c.length ≤ 1000000) (l : List Mov) (h : OkMovs l) (Hp : List AObj) : AFun Tryz.prog 43 [A4 c, C0 l] Hp (.tup [Bf (Ax c l).1, A3 (Ax c l).2]) := by
 refine ACall.body [.tmp 4, .tmp 5] [0, 1] Tryz.func43 Tryz.ntmps43 (fun d => ?_)
 refine T3 ?_;refine R.call Tryz.call56 (c56 c hc hc2 l h _) ?_;refine Z96 ?_;refine R.fin [0, 1, 6, 7] ?_;refine Gp ?_;refine R.fin [0, 1, 6, 22] ?_
 refine W.cond (fun ht22 => ?_) (fun ht22 => ?_)
 ·have hm := bf ht22
  refine Z0 ?_;refine R.nilTmp 4 6 false ?_;refine B6 ?_;exact Z50
 have hm := Xc ht22
 obtain ⟨hmay, hst, hss⟩ := Gg ht22
 have hmvo := Oy hmay
 rw [hss]
 refine Jv ?_;refine R.call Tryz.call61 (c61 c (by omega) _) ?_;refine B6 ?_;refine R.fin [1, 6, 8] ?_;refine N8 ?_;refine R.fin [6, 8, 25, 26, 27] ?_
 refine AW.loopG (α := Nat × List AObj × List Nat) (fun s => ⟨65, A2 6 (U7 (Ba c l l.length)) (A2 8 (Bf (Aq c l s.1)) (A2 25 (C0 l) (A2 26 (A3 (l.length : Nat)) (A2 27 (A3 (s.1 : Nat)) (fun _ => .any))))), Hp, s.2.1, s.2.2, none⟩) (fun s => s.1 ≤ l.length ∧ Fi c l s.1 ∧ TOk (Aq c l s.1) ∧ (Aq c l s.1).length = (colsAt c l s.1).length ∧ (∀ x ∈ s.2.1, ObjLow (Hp.length + s.2.1.length) x) ∧ ∀ o ∈ s.2.2, (Hp ++ s.2.1)[o]? = some .defs) (fun s => l.length - s.1) ((0, [], [])) ⟨Nat.zero_le _, nk, ba hc, by simp [Aq, Ke, colsAt], (fun x hx => (List.not_mem_nil hx).elim), fun o ho => (List.not_mem_nil ho).elim⟩ (StLe.of_eq (by simp [Aq])) rfl (fun s hs => ?_)
 obtain ⟨k, O, Df⟩ := s
 obtain ⟨hk0, hnf, hTo, hTl, hOo, hDo⟩ := hs
 dsimp only at hk0 hnf hTo hTl hOo hDo ⊢
 refine Z44 ?_;refine R.fin [6, 8, 25, 26, 27, 28] ?_
 refine W.condX (fun ht28 => ?_) (fun ht28 => ?_)
 ·have hlt : k < l.length := by simpa using ht28
  have hll := h.len
  have hmk : l[k]? = some l[k] := List.getElem?_eq_getElem hlt
  have hmo := h.each _ (List.getElem_mem hlt)
  have hCo := Fx hc (fun m hm => h.each m hm) k
  refine L1 ?_;refine R.indexAddr (k) (F4 l[k]) jU jS (Ae hlt) ?_;refine E0 ?_;refine R.alloc (n := O.length) (ho := rfl) jZ ?_;refine B6 ?_
  refine R.storeOwn (n := O.length + 0) (ho := oat.trans rfl) (hset := by rw [W1] <;> simp only [List.set_cons_succ, List.set_cons_zero] <;> rfl) jS ?_
  refine R.fin [6, 8, 9, 10, 25, 26, 27] ?_;refine W.draw [0, 1, 0, 0, 12, 28, 0, 127, 255, 511, 511, 1023, 4095] 12 Am (by kernel_rfl) ?_;refine D.fieldAddrPtr (fo := 3) jU Tryz.sizeOf53 ?_;refine D.loadOwn (n := O.length + 0) (ho := oat.trans rfl) jA ?_;refine lz ?_;refine Z92 ?_
  refine D.call Tryz.call62 (c62 l[k].ahead hmo.ahead.len hmo.ahead.ok (colsAt c l k) hCo (Aq c l k) (by have := hCo.1; omega) hTo.ok _) ?_
  refine D.move ?_;refine D.extract ?_;refine D.extract ?_;refine Wd ?_;refine R.fin [6, 8, 9, 10, 11, 12, 25, 26, 27] ?_;refine Gp ?_;refine R.fin [6, 8, 9, 10, 11, 12, 25, 26, 27, 44] ?_
  refine W.cond (fun ht44 => ?_) (fun ht44 => ?_)
  ·have hm2 := b7 hmk hnf ht44
   refine Z36 ?_;refine R.nilTmp 4 6 false ?_;refine B6 ?_;refine Z47 ?_;refine Z4 ?_;refine K.lgR ?_;refine K.thR ?_;exact K.fin (V.two V.tmp V.tmp) ⟨by rw [hm, hm2] <;> rfl, rfl⟩
  refine Ig ?_
  refine R.alloc (n := O.length + 1) (hn := by simp) (ho := by simp only [List.append_assoc, List.cons_append, List.nil_append] <;> rfl) jZ ?_
  refine R.nilOwn (O.length + 1) 6 ?_ (ho := oat.trans rfl) (hset := by rw [W1] <;> simp only [List.set_cons_succ, List.set_cons_zero] <;> rfl)
  refine R.assumeLow (fun hlow => ?_)
  refine R.fin [6, 8, 9, 10, 11, 13, 25, 26, 27] ?_;refine W.seq ?_;refine W.draw [0, 0, 0, 6, 14, 0, 63] 6 Am (by kernel_rfl) ?_;refine D.loadOwnN (n := O.length + 0) (ho := oat.trans rfl) jA jS ?_;refine lz ?_;refine Z92 ?_;refine D.tail ?_;refine R.call Tryz.call63 (c63 l[k] (colsAt c l k) (Aq c l k) _) ?_;refine R.fin [6, 11, 13, 25, 26, 27, 52] ?_;refine AW.block ?_
  refine W.rangeV (m := O.length + 2) (hm := by simp) (ha := rfl) Tryz.call87 (fun FR as' bd' hFR has hbd => ?_)
  generalize hCd : colsAt c l k = C at *
  generalize hTd : Aq c l k = T at *
  generalize hmd : l[k] = m at *
  have hFRl : ∀ s, Low (Hp.length + (O.length + 4)) (FR s) := by
   intro s
   rw [hFR]
   refine Low.strip ?_
   revert s
   repeat (first | exact Aj | refine Ai (by first | exact Ci | exact Fy | exact Jj | (simp [oid, or_imp, forall_and, As]; done) | (simp [oid, or_imp, forall_and] <;> try omega)) ?_)
  have hstl : ∀ q, (Bx m.take (C.take q) (T.take q)).length ≤ 1048576 := fun q => by
   have h1 := G4 (take := m.take) (c := C.take q) (l := T.take q) (by simp [hTl])
   have h2 := Ct (C.take q) m.take
   have h3 := hCo.1
   rw [List.length_take] at h2
   omega
  have hOl : ∀ {j : Nat} {o : Bool} {lp : AObj}, ObjLow (Hp.length + (O.length + 4)) lp → ∀ x ∈ O ++ [AObj.cells 55 (F3 m), AObj.cells 53 [AV.slice o 6 ((Bx m.take (C.take j) (T.take j)).map A6)], AObj.defs, lp], ObjLow (Hp.length + (O.length + 4)) x := by
   intro j o lp hlp x hx
   rcases List.mem_append.1 hx with hx | hx
   ·exact ObjLow.le (by omega) (hOo x hx)
   simp only [List.mem_cons, List.mem_nil_iff, or_false] at hx
   rcases hx with rfl | rfl | rfl | rfl
   ·exact be
   ·intro y hy
    rw [List.mem_singleton.1 hy]
    exact Ci
   ·trivial
   exact hlp
  refine ⟨_, ACall.heapEq (by rw [List.append_assoc]; rfl) (c87 (oid Hp.length (O.length + 3)) m C T hCo.1 hTl.symm hmo.takes (fun j => Hp ++ (O ++ [AObj.cells 55 (F3 m), AObj.cells 53 [AV.slice true 6 ((Bx m.take (C.take j) (T.take j)).map A6)], AObj.defs, AObj.loop LoopState.ready none FR 65 #[53] as' bd' (oid Hp.length (O.length + 2))])) (fun j => by simp) (by simp [oid]) (fun j x hx => ?_) (fun j y hk hcn => by simp only [Ub hTl.symm hk hcn]) (fun q y e X hk hke hcn => ?_)), ?_⟩
  ·have := Fd (fun x hx => ObjLow.le (by omega) (hlow x hx)) (hOl (o := true) (lp := AObj.loop LoopState.ready none FR 65 #[53] as' bd' (oid Hp.length (O.length + 2))) ⟨hFRl, by simp [oid]⟩) x hx
   simpa using this
  ·generalize hV : Hp ++ (O ++ [AObj.cells 55 (F3 m), AObj.cells 53 [AV.slice true 6 ((Bx m.take (C.take q) (T.take q)).map A6)], AObj.defs, AObj.loop LoopState.ready none FR 65 #[53] as' bd' (oid Hp.length (O.length + 2))]) ++ X = V
   have hL : V[(oid Hp.length (O.length + 3))]? = some (AObj.loop LoopState.ready none FR 65 #[53] as' bd' (oid Hp.length (O.length + 2))) := by rw [← hV, List.append_assoc, List.append_assoc, J5]; rfl
   have hA0 : V[(oid Hp.length (O.length + 1))]? = some (AObj.cells 53 [AV.slice true 6 ((Bx m.take (C.take q) (T.take q)).map A6)]) := by rw [← hV, List.append_assoc, List.append_assoc, J5]; rfl
   refine AYield.ofRound (pd := none) (fr := FR) (sz := 65) (ps := #[53]) (df := (oid Hp.length (O.length + 2))) (asg := as') (bd := bd') hL rfl (by decide) (fun d => ?_)
   subst hFR has hbd
   refine W.keep [13, 53] ?_;refine Gq ?_;refine Z42 ?_;refine R.fin [13, 14] ?_
   refine ⟨rfl, none, hL, ?_⟩
   generalize hbz : (AObj.loop LoopState.busy _ _ _ _ _ _ _) = bz
   have hA : (V.set (oid Hp.length (O.length + 3)) bz)[(oid Hp.length (O.length + 1))]? = some (AObj.cells 53 [AV.slice true 6 ((Bx m.take (C.take q) (T.take q)).map A6)]) := by rw [List.getElem?_set_ne (Cc (by omega))]; exact hA0
   refine AW.block ?_
   refine W.drawT0 [0, 0, 1, 0, 15, 31, 63, 31] [0] [.s [54] (some 0) [] [], .q 3 [] []] (fun B => (V.set (oid Hp.length (O.length + 3)) bz).set (oid Hp.length (O.length + 1)) (if B 0 = true then AObj.cells 53 [AV.slice false 6 ((Bx m.take (C.take q) (T.take q)).map A6)] else AObj.cells 53 [AV.slice true 6 ((Bx m.take (C.take q) (T.take q)).map A6)])) (fun _ => [.cells 60 (Dn e)]) Am (by kernel_rfl) (by simp only [Bool.false_eq_true, if_false]; exact Xw hA) rfl (fun B => by simp) ?_
   refine Y.loadUpT (o := (oid Hp.length (O.length + 1))) (t' := 53) (cs := [.slice true 6 ((Bx m.take (C.take q) (T.take q)).map A6)]) (cs' := [.slice false 6 ((Bx m.take (C.take q) (T.take q)).map A6)]) Tryz.isAgg53 (fun B hB => ⟨by simp only [hB]; exact Ao hA, by simp only [upd, if_true, List.set_set], rfl⟩) ?_
   apply Y.q
   case h1 =>
    intro B hT hF
    refine D.loadOwnN jA jS ?_;refine D.len jU ?_;exact m0
   case hTF => decide
   refine Y.appendPut3 (tn := [0]) (U := (V.set (oid Hp.length (O.length + 3)) bz).set (oid Hp.length (O.length + 1)) (AObj.cells 53 [AV.slice false 6 ((Bx m.take (C.take q) (T.take q)).map A6)])) (O := [.cells 60 (Dn e)]) (o := (oid Hp.length (O.length + 1))) (t' := 53) (cs := [.slice false 6 ((Bx m.take (C.take q) (T.take q)).map A6)]) (by kernel_rfl) jU Tryz.type60 Tryz.sizeOf60 Tryz.sizeOf53 (Ar (Ao hA)) ?_ ?_ ?_
   ·have := hstl q; simp [Tryz.t60]; omega
   ·have := hstl q; simp [Tryz.t60]; omega
   refine R.storeUpT jS (Ao hA) ?_ ?_
   ·exact Mv
   refine Yp ?_
   subst hbz
   refine K.rdN (Qp hL (Cc (by omega)) (Cc (by omega))) ?_
   refine ⟨rfl, ?_⟩
   subst hV
   simp only [List.append_assoc, Xz, List.cons_append, List.nil_append, List.set_cons_succ, List.set_cons_zero]
   rw [bc hTl.symm hk hke hcn, List.map_append, List.map_cons, List.map_nil, Bv]
  rintro r H' rfl
  simp only [List.take_length, hTl ▸ List.take_length]
  refine ⟨Hp, _, _, _, rfl, rfl, fun h => h, ?_, (oat (i := 3)).trans rfl, by simp, ?_⟩
  ·intro o ho
   rcases List.mem_cons.1 ho with rfl | ho
   ·rw [J5]
    rfl
   rw [← List.append_assoc]
   exact Ar (hDo o ho)
  refine Z6 ?_;refine Gq ?_
  refine ARun.ownEq (O ++ [AObj.cells 55 (F3 m), AObj.cells 53 [AV.slice true 6 ((Bx m.take C T).map A6)], AObj.defs, AObj.loop LoopState.exhausted none FR 65 #[53] as' bd' (oid Hp.length (O.length + 2))]) (by rw [show O.length + 2 + 1 = O.length + 3 from rfl, W1] <;> rfl) ?_
  refine R.loadOwnT (n := O.length + 1) (ho := oat.trans rfl) (hset := by rw [W1] <;> simp only [List.set_cons_succ, List.set_cons_zero] <;> rfl) jA ?_
  refine Ap ?_
  refine R.append jU Tryz.type60 ?_ ?_ ?_
  ·have h1 := G4 (take := m.take) hTl.symm; have h2 := Ct C m.take; have h3 := hCo.1; have h4 := Gf (c := C) (by_ := T) m.ahead (by simpa using ht44); have h5 := hmo.ahead.len; simp only [List.length_map, Tryz.t60]; omega
  ·have h1 := G4 (take := m.take) hTl.symm; have h2 := Ct C m.take; have h3 := hCo.1; have h4 := Gf (c := C) (by_ := T) m.ahead (by simpa using ht44); have h5 := hmo.ahead.len; simp only [List.length_map, Tryz.t60]; omega
  refine R.wk 62 _ (.strip true 6 _) ?_;refine B6 ?_;refine R.fin [6, 8, 25, 26, 27] ?_;refine Ih ?_;refine R.fin [6, 8, 25, 26, 27] ?_
  have hlp : ObjLow (Hp.length + (O.length + 4)) (AObj.loop LoopState.exhausted none FR 65 #[53] as' bd' (oid Hp.length (O.length + 2))) := ⟨hFRl, by simp [oid]⟩
  have hOn := hOl (j := C.length) (o := false) hlp
  have hse : Bx m.take (C.take C.length) (T.take C.length) = Bx m.take C T := by rw [List.take_length, List.take_of_length_le (by omega)]
  rw [hse] at hOn
  refine K.lgN (k + 1, O ++ [AObj.cells 55 (F3 m), AObj.cells 53 [AV.slice false 6 ((Bx m.take C T).map A6)], AObj.defs, AObj.loop LoopState.exhausted none FR 65 #[53] as' bd' (oid Hp.length (O.length + 2))], (oid Hp.length (O.length + 2)) :: Df) ⟨hlt, ?_, ?_, ?_, ?_, ?_⟩ (by dsimp only; omega) (StCut.of_eq ?_) (by simp)
  ·subst hCd hTd hmd; exact Vc hmk hnf ht44
  ·subst hCd hTd hmd; exact Vd hmk hmo hTo ht44
  ·subst hCd hTd hmd; exact Sa hmk (hmvo _ (List.getElem_mem hlt)) (Q4 hst hmk) hTl ht44
  ·simpa using hOn
  ·intro o ho
   rcases List.mem_cons.1 ho with rfl | ho
   ·dsimp only; rw [J5]; rfl
   dsimp only; rw [← List.append_assoc]; exact Ar (hDo o ho)
  dsimp only
  rw [bg hmk, hCd, hTd]
  rfl
 have hke : k = l.length := by simp at ht28; omega
 subst hke
 have hm2 := b8 hnf
 refine K.lgE ?_;refine K.thN ?_;refine Z1 ?_;refine Z77 ?_;exact K.fin (V.two V.tmp V.tmp) ⟨by rw [hm, hm2], rfl⟩ (hlow := by simp only [L3, List.mem_cons, List.mem_nil_iff, or_false]; rintro y (rfl | rfl); exact Ci; simp)

/-! How long plan.Text's pieces are. -/
theorem Oz (t : List Expr × Int) (i : Nat) : (Jo t i).length ≤ 4000 := by
 have h1 : ∀ e : Expr, (Gn e).1.length ≤ 4000 := fun e => by
  unfold Gn
  split
  ·exact T6
  split
  ·exact T6
  rename_i h
  have : (A9 e).length ≤ 4000 := by simp at h; omega
  exact this
 unfold Jo
 split
 ·split
  ·exact h1 _
  decide
 decide
theorem P0 {t : List Expr × Int} {i : Nat} {y : Col} (h : y.name.length ≤ 1048576) : (Jp t i y).length ≤ 1052600 := by
 have := Oz t i
 unfold Jp
 simp only [List.length_append, List.length_cons, List.length_nil]
 omega
theorem Mx {t : List Expr × Int} {d : List Col} (hd : OkCols d) : ∀ k, (Cl t d k).length ≤ k * 1052600
 | 0 => by simp [Cl]
 | k + 1 => by
  have ih := Mx (t := t) hd k
  rw [Cl, List.length_append]
  cases hk : d[k]? with
  | none =>
   exact mf
  | some y =>
   have := P0 (t := t) (i := k) (hd.2 y (List.mem_of_getElem? hk))
   simp only
   omega
theorem G5 {d : List Col} (hd : OkCols d) : (D7 d).length ≤ 12583200 := by
 unfold D7
 split
 ·rename_i h
  have h12 : d.length ≤ 12 := by unfold Fg at h; simp at h; omega
  have := O4 hd d.length
  rw [List.take_length] at this
  have h2 : d.length * 1048600 ≤ 12 * 1048600 := Nat.mul_le_mul_right _ h12
  omega
 exact T6
theorem G6 {d : List Col} (hd : OkCols d) : (F9 d).length ≤ 12583300 := by
 unfold F9
 split
 ·have := G5 hd
  simp only [List.length_append, List.length_cons, List.length_nil]
  omega
 exact T6
theorem Dz (k : Int) : (Bl k).length ≤ 10 := by
 unfold Bl
 split
 ·exact T6
 rename_i h
 have : ∀ j, j < 8 → (stepNames.getD j []).length ≤ 10 := by decide
 exact this _ (by simp at h; omega)
theorem P1 {t : List Expr × Int} {d : List Col} (hd : OkCols d) {k : Nat} (h : k ≤ d.length) : (Cl t d k).length ≤ 1103800000000 := by
 have h1 := Mx (t := t) hd k
 have h2 := hd.1
 omega
theorem Xd {t : List Expr × Int} {s : Stp} (hd : OkCols s.cols) : (Dy t s).length ≤ 1110000000000 := by
 have h1 := Dz s.kind
 have h2 := G6 hd
 have h3 := P1 (t := t) hd (Nat.le_refl _)
 have h4 : (if s.kind == 2 then Cl t s.cols s.cols.length else []).length ≤ 1103800000000 := by
  split
  ·exact h3
  exact T6
 unfold Dy
 simp only [List.length_append, List.length_cons, List.length_nil]
 omega
theorem Iv {t : List Expr × Int} {p : List Stp} (hp : ∀ s ∈ p, OkCols s.cols) : ∀ k, (Bn t p k).length ≤ k * 1110000000000
 | 0 => by simp [Bn]
 | k + 1 => by
  have ih := Iv (t := t) hp k
  rw [Bn, List.length_append]
  cases hk : p[k]? with
  | none =>
   exact mf
  | some s =>
   have := Xd (t := t) (hp s (List.mem_of_getElem? hk))
   simp only
   omega
theorem Ve {a b : List Col} (h : OkCols a) : OkCols (Cf a b) := by
 unfold Cf
 exact ⟨Nat.le_trans (List.length_filter_le _ _) h.1, fun y hy => h.2 y (List.mem_filter.1 hy).1⟩
theorem Vf {c : List Col} {l : List Mov} (hc : OkCols c) (h : OkMovs l) : (A7 c l).1.length ≤ 7 ∧ ∀ s ∈ (A7 c l).1, OkCols s.cols := by
 have h0 : OkCols ([] : List Col) := ⟨by decide, fun y hy => by cases hy⟩
 have hl := Jk hc h
 unfold A7
 split
 ·exact ⟨Nat.zero_le _, fun s hs => by cases hs⟩
 have e1 : OkCols (Au c l).1 ∧ OkCols (Au c l).2.1 ∧ OkCols (Au c l).2.2.1 := by
  unfold Au
  split
  ·exact ⟨h0, h0, h0⟩
  exact ⟨hl, Ve hc, Ve hl⟩
 refine ⟨Nat.le_refl _, fun s hs => ?_⟩
 simp only [List.mem_cons, List.mem_nil_iff, or_false] at hs
 rcases hs with rfl | rfl | rfl | rfl | rfl | rfl | rfl
 ·exact e1.2.2
 ·exact e1.1
 ·exact e1.2.2
 ·exact e1.2.2
 ·exact e1.1
 ·exact e1.2.1
 exact h0
/-- The trees forth are as many as the columns behind, and may be walked. -/
theorem Se {c : List Col} {l : List Mov} (hc : OkCols c) (h : OkMovs l) (hs : ((At c l).2 != 0) = false) : TOk (Ax c l).1 ∧ ((Ax c l).2 = 0 → (Ax c l).1.length = (C8 c l).1.length) := by
 obtain ⟨hmay, hst, _⟩ := Gg hs
 have hmv := Oy hmay
 have e : Ax c l = El c (Ke c) l := if_neg (by rw [hs]; simp)
 have key : ∀ k, k ≤ l.length → (Fi c l k ∧ TOk (Aq c l k) ∧ (Aq c l k).length = (colsAt c l k).length) ∨ (∃ z, z ≠ 0 ∧ El c (Ke c) l = ([], z)) := by
  intro k
  induction k with
  | zero => exact fun _ => .inl ⟨nk, ba hc, by simp [Aq, Ke, colsAt]⟩
  | succ k ih =>
   intro hk
   rcases ih (by omega) with ⟨h1, h2, h3⟩ | h1
   ·have hmk : l[k]? = some l[k] := List.getElem?_eq_getElem (by omega)
    cases he : ((Bu (colsAt c l k) (Aq c l k) l[k].ahead).2 != 0) with
    | true => exact .inr ⟨_, by simpa using he, b7 hmk h1 he⟩
    | false => exact .inl ⟨Vc hmk h1 he, Vd hmk (h.each _ (List.getElem_mem (by omega))) h2 he, Sa hmk (hmv _ (List.getElem_mem (by omega))) (Q4 hst hmk) h3 he⟩
   exact .inr h1
 rcases key l.length (Nat.le_refl _) with ⟨h1, h2, h3⟩ | ⟨z, hz, h1⟩
 ·rw [e, b8 h1, Kg hs]
  exact ⟨h2, fun _ => h3⟩
 rw [e, h1]
 exact ⟨⟨fun e h => (List.not_mem_nil h).elim, fun e h => (List.not_mem_nil h).elim⟩, fun h => absurd h hz⟩
theorem c23 (c : List Col) (l : List Mov) (q : List Col) (Hp : List AObj) : AFun Tryz.prog 23 [A4 c, C0 l, A4 q] Hp (.fn (.func 42) [] [.ro [A4 c], .ro [C0 l], .ro [A4 q]]) := by
 refine ACall.body [.tmp 6] [0, 1, 2] Tryz.func23 Tryz.ntmps23 (fun d => ?_)
 refine Z28 ?_;refine R.boxRo ?_;refine Wa ?_;refine R.fin [3, 4, 5] ?_;refine B2 ?_;refine Yf ?_;exact kw

theorem c42 (l0 : Nat) (c : List Col) (hc : OkCols c) (hc2 : c.length ≤ 1000000) (ms : List Mov) (h : OkMovs ms) (q : List Col) (hd : OkCols q) (F : List Expr × Int) (hF : Ax c ms = F) (hF1 : TOk F.1) (hF2 : F.2 = 0 → F.1.length = q.length) (U : Nat → List AObj) (hlen : ∀ k, (U k).length = (U 0).length) (hll : l0 < (U 0).length)
  (hlw : ∀ k, ∀ x ∈ U k, ObjLow (U 0).length x)
  (hy : ∀ k y X, q[k]? = some y → AYield Tryz.prog l0 [A8 (Jp F k y)] (U k ++ X) (fun b H' => b = true ∧ H' = U (k + 1) ++ X)) : ACall Tryz.prog 42 [.yield l0, .ro [A4 c], .ro [C0 ms], .ro [A4 q]] (U 0) (fun _ H' => H' = U q.length) := by
 refine ACall.body [] [0, 1, 2, 3] Tryz.func42 Tryz.ntmps42 (fun d => ?_)
 refine W9 ?_;refine Dr ?_;refine R.call Tryz.call43 (c43 c hc hc2 ms h _) ?_
 rw [hF]
 refine Z96 ?_;refine R.fin [0, 3, 5, 6] ?_;refine W9 ?_;refine Z35 ?_;refine R.fin [0, 5, 6, 18, 19, 20] ?_
 refine AW.loopC (α := Nat) (fun x => ⟨49, A2 0 (.yield l0) (A2 5 (Bf F.1) (A2 6 (A3 F.2) (A2 18 (A4 q) (A2 19 (A3 (q.length : Nat)) (A2 20 (A3 (x : Nat)) (fun _ => .any)))))), U x, [], [], none⟩) (fun x => x ≤ q.length) (fun x => q.length - x) (0) (Nat.zero_le _) (StLe.of_eq (by simp)) rfl (fun x hx => ?_)
 refine Z44 ?_;refine R.fin [0, 5, 6, 18, 19, 20, 21] ?_
 refine W.condX (fun ht21 => ?_) (fun ht21 => ?_)
 ·have hlt : x < q.length := by simpa using ht21
  have hnm := hd.2 q[x] (List.getElem_mem hlt)
  have htl := Oz F x
  have hql := hd.1
  refine L1 ?_;refine R.indexAddr (x) (B3 q[x]) jU jS (Ae hlt) ?_;refine E0 ?_;refine Sw ?_;refine R.fin [0, 5, 6, 7, 8, 18, 19, 20] ?_;refine Z0 ?_;refine R.fin [0, 5, 6, 7, 8, 9, 18, 19, 20] ?_
  refine W.join ⟨49, A2 0 (.yield l0) (A2 5 (Bf F.1) (A2 6 (A3 F.2) (A2 8 (.ptr (oid (U x).length 0) 0) (A2 9 (A8 (Jo F x)) (A2 18 (A4 q) (A2 19 (A3 (q.length : Nat)) (A2 20 (A3 (x : Nat)) (fun _ => .any)))))))), (U x), [.cells 47 [A8 q[x].name, A3 q[x].kind]], [], none⟩ ?_ ?_
  ·refine J8 ?_;refine R.fin [0, 5, 6, 7, 8, 9, 18, 19, 20, 26] ?_
   refine W.cond (fun ht26 => ?_) (fun ht26 => ?_)
   ·have hle : x < F.1.length := by rw [hF2 (by simpa using ht26)]; exact hlt
    have hge : F.1.getD x Aa = F.1[x] := by rw [List.getD_eq_getElem?_getD, List.getElem?_eq_getElem hle]; rfl
    refine Z31 ?_;refine R.indexAddr (x) (A6 F.1[x]) jU jS (Ae hle) ?_;refine E0 ?_;refine R.call Tryz.call44 (c44 61 F.1[x] (hF1.ok _ (List.getElem_mem hle)) (by decide) (hF1.rng _ (List.getElem_mem hle)) _) ?_;refine Z96 ?_;refine R.fin [0, 5, 6, 8, 9, 10, 11, 18, 19, 20] ?_;refine J8 ?_;refine R.fin [0, 5, 6, 8, 9, 10, 18, 19, 20, 36] ?_
    refine W.cond (fun ht36 => ?_) (fun ht36 => ?_)
    ·have hs1 : Jo F x = (Gn F.1[x]).1 := by unfold Jo; rw [if_pos ht26, hge, if_pos ht36]
     refine Z14 ?_;refine B6 ?_;refine R.fin [0, 5, 6, 8, 9, 18, 19, 20] ?_;exact gz
    have hs1 : Jo F x = [63] := by unfold Jo; rw [if_pos ht26, hge, if_neg (by rw [ht36]; simp)]
    refine W.keep [0, 5, 6, 8, 9, 18, 19, 20] ?_;refine AW.skip ?_;exact gz
   have hs1 : Jo F x = [63] := if_neg (by rw [ht26]; simp)
   refine W.keep [0, 5, 6, 8, 9, 18, 19, 20] ?_;refine AW.skip ?_;exact gz
  refine Z1 ?_;refine Z79 ?_
  refine R.sadd (hl := by simp only [List.length_append, List.length_cons, List.length_nil]; omega) ?_
  refine R.sadd (hl := by simp only [List.length_append, List.length_cons, List.length_nil]; omega) ?_
  refine Ap ?_
  refine R.sadd (hl := by simp only [List.length_append, List.length_cons, List.length_nil]; omega) ?_
  refine R.sadd (hl := by simp only [List.length_append, List.length_cons, List.length_nil]; omega) ?_
  refine R.yield (l := l0) (args := [A8 (Jp F x q[x])]) (hy x q[x] _ (List.getElem?_eq_getElem hlt)) ?_
  intro b V O hV hb
  obtain ⟨rfl, h2⟩ := hb
  obtain ⟨rfl, rfl⟩ := List.append_inj h2 (by rw [hV, hlen x, hlen (x + 1)])
  refine ⟨fun _ => by rw [hlen (x + 1)]; exact hlw (x + 1), fun o ho => (by cases ho), ?_⟩
  refine R.not ?_;refine R.fin [0, 5, 6, 18, 19, 20, 47] ?_
  refine W.cond (fun ht47 => ?_) (fun ht47 => ?_)
  ·cases ht47
  refine Hx ?_;refine R.fin [0, 5, 6, 18, 19, 20] ?_;refine Ng ?_
  exact StCut.take (own := []) (fun _ => .refl _) (by repeat (first | exact Aj | refine Ai (by first | exact Ci | exact Bm | (simp [or_imp, forall_and]; done) | (have := hlen (x + 1); simp; omega)) ?_)) (by simp) (by simp)
 have hxe : x = q.length := by simp at ht21; omega
 exact i6

theorem bh : liesAt Tryz.prog Tryz.prog.depth 66 (2 / Tryz.prog.cellsOf 66) 0 66 1 = true := by kernel_rfl
abbrev Iw (bs : Str) : AObj := .bld 66 5 bs
theorem bi {n : Nat} {bs : Str} : ObjLow n (Iw bs) := trivial
theorem fh (bs s : Str) (hl : bs.length + s.length ≤ 140737488355328) (o : Nat) (Hp : List AObj) (ho : Hp[o]? = some (Iw bs)) :
  ACall Tryz.prog 21 [.ptr o 0, A8 s] Hp (fun r H' => r = .tup [A3 s.length, .v .nilIface] ∧ H' = Hp.set o (Iw (bs ++ s))) := by
 refine ACall.bldWrite ho (fun b p v w h => ?_)
 have hw := bldWrite Tryz.lays166 fb (T := 66) bh (by decide) b p v bs.length (Lib.byteCells bs) ⟨s.toArray⟩ w h (by rw [C7]; exact hl)
 rw [C7, Lib.strCells_eq, ← Lib.byteCells_append] at hw
 exact hw
theorem qf (bs : Str) (o : Nat) (Hp : List AObj) (ho : Hp[o]? = some (Iw bs)) : ACall Tryz.prog 24 [.ptr o 0] Hp (fun r H' => r = A8 bs ∧ H' = Hp.set o (.cells 66 [.any, .any])) :=
 ACall.bldString ho (fun b p v w h hc => bldString (ρ := Tryz.ren155) { Tryz.lays155 with } fb (T := 66) b p v bs w h hc)
theorem fi {c : List Col} {l : List Mov} (h : ((A7 c l).2 != 0) = true) : E1 c l = ([], (A7 c l).2) := if_pos h
theorem Sf {c : List Col} {l : List Mov} (h : ((A7 c l).2 != 0) = false) : E1 c l = (Bn (Ax c l) (A7 c l).1 (A7 c l).1.length, 0) := if_neg (by rw [h]; simp)
theorem jy {t : List Expr × Int} {s : Stp} (h : (s.kind != 2) = true) : Dy t s = (Bl s.kind ++ F9 s.cols) ++ [10] := by
 unfold Dy
 rw [if_neg (by simpa using h), List.append_nil]
theorem jz {t : List Expr × Int} {s : Stp} (h : (s.kind != 2) = false) : Dy t s = ((Bl s.kind ++ F9 s.cols) ++ [10]) ++ Cl t s.cols s.cols.length := by
 unfold Dy
 rw [if_pos (by simpa using h)]
/-- Which columns a plan's second step has. -/
theorem k7 {c : List Col} {l : List Mov} (h : ((A7 c l).2 != 0) = false) : ((At c l).2 != 0) = false ∧ ∀ s ∈ (A7 c l).1, (s.kind != 2) = false → s.cols = (C8 c l).1 := by
 cases h1 : ((At c l).2 != 0) with
 | true =>
  have e1 : C8 c l = ([], (At c l).2) := if_pos h1
  have e2 : Au c l = ([], [], [], 1) := if_pos (by rw [e1]; exact h1)
  have e3 : A7 c l = ([], 1) := by unfold A7; rw [e2]; rfl
  rw [e3] at h
  cases h
 | false =>
  refine ⟨rfl, ?_⟩
  have e1 := Kg h1
  have e2 : Au c l = ((C8 c l).1, Cf c (C8 c l).1, Cf (C8 c l).1 c, 0) := if_neg (by rw [e1]; simp)
  have e3 : A7 c l = ([⟨1, (Au c l).2.2.1⟩, ⟨2, (Au c l).1⟩, ⟨3, (Au c l).2.2.1⟩, ⟨4, (Au c l).2.2.1⟩, ⟨5, (Au c l).1⟩, ⟨6, (Au c l).2.1⟩, ⟨7, []⟩], 0) := if_neg (by rw [e2]; simp)
  intro s hs h2
  rw [e3] at hs
  simp only [List.mem_cons, List.mem_nil_iff, or_false] at hs
  rcases hs with rfl | rfl | rfl | rfl | rfl | rfl | rfl
  all_goals first | (rw [e2]; done) | (exact absurd (show (true : Bool) = false from h2) (by decide))
theorem bj {n k : Nat} {o : Bool} {l : List Stp} : Low n (.slice o k (l.map jp)) := low_slice.2 fun y hy => by
 obtain ⟨m, _, rfl⟩ := List.mem_map.1 hy
 refine .agg _ fun z hz => ?_
 simp only [List.mem_cons, List.mem_nil_iff, or_false] at hz
 rcases hz with rfl | rfl
 ·exact .v _
 exact Bm
section
variable {O X U : List AObj} {i : Nat} {b y : AObj}
theorem bat : (b :: (O ++ X))[O.length + 1 + i]? = X[i]? := by
 rw [show O.length + 1 + i = (O.length + i) + 1 by omega, List.getElem?_cons_succ, oat]
theorem batc : (b :: (O ++ X))[O.length + (i + 1)]? = X[i]? := by
 rw [show O.length + (i + 1) = (O.length + i) + 1 by omega, List.getElem?_cons_succ, oat]
theorem k8 : (b :: (O ++ X)).set (O.length + (i + 1)) y = b :: (O ++ X.set i y) := by
 rw [show O.length + (i + 1) = (O.length + i) + 1 by omega, List.set_cons_succ, W1]
theorem My : (U ++ (b :: (O ++ X)))[oid U.length (O.length + (i + 1))]? = X[i]? := by
 rw [Bc, batc]
theorem bl : (U ++ (b :: (O ++ X))).set (oid U.length (O.length + (i + 1))) y = U ++ (b :: (O ++ X.set i y)) := by
 rw [Eo, k8]
theorem Xe {Y : List AObj} : ((U ++ (b :: (O ++ X))) ++ Y)[oid U.length (O.length + (i + 1))]? = (X ++ Y)[i]? := by
 rw [List.append_assoc, List.cons_append, List.append_assoc, My]
theorem Xf {Y : List AObj} : ((U ++ (b :: X)) ++ Y)[oid U.length 0]? = some b := by
 rw [List.append_assoc, Bc]; rfl
theorem bm : (U ++ (b :: X)).set (oid U.length 0) y = U ++ (y :: X) := by
 rw [Eo]; rfl
theorem Mz {o : Nat} (h : (U ++ (b :: O))[o]? = some .defs) {b' : AObj} (hb : b ≠ .defs := by simp) : (U ++ (b' :: (O ++ X)))[o]? = some .defs := by
 rcases Nat.lt_or_ge o U.length with h1 | h1
 ·rw [List.getElem?_append_left h1] at h ⊢
  exact h
 rw [List.getElem?_append_right h1] at h ⊢
 generalize o - U.length = j at h
 cases j with
 | zero =>
  rw [List.getElem?_cons_zero] at h
  injection h with h
  exact absurd h hb
 | succ j =>
  rw [List.getElem?_cons_succ] at h ⊢
  exact Ar h
end
theorem c9 (c : List Col) (hc : OkCols c) (hc2 : c.length ≤ 1000000) (l : List Mov) (h : OkMovs l) (Hp : List AObj) : AFun Tryz.prog 9 [A4 c, C0 l] Hp (.tup [A8 (E1 c l).1, A3 (E1 c l).2]) := by
 refine ACall.body [.tmp 4, .tmp 5] [0, 1] Tryz.func9 Tryz.ntmps9 (fun d => ?_)
 refine T3 ?_;refine R.call Tryz.call8 (c8 c hc hc2 l h _) ?_;refine Z96 ?_;refine R.fin [0, 1, 6, 7] ?_;refine Gp ?_;refine R.fin [0, 1, 6, 7, 19] ?_
 refine W.cond (fun ht19 => ?_) (fun ht19 => ?_)
 ·have hm := fi ht19
  refine Z1 ?_;refine Z7 ?_;exact Z50
 have hm := Sf ht19
 obtain ⟨hsnd, hs2⟩ := k7 ht19
 obtain ⟨hp7, hpo⟩ := Vf hc h
 refine Ig ?_;refine R.alloc jZ ?_;refine R.fin [0, 1, 6, 8] ?_;refine Z18 ?_;refine R.toBld 0 66 5 ?_;refine T0 ?_;refine R.fin [0, 1, 8, 21, 22, 23] ?_
 refine AW.loopG (α := Nat × List AObj × List Nat) (fun s => ⟨54, A2 0 (A4 c) (A2 1 (C0 l) (A2 8 (.ptr (oid Hp.length 0) 0) (A2 21 (aq (A7 c l).1) (A2 22 (A3 ((A7 c l).1.length : Nat)) (A2 23 (A3 (s.1 : Nat)) (fun _ => .any)))))), Hp, (Iw (Bn (Ax c l) (A7 c l).1 s.1) :: s.2.1), s.2.2, none⟩) (fun s => (s.1 ≤ (A7 c l).1.length ∧ (∀ x ∈ s.2.1, ObjLow (Hp.length + (s.2.1.length + 1)) x) ∧ ∀ o ∈ s.2.2, (Hp ++ (Iw (Bn (Ax c l) (A7 c l).1 s.1) :: s.2.1))[o]? = some .defs)) (fun s => (A7 c l).1.length - s.1) ((0, [], [])) ⟨Nat.zero_le _, (fun x hx => (List.not_mem_nil hx).elim), fun o ho => (List.not_mem_nil ho).elim⟩ (StLe.of_eq (by simp [Bn])) rfl (fun s hs => ?_)
 obtain ⟨k, O, Df⟩ := s
 obtain ⟨hk0, hOo, hDo⟩ := hs
 dsimp only at hk0 hOo hDo ⊢
 refine Z44 ?_;refine R.fin [0, 1, 8, 21, 22, 23, 24] ?_
 refine W.condX (fun ht24 => ?_) (fun ht24 => ?_)
 ·have hlt : k < (A7 c l).1.length := by simpa using ht24
  have hso := hpo _ (List.getElem_mem hlt)
  have hon := bb (t := (Ax c l)) (List.getElem?_eq_getElem hlt)
  have hstl : (Bn (Ax c l) (A7 c l).1 k).length ≤ 8000000000000 := by have := Iv (t := (Ax c l)) hpo k; omega
  refine Z65 ?_;refine R.indexAddr (k) (jp (A7 c l).1[k]) jU jS (Ae hlt) ?_;refine E0 ?_;refine R.alloc (n := O.length + 1) (hn := by simp) (ho := rfl) jZ ?_
  refine R.storeOwn (n := O.length + 1) (ho := batc.trans rfl) (hset := by rw [List.cons_append, k8] <;> simp only [List.set_cons_zero] <;> rfl) jS ?_
  refine R.fin [0, 1, 8, 10, 21, 22, 23] ?_;refine B2 ?_;refine l3 ?_;refine R.call Tryz.call18 (c18 (A7 c l).1[k].kind _) ?_
  refine R.callOwn (n := 0) (x := Iw ((Bn (Ax c l) (A7 c l).1 k) ++ (Bl (A7 c l).1[k].kind))) Tryz.call21 (fh (Bn (Ax c l) (A7 c l).1 k) (Bl (A7 c l).1[k].kind) (by have h1 := hstl; have h2 := Dz ((A7 c l).1[k].kind); have h3 := G6 hso; have h4 := G5 hso; (try simp only [List.length_append, List.length_cons, List.length_nil]); omega) (oid Hp.length 0) _ (by rw [Bc]; rfl)) ?_ (hset := List.set_cons_zero)
  refine R.fin [0, 1, 8, 10, 21, 22, 23] ?_
  refine W.join ⟨54, A2 0 (A4 c) (A2 1 (C0 l) (A2 8 (.ptr (oid Hp.length 0) 0) (A2 10 (.ptr (oid Hp.length (O.length + 1)) 0) (A2 21 (aq (A7 c l).1) (A2 22 (A3 ((A7 c l).1.length : Nat)) (A2 23 (A3 (k : Nat)) (fun _ => .any))))))), Hp, (Iw (Bn (Ax c l) (A7 c l).1 k ++ Bl (A7 c l).1[k].kind ++ F9 (A7 c l).1[k].cols) :: (O ++ [.cells 42 [A3 (A7 c l).1[k].kind, A4 (A7 c l).1[k].cols]])), Df, none⟩ ?_ ?_
  ·refine B2 ?_;refine gq ?_;refine Qt ?_;refine R.fin [0, 1, 8, 10, 21, 22, 23, 34] ?_
   refine W.cond (fun ht34 => ?_) (fun ht34 => ?_)
   ·rw [List.length_map] at ht34
    have hcw : F9 (A7 c l).1[k].cols = [32] ++ D7 (A7 c l).1[k].cols := if_pos ht34
    refine Gq ?_;refine gq ?_;refine R.call Tryz.call22 (c22 (A7 c l).1[k].cols hso _) ?_
    refine R.sadd (hl := by simp only [List.length_cons, List.length_nil]; have := G5 hso; omega) ?_
    refine R.callOwn (n := 0) (x := Iw ((Bn (Ax c l) (A7 c l).1 k ++ Bl (A7 c l).1[k].kind) ++ ([32] ++ D7 (A7 c l).1[k].cols))) Tryz.call21 (fh (Bn (Ax c l) (A7 c l).1 k ++ Bl (A7 c l).1[k].kind) ([32] ++ D7 (A7 c l).1[k].cols) (by have h1 := hstl; have h2 := Dz ((A7 c l).1[k].kind); have h3 := G6 hso; have h4 := G5 hso; (try simp only [List.length_append, List.length_cons, List.length_nil]); omega) (oid Hp.length 0) _ (by rw [Bc]; rfl)) ?_ (hset := List.set_cons_zero)
    refine R.fin [0, 1, 8, 10, 21, 22, 23] ?_;exact l7
   rw [List.length_map] at ht34
   have hcw : F9 (A7 c l).1[k].cols = [] := if_neg (by rw [ht34]; simp)
   refine W.keep [0, 1, 8, 10, 21, 22, 23] ?_;refine AW.skip ?_;exact l7
  refine B2 ?_
  refine R.callOwn (n := 0) (x := Iw ((Bn (Ax c l) (A7 c l).1 k ++ Bl (A7 c l).1[k].kind ++ F9 (A7 c l).1[k].cols) ++ ([10]))) Tryz.call21 (fh (Bn (Ax c l) (A7 c l).1 k ++ Bl (A7 c l).1[k].kind ++ F9 (A7 c l).1[k].cols) ([10]) (by have h1 := hstl; have h2 := Dz ((A7 c l).1[k].kind); have h3 := G6 hso; have h4 := G5 hso; (try simp only [List.length_append, List.length_cons, List.length_nil]); omega) (oid Hp.length 0) _ (by rw [Bc]; rfl)) ?_ (hset := List.set_cons_zero)
  refine R.fin [0, 1, 8, 10, 21, 22, 23] ?_;refine Z18 ?_;refine l3 ?_;refine R.neq ?_;refine R.fin [0, 1, 8, 10, 21, 22, 23, 43] ?_
  refine W.cond (fun ht43 => ?_) (fun ht43 => ?_)
  ·rw [jy ht43] at hon
   refine Z40 ?_;refine K.blE ?_;refine K.thN ?_;refine Z43 ?_;refine R.fin [0, 1, 8, 21, 22, 23] ?_
   refine K.lgN (k + 1, O ++ [AObj.cells 42 [A3 (A7 c l).1[k].kind, A4 (A7 c l).1[k].cols]], Df) ⟨hlt, ?_, ?_⟩ (by dsimp only; omega) (StCut.of_eq ?_) (by simp)
   ·intro x hx
    dsimp only at hx
    rcases List.mem_append.1 hx with hx | hx
    ·exact ObjLow.le (by simp) (hOo x hx)
    rw [List.mem_singleton.1 hx]
    intro y hy
    simp only [List.mem_cons, List.mem_nil_iff, or_false] at hy
    rcases hy with rfl | rfl
    ·exact .v _
    exact Bm
   ·exact fun o ho => Mz (hDo o ho)
   dsimp only
   rw [hon]
   simp only [← List.append_assoc]
   rfl
  rw [jz ht43] at hon
  refine Ig ?_
  refine R.assumeLow (fun hlow => ?_)
  refine Jw ?_;refine gq ?_;refine R.call Tryz.call23 (c23 c l (A7 c l).1[k].cols _) ?_;refine R.fin [0, 1, 8, 21, 22, 23, 48] ?_;refine AW.block ?_
  refine W.rangeV (m := O.length + 2) (hm := by simp) (ha := rfl) Tryz.call42 (fun FR as' bd' hFR has hbd => ?_)
  have hFRl : ∀ s, Low (Hp.length + (O.length + 4)) (FR s) := by
   intro s
   rw [hFR]
   refine Low.strip ?_
   revert s
   repeat (first | exact Aj | refine Ai (by first | exact bj | exact Jj | exact Bm | (simp [oid, or_imp, forall_and, As]; done) | (simp [oid, or_imp, forall_and] <;> try omega)) ?_)
  have hOl : ∀ {j : Nat} {lp : AObj}, ObjLow (Hp.length + (O.length + 4)) lp → ∀ x ∈ (Iw ((Bn (Ax c l) (A7 c l).1 k ++ Bl (A7 c l).1[k].kind ++ F9 (A7 c l).1[k].cols ++ [10]) ++ Cl (Ax c l) (A7 c l).1[k].cols j) :: (O ++ [AObj.cells 42 [A3 (A7 c l).1[k].kind, A4 (A7 c l).1[k].cols], AObj.defs, lp])), ObjLow (Hp.length + (O.length + 4)) x := by
   intro j lp hlp x hx
   rcases List.mem_cons.1 hx with rfl | hx
   ·trivial
   rcases List.mem_append.1 hx with hx | hx
   ·exact ObjLow.le (by omega) (hOo x hx)
   simp only [List.mem_cons, List.mem_nil_iff, or_false] at hx
   rcases hx with rfl | rfl | rfl
   ·intro y hy
    simp only [List.mem_cons, List.mem_nil_iff, or_false] at hy
    rcases hy with rfl | rfl
    ·exact .v _
    exact Bm
   ·trivial
   exact hlp
  refine ⟨_, ACall.heapEq (by simp only [List.cons_append, List.append_assoc, List.nil_append, Cl, List.append_nil] <;> rfl) (c42 (oid Hp.length (O.length + 3)) c hc hc2 l h (A7 c l).1[k].cols hso (Ax c l) rfl (Se hc h hsnd).1 (fun e => by rw [hs2 _ (List.getElem_mem hlt) ht43]; exact (Se hc h hsnd).2 e) (fun j => Hp ++ (Iw ((Bn (Ax c l) (A7 c l).1 k ++ Bl (A7 c l).1[k].kind ++ F9 (A7 c l).1[k].cols ++ [10]) ++ Cl (Ax c l) (A7 c l).1[k].cols j) :: (O ++ [AObj.cells 42 [A3 (A7 c l).1[k].kind, A4 (A7 c l).1[k].cols], AObj.defs, AObj.loop LoopState.ready none FR 54 #[49] as' bd' (oid Hp.length (O.length + 2))]))) (fun j => by simp) (by simp [oid]) (fun j x hx => ?_) (fun q y X hk => ?_)), ?_⟩
  ·have := Fd (fun x hx => ObjLow.le (by omega) (hlow x hx)) (hOl (lp := AObj.loop LoopState.ready none FR 54 #[49] as' bd' (oid Hp.length (O.length + 2))) ⟨hFRl, by simp [oid]⟩) x hx
   simpa using this
  ·generalize hV : Hp ++ (Iw ((Bn (Ax c l) (A7 c l).1 k ++ Bl (A7 c l).1[k].kind ++ F9 (A7 c l).1[k].cols ++ [10]) ++ Cl (Ax c l) (A7 c l).1[k].cols q) :: (O ++ [AObj.cells 42 [A3 (A7 c l).1[k].kind, A4 (A7 c l).1[k].cols], AObj.defs, AObj.loop LoopState.ready none FR 54 #[49] as' bd' (oid Hp.length (O.length + 2))])) ++ X = V
   have hL : V[(oid Hp.length (O.length + 3))]? = some (AObj.loop LoopState.ready none FR 54 #[49] as' bd' (oid Hp.length (O.length + 2))) := by rw [← hV, Xe]; rfl
   have hA0 : V[oid Hp.length 0]? = some (Iw ((Bn (Ax c l) (A7 c l).1 k ++ Bl (A7 c l).1[k].kind ++ F9 (A7 c l).1[k].cols ++ [10]) ++ Cl (Ax c l) (A7 c l).1[k].cols q)) := by rw [← hV, Xf]
   refine AYield.ofRound (pd := none) (fr := FR) (sz := 54) (ps := #[49]) (df := (oid Hp.length (O.length + 2))) (asg := as') (bd := bd') hL rfl (by decide) (fun d => ?_)
   subst hFR has hbd
   refine W.keep [8, 49] ?_;refine cy ?_;refine R.fin [8, 11] ?_
   refine ⟨rfl, none, hL, ?_⟩
   generalize hbz : (AObj.loop LoopState.busy _ _ _ _ _ _ _) = bz
   have hA : (V.set (oid Hp.length (O.length + 3)) bz)[oid Hp.length 0]? = some (Iw ((Bn (Ax c l) (A7 c l).1 k ++ Bl (A7 c l).1[k].kind ++ F9 (A7 c l).1[k].cols ++ [10]) ++ Cl (Ax c l) (A7 c l).1[k].cols q)) := by rw [List.getElem?_set_ne (Cc (by omega))]; exact hA0
   refine AW.block ?_;refine Z14 ?_
   refine R.callUp Tryz.call21 hA (by simp) bi (fh _ (Jp (Ax c l) q y) (by have hyl := P0 (t := (Ax c l)) (i := q) (hso.2 y (List.mem_of_getElem? hk)); have hql := P1 (t := (Ax c l)) hso (k := q) (by have := (List.getElem?_eq_some_iff.1 hk).1; omega); have h1 := hstl; have h2 := Dz ((A7 c l).1[k].kind); have h3 := G6 hso; have h4 := G5 hso; (try simp only [List.length_append, List.length_cons, List.length_nil]); omega) (oid Hp.length 0) _ (Ar hA)) ?_
   refine Yp ?_
   subst hbz
   refine K.rdN (Xx hL (Cc (by omega))) ?_
   refine ⟨rfl, ?_⟩
   subst hV
   simp only [List.append_assoc, List.cons_append, bl, bm, List.nil_append, List.set_cons_succ, List.set_cons_zero]
   rw [Sb hk]
   try simp only [List.append_assoc]
   try rfl
  rintro r H' rfl
  refine ⟨Hp, _, _, _, rfl, rfl, fun h => h, ?_, (bat (i := 2)).trans rfl, by simp, ?_⟩
  ·intro o ho
   rcases List.mem_cons.1 ho with rfl | ho
   ·rw [My]
    rfl
   exact Mz (hDo o ho)
  refine K.blN ?_;refine Ih ?_;refine R.fin [0, 1, 8, 21, 22, 23] ?_
  have hlp : ObjLow (Hp.length + (O.length + 4)) (AObj.loop LoopState.exhausted none FR 54 #[49] as' bd' (oid Hp.length (O.length + 2))) := ⟨hFRl, by simp [oid]⟩
  have hOn := hOl (j := (A7 c l).1[k].cols.length) hlp
  refine K.lgN (k + 1, O ++ [AObj.cells 42 [A3 (A7 c l).1[k].kind, A4 (A7 c l).1[k].cols], AObj.defs, AObj.loop LoopState.exhausted none FR 54 #[49] as' bd' (oid Hp.length (O.length + 2))], (oid Hp.length (O.length + 2)) :: Df) ⟨hlt, ?_, ?_⟩ (by dsimp only; omega) (StCut.of_eq ?_) (by simp)
  ·intro x hx
   have := hOn x (List.mem_cons_of_mem _ hx)
   simpa [Nat.add_assoc] using this
  ·intro o ho
   rcases List.mem_cons.1 ho with rfl | ho
   ·dsimp only; rw [My]; rfl
   exact Mz (hDo o ho)
  dsimp only
  rw [hon]
  simp only [← List.append_assoc]
  rw [show O.length + 2 + 1 = O.length + (2 + 1) from rfl, k8]
  rfl
 have hke : k = (A7 c l).1.length := by simp at ht24; omega
 subst hke
 refine K.lgE ?_;refine K.thN ?_;refine B2 ?_
 refine R.callOwn (n := 0) (x := .cells 66 [.any, .any]) Tryz.call24 (qf (Bn (Ax c l) (A7 c l).1 (A7 c l).1.length) (oid Hp.length 0) _ (by rw [Bc]; rfl)) ?_ (hset := List.set_cons_zero)
 refine Z77 ?_;exact K.fin (V.two V.tmp V.tmp) ⟨by rw [hm], rfl⟩

/-- Moves whose numbers are ones of 64 bits. -/
structure RngMv (m : Mov) : Prop where
 ahead : ∀ e ∈ m.ahead, Cm Fa e = true
 back : ∀ e ∈ m.back, Cm Fa e = true
theorem Sg {l : List Expr} (h20 : l.length ≤ 1048576) (h : l.any Ma = false) (hr : ∀ e ∈ l, Cm Fa e = true) : OkEs l := by
 have h1 : ∀ e ∈ l, Slim e := fun e he => e7 (by
  rw [List.any_eq_false] at h
  simpa using h e he)
 exact ⟨h20, fun e he => (h1 e he).ok, fun e he => by have := (h1 e he).size; omega, hr⟩
theorem Xg {m : Mov} (h : F6 m = false) (hr : RngMv m) : OkMov m := by
 unfold F6 at h
 simp only [Bool.or_eq_false_iff, decide_eq_false_iff_not] at h
 obtain ⟨⟨⟨⟨⟨⟨h1, h2⟩, h3⟩, h4⟩, h5⟩, h6⟩, h7⟩ := h
 have h50 : m.give.length ≤ 1000000 := by
  unfold Gk at h1
  simp only [Bool.or_eq_false_iff, decide_eq_false_iff_not] at h1
  omega
 refine ⟨by omega, fun s hs => ?_, Ut h1, h50, Sg (by omega) h6 hr.ahead, Sg (by omega) h7 hr.back⟩
 rw [List.any_eq_false] at h5
 have := h5 s hs
 simp only [decide_eq_true_eq] at this
 omega
theorem Xh {l : List Mov} (h : E9 l = false) (hr : ∀ m ∈ l, RngMv m) : OkMovs l := by
 unfold E9 at h
 simp only [Bool.or_eq_false_iff, decide_eq_false_iff_not] at h
 refine ⟨by omega, fun m hm => Xg ?_ (hr m hm)⟩
 rw [List.any_eq_false] at h
 simpa using h.2 m hm
theorem fj {s : Str} {x : Nat} (h : x < s.length) : lf (s.take (x + 1)) = lf (s.take x) + if s[x] = 10 then 1 else 0 := by
 rw [List.take_succ_eq_append_getElem h, Hh]
 congr 1
 unfold lf
 by_cases e : s[x] = 10
 ·rw [if_pos e, e]; rfl
 rw [if_neg e]
 exact List.count_eq_zero.2 fun hm => e (List.mem_singleton.1 hm).symm
theorem gk {s : Str} {x : Nat} (h : x < s.length) {b : Bool} (e : (((s.getD x 0).toNat : Int) == 10) = b) : (if s[x] = 10 then 1 else 0) = (if b = true then 1 else 0) := by
 subst e
 have e1 : s.getD x 0 = s[x] := by rw [List.getD_eq_getElem?_getD, List.getElem?_eq_getElem h]; rfl
 rw [e1]
 by_cases h2 : s[x] = 10
 ·rw [if_pos h2, h2]; rfl
 rw [if_neg h2, if_neg (by
  intro h3
  have h4 : (s[x].toNat : Int) = 10 := by simpa using h3
  exact h2 (UInt8.toNat_inj.1 (show s[x].toNat = (10 : UInt8).toNat by have : (10 : UInt8).toNat = 10 := rfl; omega)))]
theorem k9 (s : Str) (x : Nat) : lf (s.take x) ≤ s.length := by
 have h1 : lf (s.take x) ≤ (s.take x).length := List.count_le_length
 have h2 := List.length_take_le' x s
 omega
/-- What the last line of PlanLines looks at. -/
theorem Uf {c : List Col} {l : List Mov} (hs : ((Bw c l).2 != 0) = false) : ((At c l).2 != 0) = false ∧ (Bw c l).1.getLastD [] = (C8 c l).1 ∧ (A7 c l).2 = 0 ∧ (E1 c l).2 = 0 ∧ (A7 c l).1.length = 7 ∧ 7 + (C8 c l).1.length ≤ lf (E1 c l).1 ∧
  c.length + (Dw c l).1.length = (C8 c l).1.length + (Dw c l).2.length ∧ (Dw c l).2.length ≤ c.length := by
 have hS : ((At c l).2 != 0) = false := by unfold At; rw [if_neg (by rw [hs]; simp)]; exact hs
 obtain ⟨hmay, hst, hss⟩ := Gg hS
 have hl := Kg hS
 have hc : B9 c = true := by unfold Ge at hmay; simp only [Bool.and_eq_true] at hmay; exact hmay.1
 have hd := Jq (ms := l) hc hst l.length
 have he : Au c l = ((C8 c l).1, Cf c (C8 c l).1, Cf (C8 c l).1 c, 0) := by unfold Au; rw [if_neg (by rw [hl]; simp)]
 have hm : A7 c l = ([⟨1, (Au c l).2.2.1⟩, ⟨2, (Au c l).1⟩, ⟨3, (Au c l).2.2.1⟩, ⟨4, (Au c l).2.2.1⟩, ⟨5, (Au c l).1⟩, ⟨6, (Au c l).2.1⟩, ⟨7, []⟩], 0) := by unfold A7; rw [if_neg (by rw [he]; simp)]
 have hsh : Dw c l = ((Au c l).2.2.1.map (·.name), (Au c l).2.1.map (·.name)) := by unfold Dw; rw [if_neg (by rw [he]; simp)]
 have ht : E1 c l = (Bn (Ax c l) (A7 c l).1 (A7 c l).1.length, 0) := Sf (by rw [hm]; rfl)
 have e1 : (Bw c l).1.getLastD [] = (C8 c l).1 := by
  unfold C8
  rw [if_neg (by rw [hS]; simp)]
  unfold At
  rw [if_neg (by rw [hs]; simp)]
 refine ⟨hS, e1, by rw [hm], by rw [ht], by rw [hm]; rfl, ?_, ?_, ?_⟩
 ·rw [ht, hm, he]
  exact fg _ _ _ _ _ _ _ _
 ·rw [hsh, he]
  simp only [List.length_map]
  have := Ud (Kr hc) (Kr hd)
  rw [hl]
  omega
 rw [hsh, he]
 simp only [List.length_map]
 exact Kd _ _
theorem Xi {c : List Col} {ms : List Mov} (h : ((Bw c ms).2 != 0) = false) : (Bw c ms).1 ≠ [] ∧ (Bw c ms).1.length ≤ 9 := by
 have hS : ((At c ms).2 != 0) = false := by unfold At; rw [if_neg (by rw [h]; simp)]; exact h
 have := Kb hS
 unfold At at this
 rw [if_neg (by rw [h]; simp)] at this
 exact this
theorem bn {c : List Col} {l : List Mov} (hc : OkCols c) (h : OkMovs l) : (E1 c l).1.length ≤ 8000000000000 := by
 unfold E1
 split
 ·exact T6
 obtain ⟨h7, hp⟩ := Vf hc h
 have := Iv (t := Ax c l) hp (A7 c l).1.length
 show (Bn _ _ _).length ≤ _
 omega
theorem c4 (c : List Col) (l : List Mov) (hr : ∀ m ∈ l, RngMv m) (Hp : List AObj) : AFun Tryz.prog 4 [A4 c, C0 l] Hp (Af true) := by
 refine ACall.body [.tmp 4] [0, 1] Tryz.func4 Tryz.ntmps4 (fun d => ?_)
 refine Z71 ?_;refine Z18 ?_;refine R.call Tryz.call5 (c5w _) ?_;refine R.not ?_;refine R.fin [0, 1, 17] ?_
 refine W.cond (fun ht17 => ?_) (fun ht17 => ?_)
 ·cases ht17
 refine Z5 ?_;refine Z12 ?_;refine R.call Tryz.call6 (c6u c _) ?_;refine Z15 ?_;refine G.call Tryz.call7 (fun hB => c7 l _) ?_;refine R.pickOr ?_;refine R.fin [0, 1, 23] ?_
 refine W.cond (fun ht23 => ?_) (fun ht23 => ?_)
 ·refine Kz ?_;refine K.thR ?_;exact Wh
 simp only [Bool.or_eq_false_iff] at ht23
 have hc := Ut ht23.1
 have hok := Xh ht23.2 hr
 have hc2 : c.length ≤ 1000000 := by have h := ht23.1; unfold Gk at h; simp only [Bool.or_eq_false_iff, decide_eq_false_iff_not] at h; omega
 refine Qy ?_;refine R.call Tryz.call12 (c12 c hc l hok _) ?_;refine Z96 ?_;refine R.fin [0, 1, 5, 6] ?_;refine Gp ?_;refine R.fin [0, 1, 5, 31] ?_
 refine W.cond (fun ht31 => ?_) (fun ht31 => ?_)
 ·refine Kz ?_;refine K.thR ?_;exact Wh
 obtain ⟨hne, hl9⟩ := Xi ht31
 have hl0 : 0 < (Bw c l).1.length := List.length_pos_iff.2 hne
 obtain ⟨hS, hD, hmk0, htx0, hmk7, hlf, hcnt, hgl⟩ := Uf ht31
 refine Qy ?_;refine R.len jU ?_
 rw [List.length_map]
 refine R.sub64 (h1 := by omega) (h2 := by omega) ?_;refine R.indexAddr (((Bw c l).1.length - 1)) (A4 ((Bw c l).1.getLastD [])) jU jS (S2 hne) ?_;refine Yb ?_;refine R.fin [0, 1, 7] ?_;refine Z31 ?_;refine R.call Tryz.call9 (c9 c hc hc2 l hok _) ?_;refine Z96 ?_;refine R.fin [0, 1, 7, 8, 9] ?_;refine Z0 ?_;refine R.fin [0, 1, 7, 8, 9, 10] ?_;refine Z74 ?_;refine R.fin [0, 1, 7, 8, 9, 10, 11] ?_
 refine AW.loopC (α := Nat) (fun x => ⟨96, A2 0 (A4 c) (A2 1 (C0 l) (A2 7 (A4 ((Bw c l).1.getLastD [])) (A2 8 (A8 (E1 c l).1) (A2 9 (A3 (E1 c l).2) (A2 10 (A3 (lf ((E1 c l).1.take x) : Nat)) (A2 11 (A3 (x : Nat)) (fun _ => .any))))))), Hp, [], [], none⟩) (fun x => x ≤ (E1 c l).1.length) (fun x => (E1 c l).1.length - x) (0) (Nat.zero_le _) (StLe.of_eq (by simp [lf])) rfl (fun x hx => ?_)
 refine Z67 ?_;refine R.slen jU ?_;refine R.lss ?_;refine R.fin [0, 1, 7, 8, 9, 10, 11, 47] ?_
 refine W.cond (fun ht47 => ?_) (fun ht47 => ?_)
 ·have hlt : x < (E1 c l).1.length := by simpa using ht47
  have hlf1 := fj hlt
  have htl := bn hc hok
  have hft := k9 (E1 c l).1 x
  refine Na ?_
  refine R.sindex (x) (((E1 c l).1.getD x 0)) jU ?hb ?_
  case hb => exact dr hlt
  refine R.eql ?_;refine R.fin [0, 1, 7, 8, 9, 10, 11, 53] ?_
  refine W.cond (fun ht53 => ?_) (fun ht53 => ?_)
  ·have hbit := gk hlt ht53
   refine Z51 ?_;refine R.fin [0, 1, 7, 8, 9, 10, 11] ?_;refine Lr ?_;refine R.fin [0, 1, 7, 8, 9, 10, 11] ?_
   refine K.lpN (x + 1) hlt (by omega) (StCut.of_eq ?_)
   rw [hlf1, hbit]
   rfl
  have hbit := gk hlt ht53
  refine Z86 ?_;refine R.fin [0, 1, 7, 8, 9, 10, 11] ?_
  refine K.lpN (x + 1) hlt (by omega) (StCut.of_eq ?_)
  rw [hlf1, hbit]
  rfl
 have hxe : x = (E1 c l).1.length := by simp at ht47; omega
 subst hxe
 rw [List.take_length]
 have hdl := (Jk hc hok).1
 have hDl : ((Bw c l).1.getLastD []).length = (C8 c l).1.length := by rw [hD]
 refine Z73 ?_;refine Z31 ?_;refine R.call Tryz.call11 (c11 c hc hc2 l hok _) ?_;refine Z96 ?_;refine R.fin [0, 1, 7, 9, 10, 12, 13] ?_;refine Z31 ?_;refine R.call Tryz.call8 (c8 c hc hc2 l hok _) ?_;refine Z96 ?_;refine R.fin [0, 7, 9, 10, 12, 13, 14, 15] ?_;refine J8 ?_;refine Z15 ?_;refine G.eql ?_;refine R.pickAnd ?_;refine Z94 ?_;refine G.len jU ?_;refine Yq ?_
 refine G.add64 (h1 := fun hB => by simp only [List.length_map]; omega) (h2 := fun hB => by simp only [List.length_map]; omega) ?_
 refine G.geq ?_;refine R.pickAnd ?_;refine Z15 ?_;refine G.len jU ?_;refine Yq ?_
 refine G.sub64 (h1 := fun hB => by simp only [List.length_map]; omega) (h2 := fun hB => by simp only [List.length_map]; omega) ?_
 refine Yq ?_
 refine G.add64 (h1 := fun hB => by simp only [List.length_map]; omega) (h2 := fun hB => by simp only [List.length_map]; omega) ?_
 refine Yq ?_;refine Z70 ?_;refine Z23 ?_
 exact K.fin (V.one V.tmp) ⟨by refine congrArg (fun b => AV.v (Value.bool b)) ?_; simp only [List.length_map, htx0, hmk0, hmk7, hD, beq_self_eq_true, Bool.true_and, Bool.and_eq_true, decide_eq_true_eq, beq_iff_eq]; omega, rfl⟩

end Go.SX.Nb
