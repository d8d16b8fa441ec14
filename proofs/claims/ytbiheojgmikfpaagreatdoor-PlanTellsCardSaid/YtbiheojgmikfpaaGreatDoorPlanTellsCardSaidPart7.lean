/- Texts on the way to this: PlanTells answers true for whatever it is handed: of any columns and any moves the plan, its text, the plan back and the shadows are what the reference says, or the migration is not sound. (part 7) -/
import Derived.Lib.ParseIntBTie
import Derived.Shelf.Strings.Builder1
import Derived.Lib.ItoaLen
import Derived.Test.YtbiheojgmikfpaaGreatDoorPlanTellsCardSaidPart6
set_option linter.all false
namespace Go.SX.Nb
open Go Go.SX Go.Proofs
variable [ErrAt]
set_option maxRecDepth 4000
theorem c81 (l : List Col) (hl : l.length ≤ 1000000) (Hp : List AObj) : AFun Tryz.prog 81 [A4 l] Hp (A4 l) := by
 refine ACall.body [.tmp 2] [0] Tryz.func81 Tryz.ntmps81 (fun d => ?_)
 refine Nv ?_
 refine R.eqlNil jU (by kernel_rfl) (fun b hb => ?_)
 refine R.fin [0, 4] ?_
 refine W.cond (fun ht4 => ?_) (fun ht4 => ?_)
 ·have hl0 : l = [] := by simpa using hb ht4
  subst hl0
  refine Z1 ?_;refine R.nilTmp 2 2 false ?_;refine Z2 ?_;refine K.thR ?_;exact K.fin (V.one V.tmp) ⟨rfl, rfl⟩
 refine Hz ?_;refine H0 ?_;refine Av ?_
 refine R.append jU Tryz.type47 ?_ ?_ ?_
 ·simp [Tryz.t47]; omega
 ·simp [Tryz.t47]; omega
 refine Fq ?_;refine Z2 ?_;exact K.fin (V.one V.tmp) ⟨rfl, rfl⟩

theorem fu {Hp : List AObj} {y : Col} {n : Nat} (h : ∀ x ∈ Hp, ObjLow Hp.length x) : ∀ x ∈ Hp ++ [AObj.cells 47 [], AObj.cells 47 (A7 y.name :: A3 y.kind :: List.replicate n AV.any)], ObjLow (Hp.length + 2) x := by
 intro x hx
 rcases List.mem_append.1 hx with hx | hx
 ·exact ObjLow.le (by omega) (h x hx)
 simp only [List.mem_cons, List.mem_nil_iff, or_false] at hx
 rcases hx with rfl | rfl
 ·intro z hz; cases hz
 intro z hz
 simp only [List.mem_cons] at hz
 rcases hz with rfl | rfl | hz
 ·simp
 ·simp
 rw [List.eq_of_mem_replicate hz]; simp
theorem x9 (y : Col) (Hp : List AObj) : ACallO Tryz.prog 81 [A4 [y]] Hp (fun r H' => ∃ cc, 1 ≤ cc ∧ r = .sl (oid Hp.length 1) 2 1 cc ∧ H' = Hp ++ [.cells 47 [], .cells 47 (A7 y.name :: A3 y.kind :: List.replicate ((cc - 1) * 2) AV.any)]) := by
 refine ACallO.body [.tmp 2] [0] Tryz.func81 Tryz.ntmps81 (fun d => ?_)
 refine Z55 ?_;refine Z16 ?_
 refine R.assumeLow (fun hlow => ?_)
 refine Av ?_
 refine R.eqlNil jU (by kernel_rfl) (fun b hb => ?_)
 refine R.fin [0, 4] ?_
 refine W.cond (fun ht4 => ?_) (fun ht4 => ?_)
 ·exact absurd (hb ht4) (by simp)
 refine Hz ?_;refine R.buildObj0 (n := 0) jU Tryz.sizeOf47 ?_;refine Av ?_
 refine R.appendObj (k := 2) (n := 1) jU Tryz.type47 (show [B3 y] ≠ [] by simp) ?_ ?_ (fun cc hcc => ?_)
 ·simp [Tryz.t47]
 ·simp
 have e0 : H8 [B3 y] ++ List.replicate ((cc - [B3 y].length) * 2) AV.any = A7 y.name :: A3 y.kind :: List.replicate ((cc - 1) * 2) AV.any := rfl
 rw [e0]
 clear e0
 refine Ar ?_;refine Z2 ?_;exact K.finO 2 (V.tmp (t := 2)) ⟨cc, hcc, rfl, rfl⟩ (hlow := by simp [oid]) (hobj := fu hlow)

theorem un (c : List Col) (hc : OkCols c) (m : Mov) (h : OkMov m) (h3 : (m.kind == 3) = false) (Hp : List AObj) : AFun Tryz.prog 135 [A4 c, Gc m] Hp (A4 (Ai c m)) := by
 refine ACall.body [.tmp 4] [0, 1] Tryz.func135 Tryz.ntmps135 (fun d => ?_)
 refine Tm ?_;refine Ba ?_;refine W0 ?_;refine R.call Tryz.call81 (c81 m.give h.gives2 _) ?_;refine Ar ?_;refine jq ?_;refine R.fin [0, 3, 5, 12] ?_
 refine W.cond (fun ht12 => ?_) (fun ht12 => ?_)
 ·rw [h3] at ht12; cases ht12
 refine Z4 ?_;exact rb

theorem uo (c : List Col) (hc : OkCols c) (m : Mov) (h : OkMov m) (h3 : (m.kind == 3) = true) (s : Str) (y : Col) (ht : m.take = [s]) (hg : m.give = [y]) (Hp : List AObj) : AFun Tryz.prog 135 [A4 c, Gc m] Hp (A4 (Ai c m)) := by
 have hgv := Yf (c := c) h3 ht hg
 have hgy := Uu (c := c) h3 ht hg
 obtain ⟨kd, tk, gv, ah, bk⟩ := m
 simp only at ht hg h3
 subst ht hg
 refine ACall.body [.tmp 4] [0, 1] Tryz.func135 Tryz.ntmps135 (fun d => ?_)
 refine Tm ?_;refine Ba ?_;refine W0 ?_;refine R.callO Tryz.call81 (x9 y _) ?_
 rintro _ _ ⟨cc, hcc, rfl, rfl⟩
 refine ⟨[.cells 47 [], .cells 47 (A7 y.name :: A3 y.kind :: List.replicate ((cc - 1) * 2) AV.any)], by simp, ?_⟩
 simp only [List.append_nil, List.nil_append]
 refine Ar ?_;refine jq ?_;refine R.fin [0, 3, 5, 12] ?_
 refine W.cond (fun ht12 => ?_) (fun ht12 => ?_)
 ·refine Z0 ?_;refine Z78 ?_;refine R.indexAddr (0) (A7 s) jU jS rfl ?_;refine Dw ?_;refine R.call Tryz.call84 (c84 c hc s _) ?_;refine Ar ?_;refine R.fin [0, 5, 6] ?_;refine Z0 ?_;refine R.geq ?_;refine R.fin [0, 5, 6, 20] ?_
  refine W.cond (fun ht20 => ?_) (fun ht20 => ?_)
  ·have hf : ¬ Af s c < 0 := by simp at ht20; omega
   obtain ⟨jj, hjj, hjc⟩ := D6 hf
   refine Z7 ?_;refine qy ?_;refine Z87 ?_;refine qv ?_
   refine R.storeOwn (y := A3 (c.getD (Af s c).toNat ⟨[], 0⟩).kind) (ys := [A3 (c.getD (Af s c).toNat ⟨[], 0⟩).kind]) (n := 1) (cs := A7 y.name :: A3 y.kind :: List.replicate ((cc - 1) * 2) AV.any) (cs' := A7 y.name :: A3 (c.getD (Af s c).toNat ⟨[], 0⟩).kind :: List.replicate ((cc - 1) * 2) AV.any) (t' := 47) jS ?_ (hc := rfl) (hput := rfl) (hfit := by simp)
   refine R.fin [5] ?_;refine K.thN ?_;refine py ?_;refine Av ?_;exact je
  have hf : Af s c < 0 := by simp at ht20; omega
  refine Hz ?_;refine qa ?_;exact je
 rw [h3] at ht12; cases ht12

/-- What a move must have before it is turned. -/
structure MvOk (m : Mov) : Prop where
 ok : OkMov m
 ahead : m.ahead.length = m.give.length
 back : m.back.length = m.take.length
 one : (m.kind == 3) = true → m.take.length = 1 ∧ m.give.length = 1
theorem la {m : Mov} (h : OkMov m) (hc : Cy m = true) : MvOk m := ⟨h, (E9 hc).1, (E9 hc).2, fun h3 => Im hc (by rw [h3]; rfl)⟩
theorem xa (c : List Col) (hc : OkCols c) (m : Mov) (h : MvOk m) (Hp : List AObj) : AFun Tryz.prog 135 [A4 c, Gc m] Hp (A4 (Ai c m)) := by
 cases h3 : m.kind == 3 with
 | false => exact un c hc m h.ok h3 Hp
 | true =>
  obtain ⟨h1, h2⟩ := h.one h3
  obtain ⟨s, hs⟩ := Sl h1
  obtain ⟨y, hy⟩ := Sl h2
  exact uo c hc m h.ok h3 s y hs hy Hp
theorem c47 (c : List Col) (hc : OkCols c) (m : Mov) (h : MvOk m) (Hp : List AObj) : AFun Tryz.prog 47 [A4 c, Gc m] Hp (A4 (Ai c m)) := by
 cases h3 : m.kind == 3 with
 | false => exact x7 c hc m h.ok h3 Hp
 | true =>
  obtain ⟨h1, h2⟩ := h.one h3
  obtain ⟨s, hs⟩ := Sl h1
  obtain ⟨y, hy⟩ := Sl h2
  exact x8 c hc m h.ok h3 s y hs hy Hp
theorem Ou {c : List Col} {m : Mov} (h : OkMov m) : OkCols (Ai c m) := by
 refine ⟨by rw [Ee]; exact Nat.le_trans h.gives2 (by decide), fun y hy => ?_⟩
 unfold Ai at hy
 split at hy
 ·split at hy
  ·exact h.gives.2 y hy
  cases hg : m.give with
  | nil => rw [hg] at hy; cases hy
  | cons z r =>
   rw [hg] at hy
   rcases List.mem_cons.1 hy with rfl | hy
   ·exact h.gives.2 z (by rw [hg]; exact List.mem_cons_self)
   exact h.gives.2 y (by rw [hg]; exact List.mem_cons_of_mem _ hy)
 exact h.gives.2 y hy
theorem Ov {c give : List Col} {take : List Str} (hc : OkCols c) (hg : OkCols give) (hg2 : give.length ≤ 1000000) : OkCols (Bv c take give).1 := by
 have h0 : OkCols ([] : List Col) := ⟨by decide, fun y hy => by cases hy⟩
 unfold Bv
 split
 ·exact h0
 rename_i hr
 split
 ·exact h0
 split
 ·exact h0
 split
 ·exact h0
 split
 ·exact h0
 exact X1 hc (by simpa using hr) hg hg2 rfl
theorem Ow {c give : List Col} {take : List Str} (h : ((Bv c take give).2 != 0) = false) : ∀ s ∈ take, ¬ Af s c < 0 := by
 have ht : Di c take = true := by
  unfold Bv at h
  split at h
  ·cases h
  split at h
  ·cases h
  rename_i ht
  simpa using ht
 intro s hs hf
 obtain ⟨j, hj⟩ := List.getElem?_of_mem hs
 have := takenM_true.1 ht j s hj
 unfold E3 at this
 rw [show decide (Af s c < 0) = true by simpa using hf] at this
 simp at this
theorem Lw {over : List Col} {l : List Expr} {w : List Col} {x : Nat} (hl : x < l.length) (hw : x < w.length) :
  Bz over (l.drop x) (w.drop x) = if Je l[x] over w[x].kind != 0 then Je l[x] over w[x].kind else Bz over (l.drop (x + 1)) (w.drop (x + 1)) := by
 rw [List.drop_eq_getElem_cons hl, List.drop_eq_getElem_cons hw]
 rfl
theorem Ox {over : List Col} {l : List Expr} {w : List Col} {x : Nat} (hl : l.length ≤ x) : Bz over (l.drop x) (w.drop x) = 0 := by
 rw [List.drop_eq_nil_of_le hl]
 cases w.drop x <;> rfl
theorem Ef {α β : Type} {f : α → β} {l : List α} {x : Nat} (h : x < l.length) : (l.take (x + 1)).map f = (l.take x).map f ++ [f l[x]] := by
 rw [List.take_succ_eq_append_getElem h, List.map_append]; rfl
theorem Yh {c : List Col} {m : Mov} (h : ((Bv c m.take (Ai c m)).2 != 0) = true) : B7 c m = ([], (Bv c m.take (Ai c m)).2) := if_pos h
theorem Yi {c : List Col} {m : Mov} (h : ((Bv c m.take (Ai c m)).2 != 0) = false) (h2 : (Bz c m.ahead (Ai c m) != 0) = true) : B7 c m = ([], Bz c m.ahead (Ai c m)) := by
 unfold B7; rw [if_neg (by rw [h]; simp), if_pos h2]
theorem Yj {c : List Col} {m : Mov} (h : ((Bv c m.take (Ai c m)).2 != 0) = false) (h2 : (Bz c m.ahead (Ai c m) != 0) = false) (h3 : (Bz (Bv c m.take (Ai c m)).1 m.back (E8 c m) != 0) = true) : B7 c m = ([], Bz (Bv c m.take (Ai c m)).1 m.back (E8 c m)) := by
 unfold B7; rw [if_neg (by rw [h]; simp), if_neg (by rw [h2]; simp), if_pos h3]
theorem Yk {c : List Col} {m : Mov} (h : ((Bv c m.take (Ai c m)).2 != 0) = false) (h2 : (Bz c m.ahead (Ai c m) != 0) = false) (h3 : (Bz (Bv c m.take (Ai c m)).1 m.back (E8 c m) != 0) = false) : B7 c m = ((Bv c m.take (Ai c m)).1, 0) := by
 unfold B7; rw [if_neg (by rw [h]; simp), if_neg (by rw [h2]; simp), if_neg (by rw [h3]; simp)]
theorem uq (l : List Expr) (h : OkEs l) (w : List Col) (hw : w.length = l.length) (c : List Col) (hc : OkCols c) (Hp : List AObj) : AFun Tryz.prog 137 [Az l, A4 w, A4 c] Hp (A3 (Bz c l w)) := by
 refine ACall.body [.tmp 6] [0, 1, 2] Tryz.func137 Tryz.ntmps137 (fun d => ?_)
 refine Z1 ?_;refine R.fin [0, 1, 2] ?_;refine S1 ?_;refine R.fin [1, 2, 11, 12, 13] ?_
 refine AW.loopC (α := Nat) (fun x => ⟨37, A2 1 (A4 w) (A2 2 (A4 c) (A2 11 (Az l) (A2 12 (A3 (l.length : Nat)) (A2 13 (A3 (x : Nat)) (fun _ => .any))))), Hp, [], [], none⟩) (fun x => x ≤ l.length ∧ Bz c l w = Bz c (l.drop x) (w.drop x)) (fun x => l.length - x) (0) ⟨Nat.zero_le _, rfl⟩ (StLe.of_eq (by simp)) rfl (fun x hx => ?_)
 refine Z57 ?_;refine R.fin [1, 2, 11, 12, 13, 14] ?_
 refine W.condX (fun ht14 => ?_) (fun ht14 => ?_)
 ·have hlt : x < l.length := by simpa using ht14
  have hlw : x < w.length := by omega
  have hlen := h.len
  have hst := Lw (over := c) hlt hlw
  refine Mw ?_;refine cz ?_;refine W4 ?_;refine R.fin [1, 2, 7, 8, 11, 12, 13] ?_;refine Z16 ?_;refine O0 ?_;refine Av ?_;refine R.call Tryz.call161 (um 61 l[x] (h.ok _ (List.getElem_mem hlt)) (by decide) c hc _) ?_;refine Fc ?_;refine R.fin [1, 2, 7, 8, 10, 11, 12, 13] ?_;refine Z0 ?_;refine R.neq ?_;refine R.fin [1, 2, 7, 8, 10, 11, 12, 13, 25] ?_
  refine W.cond (fun ht25 => ?_) (fun ht25 => ?_)
  ·have he : Je l[x] c w[x].kind = (D3 l[x] c).2 := if_pos ht25
   have hm : Bz c l w = (D3 l[x] c).2 := by rw [hx.2, hst, he, if_pos ht25]
   refine Z40 ?_;refine Z77 ?_;refine K.thR ?_;exact Zm
  refine Z4 ?_;refine W.draw [0, 0, 0, 0, 12, 28, 60, 127, 255] 7 Ah (by kernel_rfl) ?_;refine D.loadOwnN jA jS ?_;refine Z54 ?_;refine D.move ?_;refine D.indexAddr (x) (B3 w[x]) jU jS (A9 hlw) ?_;refine d9 ?_;refine D.tail ?_;refine R.call Tryz.call162 (x5 61 l[x] (h.ok _ (List.getElem_mem hlt)) (by decide) c hc w[x].kind _) ?_;refine R.not ?_;refine R.fin [1, 2, 11, 12, 13, 35] ?_
  refine W.cond (fun ht35 => ?_) (fun ht35 => ?_)
  ·have he : Je l[x] c w[x].kind = 10 := by unfold Je; rw [if_neg (by rw [ht25]; simp), if_pos ht35]
   have hm : Bz c l w = 10 := by rw [hx.2, hst, he]; rfl
   refine Nt ?_;exact Zm
  have he : Je l[x] c w[x].kind = 0 := by unfold Je; rw [if_neg (by rw [ht25]; simp), if_neg (by rw [ht35]; simp)]
  have hnx : Bz c l w = Bz c (l.drop (x + 1)) (w.drop (x + 1)) := by rw [hx.2, hst, he]; rfl
  refine Ja ?_;refine R.fin [1, 2, 11, 12, 13] ?_;refine K.lpN (x + 1) ⟨hlt, hnx⟩ (by omega) ?_
  exact StCut.take (own := []) (fun _ => .refl _) (by repeat (first | exact Al | refine Ak (by first | (simp [or_imp, forall_and]; done) | exact Cv) ?_)) (by simp) (by simp)
 have hxe : l.length ≤ x := by simpa using ht14
 have hm : Bz c l w = 0 := by rw [hx.2, Ox hxe]
 refine Z23 ?_;exact sc

theorem xb (c : List Col) (hc : OkCols c) (m : Mov) (h : OkMov m) (hf : ∀ s ∈ m.take, ¬ Af s c < 0) (Hp : List AObj) : AFun Tryz.prog 138 [A4 c, Gc m] Hp (A4 (E8 c m)) := by
 refine ACall.body [.tmp 4] [0, 1] Tryz.func138 Tryz.ntmps138 (fun d => ?_)
 refine Tm ?_;refine Z1 ?_;refine R.fin [0, 3, 5] ?_;refine Z16 ?_;refine R.nilSl 5 2 ?_;refine Z78 ?_;refine Z64 ?_;refine R.fin [0, 5, 9, 10, 11] ?_
 refine AW.loopC (α := Nat) (fun x => ⟨26, A2 0 (A4 c) (A2 5 (.slice true 2 (((m.take.take x).map fun s => c.getD (Af s c).toNat ⟨[], 0⟩).map B3)) (A2 9 (C2 m.take) (A2 10 (A3 (m.take.length : Nat)) (A2 11 (A3 (x : Nat)) (fun _ => .any))))), Hp, [], [], none⟩) (fun x => x ≤ m.take.length) (fun x => m.take.length - x) (0) (Nat.zero_le _) (StLe.of_eq (by simp)) rfl (fun x hx => ?_)
 refine Z57 ?_;refine R.fin [0, 5, 9, 10, 11, 12] ?_
 refine W.condX (fun ht12 => ?_) (fun ht12 => ?_)
 ·have hlt : x < m.take.length := by simpa using ht12
  have htk := h.takes
  have hfx := hf _ (List.getElem_mem hlt)
  obtain ⟨jj, hjj, hjc⟩ := D6 hfx
  refine J9 ?_;refine R.indexAddr (x) (A7 m.take[x]) jU jS (A9 hlt) ?_;refine ja ?_;refine R.fin [0, 5, 7, 9, 10, 11] ?_;refine Z84 ?_;refine Z58 ?_;refine Av ?_;refine R.call Tryz.call84 (c84 c hc m.take[x] _) ?_;refine R.indexAddr ((Af m.take[x] c).toNat) (B3 (c.getD (Af m.take[x] c).toNat ⟨[], 0⟩)) jU jS (Sm hfx) ?_;refine j9 ?_
  refine R.append jU Tryz.type47 ?_ ?_ ?_
  ·simp only [List.length_map, List.length_take, List.length_cons, List.length_nil, Tryz.t47]; omega
  ·simp only [List.length_map, List.length_take, List.length_cons, List.length_nil, Tryz.t47]; omega
  refine Fq ?_;refine R.fin [0, 5, 9, 10, 11] ?_;refine K2 ?_;refine R.fin [0, 5, 9, 10, 11] ?_
  refine K.lpN (x + 1) hlt (by omega) (StCut.of_eq ?_)
  rw [Ef hlt, List.map_append]
  rfl
 have hxe : m.take.length ≤ x := by simpa using ht12
 refine Z23 ?_;refine Tl ?_;exact K.fin (V.one V.tmp) ⟨by unfold E8; rw [List.take_of_length_le hxe] <;> rfl, rfl⟩ (hlow := Bo)

theorem xc (c : List Col) (hc : OkCols c) (m : Mov) (h : MvOk m) (Hp : List AObj) : AFun Tryz.prog 108 [A4 c, Gc m] Hp (.tup [A4 (B7 c m).1, A3 (B7 c m).2]) := by
 refine ACall.body [.tmp 4, .tmp 5] [0, 1] Tryz.func108 Tryz.ntmps108 (fun d => ?_)
 refine jg ?_;refine Fd ?_;refine dm ?_;refine R.call Tryz.call135 (xa c hc m h _) ?_;refine Ar ?_;refine R.fin [0, 3, 6] ?_;refine Ba ?_
 have hg := Ou (c := c) h.ok
 have hg2 : (Ai c m).length ≤ 1000000 := by rw [Ee]; exact h.ok.gives2
 refine Av ?_;refine Z78 ?_;refine Av ?_;refine R.call Tryz.call136 (wz c hc m.take h.ok.takes (Ai c m) hg hg2 _) ?_;refine Fc ?_;refine R.fin [0, 3, 6, 7, 8] ?_;refine Gs ?_;refine R.fin [0, 3, 6, 7, 8, 23] ?_
 refine W.cond (fun ht23 => ?_) (fun ht23 => ?_)
 ·have hm := Yh ht23
  exact Zv
 refine Z4 ?_;refine Z16 ?_;refine d8 ?_;refine Z58 ?_;refine R.call Tryz.call137 (uq m.ahead h.ok.ahead (Ai c m) (by rw [Ee, h.ahead]) c hc _) ?_;refine Ar ?_;refine R.fin [0, 3, 7, 9] ?_;refine Z0 ?_;refine R.neq ?_;refine R.fin [0, 3, 7, 9, 31] ?_
 refine W.cond (fun ht31 => ?_) (fun ht31 => ?_)
 ·have hm := Yi ht23 ht31
  exact Zv
 refine Z4 ?_;refine W.seq ?_;refine W.draw [0, 1, 0, 0, 12, 0, 63, 127] 6 Ah (by kernel_rfl) ?_;refine D.fieldAddrRo (off := 4) jU Tryz.sizeOf53 ?_;refine jc ?_;refine Pz ?_;refine D.call Tryz.call138 (xb c hc m h.ok (Ow ht23) _) ?_;refine D.move ?_;refine D.tail ?_;refine R.call Tryz.call137 (uq m.back h.ok.back (E8 c m) (by rw [E8, List.length_map, h.back]) (Bv c m.take (Ai c m)).1 (Ov hc hg hg2) _) ?_;refine Ar ?_;refine R.fin [7, 10] ?_;refine Z0 ?_;refine R.neq ?_;refine R.fin [7, 10, 41] ?_
 refine W.cond (fun ht41 => ?_) (fun ht41 => ?_)
 ·have hm := Yj ht23 ht31 ht41
  exact Zv
 have hm := Yk ht23 ht31 ht41
 refine Z96 ?_;exact cx

theorem c28 (c : List Col) (hc : OkCols c) (m : Mov) (h : MvOk m) (Hp : List AObj) : AFun Tryz.prog 28 [A4 c, Gc m] Hp (.tup [A4 (B7 c m).1, A3 (B7 c m).2]) := by
 refine ACall.body [.tmp 4, .tmp 5] [0, 1] Tryz.func28 Tryz.ntmps28 (fun d => ?_)
 refine jg ?_;refine Fd ?_;refine dm ?_;refine R.call Tryz.call47 (c47 c hc m h _) ?_;refine Ar ?_;refine R.fin [0, 3, 6] ?_;refine Ba ?_
 have hg := Ou (c := c) h.ok
 have hg2 : (Ai c m).length ≤ 1000000 := by rw [Ee]; exact h.ok.gives2
 have hgl := Ee c m
 have hah := h.ahead
 have hbk := h.back
 have htk := h.ok.takes
 refine Av ?_;refine Z78 ?_;refine Av ?_;refine R.call Tryz.call48 (c48 c hc m.take h.ok.takes (Ai c m) hg hg2 _) ?_;refine Fc ?_;refine R.fin [0, 3, 6, 7, 8] ?_;refine Gs ?_;refine R.fin [0, 3, 6, 7, 8, 25] ?_
 refine W.cond (fun ht25 => ?_) (fun ht25 => ?_)
 ·have hm := Yh ht25
  exact Zv
 have hfd := Ow ht25
 refine Kx ?_;refine R.fin [0, 3, 6, 7, 9] ?_
 refine AW.loopC (α := Nat) (fun x => ⟨77, A2 0 (A4 c) (A2 3 (.ro (Gb m)) (A2 6 (A4 (Ai c m)) (A2 7 (A4 (Bv c m.take (Ai c m)).1) (A2 9 (A3 (x : Nat)) (fun _ => .any))))), Hp, [], [], none⟩) (fun x => x ≤ (Ai c m).length ∧ Bz c m.ahead (Ai c m) = Bz c (m.ahead.drop x) ((Ai c m).drop x)) (fun x => (Ai c m).length - x) (0) ⟨Nat.zero_le _, rfl⟩ (StLe.of_eq (by simp)) rfl (fun x hx => ?_)
 refine Z83 ?_;refine R.fin [0, 3, 6, 7, 9, 30] ?_
 refine W.cond (fun ht30 => ?_) (fun ht30 => ?_)
 ·have hlt : x < (Ai c m).length := by simpa using ht30
  have hla : x < m.ahead.length := by omega
  have hst := Lw (over := c) hla hlt
  refine Z46 ?_;refine W.draw [0, 1, 0, 7, 15, 0, 0, 96, 224, 480, 0, 2047, 4095] 11 Ah (by kernel_rfl) ?_;refine D.fieldAddrRo (off := 3) jU Tryz.sizeOf53 ?_;refine jc ?_;refine D.indexAddr (x) (A5 m.ahead[x]) jU jS (A9 hla) ?_;refine jn ?_;refine D.indexAddr (x) (B3 (Ai c m)[x]) jU jS (A9 hlt) ?_;refine d9 ?_;refine D.move ?_;refine D.tail ?_;refine R.call Tryz.call49 (c49 61 m.ahead[x] (h.ok.ahead.ok _ (List.getElem_mem hla)) (by decide) (h.ok.ahead.size _ (List.getElem_mem hla)) (Ai c m)[x].kind c hc _) ?_;refine Ar ?_;refine R.fin [0, 3, 6, 7, 9, 10] ?_;refine Z0 ?_;refine R.neq ?_;refine R.fin [0, 3, 6, 7, 9, 10, 46] ?_
  refine W.cond (fun ht46 => ?_) (fun ht46 => ?_)
  ·have hf1 : Bz c m.ahead (Ai c m) = Je m.ahead[x] c (Ai c m)[x].kind := by rw [hx.2, hst, if_pos ht46]
   have hm := Yi ht25 (by rw [hf1]; exact ht46)
   rw [hf1] at hm
   refine Z40 ?_;refine mz ?_;refine Z13 ?_;exact n8
  have hnx : Bz c m.ahead (Ai c m) = Bz c (m.ahead.drop (x + 1)) ((Ai c m).drop (x + 1)) := by rw [hx.2, hst, if_neg (by rw [ht46]; simp)]
  refine Z85 ?_;refine R.fin [0, 3, 6, 7, 9] ?_;exact K.lpN (x + 1) ⟨hlt, hnx⟩ (by omega) (StCut.of_eq rfl)
 have hxe : (Ai c m).length ≤ x := by simpa using ht30
 have hf1 : Bz c m.ahead (Ai c m) = 0 := by rw [hx.2, Ox (by omega)]
 refine Wg ?_;refine R.fin [0, 3, 7, 11] ?_
 refine AW.loopC (α := Nat) (fun k => ⟨77, A2 0 (A4 c) (A2 3 (.ro (Gb m)) (A2 7 (A4 (Bv c m.take (Ai c m)).1) (A2 11 (A3 (k : Nat)) (fun _ => .any)))), Hp, [], [], none⟩) (fun k => k ≤ m.take.length ∧ Bz (Bv c m.take (Ai c m)).1 m.back (E8 c m) = Bz (Bv c m.take (Ai c m)).1 (m.back.drop k) ((E8 c m).drop k)) (fun k => m.take.length - k) (0) ⟨Nat.zero_le _, rfl⟩ (StLe.of_eq (by simp)) rfl (fun k hk => ?_)
 refine Z10 ?_;refine Z78 ?_;refine W1 ?_;refine R.fin [0, 3, 7, 11, 52] ?_
 refine W.cond (fun ht52 => ?_) (fun ht52 => ?_)
 ·have hkt : k < m.take.length := by simpa using ht52
  have hkb : k < m.back.length := by omega
  have hfx := hfd _ (List.getElem_mem hkt)
  obtain ⟨jj, hjj, hjc⟩ := D6 hfx
  have hkc : k < (E8 c m).length := by rw [E8, List.length_map]; exact hkt
  have htc : (E8 c m)[k] = c.getD (Af m.take[k] c).toNat ⟨[], 0⟩ := by simp only [E8, List.getElem_map]
  have hst := Lw (over := (Bv c m.take (Ai c m)).1) hkb hkc
  rw [htc] at hst
  refine Z46 ?_;refine W.draw [0, 1, 0, 7, 15, 0, 0, 0, 128, 0, 896, 1920, 4032, 8160, 16352, 32736, 0, 131071, 262143] 17 Ah (by kernel_rfl) ?_;refine D.fieldAddrRo (off := 4) jU Tryz.sizeOf53 ?_;refine jc ?_;refine D.indexAddr (k) (A5 m.back[k]) jU jS (A9 hkb) ?_;refine jn ?_;refine cw ?_;refine D.move ?_;refine D.indexAddr (k) (A7 m.take[k]) jU jS (A9 hkt) ?_;refine H1 ?_;refine D.call Tryz.call50 (c50 c hc m.take[k] _) ?_;refine D.indexAddr ((Af m.take[k] c).toNat) (B3 (c.getD (Af m.take[k] c).toNat ⟨[], 0⟩)) jU jS (Sm hfx) ?_;refine d9 ?_;refine D.move ?_;refine D.tail ?_;refine R.call Tryz.call49 (c49 61 m.back[k] (h.ok.back.ok _ (List.getElem_mem hkb)) (by decide) (h.ok.back.size _ (List.getElem_mem hkb)) (c.getD (Af m.take[k] c).toNat ⟨[], 0⟩).kind (Bv c m.take (Ai c m)).1 (Ov hc hg hg2) _) ?_;refine Ar ?_
  refine R.fin [0, 3, 7, 11, 12] ?_;refine Z0 ?_;refine R.neq ?_;refine R.fin [0, 3, 7, 11, 12, 74] ?_
  refine W.cond (fun ht74 => ?_) (fun ht74 => ?_)
  ·have hf2 := hk.2.trans hst
   rw [if_pos ht74] at hf2
   have hm := Yj ht25 (by rw [hf1]; rfl) (by rw [hf2]; exact ht74)
   rw [hf2] at hm
   refine Z40 ?_;refine mz ?_;refine Z13 ?_;exact n8
  have hnx := hk.2.trans hst
  rw [if_neg (by rw [ht74]; simp)] at hnx
  refine Z85 ?_;refine R.fin [0, 3, 7, 11] ?_;exact K.lpN (k + 1) ⟨hkt, hnx⟩ (by omega) (StCut.of_eq rfl)
 have hke : m.take.length ≤ k := by simpa using ht52
 have hm := Yk ht25 (by rw [hf1]; rfl) (by rw [hk.2, Ox (by omega)]; rfl)
 refine Ts ?_;exact cx

def Jo {α : Type} (p : α → Bool) (l : List α) : Int := if l.any p then (l.findIdx p : Int) else -1
theorem fw {α : Type} {p : α → Bool} {l : List α} {i : Nat} (h : i < l.length) (hn : p l[i] = true) (hp : ∀ (j : Nat) (y : α), j < i → l[j]? = some y → p y = false) : (i : Int) = Jo p l := by
 unfold Jo
 rw [if_pos (List.any_eq_true.2 ⟨_, List.getElem_mem h, hn⟩)]
 congr 1
 refine (List.findIdx_eq h |>.2 ⟨hn, fun j hj => ?_⟩).symm
 exact hp j (l[j]'(by omega)) hj (List.getElem?_eq_getElem (by omega))
theorem Xc {α : Type} {p : α → Bool} {l : List α} (h : l.any p = false) : (-1 : Int) = Jo p l := by
 unfold Jo
 rw [if_neg (by rw [h]; simp)]
theorem ba {α : Type} (p : α → Bool) (l : List α) : decide (0 ≤ Jo p l) = l.any p := by
 unfold Jo
 cases l.any p <;> simp
def In (s : Str) : Bool := !(Bw s)
def D7 (e : Expr) : Bool := !(Ad e)
theorem Ux {m : Mov} (h : (((m.ahead.length : Int) != (m.give.length : Int)) || ((m.back.length : Int) != (m.take.length : Int))) = true) : Cy m = false := if_pos h
theorem Uy {m : Mov} (h : (((m.ahead.length : Int) != (m.give.length : Int)) || ((m.back.length : Int) != (m.take.length : Int))) = false) : Cy m = if m.kind == 1 then ((m.take.length : Int) == 0) && ((m.give.length : Int) == 1)
 else if m.kind == 2 then ((m.take.length : Int) == 1) && ((m.give.length : Int) == 0)
 else if (m.kind == 3) || (m.kind == 6) then ((m.take.length : Int) == 1) && ((m.give.length : Int) == 1)
 else if m.kind == 4 then ((m.take.length : Int) == 1) && decide ((1 : Int) < (m.give.length : Int))
 else if m.kind == 5 then decide ((1 : Int) < (m.take.length : Int)) && ((m.give.length : Int) == 1)
 else false := if_neg (by rw [h]; simp)
theorem xd (m : Mov) (Hp : List AObj) : AFun Tryz.prog 152 [Gc m] Hp (Am (Cy m)) := by
 refine ACall.body [.tmp 2] [0] Tryz.func152 Tryz.ntmps152 (fun d => ?_)
 refine Z89 ?_;refine W.draw [0, 1, 3, 0, 8, 24, 7, 127] 7 Ah (by kernel_rfl) ?_;refine cw ?_;refine D.len jU ?_;refine j1 ?_;refine D.len jU ?_;refine Zx ?_;refine Ny ?_;refine Z16 ?_
 simp only [List.length_map]
 refine d8 ?_;refine Z64 ?_;refine R.neq ?_;refine Av ?_;refine j4 ?_;refine G.len jU ?_;refine Wb ?_;refine R.fin [1, 3, 4, 22] ?_
 refine W.cond (fun ht22 => ?_) (fun ht22 => ?_)
 ·simp only [List.length_map] at ht22
  have hm := Ux ht22
  exact jm
 simp only [List.length_map] at ht22
 have hn := Uy ht22
 refine Z4 ?_;refine Kv ?_;refine R.fin [3, 4, 24] ?_;refine Ld ?_;refine R.fin [3, 4, 24, 25] ?_
 refine W.cond (fun ht25 => ?_) (fun ht25 => ?_)
 ·refine K1 ?_;refine Tk ?_;refine Z12 ?_;exact K.fin (V.one V.tmp) ⟨by rw [hn]; first | (simp only [ht22, ht25, hk3, hk6, Bool.true_or, Bool.false_or, Bool.or_true, Bool.or_false, if_true, if_false, Bool.false_eq_true, ↓reduceIte] <;> rfl) | (simp only [ht22, ht25, hk3, Bool.true_or, Bool.false_or, Bool.or_true, if_true, if_false, Bool.false_eq_true, ↓reduceIte] <;> rfl) | (simp only [ht22, ht25, if_true, if_false, Bool.false_eq_true, ↓reduceIte] <;> rfl), rfl⟩
 refine Z37 ?_;refine R.fin [3, 4, 24, 33] ?_
 refine W.cond (fun ht33 => ?_) (fun ht33 => ?_)
 ·refine K1 ?_;refine Tk ?_;refine Z12 ?_;exact K.fin (V.one V.tmp) ⟨by rw [hn]; first | (simp only [ht22, ht25, ht33, hk3, hk6, Bool.true_or, Bool.false_or, Bool.or_true, Bool.or_false, if_true, if_false, Bool.false_eq_true, ↓reduceIte] <;> rfl) | (simp only [ht22, ht25, ht33, hk3, Bool.true_or, Bool.false_or, Bool.or_true, if_true, if_false, Bool.false_eq_true, ↓reduceIte] <;> rfl) | (simp only [ht22, ht25, ht33, if_true, if_false, Bool.false_eq_true, ↓reduceIte] <;> rfl), rfl⟩
 refine Z16 ?_;refine Z22 ?_;refine R.fin [3, 4, 24, 41] ?_
 refine W.cond (fun ht41 => ?_) (fun ht41 => ?_)
 ·have hk3 := ht41
  refine Z4 ?_
  refine W.cond (fun ht41 => ?_) (fun ht41 => ?_)
  ·refine K1 ?_;refine Tk ?_;exact Z70
  rw [hk3] at ht41; cases ht41
 have hk3 := ht41
 refine Hh ?_;refine Z22 ?_;refine R.fin [3, 4, 24, 41] ?_;refine K.thN ?_
 refine W.cond (fun ht41 => ?_) (fun ht41 => ?_)
 ·have hk6 := ht41
  refine K1 ?_;refine Tk ?_;exact Z70
 have hk6 := ht41
 refine Z37 ?_;refine R.fin [3, 4, 24, 50] ?_
 refine W.cond (fun ht50 => ?_) (fun ht50 => ?_)
 ·refine K1 ?_;refine Z14 ?_;refine G.gtr ?_;refine Z25 ?_;refine Z12 ?_;exact K.fin (V.one V.tmp) ⟨by rw [hn]; first | (simp only [ht22, ht25, ht33, ht41, ht41, ht50, hk3, hk6, Bool.true_or, Bool.false_or, Bool.or_true, Bool.or_false, if_true, if_false, Bool.false_eq_true, ↓reduceIte] <;> rfl) | (simp only [ht22, ht25, ht33, ht41, ht41, ht50, hk3, Bool.true_or, Bool.false_or, Bool.or_true, if_true, if_false, Bool.false_eq_true, ↓reduceIte] <;> rfl) | (simp only [ht22, ht25, ht33, ht41, ht41, ht50, if_true, if_false, Bool.false_eq_true, ↓reduceIte] <;> rfl), rfl⟩
 refine Z37 ?_;refine R.fin [3, 4, 58] ?_
 refine W.cond (fun ht58 => ?_) (fun ht58 => ?_)
 ·refine Z0 ?_;refine R.gtr ?_;refine Tk ?_;refine Z12 ?_;exact sx
 refine To ?_;exact sx

theorem xe (s : Str) (hs : s.length ≤ 1048576) (Hp : List AObj) : AFun Tryz.prog 155 [A7 s] Hp (Am (In s)) := by
 refine ACall.body [.tmp 2] [0] Tryz.func155 Tryz.ntmps155 (fun d => ?_)
 refine Mx ?_;refine R.call Tryz.call119 (kf s hs _) ?_;exact nz

theorem xf (e : Expr) (hok : okE 61 e) (Hp : List AObj) : AFun Tryz.prog 153 [A5 e] Hp (Am (D7 e)) := by
 refine ACall.body [.tmp 2] [0] Tryz.func153 Tryz.ntmps153 (fun d => ?_)
 refine Z89 ?_;refine Z86 ?_;exact sd

theorem xg (e : Expr) (hok : okE 61 e) (Hp : List AObj) : AFun Tryz.prog 140 [A5 e] Hp (Am (D7 e)) := by
 refine ACall.body [.tmp 2] [0] Tryz.func140 Tryz.ntmps140 (fun d => ?_)
 refine Z89 ?_;refine Z86 ?_;exact sd

theorem xh (l : List Str) (hl : l.length ≤ 1048576) (hn : ∀ s ∈ l, s.length ≤ 1048576) (Hp : List AObj) : AFun Tryz.prog 167 [C2 l, .fn (.func 155) [] []] Hp (A3 (Jo In l)) := by
 refine ACall.body [.tmp 4] [0, 1] Tryz.func167 Tryz.ntmps167 (fun d => ?_)
 refine ai ?_
 refine AW.loopC (α := Nat) (fun x => ⟨19, A2 0 (C2 l) (A2 1 (.fn (.func 155) [] []) (A2 7 (A3 l.length) (A2 8 (A3 (x : Nat)) (fun _ => .any)))), Hp, [], [], none⟩) (fun x => x ≤ l.length ∧ ∀ (j : Nat) y, j < x → l[j]? = some y → In y = false) (fun x => l.length - x) (0) ⟨Nat.zero_le _, fun j y h => by omega⟩ (StLe.of_eq (by simp)) rfl (fun x hx => ?_)
 refine Zp ?_
 refine W.condX (fun ht9 => ?_) (fun ht9 => ?_)
 ·have hlt : x < l.length := by simpa using ht9
  refine af ?_;refine R.indexAddr (x) (A7 l[x]) jU jS (A9 hlt) ?_;refine Dw ?_;refine R.callV Tryz.call155 (xe l[x] (hn _ (List.getElem_mem hlt)) _) ?_;refine aj ?_
  refine W.cond (fun ht16 => ?_) (fun ht16 => ?_)
  ·exact jh
  exact ji
 have hxe : l.length ≤ x := by simpa using ht9
 exact js

theorem xi (l : List Str) (hl : l.length ≤ 1048576) (hn : ∀ s ∈ l, s.length ≤ 1048576) (Hp : List AObj) : AFun Tryz.prog 154 [C2 l, .fn (.func 155) [] []] Hp (Am (l.any In)) := by
 refine ACall.body [.tmp 4] [0, 1] Tryz.func154 Tryz.ntmps154 (fun d => ?_)
 refine Z75 ?_;refine Z32 ?_;refine R.call Tryz.call167 (xh l hl hn _) ?_;exact jo

theorem ur (l : List Expr) (hl : l.length ≤ 1048576) (hn : ∀ e ∈ l, okE 61 e) (Hp : List AObj) : AFun Tryz.prog 163 [Az l, .fn (.func 153) [] []] Hp (A3 (Jo D7 l)) := by
 refine ACall.body [.tmp 4] [0, 1] Tryz.func163 Tryz.ntmps163 (fun d => ?_)
 refine ai ?_
 refine AW.loopC (α := Nat) (fun x => ⟨19, A2 0 (Az l) (A2 1 (.fn (.func 153) [] []) (A2 7 (A3 l.length) (A2 8 (A3 (x : Nat)) (fun _ => .any)))), Hp, [], [], none⟩) (fun x => x ≤ l.length ∧ ∀ (j : Nat) y, j < x → l[j]? = some y → D7 y = false) (fun x => l.length - x) (0) ⟨Nat.zero_le _, fun j y h => by omega⟩ (StLe.of_eq (by simp)) rfl (fun x hx => ?_)
 refine Zp ?_
 refine W.condX (fun ht9 => ?_) (fun ht9 => ?_)
 ·have hlt : x < l.length := by simpa using ht9
  refine af ?_;refine cz ?_;refine R.callV Tryz.call153 (xf l[x] (hn _ (List.getElem_mem hlt)) _) ?_;refine aj ?_
  refine W.cond (fun ht16 => ?_) (fun ht16 => ?_)
  ·exact jh
  exact ji
 have hxe : l.length ≤ x := by simpa using ht9
 exact js

theorem mq (l : List Expr) (hl : l.length ≤ 1048576) (hn : ∀ e ∈ l, okE 61 e) (Hp : List AObj) : AFun Tryz.prog 139 [Az l, .fn (.func 153) [] []] Hp (Am (l.any D7)) := by
 refine ACall.body [.tmp 4] [0, 1] Tryz.func139 Tryz.ntmps139 (fun d => ?_)
 refine Z75 ?_;refine Z32 ?_;refine R.call Tryz.call163 (ur l hl hn _) ?_;exact jo

theorem ut (l : List Expr) (hl : l.length ≤ 1048576) (hn : ∀ e ∈ l, okE 61 e) (Hp : List AObj) : AFun Tryz.prog 163 [Az l, .fn (.func 140) [] []] Hp (A3 (Jo D7 l)) := by
 refine ACall.body [.tmp 4] [0, 1] Tryz.func163 Tryz.ntmps163 (fun d => ?_)
 refine ai ?_
 refine AW.loopC (α := Nat) (fun x => ⟨19, A2 0 (Az l) (A2 1 (.fn (.func 140) [] []) (A2 7 (A3 l.length) (A2 8 (A3 (x : Nat)) (fun _ => .any)))), Hp, [], [], none⟩) (fun x => x ≤ l.length ∧ ∀ (j : Nat) y, j < x → l[j]? = some y → D7 y = false) (fun x => l.length - x) (0) ⟨Nat.zero_le _, fun j y h => by omega⟩ (StLe.of_eq (by simp)) rfl (fun x hx => ?_)
 refine Zp ?_
 refine W.condX (fun ht9 => ?_) (fun ht9 => ?_)
 ·have hlt : x < l.length := by simpa using ht9
  refine af ?_;refine cz ?_;refine R.callV Tryz.call140 (xg l[x] (hn _ (List.getElem_mem hlt)) _) ?_;refine aj ?_
  refine W.cond (fun ht16 => ?_) (fun ht16 => ?_)
  ·exact jh
  exact ji
 have hxe : l.length ≤ x := by simpa using ht9
 exact js

theorem uu (l : List Expr) (hl : l.length ≤ 1048576) (hn : ∀ e ∈ l, okE 61 e) (Hp : List AObj) : AFun Tryz.prog 139 [Az l, .fn (.func 140) [] []] Hp (Am (l.any D7)) := by
 refine ACall.body [.tmp 4] [0, 1] Tryz.func139 Tryz.ntmps139 (fun d => ?_)
 refine Z75 ?_;refine Z32 ?_;refine R.call Tryz.call163 (ut l hl hn _) ?_;exact jo

theorem uv (s : Str) (Hp : List AObj) : AFun Tryz.prog 157 [A7 s] Hp (A5 (An s)) := by
 refine ACall.body [.cell 2 60] [0] Tryz.func157 Tryz.ntmps157 (fun d => ?_)
 refine dp ?_;refine R.fin [0, 2] ?_;refine Z0 ?_;refine Z39 ?_;refine R.nilCell 0 5 6 ?_;refine Z2 ?_;exact K.fin (V.one (V.cellN jA jS)) ⟨by rw [Bg]; rfl, rfl⟩

theorem xj (l : List Expr) (hl : l.length ≤ 1048576) (hn : ∀ e ∈ l, okE 61 e) (Hp : List AObj) : AFun Tryz.prog 113 [Az l] Hp (Am (l.any D7)) := by
 refine ACall.body [.tmp 2] [0] Tryz.func113 Tryz.ntmps113 (fun d => ?_)
 refine Mx ?_;refine R.call Tryz.call139 (uu l hl hn _) ?_;exact Zn

theorem Uz {m : Mov} {c : Col} : (((!(Bw c.name)) || (!((Bn c.kind == []) == (m.kind == 3)))) || ((m.kind == 3) && (c.kind != 0))) = !Ez m c := by
 unfold Ez
 cases Bw c.name <;> cases (Bn c.kind == ([] : Str)) <;> cases (m.kind == 3) <;> cases (c.kind != 0) <;> rfl
theorem p7 {m : Mov} (h : (!(Cy m)) = true) : D9 m = false := by
 have : Cy m = false := by simpa using h
 unfold D9; rw [this]; rfl
theorem p8 {m : Mov} {c : Col} (hc : c ∈ m.give) (h : Ez m c = false) : D9 m = false := by
 have : m.give.all (Ez m) = false := List.all_eq_false.2 ⟨c, hc, by rw [h]; simp⟩
 unfold D9; rw [this]; simp
theorem p9 {m : Mov} (h : ((m.take.any In || m.ahead.any D7) || m.back.any D7) = true) : D9 m = false := by
 unfold D9
 rw [show In = fun s => !(Bw s) from rfl, show D7 = fun e => !(Ad e) from rfl, E4, E4, E4] at h
 cases h1 : m.take.all Bw <;> cases h2 : m.ahead.all Ad <;> cases h3 : m.back.all Ad <;> simp_all
theorem lb {m : Mov} (h1 : Cy m = true) (h2 : m.give.all (Ez m) = true) (h : ((m.take.any In || m.ahead.any D7) || m.back.any D7) = false) : D9 m = Gd m := by
 unfold D9
 rw [show In = fun s => !(Bw s) from rfl, show D7 = fun e => !(Ad e) from rfl, E4, E4, E4] at h
 rw [h1, h2]
 cases h1 : m.take.all Bw <;> cases h2 : m.ahead.all Ad <;> cases h3 : m.back.all Ad <;> simp_all
theorem Hy {α β : Type} {f : α → β} {l : List α} {d : α} (h : 0 < l.length) : (l.map f)[0]? = some (f (l.getD 0 d)) := by
 rw [List.getElem?_map, List.getElem?_eq_getElem h, List.getD_eq_getElem?_getD, List.getElem?_eq_getElem h]
 rfl
theorem H9 {α : Type} {l : List α} {d : α} (h : 0 < l.length) : l.getD 0 d ∈ l := by
 rw [List.getD_eq_getElem?_getD, List.getElem?_eq_getElem h]
 exact List.getElem_mem h
theorem fx {m : Mov} (h : (m.kind == 3) = true) : Gd m = (eqE (m.ahead.getD 0 A8) (An (m.take.getD 0 [])) && eqE (m.back.getD 0 A8) (An (m.give.getD 0 ⟨[], 0⟩).name)) := if_pos h
theorem g5 {m : Mov} (h : (m.kind == 3) = false) (h6 : (m.kind == 6) = true) : Gd m = (m.take.getD 0 [] == (m.give.getD 0 ⟨[], 0⟩).name) := by unfold Gd; rw [if_neg (by rw [h]; simp), if_pos h6]
theorem g6 {m : Mov} (h : (m.kind == 3) = false) (h6 : (m.kind == 6) = false) : Gd m = true := by unfold Gd; rw [if_neg (by rw [h]; simp), if_neg (by rw [h6]; simp)]
theorem xk (m : Mov) (h : OkMov m) (Hp : List AObj) : AFun Tryz.prog 134 [Gc m] Hp (Am (D9 m)) := by
 refine ACall.body [.tmp 2] [0] Tryz.func134 Tryz.ntmps134 (fun d => ?_)
 refine Z89 ?_;refine W6 ?_;refine R.call Tryz.call152 (xd m _) ?_;refine R.not ?_;refine R.fin [1, 8] ?_
 refine W.cond (fun ht8 => ?_) (fun ht8 => ?_)
 ·have hm := p7 ht8
  exact dq
 have hct : Cy m = true := by simpa using ht8
 refine Z4 ?_;refine Z16 ?_;refine W0 ?_;refine Z64 ?_;refine R.fin [1, 10, 11, 12] ?_
 refine AW.loopC (α := Nat) (fun x => ⟨95, A2 1 (.ro (Gb m)) (A2 10 (A4 m.give) (A2 11 (A3 (m.give.length : Nat)) (A2 12 (A3 (x : Nat)) (fun _ => .any)))), Hp, [], [], none⟩) (fun x => x ≤ m.give.length ∧ ∀ (j : Nat) (y : Col), j < x → m.give[j]? = some y → (!Ez m y) = false) (fun x => m.give.length - x) (0) ⟨Nat.zero_le _, fun j y h => by omega⟩ (StLe.of_eq (by simp)) rfl (fun x hx => ?_)
 refine Z57 ?_;refine R.fin [1, 10, 11, 12, 13] ?_
 refine W.condX (fun ht13 => ?_) (fun ht13 => ?_)
 ·have hlt : x < m.give.length := by simpa using ht13
  have hgl := h.gives2
  refine J9 ?_;refine R.indexAddr (x) (B3 m.give[x]) jU jS (A9 hlt) ?_;refine W3 ?_;refine R.fin [1, 4, 10, 11, 12] ?_;refine W.draw [0, 1, 3, 7, 15, 31, 63, 127, 255, 31, 543, 1567, 4095, 8191, 16383, 32767, 65535, 131071, 262143, 524287, 1048575, 2097151, 4194303, 8388607] 12 Ah (by kernel_rfl) ?_;refine D.fieldAddrPtr (fo := 0) jU Tryz.sizeOf9 ?_;refine D.loadOwn jA ?_;refine D.call Tryz.call119 (kf m.give[x].name (h.gives.2 _ (List.getElem_mem hlt)) _) ?_;refine D.not ?_;refine D.move ?_;refine H.fieldAddrPtr (fo := 1) jU Tryz.sizeOf3 ?_;refine H.loadOwn jA ?_;refine H.call Tryz.call40 (fun hB => c40 m.give[x].kind _) ?_;refine H.seql ?_;refine H.fieldAddrRo (off := 0) jU Tryz.sizeOf3 ?_;refine Hg ?_;refine H.eql ?_;refine D.tail ?_;refine G.bneq jU ?_;refine Zw ?_;refine j2 ?_;refine G.eql ?_;refine G.move ?_;refine G.fieldAddrPtr (fo := 1) jU Tryz.sizeOf3 ?_
  refine G.loadOwn jA ?_;refine G.neq ?_;refine G.pickAnd ?_;refine R.pickOr ?_;refine R.fin [1, 10, 11, 12, 39] ?_
  refine W.cond (fun ht39 => ?_) (fun ht39 => ?_)
  ·rw [Uz] at ht39
   have hm := p8 (List.getElem_mem hlt) (by simpa using ht39)
   exact n9
  rw [Uz] at ht39
  refine Ja ?_;refine R.fin [1, 10, 11, 12] ?_;refine K.lpN (x + 1) ⟨hlt, Aq hlt hx.2 ht39⟩ (by omega) ?_
  exact StCut.take (own := []) (fun _ => .refl _) (by repeat (first | exact Al | refine Ak (by first | (simp [or_imp, forall_and]; done) | exact Bo | exact low_ro.2 Sj) ?_)) (by simp) (by simp)
 have hxe : m.give.length ≤ x := by simpa using ht13
 have hga : m.give.all (Ez m) = true := by have := E1 hxe hx.2; rw [E4] at this; simpa using this
 refine Z23 ?_;refine Z1 ?_;refine R.fin [1, 5] ?_;refine Z16 ?_;refine Z78 ?_;refine R.call Tryz.call154 (xi m.take h.takes h.names _) ?_;refine Av ?_;refine G.fieldAddrRo (off := 3) jU Tryz.sizeOf53 ?_;refine K3 ?_;refine G.move ?_;refine G.call Tryz.call139 (fun hB => mq m.ahead h.ahead.len h.ahead.ok _) ?_;refine Zw ?_;refine j4 ?_;refine G.move ?_;refine G.call Tryz.call139 (fun hB => mq m.back h.back.len h.back.ok _) ?_;refine R.pickOr ?_;refine R.fin [1, 55] ?_
 refine W.cond (fun ht55 => ?_) (fun ht55 => ?_)
 ·have hm := p9 ht55
  exact dq
 have hm0 := lb hct hga ht55
 refine Z4 ?_;refine Kv ?_;refine R.fin [1, 57] ?_;refine Ld ?_;refine R.fin [1, 57, 58] ?_
 refine W.cond (fun ht58 => ?_) (fun ht58 => ?_)
 ·obtain ⟨hl1, hl2⟩ := Im hct (by rw [ht58]; simp)
  obtain ⟨hl3, hl4⟩ := E9 hct
  have g1 := Hy (f := A5) (l := m.ahead) (d := A8) (by omega)
  have g2 := Hy (f := A5) (l := m.back) (d := A8) (by omega)
  have g3 := Hy (f := A7) (l := m.take) (d := []) (by omega)
  have g4 := Hy (f := B3) (l := m.give) (d := ⟨[], 0⟩) (by omega)
  have ok1 := h.ahead.ok _ (H9 (l := m.ahead) (d := A8) (by omega))
  have ok2 := h.back.ok _ (H9 (l := m.back) (d := A8) (by omega))
  have hm := hm0.trans (fx ht58)
  refine W.draw [0, 1, 3, 7, 0, 16, 48, 112, 240, 511, 1023, 2047, 4095, 8191, 16383, 2047, 34815, 100351, 231423, 493567, 1017855, 2097151, 4194303, 8388607] 21 Ah (by kernel_rfl) ?_;refine D.fieldAddrRo (off := 3) jU Tryz.sizeOf53 ?_;refine H1 ?_;refine D.indexAddr (0) (A5 (m.ahead.getD 0 A8)) jU jS g1 ?_;refine Pz ?_;refine cw ?_;refine D.indexAddr (0) (A7 (m.take.getD 0 [])) jU jS g3 ?_;refine H1 ?_;refine D.call Tryz.call157 (uv (m.take.getD 0 []) _) ?_;refine D.call Tryz.call156 (uk 61 (m.ahead.getD 0 A8) ok1 (An (m.take.getD 0 [])) _) ?_;refine D.move ?_;refine H.fieldAddrRo (off := 4) jU Tryz.sizeOf53 ?_;refine Hg ?_;refine H.indexAddr (0) (A5 (m.back.getD 0 A8)) jU jS (fun _ => g2) ?_;refine H.loadRoN jA jS ?_;refine H.fieldAddrRo (off := 2) jU Tryz.sizeOf22 ?_;refine Hg ?_
  refine H.indexAddr (0) (B3 (m.give.getD 0 ⟨[], 0⟩)) jU jS (fun _ => g4) ?_;refine nl ?_;refine H.call Tryz.call157 (fun hB => uv (m.give.getD 0 ⟨[], 0⟩).name _) ?_;refine D.tail ?_;refine G.call Tryz.call156 (fun hB => uk 61 (m.back.getD 0 A8) ok2 (An (m.give.getD 0 ⟨[], 0⟩).name) _) ?_;refine Z25 ?_;exact rm
 refine Z37 ?_;refine R.fin [1, 83] ?_
 refine W.cond (fun ht83 => ?_) (fun ht83 => ?_)
 ·obtain ⟨hl1, hl2⟩ := Im hct (by rw [ht83]; simp)
  obtain ⟨hl3, hl4⟩ := E9 hct
  have g1 := Hy (f := A5) (l := m.ahead) (d := A8) (by omega)
  have g2 := Hy (f := A5) (l := m.back) (d := A8) (by omega)
  have g3 := Hy (f := A7) (l := m.take) (d := []) (by omega)
  have g4 := Hy (f := B3) (l := m.give) (d := ⟨[], 0⟩) (by omega)
  have ok1 := h.ahead.ok _ (H9 (l := m.ahead) (d := A8) (by omega))
  have ok2 := h.back.ok _ (H9 (l := m.back) (d := A8) (by omega))
  have hm := hm0.trans (g5 ht58 ht83)
  refine rt ?_;refine D.indexAddr (0) (A7 (m.take.getD 0 [])) jU jS g3 ?_;refine H1 ?_;refine j1 ?_;refine D.indexAddr (0) (B3 (m.give.getD 0 ⟨[], 0⟩)) jU jS g4 ?_;refine Vz ?_;refine D.tail ?_;refine Z11 ?_;exact rm
 have hm := hm0.trans (g6 ht58 ht83)
 refine To ?_;exact e7

def bb (m : Mov) : Bool := !(D9 m)
theorem lc (l : List Mov) : (decide ((l.length : Int) ≤ 8) && !(l.any bb)) = I1 l := by
 unfold I1
 rw [show bb = fun m => !(D9 m) from rfl, E4]
 simp
theorem xl (m : Mov) (h : OkMov m) (Hp : List AObj) : AFun Tryz.prog 133 [Gc m] Hp (Am (bb m)) := by
 refine ACall.body [.tmp 2] [0] Tryz.func133 Tryz.ntmps133 (fun d => ?_)
 refine Z89 ?_;refine Z86 ?_;refine R.call Tryz.call134 (xk m h _) ?_;exact nz

theorem xm (l : List Mov) (h : OkMovs l) (Hp : List AObj) : AFun Tryz.prog 151 [By l, .fn (.func 133) [] []] Hp (A3 (Jo bb l)) := by
 refine ACall.body [.tmp 4] [0, 1] Tryz.func151 Tryz.ntmps151 (fun d => ?_)
 refine ai ?_
 refine AW.loopC (α := Nat) (fun x => ⟨19, A2 0 (By l) (A2 1 (.fn (.func 133) [] []) (A2 7 (A3 l.length) (A2 8 (A3 (x : Nat)) (fun _ => .any)))), Hp, [], [], none⟩) (fun x => x ≤ l.length ∧ ∀ (j : Nat) (y : Mov), j < x → l[j]? = some y → bb y = false) (fun x => l.length - x) (0) ⟨Nat.zero_le _, fun j y h => by omega⟩ (StLe.of_eq (by simp)) rfl (fun x hx => ?_)
 refine Zp ?_
 refine W.condX (fun ht9 => ?_) (fun ht9 => ?_)
 ·have hlt : x < l.length := by simpa using ht9
  have hlen := h.len
  refine af ?_;refine o1 ?_;refine Ek ?_;refine R.callV Tryz.call133 (xl l[x] (h.each _ (List.getElem_mem hlt)) _) ?_;refine aj ?_
  refine W.cond (fun ht16 => ?_) (fun ht16 => ?_)
  ·exact jh
  exact ji
 have hxe : l.length ≤ x := by simpa using ht9
 exact js

theorem xn (l : List Mov) (h : OkMovs l) (Hp : List AObj) : AFun Tryz.prog 132 [By l, .fn (.func 133) [] []] Hp (Am (l.any bb)) := by
 refine ACall.body [.tmp 4] [0, 1] Tryz.func132 Tryz.ntmps132 (fun d => ?_)
 refine Z75 ?_;refine Z32 ?_;refine R.call Tryz.call151 (xm l h _) ?_;exact jo

theorem xo (l : List Mov) (h : OkMovs l) (Hp : List AObj) : AFun Tryz.prog 106 [By l] Hp (Am (I1 l)) := by
 refine ACall.body [.tmp 2] [0] Tryz.func106 Tryz.ntmps106 (fun d => ?_)
 refine Mx ?_;refine R.len jU ?_;refine R.leq ?_;refine Z14 ?_;refine G.call Tryz.call132 (fun hB => xn l h _) ?_;refine G.not ?_;refine Wh ?_;exact K.fin (V.one V.tmp) ⟨by rw [← lc, List.length_map], rfl⟩

theorem c80 (c : List Col) (hc : OkCols c) (l : List Mov) (h : OkMovs l) (Hp : List AObj) : AFun Tryz.prog 80 [A4 c, By l] Hp (Am (Gw c l)) := by
 refine ACall.body [.tmp 4] [0, 1] Tryz.func80 Tryz.ntmps80 (fun d => ?_)
 refine Z75 ?_;refine Z0 ?_;refine R.call Tryz.call39 (c39 c hc _) ?_;refine Z14 ?_;refine G.call Tryz.call106 (fun hB => xo l h _) ?_;refine Z25 ?_;refine Z27 ?_;exact K.fin (V.one V.tmp) ⟨by unfold Gw; rw [Dz], rfl⟩

theorem bc {Hp : List AObj} {c : List Col} (h : ∀ x ∈ Hp, ObjLow Hp.length x) : ∀ x ∈ Hp ++ [AObj.cells 22 [A4 c]], ObjLow (Hp.length + 1) x := by
 intro x hx
 rcases List.mem_append.1 hx with hx | hx
 ·exact ObjLow.le (by omega) (h x hx)
 rw [List.mem_singleton.1 hx]
 intro z hz
 rw [List.mem_singleton.1 hz]
 exact Bo
theorem c82 (c : List Col) (l : List Mov) (Hp : List AObj) : ACallO Tryz.prog 82 [A4 c, By l] Hp (fun r H' => r = .fn (.func 107) [] [.ro [By l], .ptr (oid Hp.length 0) 0] ∧ H' = Hp ++ [.cells 22 [A4 c]]) := by
 refine ACallO.body [.tmp 4] [0, 1] Tryz.func82 Tryz.ntmps82 (fun d => ?_)
 refine dy ?_;refine Zu ?_;refine R.fin [2, 3] ?_;refine Ba ?_
 refine R.assumeLow (fun hlow => ?_)
 refine dk ?_;refine Z27 ?_;exact K.finO 1 (V.tmp (t := 4)) ⟨rfl, rfl⟩ (hlow := by simp [oid, or_imp, forall_and]; exact ⟨fun m _ a _ => B0 _ a, fun m _ a _ => B0 _ a⟩) (hobj := bc hlow)

theorem xp (l oc : Nat) (ms : List Mov) (hm : ∀ m ∈ ms, MvOk m) (hml : ms.length ≤ 1048576) (C : Nat → List Col) (hC : ∀ k, OkCols (C k)) (U T : Nat → List AObj) (N : Nat → Prop) (Z : List AObj → Prop) (hlen : ∀ k, (U k).length = (U 0).length) (hlenW : ∀ k, (T k).length = (U 0).length) (hll : l < (U 0).length) (hol : oc < (U 0).length)
  (hlw : ∀ k, ∀ x ∈ U k, ObjLow (U 0).length x) (hlW : ∀ k, ∀ x ∈ T k, ObjLow (U 0).length x) (h0 : N 0) (hc : ∀ k, (U k)[oc]? = some (.cells 22 [A4 (C k)])) (hcW : ∀ k, (T k)[oc]? = some (.cells 22 [A4 (C k)]))
  (hn : ∀ k m, ms[k]? = some m → (B7 (C k) m).2 = 0 → (T k).set oc (.cells 22 [A4 (B7 (C k) m).1]) = U (k + 1))
  (hy : ∀ k m X, ms[k]? = some m → N k → AYield Tryz.prog l [A4 (B7 (C k) m).1, A3 (B7 (C k) m).2] (U k ++ X) (fun b H' => ((B7 (C k) m).2 ≠ 0 ∧ ∃ V, H' = V ++ X ∧ V.length = (U 0).length ∧ (∀ x ∈ V, ObjLow (U 0).length x) ∧ Z V) ∨ ((B7 (C k) m).2 = 0 ∧ b = true ∧ N (k + 1) ∧ H' = T k ++ X)))
  (hR : N ms.length → Z (U ms.length)) : ACall Tryz.prog 107 [.yield l, .ro [By ms], .ptr oc 0] (U 0) (fun _ H' => Z H') := by
 refine ACall.body [] [0, 1, 2] Tryz.func107 Tryz.ntmps107 (fun d => ?_)
 refine Zs ?_;refine Z64 ?_;refine R.fin [0, 2, 8, 9, 10] ?_
 refine AW.loopC (α := Nat) (fun x => ⟨31, A2 0 (.yield l) (A2 2 (.ptr oc 0) (A2 8 (By ms) (A2 9 (A3 ms.length) (A2 10 (A3 (x : Nat)) (fun _ => .any))))), U x, [], [], none⟩) (fun x => x ≤ ms.length ∧ N x) (fun x => ms.length - x) (0) ⟨Nat.zero_le _, h0⟩ (StLe.of_eq (by simp)) rfl (fun x hx => ?_)
 refine Z57 ?_;refine R.fin [0, 2, 8, 9, 10, 11] ?_
 refine W.condX (fun ht11 => ?_) (fun ht11 => ?_)
 ·have hlt : x < ms.length := by simpa using ht11
  refine J9 ?_;refine R.indexAddr (x) (Gc ms[x]) jU jS (A9 hlt) ?_;refine W3 ?_;refine R.fin [0, 2, 5, 8, 9, 10] ?_;refine Ba ?_;refine R.loadUp jA (hc x) ?_;refine O0 ?_;refine R.call Tryz.call108 (xc (C x) (hC x) ms[x] (hm _ (List.getElem_mem hlt)) _) ?_;refine Fc ?_;refine R.fin [0, 2, 6, 7, 8, 9, 10] ?_;refine Z10 ?_;refine Z58 ?_
  refine R.yield (l := l) (args := [A4 (B7 (C x) ms[x]).1, A3 (B7 (C x) ms[x]).2]) (hy x ms[x] _ (List.getElem?_eq_getElem hlt) hx.2) ?_
  intro b V O hV hb
  have hVO : O = [AObj.cells 55 (Gb ms[x])] ∧ (((B7 (C x) ms[x]).2 ≠ 0 ∧ V.length = (U 0).length ∧ (∀ y ∈ V, ObjLow (U 0).length y) ∧ Z V) ∨ ((B7 (C x) ms[x]).2 = 0 ∧ b = true ∧ N (x + 1) ∧ V = T x)) := by
   rcases hb with ⟨h1, V', h2, h3, h4, h5⟩ | ⟨h1, h2, h3, h4⟩
   ·obtain ⟨rfl, rfl⟩ := List.append_inj h2 (by rw [hV, hlen x, h3])
    exact ⟨rfl, .inl ⟨h1, h3, h4, h5⟩⟩
   have h6 := List.append_inj h4 (by rw [hV, hlen x, hlenW x])
   exact ⟨h6.2, .inr ⟨h1, h2, h3, h6.1⟩⟩
  obtain ⟨rfl, hVO⟩ := hVO
  have hVl : V.length = (U 0).length := by rw [hV, hlen x]
  have hVw : ∀ y ∈ V, ObjLow (U 0).length y := by
   rcases hVO with ⟨_, _, h, _⟩ | ⟨_, _, _, rfl⟩
   ·exact h
   exact hlW _
  refine ⟨fun _ => by rw [hVl]; exact hVw, fun o ho => (by cases ho), ?_⟩
  refine Py ?_;refine S0 ?_;refine R.fin [0, 2, 6, 8, 9, 10, 28] ?_
  refine W.cond (fun ht28 => ?_) (fun ht28 => ?_)
  ·have hZ : Z V := by
    rcases hVO with ⟨_, _, _, h⟩ | ⟨h1, h2, _, _⟩
    ·exact h
    rw [h1, h2] at ht28; simp at ht28
   refine dl ?_;refine Z5 ?_;refine K.lpR ?_;exact K.fin .nores (hp := hZ)
  have hVn : (B7 (C x) ms[x]).2 = 0 ∧ N (x + 1) ∧ V = T x := by
   rcases hVO with ⟨h1, _, _, _⟩ | ⟨h1, _, h3, h4⟩
   ·simp [h1] at ht28
   exact ⟨h1, h3, h4⟩
  obtain ⟨hz, hN, rfl⟩ := hVn
  have hnx := hn x _ (List.getElem?_eq_getElem hlt) hz
  refine Z4 ?_;refine Z7 ?_
  refine R.storeUp jS (hcW x) ?_ ?_
  ·first | exact Bo | (simp [or_imp, forall_and]; done)
  refine R.fin [0, 2, 8, 9, 10] ?_;refine K2 ?_;refine R.fin [0, 2, 8, 9, 10] ?_;refine K.lpN (x + 1) ⟨hlt, hN⟩ (by omega) ?_
  rw [hnx]
  exact StCut.take (own := []) (fun _ => .refl _) (by repeat (first | exact Al | refine Ak (by first | (simp [or_imp, forall_and]; done) | exact H7 | (have := hlen (x + 1); simp; omega)) ?_)) (by simp) (by simp)
 have hxe : x = ms.length := by have := hx.1; simp at ht11; omega
 refine K.lpE ?_;exact K.finN .nores (hp := by rw [hxe]; exact hR (hxe ▸ hx.2))

/-! The columns on the way through moves. -/
def colsAt (c : List Col) (ms : List Mov) : Nat → List Col
 | 0 => c
 | k + 1 => match ms[k]? with | some m => (B7 (colsAt c ms k) m).1 | none => colsAt c ms k
def Bs (c : List Col) (ms : List Mov) : Nat → List (List Col)
 | 0 => [c]
 | k + 1 => Bs c ms k ++ [colsAt c ms (k + 1)]
def NS (c : List Col) (ms : List Mov) (k : Nat) : Prop := Bf c ms = ((Bs c ms k).dropLast ++ (Bf (colsAt c ms k) (ms.drop k)).1, (Bf (colsAt c ms k) (ms.drop k)).2)
theorem Sn (c : List Col) (ms : List Mov) (k : Nat) : (Bs c ms k).dropLast ++ [colsAt c ms k] = Bs c ms k := by
 cases k with
 | zero => rfl
 | succ k => simp [Bs]
theorem Eg {c : List Col} {ms : List Mov} {k : Nat} {m : Mov} (h : ms[k]? = some m) : colsAt c ms (k + 1) = (B7 (colsAt c ms k) m).1 := by rw [colsAt, h]
theorem Io {ms : List Mov} {k : Nat} {m : Mov} (hk : ms[k]? = some m) : ms.drop k = m :: ms.drop (k + 1) := by
 obtain ⟨h1, h2⟩ := List.getElem?_eq_some_iff.1 hk
 rw [List.drop_eq_getElem_cons h1, h2]
theorem pa {c : List Col} {ms : List Mov} : NS c ms 0 := rfl
theorem So {c : List Col} {ms : List Mov} {k : Nat} {m : Mov} (hk : ms[k]? = some m) (h : NS c ms k) (he : (B7 (colsAt c ms k) m).2 = 0) : NS c ms (k + 1) := by
 unfold NS at h ⊢
 rw [h, Io hk]
 have e : Bf (colsAt c ms k) (m :: ms.drop (k + 1)) = (colsAt c ms k :: (Bf (B7 (colsAt c ms k) m).1 (ms.drop (k + 1))).1, (Bf (B7 (colsAt c ms k) m).1 (ms.drop (k + 1))).2) := by
  rw [Bf, if_neg (by rw [he]; simp)]
 have e2 : (Bs c ms (k + 1)).dropLast = Bs c ms k := by simp [Bs]
 rw [e, e2, Eg hk]
 have e3 := Sn c ms k
 refine Prod.ext ?_ rfl
 show (Bs c ms k).dropLast ++ (colsAt c ms k :: _) = Bs c ms k ++ _
 conv => rhs; rw [← e3]
 simp
theorem Xd {c : List Col} {ms : List Mov} {k : Nat} {m : Mov} (hk : ms[k]? = some m) (h : NS c ms k) (he : (B7 (colsAt c ms k) m).2 ≠ 0) : (Bf c ms).2 = (B7 (colsAt c ms k) m).2 := by
 unfold NS at h
 rw [h, Io hk, Bf, if_pos (by simpa using he)]
theorem Xe {c : List Col} {ms : List Mov} (h : NS c ms ms.length) : Bf c ms = (Bs c ms ms.length, 0) := by
 unfold NS at h
 rw [h, List.drop_length, Bf]
 exact Prod.ext (Sn c ms ms.length) rfl
theorem V0 {c : List Col} {m : Mov} (hc : OkCols c) (h : OkMov m) : OkCols (B7 c m).1 := by
 have h0 : OkCols ([] : List Col) := ⟨by decide, fun y hy => by cases hy⟩
 unfold B7
 split
 ·exact h0
 split
 ·exact h0
 split
 ·exact h0
 exact Ov hc (Ou h) (by rw [Ee]; exact h.gives2)
theorem Fx {c : List Col} {ms : List Mov} (hc : OkCols c) (h : ∀ m ∈ ms, OkMov m) : ∀ k, OkCols (colsAt c ms k)
 | 0 => hc
 | k + 1 => by
  rw [colsAt]
  cases hk : ms[k]? with
  | none => exact Fx hc h k
  | some m => exact V0 (Fx hc h k) (h m (List.mem_of_getElem? hk))
theorem Fg (c : List Col) (ms : List Mov) : ∀ k, (Bs c ms k).length = k + 1
 | 0 => rfl
 | k + 1 => by rw [Bs, List.length_append, Fg c ms k]; rfl
theorem Xf {c : List Col} {ms : List Mov} (h : Gw c ms = true) (hk : OkMovs ms) : (∀ m ∈ ms, MvOk m) ∧ ms.length ≤ 8 := by
 unfold Gw I1 at h
 simp only [Bool.and_eq_true, decide_eq_true_eq, List.all_eq_true] at h
 exact ⟨fun m hm => la (hk.each m hm) (Lt (h.2.2 m hm)), by omega⟩
theorem R1 {c : List Col} {ms : List Mov} (h : Gw c ms = false) : Aw c ms = ([], 1) := by
 have : C9 c ms = ([], 1) := if_neg (by rw [h]; simp)
 unfold Aw
 rw [this]; rfl
theorem Oy {c : List Col} {ms : List Mov} (h : Gw c ms = true) (he : (Bf c ms).2 ≠ 0) : Aw c ms = ([], (Bf c ms).2) := by
 have : C9 c ms = Bf c ms := if_pos h
 unfold Aw
 rw [this, if_pos (by simpa using he)]
theorem R2 {c : List Col} {ms : List Mov} {o : List (List Col)} (h : Gw c ms = true) (he : Bf c ms = (o, 0)) : Aw c ms = (o, 0) := by
 have : C9 c ms = Bf c ms := if_pos h
 unfold Aw
 rw [this, he]; rfl
abbrev Xg (l : List (List Col)) : AV := .slice false 1 (l.map A4)
theorem F1 {n k : Nat} {o : Bool} {l : List (List Col)} : Low n (.slice o k (l.map A4)) := low_slice.2 fun y hy => by
 obtain ⟨m, _, rfl⟩ := List.mem_map.1 hy
 exact Bo
theorem xq {U : List AObj} {i j : Nat} {x y : AObj} (h : U[i]? = some x) (hne : j ≠ i) : (U.set j y)[i]? = some x := by rw [List.getElem?_set_ne hne]; exact h
theorem be {n k : Nat} {o : Bool} {l : List (List Col)} {c : List Col} : Low n (.slice o k (l.map A4 ++ [A4 c])) := by
 have := F1 (n := n) (k := k) (o := o) (l := l ++ [c])
 rwa [List.map_append] at this
theorem c56 (c : List Col) (hc : OkCols c) (hc2 : c.length ≤ 1000000) (l : List Mov) (h : OkMovs l) (Hp : List AObj) : AFun Tryz.prog 56 [A4 c, By l] Hp (.tup [Xg (Aw c l).1, A3 (Aw c l).2]) := by
 refine ACall.body [.cell 4 37, .cell 5 28] [0, 1, 7, 8] Tryz.func56 Tryz.ntmps56 (fun d => ?_)
 refine dp ?_;refine R.alloc jZ ?_;refine R.fin [0, 1, 4, 5, 7, 8] ?_;refine Nq ?_;refine R.call Tryz.call80 (c80 c hc l h _) ?_;refine R.not ?_;refine R.fin [0, 1, 4, 5, 7, 8, 12] ?_
 refine W.cond (fun ht12 => ?_) (fun ht12 => ?_)
 ·have hm := R1 (by simpa using ht12)
  refine Ba ?_;refine G9 ?_;refine R.nilOwn 0 1 ?_;refine G9 ?_;refine Z93 ?_;exact K.fin (V.two (V.cell jA) (V.cell jA)) ⟨by rw [hm]; rfl, rfl⟩
 have hmay : Gw c l = true := by simpa using ht12
 obtain ⟨hmv, hl8⟩ := Xf hmay h
 refine Z96 ?_;refine R.call Tryz.call81 (c81 c hc2 _) ?_;refine H0 ?_;refine R.alloc jZ ?_;refine R.storeOwnT jS ?_;refine R.fin [0, 1, 4, 5, 6, 7, 8] ?_;refine Z16 ?_
 refine R.assumeLow (fun hlow => ?_)
 refine Z58 ?_;refine R.callO Tryz.call82 (c82 c l _) ?_
 rintro _ _ ⟨rfl, rfl⟩
 refine ⟨[.cells 22 [A4 c]], by simp, ?_⟩
 rw [show oid (Hp ++ [AObj.cells 37 [AV.nil], AObj.cells 28 [A3 0], AObj.cells 37 [AV.slice true 1 [A4 c]]]).length 0 = oid Hp.length 3 by simp [oid]]
 simp only [List.cons_append, List.nil_append]
 refine R.fin [4, 5, 6, 7, 8, 18] ?_;refine AW.block ?_
 refine W.rangeV (m := 4) Tryz.call107 (fun FR as' bd' hFR has hbd => ?_)
 have hFRl : ∀ s, Low (Hp.length + 6) (FR s) := by
  intro s
  rw [hFR]
  refine Low.strip ?_
  revert s
  repeat (first | exact Al | refine Ak (by first | (simp [oid, or_imp, forall_and]; done) | (simp [oid, or_imp, forall_and]; exact ⟨fun m _ a _ => B0 _ a, fun m _ a _ => B0 _ a⟩) | (simp [oid, or_imp, forall_and] <;> omega)) ?_)
 have hOl : ∀ {e : Int} {o : List (List Col)} {q : List Col} {lp : AObj}, ObjLow (Hp.length + 6) lp → ∀ x ∈ Hp ++ [AObj.cells 37 [AV.nil], AObj.cells 28 [A3 e], AObj.cells 37 [AV.slice true 1 ((o).map A4)], AObj.cells 22 [A4 (q)], AObj.defs, lp], ObjLow (Hp.length + 6) x := by
  intro e o q lp hlp x hx
  refine Gn (fun x hx => ObjLow.le (by omega) (hlow x hx)) (fun x hx => ?_) x hx
  simp only [List.mem_cons, List.mem_nil_iff, or_false] at hx
  rcases hx with rfl | rfl | rfl | rfl | rfl | rfl
  ·intro y hy; rw [List.mem_singleton.1 hy]; simp
  ·intro y hy; rw [List.mem_singleton.1 hy]; simp
  ·intro y hy; rw [List.mem_singleton.1 hy]; exact F1
  ·intro y hy; rw [List.mem_singleton.1 hy]; exact Bo
  ·trivial
  exact hlp
 refine ⟨_, xp (oid Hp.length 5) (oid Hp.length 3) l hmv (by omega) (colsAt c l) (Fx hc fun m hm => h.each m hm) (fun k => Hp ++ [AObj.cells 37 [AV.nil], AObj.cells 28 [A3 0], AObj.cells 37 [AV.slice true 1 ((Bs c l k).map A4)], AObj.cells 22 [A4 (colsAt c l k)], AObj.defs, AObj.loop LoopState.ready none FR 29 #[19, 20] as' bd' (oid Hp.length 4)]) (fun k => Hp ++ [AObj.cells 37 [AV.nil], AObj.cells 28 [A3 0], AObj.cells 37 [AV.slice true 1 ((Bs c l (k + 1)).map A4)], AObj.cells 22 [A4 (colsAt c l k)], AObj.defs, AObj.loop LoopState.ready none FR 29 #[19, 20] as' bd' (oid Hp.length 4)]) (NS c l) (fun V => (∃ (o : List (List Col)) (q : List Col), V = Hp ++ [AObj.cells 37 [AV.nil], AObj.cells 28 [A3 0], AObj.cells 37 [AV.slice true 1 ((o).map A4)], AObj.cells 22 [A4 (q)], AObj.defs, AObj.loop LoopState.ready none FR 29 #[19, 20] as' bd' (oid Hp.length 4)] ∧ Bf c l = (o, 0)) ∨ (∃ (e : Int) (o : List (List Col)) (q : List Col), V = Hp ++ [AObj.cells 37 [AV.nil], AObj.cells 28 [A3 e], AObj.cells 37 [AV.slice true 1 ((o).map A4)], AObj.cells 22 [A4 (q)], AObj.defs, AObj.loop LoopState.done (some Code.ret) FR 29 #[19, 20] as' bd' (oid Hp.length 4)] ∧ e ≠ 0 ∧ (Bf c l).2 = e)) (fun k => by simp) (fun k => by simp) (by simp [oid]) (by simp [oid]) (fun k => (fun x hx => by rw [List.length_append]; exact hOl (lp := AObj.loop LoopState.ready none FR 29 #[19, 20] as' bd' (oid Hp.length 4)) (by exact ⟨hFRl, by simp [oid]⟩) x hx)) (fun k => (fun x hx => by rw [List.length_append]; exact hOl (lp := AObj.loop LoopState.ready none FR 29 #[19, 20] as' bd' (oid Hp.length 4)) (by exact ⟨hFRl, by simp [oid]⟩) x hx)) pa (fun k => by rw [Bu]; rfl) (fun k => by rw [Bu]; rfl) (fun k m hk he => by rw [Fp]; simp only [Eg hk]; rfl) (fun k m X hk hN => ?_) (fun hN => .inl ⟨_, _, rfl, Xe hN⟩), ?_⟩
 ·generalize hV : Hp ++ [AObj.cells 37 [AV.nil], AObj.cells 28 [A3 0], AObj.cells 37 [AV.slice true 1 ((Bs c l k).map A4)], AObj.cells 22 [A4 (colsAt c l k)], AObj.defs, AObj.loop LoopState.ready none FR 29 #[19, 20] as' bd' (oid Hp.length 4)] ++ X = V
  have hL : V[oid Hp.length 5]? = some (AObj.loop LoopState.ready none FR 29 #[19, 20] as' bd' (oid Hp.length 4)) := by rw [← hV, List.append_assoc, Bu]; rfl
  have hA0 : V[oid Hp.length 2]? = some (AObj.cells 37 [AV.slice true 1 ((Bs c l k).map A4)]) := by rw [← hV, List.append_assoc, Bu]; rfl
  have hB0 : V[oid Hp.length 0]? = some (AObj.cells 37 [AV.nil]) := by rw [← hV, List.append_assoc, Bu]; rfl
  have hC0 : V[oid Hp.length 1]? = some (AObj.cells 28 [A3 0]) := by rw [← hV, List.append_assoc, Bu]; rfl
  refine AYield.ofRound (pd := none) (fr := FR) (sz := 29) (ps := #[19, 20]) (df := oid Hp.length 4) (asg := as') (bd := bd') hL rfl (by decide) (fun d => ?_)
  subst hFR has hbd
  refine W.keep [4, 5, 6, 19, 20] ?_;refine Z1 ?_;refine R.fin [4, 5, 6, 7, 20] ?_;refine di ?_;refine R.fin [4, 5, 6, 7, 8] ?_
  refine ⟨rfl, none, hL, ?_⟩
  generalize hbz : (AObj.loop LoopState.busy _ _ _ _ _ _ _) = bz
  have hA : (V.set (oid Hp.length 5) bz)[oid Hp.length 2]? = some (AObj.cells 37 [AV.slice true 1 ((Bs c l k).map A4)]) := by rw [List.getElem?_set_ne (Cs (by decide))]; exact hA0
  have hB : (V.set (oid Hp.length 5) bz)[oid Hp.length 0]? = some (AObj.cells 37 [AV.nil]) := by rw [List.getElem?_set_ne (Cs (by decide))]; exact hB0
  have hC : (V.set (oid Hp.length 5) bz)[oid Hp.length 1]? = some (AObj.cells 28 [A3 0]) := by rw [List.getElem?_set_ne (Cs (by decide))]; exact hC0
  refine AW.block ?_;refine Gs ?_;refine R.fin [4, 5, 6, 7, 8, 22] ?_
  refine W.cond (fun ht22 => ?_) (fun ht22 => ?_)
  ·have he : (B7 (colsAt c l k) m).2 ≠ 0 := by simpa using ht22
   refine Z0 ?_
   refine R.storeUp jS hB ?_ ?_
   ·simp
   refine R.storeUp jS (xq hC (Cs (by decide))) ?_ ?_
   ·simp
   refine R.fin [] ?_;refine dl ?_;refine K.blR ?_
   subst hbz
   refine K.rdR (Tj hL (Cs (by decide)) (Cs (by decide))) ?_
   refine .inl ⟨he, Hp ++ [AObj.cells 37 [AV.nil], AObj.cells 28 [A3 (B7 (colsAt c l k) m).2], AObj.cells 37 [AV.slice true 1 ((Bs c l k).map A4)], AObj.cells 22 [A4 (colsAt c l k)], AObj.defs, _], ?_, by simp, (fun x hx => by rw [List.length_append]; exact hOl (lp := _) (by exact ⟨hFRl, by simp [oid]⟩) x hx), .inr ⟨_, _, _, rfl, he, Xd hk hN he⟩⟩
   subst hV
   simp only [List.append_assoc, Fp, List.cons_append, List.nil_append, List.set_cons_succ, List.set_cons_zero]
  have he : (B7 (colsAt c l k) m).2 = 0 := by simpa using ht22
  refine Z4 ?_;refine Hh ?_;refine R.loadUpT jA hA ?_;refine jb ?_
  refine R.append jU Tryz.type22 ?_ ?_ ?_
  ·have hol := Fg c l k; have hkl := (List.getElem?_eq_some_iff.1 hk).1; simp [Tryz.t22]; omega
  ·have hol := Fg c l k; have hkl := (List.getElem?_eq_some_iff.1 hk).1; simp [Tryz.t22]; omega
  refine R.storeUpT jS (Ay hA) ?_ ?_
  ·exact be
  refine dw ?_
  subst hbz
  refine K.rdN (Tj hL (Cs (by decide)) (Cs (by decide))) ?_
  refine .inr ⟨he, rfl, So hk hN he, ?_⟩
  subst hV
  simp only [List.append_assoc, Fp, List.cons_append, List.nil_append, List.set_cons_succ, List.set_cons_zero]
  rw [Bs, Eg hk, List.map_append]
  rfl
 rintro r H' (⟨o, q, rfl, hrun⟩ | ⟨e, o, q, rfl, hne, hrun⟩)
 ·refine ⟨Hp, _, _, _, rfl, rfl, fun h => h, ?_, rfl, by simp, ?_⟩
  ·intro o ho
   have : o = oid Hp.length 4 := by simpa using ho
   subst this
   rw [Bu]
   rfl
  refine Z6 ?_;refine dj ?_;refine G9 ?_;refine G9 ?_;refine Z13 ?_;exact K.fin (V.two (V.cell jA) (V.cell jA)) ⟨by rw [R2 hmay hrun], rfl⟩ (hlow := by simp only [My, List.mem_cons, List.mem_nil_iff, or_false]; rintro y (rfl | rfl); exact F1; simp)
 refine ⟨Hp, _, _, _, rfl, rfl, fun h => h, ?_, rfl, by simp, ?_⟩
 ·intro o ho
  have : o = oid Hp.length 4 := by simpa using ho
  subst this
  rw [Bu]
  rfl
 refine W.nilOwn 0 1 ?_;refine AW.ret ?_;refine Z5 ?_;exact K.fin (V.two (V.cell jA) (V.cell jA)) ⟨by rw [Oy hmay (by rw [hrun]; exact hne), hrun]; rfl, rfl⟩

theorem bf (c : List Col) (ms : List Mov) : (Bf c ms).1 ≠ [] := by
 cases ms with
 | nil => simp [Bf]
 | cons m r =>
  rw [Bf]
  split <;> simp
theorem Oz : ∀ (c : List Col) (ms : List Mov), (Bf c ms).1.length ≤ ms.length + 1
 | c, [] => by simp [Bf]
 | c, m :: r => by
  rw [Bf]
  split
  ·simp
  have := Oz (B7 c m).1 r
  simp only [List.length_cons]
  omega
theorem Lx {c : List Col} {ms : List Mov} (h : ((Aw c ms).2 != 0) = false) : (Aw c ms).1 ≠ [] ∧ (Aw c ms).1.length ≤ 9 := by
 unfold Aw at h ⊢
 by_cases h1 : ((C9 c ms).2 != 0) = true
 ·rw [if_pos h1] at h
  rw [h1] at h; cases h
 rw [if_neg h1]
 by_cases h2 : Gw c ms = true
 ·have e : C9 c ms = Bf c ms := if_pos h2
  rw [e]
  have h3 : ms.length ≤ 8 := by
   unfold Gw I1 at h2
   simp only [Bool.and_eq_true, decide_eq_true_eq] at h2
   omega
  have := Oz c ms
  exact ⟨bf c ms, by omega⟩
 have e : C9 c ms = ([], 1) := if_neg h2
 rw [e] at h1
 exact absurd rfl h1
theorem V1 {l : List (List Col)} (h : l ≠ []) : (l.map A4)[l.length - 1]? = some (A4 (l.getLastD [])) := by
 have h1 : 0 < l.length := List.length_pos_iff.2 h
 rw [List.getElem?_map, List.getElem?_eq_getElem (by omega), ← List.getLast_eq_getElem (h := h), List.getLastD_eq_getLast?, List.getLast?_eq_some_getLast h]
 rfl
theorem c36 (c : List Col) (hc : OkCols c) (hc2 : c.length ≤ 1000000) (l : List Mov) (h : OkMovs l) (Hp : List AObj) : AFun Tryz.prog 36 [A4 c, By l] Hp (.tup [A4 (Ao c l).1, A3 (Ao c l).2]) := by
 refine ACall.body [.tmp 4, .tmp 5] [0, 1] Tryz.func36 Tryz.ntmps36 (fun d => ?_)
 refine No ?_;refine Z32 ?_;refine R.call Tryz.call56 (c56 c hc hc2 l h _) ?_;refine Fc ?_;refine R.fin [6, 7] ?_;refine Gs ?_;refine R.fin [6, 7, 15] ?_
 refine W.cond (fun ht15 => ?_) (fun ht15 => ?_)
 ·have hm : Ao c l = ([], (Aw c l).2) := if_pos ht15
  exact Zv
 have hm : Ao c l = ((Aw c l).1.getLastD [], 0) := if_neg (by rw [ht15]; simp)
 obtain ⟨hne, hl9⟩ := Lx ht15
 have hl0 : 0 < (Aw c l).1.length := List.length_pos_iff.2 hne
 refine Tt ?_;refine R.len jU ?_
 rw [List.length_map]
 refine R.sub64 (h1 := by omega) (h2 := by omega) ?_;refine R.indexAddr (((Aw c l).1.length - 1)) (A4 ((Aw c l).1.getLastD [])) jU jS (V1 hne) ?_;refine Dw ?_;exact cx

theorem ACall.argLe {P : Program} {g : FuncId} {args args' : List AV} {H : List AObj} {post : AV → List AObj → Prop} (h : ACall P g args' H post) (hl : args.length = args'.length) (hle : ∀ (i : Nat) (y y' : AV), args[i]? = some y → args'[i]? = some y' → Le y y') : ACall P g args H post :=
 fun d G w vs h1 h2 h3 h4 => h d G w vs (h1.trans hl) (fun i y u hy hu => by
  have hi : i < args.length := by rw [hl]; exact (List.getElem?_eq_some_iff.1 hy).1
  exact (h2 i _ u (List.getElem?_eq_getElem hi) hu).le (hle i _ y (List.getElem?_eq_getElem hi) hy)) h3 h4
theorem J5 (s : Str) : Le (.agg [A3 2, A7 s, A3 0, A3 0, A7 [], .nil]) (A5 (An s)) := by
 rw [Bg]
 refine .agg _ _ rfl (fun y hy => ?_) (fun i y y' hy hy' => ?_)
 ·simp only [Cx, List.mem_cons, List.mem_nil_iff, or_false] at hy
  rcases hy with rfl | rfl | rfl | rfl | rfl | rfl <;> rfl
 match i with
 | 0 => simp at hy; subst hy; simp [Cx, An] at hy'; subst hy'; exact .inl rfl
 | 1 => simp at hy; subst hy; simp [Cx, An] at hy'; subst hy'; exact .inl rfl
 | 2 => simp at hy; subst hy; simp [Cx, An] at hy'; subst hy'; exact .inl rfl
 | 3 => simp at hy; subst hy; simp [Cx, An] at hy'; subst hy'; exact .inl rfl
 | 4 => simp at hy; subst hy; simp [Cx, An] at hy'; subst hy'; exact .inl rfl
 | 5 => simp at hy; subst hy; simp [Cx, An] at hy'; subst hy'; exact .inr ⟨rfl, 6, rfl⟩
 | i + 6 => simp at hy
theorem uw (x : Expr) (hx : okE 61 x) (s : Str) (Hp : List AObj) : AFun Tryz.prog 69 [A5 x, .agg [A3 2, A7 s, A3 0, A3 0, A7 [], .nil]] Hp (Am (eqE x (An s))) :=
 ACall.argLe (c69 61 x hx (An s) Hp) rfl fun i y y' hy hy' => by
  match i with
  | 0 => simp at hy hy'; subst hy; subst hy'; exact .refl _
  | 1 => simp only [List.getElem?_cons_succ, List.getElem?_cons_zero, Option.some.injEq] at hy hy'; subst hy; subst hy'; exact J5 s
  | i + 2 => simp at hy
def Gf (m : Mov) : Bool :=
 if m.kind == 1 then ((m.take.length : Int) == 0) && ((m.give.length : Int) == 1)
 else if m.kind == 2 then ((m.take.length : Int) == 1) && ((m.give.length : Int) == 0)
 else if (m.kind == 3) || (m.kind == 6) then ((m.take.length : Int) == 1) && ((m.give.length : Int) == 1)
 else if m.kind == 4 then ((m.take.length : Int) == 1) && decide ((2 : Int) ≤ (m.give.length : Int))
 else if m.kind == 5 then decide ((2 : Int) ≤ (m.take.length : Int)) && ((m.give.length : Int) == 1)
 else false
theorem g7 (n : Nat) : decide ((1 : Int) < (n : Int)) = decide ((2 : Int) ≤ (n : Int)) := by
 by_cases h : 2 ≤ n
 ·have h1 : (1 : Int) < n := by omega
  have h2 : (2 : Int) ≤ n := by omega
  simp [h1, h2]
 have h1 : ¬ (1 : Int) < n := by omega
 have h2 : ¬ (2 : Int) ≤ n := by omega
 simp [h1, h2]
theorem g8 {m : Mov} (h : (((m.ahead.length : Int) != (m.give.length : Int)) || ((m.back.length : Int) != (m.take.length : Int))) = false) : Cy m = Gf m := by
 rw [Uy h, g7, g7]
 rfl
theorem bg (k : Int) : (Bn k == ([] : Str)) = (decide (k < 1) || decide (3 < k)) := by
 unfold Bn
 by_cases h : k < 1 ∨ 3 < k
 ·rw [if_pos (by first | exact h | omega)]
  rcases h with h | h <;> simp [h]
 rw [if_neg (by first | exact h | omega)]
 have hk : k = 1 ∨ k = 2 ∨ k = 3 := by omega
 rcases hk with rfl | rfl | rfl <;> rfl
theorem R3 {m : Mov} {c : Col} : (((!(Bw c.name)) || ((m.kind == 3) && (c.kind != 0))) || ((m.kind != 3) && (decide (c.kind < 1) || decide (3 < c.kind)))) = !Ez m c := by
 rw [← bg]
 unfold Ez
 rw [show (m.kind != 3) = !(m.kind == 3) from rfl]
 cases h3 : (m.kind == 3) with
 | false => cases Bw c.name <;> cases (Bn c.kind == ([] : Str)) <;> cases (c.kind != 0) <;> rfl
 | true =>
  by_cases h0 : c.kind = 0
  ·have e : (Bn c.kind == ([] : Str)) = true := by rw [h0]; rfl
   have e0 : (c.kind != 0) = false := by rw [h0]; rfl
   rw [e, e0]
   cases Bw c.name <;> rfl
  have e0 : (c.kind != 0) = true := by simpa using h0
  rw [e0]
  cases Bw c.name <;> cases (Bn c.kind == ([] : Str)) <;> rfl
theorem N1 (l : List Expr) : l.all Aa = l.all Ad := by
 congr 1
 funext e
 exact (Bx e).symm
theorem ld {m : Mov} (h : (((((m.ahead.length : Int) != (m.give.length : Int)) || ((m.back.length : Int) != (m.take.length : Int))) || (!(m.ahead.all Aa))) || (!(m.back.all Aa))) = true) : D9 m = false := by
 rw [N1, N1] at h
 unfold D9
 cases h1 : (((m.ahead.length : Int) != (m.give.length : Int)) || ((m.back.length : Int) != (m.take.length : Int))) with
 | true => rw [Ux h1]; rfl
 | false =>
  rw [h1] at h
  cases h2 : m.ahead.all Ad <;> cases h3 : m.back.all Ad <;> simp_all
theorem lf {m : Mov} (h : (((((m.ahead.length : Int) != (m.give.length : Int)) || ((m.back.length : Int) != (m.take.length : Int))) || (!(m.ahead.all Aa))) || (!(m.back.all Aa))) = false) : Cy m = Gf m ∧ D9 m = (((Gf m && m.give.all (Ez m)) && m.take.all Bw) && Gd m) := by
 rw [N1, N1] at h
 simp only [Bool.or_eq_false_iff, Bool.not_eq_false'] at h
 have hk := g8 (m := m) (by simp only [Bool.or_eq_false_iff]; exact h.1.1)
 refine ⟨hk, ?_⟩
 unfold D9
 rw [hk, h.1.2, h.2]
 simp
theorem lg {m : Mov} (h6 : (m.kind == 6) = false) : Gd m = ((m.kind != 3) || (eqE (m.ahead.getD 0 A8) (An (m.take.getD 0 [])) && eqE (m.back.getD 0 A8) (An (m.give.getD 0 ⟨[], 0⟩).name))) := by
 rw [show (m.kind != 3) = !(m.kind == 3) from rfl]
 cases h : (m.kind == 3) with
 | true => rw [fx h]; rfl
 | false => rw [g6 h h6]; rfl
theorem lh {m : Mov} (h6 : (m.kind == 6) = true) : Gd m = (m.take.getD 0 [] == (m.give.getD 0 ⟨[], 0⟩).name) := g5 (by simp at h6 ⊢; omega) h6
theorem c46 (m : Mov) (h : OkMov m) (Hp : List AObj) : AFun Tryz.prog 46 [Gc m] Hp (Am (D9 m)) := by
 refine ACall.body [.tmp 2] [0] Tryz.func46 Tryz.ntmps46 (fun d => ?_)
 refine Z89 ?_;refine W.draw [0, 1, 3, 0, 8, 24, 7, 127] 7 Ah (by kernel_rfl) ?_;refine cw ?_;refine D.len jU ?_;refine j1 ?_;refine D.len jU ?_;refine Zx ?_;refine Ny ?_;refine Z16 ?_
 simp only [List.length_map]
 refine d8 ?_;refine Z64 ?_;refine R.neq ?_;refine Av ?_;refine j4 ?_;refine G.len jU ?_;refine Wb ?_;refine Av ?_;refine G.fieldAddrRo (off := 3) jU Tryz.sizeOf53 ?_;refine K3 ?_;refine G.call Tryz.call68 (fun hB => c68 m.ahead h.ahead _) ?_;refine Np ?_;refine Av ?_;refine j4 ?_;refine G.call Tryz.call68 (fun hB => c68 m.back h.back _) ?_;refine Np ?_;refine R.fin [1, 3, 4, 38] ?_
 refine W.cond (fun ht38 => ?_) (fun ht38 => ?_)
 ·simp only [List.length_map] at ht38
  have hm := ld ht38
  exact dq
 simp only [List.length_map] at ht38
 obtain ⟨hck, hm0⟩ := lf ht38
 refine Z4 ?_;refine Z1 ?_;refine R.fin [1, 3, 4, 5] ?_
 refine W.join ⟨178, A2 1 (.ro (Gb m)) (A2 3 (A3 (m.take.length : Nat)) (A2 4 (A3 (m.give.length : Nat)) (A2 5 (Am (Gf m)) (fun _ => .any)))), Hp, [], [], none⟩ ?_ ?_
 ·refine Nr ?_;refine R.fin [1, 3, 4, 5, 40] ?_;refine Ld ?_;refine R.fin [1, 3, 4, 5, 40, 41] ?_
  refine W.cond (fun ht41 => ?_) (fun ht41 => ?_)
  ·refine Z7 ?_;refine R.eql ?_;refine dz ?_;refine K.thJ ?_;exact StLe.of_eq (by unfold Gf; first | (simp only [ht38, ht41, hk3, hk6, Bool.true_or, Bool.false_or, Bool.or_true, Bool.or_false, if_true, if_false, Bool.false_eq_true, ↓reduceIte] <;> rfl) | (simp only [ht38, ht41, hk3, Bool.true_or, Bool.false_or, Bool.or_true, if_true, if_false, Bool.false_eq_true, ↓reduceIte] <;> rfl) | (simp only [ht38, ht41, if_true, if_false, Bool.false_eq_true, ↓reduceIte] <;> rfl))
  refine Z37 ?_;refine R.fin [1, 3, 4, 5, 40, 49] ?_
  refine W.cond (fun ht49 => ?_) (fun ht49 => ?_)
  ·refine Z7 ?_;refine R.eql ?_;refine dz ?_;refine K.thJ ?_;exact StLe.of_eq (by unfold Gf; first | (simp only [ht38, ht41, ht49, hk3, hk6, Bool.true_or, Bool.false_or, Bool.or_true, Bool.or_false, if_true, if_false, Bool.false_eq_true, ↓reduceIte] <;> rfl) | (simp only [ht38, ht41, ht49, hk3, Bool.true_or, Bool.false_or, Bool.or_true, if_true, if_false, Bool.false_eq_true, ↓reduceIte] <;> rfl) | (simp only [ht38, ht41, ht49, if_true, if_false, Bool.false_eq_true, ↓reduceIte] <;> rfl))
  refine Z16 ?_;refine Z22 ?_;refine R.fin [1, 3, 4, 5, 40, 57] ?_
  refine W.cond (fun ht57 => ?_) (fun ht57 => ?_)
  ·have hk3 := ht57
   refine Z4 ?_
   refine W.cond (fun ht57 => ?_) (fun ht57 => ?_)
   ·refine Z7 ?_;refine R.eql ?_;refine dz ?_;exact Z72
   rw [hk3] at ht57; cases ht57
  have hk3 := ht57
  refine Hh ?_;refine Z22 ?_;refine R.fin [1, 3, 4, 5, 40, 57] ?_;refine K.thN ?_
  refine W.cond (fun ht57 => ?_) (fun ht57 => ?_)
  ·have hk6 := ht57
   refine Z7 ?_;refine R.eql ?_;refine dz ?_;exact Z72
  have hk6 := ht57
  refine Z37 ?_;refine R.fin [1, 3, 4, 5, 40, 66] ?_
  refine W.cond (fun ht66 => ?_) (fun ht66 => ?_)
  ·refine Z7 ?_;refine R.eql ?_;refine Z14 ?_;refine G.geq ?_;refine Z25 ?_;refine qe ?_;refine K.thJ ?_;exact StLe.of_eq (by unfold Gf; first | (simp only [ht38, ht41, ht49, ht57, ht57, ht66, hk3, hk6, Bool.true_or, Bool.false_or, Bool.or_true, Bool.or_false, if_true, if_false, Bool.false_eq_true, ↓reduceIte] <;> rfl) | (simp only [ht38, ht41, ht49, ht57, ht57, ht66, hk3, Bool.true_or, Bool.false_or, Bool.or_true, if_true, if_false, Bool.false_eq_true, ↓reduceIte] <;> rfl) | (simp only [ht38, ht41, ht49, ht57, ht57, ht66, if_true, if_false, Bool.false_eq_true, ↓reduceIte] <;> rfl))
  refine Z37 ?_;refine R.fin [1, 3, 4, 5, 74] ?_
  refine W.cond (fun ht74 => ?_) (fun ht74 => ?_)
  ·refine Z7 ?_;refine R.geq ?_;refine dz ?_;exact Z66
  refine W.keep [1, 3, 4, 5] ?_;refine AW.skip ?_;refine K.blN ?_;exact Z66
 refine Z10 ?_;refine R.not ?_;refine R.fin [1, 3, 4, 83] ?_
 refine W.cond (fun ht83 => ?_) (fun ht83 => ?_)
 ·have hkf : Gf m = false := by simpa using ht83
  have hm : D9 m = false := by rw [hm0, hkf]; rfl
  exact dq
 have hkm : Gf m = true := by simpa using ht83
 have hct : Cy m = true := hck.trans hkm
 obtain ⟨hl3, hl4⟩ := E9 hct
 refine Kx ?_;refine R.fin [1, 3, 4, 6] ?_
 refine AW.loopC (α := Nat) (fun x => ⟨178, A2 1 (.ro (Gb m)) (A2 3 (A3 (m.take.length : Nat)) (A2 4 (A3 (m.give.length : Nat)) (A2 6 (A3 (x : Nat)) (fun _ => .any)))), Hp, [], [], none⟩) (fun x => x ≤ m.take.length ∧ ∀ (j : Nat) (y : Str), j < x → m.take[j]? = some y → (!Bw y) = false) (fun x => m.take.length - x) (0) ⟨Nat.zero_le _, fun j y h => by omega⟩ (StLe.of_eq (by simp)) rfl (fun x hx => ?_)
 refine Nq ?_;refine R.lss ?_;refine R.fin [1, 3, 4, 6, 86] ?_
 refine W.cond (fun ht86 => ?_) (fun ht86 => ?_)
 ·have hlt : x < m.take.length := by simpa using ht86
  have htk := h.takes
  refine Tn ?_;refine Z78 ?_;refine Av ?_;refine R.indexAddr (x) (A7 m.take[x]) jU jS (A9 hlt) ?_;refine Dw ?_;refine R.call Tryz.call67 (c67 m.take[x] (h.names _ (List.getElem_mem hlt)) _) ?_;refine R.not ?_;refine R.fin [1, 3, 4, 6, 95] ?_
  refine W.cond (fun ht95 => ?_) (fun ht95 => ?_)
  ·rw [← Ca] at ht95
   have hm : D9 m = false := by
    rw [hm0, List.all_eq_false.2 ⟨_, List.getElem_mem hlt, by simpa using ht95⟩]
    simp
   exact n9
  rw [← Ca] at ht95
  refine Z85 ?_;refine R.fin [1, 3, 4, 6] ?_;exact K.lpN (x + 1) ⟨hlt, Aq hlt hx.2 ht95⟩ (by omega) (StCut.of_eq rfl)
 have hxe : m.take.length ≤ x := by simpa using ht86
 have hta : m.take.all Bw = true := by have := E1 hxe hx.2; rw [E4] at this; simpa using this
 refine Wg ?_;refine R.fin [1, 4, 7] ?_
 refine AW.loopC (α := Nat) (fun k => ⟨178, A2 1 (.ro (Gb m)) (A2 4 (A3 (m.give.length : Nat)) (A2 7 (A3 (k : Nat)) (fun _ => .any))), Hp, [], [], none⟩) (fun k => k ≤ m.give.length ∧ ∀ (j : Nat) (y : Col), j < k → m.give[j]? = some y → (!Ez m y) = false) (fun k => m.give.length - k) (0) ⟨Nat.zero_le _, fun j y h => by omega⟩ (StLe.of_eq (by simp)) rfl (fun k hk => ?_)
 refine Nq ?_;refine R.lss ?_;refine R.fin [1, 4, 7, 98] ?_
 refine W.cond (fun ht98 => ?_) (fun ht98 => ?_)
 ·have hlk : k < m.give.length := by simpa using ht98
  have hgl := h.gives2
  refine Tn ?_;refine W0 ?_;refine Av ?_;refine R.indexAddr (k) (B3 m.give[k]) jU jS (A9 hlk) ?_;refine Z87 ?_;refine Ar ?_;refine R.fin [1, 4, 7, 8] ?_;refine Ba ?_;refine W0 ?_;refine Av ?_;refine R.indexAddr (k) (B3 m.give[k]) jU jS (A9 hlk) ?_;refine Z79 ?_;refine R.call Tryz.call67 (c67 m.give[k].name (h.gives.2 _ (List.getElem_mem hlk)) _) ?_;refine R.not ?_;refine Av ?_;refine j2 ?_;refine G.eql ?_;refine Wa ?_;refine G.neq ?_;refine G.pickAnd ?_;refine Zw ?_;refine j2 ?_;refine G.neq ?_;refine Wa ?_;refine G.lss ?_;refine Wa ?_;refine G.gtr ?_;refine G.pickOr ?_;refine G.pickAnd ?_;refine R.pickOr ?_;refine R.fin [1, 4, 7, 136] ?_
  refine W.cond (fun ht136 => ?_) (fun ht136 => ?_)
  ·rw [← Ca, R3] at ht136
   have hm : D9 m = false := by
    rw [hm0, List.all_eq_false.2 ⟨_, List.getElem_mem hlk, by simpa using ht136⟩]
    simp
   exact n9
  rw [← Ca, R3] at ht136
  refine Z85 ?_;refine R.fin [1, 4, 7] ?_;exact K.lpN (k + 1) ⟨hlk, Aq hlk hk.2 ht136⟩ (by omega) (StCut.of_eq rfl)
 have hke : m.give.length ≤ k := by simpa using ht98
 have hga : m.give.all (Ez m) = true := by have := E1 hke hk.2; rw [E4] at this; simpa using this
 have hm1 : D9 m = Gd m := by rw [hm0, hkm, hga, hta]; rfl
 have g1 := fun h0 => Hy (f := A5) (l := m.ahead) (d := A8) h0
 have g2 := fun h0 => Hy (f := A5) (l := m.back) (d := A8) h0
 have g3 := fun h0 => Hy (f := A7) (l := m.take) (d := []) h0
 have g4 := fun h0 => Hy (f := B3) (l := m.give) (d := ⟨[], 0⟩) h0
 refine Z47 ?_;refine W5 ?_;refine R.fin [1, 139] ?_
 refine W.cond (fun ht139 => ?_) (fun ht139 => ?_)
 ·obtain ⟨hl1, hl2⟩ := Im hct (by rw [ht139]; simp)
  have hm := hm1.trans (lh ht139)
  refine rt ?_;refine D.indexAddr (0) (A7 (m.take.getD 0 [])) jU jS (g3 (by omega)) ?_;refine H1 ?_;refine j1 ?_;refine D.indexAddr (0) (B3 (m.give.getD 0 ⟨[], 0⟩)) jU jS (g4 (by omega)) ?_;refine Vz ?_;refine D.tail ?_;refine Z11 ?_;refine Z2 ?_;exact px
 have hm := hm1.trans (lg ht139)
 have len3 : ((m.kind != 3) == false) = true → 0 < m.ahead.length ∧ 0 < m.take.length ∧ 0 < m.back.length ∧ 0 < m.give.length := fun hB => by
  obtain ⟨a1, a2⟩ := Im hct (by simp at hB; rw [hB]; rfl)
  omega
 have and3 : ∀ {b : Bool}, (((m.kind != 3) == false) && b) = true → ((m.kind != 3) == false) = true := fun h => l8 h
 refine Z4 ?_;refine W.draw [0, 1, 3, 7, 15, 31, 63, 127, 15, 271, 783, 1807, 3855, 8191, 16383, 32767, 65535, 131071, 262143, 32767, 557055, 1605631, 3702783, 7897087, 16285695, 33554431, 67108863, 134217727, 268435455] 25 Ah (by kernel_rfl) ?_;refine np ?_;refine D.neq ?_;refine D.move ?_;refine H.fieldAddrRo (off := 3) jU Tryz.sizeOf53 ?_;refine Hg ?_;refine H.indexAddr (0) (A5 (m.ahead.getD 0 A8)) jU jS (fun hB => g1 (len3 hB).1) ?_;refine H.loadRoN jA jS ?_;refine H.fieldAddrRo (off := 1) jU Tryz.sizeOf34 ?_;refine Hg ?_;refine H.indexAddr (0) (A7 (m.take.getD 0 [])) jU jS (fun hB => g3 (len3 hB).2.1) ?_;refine Hg ?_;refine H.build (places := #[(0, 1), (1, 1), (2, 3), (5, 1)]) jU (fun w => by simp) jZ ?_;refine H.call Tryz.call69 (fun hB => uw (m.ahead.getD 0 A8) (h.ahead.ok _ (H9 (len3 hB).1)) (m.take.getD 0 []) _) ?_;refine H.move ?_
 refine H.fieldAddrRo (off := 4) jU Tryz.sizeOf53 ?_;refine Hg ?_;refine H.indexAddr (0) (A5 (m.back.getD 0 A8)) jU jS (fun hB => g2 (len3 (and3 hB)).2.2.1) ?_;refine H.loadRoN jA jS ?_;refine H.fieldAddrRo (off := 2) jU Tryz.sizeOf22 ?_;refine Hg ?_;refine H.indexAddr (0) (B3 (m.give.getD 0 ⟨[], 0⟩)) jU jS (fun hB => g4 (len3 (and3 hB)).2.2.2) ?_;refine nl ?_;refine H.build (places := #[(0, 1), (1, 1), (2, 3), (5, 1)]) jU (fun w => by simp) jZ ?_;refine D.tail ?_;refine G.call Tryz.call69 (fun hB => uw (m.back.getD 0 A8) (h.back.ok _ (H9 (len3 (and3 hB)).2.2.1)) (m.give.getD 0 ⟨[], 0⟩).name _) ?_;refine G.pickAnd ?_;refine W7 ?_;exact rr

theorem c27 (l : List Mov) (h : OkMovs l) (Hp : List AObj) : AFun Tryz.prog 27 [By l] Hp (Am (I1 l)) := by
 refine ACall.body [.tmp 2] [0] Tryz.func27 Tryz.ntmps27 (fun d => ?_)
 refine Nv ?_;refine Px ?_;refine R.fin [0, 6] ?_
 refine W.cond (fun ht6 => ?_) (fun ht6 => ?_)
 ·rw [List.length_map] at ht6
  have hm : I1 l = false := by
   unfold I1
   rw [show decide ((l.length : Int) ≤ 8) = false by simp at ht6 ⊢; omega]
   rfl
  exact jm
 rw [List.length_map] at ht6
 have h8 : decide ((l.length : Int) ≤ 8) = true := by simp at ht6 ⊢; omega
 have hl8 : l.length ≤ 8 := by simp at h8; omega
 refine Kx ?_;refine Fd ?_
 refine AW.loopC (α := Nat) (fun x => ⟨19, A2 0 (By l) (A2 3 (A3 (x : Nat)) (fun _ => .any)), Hp, [], [], none⟩) (fun x => x ≤ l.length ∧ ∀ (j : Nat) (y : Mov), j < x → l[j]? = some y → (!D9 y) = false) (fun x => l.length - x) (0) ⟨Nat.zero_le _, fun j y h => by omega⟩ (StLe.of_eq (by simp)) rfl (fun x hx => ?_)
 refine Z83 ?_;refine R.fin [0, 3, 10] ?_
 refine W.cond (fun ht10 => ?_) (fun ht10 => ?_)
 ·have hlt : x < l.length := by simpa using ht10
  refine Jc ?_;refine o1 ?_;refine Ek ?_;refine R.call Tryz.call46 (c46 l[x] (h.each _ (List.getElem_mem hlt)) _) ?_;refine R.not ?_;refine R.fin [0, 3, 18] ?_
  refine W.cond (fun ht18 => ?_) (fun ht18 => ?_)
  ·have hm : I1 l = false := by
    unfold I1
    rw [List.all_eq_false.2 ⟨_, List.getElem_mem hlt, by simpa using ht18⟩]
    simp
   exact nb
  refine Z85 ?_;refine Fd ?_;exact K.lpN (x + 1) ⟨hlt, Aq hlt hx.2 ht18⟩ (by omega) (StCut.of_eq rfl)
 have hxe : l.length ≤ x := by simpa using ht10
 have hm : I1 l = true := by
  have h2 := E1 hxe hx.2
  rw [E4] at h2
  unfold I1
  rw [h8]
  simpa using h2
 exact jr

theorem li (c : List Col) (ms : List Mov) : ∀ k, ((Bs c ms k).map A4)[k]? = some (A4 (colsAt c ms k))
 | 0 => rfl
 | k + 1 => by
  have h := Fg c ms k
  rw [Bs, List.map_append, List.getElem?_append_right (by rw [List.length_map]; omega), List.length_map, h, Nat.sub_self]
  rfl
theorem Xh {c : List Col} {ms : List Mov} {k : Nat} {m : Mov} (hk : ms[k]? = some m) (h : NS c ms k) (he : (B7 (colsAt c ms k) m).2 ≠ 0) : Bf c ms = (Bs c ms k, (B7 (colsAt c ms k) m).2) := by
 unfold NS at h
 rw [h, Io hk, Bf, if_pos (by simpa using he)]
 exact Prod.ext (Sn c ms k) rfl
theorem pb {c : List Col} {l : List Mov} (h : ((!(B1 c)) || (!(I1 l))) = true) : C9 c l = ([], 1) := if_neg (by unfold Gw; cases h1 : B1 c <;> cases h2 : I1 l <;> simp_all)
theorem lj {c : List Col} {l : List Mov} (h : ((!(B1 c)) || (!(I1 l))) = false) : Gw c l = true := by unfold Gw; cases h1 : B1 c <;> cases h2 : I1 l <;> simp_all
theorem c12 (c : List Col) (hc : OkCols c) (l : List Mov) (h : OkMovs l) (Hp : List AObj) : AFun Tryz.prog 12 [A4 c, By l] Hp (.tup [Xg (C9 c l).1, A3 (C9 c l).2]) := by
 refine ACall.body [.tmp 4, .tmp 5] [0, 1] Tryz.func12 Tryz.ntmps12 (fun d => ?_)
 refine No ?_;refine Z10 ?_;refine R.call Tryz.call26 (c26 c hc _) ?_;refine Py ?_;refine G.call Tryz.call27 (fun hB => c27 l h _) ?_;refine Np ?_;refine R.fin [0, 1, 17] ?_
 refine W.cond (fun ht17 => ?_) (fun ht17 => ?_)
 ·have hm := pb ht17
  refine Z1 ?_;refine R.nilTmp 4 1 false ?_;refine Ar ?_;refine Z93 ?_;exact K.fin (V.two V.tmp V.tmp) ⟨by rw [hm]; rfl, rfl⟩
 have hmay := lj ht17
 obtain ⟨hmv, hl8⟩ := Xf hmay h
 have hmr : C9 c l = Bf c l := if_pos hmay
 refine Z96 ?_;refine Z74 ?_;refine R.fin [1, 6] ?_;refine Z52 ?_;refine R.fin [1, 6, 7] ?_
 refine AW.loopC (α := Nat) (fun x => ⟨47, A2 1 (By l) (A2 6 (.slice true 1 ((Bs c l x).map A4)) (A2 7 (A3 (x : Nat)) (fun _ => .any))), Hp, [], [], none⟩) (fun x => x ≤ l.length ∧ NS c l x) (fun x => l.length - x) (0) ⟨Nat.zero_le _, pa⟩ (StLe.of_eq (by simp [Bs])) rfl (fun x hx => ?_)
 refine Z83 ?_;refine R.fin [1, 6, 7, 23] ?_
 refine W.cond (fun ht23 => ?_) (fun ht23 => ?_)
 ·have hlt : x < l.length := by simpa using ht23
  refine Z46 ?_;refine W.draw [0, 0, 3, 7, 0, 0, 48, 112, 255, 511, 1023, 1023, 2047, 8191] 13 Ah (by kernel_rfl) ?_;refine Z54 ?_;refine D.indexAddr (x) (A4 (colsAt c l x)) jU jS (li c l x) ?_;refine dv ?_;refine D.indexAddr (x) (Gc l[x]) jU jS (A9 hlt) ?_;refine Pz ?_;refine D.call Tryz.call28 (c28 (colsAt c l x) (Fx hc (fun m hm => h.each m hm) x) l[x] (hmv _ (List.getElem_mem hlt)) _) ?_;refine D.move ?_;refine D.extract ?_;refine D.extract ?_;refine Zx ?_;refine R.fin [1, 6, 7, 8, 9] ?_;refine Gs ?_;refine R.fin [1, 6, 7, 8, 9, 39] ?_
  refine W.cond (fun ht39 => ?_) (fun ht39 => ?_)
  ·have he : (B7 (colsAt c l x) l[x]).2 ≠ 0 := by simpa using ht39
   have hm : C9 c l = (Bs c l x, (B7 (colsAt c l x) l[x]).2) := hmr.trans (Xh (List.getElem?_eq_getElem hlt) hx.2 he)
   refine Z32 ?_;refine Z65 ?_;refine K.thR ?_;refine Z61 ?_;exact sy
  have he : (B7 (colsAt c l x) l[x]).2 = 0 := by simpa using ht39
  refine We ?_;refine jb ?_
  refine R.append jU Tryz.type22 ?_ ?_ ?_
  ·have hol := Fg c l x; simp [Tryz.t22]; omega
  ·have hol := Fg c l x; simp [Tryz.t22]; omega
  refine Fq ?_;refine R.fin [1, 6, 7] ?_;refine Z90 ?_;refine R.fin [1, 6, 7] ?_
  refine K.lpN (x + 1) ⟨hlt, So (List.getElem?_eq_getElem hlt) hx.2 he⟩ (by omega) (StCut.of_eq ?_)
  rw [Bs, Eg (List.getElem?_eq_getElem hlt), List.map_append]
  rfl
 have hxe : x = l.length := by have := hx.1; simp at ht23; omega
 have hm : C9 c l = (Bs c l x, 0) := by rw [hmr]; subst hxe; exact Xe hx.2
 refine Ts ?_;refine Z65 ?_;exact sy

theorem R4 : ∀ (ms : List Mov) (c : List Col), OkCols c → (∀ m ∈ ms, OkMov m) → ∀ x ∈ (Bf c ms).1, OkCols x
 | [], c, hc, _, x, hx => by
  simp [Bf] at hx
  rw [hx]; exact hc
 | m :: r, c, hc, h, x, hx => by
  rw [Bf] at hx
  split at hx
  ·simp at hx
   rw [hx]; exact hc
  rcases List.mem_cons.1 hx with rfl | hx
  ·exact hc
  exact R4 r _ (V0 hc (h m List.mem_cons_self)) (fun m' hm' => h m' (List.mem_cons_of_mem _ hm')) x hx
theorem Ip {c : List Col} {l : List Mov} (hc : OkCols c) (h : OkMovs l) : OkCols (Ao c l).1 := by
 have h0 : OkCols ([] : List Col) := ⟨by decide, fun y hy => by cases hy⟩
 unfold Ao
 split
 ·exact h0
 rename_i h1
 have hne := Lx (c := c) (ms := l) (by simpa using h1)
 have hmem : (Aw c l).1.getLastD [] ∈ (Aw c l).1 := by
  rw [List.getLastD_eq_getLast?, List.getLast?_eq_some_getLast hne.1]
  exact List.getLast_mem hne.1
 revert hmem
 generalize (Aw c l).1.getLastD [] = x
 intro hmem
 unfold Aw at hmem h1
 split at hmem
 ·cases hmem
 unfold C9 at hmem
 split at hmem
 ·exact R4 l c hc (fun m hm => h.each m hm) x hmem
 cases hmem
def Be (c : List Col) (l : List Mov) : List Col × List Col × List Col × Int := if (Ao c l).2 != 0 then ([], [], [], 1) else ((Ao c l).1, B2 c (Ao c l).1, B2 (Ao c l).1 c, 0)
structure Stp where
 kind : Int
 cols : List Col
abbrev V2 (s : Stp) : AV := .agg [A3 s.kind, A4 s.cols]
abbrev Fh (l : List Stp) : AV := .slice false 2 (l.map V2)
def Ab (c : List Col) (l : List Mov) : List Stp × Int := if (Be c l).2.2.2 != 0 then ([], (Be c l).2.2.2) else ([⟨1, (Be c l).2.2.1⟩, ⟨2, (Be c l).1⟩, ⟨3, (Be c l).2.2.1⟩, ⟨4, (Be c l).2.2.1⟩, ⟨5, (Be c l).1⟩, ⟨6, (Be c l).2.1⟩, ⟨7, []⟩], 0)
def Fi (c : List Col) (l : List Mov) : List Str × List Str := if (Be c l).2.2.2 != 0 then ([], []) else ((Be c l).2.2.1.map (·.name), (Be c l).2.1.map (·.name))
theorem le7 : Le (.agg [A3 7, .nil]) (.agg [A3 7, .slice false 2 []]) := by
 refine .agg _ _ rfl (fun y hy => ?_) (fun i y y' hy hy' => ?_)
 ·simp only [List.mem_cons, List.mem_nil_iff, or_false] at hy
  rcases hy with rfl | rfl <;> rfl
 match i with
 | 0 => simp at hy hy'; subst hy; subst hy'; exact .inl rfl
 | 1 => simp at hy hy'; subst hy; subst hy'; exact .inr ⟨rfl, 2, rfl⟩
 | i + 2 => simp at hy
theorem Ly {n k : Nat} {o : Bool} {l : List Str} : Low n (.slice o k (l.map A7)) := by simp [or_imp, forall_and]
theorem bh {n k : Nat} {o : Bool} {a b : List Str} : Low n (.slice o k (a.map A7 ++ b.map A7)) := by rw [← List.map_append]; exact Ly
theorem g9 {c : List Col} {l : List Mov} (h : ((Be c l).2.2.2 != 0) = false) : Ab c l = ([⟨1, (Be c l).2.2.1⟩, ⟨2, (Be c l).1⟩, ⟨3, (Be c l).2.2.1⟩, ⟨4, (Be c l).2.2.1⟩, ⟨5, (Be c l).1⟩, ⟨6, (Be c l).2.1⟩, ⟨7, []⟩], 0) := if_neg (by rw [h]; simp)
theorem F3 (a b : List Col) : (B2 a b).length ≤ a.length := by unfold B2; exact List.length_filter_le _ _
theorem c25 (c : List Col) (hc : c.length ≤ 1048576) (Hp : List AObj) : AFun Tryz.prog 25 [A4 c] Hp (C2 (c.map (·.name))) := by
 refine ACall.body [.tmp 2] [0] Tryz.func25 Tryz.ntmps25 (fun d => ?_)
 refine Z55 ?_;refine Z1 ?_;refine Fd ?_;refine Z16 ?_;refine R.nilSl 3 1 ?_;refine Wc ?_;refine R.fin [3, 6, 7, 8] ?_
 refine AW.loopC (α := Nat) (fun x => ⟨19, A2 3 (.slice true 1 (((c.take x).map (·.name)).map A7)) (A2 6 (A4 c) (A2 7 (A3 (c.length : Nat)) (A2 8 (A3 (x : Nat)) (fun _ => .any)))), Hp, [], [], none⟩) (fun x => x ≤ c.length) (fun x => c.length - x) (0) (Nat.zero_le _) (StLe.of_eq (by simp)) rfl (fun x hx => ?_)
 refine Z57 ?_;refine R.fin [3, 6, 7, 8, 9] ?_
 refine W.condX (fun ht9 => ?_) (fun ht9 => ?_)
 ·have hlt : x < c.length := by simpa using ht9
  refine J9 ?_;refine Z76 ?_;refine Z42 ?_;refine R.fin [3, 5, 6, 7, 8] ?_;refine Z84 ?_;refine Zl ?_;refine H0 ?_
  refine R.append jU Tryz.type9 ?_ ?_ ?_
  ·simp only [List.length_map, List.length_take, List.length_cons, List.length_nil, Tryz.t9]; omega
  ·simp only [List.length_map, List.length_take, List.length_cons, List.length_nil, Tryz.t9]; omega
  refine Fq ?_;refine R.fin [3, 6, 7, 8] ?_;refine K2 ?_;refine R.fin [3, 6, 7, 8] ?_;refine Nz ?_
  rw [Ef hlt, List.map_append]
  exact StCut.take (own := []) (fun _ => .refl _) (by repeat (first | exact Al | refine Ak (by first | (simp [or_imp, forall_and]; done) | exact bh | exact Bo) ?_)) (by simp) (by simp)
 have hxe : c.length ≤ x := by simpa using ht9
 refine Z23 ?_;refine Z40 ?_;refine Z2 ?_;exact K.fin (V.one V.tmp) ⟨by rw [List.take_of_length_le hxe], rfl⟩ (hlow := Ly)

theorem c20 (c : List Col) (hc : OkCols c) (hc2 : c.length ≤ 1000000) (l : List Mov) (h : OkMovs l) (Hp : List AObj) : AFun Tryz.prog 20 [A4 c, By l] Hp (.tup [A4 (Be c l).1, A4 (Be c l).2.1, A4 (Be c l).2.2.1, A3 (Be c l).2.2.2]) := by
 refine ACall.body [.tmp 4, .tmp 5, .tmp 6, .tmp 7] [0, 1] Tryz.func20 Tryz.ntmps20 (fun d => ?_)
 refine Z1 ?_;refine Z8 ?_;refine Ar ?_;refine R.fin [0, 1] ?_;refine Z32 ?_;refine R.call Tryz.call36 (c36 c hc hc2 l h _) ?_;refine Fc ?_;refine R.fin [0, 4, 7] ?_;refine Gs ?_;refine R.fin [0, 4, 15] ?_
 refine W.cond (fun ht15 => ?_) (fun ht15 => ?_)
 ·have hm : Be c l = ([], [], [], 1) := if_pos ht15
  refine Z1 ?_;refine Z8 ?_;refine R.nilTmp 4 2 false ?_;refine R.nilTmp 5 2 false ?_;refine R.nilTmp 6 2 false ?_;refine Ar ?_;refine R.fin [4, 5, 6, 7] ?_;refine dl ?_;exact t6
 have hm : Be c l = ((Ao c l).1, B2 c (Ao c l).1, B2 (Ao c l).1 c, 0) := if_neg (by rw [ht15]; simp)
 refine Tt ?_;refine R.call Tryz.call37 (c37 c (Ao c l).1 hc.1 (Ip hc h).1 _) ?_;refine Fc ?_;refine R.fin [4, 5, 6] ?_;refine nf ?_;refine Z8 ?_;refine Z8 ?_;refine R.fin [4, 5, 6, 7] ?_;refine AW.ret ?_;exact t6

theorem c8 (c : List Col) (hc : OkCols c) (hc2 : c.length ≤ 1000000) (l : List Mov) (h : OkMovs l) (Hp : List AObj) : AFun Tryz.prog 8 [A4 c, By l] Hp (.tup [Fh (Ab c l).1, A3 (Ab c l).2]) := by
 refine ACall.body [.tmp 4, .tmp 5] [0, 1] Tryz.func8 Tryz.ntmps8 (fun d => ?_)
 refine No ?_;refine nw ?_;refine Z60 ?_;refine Z34 ?_;refine Z8 ?_;refine Z8 ?_;refine R.fin [6, 7, 8, 9] ?_;refine Gs ?_;refine R.fin [6, 7, 8, 9, 19] ?_
 refine W.cond (fun ht19 => ?_) (fun ht19 => ?_)
 ·have hm : Ab c l = ([], (Be c l).2.2.2) := if_pos ht19
  exact Zv
 have hm := g9 ht19
 refine Z96 ?_;refine Z43 ?_;refine Z43 ?_;refine Z43 ?_;refine Z43 ?_;refine iw ?_;refine e8 ?_;refine R.wk 33 _ le7 ?_;refine R.buildSl jU jS jZ ?_;exact cx

theorem c11 (c : List Col) (hc : OkCols c) (hc2 : c.length ≤ 1000000) (l : List Mov) (h : OkMovs l) (Hp : List AObj) : AFun Tryz.prog 11 [A4 c, By l] Hp (.tup [C2 (Fi c l).1, C2 (Fi c l).2]) := by
 refine ACall.body [.tmp 4, .tmp 5] [0, 1] Tryz.func11 Tryz.ntmps11 (fun d => ?_)
 refine No ?_;refine nw ?_;refine Z60 ?_;refine Z34 ?_;refine Z8 ?_;refine Z8 ?_;refine R.fin [7, 8, 9] ?_;refine Gs ?_;refine R.fin [7, 8, 19] ?_
 refine W.cond (fun ht19 => ?_) (fun ht19 => ?_)
 ·have hm : Fi c l = ([], []) := if_pos ht19
  refine Z48 ?_;refine R.nilTmp 4 1 false ?_;refine R.nilTmp 5 1 false ?_;exact nc
 have hm : Fi c l = ((Be c l).2.2.1.map (·.name), (Be c l).2.1.map (·.name)) := if_neg (by rw [ht19]; simp)
 have hle : (Be c l).2.2.1.length ≤ 1048576 ∧ (Be c l).2.1.length ≤ 1048576 := by
  unfold Be
  split
  ·exact ⟨by decide, by decide⟩
  exact ⟨Nat.le_trans (F3 _ _) (Ip hc h).1, Nat.le_trans (F3 _ _) hc.1⟩
 refine Z96 ?_;refine R.call Tryz.call25 (c25 (Be c l).2.2.1 hle.1 _) ?_;refine Av ?_;refine R.call Tryz.call25 (c25 (Be c l).2.1 hle.2 _) ?_;exact cx

def Jf (c : List Col) : List Expr := c.map fun x => An x.name
theorem Ka {n k : Nat} {o : Bool} {a : List Expr} {e : Expr} : Low n (.slice o k (a.map A5 ++ [A5 e])) := low_slice.2 fun y hy => by
 rcases List.mem_append.1 hy with h | h
 ·obtain ⟨m, _, rfl⟩ := List.mem_map.1 h
  exact B0 _ _
 rw [List.mem_singleton.1 h]
 exact B0 _ _
theorem Cf {n k : Nat} {o : Bool} {a : List Expr} : Low n (.slice o k (a.map A5)) := low_slice.2 fun y hy => by
 obtain ⟨m, _, rfl⟩ := List.mem_map.1 hy
 exact B0 _ _
theorem c61 (c : List Col) (hc : c.length ≤ 1048576) (Hp : List AObj) : AFun Tryz.prog 61 [A4 c] Hp (Az (Jf c)) := by
 refine ACall.body [.tmp 2] [0] Tryz.func61 Tryz.ntmps61 (fun d => ?_)
 refine Z55 ?_;refine Z1 ?_;refine Fd ?_;refine Z16 ?_;refine R.nilSl 3 6 ?_;refine Wc ?_;refine R.fin [3, 6, 7, 8] ?_
 refine AW.loopC (α := Nat) (fun x => ⟨20, A2 3 (.slice true 6 (((c.take x).map fun y => An y.name).map A5)) (A2 6 (A4 c) (A2 7 (A3 (c.length : Nat)) (A2 8 (A3 (x : Nat)) (fun _ => .any)))), Hp, [], [], none⟩) (fun x => x ≤ c.length) (fun x => c.length - x) (0) (Nat.zero_le _) (StLe.of_eq (by simp)) rfl (fun x hx => ?_)
 refine Z57 ?_;refine R.fin [3, 6, 7, 8, 9] ?_
 refine W.condX (fun ht9 => ?_) (fun ht9 => ?_)
 ·have hlt : x < c.length := by simpa using ht9
  refine J9 ?_;refine Z76 ?_;refine Z42 ?_;refine R.fin [3, 5, 6, 7, 8] ?_;refine Z84 ?_;refine rx ?_;refine R.wk 15 _ (J5 c[x].name) ?_;refine H0 ?_
  refine R.append jU Tryz.type60 ?_ ?_ ?_
  ·simp only [List.length_map, List.length_take, List.length_cons, List.length_nil, Tryz.t60]; omega
  ·simp only [List.length_map, List.length_take, List.length_cons, List.length_nil, Tryz.t60]; omega
  refine Fq ?_;refine R.fin [3, 6, 7, 8] ?_;refine K2 ?_;refine R.fin [3, 6, 7, 8] ?_;refine Nz ?_
  rw [Ef hlt, List.map_append]
  exact StCut.take (own := []) (fun _ => .refl _) (by repeat (first | exact Al | refine Ak (by first | (simp [or_imp, forall_and]; done) | exact Ka | exact Bo) ?_)) (by simp) (by simp)
 have hxe : c.length ≤ x := by simpa using ht9
 refine Z23 ?_;refine Z40 ?_;refine Z2 ?_;exact K.fin (V.one V.tmp) ⟨by unfold Jf; rw [List.take_of_length_le hxe], rfl⟩ (hlow := Cf)

/-! fuse: trees in columns' places. -/
mutual
def Dq (c : List Col) (l : List Expr) : Expr → Option Expr
 | .mk o t v k => if o == 2 then (if Af t c < 0 then none else some (l.getD (Af t c).toNat A8)) else (Fj c l k).map fun k' => .mk o t v k'
def Fj (c : List Col) (l : List Expr) : List Expr → Option (List Expr)
  | [] => some []
  | e :: r => match Dq c l e with
    | none => none
    | some y => (Fj c l r).map fun s => y :: s
 end
/-- fuse.Over. -/
def Cr (x : Expr) (c : List Col) (l : List Expr) : Expr × Int :=
 if (((!(Ad x)) || l.any D7) || !(Jk c)) || ((c.length : Int) != (l.length : Int)) then (A8, 1)
 else match Dq c l x with
  | none => (A8, 9)
  | some y => if Ad y then (y, 0) else (A8, 3)
/-- fuse.over: the trees, till one goes wrong. -/
def Bi (c : List Col) (by_ : List Expr) : List Expr → List Expr × Int
 | [] => ([], 0)
 | x :: r => if (Cr x c by_).2 != 0 then ([], (Cr x c by_).2) else if (Bi c by_ r).2 != 0 then ([], (Bi c by_ r).2) else ((Cr x c by_).1 :: (Bi c by_ r).1, 0)
/-- fuse.stay. -/
def C6 (take : List Str) : List Col → List Expr → List Expr
 | y :: c, x :: l => if take.contains y.name then C6 take c l else x :: C6 take c l
 | _, _ => []
theorem Fy {take : List Str} : ∀ {c : List Col} {l : List Expr}, c.length = l.length → (C6 take c l).length = (B6 c take).length
 | [], [], _ => rfl
 | [], _ :: _, h => by simp at h
 | _ :: _, [], h => by simp at h
 | y :: c, x :: l, h => by
  have ih := Fy (take := take) (c := c) (l := l) (by simpa using h)
  unfold C6 B6
  by_cases hc : take.contains y.name = true
  ·rw [if_pos hc]
   simp only [List.filter_cons, hc, Bool.not_true, Bool.false_eq_true, if_false]
   exact ih
  rw [if_neg hc]
  have hc' : take.contains y.name = false := by simpa using hc
  simp only [List.filter_cons, hc', Bool.not_false, if_true, List.length_cons]
  exact congrArg (· + 1) ih
theorem Ho {c : List Col} {by_ : List Expr} : ∀ (l : List Expr), (Bi c by_ l).2 = 0 → (Bi c by_ l).1.length = l.length
 | [], _ => rfl
 | x :: r, h => by
  unfold Bi at h ⊢
  split at h
  ·rename_i h1
   exact absurd h (by simpa using h1)
  rename_i h1
  rw [if_neg h1]
  split at h
  ·rename_i h2
   exact absurd h (by simpa using h2)
  rename_i h2
  rw [if_neg h2]
  have := Ho (c := c) (by_ := by_) r (by simpa using h2)
  simp [this]
theorem ga {s : Str} {y x : Expr} (h : ((x.op == 2) && (x.text == s)) = true) : Dx s y x = y := by rw [Y2, if_pos h]
theorem Yl {s : Str} {y x : Expr} (h : ((x.op == 2) && (x.text == s)) = false) : Dx s y x = .mk x.op x.text x.val (x.kids.map (Dx s y)) := by rw [Y2, if_neg (by rw [h]; simp)]
theorem Xi (o : Int) (t : Str) (v : Val) (k : List Expr) : A5 (.mk o t v k) = .agg [A3 o, .v (sv t), A3 v.kind, A3 v.n, .v (sv v.s), .slice false 6 (k.map A5)] := by rw [Bg]; rfl
theorem gb {α β : Type} {f : α → β} {l : List α} {x : Nat} (h : x < l.length) : (l.take (x + 1)).map f = (l.take x).map f ++ [f l[x]] := by rw [List.take_succ_eq_append_getElem h, List.map_append]; rfl
theorem gc {n : Nat} {x : Expr} {o : Bool} {l : List Expr} : ObjLow n (.cells 60 [A3 x.op, .v (sv x.text), A3 x.val.kind, A3 x.val.n, .v (sv x.val.s), .slice o 6 (l.map A5)]) := by
 show ∀ z ∈ [A3 x.op, AV.v (sv x.text), A3 x.val.kind, A3 x.val.n, AV.v (sv x.val.s), AV.slice o 6 (l.map A5)], Low n z
 intro z hz
 simp only [List.mem_cons, List.not_mem_nil, or_false] at hz
 rcases hz with rfl | rfl | rfl | rfl | rfl | rfl
 all_goals first | exact Cv | simp
theorem xt {α : Type} {P : α → Prop} {a b : α} (h1 : P a) (h2 : P b) : ∀ x ∈ [a, b], P x := by
 intro x hx
 simp only [List.mem_cons, List.not_mem_nil, or_false] at hx
 rcases hx with rfl | rfl
 ·exact h1
 exact h2
theorem c73 (s : Str) (y : Expr) : ∀ (n : Nat) (x : Expr), okE n x → ∀ Hp : List AObj, AFun Tryz.prog 73 [A5 x, A7 s, A5 y] Hp (A5 (Dx s y x)) := by
 intro n
 induction n with
 | zero => exact fun x h => h.elim
 | succ n ih =>
 intro x hok Hp
 refine ACall.body [.cell 6 60] [0, 1, 2] Tryz.func73 Tryz.ntmps73 (fun d => ?_)
 refine Z30 ?_;refine R.boxRo ?_;refine R.alloc jZ ?_;refine R.fin [1, 3, 5, 6] ?_;refine Kv ?_;refine Mt ?_;refine Z26 ?_;refine G.move ?_;refine G.seql ?_;refine Hf ?_;refine R.fin [1, 3, 5, 6, 17] ?_
 refine W.cond (fun ht17 => ?_) (fun ht17 => ?_)
 ·refine Z86 ?_;refine G9 ?_;refine Z77 ?_;refine K.thR ?_;exact K.fin (V.one (V.cellN jA jS)) ⟨by rw [ga ht17, Bg], rfl⟩ (hlow := low_agg _)
 refine Hz ?_;refine Z9 ?_;refine Z24 ?_;refine cv ?_;refine k7 ?_;refine Z42 ?_;refine R.fin [1, 3, 5, 6, 7] ?_;refine Z16 ?_;refine R.nilCell 1 5 6 ?_;refine Ar ?_;refine R.fin [1, 3, 5, 6, 7, 8] ?_
 refine AW.loopC (α := Nat) (fun i => ⟨47, A2 1 (A7 s) (A2 3 (.ro (Cx x)) (A2 5 (.ro (Cx y)) (A2 6 (.ptr (oid Hp.length 0) 0) (A2 7 (.ptr (oid Hp.length 1) 0) (A2 8 (A3 (i : Nat)) (fun _ => .any)))))), Hp, [.cells 60 [A3 0, A7 [], A3 0, A3 0, A7 [], .nil], .cells 60 [A3 x.op, .v (sv x.text), A3 x.val.kind, A3 x.val.n, .v (sv x.val.s), .slice true 6 (((x.kids.take i).map (Dx s y)).map A5)]], [], none⟩) (fun i => i ≤ x.kids.length) (fun i => x.kids.length - i) (0) (Nat.zero_le _) (StLe.of_eq (by simp)) rfl (fun i hi => ?_)
 refine Wd ?_;refine R.fin [1, 3, 5, 6, 7, 8, 30] ?_
 refine W.cond (fun ht30 => ?_) (fun ht30 => ?_)
 ·have hlt : i < x.kids.length := by simpa using ht30
  have hkl := hok.2.1
  refine Z46 ?_;refine W.drawY0 [0, 1, 0, 4, 0, 28, 60, 0, 0, 508, 1020, 2047, 4095, 8191] [1] [.q 1 [] [0], .s [34] (some 0) [] [], .q 9 [] []] (fun _ => Hp) (fun B => [.cells 60 [A3 0, A7 [], A3 0, A3 0, A7 [], .nil], .cells 60 (if B 0 = true then [A3 x.op, .v (sv x.text), A3 x.val.kind, A3 x.val.n, .v (sv x.val.s), .slice false 6 (((x.kids.take i).map (Dx s y)).map A5)] else [A3 x.op, .v (sv x.text), A3 x.val.kind, A3 x.val.n, .v (sv x.val.s), .slice true 6 (((x.kids.take i).map (Dx s y)).map A5)])]) Ah (by kernel_rfl) rfl rfl (fun _ => rfl) ?_
  apply Y.q
  case h1 =>
   intro B hT hF
   refine D.fieldAddrPtr (fo := 5) jU Tryz.sizeOf53 ?_;exact D.end rfl rfl
  case hTF => decide
  refine Y.loadOwnT (u := Hp.length) (n := 1) (t' := 60) (cs := [A3 x.op, .v (sv x.text), A3 x.val.kind, A3 x.val.n, .v (sv x.val.s), .slice true 6 (((x.kids.take i).map (Dx s y)).map A5)]) (cs' := [A3 x.op, .v (sv x.text), A3 x.val.kind, A3 x.val.n, .v (sv x.val.s), .slice false 6 (((x.kids.take i).map (Dx s y)).map A5)]) Tryz.isAgg53 (fun B hB => ⟨rfl, by simp only [hB]; rfl, by simp [upd], rfl⟩) ?_
  apply Y.q
  case h1 =>
   intro B hT hF
   refine Z99 ?_;refine D.move ?_;refine sn ?_;refine D.move ?_;refine Pz ?_;refine D.call Tryz.call73 (ih x.kids[i] (hok.2.2 _ (List.getElem_mem hlt)) _) ?_;exact nh
  case hTF => decide
  refine Y.tail (tn := [1]) (O := [.cells 60 [A3 0, A7 [], A3 0, A3 0, A7 [], .nil], .cells 60 [A3 x.op, .v (sv x.text), A3 x.val.kind, A3 x.val.n, .v (sv x.val.s), .slice false 6 (((x.kids.take i).map (Dx s y)).map A5)]]) ?_
  refine R.append jU Tryz.type60 ?_ ?_ ?_
  ·simp only [List.length_map, List.length_take, List.length_cons, List.length_nil, Tryz.t60]; omega
  ·simp only [List.length_map, List.length_take, List.length_cons, List.length_nil, Tryz.t60]; omega
  refine e9 ?_;refine R.storeOwnT jS ?_;refine R.fin [1, 3, 5, 6, 7, 8] ?_;refine Z90 ?_;refine R.fin [1, 3, 5, 6, 7, 8] ?_
  refine K.lpN (i + 1) hlt (by omega) (StCut.of_eq ?_)
  rw [gb hlt, List.map_append, List.map_cons, List.map_nil, Bg]
  rfl
 have hxe : x.kids.length ≤ i := by simpa using ht30
 refine Z47 ?_;refine Zt ?_;refine Z77 ?_;exact K.fin (V.one (V.cellN jA jS)) ⟨by rw [Yl ht17, Xi, List.take_of_length_le hxe], rfl⟩ (hlow := by have := B0 Hp.length (Dx s y x); rw [Yl ht17, Xi] at this; rw [List.take_of_length_le hxe]; exact this)

def V3 (c : List Col) (l : List Expr) (e : Expr) : Expr := (Dq c l e).getD A8
theorem R5 {c : List Col} {l : List Expr} : ∀ {k : List Expr}, (∀ (j : Nat) (y : Expr), k[j]? = some y → (!(Dq c l y).isSome) = false) → Fj c l k = some (k.map (V3 c l))
 | [], _ => rfl
 | e :: r, h => by
  have h1 := h 0 e rfl
  have h2 := R5 (c := c) (l := l) (k := r) (fun j y hy => h (j + 1) y hy)
  rw [Fj]
  cases he : Dq c l e with
  | none => rw [he] at h1; cases h1
  | some z => rw [h2, List.map_cons, show V3 c l e = z by unfold V3; rw [he]; rfl]; rfl
theorem R6 {c : List Col} {l : List Expr} : ∀ {k : List Expr} {e : Expr}, e ∈ k → Dq c l e = none → Fj c l k = none
 | a :: r, e, hm, h => by
  rw [Fj]
  rcases List.mem_cons.1 hm with rfl | hm
  ·rw [h]
  have := R6 hm h
  cases ha : Dq c l a with
  | none => rfl
  | some z => rw [this]; rfl
theorem P0 {c : List Col} {l : List Expr} {x : Expr} (h : (x.op == 2) = true) : Dq c l x = if Af x.text c < 0 then none else some (l.getD (Af x.text c).toNat A8) := by
 cases x; rw [Dq]; exact if_pos h
theorem P1 {c : List Col} {l : List Expr} {x : Expr} (h : (x.op == 2) = false) : Dq c l x = (Fj c l x.kids).map fun k' => .mk x.op x.text x.val k' := by
 cases x; rw [Dq]; exact if_neg (fun e => Bool.false_ne_true (h.symm.trans e))
theorem P2 {c : List Col} {l : List Expr} {s : Str} (hl : c.length = l.length) (hf : ¬ Af s c < 0) : (l.map A5)[(Af s c).toNat]? = some (A5 (l.getD (Af s c).toNat A8)) ∧ (Af s c).toNat < l.length ∧ 0 ≤ Af s c := by
 obtain ⟨j, hj, hjl⟩ := D6 hf
 rw [hj, Int.toNat_natCast]
 refine ⟨?_, by omega, by omega⟩
 rw [List.getElem?_map, List.getElem?_eq_getElem (by omega), List.getD_eq_getElem?_getD, List.getElem?_eq_getElem (by omega)]
 rfl
theorem xu (c : List Col) (hc : OkCols c) (l : List Expr) (hl : c.length = l.length) : ∀ (n : Nat) (x : Expr), okE n x → ∀ Hp : List AObj, AFun Tryz.prog 114 [A5 x, A4 c, Az l] Hp (.tup [A5 ((Dq c l x).getD A8), Am (Dq c l x).isSome]) := by
 intro n
 induction n with
 | zero => exact fun e h => h.elim
 | succ n ih =>
 intro x hok Hp
 refine ACall.body [.cell 6 60, .tmp 7] [0, 1, 2] Tryz.func114 Tryz.ntmps114 (fun d => ?_)
 refine dy ?_;refine iv ?_;refine R.fin [1, 2, 3, 6] ?_;refine ag ?_;refine R.eql ?_;refine R.fin [1, 2, 3, 6, 16] ?_
 refine W.cond (fun ht16 => ?_) (fun ht16 => ?_)
 ·have hpn := P0 (c := c) (l := l) ht16
  refine Z0 ?_;refine R.fieldAddrPtr (fo := 1) jU Tryz.sizeOf9 ?_;refine Hi ?_;refine R.call Tryz.call84 (c84 c hc x.text _) ?_;refine Ar ?_;refine R.fin [2, 6, 8] ?_;refine ab ?_;refine R.fin [2, 6, 8, 22] ?_
  refine W.cond (fun ht22 => ?_) (fun ht22 => ?_)
  ·have hm : Dq c l x = none := by rw [hpn, if_pos (by simpa using ht22)]
   refine aa ?_;refine K.thR ?_;refine K.thR ?_;exact t7
  have hneg : ¬ Af x.text c < 0 := by simpa using ht22
  have hm : Dq c l x = some (l.getD (Af x.text c).toNat A8) := by rw [hpn, if_neg hneg]
  refine Tt ?_
  obtain ⟨_, hg1, hg2⟩ := P2 hl hneg
  refine R.indexAddr ((Af x.text c).toNat) (A5 (l.getD (Af x.text c).toNat A8)) jU jS (P2 hl hneg).1 ?_;refine Ek ?_;refine G9 ?_;refine Z68 ?_;refine K.thR ?_;exact K.fin (V.two (V.cellN jA jS) V.tmp) ⟨by rw [hm]; show _ = AV.tup [A5 (l.getD _ A8), Am true]; rw [Bg] <;> rfl, rfl⟩ (hlow := by simp [or_imp, forall_and, B0])
 have hpk := P1 (c := c) (l := l) ht16
 refine Hz ?_;refine e9 ?_;refine Hi ?_;refine Ar ?_;refine R.fin [1, 2, 3, 6, 9] ?_;refine Ba ?_;refine e9 ?_;refine G9 ?_;refine R.fin [1, 2, 3, 6, 9] ?_;refine Z16 ?_;refine R.nilCell 0 5 6 ?_;refine Wc ?_;refine R.fin [1, 2, 3, 6, 31, 32, 33] ?_
 refine AW.loopC (α := Nat) (fun i => ⟨55, A2 1 (A4 c) (A2 2 (Az l) (A2 3 (.ptr (oid Hp.length 0) 0) (A2 6 (.ptr (oid Hp.length 1) 0) (A2 31 (.slice false 6 (x.kids.map A5)) (A2 32 (A3 (x.kids.length : Nat)) (A2 33 (A3 (i : Nat)) (fun _ => .any))))))), Hp, [.cells 60 [A3 x.op, A7 x.text, A3 x.val.kind, A3 x.val.n, A7 x.val.s, .slice true 6 (((x.kids.take i).map (V3 c l)).map A5)], .cells 60 [A3 0, A7 [], A3 0, A3 0, A7 [], .nil]], [], none⟩) (fun i => i ≤ x.kids.length ∧ ∀ (j : Nat) (y : Expr), j < i → x.kids[j]? = some y → (!(Dq c l y).isSome) = false) (fun i => x.kids.length - i) (0) ⟨Nat.zero_le _, fun j y h => by omega⟩ (StLe.of_eq (by simp)) rfl (fun i hi => ?_)
 refine Z57 ?_;refine R.fin [1, 2, 3, 6, 31, 32, 33, 34] ?_
 refine W.condX (fun ht34 => ?_) (fun ht34 => ?_)
 ·have hlt : i < x.kids.length := by simpa using ht34
  have hkl := hok.2.1
  refine J9 ?_;refine R.indexAddr (i) (A5 x.kids[i]) jU jS (A9 hlt) ?_;refine W3 ?_;refine R.fin [1, 2, 3, 6, 11, 31, 32, 33] ?_;refine Z88 ?_;refine Z58 ?_;refine R.call Tryz.call114 (ih x.kids[i] (hok.2.2 _ (List.getElem_mem hlt)) _) ?_;refine Z60 ?_;refine Z42 ?_;refine Ar ?_;refine R.fin [1, 2, 3, 6, 12, 13, 31, 32, 33] ?_;refine Z10 ?_;refine R.not ?_;refine R.fin [1, 2, 3, 6, 12, 31, 32, 33, 45] ?_
  refine W.cond (fun ht45 => ?_) (fun ht45 => ?_)
  ·have hm : Dq c l x = none := by rw [hpk, R6 (List.getElem_mem hlt) (by simpa using ht45)]; rfl
   refine aa ?_;refine K.thR ?_;refine Z61 ?_;exact t7
  refine Z4 ?_;refine Hh ?_;refine e9 ?_;refine R.loadOwnT jA ?_;refine dc ?_
  refine R.append jU Tryz.type60 ?_ ?_ ?_
  ·simp only [List.length_map, List.length_take, List.length_cons, List.length_nil, Tryz.t60]; omega
  ·simp only [List.length_map, List.length_take, List.length_cons, List.length_nil, Tryz.t60]; omega
  refine e9 ?_;refine R.storeOwnT jS ?_;refine R.fin [1, 2, 3, 6, 31, 32, 33] ?_;refine K2 ?_;refine R.fin [1, 2, 3, 6, 31, 32, 33] ?_;refine K.lpN (i + 1) ⟨hlt, Aq hlt hi.2 ht45⟩ (by omega) ?_
  have hlo := fun m => gc (n := m) (x := x) (o := true) (l := (x.kids.take i).map (V3 c l) ++ [V3 c l x.kids[i]])
  simp only [List.map_append, List.map_cons, List.map_nil, Bg] at hlo
  simp only [show Tryz.t60.size = 6 from rfl]
  rw [Ef hlt, List.map_append, List.map_cons, List.map_nil, Bg]
  exact StCut.take (fun _ => .refl _) (by repeat (first | exact Al | refine Ak (by first | exact Cf | exact Bo | (simp [oid, B0]; done) | (simp [oid] <;> omega)) ?_)) (xt (hlo _) ky) (by simp)
 have hxe : x.kids.length ≤ i := by simpa using ht34
 have hm : Dq c l x = some (.mk x.op x.text x.val (x.kids.map (V3 c l))) := by rw [hpk, R5 (fun j y hy => hi.2 j y (by have := (List.getElem?_eq_some_iff.1 hy).1; omega) hy)]; rfl
 refine Z23 ?_;refine Zt ?_;refine Z68 ?_;exact K.fin (V.two (V.cellN jA jS) V.tmp) ⟨by rw [hm]; show _ = AV.tup [A5 (.mk x.op x.text x.val (x.kids.map (V3 c l))), Am true]; rw [Xi, List.take_of_length_le hxe], rfl⟩ (hlow := by simp [or_imp, forall_and]; intro y hy; obtain ⟨e, _, rfl⟩ := List.mem_map.1 (List.mem_of_mem_take hy); exact B0 _ _)

theorem Kb {c : List Col} {l : List Expr} : ∀ {k s : List Expr}, Fj c l k = some s → s.length = k.length ∧ ∀ y ∈ s, ∃ e ∈ k, Dq c l e = some y
 | [], s, h => by
  rw [Fj] at h
  injection h with h
  subst h
  exact ⟨rfl, fun y hy => by cases hy⟩
 | a :: r, s, h => by
  rw [Fj] at h
  cases ha : Dq c l a with
  | none => rw [ha] at h; cases h
  | some z =>
   rw [ha] at h
   simp only at h
   cases hr : Fj c l r with
   | none => rw [hr] at h; cases h
   | some t =>
    rw [hr] at h
    injection h with h
    subst h
    obtain ⟨h1, h2⟩ := Kb hr
    refine ⟨by simp [h1], fun y hy => ?_⟩
    rcases List.mem_cons.1 hy with rfl | hy
    ·exact ⟨a, List.mem_cons_self, ha⟩
    obtain ⟨e, he, hp⟩ := h2 y hy
    exact ⟨e, List.mem_cons_of_mem _ he, hp⟩
theorem Ym {c : List Col} {l : List Expr} {m : Nat} (hl : ∀ e ∈ l, okE (m + 1) e) (hc : c.length = l.length) : ∀ (n : Nat) (x y : Expr), okE n x → Dq c l x = some y → okE (m + 1 + n) y
 | 0, x, y, h, _ => h.elim
 | n + 1, x, y, h, hp => by
  cases h2 : x.op == 2 with
  | true =>
   rw [P0 h2] at hp
   split at hp
   ·cases hp
   rename_i hf
   injection hp with hp
   subst hp
   obtain ⟨j, hj, hjl⟩ := D6 hf
   rw [hj, Int.toNat_natCast, List.getD_eq_getElem?_getD, List.getElem?_eq_getElem (by omega)]
   exact Il (by omega) (hl _ (List.getElem_mem (by omega)))
  | false =>
   rw [P1 h2] at hp
   cases hk : Fj c l x.kids with
   | none => rw [hk] at hp; cases hp
   | some s =>
    rw [hk] at hp
    injection hp with hp
    subst hp
    obtain ⟨h3, h4⟩ := Kb hk
    refine ⟨h.1, by show s.length ≤ _; rw [h3]; exact h.2.1, fun z hz => ?_⟩
    obtain ⟨e, he, hpe⟩ := h4 z hz
    exact Ym hl hc n e z (h.2.2 e he) hpe
theorem pc {x : Expr} {c : List Col} {l : List Expr} (h : ((((!(Ad x)) || l.any D7) || !(Jk c)) || ((c.length : Int) != (l.length : Int))) = true) : Cr x c l = (A8, 1) := if_pos h
theorem pg {x : Expr} {c : List Col} {l : List Expr} (h : ((((!(Ad x)) || l.any D7) || !(Jk c)) || ((c.length : Int) != (l.length : Int))) = false) : Cr x c l = match Dq c l x with
  | none => (A8, 9)
  | some y => if Ad y then (y, 0) else (A8, 3) := if_neg (by rw [h]; simp)
theorem c86 (x : Expr) (hok : okE 61 x) (c : List Col) (hc : OkCols c) (l : List Expr) (hll : l.length ≤ 1048576) (hlo : ∀ e ∈ l, okE 61 e) (Hp : List AObj) : AFun Tryz.prog 86 [A5 x, A4 c, Az l] Hp (.tup [A5 (Cr x c l).1, A3 (Cr x c l).2]) := by
 refine ACall.body [.cell 6 60, .tmp 7] [0, 1, 2] Tryz.func86 Tryz.ntmps86 (fun d => ?_)
 refine Z30 ?_;refine iv ?_;refine R.fin [1, 2, 3, 6] ?_;refine W6 ?_;refine R.call Tryz.call64 (c64 61 x hok (by decide) _) ?_;refine Py ?_;refine G.call Tryz.call113 (fun hB => xj l hll hlo _) ?_;refine R.pickOr ?_;refine Z14 ?_;refine G.call Tryz.call59 (fun hB => c59 c hc _) ?_;refine Np ?_;refine Z14 ?_;refine G.len jU ?_;refine W8 ?_;refine S0 ?_;refine R.fin [1, 2, 3, 6, 28] ?_
 refine W.cond (fun ht28 => ?_) (fun ht28 => ?_)
 ·simp only [List.length_map] at ht28
  have hm := pc ht28
  refine j8 ?_;refine R.nilCell 0 5 6 ?_;refine Z68 ?_;exact Z98
 simp only [List.length_map] at ht28
 have hm0 := pg ht28
 have hcl : c.length = l.length := by simp only [Bool.or_eq_false_iff, bne_eq_false_iff_eq] at ht28; have := ht28.2; omega
 refine Z4 ?_;refine Z86 ?_;refine Z58 ?_;refine R.call Tryz.call114 (xu c hc l hcl 61 x hok _) ?_;refine Z60 ?_;refine Z42 ?_;refine Ar ?_;refine R.fin [6, 8, 9] ?_;refine Mw ?_;refine dx ?_;refine R.fin [6, 8, 37] ?_
 refine W.cond (fun ht37 => ?_) (fun ht37 => ?_)
 ·have hp : Dq c l x = none := by simpa using ht37
  have hm : Cr x c l = (A8, 9) := by rw [hm0, hp]
  refine j8 ?_;refine R.nilCell 0 5 6 ?_;refine Z68 ?_;exact q9
 obtain ⟨y, hp⟩ : ∃ y, Dq c l x = some y := by
  cases h : Dq c l x with
  | none => rw [h] at ht37; cases ht37
  | some y => exact ⟨y, rfl⟩
 have hyo : okE 122 ((Dq c l x).getD A8) := by rw [hp]; exact Ym (m := 60) hlo hcl 61 x y hok hp
 refine Z88 ?_;refine R.call Tryz.call64 (c64 122 ((Dq c l x).getD A8) hyo (by decide) _) ?_;refine dx ?_;refine R.fin [6, 8, 41] ?_
 refine W.cond (fun ht41 => ?_) (fun ht41 => ?_)
 ·have hm : Cr x c l = (A8, 3) := by
   rw [hp] at ht41
   rw [hm0, hp]
   exact if_neg (by simpa using ht41)
  refine j8 ?_;refine R.nilCell 0 5 6 ?_;refine Z68 ?_;exact q9
 have hm : Cr x c l = (y, 0) := by
  rw [hp] at ht41
  rw [hm0, hp]
  exact if_pos (by simpa using ht41)
 refine Z18 ?_;refine Zt ?_;refine Z68 ?_;exact K.fin (V.two (V.cellN jA jS) V.tmp) ⟨by rw [hm, hp]; show _ = AV.tup [A5 y, A3 0]; rw [Bg]; rfl, rfl⟩ (hlow := by simp [or_imp, forall_and, B0])

set_option maxRecDepth 8000
/-! The words of a print. -/
/-! What a tree comes to: eval's model. -/
abbrev Rs := Val × Int
def P3 (e : Int) : Rs := (noV, e)
def P4 (a : Int) : Int := if decide (a < 0) then IntKind.u64.wrap (0 - IntKind.u64.wrap a) else IntKind.u64.wrap a
def Gg (r : Rs) : Rs := if (r.2 == 0) && (r.1.kind != 0) && (r.1.kind != 3) then P3 10 else r
def ge (strong : Val) (a b : Rs) : Rs := if ((Gg a).2 != 0) || ((Gg a).1 == strong) then Gg a else if (((Gg b).2 != 0) || ((Gg b).1 == strong)) || ((Gg a).1.kind != 0) then Gg b else ((Gg a).1, 0)
def ifW : Str := [105, 102]
def ll : Str := [110, 118, 108]
def L7 : Str := [105, 115, 110, 117, 108, 108]
def ux (t : Str) (a b c : Rs) : Rs :=
 if t == ifW then (if (Gg a).2 != 0 then P3 (Gg a).2 else if (Gg a).1 == Ty true then b else c)
 else if a.2 != 0 then P3 a.2 else if t == L7 then (Ty (a.1.kind == 0), 0) else if a.1.kind != 0 then (a.1, 0) else b
def xv (strict : List Val → Rs) (l : List Rs) : Rs := match l.find? (fun q => q.2 != 0) with | some q => P3 q.2 | none => if l.any (fun q => q.1.kind == 0) then (noV, 0) else strict (l.map (·.1))
def P5 (c : List Col) (l : List Val) (t : Str) : Rs := if Af t c < 0 then P3 9 else (l.getD (Af t c).toNat noV, 0)
def orW : Str := [111, 114]
def xw : Str := [97, 110, 100]
/-- A node, of what its kids come to; what a strict node comes to is a parameter. -/
def mr (strict : Int → Str → List Val → Rs) (c : List Col) (l : List Val) (o : Int) (t : Str) (v : Val) (ks : List Rs) : Rs :=
 if o == 1 then (v, 0) else if o == 2 then P5 c l t
 else if (o == 5) && (t == orW) then ge (Ty true) (ks.getD 0 (noV, 0)) (ks.getD 1 (noV, 0))
 else if (o == 5) && (t == xw) then ge (Ty false) (ks.getD 0 (noV, 0)) (ks.getD 1 (noV, 0))
 else if (o == 6) && (((t == ifW) || (t == ll)) || (t == L7)) then ux t (ks.getD 0 (noV, 0)) (ks.getD 1 (noV, 0)) (ks.getD 2 (noV, 0))
 else xv (strict o t) ks
mutual
def Mh (strict : Int → Str → List Val → Rs) (c : List Col) (l : List Val) : Expr → Rs
 | .mk o t v k => mr strict c l o t v (R7 strict c l k)
def R7 (strict : Int → Str → List Val → Rs) (c : List Col) (l : List Val) : List Expr → List Rs
  | [] => []
  | e :: r => Mh strict c l e :: R7 strict c l r
 end
/-! A tree in a column's place comes to what its value would there. -/
mutual
theorem eval_put {f : Int → Str → List Val → Rs} {c : List Col} {l m : List Val} {s : Str} {y : Expr} (hs : P5 c m s = Mh f c l y) (ho : ∀ t, t ≠ s → P5 c m t = P5 c l t) : ∀ x : Expr, Mh f c l (Dx s y x) = Mh f c m x
 | .mk o t v k => by
  rw [Dx]
  split
  ·rename_i h
   rw [Bool.and_eq_true, beq_iff_eq, beq_iff_eq] at h
   obtain ⟨rfl, rfl⟩ := h
   rw [← hs, Mh]
   rfl
  rename_i h
  rw [Mh, Mh, R8 hs ho k]
  unfold mr
  by_cases h2 : (o == 2) = true
  ·have : t ≠ s := fun e => h (by rw [h2, e]; simp)
   rw [ho t this]
  rw [if_neg h2, if_neg h2]
theorem R8 {f : Int → Str → List Val → Rs} {c : List Col} {l m : List Val} {s : Str} {y : Expr} (hs : P5 c m s = Mh f c l y) (ho : ∀ t, t ≠ s → P5 c m t = P5 c l t) : ∀ k : List Expr, R7 f c l (Q3 s y k) = R7 f c m k
  | [] => rfl
  | e :: r => by rw [Q3, R7, R7, eval_put hs ho e, R8 hs ho r]
 end
/-! Who is not Em plays no part. -/
/-! What a strict node comes to. -/
/-! Values are vf, and their numbers have 64 bits. -/
/-! A text between marks. -/
set_option maxRecDepth 4000
theorem bi (e : Expr) : (B4 e).length ≤ sizeE e := by
 have h1 := Ua (Fm e) []
 rw [b6] at h1
 have h2 : (B4 e).length = ((Fm e).foldl Db []).length := rfl
 simp only [List.length_nil] at h1
 omega
set_option maxRecDepth 8000
/-! Who decides decides: the law's sources, columns and truths. -/
/-! Rows. -/
/-! Rows that differ in what is not Em. -/
/-! Who has a kind comes to it. -/
theorem P6 {t : Str} {n : Nat} (h : Bb t = (n : Int)) : (t = [108, 101, 110] ∧ n = 1) ∨ (t = [115, 116, 114] ∧ n = 1) ∨ (t = [110, 117, 109] ∧ n = 1) ∨ (t = L7 ∧ n = 1) ∨ (t = ll ∧ n = 2) ∨ (t = [108, 101, 102, 116] ∧ n = 2) ∨ (t = [114, 105, 103, 104, 116] ∧ n = 2) ∨ (t = ifW ∧ n = 3) := by
 by_cases hm : t ∈ arityList.map (·.1)
 ·have ha : ∀ s ∈ arityList.map (·.1), (s = [108, 101, 110] ∧ Bb s = 1) ∨ (s = [115, 116, 114] ∧ Bb s = 1) ∨ (s = [110, 117, 109] ∧ Bb s = 1) ∨ (s = L7 ∧ Bb s = 1) ∨ (s = ll ∧ Bb s = 2) ∨ (s = [108, 101, 102, 116] ∧ Bb s = 2) ∨ (s = [114, 105, 103, 104, 116] ∧ Bb s = 2) ∨ (s = ifW ∧ Bb s = 3) := by
   have : ((arityList.map (·.1)).all fun s => decide ((s = [108, 101, 110] ∧ Bb s = 1) ∨ (s = [115, 116, 114] ∧ Bb s = 1) ∨ (s = [110, 117, 109] ∧ Bb s = 1) ∨ (s = L7 ∧ Bb s = 1) ∨ (s = ll ∧ Bb s = 2) ∨ (s = [108, 101, 102, 116] ∧ Bb s = 2) ∨ (s = [114, 105, 103, 104, 116] ∧ Bb s = 2) ∨ (s = ifW ∧ Bb s = 3))) = true := by kernel_rfl
   exact fun s hs => of_decide_eq_true (List.all_eq_true.1 this s hs)
  have := ha t hm
  rw [h] at this
  rcases this with ⟨e, h2⟩ | ⟨e, h2⟩ | ⟨e, h2⟩ | ⟨e, h2⟩ | ⟨e, h2⟩ | ⟨e, h2⟩ | ⟨e, h2⟩ | ⟨e, h2⟩
  ·exact .inl ⟨e, by omega⟩
  ·exact .inr (.inl ⟨e, by omega⟩)
  ·exact .inr (.inr (.inl ⟨e, by omega⟩))
  ·exact .inr (.inr (.inr (.inl ⟨e, by omega⟩)))
  ·exact .inr (.inr (.inr (.inr (.inl ⟨e, by omega⟩))))
  ·exact .inr (.inr (.inr (.inr (.inr (.inl ⟨e, by omega⟩)))))
  ·exact .inr (.inr (.inr (.inr (.inr (.inr (.inl ⟨e, by omega⟩))))))
  exact .inr (.inr (.inr (.inr (.inr (.inr (.inr ⟨e, by omega⟩))))))
 have h1 : Bb t = -1 := by
  unfold Bb
  rw [List.find?_eq_none.2 fun p hp => by
   simp only [beq_iff_eq]
   rintro rfl
   exact hm (List.mem_map.2 ⟨p, hp, rfl⟩)]
 omega
/-! The print of a tree, and its words. -/
def Ha (least : Nat) (x : Expr) (s : Str) : Str := if least ≤ levE x then s else 40 :: (s ++ [41])
def Du : List Str → Str
 | [] => []
 | s :: r => 44 :: 32 :: (s ++ Du r)
def Jp (o : Int) (t : Str) (v : Val) (k : List Expr) (ss : List Str) : Str :=
 if o == 1 then Dg v else if o == 2 then t
 else if o == 3 then 45 :: Ha 6 (k.getD 0 A8) (ss.getD 0 [])
 else if o == 4 then Ul ++ 32 :: Ha 2 (k.getD 0 A8) (ss.getD 0 [])
 else if o == 5 then Ha (Dj (Aj t).toNat) (k.getD 0 A8) (ss.getD 0 []) ++ 32 :: (t ++ 32 :: Ha ((Aj t).toNat + 1) (k.getD 1 A8) (ss.getD 1 []))
 else t ++ 40 :: ((Du ss).drop 2 ++ [41])
mutual
def Ac : Expr → Str
 | .mk o t v k => Jp o t v k (Iq k)
def Iq : List Expr → List Str
  | [] => []
  | e :: r => Ac e :: Iq r
 end
theorem Kc : ∀ l, Iq l = l.map Ac
 | [] => rfl
 | e :: r => by rw [Iq, Kc r]; rfl
theorem ph (v : Val) : Ac (Sf v) = Dg v := by simp [Sf, Ac, Jp]
theorem lm (t : Str) : Ac (An t) = t := by simp [An, Ac, Jp]
theorem pi (a : Expr) : Ac (I0 3 a) = 45 :: Ha 6 a (Ac a) := by simp [I0, Ac, Iq, Jp]
theorem uz (a : Expr) : Ac (I0 4 a) = Ul ++ 32 :: Ha 2 a (Ac a) := by simp [I0, Ac, Iq, Jp]
theorem pj (t : Str) (a b : Expr) : Ac (Q4 t a b) = Ha (Dj (Aj t).toNat) a (Ac a) ++ 32 :: (t ++ 32 :: Ha ((Aj t).toNat + 1) b (Ac b)) := by simp [Q4, Ac, Iq, Jp]
theorem ln (t : Str) (k : List Expr) : Ac (.mk 6 t noV k) = t ++ 40 :: ((Du (Iq k)).drop 2 ++ [41]) := by simp [Ac, Jp]
/-! What was parsed nests no deeper than may be. -/
/-! What nests too deep is told to be too deep. -/
def F2 (l : List Tok) (x : Expr) : Prop := ∀ (k : Nat) (S : PS) (rest : List TK), (k = 0 ∨ k = 1 ∨ k = 4 ∨ k = 5) → k ≤ levE x → S.code = 0 → S.nest ≤ 30 → 30 < S.nest + Yd x → seg l S.i = On x ++ rest → fk (k + 1) rest → (Qv l (ofL k) (pf l (fam l S.nest) (k + 1)) S).2.code = 18
/-! What was parsed is right, where the words are the lexer's. -/
/-! The lexer's words. -/
/-! The parse laws where nothing is too deep. -/
/-! The parser from a word on, and of a source. -/
/-! Other trees have other words, and other prints. -/
/-! The laws of printing. -/
/-- show.Print. -/
def Gr (x : Expr) : Str × Int := if !(Ad x) then ([], 1) else if decide ((4000 : Int) < ((Ac x).length : Int)) then ([], 3) else (Ac x, 0)
theorem Dc {x : Expr} (h : Aa x = true) : Cm Bp x = true := by
 unfold Aa at h
 rw [Bool.and_eq_true] at h
 exact h.2
set_option maxRecDepth 4000
theorem Fv {k : List Expr} {i : Nat} (h : i < k.length) : (k.map A5)[i]? = some (A5 (k.getD i A8)) ∧ k.getD i A8 ∈ k ∧ ∀ (f : Expr → Rs) (d : Rs), (k.map f).getD i d = f (k.getD i A8) := by
 have e : k.getD i A8 = k[i] := by rw [List.getD_eq_getElem?_getD, List.getElem?_eq_getElem h]; rfl
 rw [e]
 refine ⟨by simp [h], List.getElem_mem h, fun f d => ?_⟩
 rw [List.getD_eq_getElem?_getD, List.getElem?_map, List.getElem?_eq_getElem h]
 rfl
theorem V4 {e : Expr} (h : Bp e = true) : (e.op = 5 → e.kids.length = 2) ∧ (e.op = 3 ∨ e.op = 4 → e.kids.length = 1) ∧ (e.op = 6 → Bb e.text = (e.kids.length : Int)) ∧ (e.op = 1 ∨ e.op = 2 ∨ e.op = 3 ∨ e.op = 4 ∨ e.op = 5 ∨ e.op = 6) := by
 cases Ey h with
 | val v hp h0 => simp [Sf, Expr.op]
 | name t ht => simp [An, Expr.op]
 | neg a => simp [I0, Expr.op, Expr.kids]
 | no a => simp [I0, Expr.op, Expr.kids]
 | bin t a b ht => simp [Q4, Expr.op, Expr.kids]
 | call t k ht => simpa [Expr.op, Expr.kids, Expr.text] using ht
def Kd (s : Str) : Int := if s == [111, 114] then 0 else if s == [97, 110, 100] then 1 else if (((((s == [61]) || (s == [33, 61])) || (s == [60])) || (s == [60, 61])) || (s == [62])) || (s == [62, 61]) then 3 else if ((s == [43]) || (s == [45])) || (s == [38]) then 4 else if ((s == [42]) || (s == [47])) || (s == [37]) then 5 else 7
theorem Lz (s : Str) : Kd s = if 0 ≤ Aj s then Aj s else 7 := by
 by_cases hf : s ∈ levels.flatten
 ·have h3 : (levels.flatten.all fun s => decide (Kd s = if 0 ≤ Aj s then Aj s else 7)) = true := by kernel_rfl
  exact of_decide_eq_true (List.all_eq_true.1 h3 s hf)
 have hn := hf
 have h : Aj s = -1 := by
  rcases Gp s with h | ⟨h, _⟩
  ·exact absurd h hf
  exact h
 rw [h]
 simp only [levels, List.flatten_cons, List.flatten_nil, List.append_nil, List.cons_append, List.nil_append, List.mem_cons, List.not_mem_nil, or_false, not_or] at hn
 obtain ⟨a1, a2, a3, a4, a5, a6, a7, a8, a9, b1, b2, b3, b4, b5⟩ := hn
 simp [Kd, *]
/-- The level of a node. -/
def L8 (e : Expr) : Int := if e.op == 4 then 2 else if e.op == 3 then 6 else if e.op == 5 then Kd e.text else 7
theorem N2 {e : Expr} (h : Bp e = true) : L8 e = (levE e : Int) := by
 unfold L8 levE
 split
 ·rfl
 split
 ·rfl
 split
 ·rename_i h5
  have hb : 0 ≤ Aj e.text := by
   have h5' : e.op = 5 := by simpa using h5
   rw [Ii] at h
   unfold D5 at h
   simp [h5'] at h
   exact h.2.1
  rw [Lz, if_pos hb]
  omega
 rfl
theorem xy (s : Str) (Hp : List AObj) : AFun Tryz.prog 122 [A7 s] Hp (A3 (Kd s)) := by
 refine ACall.body [.tmp 2] [0] Tryz.func122 Tryz.ntmps122 (fun d => ?_)
 refine Nv ?_;refine R.fin [3] ?_;refine AW.block ?_;refine Z31 ?_;refine R.fin [3, 4] ?_
 refine W.cond (fun ht4 => ?_) (fun ht4 => ?_)
 ·exact cy
 refine Z31 ?_;refine R.fin [3, 6] ?_
 refine W.cond (fun ht6 => ?_) (fun ht6 => ?_)
 ·exact cy
 refine W.join ⟨23, A2 3 (A7 s) (A2 8 (Am ((((((s == [61]) || (s == [33, 61])) || (s == [60])) || (s == [60, 61])) || (s == [62])) || (s == [62, 61]))) (fun _ => .any)), Hp, [], [], none⟩ ?_ ?_
 ·refine dr ?_
  refine W.cond (fun ht8 => ?_) (fun ht8 => ?_)
  ·exact de
  refine dr ?_
  refine W.cond (fun ht8 => ?_) (fun ht8 => ?_)
  ·exact de
  refine dr ?_
  refine W.cond (fun ht8 => ?_) (fun ht8 => ?_)
  ·exact de
  refine dr ?_
  refine W.cond (fun ht8 => ?_) (fun ht8 => ?_)
  ·exact de
  refine dr ?_
  refine W.cond (fun ht8 => ?_) (fun ht8 => ?_)
  ·exact de
  refine Kw ?_;refine R.fin [3, 8] ?_;exact Z81
 refine W.cond (fun ht8 => ?_) (fun ht8 => ?_)
 ·exact cy
 refine W.join ⟨23, A2 3 (A7 s) (A2 15 (Am (((s == [43]) || (s == [45])) || (s == [38]))) (fun _ => .any)), Hp, [], [], none⟩ ?_ ?_
 ·refine Z31 ?_;refine R.fin [3, 15] ?_
  refine W.cond (fun ht15 => ?_) (fun ht15 => ?_)
  ·refine W.keep [3, 15] ?_;exact db
  refine Z31 ?_;refine R.fin [3, 15] ?_
  refine W.cond (fun ht15 => ?_) (fun ht15 => ?_)
  ·refine W.keep [3, 15] ?_;exact db
  refine Kw ?_;refine R.fin [3, 15] ?_;exact Z81
 refine W.cond (fun ht15 => ?_) (fun ht15 => ?_)
 ·exact cy
 refine W.join ⟨23, A2 19 (Am (((s == [42]) || (s == [47])) || (s == [37]))) (fun _ => .any), Hp, [], [], none⟩ ?_ ?_
 ·refine Z31 ?_;refine R.fin [3, 19] ?_
  refine W.cond (fun ht19 => ?_) (fun ht19 => ?_)
  ·refine W.keep [19] ?_;exact db
  refine Z31 ?_;refine R.fin [3, 19] ?_
  refine W.cond (fun ht19 => ?_) (fun ht19 => ?_)
  ·refine W.keep [19] ?_;exact db
  refine Kw ?_;refine R.fin [19] ?_;exact Z81
 refine W.cond (fun ht19 => ?_) (fun ht19 => ?_)
 ·exact cy
 refine To ?_;exact K.fin (V.one V.tmp) ⟨by simp_all [Kd], rfl⟩

theorem c91 (e : Expr) (Hp : List AObj) : AFun Tryz.prog 91 [A5 e] Hp (A3 (L8 e)) := by
 refine ACall.body [.tmp 2] [0] Tryz.func91 Tryz.ntmps91 (fun d => ?_)
 refine Z89 ?_;refine Kv ?_;refine R.fin [1, 4] ?_;refine Ld ?_;refine R.fin [1, 4, 5] ?_
 refine W.cond (fun ht5 => ?_) (fun ht5 => ?_)
 ·exact rn
 refine Z37 ?_;refine R.fin [1, 4, 7] ?_
 refine W.cond (fun ht7 => ?_) (fun ht7 => ?_)
 ·exact rn
 refine Z37 ?_;refine R.fin [1, 9] ?_
 refine W.cond (fun ht9 => ?_) (fun ht9 => ?_)
 ·refine Jy ?_;refine R.call Tryz.call122 (xy e.text _) ?_;refine Zy ?_;exact o3
 refine To ?_;exact o3

end Go.SX.Nb
namespace Go.Proofs
open Go.Shelf Go.RowKit

section
variable {P : Program} (w : World)

/-- Bytes behind a builder's bytes: what is handed back lies where it lay, or in the next block, or nowhere still. -/
theorem bj {t u ty e : TypeId} {i : TypeInfo} (ht : P.underlying t = some (.slice e)) (hu : P.underlying u = some .string) (hi : P.info? e = some i) (hz : i.zero = some (.int .u8 0)) (hsize : i.size = 1) (hby : i.bytes = 1)
  (v : Value) (n : Nat) (xs : List Value) (hown : w.ownsRow 0 e 1 v n xs) (s : ByteArray) (hb : n + s.size ≤ 140737488355328) :
  ∃ v' w', (Builtin.append_ #[t, u] ty #[v, .string s]).run P w = .ok v' w' ∧ w'.ownsRow 0 e 1 v' (n + s.size) (xs ++ Lib.strCells s) ∧ w.grownBy w' v'.ownBlock ∧
   ((v = .slice none 0 0 ∧ v' = v ∧ s.size = 0) ∨ (∃ g cap, v = .slice (some ⟨g, 0, none⟩) n cap ∧ v' = .slice (some ⟨g, 0, none⟩) (n + s.size) cap) ∨ ∃ cap, v' = .slice (some ⟨w.heap.size, 0, none⟩) (n + s.size) cap ∧ 0 < n + s.size) := by
 have h63 : n + s.size ≤ maxLen := by unfold maxLen; omega
 obtain ⟨v', w', hr, h1, h2, h3⟩ := Lib.run_append_own_string (P := P) w 0 t u ty e i ht hu hi hz hsize hby v n xs hown s h63 hb (Nat.zero_le _)
 have hxl : xs.length = n := by simpa using hown.1
 refine ⟨v', w', hr, h1, ?_⟩
 rcases hown.2 with ⟨rfl, rfl⟩ | ⟨g, cap, cur, rfl, hbg, hg, hnc, hcm, hcs, htake⟩
 ·by_cases hm : s.size = 0
  ·have e1 := h3.2 ⟨rfl, hm⟩
   exact ⟨by rw [e1]; exact h2, .inl ⟨rfl, e1, hm⟩⟩
  have hr2 := run_append_nil_string (P := P) w t u ty e i (.int .u8 0) ht hu hi hz s (by omega) (by omega) (by rw [hby]; omega)
  rw [hr] at hr2
  injection hr2 with e1 e2
  refine ⟨?_, .inr (.inr ⟨_, by rw [e1, Nat.zero_add], by omega⟩)⟩
  rw [e2]
  exact ⟨rfl, rfl, rfl, by simp, fun k hk _ => Lib.alloc_old w.drew _ k hk⟩
 by_cases hroom : n + s.size ≤ cap
 ·have hcs' : cur.size = cap := by simpa using hcs
  have hr2 := Lib.run_append_room_string (P := P) w t u ty e i ht hu hi hsize g n cap cur hg s hroom (by omega)
  rw [hr] at hr2
  injection hr2 with e1 e2
  exact ⟨by rw [e1]; exact h2, .inr (.inl ⟨g, cap, rfl, e1⟩)⟩
 have holds : ∀ j u, xs[j]? = some u → w.cell? ((⟨g, 0, none⟩ : Addr).add j) = some u := hown.cells (g := g) rfl
 have hr2 := Lib.run_append_grow_string (P := P) w t u ty e i (.int .u8 0) ht hu hi hz ⟨g, 0, none⟩ n cap xs (by rw [hsize]; simpa using hxl) holds s (by omega) (by omega) (by rw [hby]; exact growslice_fits (by omega) (by omega))
 rw [hr] at hr2
 injection hr2 with e1 e2
 refine ⟨?_, .inr (.inr ⟨_, e1, by omega⟩)⟩
 rw [e2]
 exact ⟨rfl, rfl, rfl, by simp, fun k hk _ => Lib.alloc_old w.drew _ k hk⟩
end

theorem M0 {P : Program} {w w' : World} {ops : Array Oper} {rest : List Oper} {o : Oper} {a : Act} {Q : Exit → Act → World → Prop} {v v' : Value} {s : ByteArray} (hgd : o.guard = none) (sl x : Operand) (t u ty : TypeId)
  (ho : o.op = .call { callee := .builtin .append, args := #[sl, x], argTypes := #[t, u] }) (hty : o.type = ty) (hs : a.eval sl = v) (hx : a.eval x = .string s) (hrun : (Builtin.append_ #[t, u] ty #[v, .string s]).run P w = .ok v' w')
  (h : wpList P ops Q rest (a.put o.dst v') w') : wpList P ops Q (o :: rest) a w := by
 refine wpList_plain hgd fun K hK => ?_
 subst hty
 unfold Oper.wp execOp
 simp only [ho, resolve, invoke, builtin, Sem.run_bind, Sem.run_pure, Result.andThen_ok, List.map_toArray, List.map_cons, List.map_nil, hs, hx, hrun]
 exact hK _ _ h

section
variable {P : Program} {ρ : Ren}

set_option maxHeartbeats 1000000 in
set_option maxRecDepth 100000 in
/-- The check of an unused builder within a block of type T. -/
theorem bl (L : Lays.n240 P ρ) (X : Builder.X72 P ρ) {T : TypeId} (hl : liesAt P P.depth T (2 / P.cellsOf T) 0 (ρ.t 72) 1 = true) (b : Nat) (w : World) (h0 : w.cell? ⟨b, 0, none⟩ = some (.pointer none)) (hsh : w.shape? b = some (T, 2)) (hfz : w.frozen? ⟨b, 0, none⟩ = false) :
  Calls P (ρ.f 240) #[.pointer (some ⟨b, 0, none⟩)] w fun e w' => e = .returned (.tuple #[]) ∧ w' = w.setCell ⟨b, 0, none⟩ (.pointer (some ⟨b, 0, none⟩)) := by
 obtain ⟨j, hj, hjs⟩ := Option.map_eq_some_iff.1 X.sizeBuilder
 have mixed := L.mixed
 have t72 := L.t72; have a72 := L.a72; have z72 := L.z72; have v72 := L.v72; have u72 := run_underlying L.t72
 have t70 := L.t70; have a70 := L.a70; have z70 := L.z70; have v70 := L.v70; have u70 := run_underlying L.t70
 have t9 := L.t9; have a9 := L.a9; have z9 := L.z9; have v9 := L.v9; have u9 := run_underlying L.t9
 have t4 := L.t4; have a4 := L.a4; have z4 := L.z4; have v4 := L.v4; have u4 := run_underlying L.t4
 have t164 := L.t164; have a164 := L.a164; have z164 := L.z164; have v164 := L.v164; have u164 := run_underlying L.t164
 go_enter L.f240, Body.n240_ntmps ρ
 go_wp2
 rw [Lib.run_to_unsafe w ⟨b, 0, none⟩ L.t70 L.t164 hj (by rw [hjs]; decide) hsh (Nat.zero_lt_succ 1)]
 simp only [Result.andThen]
 rw [Oper.upon_value]
 go_wp2
 rw [run_callFunc_extern L.f276 (by kernel_rfl) (by kernel_rfl) (by kernel_rfl) (e := Extern.AbiNoEscape.same) (by kernel_rfl)]
 rw [Lib.run_noEscape]
 simp only [Result.andThen]
 rw [Oper.upon_value]
 go_wp2
 rw [Lib.run_from_unsafe w ⟨b, 0, none⟩ L.t164 L.t70 hj hsh hl]
 simp only [Result.andThen]
 rw [Oper.upon_value]
 go_wp2
 go_end0
 exact ⟨rfl, rfl⟩

/-- The check: behind it the first cell holds the builder's own address; nothing else turns. -/
theorem gg (L : Lays.n240 P ρ) (X : Builder.X72 P ρ) {T e : TypeId} (hl : liesAt P P.depth T (2 / P.cellsOf T) 0 (ρ.t 72) 1 = true) (b : Nat) (p v : Value) (n : Nat) (bs : List Value) (w : World) (h : Ib T e b p v n bs w) :
  Calls P (ρ.f 240) #[.pointer (some ⟨b, 0, none⟩)] w fun e' w' => e' = .returned (.tuple #[]) ∧ Ib T e b (.pointer (some ⟨b, 0, none⟩)) v n bs w' ∧ w.grownBy w' (some b) ∧ w'.heap.size = w.heap.size := by
 obtain ⟨h1, hp, h3, h4⟩ := h
 rcases hp with rfl | rfl
 ·refine (bl L X hl b w (by rw [Lib.cell_of_heap h1]; rfl) (by simp [World.shape?, h1]) (Lib.frozen_of_heap h1 0)).mono ?_
  rintro e' w' ⟨rfl, rfl⟩
  have hgr : w.grownBy (w.setCell ⟨b, 0, none⟩ (.pointer (some ⟨b, 0, none⟩))) (some b) := ⟨rfl, rfl, rfl, by simp [World.setCell], fun k _ hk => Below.heap_setCell _ _ _ _ (fun e => hk (by simp [e]))⟩
  exact ⟨rfl, ⟨by simp [World.setCell, Array.getElem?_modify, h1], .inr rfl, h3.kept hgr (.inr h4), h4⟩, hgr, by simp [World.setCell]⟩
 refine (Any.Builder_copyCheck_used L X b w (by rw [Lib.cell_of_heap h1]; rfl)).mono ?_
 rintro e' w' ⟨rfl, rfl⟩
 exact ⟨rfl, ⟨h1, .inr rfl, h3, h4⟩, ⟨rfl, rfl, rfl, Nat.le_refl _, fun _ _ _ => rfl⟩, rfl⟩

set_option maxHeartbeats 1000000 in
set_option maxRecDepth 100000 in
/-- How many bytes there are. -/
theorem bldLen (L : Lays.n170 P ρ) {T e : TypeId} (b : Nat) (p v : Value) (n : Nat) (bs : List Value) (w : World) (h : Ib T e b p v n bs w) :
  Calls P (ρ.f 170) #[.pointer (some ⟨b, 0, none⟩)] w fun e' w' => e' = .returned (.int .i64 n) ∧ w' = w := by
 obtain ⟨h1, _, h3, _⟩ := h
 obtain ⟨ao, cap, rfl⟩ : ∃ ao cap, v = .slice ao n cap := by
  rcases h3.2 with ⟨hv, h0⟩ | ⟨g, cap, cur, hv, _⟩
  ·exact ⟨none, 0, by rw [hv, h0]⟩
  exact ⟨_, _, hv⟩
 have c1 : w.cell? ⟨b, 1, none⟩ = some (.slice ao n cap) := by rw [Lib.cell_of_heap h1]; rfl
 have mixed := L.mixed
 have t72 := L.t72; have a72 := L.a72; have z72 := L.z72; have v72 := L.v72; have u72 := run_underlying L.t72
 have t70 := L.t70; have a70 := L.a70; have z70 := L.z70; have v70 := L.v70; have u70 := run_underlying L.t70
 have t37 := L.t37; have a37 := L.a37; have z37 := L.z37; have v37 := L.v37; have u37 := run_underlying L.t37
 have t3 := L.t3; have a3 := L.a3; have z3 := L.z3; have v3 := L.v3; have u3 := run_underlying L.t3
 go_enter L.f170, Body.n170_ntmps ρ
 go_wp2
 go_ret
 exact ⟨rfl, rfl⟩

set_option maxHeartbeats 2000000 in
set_option maxRecDepth 100000 in
/-- A text is written behind it. -/
theorem bldWrite (L : Lays.n166 P ρ) (X : Builder.Extra P ρ) {T : TypeId} (hl : liesAt P P.depth T (2 / P.cellsOf T) 0 (ρ.t 72) 1 = true) (hTe : T ≠ ρ.t 5) (b : Nat) (p v : Value) (n : Nat) (bs : List Value) (s : ByteArray) (w : World) (h : Ib T (ρ.t 5) b p v n bs w)
  (hlen : n + s.size ≤ 140737488355328) :
  Calls P (ρ.f 166) #[.pointer (some ⟨b, 0, none⟩), .string s] w fun e w' => e = .returned (.tuple #[.int .i64 s.size, .nilIface]) ∧ ∃ v', Ib T (ρ.t 5) b (.pointer (some ⟨b, 0, none⟩)) v' (n + s.size) (bs ++ Lib.strCells s) w' ∧
   (w'.os = w.os ∧ w'.tape = w.tape ∧ w'.output = w.output ∧ w.heap.size ≤ w'.heap.size) ∧ (∀ k, k < w.heap.size → k ≠ b → v'.ownBlock ≠ some k → w'.heap[k]? = w.heap[k]?) ∧
   ((v = .slice none 0 0 ∧ v' = v ∧ s.size = 0) ∨ (∃ g cap, v = .slice (some ⟨g, 0, none⟩) n cap ∧ v' = .slice (some ⟨g, 0, none⟩) (n + s.size) cap) ∨ ∃ cap, v' = .slice (some ⟨w.heap.size, 0, none⟩) (n + s.size) cap ∧ 0 < n + s.size) := by
 obtain ⟨i0, hi, hz0, hz1, hz2⟩ := info_parts X.infoByte
 have mixed := L.mixed
 have t72 := L.t72; have a72 := L.a72; have z72 := L.z72; have v72 := L.v72; have u72 := run_underlying L.t72
 have t70 := L.t70; have a70 := L.a70; have z70 := L.z70; have v70 := L.v70; have u70 := run_underlying L.t70
 have t37 := L.t37; have a37 := L.a37; have z37 := L.z37; have v37 := L.v37; have u37 := run_underlying L.t37
 have t3 := L.t3; have a3 := L.a3; have z3 := L.z3; have v3 := L.v3; have u3 := run_underlying L.t3
 have t9 := L.t9; have a9 := L.a9; have z9 := L.z9; have v9 := L.v9; have u9 := run_underlying L.t9
 have t4 := L.t4; have a4 := L.a4; have z4 := L.z4; have v4 := L.v4; have u4 := run_underlying L.t4
 have t164 := L.t164; have a164 := L.a164; have z164 := L.z164; have v164 := L.v164; have u164 := run_underlying L.t164
 have t5 := X.t5; have a5 := X.a5; have z5 := X.z5; have v5 := X.v5; have u5 := run_underlying X.t5
 have e240 : ∀ args w, (callFunc (ρ.f 240) args).run P w = .ok (.enter (ρ.f 240) args) w := enters_of L.f240 (by kernel_rfl) rfl
 go_enter L.f166, Body.n166_ntmps ρ
 go_wp2_with (go_at_fn (ρ.f 240); refine (gg { L with } X.toX72 hl b p v n bs _ h).mono ?_)
 rintro e w1 ⟨rfl, ⟨hbk, _, hown, hne⟩, hg1, hs1⟩
 have c0 : w1.cell? ⟨b, 0, none⟩ = some (.pointer (some ⟨b, 0, none⟩)) := by rw [Lib.cell_of_heap hbk]; rfl
 have c1 : w1.cell? ⟨b, 1, none⟩ = some v := by rw [Lib.cell_of_heap hbk]; rfl
 obtain ⟨v', w2, hrun, hown', hgrow, hcase⟩ := bj (P := P) w1 (ty := ρ.t 37) L.t37 L.t9 hi hz0 hz1 hz2 v n bs hown s hlen
 have hlt : b < w1.heap.size := (Array.getElem?_eq_some_iff.1 hbk).1
 have hne' : v'.ownBlock ≠ some b := by
  rcases hcase with ⟨_, e1, _⟩ | ⟨g, cap, e1, e2⟩ | ⟨cap, e1, _⟩
  ·rw [e1]; exact hne
  ·rw [e2]; rw [e1] at hne; exact hne
  rw [e1]; simp [Value.ownBlock]; omega
 have hb2 : w2.heap[b]? = some (.cells #[.pointer (some ⟨b, 0, none⟩), v] T (0, 0)) := by
  rw [hgrow.block b hlt (fun e => hne' e.symm)]
  exact hbk
 have d0 : w2.cell? ⟨b, 0, none⟩ = some (.pointer (some ⟨b, 0, none⟩)) := by rw [Lib.cell_of_heap hb2]; rfl
 have d1 : w2.cell? ⟨b, 1, none⟩ = some v := by rw [Lib.cell_of_heap hb2]; rfl
 have f1 : w2.frozen? ⟨b, 1, none⟩ = false := Lib.frozen_of_heap hb2 1
 obtain ⟨ao, n', cap, rfl⟩ : ∃ ao n' cap, v' = .slice ao n' cap := by
  rcases hown'.2 with ⟨hv, _⟩ | ⟨g, cap, cur, hv, _⟩
  ·exact ⟨_, _, _, hv⟩
  exact ⟨_, _, _, hv⟩
 go_wp2_with (at_builtin; refine M0 rfl _ _ (ρ.t 37) (ρ.t 9) (ρ.t 37) rfl rfl rfl rfl hrun ?_)
 go_ret2
 refine ⟨rfl, _, ⟨by simp [World.setCell, Array.getElem?_modify, hb2], .inr rfl, hown'.kept (row := some b) ⟨rfl, rfl, rfl, by simp [World.setCell], fun k _ hk => Below.heap_setCell _ _ _ _ (fun e => hk (by simp [e]))⟩ (.inr hne'), hne'⟩, ⟨?_, ?_, ?_, ?_⟩, fun k hk hkb hkr => ?_, ?_⟩
 ·exact hgrow.os.trans hg1.os
 ·exact hgrow.tape.trans hg1.tape
 ·exact hgrow.output.trans hg1.output
 ·have := hgrow.size
  simp [World.setCell]; omega
 ·rw [Below.heap_setCell _ _ _ _ hkb, hgrow.block k (by omega) (fun e => hkr e.symm), hg1.block k hk (by simpa using hkb)]
 rw [hs1] at hcase; exact hcase

set_option maxHeartbeats 2000000 in
set_option maxRecDepth 100000 in
/-- Its text: some of its row is frozen; nothing else turns. -/
theorem bldString (L : Lays.n169 P ρ) (X : Builder.Extra P ρ) {T : TypeId} (b : Nat) (p v : Value) (l : List UInt8) (w : World) (h : Ib T (ρ.t 5) b p v l.length (Lib.byteCells l) w) (hcap : ∀ g, v ≠ .slice (some ⟨g, 0, none⟩) 0 0) :
  Calls P (ρ.f 169) #[.pointer (some ⟨b, 0, none⟩)] w fun e w' => e = .returned (.string ⟨l.toArray⟩) ∧ (w'.os = w.os ∧ w'.tape = w.tape ∧ w'.output = w.output ∧ w.heap.size ≤ w'.heap.size) ∧ ∀ k, v.ownBlock ≠ some k → w'.heap[k]? = w.heap[k]? := by
 obtain ⟨hbk, _, hown, hne⟩ := h
 have mixed := L.mixed
 have t72 := L.t72; have a72 := L.a72; have z72 := L.z72; have v72 := L.v72; have u72 := run_underlying L.t72
 have t70 := L.t70; have a70 := L.a70; have z70 := L.z70; have v70 := L.v70; have u70 := run_underlying L.t70
 have t37 := L.t37; have a37 := L.a37; have z37 := L.z37; have v37 := L.v37; have u37 := run_underlying L.t37
 have t127 := L.t127; have a127 := L.a127; have z127 := L.z127; have v127 := L.v127; have u127 := run_underlying L.t127
 have t3 := L.t3; have a3 := L.a3; have z3 := L.z3; have v3 := L.v3; have u3 := run_underlying L.t3
 have t9 := L.t9; have a9 := L.a9; have z9 := L.z9; have v9 := L.v9; have u9 := run_underlying L.t9
 have t5 := X.t5; have a5 := X.a5; have z5 := X.z5; have v5 := X.v5; have u5 := run_underlying X.t5
 rcases hown.2 with ⟨rfl, h0⟩ | ⟨g, cap, cur, rfl, hbg, hg, hnc, hcm, hcs, htake⟩
 ·have hl : l = [] := List.eq_nil_of_length_eq_zero h0
  subst hl
  have hUS := Any.unsafeString_none L X
  have c1 : w.drew.cell? ⟨b, 1, none⟩ = some (.slice none 0 0) := by
   have : w.drew.heap[b]? = some (.cells #[p, .slice none 0 0] T (0, 0)) := hbk
   rw [Lib.cell_of_heap this]; rfl
  have hSD : (Builtin.unsafeSliceData_ #[(ρ.t 37)] (ρ.t 127) #[.slice none 0 0]).run P w.drew = .ok (.pointer none) w.drew := rfl
  go_enter L.f169, Body.n169_ntmps ρ
  go_wp2
  go_region_o
  all_goals (go_wp2; go_ret; exact ⟨rfl, ⟨rfl, rfl, rfl, Nat.le_refl _⟩, fun _ _ => rfl⟩)
 have hc0 : cap ≠ 0 := by
  rintro rfl
  exact hcap g (by rw [show l.length = 0 by omega])
 have c1 : w.drew.cell? ⟨b, 1, none⟩ = some (.slice (some ⟨g, 0, none⟩) l.length cap) := by
  have : w.drew.heap[b]? = some (.cells #[p, .slice (some ⟨g, 0, none⟩) l.length cap] T (0, 0)) := hbk
  rw [Lib.cell_of_heap this]; rfl
 have hSD : (Builtin.unsafeSliceData_ #[(ρ.t 37)] (ρ.t 127) #[.slice (some ⟨g, 0, none⟩) l.length cap]).run P w.drew = .ok (.pointer (some ⟨g, 0, none⟩)) w.drew :=
  Lib.run_unsafeSliceData_row _ _ _ _ _ _ hc0
 by_cases hl : l = []
 ·subst hl
  have hUS := Any.unsafeString_none L X
  clear hc0 hcap
  simp only [List.length_nil] at c1 hSD
  go_enter L.f169, Body.n169_ntmps ρ
  go_wp2
  go_region_o
  all_goals (go_wp2; go_ret; exact ⟨rfl, ⟨rfl, rfl, rfl, Nat.le_refl _⟩, fun _ _ => rfl⟩)
 have hUS : (Builtin.unsafeString_ #[(ρ.t 127), (ρ.t 3)] (ρ.t 9) #[.pointer (some ⟨g, 0, none⟩), .int .i64 l.length]).run P w.drew = .ok (.string ⟨l.toArray⟩) (w.drew.freeze ⟨g, 0, none⟩ l.length) := by
  refine Lib.run_unsafeString_row w.drew (ρ.t 127) (ρ.t 3) (ρ.t 9) (ρ.t 5) L.t127 X.cellsByte g cur.size (by have hg' : w.drew.heap[g]? = some (.cells cur (ρ.t 5) (0, 0)) := hg; simp [World.shape?, hg']) l hl (by omega) (by unfold maxLen at hcm; omega) ?_
  intro j x hx
  exact hown.cells (g := g) rfl j (.int .u8 x.toNat) (by simp [Lib.byteCells, hx])
 have hfz : ∀ k, g ≠ k → (w.drew.freeze ⟨g, 0, none⟩ l.length).heap[k]? = w.heap[k]? := fun k hk => by
  unfold World.freeze
  split
  ·rfl
  show (w.heap.modify g _)[k]? = _
  rw [Array.getElem?_modify, if_neg hk]
 have hfs : (w.drew.freeze ⟨g, 0, none⟩ l.length).heap.size = w.heap.size := by
  unfold World.freeze
  split
  ·rfl
  show (w.heap.modify g _).size = _
  simp
 have hfo : (w.drew.freeze ⟨g, 0, none⟩ l.length).os = w.os ∧ (w.drew.freeze ⟨g, 0, none⟩ l.length).tape = w.tape ∧ (w.drew.freeze ⟨g, 0, none⟩ l.length).output = w.output := by
  unfold World.freeze
  split <;> exact ⟨rfl, rfl, rfl⟩
 clear hc0 hcap
 go_enter L.f169, Body.n169_ntmps ρ
 go_wp2
 go_region_o
 all_goals (go_wp2; go_ret; exact ⟨rfl, ⟨hfo.1, hfo.2.1, hfo.2.2, Nat.le_of_eq hfs.symm⟩, fun k hk => hfz k (fun e => hk (by rw [e]; rfl))⟩)
end
end Go.Proofs

namespace Go.SX.Nb
open Go Go.SX Go.Proofs Go.Shelf
variable [ErrAt]
set_option maxRecDepth 8000
/-! show's builder. -/
theorem lq : Builder.Extra Tryz.prog Tryz.ren155 where
 sizeBuilder := by kernel_rfl
 liesBuilder := by kernel_rfl
 t5 := Tryz.underlying5
 a5 := Tryz.isAgg5
 z5 := Tryz.sizeOf5
 v5 := Tryz.zeroValue5
 infoByte := by kernel_rfl
 cellsByte := by kernel_rfl
 sizeByte := by kernel_rfl
 neB5 := by decide
theorem lr : liesAt Tryz.prog Tryz.prog.depth 112 (2 / Tryz.prog.cellsOf 112) 0 66 1 = true := by kernel_rfl
abbrev P7 (bs : Str) : AObj := .bld 112 5 bs
theorem C7 {n : Nat} {bs : Str} : ObjLow n (P7 bs) := trivial
/-- (*strings.Builder).WriteString. -/
theorem c21 (bs s : Str) (hl : bs.length + s.length ≤ 140737488355328) (o : Nat) (Hp : List AObj) (ho : Hp[o]? = some (P7 bs)) :
  ACall Tryz.prog 21 [.ptr o 0, A7 s] Hp (fun r H' => r = .tup [A3 s.length, .v .nilIface] ∧ H' = Hp.set o (P7 (bs ++ s))) := by
 refine ACall.bldWrite ho (fun b p v w h => ?_)
 have hw := bldWrite Tryz.lays166 lq (T := 112) lr (by decide) b p v bs.length (Lib.byteCells bs) ⟨s.toArray⟩ w h (by rw [Cn]; exact hl)
 rw [Cn, Lib.strCells_eq, ← Lib.byteCells_append] at hw
 exact hw
/-- (*strings.Builder).Len. -/
theorem c66 (bs : Str) (o : Nat) (Hp : List AObj) (ho : Hp[o]? = some (P7 bs)) : AFun Tryz.prog 66 [.ptr o 0] Hp (A3 bs.length) :=
 AFun.bldLen ho (fun b p v w h => bldLen Tryz.lays170 (T := 112) (e := 5) b p v _ _ w h)
/-- (*strings.Builder).String. -/
theorem c24 (bs : Str) (o : Nat) (Hp : List AObj) (ho : Hp[o]? = some (P7 bs)) : ACall Tryz.prog 24 [.ptr o 0] Hp (fun r H' => r = A7 bs ∧ H' = Hp.set o (.cells 112 [.any, .any])) :=
 ACall.bldString ho (fun b p v w h hc => bldString (ρ := Tryz.ren155) { Tryz.lays155 with } lq (T := 112) b p v bs w h hc)
end Go.SX.Nb
namespace Go.SX.Nb
open Go Go.SX Go.Proofs
variable [ErrAt]
set_option maxRecDepth 4000
abbrev mt : AV := .v (.tuple #[])
abbrev Eh : Nat := 1099511627776
/-- What node writes. -/
def gh (e : Expr) : Prop := ∀ (o : Nat) (bs : Str) (Hp : List AObj), Hp[o]? = some (P7 bs) → bs.length + (Ac e).length ≤ Eh → ACall Tryz.prog 65 [.ptr o 0, A5 e] Hp (fun r H' => r = mt ∧ H' = Hp.set o (P7 (bs ++ Ac e)))
theorem R9 (e : Expr) : Ac e = Jp e.op e.text e.val e.kids (e.kids.map Ac) := by
 cases e with
 | mk o t v k => rw [Ac, Kc]; rfl
theorem V5 {k : List Expr} {i : Nat} (h : i < k.length) : (k.map Ac).getD i [] = Ac (k.getD i A8) := by
 rw [List.getD_eq_getElem?_getD, List.getD_eq_getElem?_getD, List.getElem?_map, List.getElem?_eq_getElem h]
 rfl
theorem Ra (l : List Str) (s : Str) : Du (l ++ [s]) = Du l ++ (44 :: 32 :: s) := by
 induction l with
 | nil => simp [Du]
 | cons a r ih => simp [Du, ih]
theorem V6 {k : List Expr} {x : Nat} (h : x < k.length) : (Du ((k.take (x + 1)).map Ac)).drop 2 = (Du ((k.take x).map Ac)).drop 2 ++ (if 0 < x then [44, 32] else []) ++ Ac k[x] := by
 rw [List.take_succ_eq_append_getElem h, List.map_append, List.map_singleton, Ra]
 cases x with
 | zero => simp [Du]
 | succ x =>
  have : 2 ≤ (Du ((k.take (x + 1)).map Ac)).length := by
   rw [List.take_succ_eq_append_getElem (by omega), List.map_append, List.map_singleton, Ra]
   simp
   omega
  rw [List.drop_append_of_le_length this, if_pos (by omega)]
  simp
theorem gi {k : List Expr} (x : Nat) : (Du ((k.take x).map Ac)).length ≤ (Du (k.map Ac)).length := by
 have : k.map Ac = (k.take x).map Ac ++ (k.drop x).map Ac := by rw [← List.map_append, List.take_append_drop]
 rw [this]
 have : ∀ a b : List Str, (Du a).length ≤ (Du (a ++ b)).length := by
  intro a b
  induction a with
  | nil => simp [Du]
  | cons c r ih => simp [Du]; exact ih
 exact this _ _
theorem V7 {H : List AObj} {o : Nat} {a b : AObj} : (H.set o a).set o b = H.set o b := List.set_set _
theorem c93 (e : Expr) (he : gh e) (hlev : L8 e = (levE e : Int)) (least : Nat) (l0 : Int) (hl0 : l0 = (least : Int)) (o : Nat) (bs : Str) (Hp : List AObj) (ho : Hp[o]? = some (P7 bs)) (hb : bs.length + (Ha least e (Ac e)).length ≤ Eh) : ACall Tryz.prog 93 [.ptr o 0, A5 e, A3 l0] Hp (fun r H' => r = mt ∧ H' = Hp.set o (P7 (bs ++ Ha least e (Ac e)))) := by
 subst hl0
 refine ACall.body [] [0, 1, 2] Tryz.func93 Tryz.ntmps93 (fun d => ?_)
 refine Z30 ?_;refine R.fin [0, 2, 4] ?_;refine W6 ?_;refine R.call Tryz.call91 (c91 e _) ?_;refine Av ?_;refine R.geq ?_;refine R.fin [0, 4, 9] ?_
 refine W.cond (fun ht9 => ?_) (fun ht9 => ?_)
 ·have hz : least ≤ levE e := by
   have h := ht9
   rw [hlev] at h
   simpa using h
  rw [show Ha least e (Ac e) = Ac e from if_pos hz] at hb ⊢
  refine dm ?_;refine R.callUp Tryz.call65 ho (by simp) C7 (he o bs _ (B9 ho) (by omega)) ?_;refine R.fin [] ?_;refine dl ?_;exact K.fin .nores ⟨rfl, by simp⟩
 have hz : ¬ least ≤ levE e := by
  have h := ht9
  rw [hlev] at h
  simpa using h
 rw [show Ha least e (Ac e) = 40 :: (Ac e ++ [41]) from if_neg hz] at hb ⊢
 simp only [List.length_cons, List.length_append, List.length_nil, Eh] at hb
 refine Z96 ?_;refine Z91 ?_
 refine R.callUp Tryz.call21 ho (by simp) C7 (c21 bs [40] (by simp only [Eh, List.length_append, List.length_cons, List.length_nil] at *; omega) o _ (B9 ho)) ?_
 refine R.fin [0, 4] ?_;refine dm ?_
 refine R.callUp Tryz.call65 (Ay ho) (by simp) C7 (he o (bs ++ [40]) _ (B9 (Ay ho)) (by simp only [Eh, List.length_append, List.length_cons, List.length_nil] at *; omega)) ?_
 refine R.fin [0] ?_;refine Z7 ?_;refine Z91 ?_
 refine R.callUp Tryz.call21 (Ay (Ay ho)) (by simp) C7 (c21 (bs ++ [40] ++ Ac e) [41] (by simp only [Eh, List.length_append, List.length_cons, List.length_nil] at *; omega) o _ (B9 (Ay (Ay ho)))) ?_
 refine R.fin [] ?_;exact K.finN .nores ⟨rfl, by simp⟩

theorem c65 : ∀ (n : Nat) (e : Expr), okE n e → Cm Bp e = true → Cm Fu e = true → gh e := by
 intro n
 induction n with
 | zero => exact fun e h => h.elim
 | succ n ih =>
 intro e hok hnd hrg o bs Hp ho hb
 have hnd0 := hnd
 have hrg0 := hrg
 rw [Cp, Bool.and_eq_true] at hnd0 hrg0
 have hev : ∀ y ∈ e.kids, gh y := fun y hy => ih y (hok.2.2 y hy) ((Cg _ _).1 hnd0.2 y hy) ((Cg _ _).1 hrg0.2 y hy)
 have hlv : ∀ y ∈ e.kids, L8 y = (levE y : Int) := fun y hy => N2 (by have := (Cg _ _).1 hnd0.2 y hy; rw [Cp, Bool.and_eq_true] at this; exact this.1)
 obtain ⟨k5, k34, k6, kall⟩ := V4 hnd0.1
 have hi64 : Tz e.val.n := by
  have := hrg0.1
  simp only [Fu, Bool.and_eq_true, decide_eq_true_eq] at this
  exact this
 have hlv0 := N2 hnd0.1
 have pe := R9 e
 have hol := (List.getElem?_eq_some_iff.1 ho).1
 unfold Jp at pe
 refine ACall.body [] [0, 1] Tryz.func65 Tryz.ntmps65 (fun d => ?_)
 refine Z30 ?_;refine Fd ?_;refine Z86 ?_;refine R.call Tryz.call91 (c91 e _) ?_;refine jf ?_;refine Nr ?_;refine R.fin [0, 3, 4, 11] ?_;refine Ld ?_;refine R.fin [0, 3, 4, 11, 12] ?_
 refine W.cond (fun ht12 => ?_) (fun ht12 => ?_)
 ·rw [if_pos ht12] at pe
  refine W.draw0 [0, 1, 3, 0, 8, 24, 63] 6 Ah (by kernel_rfl) ?_;refine du ?_;refine D.fieldAddrPtr (fo := 0) jU Tryz.sizeOf66 ?_;refine D.fieldAddrRo (off := 2) jU Tryz.sizeOf58 ?_;refine Pz ?_;refine D.call Tryz.call92 (c92 e.val hi64 _) ?_;refine D.tail ?_
  refine R.callUp Tryz.call21 ho (by simp) C7 (c21 bs (Dg e.val) (by rw [pe] at hb; simp only [Eh] at hb; omega) o _ (B9 ho)) ?_
  exact Zq
 rw [if_neg (by rw [ht12]; simp)] at pe
 refine Z37 ?_;refine R.fin [0, 3, 4, 11, 21] ?_
 refine W.cond (fun ht21 => ?_) (fun ht21 => ?_)
 ·rw [if_pos ht21] at pe
  refine W.draw0 [0, 1, 3, 0, 8, 31] 5 Ah (by kernel_rfl) ?_;refine du ?_;refine iu ?_;refine H1 ?_;refine D.tail ?_
  refine R.callUp Tryz.call21 ho (by simp) C7 (c21 bs e.text (by rw [pe] at hb; simp only [Eh] at hb; omega) o _ (B9 ho)) ?_
  exact Zq
 rw [if_neg (by rw [ht21]; simp)] at pe
 refine Z37 ?_;refine R.fin [0, 3, 4, 11, 29] ?_
 refine W.cond (fun ht29 => ?_) (fun ht29 => ?_)
 ·rw [if_pos ht29] at pe
  have hkl := k34 (.inl (by simpa using ht29))
  rw [V5 (by omega)] at pe
  rw [pe] at hb
  simp only [List.length_cons, Eh] at hb
  refine Z0 ?_;refine Z91 ?_
  refine R.callUp Tryz.call21 ho (by simp) C7 (c21 bs [45] (by simp only [Eh, List.length_append, List.length_cons, List.length_nil] at *; omega) o _ (B9 ho)) ?_
  refine Fd ?_;refine Z7 ?_;refine Zr ?_
  refine R.callUp Tryz.call93 (Ay ho) (by simp) C7 (c93 (e.kids.getD 0 A8) (hev _ (Fv (by omega)).2.1) (hlv _ (Fv (by omega)).2.1) (6) _ (rfl) o (bs ++ [45]) _ (B9 (Ay ho)) (by simp only [Eh, List.length_append, List.length_cons, List.length_nil] at *; omega)) ?_
  exact Zq
 rw [if_neg (by rw [ht29]; simp)] at pe
 refine Z37 ?_;refine R.fin [0, 3, 4, 11, 41] ?_
 refine W.cond (fun ht41 => ?_) (fun ht41 => ?_)
 ·rw [if_pos ht41] at pe
  have hkl := k34 (.inr (by simpa using ht41))
  rw [V5 (by omega)] at pe
  rw [pe] at hb
  simp only [List.length_cons, List.length_append, Ul, List.length_nil, Eh] at hb
  refine Z0 ?_;refine Z91 ?_
  refine R.callUp Tryz.call21 ho (by simp) C7 (c21 bs [110, 111, 116, 32] (by simp only [Eh, List.length_append, List.length_cons, List.length_nil] at *; omega) o _ (B9 ho)) ?_
  refine Fd ?_;refine Z7 ?_;refine Zr ?_
  refine R.callUp Tryz.call93 (Ay ho) (by simp) C7 (c93 (e.kids.getD 0 A8) (hev _ (Fv (by omega)).2.1) (hlv _ (Fv (by omega)).2.1) (2) _ (rfl) o (bs ++ [110, 111, 116, 32]) _ (B9 (Ay ho)) (by simp only [Eh, List.length_append, List.length_cons, List.length_nil] at *; omega)) ?_
  exact Zq
 rw [if_neg (by rw [ht41]; simp)] at pe
 refine Z37 ?_;refine R.fin [0, 3, 4, 11, 53] ?_
 refine W.cond (fun ht53 => ?_) (fun ht53 => ?_)
 ·rw [if_pos ht53] at pe
  have h5 : e.op = 5 := by simpa using ht53
  have hkl := k5 h5
  have hlv5 : levE e = (Aj e.text).toNat := by simp [levE, h5]
  have hl5 := Om e.text
  rw [V5 (by omega), V5 (by omega)] at pe
  rw [pe] at hb
  simp only [List.length_cons, List.length_append, Eh] at hb
  rw [hlv0, hlv5]
  refine Z40 ?_;refine R.fin [0, 3, 4, 5] ?_;refine Z10 ?_;refine R.eql ?_;refine R.fin [0, 3, 4, 5, 57] ?_
  refine W.cond (fun ht57 => ?_) (fun ht57 => ?_)
  ·have h3 : (Aj e.text).toNat = 3 := by have := ht57; simp at this; omega
   have hf1 : (((Aj e.text).toNat : Int) + 1) = ((Dj (Aj e.text).toNat : Nat) : Int) := by rw [h3]; rfl
   refine Z41 ?_;refine R.fin [0, 3, 4, 5] ?_;refine Tq ?_;refine Zr ?_;refine Av ?_
   refine R.callUp Tryz.call93 ho (by simp) C7 (c93 (e.kids.getD 0 A8) (hev _ (Fv (by omega)).2.1) (hlv _ (Fv (by omega)).2.1) (Dj (Aj e.text).toNat) _ (by first | exact hf1 | rw [hf2]) o (bs) _ (B9 ho) (by simp only [Eh, List.length_append, List.length_cons, List.length_nil] at *; omega)) ?_
   refine s9 ?_;refine du ?_;refine iu ?_;refine H1 ?_
   refine D.sadd (hl := by simp only [List.length_cons, List.length_nil]; omega) ?_
   refine D.sadd (hl := by simp only [List.length_cons, List.length_nil, List.length_append]; omega) ?_
   refine D.tail ?_
   refine R.callUp Tryz.call21 (Ay ho) (by simp) C7 (c21 (bs ++ Ha (Dj (Aj e.text).toNat) (e.kids.getD 0 A8) (Ac (e.kids.getD 0 A8))) (32 :: (e.text ++ [32])) (by simp only [Eh, List.length_append, List.length_cons, List.length_nil] at *; omega) o _ (B9 (Ay ho))) ?_
   refine Nw ?_;refine Z7 ?_;refine Z19 ?_;refine rl ?_;refine Av ?_;refine R.add64 ?_
   refine R.callUp Tryz.call93 (Ay (Ay ho)) (by simp) C7 (c93 (e.kids.getD 1 A8) (hev _ (Fv (by omega)).2.1) (hlv _ (Fv (by omega)).2.1) ((Aj e.text).toNat + 1) _ (by first | rfl | (push_cast; rfl)) o (bs ++ Ha (Dj (Aj e.text).toNat) (e.kids.getD 0 A8) (Ac (e.kids.getD 0 A8)) ++ 32 :: (e.text ++ [32])) _ (B9 (Ay (Ay ho))) (by simp only [Eh, List.length_append, List.length_cons, List.length_nil] at *; omega)) ?_
   exact Zq
  have h3 : (Aj e.text).toNat ≠ 3 := by have := ht57; simp at this; omega
  have hf2 : Dj (Aj e.text).toNat = (Aj e.text).toNat := by unfold Dj; rw [if_neg h3]
  refine Z96 ?_;refine Zr ?_;refine Av ?_
  refine R.callUp Tryz.call93 ho (by simp) C7 (c93 (e.kids.getD 0 A8) (hev _ (Fv (by omega)).2.1) (hlv _ (Fv (by omega)).2.1) (Dj (Aj e.text).toNat) _ (by first | exact hf1 | rw [hf2]) o (bs) _ (B9 ho) (by simp only [Eh, List.length_append, List.length_cons, List.length_nil] at *; omega)) ?_
  refine s9 ?_;refine du ?_;refine iu ?_;refine H1 ?_
  refine D.sadd (hl := by simp only [List.length_cons, List.length_nil]; omega) ?_
  refine D.sadd (hl := by simp only [List.length_cons, List.length_nil, List.length_append]; omega) ?_
  refine D.tail ?_
  refine R.callUp Tryz.call21 (Ay ho) (by simp) C7 (c21 (bs ++ Ha (Dj (Aj e.text).toNat) (e.kids.getD 0 A8) (Ac (e.kids.getD 0 A8))) (32 :: (e.text ++ [32])) (by simp only [Eh, List.length_append, List.length_cons, List.length_nil] at *; omega) o _ (B9 (Ay ho))) ?_
  refine Nw ?_;refine Z7 ?_;refine Z19 ?_;refine rl ?_;refine Av ?_;refine R.add64 ?_
  refine R.callUp Tryz.call93 (Ay (Ay ho)) (by simp) C7 (c93 (e.kids.getD 1 A8) (hev _ (Fv (by omega)).2.1) (hlv _ (Fv (by omega)).2.1) ((Aj e.text).toNat + 1) _ (by first | rfl | (push_cast; rfl)) o (bs ++ Ha (Dj (Aj e.text).toNat) (e.kids.getD 0 A8) (Ac (e.kids.getD 0 A8)) ++ 32 :: (e.text ++ [32])) _ (B9 (Ay (Ay ho))) (by simp only [Eh, List.length_append, List.length_cons, List.length_nil] at *; omega)) ?_
  exact Zq
 rw [if_neg (by rw [ht53]; simp)] at pe
 refine Z37 ?_;refine R.fin [0, 3, 83] ?_
 refine W.cond (fun ht83 => ?_) (fun ht83 => ?_)
 ·have hsl : ∀ x, ((Du ((e.kids.take x).map Ac)).drop 2).length ≤ ((Du (e.kids.map Ac)).drop 2).length := fun x => by have := gi (k := e.kids) x; rw [List.length_drop, List.length_drop]; omega
  have hkl6 := hok.2.1
  rw [pe] at hb
  simp only [List.length_cons, List.length_append, List.length_nil, Eh] at hb
  refine W.draw [0, 1, 3, 0, 8, 24, 63] 6 Ah (by kernel_rfl) ?_;refine du ?_;refine iu ?_;refine H1 ?_
  refine D.sadd (hl := by simp only [List.length_cons, List.length_nil]; omega) ?_
  refine D.tail ?_
  refine R.callUp Tryz.call21 ho (by simp) C7 (c21 bs (e.text ++ [40]) (by simp only [Eh, List.length_append, List.length_cons, List.length_nil] at *; omega) o _ (B9 ho)) ?_
  refine Fd ?_;refine Z16 ?_;refine Z19 ?_;refine Z64 ?_;refine R.fin [0, 93, 94, 95] ?_
  refine AW.loopC (α := Nat) (fun x => ⟨114, A2 0 (.ptr o 0) (A2 93 (.slice false 6 (e.kids.map A5)) (A2 94 (A3 (e.kids.length : Nat)) (A2 95 (A3 (x : Nat)) (fun _ => .any)))), Hp.set o (P7 (bs ++ (e.text ++ [40]) ++ (Du ((e.kids.take x).map Ac)).drop 2)), [], [], none⟩) (fun x => x ≤ e.kids.length) (fun x => e.kids.length - x) (0) (Nat.zero_le _) (StLe.of_eq (by simp [Du])) rfl (fun x hx => ?_)
  refine Z57 ?_;refine R.fin [0, 93, 94, 95, 96] ?_
  refine W.condX (fun ht96 => ?_) (fun ht96 => ?_)
  ·have hlt : x < e.kids.length := by simpa using ht96
   have hst := V6 hlt
   have hsl1 := hsl (x + 1)
   have hslx := hsl x
   refine Mw ?_;refine Z59 ?_;refine W4 ?_;refine R.fin [0, 6, 7, 93, 94, 95] ?_;refine Z10 ?_;refine R.gtr ?_;refine R.fin [0, 7, 93, 94, 95, 101] ?_
   refine W.cond (fun ht101 => ?_) (fun ht101 => ?_)
   ·have h0x : 0 < x := by simpa using ht101
    rw [if_pos h0x] at hst
    have hstl := congrArg List.length hst
    simp only [List.length_append, List.length_cons, List.length_nil] at hstl
    refine Z7 ?_;refine Z91 ?_
    refine R.callUp Tryz.call21 (Ay ho) (by simp) C7 (c21 (bs ++ (e.text ++ [40]) ++ (Du ((e.kids.take x).map Ac)).drop 2) [44, 32] (by simp only [Eh, List.length_append, List.length_cons, List.length_nil] at *; omega) o _ (B9 (Ay ho))) ?_
    refine R.fin [0, 7, 93, 94, 95] ?_;refine K.thN ?_;refine Z7 ?_;refine O0 ?_
    first | refine R.callUp Tryz.call65 (Ay ho) (by simp) C7 (hev _ (List.getElem_mem hlt) o (bs ++ (e.text ++ [40]) ++ (Du ((e.kids.take x).map Ac)).drop 2) _ (B9 (Ay ho)) (by simp only [Eh, List.length_append, List.length_cons, List.length_nil] at *; omega)) ?_ | refine R.callUp Tryz.call65 (Ay (Ay ho)) (by simp) C7 (hev _ (List.getElem_mem hlt) o (bs ++ (e.text ++ [40]) ++ (Du ((e.kids.take x).map Ac)).drop 2 ++ [44, 32]) _ (B9 (Ay (Ay ho))) (by simp only [Eh, List.length_append, List.length_cons, List.length_nil] at *; omega)) ?_
    refine R.fin [0, 93, 94, 95] ?_;refine K2 ?_;refine R.fin [0, 93, 94, 95] ?_;refine Nz ?_
    simp only [hst, V7, List.append_assoc, List.append_nil]
    exact StCut.take (own := []) (fun _ => .refl _) (by repeat (first | exact Al | refine Ak (by first | exact Cv | exact Si | (simp [or_imp, forall_and, oid] <;> omega)) ?_)) (by simp) (by simp)
   have h0x : ¬ 0 < x := by simpa using ht101
   rw [if_neg h0x] at hst
   have hstl := congrArg List.length hst
   simp only [List.length_append, List.length_cons, List.length_nil] at hstl
   refine Z4 ?_;refine Z7 ?_;refine O0 ?_
   first | refine R.callUp Tryz.call65 (Ay ho) (by simp) C7 (hev _ (List.getElem_mem hlt) o (bs ++ (e.text ++ [40]) ++ (Du ((e.kids.take x).map Ac)).drop 2) _ (B9 (Ay ho)) (by simp only [Eh, List.length_append, List.length_cons, List.length_nil] at *; omega)) ?_ | refine R.callUp Tryz.call65 (Ay (Ay ho)) (by simp) C7 (hev _ (List.getElem_mem hlt) o (bs ++ (e.text ++ [40]) ++ (Du ((e.kids.take x).map Ac)).drop 2 ++ [44, 32]) _ (B9 (Ay (Ay ho))) (by simp only [Eh, List.length_append, List.length_cons, List.length_nil] at *; omega)) ?_
   refine R.fin [0, 93, 94, 95] ?_;refine K2 ?_;refine R.fin [0, 93, 94, 95] ?_;refine Nz ?_
   simp only [hst, V7, List.append_assoc, List.append_nil]
   exact StCut.take (own := []) (fun _ => .refl _) (by repeat (first | exact Al | refine Ak (by first | exact Cv | exact Si | (simp [or_imp, forall_and, oid] <;> omega)) ?_)) (by simp) (by simp)
  have hxe : e.kids.take x = e.kids := List.take_of_length_le (by simp at ht96; omega)
  have hslx := hsl x
  refine Z23 ?_;refine Z7 ?_;refine Z91 ?_
  refine R.callUp Tryz.call21 (Ay ho) (by simp) C7 (c21 (bs ++ (e.text ++ [40]) ++ (Du ((e.kids.take x).map Ac)).drop 2) [41] (by simp only [Eh, List.length_append, List.length_cons, List.length_nil] at *; omega) o _ (B9 (Ay ho))) ?_
  refine dw ?_;exact K.finN .nores ⟨rfl, by rw [pe, hxe] <;> simp⟩
 exfalso
 have h6 := kall
 simp at ht12 ht21 ht29 ht41 ht53 ht83
 omega

set_option maxRecDepth 8000
/-! How long a print is. -/
theorem Xj {v : Val} (hp : Cd v = true) (hi : Tz v.n) : (Dg v).length ≤ 402 := by
 unfold Dg
 rw [hp]
 simp only [Bool.not_true, Bool.false_eq_true, if_false]
 split
 ·have := Lib.itoa_length_le v.n hi.1 hi.2
  omega
 split
 ·rename_i h1 h2
  rw [Me]
  have h3 := Oj v.s
  have h4 : v.s.length ≤ 200 := by
   have k2 : v.kind = 2 := by simpa using h2
   simp [Cd, k2] at hp
   omega
  simp
  omega
 split
 ·simp
 split <;> simp
theorem N3 (k : Nat) (x : Expr) (s : Str) : (Ha k x s).length ≤ s.length + 2 := by
 unfold Ha
 split <;> simp
theorem V8 {t : Str} (h : 0 ≤ Aj t) : t.length ≤ 3 := by
 rcases Gp t with hm | ⟨hm, _⟩
 ·have h3 : (levels.flatten.all fun s => decide (s.length ≤ 3)) = true := by kernel_rfl
  exact of_decide_eq_true (List.all_eq_true.1 h3 t hm)
 omega
theorem P8 {t : Str} {n : Nat} (h : Bb t = (n : Int)) : t.length ≤ 6 := by
 rcases P6 h with ⟨e, _⟩ | ⟨e, _⟩ | ⟨e, _⟩ | ⟨e, _⟩ | ⟨e, _⟩ | ⟨e, _⟩ | ⟨e, _⟩ | ⟨e, _⟩ <;> rw [e] <;> decide
theorem gj {k : List Expr} (h : ∀ y ∈ k, (Ac y).length + 10 ≤ 440 * sizeE y) : (Du (k.map Ac)).length ≤ 440 * At k := by
 induction k with
 | nil => simp [Du]
 | cons y r ih =>
  have h1 := h y List.mem_cons_self
  have h2 := ih (fun z hz => h z (List.mem_cons_of_mem _ hz))
  simp only [List.map_cons, Du, At, List.length_cons, List.length_append]
  omega
theorem M1 : ∀ (n : Nat) (e : Expr), sizeE e ≤ n → Cm Bp e = true → Cm Fu e = true → (Ac e).length + 10 ≤ 440 * sizeE e
 | 0, e, h, _, _ => by rw [El] at h; omega
 | n + 1, e, h, hn, hr => by
  rw [Cp, Bool.and_eq_true] at hn hr
  have hk : ∀ y ∈ e.kids, (Ac y).length + 10 ≤ 440 * sizeE y := fun y hy => by
   obtain ⟨i, hi⟩ := List.getElem?_of_mem hy
   obtain ⟨hlt, rfl⟩ := List.getElem?_eq_some_iff.1 hi
   exact M1 n _ (by have := O5 e hlt; omega) ((Cg _ _).1 hn.2 _ hy) ((Cg _ _).1 hr.2 _ hy)
  have hi : Tz e.val.n := by
   have := hr.1
   simp only [Fu, Bool.and_eq_true, decide_eq_true_eq] at this
   exact this
  rw [El]
  cases Ey hn.1 with
  | val v hp h0 =>
   rw [ph]
   have := Xj hp (v := v) hi
   simp only [Sf, Expr.kids, At]
   omega
  | name t ht =>
   rw [lm]
   have : t.length ≤ 16 := by
    cases t with
    | nil => simp
    | cons c r =>
     simp only [Dy, Bool.and_eq_true, decide_eq_true_eq] at ht
     exact ht.1.1.1
   simp only [An, Expr.kids, At]
   omega
  | neg a =>
   rw [pi]
   have h1 := N3 6 a (Ac a)
   have h2 := hk a (by simp [I0, Expr.kids])
   simp only [I0, Expr.kids, At, List.length_cons]
   omega
  | no a =>
   rw [uz]
   have h1 := N3 2 a (Ac a)
   have h2 := hk a (by simp [I0, Expr.kids])
   simp only [I0, Expr.kids, At, List.length_cons, List.length_append, Ul, List.length_nil]
   omega
  | bin t a b ht =>
   rw [pj]
   have h1 := N3 (Dj (Aj t).toNat) a (Ac a)
   have h2 := N3 ((Aj t).toNat + 1) b (Ac b)
   have h3 := hk a (by simp [Q4, Expr.kids])
   have h4 := hk b (by simp [Q4, Expr.kids])
   have h5 := V8 ht
   simp only [Q4, Expr.kids, At, List.length_cons, List.length_append]
   omega
  | call t k ha =>
   rw [ln]
   have h1 := P8 ha
   have h2 := gj (k := k) hk
   rw [← Kc] at h2
   simp only [Expr.kids, List.length_cons, List.length_append, List.length_drop, List.length_nil]
   omega
theorem V9 {e : Expr} (hr : Aa e = true) (hg : Cm Fu e = true) : (Ac e).length ≤ 132000 := by
 have h1 := Dc hr
 have h2 : sizeE e ≤ 300 := by
  unfold Aa at hr
  simp only [Bool.and_eq_true, decide_eq_true_eq] at hr
  exact hr.1.2
 have := M1 _ e (Nat.le_refl _) h1 hg
 omega
set_option maxRecDepth 4000
/-- A number's two pk. -/
abbrev gk (a : Int) : List AV := [Am (decide (a < 0)), al ((P4 a).tmod 4294967296), al (IntKind.u64.wrap ((P4 a).tdiv 4294967296)), al 0, al 0, al 0]
theorem gl {a : Int} (h : Tz a) : P4 a = (a.natAbs : Int) := by
 obtain ⟨h1, h2⟩ := h
 unfold P4
 simp only [IntKind.wrap_u64]
 split
 ·rename_i h3
  simp only [decide_eq_true_eq] at h3
  omega
 rename_i h3
 simp only [decide_eq_true_eq] at h3
 omega
theorem pk {u : Int} (h : 0 ≤ u) (h2 : u < 18446744073709551616) : IntKind.u64.wrap (IntKind.u64.wrap (IntKind.u64.wrap (u.tdiv 4294967296) * 4294967296) + u.tmod 4294967296) = u := by
 simp only [IntKind.wrap_u64]
 rw [Int.tdiv_eq_ediv_of_nonneg h, Int.tmod_eq_emod_of_nonneg h]
 omega
/-- How far the digits have come. -/
def DG (n : Nat) (x : Nat × Str) : Prop := (x.1 = n ∧ x.2 = []) ∨ (x.2 ≠ [] ∧ (if x.1 = 0 then [] else Lib.decDigits x.1) ++ x.2 = Lib.decDigits n)
theorem DG.step {n : Nat} {x : Nat × Str} (h : DG n x) (hc : 0 < x.1 ∨ x.2 = []) : DG n (x.1 / 10, UInt8.ofNat (48 + x.1 % 10) :: x.2) := by
 obtain ⟨u, s⟩ := x
 refine .inr ⟨by simp, ?_⟩
 simp only at *
 have key : (if u / 10 = 0 then [] else Lib.decDigits (u / 10)) ++ [UInt8.ofNat (48 + u % 10)] = Lib.decDigits u := by
  rw [Lib.decDigits.eq_1 u]
  by_cases h10 : u < 10
  ·rw [dif_pos h10, if_pos (by omega), Nat.mod_eq_of_lt h10]; rfl
  rw [dif_neg h10, if_neg (by omega)]
 rw [show UInt8.ofNat (48 + u % 10) :: s = [UInt8.ofNat (48 + u % 10)] ++ s from rfl, ← List.append_assoc, key]
 rcases h with ⟨h1, h2⟩ | ⟨h1, h2⟩
 ·simp only at h1 h2
  rw [h1, h2, List.append_nil]
 simp only at h1 h2
 rw [← h2, if_neg (by rcases hc with hc | hc; omega; exact absurd hc h1)]
theorem DG.done {n : Nat} {x : Nat × Str} (h : DG n x) (h1 : ¬ 0 < x.1) (h2 : x.2 ≠ []) : x.2 = Lib.decDigits n := by
 rcases h with ⟨_, h⟩ | ⟨_, h⟩
 ·exact absurd h h2
 rw [if_pos (by omega)] at h
 simpa using h
theorem DG.len {n : Nat} {x : Nat × Str} (h : DG n x) (hn : n ≤ 9223372036854775808) : x.2.length ≤ 21 := by
 have h2 : (Lib.decDigits n).length ≤ 21 := by
  have := Lib.itoa_length_le (-(n : Int)) (by omega) (by omega)
  unfold Lib.itoa at this
  split at this
  ·have e : (-(n : Int)).natAbs = n := by omega
   rw [e] at this
   simp at this
   omega
  have : n = 0 := by omega
  rw [this]
  rw [Lib.decDigits_one (by omega)]
  simp
 rcases h with ⟨_, h⟩ | ⟨_, h⟩
 ·rw [h]; simp
 have := congrArg List.length h
 rw [List.length_append] at this
 omega
theorem DG.le {n : Nat} {x : Nat × Str} (h : x.1 ≤ n) : x.1 / 10 ≤ n := by omega
theorem xz (u : Nat) : IntKind.u8.wrap (48 + IntKind.u8.wrap ((u : Int).tmod 10)) = ((UInt8.ofNat (48 + u % 10)).toNat : Int) := by
 rw [Int.tmod_eq_emod_of_nonneg (by omega)]
 simp [IntKind.wrap, IntKind.bits, IntKind.signed, UInt8.toNat_ofNat']
theorem v6 {u n : Nat} (h : u ≤ n) (hn : n ≤ 9223372036854775808) : IntKind.u64.wrap ((u : Int).tdiv 10) = ((u / 10 : Nat) : Int) := by
 rw [Int.tdiv_eq_ediv_of_nonneg (by omega), IntKind.wrap_u64]
 omega
theorem Va (a : Int) : Lib.itoa a = if decide (a < 0) then 45 :: Lib.decDigits a.natAbs else Lib.decDigits a.natAbs := by
 unfold Lib.itoa
 by_cases h : a < 0
 ·simp [h]
 have : a.toNat = a.natAbs := by omega
 simp [h, this]
theorem y6 (a : Int) (Hp : List AObj) : AFun Tryz.prog 101 [A3 a] Hp (.agg (gk a)) := by
 refine ACall.body [.cell 2 138] [0] Tryz.func101 Tryz.ntmps101 (fun d => ?_)
 refine dp ?_;refine R.fin [0, 2] ?_;refine Z0 ?_;refine R.lss ?_;refine R.build (places := #[(0, 1), (1, 5)]) jU (fun w => by simp) jZ ?_;refine Z42 ?_;refine R.fin [0, 2, 3] ?_;refine Z0 ?_;refine R.iconv jU jU ?_;refine Ar ?_;refine R.fin [0, 2, 3, 4] ?_;refine ab ?_;refine R.fin [2, 3, 4, 11] ?_
 refine W.cond (fun ht11 => ?_) (fun ht11 => ?_)
 ·have hm : P4 a = IntKind.u64.wrap (0 - IntKind.u64.wrap a) := if_pos ht11
  refine Z7 ?_;refine R.sub ?_;refine Ar ?_;refine R.fin [2, 3, 4] ?_;refine Tq ?_;refine R.rem ?_;refine n5 ?_;refine G9 ?_;refine R.fin [2, 3, 4] ?_;refine Z0 ?_;refine R.quo ?_;refine n6 ?_;refine G9 ?_;refine R.fin [2, 3] ?_;refine Zt ?_;exact qo
 have hm : P4 a = IntKind.u64.wrap a := if_neg (by rw [ht11]; simp)
 refine Z96 ?_;refine R.rem ?_;refine n5 ?_;refine G9 ?_;refine R.fin [2, 3, 4] ?_;refine Z0 ?_;refine R.quo ?_;refine n6 ?_;refine G9 ?_;refine R.fin [2, 3] ?_;refine Zt ?_;exact qo

theorem c75 (a : Int) (ha : Tz a) (Hp : List AObj) : AFun Tryz.prog 75 [A3 a] Hp (A7 (Lib.itoa a)) := by
 have hs := gl ha
 have hn : a.natAbs ≤ 9223372036854775808 := by have := ha.1; have := ha.2; omega
 have hh := pk (u := P4 a) (by rw [hs]; omega) (by rw [hs]; omega)
 refine ACall.body [.tmp 2] [0] Tryz.func75 Tryz.ntmps75 (fun d => ?_)
 refine Mx ?_;refine R.call Tryz.call101 (y6 a _) ?_;refine Z42 ?_;refine R.fin [3] ?_;refine Ba ?_;refine n6 ?_;refine Hi ?_;refine R.mul ?_;refine n5 ?_;refine Hi ?_;refine R.add ?_
 rw [hh, hs]
 refine Ar ?_;refine R.fin [3, 4] ?_;refine Z1 ?_;refine R.fin [3, 4, 5] ?_;refine W.seq ?_
 refine AW.loopC (α := Nat × Str) (fun x => ⟨37, A2 3 (.ptr (oid Hp.length 0) 0) (A2 4 (al (x.1 : Nat)) (A2 5 (A7 x.2) (fun _ => .any))), Hp, [.cells 138 (gk a)], [], none⟩) (fun x => x.1 ≤ a.natAbs ∧ DG a.natAbs x) (fun x => 2 * x.1 + (if x.2 = [] then 1 else 0)) ((a.natAbs, [])) ⟨Nat.le_refl _, .inl ⟨rfl, rfl⟩⟩ (StLe.of_eq (by simp)) rfl (fun x hx => ?_)
 refine Z10 ?_;refine R.gtr ?_;refine Z14 ?_;refine G.seql ?_;refine R.pickOr ?_;refine R.fin [3, 4, 5, 21] ?_
 refine W.cond (fun ht21 => ?_) (fun ht21 => ?_)
 ·have hc : 0 < x.1 ∨ x.2 = [] := by
   have h := ht21
   simp only [Bool.or_eq_true, decide_eq_true_eq, beq_iff_eq] at h
   rcases h with h | h
   ·exact .inl (by omega)
   exact .inr h
  have hl21 := hx.2.len hn
  refine Z4 ?_;refine AW.block ?_;refine Z0 ?_;refine R.rem ?_;refine R.iconv jU jU ?_;refine R.add ?_;refine R.buildSl jU jS jZ ?_
  rw [xz]
  refine R.bytesStr [UInt8.ofNat (48 + x.1 % 10)] jU jU jU ?_;refine Av ?_
  refine R.sadd (hl := by simp only [List.length_cons, List.length_nil]; omega) ?_
  refine Ar ?_;refine R.fin [3, 4, 5] ?_;refine Z7 ?_;refine R.quo ?_
  rw [v6 hx.1 hn]
  refine Ar ?_;refine R.fin [3, 4, 5] ?_;refine K.blN ?_
  refine K.lpN (x.1 / 10, UInt8.ofNat (48 + x.1 % 10) :: x.2) ⟨DG.le hx.1, hx.2.step hc⟩ (by rw [if_neg (by simp)]; rcases hc with h | h; omega; rw [if_pos h]; omega) (StCut.of_eq rfl)
 have hl21 := hx.2.len hn
 have hD : x.2 = Lib.decDigits a.natAbs := by
  have h := ht21
  simp only [Bool.or_eq_false_iff, decide_eq_false_iff_not, beq_eq_false_iff_ne] at h
  exact hx.2.done (by omega) h.2
 refine Z47 ?_;refine Z16 ?_;refine R.fieldAddrPtr (fo := 0) jU Tryz.sizeOf4 ?_;refine Hi ?_;refine R.fin [5, 33] ?_
 refine W.cond (fun ht33 => ?_) (fun ht33 => ?_)
 ·have hm := Va a
  rw [if_pos ht33] at hm
  refine Z7 ?_
  refine R.sadd (hl := by simp only [List.length_cons, List.length_nil]; omega) ?_
  refine Ar ?_;refine R.fin [5] ?_;refine K.thN ?_;refine Z40 ?_;exact ri
 have hm := Va a
 rw [if_neg (by rw [ht33]; simp)] at hm
 refine Z4 ?_;refine Z40 ?_;exact ri

theorem Xk {v : Val} (hp : Cd v = true) (h0 : (v.kind == 0) = false) (h1 : (v.kind == 1) = false) (h3 : (v.kind == 3) = false) : v = ⟨2, 0, v.s⟩ ∧ v.s.length ≤ 200 := by
 obtain ⟨k, n, s⟩ := v
 simp only [Cd] at *
 rw [h0, h1] at hp
 simp only [Bool.false_eq_true, if_false] at hp
 split at hp
 ·rename_i h2
  simp only [Bool.and_eq_true, beq_iff_eq, decide_eq_true_eq] at hp h2
  refine ⟨?_, by omega⟩
  rw [h2, hp.1]
 rw [h3] at hp
 simp at hp
theorem Xl (s : Str) (h : s.length ≤ 200) : Dg ⟨2, 0, s⟩ = [39] ++ Gk s ++ [39] := by
 have : Cd ⟨2, 0, s⟩ = true := by simp [Cd]; omega
 unfold Dg
 rw [this, ← Me]
 rfl
theorem v7 {k : Expr} : ((k.op == 4) || (k.op == 5)) = !(decide (6 ≤ levE k)) := by
 have h5 := Om k.text
 unfold levE
 by_cases h4 : (k.op == 4) = true
 ·simp [h4]
 by_cases h3 : (k.op == 3) = true
 ·have : k.op = 3 := by simpa using h3
  simp [this]
 by_cases h6 : (k.op == 5) = true
 ·have : k.op = 5 := by simpa using h6
  simp [this]
  omega
 simp [h3, h4, h6]
theorem pl {t : Str} (h : 0 ≤ Aj t) : ((t == [111, 114]) || (t == [97, 110, 100])) = !(decide (2 ≤ (Aj t).toNat)) := by
 rcases Gp t with hm | ⟨hm, _⟩
 ·have h3 : (levels.flatten.all fun t => ((t == [111, 114]) || (t == [97, 110, 100])) == !(decide (2 ≤ (Aj t).toNat))) = true := by kernel_rfl
  simpa using List.all_eq_true.1 h3 t hm
 omega
theorem v8 {k : Expr} (hn : Bp k = true) : ((k.op == 5) && ((k.text == [111, 114]) || (k.text == [97, 110, 100]))) = !(decide (2 ≤ levE k)) := by
 unfold levE
 by_cases h4 : (k.op == 4) = true
 ·have : k.op = 4 := by simpa using h4
  simp [this]
 by_cases h3 : (k.op == 3) = true
 ·have : k.op = 3 := by simpa using h3
  simp [this]
 by_cases h6 : (k.op == 5) = true
 ·have h5 : k.op = 5 := by simpa using h6
  have hb : 0 ≤ Aj k.text := by
   rw [Ii] at hn
   unfold D5 at hn
   simp [h5] at hn
   exact hn.2.1
  rw [h6, pl hb]
  simp [h5]
 simp [h3, h4, h6]
/-- What the chapter's print of a tree says. -/
theorem P9 {k : Nat} {x : Expr} {s : Str} (h : k ≤ levE x) : Ha k x s = s := if_pos h
theorem Pa {k : Nat} {x : Expr} {s : Str} (h : ¬ k ≤ levE x) : Ha k x s = 40 :: (s ++ [41]) := if_neg h
theorem ls : Ch (.agg #[.int .i64 0, .string ⟨#[]⟩, .int .i64 0, .int .i64 0, .string ⟨#[]⟩, .slice none 0 0]) = .agg [A3 0, A7 [], A3 0, A3 0, A7 [], .nil] := rfl
attribute [go_sem] ls
theorem Xm {e : Expr} (h : Bp e = true) : e.text.length ≤ 16 ∧ e.kids.length ≤ 8 := by
 cases Ey h with
 | val v hp h0 => exact ⟨by simp [Sf, Expr.text], by simp [Sf, Expr.kids]⟩
 | name t ht =>
  refine ⟨?_, by simp [An, Expr.kids]⟩
  show t.length ≤ 16
  cases t with
  | nil => simp
  | cons c r =>
   simp only [Dy, Bool.and_eq_true, decide_eq_true_eq] at ht
   exact ht.1.1.1
 | neg a => exact ⟨by simp [I0, Expr.text], by simp [I0, Expr.kids]⟩
 | no a => exact ⟨by simp [I0, Expr.text], by simp [I0, Expr.kids]⟩
 | bin t a b ht => exact ⟨by have := V8 ht; show t.length ≤ 16; omega, by simp [Q4, Expr.kids]⟩
 | call t k ha =>
  refine ⟨by have := P8 ha; show t.length ≤ 16; omega, ?_⟩
  show k.length ≤ 8
  rcases P6 ha with ⟨_, e⟩ | ⟨_, e⟩ | ⟨_, e⟩ | ⟨_, e⟩ | ⟨_, e⟩ | ⟨_, e⟩ | ⟨_, e⟩ | ⟨_, e⟩ <;> omega
theorem Rb : ∀ {l : List Expr} {y : Expr}, y ∈ l → depthE y ≤ Ce l
 | a :: r, y, h => by
  rw [Ce]
  rcases List.mem_cons.1 h with rfl | h
  ·omega
  have := Rb h
  omega
theorem Yn : ∀ (n : Nat) (e : Expr), depthE e ≤ n → Cm Bp e = true → okE n e
 | 0, e, h, _ => by rw [J1] at h; omega
 | n + 1, e, h, hn => by
  rw [Cp, Bool.and_eq_true] at hn
  rw [J1] at h
  have hs := Xm hn.1
  refine ⟨by omega, by omega, fun y hy => Yn n y (by have := Rb hy; omega) ((Cg _ _).1 hn.2 y hy)⟩
theorem F4 {e : Expr} (h : Aa e = true) : okE 30 e ∧ sizeE e ≤ 300 := by
 have h1 := Dc h
 unfold Aa at h
 simp only [Bool.and_eq_true, decide_eq_true_eq] at h
 exact ⟨Yn 30 e h.1.1 h1, h.1.2⟩
theorem c44 (n : Nat) (e : Expr) (hok : okE n e) (hn : n ≤ 1048576) (hg : Cm Fu e = true) (Hp : List AObj) : AFun Tryz.prog 44 [A5 e] Hp (.tup [A7 (Gr e).1, A3 (Gr e).2]) := by
 refine ACall.body [.tmp 2, .tmp 3] [0] Tryz.func44 Tryz.ntmps44 (fun d => ?_)
 refine jg ?_;refine R.fin [1] ?_;refine W6 ?_;refine R.call Tryz.call64 (c64 n e hok hn _) ?_;refine R.not ?_;refine R.fin [1, 7] ?_
 refine W.cond (fun ht7 => ?_) (fun ht7 => ?_)
 ·have hsh : Gr e = ([], 1) := if_pos ht7
  refine Z48 ?_;refine R.fin [2, 3] ?_;exact ra
 have hnr : ¬ (!(Ad e)) = true := by rw [ht7]; simp
 have hr : Aa e = true := by rw [← Bx]; simpa using ht7
 have hps := V9 hr hg
 refine Hz ?_;refine R.build (places := #[(0, 2)]) jU (fun w => by simp) jZ ?_;refine R.box ?_;refine Ar ?_;refine R.fin [1, 4] ?_;refine Ba ?_;refine R.toBld 0 112 5 ?_;refine Av ?_;refine Ek ?_
 refine R.callOwn (n := 0) (x := P7 (Ac e)) Tryz.call65 (c65 n e hok (Dc hr) hg (oid Hp.length 0) [] _ (by rw [Bu]; rfl) (by simp only [Eh, List.length_nil]; omega)) ?_
 refine R.fin [4] ?_;refine Z10 ?_;refine Z91 ?_
 refine R.call Tryz.call66 (c66 (Ac e) (oid Hp.length 0) _ (by rw [Bu]; rfl)) ?_
 refine R.gtr ?_;refine R.fin [4, 17] ?_
 refine W.cond (fun ht17 => ?_) (fun ht17 => ?_)
 ·have hsh : Gr e = ([], 3) := by unfold Gr; rw [if_neg hnr, if_pos ht17]
  refine Z48 ?_;refine R.fin [2, 3] ?_;exact ra
 have hsh : Gr e = (Ac e, 0) := by unfold Gr; rw [if_neg hnr, if_neg (by rw [ht17]; simp)]
 refine Z96 ?_;refine Z91 ?_
 refine R.callOwn (n := 0) (x := .cells 112 [.any, .any]) Tryz.call24 (c24 (Ac e) (oid Hp.length 0) _ (by rw [Bu]; rfl)) ?_
 refine Z8 ?_;refine R.fin [2, 3] ?_;refine AW.ret ?_;exact t8

/-! fuse.Forth and plan.Text. -/
def Ae (c : List Col) (ms : List Mov) : Nat → List Expr
 | 0 => Jf c
 | k + 1 => match ms[k]? with
  | some m => C6 m.take (colsAt c ms k) (Ae c ms k) ++ (Bi (colsAt c ms k) (Ae c ms k) m.ahead).1
  | none => Ae c ms k
def Ep (c : List Col) (t : List Expr) : List Mov → List Expr × Int
 | [] => (t, 0)
 | m :: r => if (Bi c t m.ahead).2 != 0 then ([], (Bi c t m.ahead).2) else Ep (B7 c m).1 (C6 m.take c t ++ (Bi c t m.ahead).1) r
/-- fuse.Forth. -/
def Ax (c : List Col) (l : List Mov) : List Expr × Int := if (Aw c l).2 != 0 then ([], 1) else Ep c (Jf c) l
def Fo (c : List Col) (ms : List Mov) (k : Nat) : Prop := Ep c (Jf c) ms = Ep (colsAt c ms k) (Ae c ms k) (ms.drop k)
theorem lu {c : List Col} {ms : List Mov} : Fo c ms 0 := rfl
theorem N4 {c : List Col} {ms : List Mov} {k : Nat} {m : Mov} (hk : ms[k]? = some m) (h : Fo c ms k) (he : ((Bi (colsAt c ms k) (Ae c ms k) m.ahead).2 != 0) = false) : Fo c ms (k + 1) := by
 unfold Fo at h ⊢
 rw [h, Io hk, Ep, if_neg (by rw [he]; simp), Eg hk, Ae, hk]
theorem Sp {c : List Col} {ms : List Mov} {k : Nat} {m : Mov} (hk : ms[k]? = some m) (h : Fo c ms k) (he : ((Bi (colsAt c ms k) (Ae c ms k) m.ahead).2 != 0) = true) : Ep c (Jf c) ms = ([], (Bi (colsAt c ms k) (Ae c ms k) m.ahead).2) := by
 unfold Fo at h
 rw [h, Io hk, Ep, if_pos he]
theorem Sq {c : List Col} {ms : List Mov} (h : Fo c ms ms.length) : Ep c (Jf c) ms = (Ae c ms ms.length, 0) := by
 unfold Fo at h
 rw [h, List.drop_length, Ep]
/-- Trees that may be walked, printed and put again. -/
structure TOk (t : List Expr) : Prop where
 ok : ∀ e ∈ t, okE 61 e
 rng : ∀ e ∈ t, Cm Fu e = true
theorem Fz {take : List Str} : ∀ {c : List Col} {l : List Expr}, ∀ e ∈ C6 take c l, e ∈ l
 | [], [], e, h => by cases h
 | [], _ :: _, e, h => by cases h
 | _ :: _, [], e, h => by cases h
 | y :: c, x :: l, e, h => by
  unfold C6 at h
  split at h
  ·exact List.mem_cons_of_mem _ (Fz e h)
  rcases List.mem_cons.1 h with rfl | h
  ·exact List.mem_cons_self
  exact List.mem_cons_of_mem _ (Fz e h)
theorem Vb {c : List Col} {l : List Expr} (hl : ∀ e ∈ l, Cm Fu e = true) (hc : c.length = l.length) : ∀ (n : Nat) (x y : Expr), okE n x → Cm Fu x = true → Dq c l x = some y → Cm Fu y = true
 | 0, x, y, h, _, _ => h.elim
 | n + 1, x, y, h, hr, hp => by
  cases h2 : x.op == 2 with
  | true =>
   rw [P0 h2] at hp
   split at hp
   ·cases hp
   rename_i hf
   injection hp with hp
   subst hp
   obtain ⟨j, hj, hjl⟩ := D6 hf
   rw [hj, Int.toNat_natCast, List.getD_eq_getElem?_getD, List.getElem?_eq_getElem (by omega)]
   exact hl _ (List.getElem_mem (by omega))
  | false =>
   rw [P1 h2] at hp
   cases hk : Fj c l x.kids with
   | none => rw [hk] at hp; cases hp
   | some s =>
    rw [hk] at hp
    injection hp with hp
    subst hp
    obtain ⟨h3, h4⟩ := Kb hk
    rw [Cp, Bool.and_eq_true] at hr
    rw [Cp, Bool.and_eq_true]
    refine ⟨hr.1, (Cg _ _).2 fun z hz => ?_⟩
    obtain ⟨e, he, hpe⟩ := h4 z hz
    exact Vb hl hc n e z (h.2.2 e he) ((Cg _ _).1 hr.2 e he) hpe
theorem gm {x : Expr} {c : List Col} {l : List Expr} (hx : okE 61 x) (hr : Cm Fu x = true) (ht : TOk l) (he : (Cr x c l).2 = 0) : okE 61 (Cr x c l).1 ∧ Cm Fu (Cr x c l).1 = true ∧ Ad (Cr x c l).1 = true := by
 unfold Cr at he ⊢
 split at he
 ·exact absurd (show (1 : Int) = 0 from he) (by decide)
 rename_i h1
 rw [if_neg h1]
 have hcl : c.length = l.length := by
  simp only [Bool.not_eq_true, Bool.or_eq_false_iff, bne_eq_false_iff_eq] at h1
  have := h1.2
  omega
 cases hp : Dq c l x with
 | none => rw [hp] at he; exact absurd (show (9 : Int) = 0 from he) (by decide)
 | some y =>
  rw [hp] at he
  simp only at he ⊢
  split at he
  ·rename_i h2
   rw [if_pos h2]
   have h3 : Aa y = true := by rw [← Bx]; exact h2
   exact ⟨Il (by decide) (F4 h3).1, Vb ht.rng hcl 61 x y hx hr hp, h2⟩
  exact absurd (show (3 : Int) = 0 from he) (by decide)
theorem Rc {c : List Col} {t : List Expr} (ht : TOk t) : ∀ (l : List Expr), (∀ e ∈ l, okE 61 e) → (∀ e ∈ l, Cm Fu e = true) → (Bi c t l).2 = 0 → TOk (Bi c t l).1
 | [], _, _, _ => ⟨fun e h => (List.not_mem_nil h).elim, fun e h => (List.not_mem_nil h).elim⟩
 | x :: r, h1, h2, he => by
  unfold Bi at he ⊢
  split at he
  ·rename_i h3
   exact absurd he (by simpa using h3)
  rename_i h3
  rw [if_neg h3]
  split at he
  ·rename_i h4
   exact absurd he (by simpa using h4)
  rename_i h4
  rw [if_neg h4]
  have ih := Rc (c := c) ht r (fun e he => h1 e (List.mem_cons_of_mem _ he)) (fun e he => h2 e (List.mem_cons_of_mem _ he)) (by simpa using h4)
  have hx := gm (c := c) (h1 x List.mem_cons_self) (h2 x List.mem_cons_self) ht (by simpa using h3)
  refine ⟨fun e he => ?_, fun e he => ?_⟩
  ·rcases List.mem_cons.1 he with rfl | he
   ·exact hx.1
   exact ih.ok e he
  rcases List.mem_cons.1 he with rfl | he
  ·exact hx.2.1
  exact ih.rng e he
theorem Xn {c : List Col} (hc : OkCols c) : TOk (Jf c) := by
 refine ⟨fun e he => ?_, fun e he => ?_⟩
 ·obtain ⟨y, hy, rfl⟩ := List.mem_map.1 he
  exact ⟨hc.2 y hy, by simp [An, Expr.kids], fun z hz => by simp [An, Expr.kids] at hz⟩
 obtain ⟨y, hy, rfl⟩ := List.mem_map.1 he
 rfl
/-- What holds of the trees behind k moves, if all went well till there. -/
theorem Sr {c : List Col} {ms : List Mov} {k : Nat} {m : Mov} (hk : ms[k]? = some m) (hm : OkMov m) (h : TOk (Ae c ms k)) (he : ((Bi (colsAt c ms k) (Ae c ms k) m.ahead).2 != 0) = false) : TOk (Ae c ms (k + 1)) := by
 have h1 := Rc (c := colsAt c ms k) h m.ahead hm.ahead.ok hm.ahead.rng (by simpa using he)
 rw [Ae, hk]
 refine ⟨fun e he => ?_, fun e he => ?_⟩
 ·rcases List.mem_append.1 he with he | he
  ·exact h.ok e (Fz e he)
  exact h1.ok e he
 rcases List.mem_append.1 he with he | he
 ·exact h.rng e (Fz e he)
 exact h1.rng e he
theorem Pb {c : List Col} {m : Mov} (h : (B7 c m).2 = 0) : (B7 c m).1 = B6 c m.take ++ Ai c m ∧ B1 c = true ∧ B1 (B7 c m).1 = true := by
 unfold B7 at h ⊢
 split at h
 ·rename_i h1
  exact absurd h (by simpa using h1)
 rename_i h1
 rw [if_neg h1]
 split at h
 ·rename_i h2
  exact absurd h (by simpa using h2)
 rename_i h2
 rw [if_neg h2]
 split at h
 ·rename_i h3
  exact absurd h (by simpa using h3)
 rename_i h3
 rw [if_neg h3]
 obtain ⟨a, _, b, d, e⟩ := kw (by simpa using h1 : (Bv c m.take (Ai c m)).2 = 0)
 rw [e]
 refine ⟨rfl, a, ?_⟩
 unfold B1
 rw [b, Bool.and_true]
 refine decide_eq_true ?_
 show ((B6 c m.take ++ Ai c m).length : Int) ≤ 12
 omega
theorem Pc {c : List Col} {ms : List Mov} {k : Nat} {m : Mov} (hk : ms[k]? = some m) (hm : D9 m = true) (ht : (B7 (colsAt c ms k) m).2 = 0) (h : (Ae c ms k).length = (colsAt c ms k).length) (he : ((Bi (colsAt c ms k) (Ae c ms k) m.ahead).2 != 0) = false) : (Ae c ms (k + 1)).length = (colsAt c ms (k + 1)).length := by
 rw [Ae, Eg hk, hk]
 show (C6 _ _ _ ++ _).length = _
 rw [(Pb ht).1, List.length_append, List.length_append, Ee, Fy h.symm, Ho _ (by simpa using he), (E9 (Lt hm)).1]
/-! The text. -/
def Gi (t : List Expr × Int) (i : Nat) : Str := if t.2 == 0 then (if (Gr (t.1.getD i A8)).2 == 0 then (Gr (t.1.getD i A8)).1 else [63]) else [63]
def L9 (t : List Expr × Int) (i : Nat) (y : Col) : Str := [9] ++ y.name ++ [32, 61, 32] ++ Gi t i ++ [10]
def Dk (t : List Expr × Int) (d : List Col) : Nat → Str
 | 0 => []
 | k + 1 => Dk t d k ++ match d[k]? with | some y => L9 t k y | none => []
theorem Vc {t : List Expr × Int} {d : List Col} {k : Nat} {y : Col} (h : d[k]? = some y) : Dk t d (k + 1) = Dk t d k ++ L9 t k y := by rw [Dk, h]
def E2 (d : List Col) : Str := if decide ((0 : Int) < (d.length : Int)) then [32] ++ Cu d else []
def Jq (t : List Expr × Int) (s : Stp) : Str := ((B5 s.kind ++ E2 s.cols) ++ [10]) ++ (if s.kind == 2 then Dk t s.cols s.cols.length else [])
def Bm (t : List Expr × Int) (p : List Stp) : Nat → Str
 | 0 => []
 | k + 1 => Bm t p k ++ match p[k]? with | some s => Jq t s | none => []
theorem Vd {t : List Expr × Int} {p : List Stp} {k : Nat} {s : Stp} (h : p[k]? = some s) : Bm t p (k + 1) = Bm t p k ++ Jq t s := by rw [Bm, h]
/-- plan.Text. -/
def Pd (c : List Col) (l : List Mov) : Str × Int := if (Ab c l).2 != 0 then ([], (Ab c l).2) else (Bm (Ax c l) (Ab c l).1 (Ab c l).1.length, 0)
theorem Ke {n k : Nat} {o : Bool} {a : List Expr} {e : Expr} : Low n (.slice o k (a.map A5 ++ [.agg (Cx e)])) := by
 have := Ka (n := n) (k := k) (o := o) (a := a) (e := e)
 rwa [Bg] at this
theorem M2 {c : List Col} {t : List Expr} : ∀ {l : List Expr}, (∀ (j : Nat) (y : Expr), l[j]? = some y → ((Cr y c t).2 != 0) = false) → Bi c t l = (l.map (fun e => (Cr e c t).1), 0)
 | [], _ => rfl
 | x :: r, h => by
  have h1 := h 0 x rfl
  have ih := M2 (c := c) (t := t) (l := r) (fun j y hy => h (j + 1) y hy)
  rw [Bi, if_neg (by rw [h1]; simp), if_neg (by rw [ih]; simp), ih]
  rfl
theorem J6 {c : List Col} {t : List Expr} : ∀ {l : List Expr} {x : Nat} {y : Expr}, (∀ (j : Nat) (z : Expr), j < x → l[j]? = some z → ((Cr z c t).2 != 0) = false) → l[x]? = some y → ((Cr y c t).2 != 0) = true → Bi c t l = ([], (Cr y c t).2)
 | [], _, _, _, h, _ => by simp at h
 | a :: r, 0, y, h0, h, h1 => by
  have : a = y := by simpa using h
  subst this
  rw [Bi, if_pos h1]
 | a :: r, x + 1, y, h0, h, h1 => by
  have h2 := h0 0 a (by omega) rfl
  have ih := J6 (c := c) (t := t) (l := r) (x := x) (y := y) (fun j z hj hz => h0 (j + 1) z (by omega) hz) (by simpa using h) h1
  rw [Bi, if_neg (by rw [h2]; simp), if_pos (by rw [ih]; exact h1), ih]
theorem c62 (l : List Expr) (hl : l.length ≤ 1048576) (hlo : ∀ e ∈ l, okE 61 e) (c : List Col) (hc : OkCols c) (by_ : List Expr) (hbl : by_.length ≤ 1048576) (hbo : ∀ e ∈ by_, okE 61 e) (Hp : List AObj) : AFun Tryz.prog 62 [Az l, A4 c, Az by_] Hp (.tup [Az (Bi c by_ l).1, A3 (Bi c by_ l).2]) := by
 refine ACall.body [.tmp 6, .tmp 7] [0, 1, 2] Tryz.func62 Tryz.ntmps62 (fun d => ?_)
 refine Z48 ?_;refine R.fin [0, 1, 2] ?_;refine Z1 ?_;refine R.fin [0, 1, 2, 8] ?_;refine Z16 ?_;refine R.nilSl 8 6 ?_;refine Wc ?_;refine R.fin [1, 2, 8, 13, 14, 15] ?_
 refine AW.loopC (α := Nat) (fun x => ⟨35, A2 1 (A4 c) (A2 2 (Az by_) (A2 8 (.slice true 6 (((l.take x).map (fun e => (Cr e c by_).1)).map A5)) (A2 13 (Az l) (A2 14 (A3 (l.length : Nat)) (A2 15 (A3 (x : Nat)) (fun _ => .any)))))), Hp, [], [], none⟩) (fun x => x ≤ l.length ∧ ∀ (j : Nat) (y : Expr), j < x → l[j]? = some y → ((Cr y c by_).2 != 0) = false) (fun x => l.length - x) (0) ⟨Nat.zero_le _, fun j y h => by omega⟩ (StLe.of_eq (by simp)) rfl (fun x hx => ?_)
 refine Z57 ?_;refine R.fin [1, 2, 8, 13, 14, 15, 16] ?_
 refine W.condX (fun ht16 => ?_) (fun ht16 => ?_)
 ·have hlt : x < l.length := by simpa using ht16
  refine J9 ?_;refine cz ?_;refine Z42 ?_;refine R.fin [1, 2, 8, 10, 13, 14, 15] ?_;refine Z88 ?_;refine Z58 ?_;refine R.call Tryz.call86 (c86 l[x] (hlo _ (List.getElem_mem hlt)) c hc by_ hbl hbo _) ?_;refine Z60 ?_;refine Z42 ?_;refine Ar ?_;refine R.fin [1, 2, 8, 11, 12, 13, 14, 15] ?_;refine Gs ?_;refine R.fin [1, 2, 8, 11, 12, 13, 14, 15, 27] ?_
  refine W.cond (fun ht27 => ?_) (fun ht27 => ?_)
  ·have hm := J6 hx.2 (List.getElem?_eq_getElem hlt) ht27
   refine Z40 ?_;refine R.nilTmp 6 6 false ?_;refine Z68 ?_;refine K.thR ?_;exact n8
  refine We ?_;refine dc ?_
  refine R.append jU Tryz.type60 ?_ ?_ ?_
  ·simp only [List.length_map, List.length_take, List.length_cons, List.length_nil, Tryz.t60]; omega
  ·simp only [List.length_map, List.length_take, List.length_cons, List.length_nil, Tryz.t60]; omega
  refine Fq ?_;refine R.fin [1, 2, 8, 13, 14, 15] ?_;refine K2 ?_;refine R.fin [1, 2, 8, 13, 14, 15] ?_;refine K.lpN (x + 1) ⟨hlt, Aq hlt hx.2 ht27⟩ (by omega) ?_
  rw [Ef hlt, List.map_append]
  rw [List.map_cons, List.map_nil, Bg]
  simp only [show Tryz.t60.size = 6 from rfl]
  exact StCut.take (own := []) (fun _ => .refl _) (by repeat (first | exact Al | refine Ak (by first | (simp [or_imp, forall_and]; done) | exact Ke | exact Cf | exact Bo) ?_)) (by simp) (by simp)
 have hxe : l.length ≤ x := by simpa using ht16
 have hm : Bi c by_ l = (l.map (fun e => (Cr e c by_).1), 0) := M2 fun j y hy => hx.2 j y (by have := (List.getElem?_eq_some_iff.1 hy).1; omega) hy
 refine Z23 ?_;refine Z0 ?_;refine Z8 ?_;refine Z44 ?_;exact K.fin (V.two V.tmp V.tmp) ⟨by rw [hm, List.take_of_length_le hxe], rfl⟩ (hlow := by simp only [My, List.mem_cons, List.mem_nil_iff, or_false]; rintro y (rfl | rfl); exact Cf; simp)

theorem c63 (m : Mov) (c : List Col) (l : List Expr) (Hp : List AObj) : AFun Tryz.prog 63 [Gc m, A4 c, Az l] Hp (.fn (.func 87) [] [.ro [A4 c], .ro (Gb m), .ro [Az l]]) := by
 refine ACall.body [.tmp 6] [0, 1, 2] Tryz.func63 Tryz.ntmps63 (fun d => ?_)
 refine Z30 ?_;refine R.boxRo ?_;refine Zu ?_;refine R.fin [3, 4, 5] ?_;refine Ba ?_;refine dk ?_;exact qw

theorem Xo {take : List Str} {c : List Col} {l : List Expr} {k : Nat} {y : Col} (hcl : c.length = l.length) (hy : c[k]? = some y) (h : take.contains y.name = true) : C6 take (c.take (k + 1)) (l.take (k + 1)) = C6 take (c.take k) (l.take k) := by
 induction c generalizing l k with
 | nil => simp at hy
 | cons a r ih =>
  cases l with
  | nil => simp at hcl
  | cons b s =>
   cases k with
   | zero =>
    have : a = y := by simpa using hy
    subst this
    simp only [List.take_succ_cons, List.take_zero]
    rw [C6, if_pos h]
   | succ k =>
    have ih' := ih (l := s) (k := k) (by simpa using hcl) (by simpa using hy)
    rw [List.take_succ_cons, List.take_succ_cons, List.take_succ_cons, List.take_succ_cons, C6, C6, ih']
theorem gn {take : List Str} {c : List Col} {l : List Expr} {k : Nat} {y : Col} {e : Expr} (hcl : c.length = l.length) (hy : c[k]? = some y) (he : l[k]? = some e) (h : take.contains y.name = false) : C6 take (c.take (k + 1)) (l.take (k + 1)) = C6 take (c.take k) (l.take k) ++ [e] := by
 induction c generalizing l k with
 | nil => simp at hy
 | cons a r ih =>
  cases l with
  | nil => simp at hcl
  | cons b s =>
   cases k with
   | zero =>
    have h1 : a = y := by simpa using hy
    have h2 : b = e := by simpa using he
    subst h1
    subst h2
    simp only [List.take_succ_cons, List.take_zero]
    rw [C6, if_neg (by rw [h]; simp)]
    rfl
   | succ k =>
    have ih' := ih (l := s) (k := k) (by simpa using hcl) (by simpa using hy) (by simpa using he)
    rw [List.take_succ_cons, List.take_succ_cons, List.take_succ_cons, List.take_succ_cons, C6, C6, ih']
    split <;> rfl
theorem Xp {n : Nat} {m : Mov} : Low n (.ro (Gb m)) := by
 refine .ro _ fun y hy => ?_
 simp only [List.mem_cons, List.mem_nil_iff, or_false] at hy
 rcases hy with rfl | rfl | rfl | rfl | rfl
 ·exact .v _
 ·exact Ly
 ·exact Bo
 ·exact Cf
 exact Cf
theorem c87 (l0 : Nat) (m : Mov) (c : List Col) (l : List Expr) (hc : c.length ≤ 1048576) (hcl : c.length = l.length) (ht : m.take.length ≤ 1048576) (U : Nat → List AObj) (hlen : ∀ k, (U k).length = (U 0).length) (hll : l0 < (U 0).length)
  (hlw : ∀ k, ∀ x ∈ U k, ObjLow (U 0).length x) (hn : ∀ k y, c[k]? = some y → m.take.contains y.name = true → U (k + 1) = U k)
  (hy : ∀ k y e X, c[k]? = some y → l[k]? = some e → m.take.contains y.name = false → AYield Tryz.prog l0 [A5 e] (U k ++ X) (fun b H' => b = true ∧ H' = U (k + 1) ++ X)) : ACall Tryz.prog 87 [.yield l0, .ro [A4 c], .ro (Gb m), .ro [Az l]] (U 0) (fun _ H' => H' = U c.length) := by
 refine ACall.body [] [0, 1, 2, 3] Tryz.func87 Tryz.ntmps87 (fun d => ?_)
 refine Zs ?_;refine Z64 ?_;refine R.fin [0, 2, 3, 7, 8, 9] ?_
 refine AW.loopC (α := Nat) (fun x => ⟨30, A2 0 (.yield l0) (A2 2 (.ro (Gb m)) (A2 3 (.ro [Az l]) (A2 7 (A4 c) (A2 8 (A3 (c.length : Nat)) (A2 9 (A3 (x : Nat)) (fun _ => .any)))))), U x, [], [], none⟩) (fun x => x ≤ c.length) (fun x => c.length - x) (0) (Nat.zero_le _) (StLe.of_eq (by simp)) rfl (fun x hx => ?_)
 refine Z57 ?_;refine R.fin [0, 2, 3, 7, 8, 9, 10] ?_
 refine W.condX (fun ht10 => ?_) (fun ht10 => ?_)
 ·have hlt : x < c.length := by simpa using ht10
  have hle : x < l.length := by omega
  refine Mw ?_;refine Z76 ?_;refine W4 ?_;refine R.fin [0, 2, 3, 5, 6, 7, 8, 9] ?_;refine Ba ?_;refine Z78 ?_;refine Zl ?_;refine R.call Tryz.call88 (c88 m.take _ ht _) ?_;refine Py ?_;refine K3 ?_;refine G.move ?_;refine G.indexAddr (x) (A5 l[x]) jU jS (fun _ => A9 hle) ?_;refine G.loadRoN jA jS ?_
  refine G.yield (l := l0) (C := ((!m.take.contains c[x].name) == true)) (args := [A5 l[x]]) (fun hC => hy x c[x] _ _ (List.getElem?_eq_getElem hlt) (List.getElem?_eq_getElem hle) (by simpa using hC)) ?_
  intro b V O hV hb hb0
  have hVO : V = U (x + 1) ∧ O = [AObj.cells 47 [A7 c[x].name, A3 c[x].kind]] ∧ (m.take.contains c[x].name = false → b = true) := by
   cases hcn : m.take.contains c[x].name with
   | true =>
    obtain ⟨h1, h2⟩ := hb0 (by rw [hcn]; rfl)
    exact ⟨h1.trans (hn x c[x] (List.getElem?_eq_getElem hlt) hcn).symm, h2, fun e => by cases e⟩
   | false =>
    obtain ⟨h1, h2⟩ := hb (by rw [hcn]; rfl)
    have h3 := List.append_inj h2 (by rw [hV, hlen x, hlen (x + 1)])
    exact ⟨h3.1, h3.2, fun _ => h1⟩
  obtain ⟨rfl, rfl, hbt⟩ := hVO
  refine ⟨fun _ => by rw [hlen (x + 1)]; exact hlw (x + 1), fun o ho => (by cases ho), ?_⟩
  refine G.not ?_;refine Hf ?_;refine R.fin [0, 2, 3, 7, 8, 9, 28] ?_
  refine W.cond (fun ht28 => ?_) (fun ht28 => ?_)
  ·exfalso
   have hcf : m.take.contains c[x].name = false := by simp at ht28 ⊢; exact ht28.1
   rw [hbt hcf] at ht28
   simp at ht28
  refine Ja ?_;refine R.fin [0, 2, 3, 7, 8, 9] ?_;refine Nz ?_
  exact StCut.take (own := []) (fun _ => .refl _) (by repeat (first | exact Al | refine Ak (by first | (simp [or_imp, forall_and]; done) | exact Xp | (simp [or_imp, forall_and, B0]; done) | (have := hlen (x + 1); simp; omega)) ?_)) (by simp) (by simp)
 have hxe : x = c.length := by simp at ht10; omega
 exact ng

/-! ONE LINE EACH. -/
theorem Xq {c : List Col} {ms : List Mov} (he : (Bf c ms).2 = 0) : ∀ k, k ≤ ms.length → NS c ms k
 | 0, _ => pa
 | k + 1, h => by
  have ih := Xq he k (by omega)
  have hk : ms[k]? = some ms[k] := List.getElem?_eq_getElem (by omega)
  by_cases ht : (B7 (colsAt c ms k) ms[k]).2 = 0
  ·exact So hk ih ht
  exact absurd ((Xd hk ih ht).symm.trans he) ht
theorem N5 {c : List Col} {ms : List Mov} (he : (Bf c ms).2 = 0) {k : Nat} {m : Mov} (hk : ms[k]? = some m) : (B7 (colsAt c ms k) m).2 = 0 := by
 have hl := (List.getElem?_eq_some_iff.1 hk).1
 by_cases ht : (B7 (colsAt c ms k) m).2 = 0
 ·exact ht
 exact absurd ((Xd hk (Xq he k (by omega)) ht).symm.trans he) ht
theorem Pe {c : List Col} {ms : List Mov} : ∀ {n k : Nat}, k ≤ n → (Bs c ms n)[k]? = some (colsAt c ms k)
 | 0, k, h => by
  have : k = 0 := by omega
  subst this; rfl
 | n + 1, k, h => by
  have hl := Fg c ms n
  rw [Bs]
  by_cases e : k = n + 1
  ·subst e
   rw [List.getElem?_append_right (by omega), hl, Nat.sub_self]
   rfl
  rw [List.getElem?_append_left (by omega)]
  exact Pe (by omega)
theorem J7 {c : List Col} {ms : List Mov} (h : Gw c ms = true) : ∀ m ∈ ms, D9 m = true := by
 unfold Gw I1 at h
 simp only [Bool.and_eq_true, List.all_eq_true] at h
 exact h.2.2
theorem Hq {c : List Col} {ms : List Mov} (hc : B1 c = true) (he : (Bf c ms).2 = 0) : ∀ k, B1 (colsAt c ms k) = true
 | 0 => hc
 | k + 1 => by
  cases hk : ms[k]? with
  | none =>
   rw [colsAt, hk]
   exact Hq hc he k
  | some m =>
   rw [Eg hk]
   exact (Pb (N5 he hk)).2.2
/-- What a sound migration comes to. -/
theorem Ea {c : List Col} {ms : List Mov} (h : ((Aw c ms).2 != 0) = false) : Gw c ms = true ∧ (Bf c ms).2 = 0 ∧ Aw c ms = (Bs c ms ms.length, 0) := by
 cases hm : Gw c ms with
 | false => rw [R1 hm] at h; cases h
 | true =>
  by_cases he : (Bf c ms).2 = 0
  ·have e := Xe (Xq he ms.length (Nat.le_refl _))
   exact ⟨rfl, he, R2 hm e⟩
  rw [Oy hm he] at h
  exact absurd (by simpa using h) he
theorem J8 {c : List Col} {ms : List Mov} (h : ((Aw c ms).2 != 0) = false) : Ao c ms = (colsAt c ms ms.length, 0) := by
 obtain ⟨_, _, e⟩ := Ea h
 unfold Ao
 rw [if_neg (by rw [h]; simp), e]
 show ((Bs c ms ms.length).getLastD [], _) = _
 rw [List.getLastD_eq_getLast?, List.getLast?_eq_getElem?, Fg]
 have := Pe (c := c) (ms := ms) (n := ms.length) (Nat.le_refl _)
 rw [show ms.length + 1 - 1 = ms.length from rfl, this]
 rfl
theorem gq {n : Nat} {m : Mov} {t : TypeId} : ObjLow n (.cells t (Gb m)) := Sj
theorem gr {c : List Col} {l : List Mov} (h : ((Aw c l).2 != 0) = true) : Ax c l = ([], 1) := if_pos h
theorem Rd {c : List Col} {l : List Mov} (h : ((Aw c l).2 != 0) = false) : Ax c l = Ep c (Jf c) l := if_neg (by rw [h]; simp)
theorem Ve {c : List Col} {ms : List Mov} {k : Nat} {m : Mov} (h : ms[k]? = some m) : Az (Ae c ms (k + 1)) = .slice false 6 ((C6 m.take (colsAt c ms k) (Ae c ms k)).map A5 ++ (Bi (colsAt c ms k) (Ae c ms k) m.ahead).1.map A5) := by
 rw [Ae, h, ← List.map_append]
theorem c43 (c : List Col) (hc : OkCols c) (hc2 : c.length ≤ 1000000) (l : List Mov) (h : OkMovs l) (Hp : List AObj) : AFun Tryz.prog 43 [A4 c, By l] Hp (.tup [Az (Ax c l).1, A3 (Ax c l).2]) := by
 refine ACall.body [.tmp 4, .tmp 5] [0, 1] Tryz.func43 Tryz.ntmps43 (fun d => ?_)
 refine No ?_;refine Z32 ?_;refine R.call Tryz.call56 (c56 c hc hc2 l h _) ?_;refine Fc ?_;refine R.fin [0, 1, 6, 7] ?_;refine Gs ?_;refine R.fin [0, 1, 6, 22] ?_
 refine W.cond (fun ht22 => ?_) (fun ht22 => ?_)
 ·have hm := gr ht22
  refine Z1 ?_;refine R.nilTmp 4 6 false ?_;refine Ar ?_;exact nc
 have hm := Rd ht22
 obtain ⟨hmay, hst, hss⟩ := Ea ht22
 have hmvo := J7 hmay
 rw [hss]
 refine Z96 ?_;refine R.call Tryz.call61 (c61 c (by omega) _) ?_;refine Ar ?_;refine R.fin [1, 6, 8] ?_;refine S1 ?_;refine R.fin [6, 8, 25, 26, 27] ?_
 refine AW.loopG (α := Nat × List AObj × List Nat) (fun s => ⟨65, A2 6 (Xg (Bs c l l.length)) (A2 8 (Az (Ae c l s.1)) (A2 25 (By l) (A2 26 (A3 (l.length : Nat)) (A2 27 (A3 (s.1 : Nat)) (fun _ => .any))))), Hp, s.2.1, s.2.2, none⟩) (fun s => s.1 ≤ l.length ∧ Fo c l s.1 ∧ TOk (Ae c l s.1) ∧ (Ae c l s.1).length = (colsAt c l s.1).length ∧ (∀ x ∈ s.2.1, ObjLow (Hp.length + s.2.1.length) x) ∧ ∀ o ∈ s.2.2, (Hp ++ s.2.1)[o]? = some .defs) (fun s => l.length - s.1) ((0, [], [])) ⟨Nat.zero_le _, lu, Xn hc, by simp [Ae, Jf, colsAt], (fun x hx => (List.not_mem_nil hx).elim), fun o ho => (List.not_mem_nil ho).elim⟩ (StLe.of_eq (by simp [Ae])) rfl (fun s hs => ?_)
 obtain ⟨k, O, Df⟩ := s
 obtain ⟨hk0, hnf, hTo, hTl, hOo, hDo⟩ := hs
 dsimp only at hk0 hnf hTo hTl hOo hDo ⊢
 refine Z57 ?_;refine R.fin [6, 8, 25, 26, 27, 28] ?_
 refine W.condX (fun ht28 => ?_) (fun ht28 => ?_)
 ·have hlt : k < l.length := by simpa using ht28
  have hll := h.len
  have hmk : l[k]? = some l[k] := List.getElem?_eq_getElem hlt
  have hmo := h.each _ (List.getElem_mem hlt)
  have hCo := Fx hc (fun m hm => h.each m hm) k
  refine Mw ?_;refine k8 ?_;refine Ek ?_;refine R.alloc (n := O.length) (ho := rfl) jZ ?_;refine Ar ?_
  refine R.storeOwn (n := O.length + 0) (ho := oat.trans rfl) (hset := by rw [Zk] <;> simp only [List.set_cons_succ, List.set_cons_zero] <;> rfl) jS ?_
  refine R.fin [6, 8, 9, 10, 25, 26, 27] ?_;refine W.draw [0, 1, 0, 0, 12, 28, 0, 127, 255, 511, 511, 1023, 4095] 12 Ah (by kernel_rfl) ?_;refine D.fieldAddrPtr (fo := 3) jU Tryz.sizeOf53 ?_;refine D.loadOwn (n := O.length + 0) (ho := oat.trans rfl) jA ?_;refine Z54 ?_;refine se ?_
  refine D.call Tryz.call62 (c62 l[k].ahead hmo.ahead.len hmo.ahead.ok (colsAt c l k) hCo (Ae c l k) (by have := hCo.1; omega) hTo.ok _) ?_
  refine D.move ?_;refine D.extract ?_;refine D.extract ?_;refine Zx ?_;refine R.fin [6, 8, 9, 10, 11, 12, 25, 26, 27] ?_;refine Gs ?_;refine R.fin [6, 8, 9, 10, 11, 12, 25, 26, 27, 44] ?_
  refine W.cond (fun ht44 => ?_) (fun ht44 => ?_)
  ·have hm2 := Sp hmk hnf ht44
   refine Z40 ?_;refine R.nilTmp 4 6 false ?_;refine Ar ?_;refine Z93 ?_;refine Z5 ?_;refine K.lgR ?_;refine K.thR ?_;exact ta
  refine Hz ?_
  refine R.alloc (n := O.length + 1) (hn := by simp) (ho := by simp only [List.append_assoc, List.cons_append, List.nil_append] <;> rfl) jZ ?_
  refine R.nilOwn (O.length + 1) 6 ?_ (ho := oat.trans rfl) (hset := by rw [Zk] <;> simp only [List.set_cons_succ, List.set_cons_zero] <;> rfl)
  refine R.assumeLow (fun hlow => ?_)
  refine R.fin [6, 8, 9, 10, 11, 13, 25, 26, 27] ?_;refine W.seq ?_;refine W.draw [0, 0, 0, 6, 14, 0, 63] 6 Ah (by kernel_rfl) ?_;refine D.loadOwnN (n := O.length + 0) (ho := oat.trans rfl) jA jS ?_;refine Z54 ?_;refine se ?_;refine D.tail ?_;refine R.call Tryz.call63 (c63 l[k] (colsAt c l k) (Ae c l k) _) ?_;refine R.fin [6, 11, 13, 25, 26, 27, 52] ?_;refine AW.block ?_
  refine W.rangeV (m := O.length + 2) (hm := by simp) (ha := rfl) Tryz.call87 (fun FR as' bd' hFR has hbd => ?_)
  generalize hCd : colsAt c l k = C at *
  generalize hTd : Ae c l k = T at *
  generalize hmd : l[k] = m at *
  have hFRl : ∀ s, Low (Hp.length + (O.length + 4)) (FR s) := by
   intro s
   rw [hFR]
   refine Low.strip ?_
   revert s
   repeat (first | exact Al | refine Ak (by first | exact Cf | exact F1 | exact H7 | (simp [oid, or_imp, forall_and, B0]; done) | (simp [oid, or_imp, forall_and] <;> try omega)) ?_)
  have hstl : ∀ q, (C6 m.take (C.take q) (T.take q)).length ≤ 1048576 := fun q => by
   have h1 := Fy (take := m.take) (c := C.take q) (l := T.take q) (by simp [hTl])
   have h2 := Co (C.take q) m.take
   have h3 := hCo.1
   rw [List.length_take] at h2
   omega
  have hOl : ∀ {j : Nat} {o : Bool} {lp : AObj}, ObjLow (Hp.length + (O.length + 4)) lp → ∀ x ∈ O ++ [AObj.cells 55 (Gb m), AObj.cells 53 [AV.slice o 6 ((C6 m.take (C.take j) (T.take j)).map A5)], AObj.defs, lp], ObjLow (Hp.length + (O.length + 4)) x := by
   intro j o lp hlp x hx
   rcases List.mem_append.1 hx with hx | hx
   ·exact ObjLow.le (by omega) (hOo x hx)
   simp only [List.mem_cons, List.mem_nil_iff, or_false] at hx
   rcases hx with rfl | rfl | rfl | rfl
   ·exact gq
   ·intro y hy
    rw [List.mem_singleton.1 hy]
    exact Cf
   ·trivial
   exact hlp
  refine ⟨_, ACall.heapEq (by rw [List.append_assoc]; rfl) (c87 (oid Hp.length (O.length + 3)) m C T hCo.1 hTl.symm hmo.takes (fun j => Hp ++ (O ++ [AObj.cells 55 (Gb m), AObj.cells 53 [AV.slice true 6 ((C6 m.take (C.take j) (T.take j)).map A5)], AObj.defs, AObj.loop LoopState.ready none FR 65 #[53] as' bd' (oid Hp.length (O.length + 2))])) (fun j => by simp) (by simp [oid]) (fun j x hx => ?_) (fun j y hk hcn => by simp only [Xo hTl.symm hk hcn]) (fun q y e X hk hke hcn => ?_)), ?_⟩
  ·have := Gn (fun x hx => ObjLow.le (by omega) (hlow x hx)) (hOl (o := true) (lp := AObj.loop LoopState.ready none FR 65 #[53] as' bd' (oid Hp.length (O.length + 2))) ⟨hFRl, by simp [oid]⟩) x hx
   simpa using this
  ·generalize hV : Hp ++ (O ++ [AObj.cells 55 (Gb m), AObj.cells 53 [AV.slice true 6 ((C6 m.take (C.take q) (T.take q)).map A5)], AObj.defs, AObj.loop LoopState.ready none FR 65 #[53] as' bd' (oid Hp.length (O.length + 2))]) ++ X = V
   have hL : V[(oid Hp.length (O.length + 3))]? = some (AObj.loop LoopState.ready none FR 65 #[53] as' bd' (oid Hp.length (O.length + 2))) := by rw [← hV, List.append_assoc, List.append_assoc, Ku]; rfl
   have hA0 : V[(oid Hp.length (O.length + 1))]? = some (AObj.cells 53 [AV.slice true 6 ((C6 m.take (C.take q) (T.take q)).map A5)]) := by rw [← hV, List.append_assoc, List.append_assoc, Ku]; rfl
   refine AYield.ofRound (pd := none) (fr := FR) (sz := 65) (ps := #[53]) (df := (oid Hp.length (O.length + 2))) (asg := as') (bd := bd') hL rfl (by decide) (fun d => ?_)
   subst hFR has hbd
   refine W.keep [13, 53] ?_;refine Hh ?_;refine Z42 ?_;refine R.fin [13, 14] ?_
   refine ⟨rfl, none, hL, ?_⟩
   generalize hbz : (AObj.loop LoopState.busy _ _ _ _ _ _ _) = bz
   have hA : (V.set (oid Hp.length (O.length + 3)) bz)[(oid Hp.length (O.length + 1))]? = some (AObj.cells 53 [AV.slice true 6 ((C6 m.take (C.take q) (T.take q)).map A5)]) := by rw [List.getElem?_set_ne (Cs (by omega))]; exact hA0
   refine AW.block ?_
   refine W.drawT0 [0, 0, 1, 0, 15, 31, 63, 31] [0] [.s [54] (some 0) [] [], .q 3 [] []] (fun B => (V.set (oid Hp.length (O.length + 3)) bz).set (oid Hp.length (O.length + 1)) (if B 0 = true then AObj.cells 53 [AV.slice false 6 ((C6 m.take (C.take q) (T.take q)).map A5)] else AObj.cells 53 [AV.slice true 6 ((C6 m.take (C.take q) (T.take q)).map A5)])) (fun _ => [.cells 60 (Cx e)]) Ah (by kernel_rfl) (by simp only [Bool.false_eq_true, if_false]; exact cq hA) rfl (fun B => by simp) ?_
   refine Y.loadUpT (o := (oid Hp.length (O.length + 1))) (t' := 53) (cs := [.slice true 6 ((C6 m.take (C.take q) (T.take q)).map A5)]) (cs' := [.slice false 6 ((C6 m.take (C.take q) (T.take q)).map A5)]) Tryz.isAgg53 (fun B hB => ⟨by simp only [hB]; exact Ay hA, by simp only [upd, if_true, List.set_set], rfl⟩) ?_
   apply Y.q
   case h1 =>
    intro B hT hF
    refine D.loadOwnN jA jS ?_;refine D.len jU ?_;exact nh
   case hTF => decide
   refine Y.appendPut3 (tn := [0]) (U := (V.set (oid Hp.length (O.length + 3)) bz).set (oid Hp.length (O.length + 1)) (AObj.cells 53 [AV.slice false 6 ((C6 m.take (C.take q) (T.take q)).map A5)])) (O := [.cells 60 (Cx e)]) (o := (oid Hp.length (O.length + 1))) (t' := 53) (cs := [.slice false 6 ((C6 m.take (C.take q) (T.take q)).map A5)]) (by kernel_rfl) jU Tryz.type60 Tryz.sizeOf60 Tryz.sizeOf53 (B9 (Ay hA)) ?_ ?_ ?_
   ·have := hstl q; simp [Tryz.t60]; omega
   ·have := hstl q; simp [Tryz.t60]; omega
   refine R.storeUpT jS (Ay hA) ?_ ?_
   ·exact Ke
   refine dw ?_
   subst hbz
   refine K.rdN (Tj hL (Cs (by omega)) (Cs (by omega))) ?_
   refine ⟨rfl, ?_⟩
   subst hV
   simp only [List.append_assoc, cu, List.cons_append, List.nil_append, List.set_cons_succ, List.set_cons_zero]
   rw [gn hTl.symm hk hke hcn, List.map_append, List.map_cons, List.map_nil, Bg]
  rintro r H' rfl
  simp only [List.take_length, hTl ▸ List.take_length]
  refine ⟨Hp, _, _, _, rfl, rfl, fun h => h, ?_, (oat (i := 3)).trans rfl, by simp, ?_⟩
  ·intro o ho
   rcases List.mem_cons.1 ho with rfl | ho
   ·rw [Ku]
    rfl
   rw [← List.append_assoc]
   exact B9 (hDo o ho)
  refine Z6 ?_;refine Hh ?_
  refine ARun.ownEq (O ++ [AObj.cells 55 (Gb m), AObj.cells 53 [AV.slice true 6 ((C6 m.take C T).map A5)], AObj.defs, AObj.loop LoopState.exhausted none FR 65 #[53] as' bd' (oid Hp.length (O.length + 2))]) (by rw [show O.length + 2 + 1 = O.length + 3 from rfl, Zk] <;> rfl) ?_
  refine R.loadOwnT (n := O.length + 1) (ho := oat.trans rfl) (hset := by rw [Zk] <;> simp only [List.set_cons_succ, List.set_cons_zero] <;> rfl) jA ?_
  refine Av ?_
  refine R.append jU Tryz.type60 ?_ ?_ ?_
  ·have h1 := Fy (take := m.take) hTl.symm; have h2 := Co C m.take; have h3 := hCo.1; have h4 := Ho (c := C) (by_ := T) m.ahead (by simpa using ht44); have h5 := hmo.ahead.len; simp only [List.length_map, Tryz.t60]; omega
  ·have h1 := Fy (take := m.take) hTl.symm; have h2 := Co C m.take; have h3 := hCo.1; have h4 := Ho (c := C) (by_ := T) m.ahead (by simpa using ht44); have h5 := hmo.ahead.len; simp only [List.length_map, Tryz.t60]; omega
  refine R.wk 62 _ (.strip true 6 _) ?_;refine Ar ?_;refine R.fin [6, 8, 25, 26, 27] ?_;refine K2 ?_;refine R.fin [6, 8, 25, 26, 27] ?_
  have hlp : ObjLow (Hp.length + (O.length + 4)) (AObj.loop LoopState.exhausted none FR 65 #[53] as' bd' (oid Hp.length (O.length + 2))) := ⟨hFRl, by simp [oid]⟩
  have hOn := hOl (j := C.length) (o := false) hlp
  have hse : C6 m.take (C.take C.length) (T.take C.length) = C6 m.take C T := by rw [List.take_length, List.take_of_length_le (by omega)]
  rw [hse] at hOn
  refine K.lgN (k + 1, O ++ [AObj.cells 55 (Gb m), AObj.cells 53 [AV.slice false 6 ((C6 m.take C T).map A5)], AObj.defs, AObj.loop LoopState.exhausted none FR 65 #[53] as' bd' (oid Hp.length (O.length + 2))], (oid Hp.length (O.length + 2)) :: Df) ⟨hlt, ?_, ?_, ?_, ?_, ?_⟩ (by dsimp only; omega) (StCut.of_eq ?_) (by simp)
  ·subst hCd hTd hmd; exact N4 hmk hnf ht44
  ·subst hCd hTd hmd; exact Sr hmk hmo hTo ht44
  ·subst hCd hTd hmd; exact Pc hmk (hmvo _ (List.getElem_mem hlt)) (N5 hst hmk) hTl ht44
  ·simpa using hOn
  ·intro o ho
   rcases List.mem_cons.1 ho with rfl | ho
   ·dsimp only; rw [Ku]; rfl
   dsimp only; rw [← List.append_assoc]; exact B9 (hDo o ho)
  dsimp only
  rw [Ve hmk, hCd, hTd]
  rfl
 have hke : k = l.length := by simp at ht28; omega
 subst hke
 have hm2 := Sq hnf
 refine K.lgE ?_;refine Tq ?_;exact pz

/-! How long plan.Text's pieces are. -/
theorem M3 (t : List Expr × Int) (i : Nat) : (Gi t i).length ≤ 4000 := by
 have h1 : ∀ e : Expr, (Gr e).1.length ≤ 4000 := fun e => by
  unfold Gr
  split
  ·exact Nat.zero_le _
  split
  ·exact Nat.zero_le _
  rename_i h
  have : (Ac e).length ≤ 4000 := by simp at h; omega
  exact this
 unfold Gi
 split
 ·split
  ·exact h1 _
  decide
 decide
theorem Re {t : List Expr × Int} {i : Nat} {y : Col} (h : y.name.length ≤ 1048576) : (L9 t i y).length ≤ 1052600 := by
 have := M3 t i
 unfold L9
 simp only [List.length_append, List.length_cons, List.length_nil]
 omega
theorem Pf {t : List Expr × Int} {d : List Col} (hd : OkCols d) : ∀ k, (Dk t d k).length ≤ k * 1052600
 | 0 => by simp [Dk]
 | k + 1 => by
  have ih := Pf (t := t) hd k
  rw [Dk, List.length_append]
  cases hk : d[k]? with
  | none =>
   exact tc
  | some y =>
   have := Re (t := t) (i := k) (hd.2 y (List.mem_of_getElem? hk))
   simp only
   omega
theorem Gj {d : List Col} (hd : OkCols d) : (Cu d).length ≤ 12583200 := by
 unfold Cu
 split
 ·rename_i h
  have h12 : d.length ≤ 12 := by unfold Gu at h; simp at h; omega
  have := Lo hd d.length
  rw [List.take_length] at this
  have h2 : d.length * 1048600 ≤ 12 * 1048600 := Nat.mul_le_mul_right _ h12
  omega
 exact Nat.zero_le _
theorem G4 {d : List Col} (hd : OkCols d) : (E2 d).length ≤ 12583300 := by
 unfold E2
 split
 ·have := Gj hd
  simp only [List.length_append, List.length_cons, List.length_nil]
  omega
 exact Nat.zero_le _
theorem Dv (k : Int) : (B5 k).length ≤ 10 := by
 unfold B5
 split
 ·exact Nat.zero_le _
 rename_i h
 have : ∀ j, j < 8 → (stepNames.getD j []).length ≤ 10 := by decide
 exact this _ (by simp at h; omega)
theorem M4 {t : List Expr × Int} {d : List Col} (hd : OkCols d) {k : Nat} (h : k ≤ d.length) : (Dk t d k).length ≤ 1103800000000 := by
 have h1 := Pf (t := t) hd k
 have h2 := hd.1
 omega
theorem bm {t : List Expr × Int} {s : Stp} (hd : OkCols s.cols) : (Jq t s).length ≤ 1110000000000 := by
 have h1 := Dv s.kind
 have h2 := G4 hd
 have h3 := M4 (t := t) hd (Nat.le_refl _)
 have h4 : (if s.kind == 2 then Dk t s.cols s.cols.length else []).length ≤ 1103800000000 := by
  split
  ·exact h3
  exact Nat.zero_le _
 unfold Jq
 simp only [List.length_append, List.length_cons, List.length_nil]
 omega
theorem Kf {t : List Expr × Int} {p : List Stp} (hp : ∀ s ∈ p, OkCols s.cols) : ∀ k, (Bm t p k).length ≤ k * 1110000000000
 | 0 => by simp [Bm]
 | k + 1 => by
  have ih := Kf (t := t) hp k
  rw [Bm, List.length_append]
  cases hk : p[k]? with
  | none =>
   exact tc
  | some s =>
   have := bm (t := t) (hp s (List.mem_of_getElem? hk))
   simp only
   omega
theorem Yo {a b : List Col} (h : OkCols a) : OkCols (B2 a b) := by
 unfold B2
 exact ⟨Nat.le_trans (List.length_filter_le _ _) h.1, fun y hy => h.2 y (List.mem_filter.1 hy).1⟩
theorem lv {c : List Col} {l : List Mov} (hc : OkCols c) (h : OkMovs l) : (Ab c l).1.length ≤ 7 ∧ ∀ s ∈ (Ab c l).1, OkCols s.cols := by
 have h0 : OkCols ([] : List Col) := ⟨by decide, fun y hy => by cases hy⟩
 have hl := Ip hc h
 unfold Ab
 split
 ·exact ⟨Nat.zero_le _, fun s hs => by cases hs⟩
 have e1 : OkCols (Be c l).1 ∧ OkCols (Be c l).2.1 ∧ OkCols (Be c l).2.2.1 := by
  unfold Be
  split
  ·exact ⟨h0, h0, h0⟩
  exact ⟨hl, Yo hc, Yo hl⟩
 refine ⟨Nat.le_refl _, fun s hs => ?_⟩
 simp only [List.mem_cons, List.mem_nil_iff, or_false] at hs
 rcases hs with rfl | rfl | rfl | rfl | rfl | rfl | rfl
 ·exact e1.2.2
 ·exact e1.1
 ·exact e1.2.2
 ·exact e1.2.2
 ·exact e1.1
 ·exact e1.2.1
 exact h0
/-- The trees forth are as many as the columns behind, and may be walked. -/
theorem Pg {c : List Col} {l : List Mov} (hc : OkCols c) (h : OkMovs l) (hs : ((Aw c l).2 != 0) = false) : TOk (Ax c l).1 ∧ ((Ax c l).2 = 0 → (Ax c l).1.length = (Ao c l).1.length) := by
 obtain ⟨hmay, hst, _⟩ := Ea hs
 have hmv := J7 hmay
 have e : Ax c l = Ep c (Jf c) l := if_neg (by rw [hs]; simp)
 have key : ∀ k, k ≤ l.length → (Fo c l k ∧ TOk (Ae c l k) ∧ (Ae c l k).length = (colsAt c l k).length) ∨ (∃ z, z ≠ 0 ∧ Ep c (Jf c) l = ([], z)) := by
  intro k
  induction k with
  | zero => exact fun _ => .inl ⟨lu, Xn hc, by simp [Ae, Jf, colsAt]⟩
  | succ k ih =>
   intro hk
   rcases ih (by omega) with ⟨h1, h2, h3⟩ | h1
   ·have hmk : l[k]? = some l[k] := List.getElem?_eq_getElem (by omega)
    cases he : ((Bi (colsAt c l k) (Ae c l k) l[k].ahead).2 != 0) with
    | true => exact .inr ⟨_, by simpa using he, Sp hmk h1 he⟩
    | false => exact .inl ⟨N4 hmk h1 he, Sr hmk (h.each _ (List.getElem_mem (by omega))) h2 he, Pc hmk (hmv _ (List.getElem_mem (by omega))) (N5 hst hmk) h3 he⟩
   exact .inr h1
 rcases key l.length (Nat.le_refl _) with ⟨h1, h2, h3⟩ | ⟨z, hz, h1⟩
 ·rw [e, Sq h1, J8 hs]
  exact ⟨h2, fun _ => h3⟩
 rw [e, h1]
 exact ⟨⟨fun e h => (List.not_mem_nil h).elim, fun e h => (List.not_mem_nil h).elim⟩, fun h => absurd h hz⟩
theorem c23 (c : List Col) (l : List Mov) (q : List Col) (Hp : List AObj) : AFun Tryz.prog 23 [A4 c, By l, A4 q] Hp (.fn (.func 42) [] [.ro [A4 c], .ro [By l], .ro [A4 q]]) := by
 refine ACall.body [.tmp 6] [0, 1, 2] Tryz.func23 Tryz.ntmps23 (fun d => ?_)
 refine Z30 ?_;refine R.boxRo ?_;refine Zu ?_;refine R.fin [3, 4, 5] ?_;refine Ba ?_;refine dk ?_;exact qw

theorem c42 (l0 : Nat) (c : List Col) (hc : OkCols c) (hc2 : c.length ≤ 1000000) (ms : List Mov) (h : OkMovs ms) (q : List Col) (hd : OkCols q) (F : List Expr × Int) (hF : Ax c ms = F) (hF1 : TOk F.1) (hF2 : F.2 = 0 → F.1.length = q.length) (U : Nat → List AObj) (hlen : ∀ k, (U k).length = (U 0).length) (hll : l0 < (U 0).length)
  (hlw : ∀ k, ∀ x ∈ U k, ObjLow (U 0).length x)
  (hy : ∀ k y X, q[k]? = some y → AYield Tryz.prog l0 [A7 (L9 F k y)] (U k ++ X) (fun b H' => b = true ∧ H' = U (k + 1) ++ X)) : ACall Tryz.prog 42 [.yield l0, .ro [A4 c], .ro [By ms], .ro [A4 q]] (U 0) (fun _ H' => H' = U q.length) := by
 refine ACall.body [] [0, 1, 2, 3] Tryz.func42 Tryz.ntmps42 (fun d => ?_)
 refine Zs ?_;refine Dw ?_;refine R.call Tryz.call43 (c43 c hc hc2 ms h _) ?_
 rw [hF]
 refine Fc ?_;refine R.fin [0, 3, 5, 6] ?_;refine Zs ?_;refine Z64 ?_;refine R.fin [0, 5, 6, 18, 19, 20] ?_
 refine AW.loopC (α := Nat) (fun x => ⟨49, A2 0 (.yield l0) (A2 5 (Az F.1) (A2 6 (A3 F.2) (A2 18 (A4 q) (A2 19 (A3 (q.length : Nat)) (A2 20 (A3 (x : Nat)) (fun _ => .any)))))), U x, [], [], none⟩) (fun x => x ≤ q.length) (fun x => q.length - x) (0) (Nat.zero_le _) (StLe.of_eq (by simp)) rfl (fun x hx => ?_)
 refine Z57 ?_;refine R.fin [0, 5, 6, 18, 19, 20, 21] ?_
 refine W.condX (fun ht21 => ?_) (fun ht21 => ?_)
 ·have hlt : x < q.length := by simpa using ht21
  have hnm := hd.2 q[x] (List.getElem_mem hlt)
  have htl := M3 F x
  have hql := hd.1
  refine Mw ?_;refine R.indexAddr (x) (B3 q[x]) jU jS (A9 hlt) ?_;refine Ek ?_;refine W4 ?_;refine R.fin [0, 5, 6, 7, 8, 18, 19, 20] ?_;refine Z1 ?_;refine R.fin [0, 5, 6, 7, 8, 9, 18, 19, 20] ?_
  refine W.join ⟨49, A2 0 (.yield l0) (A2 5 (Az F.1) (A2 6 (A3 F.2) (A2 8 (.ptr (oid (U x).length 0) 0) (A2 9 (A7 (Gi F x)) (A2 18 (A4 q) (A2 19 (A3 (q.length : Nat)) (A2 20 (A3 (x : Nat)) (fun _ => .any)))))))), (U x), [.cells 47 [A7 q[x].name, A3 q[x].kind]], [], none⟩ ?_ ?_
  ·refine K1 ?_;refine R.fin [0, 5, 6, 7, 8, 9, 18, 19, 20, 26] ?_
   refine W.cond (fun ht26 => ?_) (fun ht26 => ?_)
   ·have hle : x < F.1.length := by rw [hF2 (by simpa using ht26)]; exact hlt
    have hge : F.1.getD x A8 = F.1[x] := by rw [List.getD_eq_getElem?_getD, List.getElem?_eq_getElem hle]; rfl
    refine Z32 ?_;refine R.indexAddr (x) (A5 F.1[x]) jU jS (A9 hle) ?_;refine Ek ?_;refine R.call Tryz.call44 (c44 61 F.1[x] (hF1.ok _ (List.getElem_mem hle)) (by decide) (hF1.rng _ (List.getElem_mem hle)) _) ?_;refine Fc ?_;refine R.fin [0, 5, 6, 8, 9, 10, 11, 18, 19, 20] ?_;refine K1 ?_;refine R.fin [0, 5, 6, 8, 9, 10, 18, 19, 20, 36] ?_
    refine W.cond (fun ht36 => ?_) (fun ht36 => ?_)
    ·have hs1 : Gi F x = (Gr F.1[x]).1 := by unfold Gi; rw [if_pos ht26, hge, if_pos ht36]
     refine Z7 ?_;refine Ar ?_;refine R.fin [0, 5, 6, 8, 9, 18, 19, 20] ?_;exact my
    have hs1 : Gi F x = [63] := by unfold Gi; rw [if_pos ht26, hge, if_neg (by rw [ht36]; simp)]
    exact sf
   have hs1 : Gi F x = [63] := if_neg (by rw [ht26]; simp)
   exact sf
  refine Z0 ?_;refine Zl ?_
  refine R.sadd (hl := by simp only [List.length_append, List.length_cons, List.length_nil]; omega) ?_
  refine R.sadd (hl := by simp only [List.length_append, List.length_cons, List.length_nil]; omega) ?_
  refine Av ?_
  refine R.sadd (hl := by simp only [List.length_append, List.length_cons, List.length_nil]; omega) ?_
  refine R.sadd (hl := by simp only [List.length_append, List.length_cons, List.length_nil]; omega) ?_
  refine R.yield (l := l0) (args := [A7 (L9 F x q[x])]) (hy x q[x] _ (List.getElem?_eq_getElem hlt)) ?_
  intro b V O hV hb
  obtain ⟨rfl, h2⟩ := hb
  obtain ⟨rfl, rfl⟩ := List.append_inj h2 (by rw [hV, hlen x, hlen (x + 1)])
  refine ⟨fun _ => by rw [hlen (x + 1)]; exact hlw (x + 1), fun o ho => (by cases ho), ?_⟩
  refine R.not ?_;refine R.fin [0, 5, 6, 18, 19, 20, 47] ?_
  refine W.cond (fun ht47 => ?_) (fun ht47 => ?_)
  ·cases ht47
  refine Ja ?_;refine R.fin [0, 5, 6, 18, 19, 20] ?_;refine Nz ?_
  exact StCut.take (own := []) (fun _ => .refl _) (by repeat (first | exact Al | refine Ak (by first | exact Cf | exact Bo | (simp [or_imp, forall_and]; done) | (have := hlen (x + 1); simp; omega)) ?_)) (by simp) (by simp)
 have hxe : x = q.length := by simp at ht21; omega
 exact ng

theorem gt : liesAt Tryz.prog Tryz.prog.depth 66 (2 / Tryz.prog.cellsOf 66) 0 66 1 = true := by kernel_rfl
abbrev Kg (bs : Str) : AObj := .bld 66 5 bs
theorem gu {n : Nat} {bs : Str} : ObjLow n (Kg bs) := trivial
theorem lw (bs s : Str) (hl : bs.length + s.length ≤ 140737488355328) (o : Nat) (Hp : List AObj) (ho : Hp[o]? = some (Kg bs)) :
  ACall Tryz.prog 21 [.ptr o 0, A7 s] Hp (fun r H' => r = .tup [A3 s.length, .v .nilIface] ∧ H' = Hp.set o (Kg (bs ++ s))) := by
 refine ACall.bldWrite ho (fun b p v w h => ?_)
 have hw := bldWrite Tryz.lays166 lq (T := 66) gt (by decide) b p v bs.length (Lib.byteCells bs) ⟨s.toArray⟩ w h (by rw [Cn]; exact hl)
 rw [Cn, Lib.strCells_eq, ← Lib.byteCells_append] at hw
 exact hw
theorem y7 (bs : Str) (o : Nat) (Hp : List AObj) (ho : Hp[o]? = some (Kg bs)) : ACall Tryz.prog 24 [.ptr o 0] Hp (fun r H' => r = A7 bs ∧ H' = Hp.set o (.cells 66 [.any, .any])) :=
 ACall.bldString ho (fun b p v w h hc => bldString (ρ := Tryz.ren155) { Tryz.lays155 with } lq (T := 66) b p v bs w h hc)
theorem lx {c : List Col} {l : List Mov} (h : ((Ab c l).2 != 0) = true) : Pd c l = ([], (Ab c l).2) := if_pos h
theorem Vf {c : List Col} {l : List Mov} (h : ((Ab c l).2 != 0) = false) : Pd c l = (Bm (Ax c l) (Ab c l).1 (Ab c l).1.length, 0) := if_neg (by rw [h]; simp)
theorem pm {t : List Expr × Int} {s : Stp} (h : (s.kind != 2) = true) : Jq t s = (B5 s.kind ++ E2 s.cols) ++ [10] := by
 unfold Jq
 rw [if_neg (by simpa using h), List.append_nil]
theorem po {t : List Expr × Int} {s : Stp} (h : (s.kind != 2) = false) : Jq t s = ((B5 s.kind ++ E2 s.cols) ++ [10]) ++ Dk t s.cols s.cols.length := by
 unfold Jq
 rw [if_pos (by simpa using h)]
/-- Which columns a plan's second step has. -/
theorem pq {c : List Col} {l : List Mov} (h : ((Ab c l).2 != 0) = false) : ((Aw c l).2 != 0) = false ∧ ∀ s ∈ (Ab c l).1, (s.kind != 2) = false → s.cols = (Ao c l).1 := by
 cases h1 : ((Aw c l).2 != 0) with
 | true =>
  have e1 : Ao c l = ([], (Aw c l).2) := if_pos h1
  have e2 : Be c l = ([], [], [], 1) := if_pos (by rw [e1]; exact h1)
  have e3 : Ab c l = ([], 1) := by unfold Ab; rw [e2]; rfl
  rw [e3] at h
  cases h
 | false =>
  refine ⟨rfl, ?_⟩
  have e1 := J8 h1
  have e2 : Be c l = ((Ao c l).1, B2 c (Ao c l).1, B2 (Ao c l).1 c, 0) := if_neg (by rw [e1]; simp)
  have e3 : Ab c l = ([⟨1, (Be c l).2.2.1⟩, ⟨2, (Be c l).1⟩, ⟨3, (Be c l).2.2.1⟩, ⟨4, (Be c l).2.2.1⟩, ⟨5, (Be c l).1⟩, ⟨6, (Be c l).2.1⟩, ⟨7, []⟩], 0) := if_neg (by rw [e2]; simp)
  intro s hs h2
  rw [e3] at hs
  simp only [List.mem_cons, List.mem_nil_iff, or_false] at hs
  rcases hs with rfl | rfl | rfl | rfl | rfl | rfl | rfl
  all_goals first | (rw [e2]; done) | (exact absurd (show (true : Bool) = false from h2) (by decide))
theorem gw {n k : Nat} {o : Bool} {l : List Stp} : Low n (.slice o k (l.map V2)) := low_slice.2 fun y hy => by
 obtain ⟨m, _, rfl⟩ := List.mem_map.1 hy
 refine .agg _ fun z hz => ?_
 simp only [List.mem_cons, List.mem_nil_iff, or_false] at hz
 rcases hz with rfl | rfl
 ·exact .v _
 exact Bo
section
variable {O X U : List AObj} {i : Nat} {b y : AObj}
theorem bat : (b :: (O ++ X))[O.length + 1 + i]? = X[i]? := by
 rw [show O.length + 1 + i = (O.length + i) + 1 by omega, List.getElem?_cons_succ, oat]
theorem batc : (b :: (O ++ X))[O.length + (i + 1)]? = X[i]? := by
 rw [show O.length + (i + 1) = (O.length + i) + 1 by omega, List.getElem?_cons_succ, oat]
theorem pr : (b :: (O ++ X)).set (O.length + (i + 1)) y = b :: (O ++ X.set i y) := by
 rw [show O.length + (i + 1) = (O.length + i) + 1 by omega, List.set_cons_succ, Zk]
theorem Ph : (U ++ (b :: (O ++ X)))[oid U.length (O.length + (i + 1))]? = X[i]? := by
 rw [Bu, batc]
theorem gx : (U ++ (b :: (O ++ X))).set (oid U.length (O.length + (i + 1))) y = U ++ (b :: (O ++ X.set i y)) := by
 rw [Fp, pr]
theorem bn {Y : List AObj} : ((U ++ (b :: (O ++ X))) ++ Y)[oid U.length (O.length + (i + 1))]? = (X ++ Y)[i]? := by
 rw [List.append_assoc, List.cons_append, List.append_assoc, Ph]
theorem bo {Y : List AObj} : ((U ++ (b :: X)) ++ Y)[oid U.length 0]? = some b := by
 rw [List.append_assoc, Bu]; rfl
theorem gy : (U ++ (b :: X)).set (oid U.length 0) y = U ++ (y :: X) := by
 rw [Fp]; rfl
theorem Pi {o : Nat} (h : (U ++ (b :: O))[o]? = some .defs) {b' : AObj} (hb : b ≠ .defs := by simp) : (U ++ (b' :: (O ++ X)))[o]? = some .defs := by
 rcases Nat.lt_or_ge o U.length with h1 | h1
 ·rw [List.getElem?_append_left h1] at h ⊢
  exact h
 rw [List.getElem?_append_right h1] at h ⊢
 generalize o - U.length = j at h
 cases j with
 | zero =>
  rw [List.getElem?_cons_zero] at h
  injection h with h
  exact absurd h hb
 | succ j =>
  rw [List.getElem?_cons_succ] at h ⊢
  exact B9 h
end
theorem c9 (c : List Col) (hc : OkCols c) (hc2 : c.length ≤ 1000000) (l : List Mov) (h : OkMovs l) (Hp : List AObj) : AFun Tryz.prog 9 [A4 c, By l] Hp (.tup [A7 (Pd c l).1, A3 (Pd c l).2]) := by
 refine ACall.body [.tmp 4, .tmp 5] [0, 1] Tryz.func9 Tryz.ntmps9 (fun d => ?_)
 refine No ?_;refine Z32 ?_;refine R.call Tryz.call8 (c8 c hc hc2 l h _) ?_;refine Fc ?_;refine R.fin [0, 1, 6, 7] ?_;refine Gs ?_;refine R.fin [0, 1, 6, 7, 19] ?_
 refine W.cond (fun ht19 => ?_) (fun ht19 => ?_)
 ·have hm := lx ht19
  refine Z0 ?_;refine Z65 ?_;exact Z50
 have hm := Vf ht19
 obtain ⟨hsnd, hs2⟩ := pq ht19
 obtain ⟨hp7, hpo⟩ := lv hc h
 refine Hz ?_;refine R.alloc jZ ?_;refine R.fin [0, 1, 6, 8] ?_;refine Z16 ?_;refine R.toBld 0 66 5 ?_;refine Wc ?_;refine R.fin [0, 1, 8, 21, 22, 23] ?_
 refine AW.loopG (α := Nat × List AObj × List Nat) (fun s => ⟨54, A2 0 (A4 c) (A2 1 (By l) (A2 8 (.ptr (oid Hp.length 0) 0) (A2 21 (Fh (Ab c l).1) (A2 22 (A3 ((Ab c l).1.length : Nat)) (A2 23 (A3 (s.1 : Nat)) (fun _ => .any)))))), Hp, (Kg (Bm (Ax c l) (Ab c l).1 s.1) :: s.2.1), s.2.2, none⟩) (fun s => (s.1 ≤ (Ab c l).1.length ∧ (∀ x ∈ s.2.1, ObjLow (Hp.length + (s.2.1.length + 1)) x) ∧ ∀ o ∈ s.2.2, (Hp ++ (Kg (Bm (Ax c l) (Ab c l).1 s.1) :: s.2.1))[o]? = some .defs)) (fun s => (Ab c l).1.length - s.1) ((0, [], [])) ⟨Nat.zero_le _, (fun x hx => (List.not_mem_nil hx).elim), fun o ho => (List.not_mem_nil ho).elim⟩ (StLe.of_eq (by simp [Bm])) rfl (fun s hs => ?_)
 obtain ⟨k, O, Df⟩ := s
 obtain ⟨hk0, hOo, hDo⟩ := hs
 dsimp only at hk0 hOo hDo ⊢
 refine Z57 ?_;refine R.fin [0, 1, 8, 21, 22, 23, 24] ?_
 refine W.condX (fun ht24 => ?_) (fun ht24 => ?_)
 ·have hlt : k < (Ab c l).1.length := by simpa using ht24
  have hso := hpo _ (List.getElem_mem hlt)
  have hon := Vd (t := (Ax c l)) (List.getElem?_eq_getElem hlt)
  have hstl : (Bm (Ax c l) (Ab c l).1 k).length ≤ 8000000000000 := by have := Kf (t := (Ax c l)) hpo k; omega
  refine J9 ?_;refine R.indexAddr (k) (V2 (Ab c l).1[k]) jU jS (A9 hlt) ?_;refine Ek ?_;refine R.alloc (n := O.length + 1) (hn := by simp) (ho := rfl) jZ ?_
  refine R.storeOwn (n := O.length + 1) (ho := batc.trans rfl) (hset := by rw [List.cons_append, pr] <;> simp only [List.set_cons_zero] <;> rfl) jS ?_
  refine R.fin [0, 1, 8, 10, 21, 22, 23] ?_;refine Ba ?_;refine r8 ?_;refine R.call Tryz.call18 (c18 (Ab c l).1[k].kind _) ?_
  refine R.callOwn (n := 0) (x := Kg ((Bm (Ax c l) (Ab c l).1 k) ++ (B5 (Ab c l).1[k].kind))) Tryz.call21 (lw (Bm (Ax c l) (Ab c l).1 k) (B5 (Ab c l).1[k].kind) (by have h1 := hstl; have h2 := Dv ((Ab c l).1[k].kind); have h3 := G4 hso; have h4 := Gj hso; (try simp only [List.length_append, List.length_cons, List.length_nil]); omega) (oid Hp.length 0) _ (by rw [Bu]; rfl)) ?_ (hset := List.set_cons_zero)
  refine R.fin [0, 1, 8, 10, 21, 22, 23] ?_
  refine W.join ⟨54, A2 0 (A4 c) (A2 1 (By l) (A2 8 (.ptr (oid Hp.length 0) 0) (A2 10 (.ptr (oid Hp.length (O.length + 1)) 0) (A2 21 (Fh (Ab c l).1) (A2 22 (A3 ((Ab c l).1.length : Nat)) (A2 23 (A3 (k : Nat)) (fun _ => .any))))))), Hp, (Kg (Bm (Ax c l) (Ab c l).1 k ++ B5 (Ab c l).1[k].kind ++ E2 (Ab c l).1[k].cols) :: (O ++ [.cells 42 [A3 (Ab c l).1[k].kind, A4 (Ab c l).1[k].cols]])), Df, none⟩ ?_ ?_
  ·refine Ba ?_;refine n3 ?_;refine Px ?_;refine R.fin [0, 1, 8, 10, 21, 22, 23, 34] ?_
   refine W.cond (fun ht34 => ?_) (fun ht34 => ?_)
   ·rw [List.length_map] at ht34
    have hcw : E2 (Ab c l).1[k].cols = [32] ++ Cu (Ab c l).1[k].cols := if_pos ht34
    refine Hh ?_;refine n3 ?_;refine R.call Tryz.call22 (c22 (Ab c l).1[k].cols hso _) ?_
    refine R.sadd (hl := by simp only [List.length_cons, List.length_nil]; have := Gj hso; omega) ?_
    refine R.callOwn (n := 0) (x := Kg ((Bm (Ax c l) (Ab c l).1 k ++ B5 (Ab c l).1[k].kind) ++ ([32] ++ Cu (Ab c l).1[k].cols))) Tryz.call21 (lw (Bm (Ax c l) (Ab c l).1 k ++ B5 (Ab c l).1[k].kind) ([32] ++ Cu (Ab c l).1[k].cols) (by have h1 := hstl; have h2 := Dv ((Ab c l).1[k].kind); have h3 := G4 hso; have h4 := Gj hso; (try simp only [List.length_append, List.length_cons, List.length_nil]); omega) (oid Hp.length 0) _ (by rw [Bu]; rfl)) ?_ (hset := List.set_cons_zero)
    refine R.fin [0, 1, 8, 10, 21, 22, 23] ?_;exact rd
   rw [List.length_map] at ht34
   have hcw : E2 (Ab c l).1[k].cols = [] := if_neg (by rw [ht34]; simp)
   refine W.keep [0, 1, 8, 10, 21, 22, 23] ?_;refine AW.skip ?_;exact rd
  refine Ba ?_
  refine R.callOwn (n := 0) (x := Kg ((Bm (Ax c l) (Ab c l).1 k ++ B5 (Ab c l).1[k].kind ++ E2 (Ab c l).1[k].cols) ++ ([10]))) Tryz.call21 (lw (Bm (Ax c l) (Ab c l).1 k ++ B5 (Ab c l).1[k].kind ++ E2 (Ab c l).1[k].cols) ([10]) (by have h1 := hstl; have h2 := Dv ((Ab c l).1[k].kind); have h3 := G4 hso; have h4 := Gj hso; (try simp only [List.length_append, List.length_cons, List.length_nil]); omega) (oid Hp.length 0) _ (by rw [Bu]; rfl)) ?_ (hset := List.set_cons_zero)
  refine R.fin [0, 1, 8, 10, 21, 22, 23] ?_;refine Z16 ?_;refine r8 ?_;refine R.neq ?_;refine R.fin [0, 1, 8, 10, 21, 22, 23, 43] ?_
  refine W.cond (fun ht43 => ?_) (fun ht43 => ?_)
  ·rw [pm ht43] at hon
   refine Z29 ?_;refine K.blE ?_;refine K.thN ?_;refine Z53 ?_;refine R.fin [0, 1, 8, 21, 22, 23] ?_
   refine K.lgN (k + 1, O ++ [AObj.cells 42 [A3 (Ab c l).1[k].kind, A4 (Ab c l).1[k].cols]], Df) ⟨hlt, ?_, ?_⟩ (by dsimp only; omega) (StCut.of_eq ?_) (by simp)
   ·intro x hx
    dsimp only at hx
    rcases List.mem_append.1 hx with hx | hx
    ·exact ObjLow.le (by simp) (hOo x hx)
    rw [List.mem_singleton.1 hx]
    intro y hy
    simp only [List.mem_cons, List.mem_nil_iff, or_false] at hy
    rcases hy with rfl | rfl
    ·exact .v _
    exact Bo
   ·exact fun o ho => Pi (hDo o ho)
   dsimp only
   rw [hon]
   simp only [← List.append_assoc]
   rfl
  rw [po ht43] at hon
  refine Hz ?_
  refine R.assumeLow (fun hlow => ?_)
  refine Z58 ?_;refine n3 ?_;refine R.call Tryz.call23 (c23 c l (Ab c l).1[k].cols _) ?_;refine R.fin [0, 1, 8, 21, 22, 23, 48] ?_;refine AW.block ?_
  refine W.rangeV (m := O.length + 2) (hm := by simp) (ha := rfl) Tryz.call42 (fun FR as' bd' hFR has hbd => ?_)
  have hFRl : ∀ s, Low (Hp.length + (O.length + 4)) (FR s) := by
   intro s
   rw [hFR]
   refine Low.strip ?_
   revert s
   repeat (first | exact Al | refine Ak (by first | exact gw | exact H7 | exact Bo | (simp [oid, or_imp, forall_and, B0]; done) | (simp [oid, or_imp, forall_and] <;> try omega)) ?_)
  have hOl : ∀ {j : Nat} {lp : AObj}, ObjLow (Hp.length + (O.length + 4)) lp → ∀ x ∈ (Kg ((Bm (Ax c l) (Ab c l).1 k ++ B5 (Ab c l).1[k].kind ++ E2 (Ab c l).1[k].cols ++ [10]) ++ Dk (Ax c l) (Ab c l).1[k].cols j) :: (O ++ [AObj.cells 42 [A3 (Ab c l).1[k].kind, A4 (Ab c l).1[k].cols], AObj.defs, lp])), ObjLow (Hp.length + (O.length + 4)) x := by
   intro j lp hlp x hx
   rcases List.mem_cons.1 hx with rfl | hx
   ·trivial
   rcases List.mem_append.1 hx with hx | hx
   ·exact ObjLow.le (by omega) (hOo x hx)
   simp only [List.mem_cons, List.mem_nil_iff, or_false] at hx
   rcases hx with rfl | rfl | rfl
   ·intro y hy
    simp only [List.mem_cons, List.mem_nil_iff, or_false] at hy
    rcases hy with rfl | rfl
    ·exact .v _
    exact Bo
   ·trivial
   exact hlp
  refine ⟨_, ACall.heapEq (by simp only [List.cons_append, List.append_assoc, List.nil_append, Dk, List.append_nil] <;> rfl) (c42 (oid Hp.length (O.length + 3)) c hc hc2 l h (Ab c l).1[k].cols hso (Ax c l) rfl (Pg hc h hsnd).1 (fun e => by rw [hs2 _ (List.getElem_mem hlt) ht43]; exact (Pg hc h hsnd).2 e) (fun j => Hp ++ (Kg ((Bm (Ax c l) (Ab c l).1 k ++ B5 (Ab c l).1[k].kind ++ E2 (Ab c l).1[k].cols ++ [10]) ++ Dk (Ax c l) (Ab c l).1[k].cols j) :: (O ++ [AObj.cells 42 [A3 (Ab c l).1[k].kind, A4 (Ab c l).1[k].cols], AObj.defs, AObj.loop LoopState.ready none FR 54 #[49] as' bd' (oid Hp.length (O.length + 2))]))) (fun j => by simp) (by simp [oid]) (fun j x hx => ?_) (fun q y X hk => ?_)), ?_⟩
  ·have := Gn (fun x hx => ObjLow.le (by omega) (hlow x hx)) (hOl (lp := AObj.loop LoopState.ready none FR 54 #[49] as' bd' (oid Hp.length (O.length + 2))) ⟨hFRl, by simp [oid]⟩) x hx
   simpa using this
  ·generalize hV : Hp ++ (Kg ((Bm (Ax c l) (Ab c l).1 k ++ B5 (Ab c l).1[k].kind ++ E2 (Ab c l).1[k].cols ++ [10]) ++ Dk (Ax c l) (Ab c l).1[k].cols q) :: (O ++ [AObj.cells 42 [A3 (Ab c l).1[k].kind, A4 (Ab c l).1[k].cols], AObj.defs, AObj.loop LoopState.ready none FR 54 #[49] as' bd' (oid Hp.length (O.length + 2))])) ++ X = V
   have hL : V[(oid Hp.length (O.length + 3))]? = some (AObj.loop LoopState.ready none FR 54 #[49] as' bd' (oid Hp.length (O.length + 2))) := by rw [← hV, bn]; rfl
   have hA0 : V[oid Hp.length 0]? = some (Kg ((Bm (Ax c l) (Ab c l).1 k ++ B5 (Ab c l).1[k].kind ++ E2 (Ab c l).1[k].cols ++ [10]) ++ Dk (Ax c l) (Ab c l).1[k].cols q)) := by rw [← hV, bo]
   refine AYield.ofRound (pd := none) (fr := FR) (sz := 54) (ps := #[49]) (df := (oid Hp.length (O.length + 2))) (asg := as') (bd := bd') hL rfl (by decide) (fun d => ?_)
   subst hFR has hbd
   refine W.keep [8, 49] ?_;refine di ?_;refine R.fin [8, 11] ?_
   refine ⟨rfl, none, hL, ?_⟩
   generalize hbz : (AObj.loop LoopState.busy _ _ _ _ _ _ _) = bz
   have hA : (V.set (oid Hp.length (O.length + 3)) bz)[oid Hp.length 0]? = some (Kg ((Bm (Ax c l) (Ab c l).1 k ++ B5 (Ab c l).1[k].kind ++ E2 (Ab c l).1[k].cols ++ [10]) ++ Dk (Ax c l) (Ab c l).1[k].cols q)) := by rw [List.getElem?_set_ne (Cs (by omega))]; exact hA0
   refine AW.block ?_;refine Z7 ?_
   refine R.callUp Tryz.call21 hA (by simp) gu (lw _ (L9 (Ax c l) q y) (by have hyl := Re (t := (Ax c l)) (i := q) (hso.2 y (List.mem_of_getElem? hk)); have hql := M4 (t := (Ax c l)) hso (k := q) (by have := (List.getElem?_eq_some_iff.1 hk).1; omega); have h1 := hstl; have h2 := Dv ((Ab c l).1[k].kind); have h3 := G4 hso; have h4 := Gj hso; (try simp only [List.length_append, List.length_cons, List.length_nil]); omega) (oid Hp.length 0) _ (B9 hA)) ?_
   refine dw ?_
   subst hbz
   refine K.rdN (cr hL (Cs (by omega))) ?_
   refine ⟨rfl, ?_⟩
   subst hV
   simp only [List.append_assoc, List.cons_append, gx, gy, List.nil_append, List.set_cons_succ, List.set_cons_zero]
   rw [Vc hk]
   try simp only [List.append_assoc]
   try rfl
  rintro r H' rfl
  refine ⟨Hp, _, _, _, rfl, rfl, fun h => h, ?_, (bat (i := 2)).trans rfl, by simp, ?_⟩
  ·intro o ho
   rcases List.mem_cons.1 ho with rfl | ho
   ·rw [Ph]
    rfl
   exact Pi (hDo o ho)
  refine K.blN ?_;refine K2 ?_;refine R.fin [0, 1, 8, 21, 22, 23] ?_
  have hlp : ObjLow (Hp.length + (O.length + 4)) (AObj.loop LoopState.exhausted none FR 54 #[49] as' bd' (oid Hp.length (O.length + 2))) := ⟨hFRl, by simp [oid]⟩
  have hOn := hOl (j := (Ab c l).1[k].cols.length) hlp
  refine K.lgN (k + 1, O ++ [AObj.cells 42 [A3 (Ab c l).1[k].kind, A4 (Ab c l).1[k].cols], AObj.defs, AObj.loop LoopState.exhausted none FR 54 #[49] as' bd' (oid Hp.length (O.length + 2))], (oid Hp.length (O.length + 2)) :: Df) ⟨hlt, ?_, ?_⟩ (by dsimp only; omega) (StCut.of_eq ?_) (by simp)
  ·intro x hx
   have := hOn x (List.mem_cons_of_mem _ hx)
   simpa [Nat.add_assoc] using this
  ·intro o ho
   rcases List.mem_cons.1 ho with rfl | ho
   ·dsimp only; rw [Ph]; rfl
   exact Pi (hDo o ho)
  dsimp only
  rw [hon]
  simp only [← List.append_assoc]
  rw [show O.length + 2 + 1 = O.length + (2 + 1) from rfl, pr]
  rfl
 have hke : k = (Ab c l).1.length := by simp at ht24; omega
 subst hke
 refine K.lgE ?_;refine K.thN ?_;refine Ba ?_
 refine R.callOwn (n := 0) (x := .cells 66 [.any, .any]) Tryz.call24 (y7 (Bm (Ax c l) (Ab c l).1 (Ab c l).1.length) (oid Hp.length 0) _ (by rw [Bu]; rfl)) ?_ (hset := List.set_cons_zero)
 refine Z65 ?_;exact K.fin (V.two V.tmp V.tmp) ⟨by rw [hm], rfl⟩

/-- Moves whose numbers are ones of 64 bits. -/
structure RngMv (m : Mov) : Prop where
 ahead : ∀ e ∈ m.ahead, Cm Fu e = true
 back : ∀ e ∈ m.back, Cm Fu e = true
theorem Vg {l : List Expr} (h20 : l.length ≤ 1048576) (h : l.any Oh = false) (hr : ∀ e ∈ l, Cm Fu e = true) : OkEs l := by
 have h1 : ∀ e ∈ l, Slim e := fun e he => kq (by
  rw [List.any_eq_false] at h
  simpa using h e he)
 exact ⟨h20, fun e he => (h1 e he).ok, fun e he => by have := (h1 e he).size; omega, hr⟩
theorem bp {m : Mov} (h : Ge m = false) (hr : RngMv m) : OkMov m := by
 unfold Ge at h
 simp only [Bool.or_eq_false_iff, decide_eq_false_iff_not] at h
 obtain ⟨⟨⟨⟨⟨⟨h1, h2⟩, h3⟩, h4⟩, h5⟩, h6⟩, h7⟩ := h
 have h50 : m.give.length ≤ 1000000 := by
  unfold Hw at h1
  simp only [Bool.or_eq_false_iff, decide_eq_false_iff_not] at h1
  omega
 refine ⟨by omega, fun s hs => ?_, Y5 h1, h50, Vg (by omega) h6 hr.ahead, Vg (by omega) h7 hr.back⟩
 rw [List.any_eq_false] at h5
 have := h5 s hs
 simp only [decide_eq_true_eq] at this
 omega
theorem bq {l : List Mov} (h : F0 l = false) (hr : ∀ m ∈ l, RngMv m) : OkMovs l := by
 unfold F0 at h
 simp only [Bool.or_eq_false_iff, decide_eq_false_iff_not] at h
 refine ⟨by omega, fun m hm => bp ?_ (hr m hm)⟩
 rw [List.any_eq_false] at h
 simpa using h.2 m hm
theorem br {c : List Col} {ms : List Mov} (h : ((C9 c ms).2 != 0) = false) : (C9 c ms).1 ≠ [] ∧ (C9 c ms).1.length ≤ 9 := by
 have hS : ((Aw c ms).2 != 0) = false := by unfold Aw; rw [if_neg (by rw [h]; simp)]; exact h
 have := Lx hS
 unfold Aw at this
 rw [if_neg (by rw [h]; simp)] at this
 exact this
/-! ref21.Over: names that nothing has stand between. -/
def Dm (i : Nat) : Str := [35, UInt8.ofNat (97 + i)]
def Au (c : List Col) (x : Expr) : Nat → Expr
 | 0 => x
 | i + 1 => match c[i]? with | some y => Dx y.name (An (Dm i)) (Au c x i) | none => Au c x i
def Bj (l : List Expr) (x : Expr) : Nat → Expr
 | 0 => x
 | i + 1 => match l[i]? with | some z => Dx (Dm i) z (Bj l x i) | none => Bj l x i
/-- ref21.Over. -/
def Jr (x : Expr) (c : List Col) (l : List Expr) : Expr × Int :=
 if ((!(Aa x)) || !(Cw c)) || ((c.length : Int) != (l.length : Int)) then (A8, 1)
 else if l.any (fun e => !(Aa e)) then (A8, 1)
 else if (B4 x).any (fun t => decide (Af t c < 0)) then (A8, 9)
 else if !(Aa (Bj l (Au c x c.length) c.length)) then (A8, 3)
 else (Bj l (Au c x c.length) c.length, 0)
mutual
def Er (f : Str → Expr) : Expr → Expr
 | .mk o t v k => if o == 2 then f t else .mk o t v (Es f k)
def Es (f : Str → Expr) : List Expr → List Expr
  | [] => []
  | e :: r => Er f e :: Es f r
 end
mutual
theorem Pj (s : Str) (y : Expr) (f : Str → Expr) : ∀ x : Expr, Dx s y (Er f x) = Er (fun t => Dx s y (f t)) x
 | .mk o t v k => by
  rw [Er, Er]
  by_cases h : (o == 2) = true
  ·rw [if_pos h, if_pos h]
  have h1 : (o == 2) = false := by simpa using h
  rw [if_neg h, if_neg h, Dx, h1, if_neg (by simp), Rf s y f k]
theorem Rf (s : Str) (y : Expr) (f : Str → Expr) : ∀ x : List Expr, Q3 s y (Es f x) = Es (fun t => Dx s y (f t)) x
  | [] => rfl
  | e :: r => by rw [Es, Es, Q3, Pj s y f e, Rf s y f r]
 end
theorem Kh (c : List Col) (f : Str → Expr) (x : Expr) : ∀ i, Au c (Er f x) i = Er (fun t => Au c (f t) i) x
 | 0 => rfl
 | i + 1 => by
  rw [Au, Kh c f x i]
  simp only [Au]
  cases c[i]? with
  | none => rfl
  | some y => exact Pj _ _ _ x
theorem Ki (l : List Expr) (f : Str → Expr) (x : Expr) : ∀ i, Bj l (Er f x) i = Er (fun t => Bj l (f t) i) x
 | 0 => rfl
 | i + 1 => by
  rw [Bj, Ki l f x i]
  simp only [Bj]
  cases l[i]? with
  | none => rfl
  | some y => exact Pj _ _ _ x
mutual
theorem Ss : ∀ x : Expr, Cm Bp x = true → Er An x = x
 | .mk o t v k, h => by
  rw [Cp, Bool.and_eq_true] at h
  rw [Er]
  by_cases h2 : (o == 2) = true
  ·rw [if_pos h2]
   obtain ⟨h3, _⟩ := h
   have ho : o = 2 := by simpa using h2
   subst ho
   cases Ey h3
   rfl
  rw [if_neg h2, Vh k h.2]
theorem Vh : ∀ x : List Expr, Fe Bp x = true → Es An x = x
  | [], _ => rfl
  | e :: r, h => by
    rw [Fe, Bool.and_eq_true] at h
    rw [Es, Ss e h.1, Vh r h.2]
 end
mutual
theorem Pk {f g : Str → Expr} : ∀ x : Expr, (∀ t, Em t x = true → f t = g t) → Er f x = Er g x
 | .mk o t v k, h => by
  rw [Er, Er]
  by_cases h2 : (o == 2) = true
  ·rw [if_pos h2, if_pos h2]
   exact h t (by rw [Dd]; show ((o == 2 && t == t) || _) = true; rw [h2]; simp)
  rw [if_neg h2, if_neg h2, Mi k fun t ht => h t (by rw [Dd]; show (_ || Dh t k) = true; rw [ht]; simp)]
theorem Mi {f g : Str → Expr} : ∀ x : List Expr, (∀ t, Dh t x = true → f t = g t) → Es f x = Es g x
  | [], _ => rfl
  | e :: r, h => by
    rw [Es, Es, Pk e fun t ht => h t (by rw [Ck, ht]; rfl), Mi r fun t ht => h t (by rw [Ck, ht]; simp)]
 end
mutual
theorem Rg (c : List Col) (l : List Expr) : ∀ x : Expr, (∀ t, Em t x = true → ¬ (Af t c < 0)) → Dq c l x = some (Er (fun t => l.getD (Af t c).toNat A8) x)
 | .mk o t v k, h => by
  rw [Dq, Er]
  by_cases h2 : (o == 2) = true
  ·rw [if_pos h2, if_pos h2, if_neg (h t (by rw [Dd]; show ((o == 2 && t == t) || _) = true; rw [h2]; simp))]
  rw [if_neg h2, if_neg h2, Pl c l k fun t ht => h t (by rw [Dd]; show (_ || Dh t k) = true; rw [ht]; simp)]
  rfl
theorem Pl (c : List Col) (l : List Expr) : ∀ x : List Expr, (∀ t, Dh t x = true → ¬ (Af t c < 0)) → Fj c l x = some (Es (fun t => l.getD (Af t c).toNat A8) x)
  | [], _ => rfl
  | e :: r, h => by
    rw [Fj, Es, Rg c l e fun t ht => h t (by rw [Ck, ht]; rfl), Pl c l r fun t ht => h t (by rw [Ck, ht]; simp)]
    rfl
 end
mutual
theorem Yp (c : List Col) (l : List Expr) {s : Str} (hs : Af s c < 0) : ∀ x : Expr, Cm Bp x = true → Em s x = true → Dq c l x = none
 | .mk o t v k, hn, h => by
  rw [Dq]
  by_cases h2 : (o == 2) = true
  ·rw [if_pos h2]
   rw [Cp, Bool.and_eq_true] at hn
   obtain ⟨h3, _⟩ := hn
   have ho : o = 2 := by simpa using h2
   subst ho
   cases Ey h3
   rw [Dd] at h
   have : t = s := by
    simp [An, Expr.op, Expr.text, Expr.kids, Dh, D0] at h
    exact h
   rw [if_pos (by rw [this]; exact hs)]
  rw [if_neg h2]
  rw [Cp, Bool.and_eq_true] at hn
  have h1 : (o == 2) = false := by simpa using h2
  rw [Dd] at h
  have h : ((o == 2 && t == s) || Dh s k) = true := h
  rw [h1, Bool.false_and, Bool.false_or] at h
  rw [Vi c l hs k hn.2 h]
  rfl
theorem Vi (c : List Col) (l : List Expr) {s : Str} (hs : Af s c < 0) : ∀ x : List Expr, Fe Bp x = true → Dh s x = true → Fj c l x = none
  | [], _, h => by cases h
  | e :: r, hn, h => by
    rw [Fe, Bool.and_eq_true] at hn
    rw [Ck, Bool.or_eq_true] at h
    rw [Fj]
    rcases h with h | h
    · rw [Yp c l hs e hn.1 h]
    rw [Vi c l hs r hn.2 h]
    cases Dq c l e <;> rfl
 end
mutual
theorem Kj {s : Str} : ∀ x : Expr, Cm Bp x = true → Em s x = true → Dy s = true
 | .mk o t v k, hn, h => by
  rw [Cp, Bool.and_eq_true] at hn
  rw [Dd, Bool.or_eq_true] at h
  rcases h with h | h
  ·obtain ⟨h3, _⟩ := hn
   have h : (o == 2 && t == s) = true := h
   simp only [Bool.and_eq_true, beq_iff_eq] at h
   obtain ⟨rfl, rfl⟩ := h
   cases Ey h3 with
   | name t ht => exact ht
  exact Mj k hn.2 h
theorem Mj {s : Str} : ∀ x : List Expr, Fe Bp x = true → Dh s x = true → Dy s = true
  | [], _, h => by cases h
  | e :: r, hn, h => by
    rw [Fe, Bool.and_eq_true] at hn
    rw [Ck, Bool.or_eq_true] at h
    rcases h with h | h
    · exact Kj e hn.1 h
    exact Mj r hn.2 h
 end
theorem Yq (i : Nat) : Dy (Dm i) = false := by
 have : Dl 35 = false := by decide
 unfold Dm Dy
 simp [this]
theorem gz {i j : Nat} (hi : i < 100) (hj : j < 100) (h : Dm i = Dm j) : i = j := by
 unfold Dm at h
 simp only [List.cons.injEq, and_true, true_and] at h
 have := congrArg UInt8.toNat h
 simp only [UInt8.toNat_ofNat'] at this
 omega
theorem Mk (s : Str) (y : Expr) : Dx s y (An s) = y := ga (by simp [An, Expr.op, Expr.text])
theorem Hr {s t : Str} (y : Expr) (h : t ≠ s) : Dx s y (An t) = An t := by
 rw [An, Dx, if_neg (by simpa using h)]
 rfl
theorem Hs {c : List Col} (hc : Cw c = true) {t : Str} {j : Nat} (hj : Af t c = (j : Int)) (hjc : j < c.length) (ht : (c.getD j ⟨[], 0⟩).name = t) : ∀ i, Au c (An t) i = if i ≤ j then An t else An (Dm j)
 | 0 => by rw [if_pos (Nat.zero_le _)]; rfl
 | i + 1 => by
  obtain ⟨hok, hnd⟩ := Uf hc
  rw [Au]
  have ih := Hs hc hj hjc ht i
  cases hi : c[i]? with
  | none =>
   have : c.length ≤ i := List.getElem?_eq_none_iff.1 hi
   rw [ih]
   show (if i ≤ j then An t else An (Dm j)) = _
   rw [if_neg (by omega), if_neg (by omega)]
  | some y =>
   show Dx y.name _ _ = _
   have hf := Hn hnd hi
   rw [ih]
   by_cases e : i = j
   ·subst e
    have hy : y.name = t := by
     rw [← ht, List.getD_eq_getElem?_getD, hi]
     rfl
    rw [if_pos (Nat.le_refl _), if_neg (by omega), hy]
    exact Mk _ _
   by_cases h : i ≤ j
   ·rw [if_pos h, if_pos (by omega)]
    refine Hr _ fun h2 => ?_
    rw [← h2, hj] at hf
    omega
   rw [if_neg h, if_neg (by omega)]
   refine Hr _ fun h2 => ?_
   have h3 := (hok y (List.mem_of_getElem? hi)).name
   rw [← h2, Ca, Yq] at h3
   cases h3
theorem Kk {l : List Expr} (hl : ∀ e ∈ l, Cm Bp e = true) (h100 : l.length < 100) {j : Nat} (hj : j < l.length) : ∀ i, Bj l (An (Dm j)) i = if i ≤ j then An (Dm j) else l.getD j A8
 | 0 => by rw [if_pos (Nat.zero_le _)]; rfl
 | i + 1 => by
  rw [Bj]
  have ih := Kk hl h100 hj i
  cases hi : l[i]? with
  | none =>
   have : l.length ≤ i := List.getElem?_eq_none_iff.1 hi
   rw [ih]
   show (if i ≤ j then An (Dm j) else l.getD j A8) = _
   rw [if_neg (by omega), if_neg (by omega)]
  | some z =>
   show Dx (Dm i) z _ = _
   have hil := (List.getElem?_eq_some_iff.1 hi).1
   rw [ih]
   by_cases e : i = j
   ·subst e
    rw [if_pos (Nat.le_refl _), if_neg (by omega), Mk, List.getD_eq_getElem?_getD, hi]
    rfl
   by_cases h : i ≤ j
   ·rw [if_pos h, if_pos (by omega)]
    exact Hr _ fun h2 => e (gz (by omega) (by omega) h2.symm)
   rw [if_neg h, if_neg (by omega), List.getD_eq_getElem?_getD, List.getElem?_eq_getElem hj]
   refine Uc _ _ _ ?_
   cases hn : Em (Dm i) l[j] with
   | false => exact hn
   | true =>
    have h3 := Kj l[j] (hl _ (List.getElem_mem hj)) hn
    rw [Yq] at h3
    cases h3
/-- What is put one behind the other, over marks, is put at once. -/
theorem ly {x : Expr} {c : List Col} {l : List Expr} (h12 : c.length < 100) : Cr x c l = Jr x c l := by
 have hany : l.any D7 = l.any (fun e => !(Aa e)) := by
  congr 1
  funext e
  rw [D7, Bx]
 unfold Cr Jr
 rw [Bx, hany, J0]
 by_cases h1 : (((!(Aa x)) || !(Cw c)) || ((c.length : Int) != (l.length : Int))) = true
 ·rw [if_pos h1, if_pos (by simp only [Bool.or_eq_true] at h1 ⊢; rcases h1 with (h | h) | h; exact .inl (.inl (.inl h)); exact .inl (.inr h); exact .inr h)]
 rw [if_neg h1]
 by_cases h2 : (l.any fun e => !(Aa e)) = true
 ·rw [if_pos h2, if_pos (by rw [h2]; simp)]
 rw [if_neg h2, if_neg (by simp only [Bool.or_eq_true] at h1 ⊢; rintro (((h | h) | h) | h); exact h1 (.inl (.inl h)); exact h2 h; exact h1 (.inl (.inr h)); exact h1 (.inr h))]
 simp only [Bool.or_eq_true, not_or, Bool.not_eq_true', Bool.not_eq_false, bne_iff_ne, ne_eq, Classical.not_not] at h1
 obtain ⟨⟨hx, hc⟩, hl⟩ := h1
 have hxn := Dc hx
 have hln : ∀ e ∈ l, Cm Bp e = true := fun e he => Dc (by
  cases h : Aa e with
  | true => rfl
  | false => exact absurd (List.any_eq_true.2 ⟨e, he, by rw [h]; rfl⟩) h2)
 by_cases h3 : ((B4 x).any fun t => decide (Af t c < 0)) = true
 ·rw [if_pos h3]
  obtain ⟨t, ht, hf⟩ := List.any_eq_true.1 h3
  rw [Yp c l (of_decide_eq_true hf) x hxn (by rw [← Ll]; exact List.contains_iff_mem.2 ht)]
 rw [if_neg h3]
 have hfd : ∀ t, Em t x = true → ¬ (Af t c < 0) := fun t ht hf => h3 (List.any_eq_true.2 ⟨t, List.contains_iff_mem.1 (by rw [Ll]; exact ht), decide_eq_true hf⟩)
 rw [Rg c l x hfd]
 have e : Bj l (Au c x c.length) c.length = Er (fun t => l.getD (Af t c).toNat A8) x := by
  have e1 : Au c x c.length = Er (fun t => Au c (An t) c.length) x := by
   conv => lhs; rw [← Ss x hxn]
   exact Kh c An x c.length
  rw [e1, Ki]
  refine Pk x fun t ht => ?_
  obtain ⟨j, hj, hjc⟩ := D6 (hfd t ht)
  obtain ⟨j', y, hy, hyn, hj'⟩ := find_mem.1 (hfd t ht)
  have hjj : j = j' := by omega
  subst hjj
  rw [Hs hc hj hjc (by rw [List.getD_eq_getElem?_getD, hy]; exact hyn), if_neg (by omega), Kk hln (by omega) (by omega), if_neg (by omega), hj]
  rfl
 rw [e]
 show (if Ad _ = true then _ else _) = _
 rw [Bx]
 cases Aa (Er (fun t => l.getD (Af t c).toNat A8) x) <;> rfl
/-! How great the trees of ref21.Over are on the way. -/
mutual
theorem M5 {f : Str → Expr} {S : Nat} (h1 : 1 ≤ S) : ∀ x : Expr, (∀ t, Em t x = true → sizeE (f t) ≤ S) → sizeE (Er f x) ≤ sizeE x * S
 | .mk o t v k, h => by
  rw [Er]
  by_cases h2 : (o == 2) = true
  ·rw [if_pos h2, sizeE]
   have h3 := h t (by rw [Dd]; show ((o == 2 && t == t) || _) = true; rw [h2]; simp)
   have : S ≤ (1 + At k) * S := Nat.le_mul_of_pos_left _ (by omega)
   omega
  rw [if_neg h2, sizeE, sizeE, Nat.add_mul]
  have := Pm h1 k fun t ht => h t (by rw [Dd]; show (_ || Dh t k) = true; rw [ht]; simp)
  omega
theorem Pm {f : Str → Expr} {S : Nat} (h1 : 1 ≤ S) : ∀ x : List Expr, (∀ t, Dh t x = true → sizeE (f t) ≤ S) → At (Es f x) ≤ At x * S
  | [], _ => by simp [Es, At]
  | e :: r, h => by
    rw [Es, At, At, Nat.add_mul]
    have a := M5 h1 e fun t ht => h t (by rw [Ck, ht]; rfl)
    have b := Pm h1 r fun t ht => h t (by rw [Ck, ht]; simp)
    omega
 end
theorem Rh (f : Str → Expr) : ∀ k, Es f k = k.map (Er f)
 | [] => rfl
 | e :: r => by rw [Es, Rh f r]; rfl
theorem Ri {t : Str} {x : Expr} : ∀ {k : List Expr}, x ∈ k → Em t x = true → Dh t k = true
 | a :: r, h, hn => by
  rw [Ck]
  rcases List.mem_cons.1 h with rfl | h
  ·rw [hn]; rfl
  rw [Ri h hn]; simp
theorem Su {f : Str → Expr} {m : Nat} : ∀ (n : Nat) (x : Expr), okE n x → (∀ t, Em t x = true → okE m (f t)) → okE (n + m) (Er f x)
 | 0, x, h, _ => h.elim
 | n + 1, .mk o t v k, h, hf => by
  rw [Er]
  by_cases h2 : (o == 2) = true
  ·rw [if_pos h2]
   exact Il (by omega) (hf t (by rw [Dd]; show ((o == 2 && t == t) || _) = true; rw [h2]; simp))
  rw [if_neg h2, show n + 1 + m = (n + m) + 1 by omega, Rh]
  refine ⟨h.1, by show (k.map (Er f)).length ≤ _; rw [List.length_map]; exact h.2.1, fun z hz => ?_⟩
  have hz' : z ∈ k.map (Er f) := hz
  obtain ⟨y, hy, rfl⟩ := List.mem_map.1 hz'
  exact Su n y (h.2.2 y hy) fun t ht => hf t (by rw [Dd]; show (_ || Dh t k) = true; rw [Ri hy ht]; simp)
theorem Sv {s : Str} (h : s.length ≤ 1048576) : okE 1 (An s) := ⟨h, by simp [An, Expr.kids], fun z hz => by simp [An, Expr.kids] at hz⟩
theorem Rj (s : Str) : sizeE (An s) = 1 := rfl
/-- What ref21.Over stands on behind its checks. -/
structure OverOk (x : Expr) (c : List Col) (l : List Expr) : Prop where
 hx : Aa x = true
 hc : Cw c = true
 hl : c.length = l.length
 top : c.length < 100
 all : ∀ e ∈ l, Aa e = true
 fd : ∀ t, Em t x = true → ¬ (Af t c < 0)
theorem OverOk.m1 {x : Expr} {c : List Col} {l : List Expr} (h : OverOk x c l) (i : Nat) : Au c x i = Er (fun t => Au c (An t) i) x := by
 conv => lhs; rw [← Ss x (Dc h.hx)]
 exact Kh c An x i
theorem OverOk.name {x : Expr} {c : List Col} {l : List Expr} (h : OverOk x c l) {t : Str} (ht : Em t x = true) (i : Nat) : Au c (An t) i = An t ∨ ∃ j, Au c (An t) i = An (Dm j) := by
 obtain ⟨j, hj, hjc⟩ := D6 (h.fd t ht)
 obtain ⟨j', y, hy, hyn, hj'⟩ := find_mem.1 (h.fd t ht)
 have hjj : j = j' := by omega
 subst hjj
 rw [Hs h.hc hj hjc (by rw [List.getD_eq_getElem?_getD, hy]; exact hyn)]
 split
 ·exact .inl rfl
 exact .inr ⟨_, rfl⟩
theorem Pn {t : Str} (h : Dy t = true) : t.length ≤ 16 := by
 cases t with
 | nil => simp
 | cons c r =>
  simp only [Dy, Bool.and_eq_true, decide_eq_true_eq] at h
  exact h.1.1.1
theorem OverOk.marks {x : Expr} {c : List Col} {l : List Expr} (h : OverOk x c l) (i : Nat) : okE 31 (Au c x i) ∧ sizeE (Au c x i) ≤ 300 := by
 have h0 := F4 h.hx
 rw [h.m1 i]
 refine ⟨Su (m := 1) 30 x h0.1 fun t ht => ?_, ?_⟩
 ·rcases h.name ht i with e | ⟨j, e⟩
  ·rw [e]
   exact Sv (by have := Pn (Kj x (Dc h.hx) ht); omega)
  rw [e]
  exact Sv (by simp [Dm])
 have := M5 (f := fun t => Au c (An t) i) (S := 1) (Nat.le_refl _) x fun t ht => by
  rcases h.name ht i with e | ⟨j, e⟩ <;> rw [e] <;> exact Nat.le_refl _
 omega
theorem OverOk.f1 {x : Expr} {c : List Col} {l : List Expr} (h : OverOk x c l) (i : Nat) : Bj l (Au c x c.length) i = Er (fun t => Bj l (Au c (An t) c.length) i) x := by
 rw [h.m1, Ki]
theorem OverOk.fill {x : Expr} {c : List Col} {l : List Expr} (h : OverOk x c l) {t : Str} (ht : Em t x = true) (i : Nat) : (∃ j, Bj l (Au c (An t) c.length) i = An (Dm j)) ∨ Bj l (Au c (An t) c.length) i ∈ l := by
 obtain ⟨j, hj, hjc⟩ := D6 (h.fd t ht)
 obtain ⟨j', y, hy, hyn, hj'⟩ := find_mem.1 (h.fd t ht)
 have hjj : j = j' := by omega
 subst hjj
 have hl := h.hl
 have ht := h.top
 rw [Hs h.hc hj hjc (by rw [List.getD_eq_getElem?_getD, hy]; exact hyn), if_neg (by omega), Kk (fun e he => Dc (h.all e he)) (by omega) (by omega)]
 split
 ·exact .inl ⟨j, rfl⟩
 refine .inr ?_
 rw [List.getD_eq_getElem?_getD, List.getElem?_eq_getElem (by omega)]
 exact List.getElem_mem (by omega)
theorem OverOk.fills {x : Expr} {c : List Col} {l : List Expr} (h : OverOk x c l) (i : Nat) : okE 60 (Bj l (Au c x c.length) i) ∧ sizeE (Bj l (Au c x c.length) i) ≤ 90000 := by
 have h0 := F4 h.hx
 rw [h.f1 i]
 refine ⟨Su (m := 30) 30 x h0.1 fun t ht => ?_, ?_⟩
 ·rcases h.fill ht i with ⟨j, e⟩ | e
  ·rw [e]
   exact Il (by omega) (Sv (by simp [Dm]))
  exact (F4 (h.all _ e)).1
 have := M5 (f := fun t => Bj l (Au c (An t) c.length) i) (S := 300) (by decide) x fun t ht => by
  rcases h.fill ht i with ⟨j, e⟩ | e
  ·rw [e, Rj]; decide
  exact (F4 (h.all _ e)).2
 have h2 : sizeE x * 300 ≤ 300 * 300 := Nat.mul_le_mul_right _ h0.2
 omega
theorem vd (i : Nat) (h : i < 100) : IntKind.u8.wrap (97 + (i : Int)) = ((UInt8.ofNat (97 + i)).toNat : Int) := by
 have e : (UInt8.ofNat (97 + i)).toNat = (97 + i) % 256 := UInt8.toNat_ofNat'
 rw [e]
 simp [IntKind.wrap, IntKind.signed, IntKind.bits]
theorem lz {x : Expr} {c : List Col} {l : List Expr} (h : (((!(Aa x)) || !(Cw c)) || ((c.length : Int) != (l.length : Int))) = true) : Jr x c l = (A8, 1) := if_pos h
theorem m0 {x : Expr} {c : List Col} {l : List Expr} (h : (((!(Aa x)) || !(Cw c)) || ((c.length : Int) != (l.length : Int))) = false) {e : Expr} (he : e ∈ l) (h2 : Aa e = false) : Jr x c l = (A8, 1) := by
 unfold Jr
 rw [if_neg (by rw [h]; simp), if_pos (List.any_eq_true.2 ⟨e, he, by rw [h2]; rfl⟩)]
theorem m3 {x : Expr} {c : List Col} {l : List Expr} (h : (((!(Aa x)) || !(Cw c)) || ((c.length : Int) != (l.length : Int))) = false) (h2 : ∀ (j : Nat) (e : Expr), l[j]? = some e → (!(Aa e)) = false) : l.any (fun e => !(Aa e)) = false ∧ Jr x c l = if (B4 x).any (fun t => decide (Af t c < 0)) then (A8, 9)
 else if !(Aa (Bj l (Au c x c.length) c.length)) then (A8, 3)
 else (Bj l (Au c x c.length) c.length, 0) := by
 have h3 : l.any (fun e => !(Aa e)) = false := by
  rw [List.any_eq_false]
  intro e he
  obtain ⟨j, hj⟩ := List.getElem?_of_mem he
  rw [h2 j e hj]
  simp
 refine ⟨h3, ?_⟩
 unfold Jr
 rw [if_neg (by rw [h]; simp), if_neg (by rw [h3]; simp)]
theorem i6 {x : Expr} {c : List Col} {l : List Expr} (h : (((!(Aa x)) || !(Cw c)) || ((c.length : Int) != (l.length : Int))) = false) (h2 : l.any (fun e => !(Aa e)) = false) (h100 : c.length < 100) (h3 : ∀ (j : Nat) (t : Str), (B4 x)[j]? = some t → decide (Af t c < 0) = false) : OverOk x c l := by
 simp only [Bool.or_eq_false_iff, Bool.not_eq_false', bne_eq_false_iff_eq] at h
 refine ⟨h.1.1, h.1.2, by omega, h100, fun e he => ?_, fun t ht => ?_⟩
 ·rw [List.any_eq_false] at h2
  simpa using h2 e he
 have : t ∈ B4 x := List.contains_iff_mem.1 (by rw [Ll]; exact ht)
 obtain ⟨j, hj⟩ := List.getElem?_of_mem this
 simpa using h3 j t hj
theorem i7 {c : List Col} {x : Expr} {i : Nat} (h : i < c.length) : Au c x (i + 1) = Dx c[i].name (An (Dm i)) (Au c x i) := by rw [Au, List.getElem?_eq_getElem h]
theorem i8 {l : List Expr} {x : Expr} {i : Nat} (h : i < l.length) : Bj l x (i + 1) = Dx (Dm i) l[i] (Bj l x i) := by rw [Bj, List.getElem?_eq_getElem h]
theorem c74 (i : Nat) (h : i < 100) (Hp : List AObj) : AFun Tryz.prog 74 [A3 (i : Nat)] Hp (A7 (Dm i)) := by
 refine ACall.body [.tmp 2] [0] Tryz.func74 Tryz.ntmps74 (fun d => ?_)
 refine Mx ?_;refine R.add64 (h1 := by omega) (h2 := by omega) ?_;refine R.iconv jU jU ?_
 rw [vd i h]
 refine H0 ?_;refine R.bytesStr [UInt8.ofNat (97 + i)] jU jU jU ?_
 refine R.sadd (hl := by simp only [List.length_cons, List.length_nil]; omega) ?_
 exact Zn

theorem c51 (x : Expr) (hok : okE 61 x) (hsz : sizeE x ≤ 1048576) (c : List Col) (hc : OkCols c) (h100 : c.length < 100) (l : List Expr) (hll : l.length ≤ 1048576) (hlo : ∀ e ∈ l, okE 61 e) (hls : ∀ e ∈ l, sizeE e ≤ 1048576) (Hp : List AObj) : AFun Tryz.prog 51 [A5 x, A4 c, Az l] Hp (.tup [A5 (Jr x c l).1, A3 (Jr x c l).2]) := by
 refine ACall.body [.cell 6 60, .tmp 7] [0, 1, 2] Tryz.func51 Tryz.ntmps51 (fun d => ?_)
 refine dy ?_;refine iv ?_;refine R.fin [1, 2, 3, 6] ?_;refine Z16 ?_;refine O0 ?_;refine R.call Tryz.call71 (c71 61 x hok (by decide) hsz _) ?_;refine Py ?_;refine G.call Tryz.call45 (fun hB => c45 c hc _) ?_;refine Np ?_;refine Z14 ?_;refine G.len jU ?_;refine W8 ?_;refine S0 ?_;refine R.fin [1, 2, 3, 6, 27] ?_
 refine W.cond (fun ht27 => ?_) (fun ht27 => ?_)
 ·simp only [List.length_map] at ht27
  have hm := lz ht27
  refine aa ?_;exact Z98
 simp only [List.length_map] at ht27
 refine Kx ?_;refine R.fin [1, 2, 3, 6, 8] ?_
 refine AW.loopC (α := Nat) (fun i => ⟨93, A2 1 (A4 c) (A2 2 (Az l) (A2 3 (.ptr (oid Hp.length 0) 0) (A2 6 (.ptr (oid Hp.length 1) 0) (A2 8 (A3 (i : Nat)) (fun _ => .any))))), Hp, [.cells 60 (Cx x), .cells 60 [A3 0, A7 [], A3 0, A3 0, A7 [], .nil]], [], none⟩) (fun i => i ≤ l.length ∧ ∀ (j : Nat) (y : Expr), j < i → l[j]? = some y → (!(Aa y)) = false) (fun i => l.length - i) (0) ⟨Nat.zero_le _, fun j y h => by omega⟩ (StLe.of_eq (by simp)) rfl (fun i hi => ?_)
 refine Z83 ?_;refine R.fin [1, 2, 3, 6, 8, 32] ?_
 refine W.cond (fun ht32 => ?_) (fun ht32 => ?_)
 ·have hlt : i < l.length := by simpa using ht32
  refine Jc ?_;refine R.indexAddr (i) (A5 l[i]) jU jS (A9 hlt) ?_;refine Ek ?_;refine R.call Tryz.call71 (c71 61 l[i] (hlo _ (List.getElem_mem hlt)) (by decide) (hls _ (List.getElem_mem hlt)) _) ?_;refine R.not ?_;refine R.fin [1, 2, 3, 6, 8, 40] ?_
  refine W.cond (fun ht40 => ?_) (fun ht40 => ?_)
  ·have hm := m0 ht27 (List.getElem_mem hlt) (by simpa using ht40)
   refine aa ?_;exact q8
  refine Z85 ?_;refine R.fin [1, 2, 3, 6, 8] ?_;exact K.lpN (i + 1) ⟨hlt, Aq hlt hi.2 ht40⟩ (by omega) (StCut.of_eq rfl)
 have hxe : l.length ≤ i := by simpa using ht32
 obtain ⟨hany, hm3⟩ := m3 ht27 (fun j y hy => hi.2 j y (by have := (List.getElem?_eq_some_iff.1 hy).1; omega) hy)
 have hnl := bi x
 refine Z47 ?_;refine Z88 ?_;refine R.call Tryz.call72 (c72 x hsz _) ?_;refine Ar ?_;refine R.fin [1, 2, 3, 6, 9] ?_;refine Z52 ?_;refine R.fin [1, 2, 3, 6, 9, 10] ?_
 refine AW.loopC (α := Nat) (fun i => ⟨93, A2 1 (A4 c) (A2 2 (Az l) (A2 3 (.ptr (oid Hp.length 0) 0) (A2 6 (.ptr (oid Hp.length 1) 0) (A2 9 (C2 (B4 x)) (A2 10 (A3 (i : Nat)) (fun _ => .any)))))), Hp, [.cells 60 (Cx x), .cells 60 [A3 0, A7 [], A3 0, A3 0, A7 [], .nil]], [], none⟩) (fun i => i ≤ (B4 x).length ∧ ∀ (j : Nat) (y : Str), j < i → (B4 x)[j]? = some y → decide (Af y c < 0) = false) (fun i => (B4 x).length - i) (0) ⟨Nat.zero_le _, fun j y h => by omega⟩ (StLe.of_eq (by simp)) rfl (fun i hi => ?_)
 refine Z83 ?_;refine R.fin [1, 2, 3, 6, 9, 10, 47] ?_
 refine W.cond (fun ht47 => ?_) (fun ht47 => ?_)
 ·have hlt : i < (B4 x).length := by simpa using ht47
  refine Jc ?_;refine Av ?_;refine R.indexAddr (i) (A7 (B4 x)[i]) jU jS (A9 hlt) ?_;refine Dw ?_;refine R.call Tryz.call50 (c50 c hc (B4 x)[i] _) ?_;refine R.lss ?_;refine R.fin [1, 2, 3, 6, 9, 10, 56] ?_
  refine W.cond (fun ht56 => ?_) (fun ht56 => ?_)
  ·have hm : Jr x c l = (A8, 9) := by rw [hm3, if_pos (List.any_eq_true.2 ⟨_, List.getElem_mem hlt, ht56⟩)]
   refine aa ?_;exact q8
  refine Z85 ?_;refine R.fin [1, 2, 3, 6, 9, 10] ?_;exact K.lpN (i + 1) ⟨hlt, Aq hlt hi.2 ht56⟩ (by omega) (StCut.of_eq rfl)
 have hxe : (B4 x).length ≤ i := by simpa using ht47
 have hn3 : ∀ (j : Nat) (t : Str), (B4 x)[j]? = some t → decide (Af t c < 0) = false := fun j y hy => hi.2 j y (by have := (List.getElem?_eq_some_iff.1 hy).1; omega) hy
 have hov := i6 ht27 hany h100 hn3
 have hm4 := hm3.trans (if_neg (by rw [List.any_eq_true]; rintro ⟨t, ht, hf⟩; obtain ⟨j, hj⟩ := List.getElem?_of_mem ht; rw [hn3 j t hj] at hf; cases hf))
 have hcl := hov.hl
 refine Wg ?_;refine R.fin [1, 2, 3, 6, 11] ?_
 refine AW.loopC (α := Nat) (fun i => ⟨93, A2 1 (A4 c) (A2 2 (Az l) (A2 3 (.ptr (oid Hp.length 0) 0) (A2 6 (.ptr (oid Hp.length 1) 0) (A2 11 (A3 (i : Nat)) (fun _ => .any))))), Hp, [.cells 60 (Cx (Au c x i)), .cells 60 [A3 0, A7 [], A3 0, A3 0, A7 [], .nil]], [], none⟩) (fun i => i ≤ c.length) (fun i => c.length - i) (0) (Nat.zero_le _) (StLe.of_eq (by simp [Au])) rfl (fun i hi => ?_)
 refine Z83 ?_;refine R.fin [1, 2, 3, 6, 11, 61] ?_
 refine W.cond (fun ht61 => ?_) (fun ht61 => ?_)
 ·have hlt : i < c.length := by simpa using ht61
  refine Z46 ?_;refine W.draw0 [0, 0, 0, 6, 14, 30, 0, 64, 192, 511, 1023] 9 Ah (by kernel_rfl) ?_;refine D.loadOwnN jA jS ?_;refine Z54 ?_;refine D.indexAddr (i) (B3 c[i]) jU jS (A9 hlt) ?_;refine Vz ?_;refine D.move ?_;refine D.call Tryz.call74 (c74 i (by omega) _) ?_;refine D.build (places := #[(0, 1), (1, 1), (2, 3), (5, 1)]) jU (fun w => by simp) jZ ?_;refine D.tail ?_;refine R.wk 72 _ (J5 (Dm i)) ?_;refine R.call Tryz.call73 (c73 c[i].name (An (Dm i)) 61 (Au c x i) (Il (by decide) (hov.marks i).1) _) ?_;refine G9 ?_;refine R.fin [1, 2, 3, 6, 11] ?_;refine Z90 ?_;refine R.fin [1, 2, 3, 6, 11] ?_;exact K.lpN (i + 1) hlt (by omega) (StCut.of_eq (by rw [i7 hlt]; rfl))
 have hxe : i = c.length := by simp at ht61; omega
 subst hxe
 refine Wg ?_;refine R.fin [1, 2, 3, 6, 12] ?_
 refine AW.loopC (α := Nat) (fun i => ⟨93, A2 1 (A4 c) (A2 2 (Az l) (A2 3 (.ptr (oid Hp.length 0) 0) (A2 6 (.ptr (oid Hp.length 1) 0) (A2 12 (A3 (i : Nat)) (fun _ => .any))))), Hp, [.cells 60 (Cx (Bj l (Au c x c.length) i)), .cells 60 [A3 0, A7 [], A3 0, A3 0, A7 [], .nil]], [], none⟩) (fun i => i ≤ c.length) (fun i => c.length - i) (0) (Nat.zero_le _) (StLe.of_eq (by simp [Bj])) rfl (fun i hi => ?_)
 refine Z83 ?_;refine R.fin [1, 2, 3, 6, 12, 77] ?_
 refine W.cond (fun ht77 => ?_) (fun ht77 => ?_)
 ·have hlt : i < c.length := by simpa using ht77
  have hle : i < l.length := by omega
  refine Z46 ?_;refine W.draw0 [0, 0, 2, 0, 0, 24, 56, 127, 255] 7 Ah (by kernel_rfl) ?_;refine D.loadOwnN jA jS ?_;refine D.move ?_;refine D.call Tryz.call74 (c74 i (by omega) _) ?_;refine Z54 ?_;refine D.indexAddr (i) (A5 l[i]) jU jS (A9 hle) ?_;refine dd ?_;refine R.call Tryz.call73 (c73 (Dm i) l[i] 61 (Bj l (Au c x c.length) i) (Il (by decide) (hov.fills i).1) _) ?_;refine G9 ?_;refine R.fin [1, 2, 3, 6, 12] ?_;refine Z90 ?_;refine R.fin [1, 2, 3, 6, 12] ?_;exact K.lpN (i + 1) hlt (by omega) (StCut.of_eq (by rw [i8 hle]; rfl))
 have hxe : i = c.length := by simp at ht77; omega
 subst hxe
 refine Z47 ?_;refine Z16 ?_;refine O0 ?_
 refine R.call Tryz.call71 (c71 61 (Bj l (Au c x c.length) c.length) (Il (by decide) (hov.fills c.length).1) (by decide) (by have := (hov.fills c.length).2; omega) _) ?_
 refine R.not ?_;refine R.fin [3, 6, 90] ?_
 refine W.cond (fun ht90 => ?_) (fun ht90 => ?_)
 ·have hm := hm4.trans (if_pos ht90)
  refine aa ?_;exact Z98
 have hm := hm4.trans (if_neg (by rw [ht90]; simp))
 refine Z4 ?_;refine Zt ?_;refine Z68 ?_;exact K.fin (V.two (V.cellN jA jS) V.tmp) ⟨by rw [hm]; show _ = AV.tup [A5 (Bj l (Au c x c.length) c.length), A3 0]; rw [Bg] <;> rfl, rfl⟩ (hlow := by simp [or_imp, forall_and, B0])

theorem M6 {take : List Str} : ∀ {c : List Col} {l : List Expr}, C6 take c l = ((c.zip l).filter fun p => !take.contains p.1.name).map (·.2)
 | [], [] => rfl
 | [], _ :: _ => rfl
 | _ :: _, [] => rfl
 | y :: c, x :: l => by
  rw [C6, List.zip_cons_cons, List.filter_cons]
  cases h : take.contains y.name with
  | true => simp only [Bool.not_true, Bool.false_eq_true, if_false, if_true]; exact M6
  | false => simp only [Bool.not_false, Bool.false_eq_true, if_false, if_true, List.map_cons]; rw [M6]
theorem Rk {take : List Str} : ∀ {c : List Col} {l : List Expr}, c.length = l.length → B6 c take = ((c.zip l).filter fun p => !take.contains p.1.name).map (·.1)
 | [], [], _ => rfl
 | [], _ :: _, h => by simp at h
 | _ :: _, [], h => by simp at h
 | y :: c, x :: l, h => by
  have ih := Rk (take := take) (c := c) (l := l) (by simpa using h)
  unfold B6 at ih ⊢
  rw [List.zip_cons_cons, List.filter_cons, List.filter_cons]
  cases h : take.contains y.name with
  | true => simp only [Bool.not_true, Bool.false_eq_true, if_false]; exact ih
  | false => simp only [Bool.not_false, if_true, List.map_cons]; rw [ih]
theorem bt {take : List Str} {c : List Col} {l : List Expr} (hl : c.length = l.length) (hn : (c.map (·.name)).Nodup) : C6 take c l = (B6 c take).map fun y => l.getD (Af y.name c).toNat A8 := by
 rw [M6, Rk hl, List.map_map]
 refine List.map_congr_left fun p hp => ?_
 obtain ⟨i, hi⟩ := List.getElem?_of_mem (List.mem_filter.1 hp).1
 rw [List.getElem?_zip_eq_some] at hi
 show p.2 = l.getD (Af p.1.name c).toNat A8
 rw [Hn hn hi.1, Int.toNat_natCast, List.getD_eq_getElem?_getD, hi.2]
 rfl
theorem ia {c : List Col} {take : List Str} {y : Col} (h : y ∈ B6 c take) : y ∈ c := by
 unfold B6 at h
 exact (List.mem_filter.1 h).1
theorem ib {c : List Col} (hn : (c.map (·.name)).Nodup) {y : Col} (h : y ∈ c) : ¬ Af y.name c < 0 := by
 obtain ⟨i, hi⟩ := List.getElem?_of_mem h
 rw [Hn hn hi]
 omega
theorem ic {c : List Col} {l0 : List Mov} : ∀ e ∈ Ae c l0 0, sizeE e ≤ 1048576 := by
 intro e he
 obtain ⟨y, _, rfl⟩ := List.mem_map.1 he
 rw [Rj]
 decide
theorem Kl {c : List Col} {t : List Expr} : ∀ (l : List Expr), (Bi c t l).2 = 0 → ∀ e ∈ (Bi c t l).1, Ad e = true
 | [], _, e, h => by cases h
 | x :: r, he, e, h => by
  unfold Bi at he h
  split at he
  ·rename_i h3
   exact absurd he (by simpa using h3)
  rename_i h3
  rw [if_neg h3] at h
  split at he
  ·rename_i h4
   exact absurd he (by simpa using h4)
  rename_i h4
  rw [if_neg h4] at h
  rcases List.mem_cons.1 h with rfl | h
  ·have h5 : (Cr x c t).2 = 0 := by simpa using h3
   unfold Cr at h5 ⊢
   split at h5
   ·exact absurd (show (1 : Int) = 0 from h5) (by decide)
   rename_i h6
   rw [if_neg h6]
   cases hp : Dq c t x with
   | none => rw [hp] at h5; exact absurd (show (9 : Int) = 0 from h5) (by decide)
   | some y =>
    rw [hp] at h5
    simp only at h5 ⊢
    split at h5
    ·rename_i h7
     rw [if_pos h7]; exact h7
    exact absurd (show (3 : Int) = 0 from h5) (by decide)
  exact Kl r (by simpa using h4) e h
theorem bu {c : List Col} {ms : List Mov} {k : Nat} {m : Mov} (hk : ms[k]? = some m) (h : ∀ e ∈ Ae c ms k, sizeE e ≤ 1048576) (he : ((Bi (colsAt c ms k) (Ae c ms k) m.ahead).2 != 0) = false) : ∀ e ∈ Ae c ms (k + 1), sizeE e ≤ 1048576 := by
 intro e h2
 rw [Ae, hk] at h2
 rcases List.mem_append.1 h2 with h2 | h2
 ·exact h e (Fz e h2)
 have h3 := Kl m.ahead (by simpa using he) e h2
 rw [Bx] at h3
 have := (F4 h3).2
 omega
theorem c30 (c : List Col) (hc : OkCols c) (l : List Mov) (h : OkMovs l) (hS : ((Aw c l).2 != 0) = false) (Hp : List AObj) : AFun Tryz.prog 30 [A4 c, By l] Hp (.tup [Az (Ax c l).1, A3 (Ax c l).2]) := by
 refine ACall.body [.tmp 4, .tmp 5] [0, 1] Tryz.func30 Tryz.ntmps30 (fun d => ?_)
 refine No ?_;refine S2 ?_;refine R.fin [0, 1, 6] ?_;refine Z52 ?_;refine R.fin [0, 1, 6, 7] ?_
 refine AW.loopC (α := Nat) (fun x => ⟨108, A2 0 (A4 c) (A2 1 (By l) (A2 6 (.slice true 6 (((c.take x).map fun y => An y.name).map A5)) (A2 7 (A3 (x : Nat)) (fun _ => .any)))), Hp, [], [], none⟩) (fun x => x ≤ c.length) (fun x => c.length - x) (0) (Nat.zero_le _) (StLe.of_eq (by simp)) rfl (fun x hx => ?_)
 refine Z83 ?_;refine R.fin [0, 1, 6, 7, 21] ?_
 refine W.cond (fun ht21 => ?_) (fun ht21 => ?_)
 ·have hlt : x < c.length := by simpa using ht21
  have hcl := hc.1
  refine Z46 ?_;refine Z84 ?_;refine Z58 ?_;refine j6 ?_;refine k7 ?_;refine R.wk 30 _ (J5 c[x].name) ?_;refine H0 ?_
  refine R.append jU Tryz.type60 ?_ ?_ ?_
  ·simp only [List.length_map, List.length_take, List.length_cons, List.length_nil, Tryz.t60]; omega
  ·simp only [List.length_map, List.length_take, List.length_cons, List.length_nil, Tryz.t60]; omega
  refine Fq ?_;refine R.fin [0, 1, 6, 7] ?_;refine Z90 ?_;refine R.fin [0, 1, 6, 7] ?_;refine Nz ?_
  rw [Ef hlt, List.map_append]
  exact StCut.take (own := []) (fun _ => .refl _) (by repeat (first | exact Al | refine Ak (by first | exact Ka | exact Cf | exact F1 | exact Bo | exact H7 | (simp [or_imp, forall_and]; done)) ?_)) (by simp) (by simp)
 have hxe : c.length ≤ x := by simpa using ht21
 have hm := Rd hS
 obtain ⟨hmay, hst, hss⟩ := Ea hS
 obtain ⟨hmv, hl8⟩ := Xf hmay h
 have hrc : B1 c = true := by unfold Gw at hmay; simp only [Bool.and_eq_true] at hmay; exact hmay.1
 refine Z47 ?_;refine Z16 ?_
 rw [List.take_of_length_le hxe]
 refine R.wk 6 _ (.strip true 6 _) ?_;refine Ar ?_;refine R.fin [0, 1, 6, 8] ?_
 refine AW.loopC (α := Nat) (fun k => ⟨108, A2 0 (A4 (colsAt c l k)) (A2 1 (By l) (A2 6 (Az (Ae c l k)) (A2 8 (A3 (k : Nat)) (fun _ => .any)))), Hp, [], [], none⟩) (fun k => k ≤ l.length ∧ Fo c l k ∧ TOk (Ae c l k) ∧ (Ae c l k).length = (colsAt c l k).length ∧ (∀ e ∈ (Ae c l k), sizeE e ≤ 1048576)) (fun k => l.length - k) (0) ⟨Nat.zero_le _, lu, Xn hc, by simp [Ae, Jf, colsAt], ic⟩ (StLe.of_eq rfl) rfl (fun k hk => ?_)
 refine Z83 ?_;refine R.fin [0, 1, 6, 8, 36] ?_
 refine W.cond (fun ht36 => ?_) (fun ht36 => ?_)
 ·have hlt : k < l.length := by simpa using ht36
  have hmk : l[k]? = some l[k] := List.getElem?_eq_getElem hlt
  have hmo := h.each _ (List.getElem_mem hlt)
  obtain ⟨_, hnf, hTo, hTl, hTs⟩ := hk
  have hCo := Fx hc (fun m hm => h.each m hm) k
  have hCr := Hq hrc hst k
  have hC12 := (Ik (by rw [Dz]; exact hCr)).1
  have hCn := (Ik (by rw [Dz]; exact hCr)).2.2
  have hC1 : (colsAt c l k).length < 100 := by omega
  have htn := N5 hst hmk
  have hteq := (Pb htn).1
  have hcnt := (E9 (Lt (J7 hmay _ (List.getElem_mem hlt)))).1
  have hgl := Ee (colsAt c l k) l[k]
  have hal := hmo.ahead.len
  refine Jc ?_;refine Av ?_;refine k8 ?_;refine Ek ?_;refine R.call Tryz.call28 (c28 (colsAt c l k) hCo l[k] (hmv _ (List.getElem_mem hlt)) _) ?_;refine Fc ?_;refine R.fin [0, 1, 6, 8, 9] ?_;refine S2 ?_;refine R.fin [0, 1, 6, 8, 9, 11] ?_;refine Z52 ?_;refine R.fin [0, 1, 6, 8, 9, 11, 12] ?_
  refine AW.loopC (α := Nat) (fun i => ⟨108, A2 0 (A4 (colsAt c l k)) (A2 1 (By l) (A2 6 (Az (Ae c l k)) (A2 8 (A3 (k : Nat)) (A2 9 (A4 (B7 (colsAt c l k) l[k]).1) (A2 11 (.slice true 6 (((l[k].ahead.take i).map (fun e => (Cr e (colsAt c l k) (Ae c l k)).1)).map A5)) (A2 12 (A3 (i : Nat)) (fun _ => .any))))))), Hp, [], [], none⟩) (fun i => i ≤ l[k].ahead.length ∧ ∀ (j : Nat) (y : Expr), j < i → l[k].ahead[j]? = some y → ((Cr y (colsAt c l k) (Ae c l k)).2 != 0) = false) (fun i => l[k].ahead.length - i) (0) ⟨Nat.zero_le _, fun j y h => by omega⟩ (StLe.of_eq (by simp)) rfl (fun i hi => ?_)
  refine Z10 ?_;refine Z58 ?_;refine k8 ?_;refine d8 ?_;refine W1 ?_;refine R.fin [0, 1, 6, 8, 9, 11, 12, 56] ?_
  refine W.cond (fun ht56 => ?_) (fun ht56 => ?_)
  ·have hli : i < l[k].ahead.length := by simpa using ht56
   refine Jc ?_;refine k8 ?_;refine d8 ?_;refine Av ?_;refine R.indexAddr (i) (A5 l[k].ahead[i]) jU jS (A9 hli) ?_;refine Ek ?_;refine Z58 ?_;refine R.call Tryz.call51 (c51 l[k].ahead[i] (hmo.ahead.ok _ (List.getElem_mem hli)) (hmo.ahead.size _ (List.getElem_mem hli)) (colsAt c l k) hCo hC1 (Ae c l k) (by omega) hTo.ok hTs _) ?_
   rw [← ly hC1]
   refine Z60 ?_;refine Z42 ?_;refine Ar ?_;refine R.fin [0, 1, 6, 8, 9, 11, 12, 13, 14] ?_;refine Gs ?_;refine R.fin [0, 1, 6, 8, 9, 11, 12, 13, 14, 74] ?_
   refine W.cond (fun ht74 => ?_) (fun ht74 => ?_)
   ·have hm2 := Sp hmk hnf (by rw [J6 hi.2 (List.getElem?_eq_getElem hli) ht74]; exact ht74)
    rw [J6 hi.2 (List.getElem?_eq_getElem hli) ht74] at hm2
    refine Z40 ?_;refine R.nilTmp 4 6 false ?_;refine Ar ?_;refine Z93 ?_;refine Z61 ?_;refine Z61 ?_;exact ta
   refine We ?_;refine dc ?_
   refine R.append jU Tryz.type60 ?_ ?_ ?_
   ·simp only [List.length_map, List.length_take, List.length_cons, List.length_nil, Tryz.t60]; omega
   ·simp only [List.length_map, List.length_take, List.length_cons, List.length_nil, Tryz.t60]; omega
   refine Fq ?_;refine R.fin [0, 1, 6, 8, 9, 11, 12] ?_;refine Z90 ?_;refine R.fin [0, 1, 6, 8, 9, 11, 12] ?_;refine K.lpN (i + 1) ⟨hli, Aq hli hi.2 ht74⟩ (by omega) ?_
   rw [Ef hli, List.map_append]
   rw [List.map_cons, List.map_nil, Bg]
   simp only [show Tryz.t60.size = 6 from rfl]
   exact StCut.take (own := []) (fun _ => .refl _) (by repeat (first | exact Al | refine Ak (by first | exact Ke | exact Cf | exact F1 | exact Bo | exact H7 | (simp [or_imp, forall_and]; done)) ?_)) (by simp) (by simp)
  have hie : l[k].ahead.length ≤ i := by simpa using ht56
  have hov := M2 fun j y hy => hi.2 j y (by have := (List.getElem?_eq_some_iff.1 hy).1; omega) hy
  have hbn : ((Bi (colsAt c l k) (Ae c l k) l[k].ahead).2 != 0) = false := by rw [hov]; rfl
  rw [List.take_of_length_le hie]
  have hDl := congrArg List.length hteq
  simp only [List.length_append] at hDl
  have hsl0 := Co (colsAt c l k) l[k].take
  refine Z47 ?_;refine S2 ?_;refine R.fin [0, 1, 6, 8, 9, 11, 15] ?_;refine Z52 ?_;refine R.fin [0, 1, 6, 8, 9, 11, 15, 16] ?_
  refine AW.loopC (α := Nat) (fun q => ⟨108, A2 0 (A4 (colsAt c l k)) (A2 1 (By l) (A2 6 (Az (Ae c l k)) (A2 8 (A3 (k : Nat)) (A2 9 (A4 (B7 (colsAt c l k) l[k]).1) (A2 11 (.slice true 6 ((l[k].ahead.map (fun e => (Cr e (colsAt c l k) (Ae c l k)).1)).map A5)) (A2 15 (.slice true 6 ((((B6 (colsAt c l k) l[k].take).take q).map (fun y : Col => (Ae c l k).getD (Af y.name (colsAt c l k)).toNat A8)).map A5)) (A2 16 (A3 (q : Nat)) (fun _ => .any)))))))), Hp, [], [], none⟩) (fun q => q ≤ (B6 (colsAt c l k) l[k].take).length) (fun q => (B6 (colsAt c l k) l[k].take).length - q) (0) (Nat.zero_le _) (StLe.of_eq (by simp)) rfl (fun q hq => ?_)
  refine Z10 ?_;refine Z36 ?_;refine Z36 ?_
  refine R.sub64 (h1 := by simp only [List.length_map]; omega) (h2 := by simp only [List.length_map]; omega) ?_
  refine R.lss ?_;refine R.fin [0, 1, 6, 8, 9, 11, 15, 16, 87] ?_
  refine W.cond (fun ht87 => ?_) (fun ht87 => ?_)
  ·have hql : q < (B6 (colsAt c l k) l[k].take).length := by
    have := congrArg List.length hteq
    simp only [List.length_append] at this
    simp only [List.length_map, decide_eq_true_eq] at ht87
    omega
   have hdq : ((B7 (colsAt c l k) l[k]).1.map B3)[q]? = some (B3 (B6 (colsAt c l k) l[k].take)[q]) := by
    rw [hteq, List.getElem?_map, List.getElem?_append_left hql, List.getElem?_eq_getElem hql]
    rfl
   have hgq := (P2 (c := (colsAt c l k)) (l := (Ae c l k)) (s := (B6 (colsAt c l k) l[k].take)[q].name) hTl.symm (ib hCn (ia (List.getElem_mem hql))))
   obtain ⟨hgq, hgq2, hgq3⟩ := hgq
   have hsl := Co (colsAt c l k) l[k].take
   refine Z46 ?_;refine Z84 ?_;refine Z58 ?_;refine Z58 ?_;refine R.indexAddr (q) (B3 (B6 (colsAt c l k) l[k].take)[q]) jU jS hdq ?_;refine Z79 ?_;refine R.call Tryz.call50 (c50 (colsAt c l k) hCo (B6 (colsAt c l k) l[k].take)[q].name _) ?_;refine R.indexAddr ((Af (B6 (colsAt c l k) l[k].take)[q].name (colsAt c l k)).toNat) (A5 ((fun y : Col => (Ae c l k).getD (Af y.name (colsAt c l k)).toNat A8) (B6 (colsAt c l k) l[k].take)[q])) jU jS hgq ?_;refine j9 ?_
   refine R.append jU Tryz.type60 ?_ ?_ ?_
   ·simp only [List.length_map, List.length_take, List.length_cons, List.length_nil, Tryz.t60]; omega
   ·simp only [List.length_map, List.length_take, List.length_cons, List.length_nil, Tryz.t60]; omega
   refine Fq ?_;refine R.fin [0, 1, 6, 8, 9, 11, 15, 16] ?_;refine Z90 ?_;refine R.fin [0, 1, 6, 8, 9, 11, 15, 16] ?_
   refine K.lpN (q + 1) hql (by omega) (StCut.of_eq ?_)
   rw [Ef hql, List.map_append, List.map_cons, List.map_nil, Bg]
   rfl
  have hqe : (B6 (colsAt c l k) l[k].take).length ≤ q := by
   have := congrArg List.length hteq
   simp only [List.length_append] at this
   simp only [List.length_map, decide_eq_false_iff_not] at ht87
   omega
  rw [List.take_of_length_le hqe, ← bt hTl.symm hCn]
  have hsl := Co (colsAt c l k) l[k].take
  have hstl := Fy (take := l[k].take) hTl.symm
  refine Z47 ?_;refine Ba ?_;refine R.moveT ?_;refine Av ?_
  refine R.append jU Tryz.type60 ?_ ?_ ?_
  ·simp only [List.length_map, List.length_take, List.length_cons, List.length_nil, Tryz.t60]; omega
  ·simp only [List.length_map, List.length_take, List.length_cons, List.length_nil, Tryz.t60]; omega
  refine R.wk 105 _ (.strip true 6 _) ?_;refine Ar ?_;refine R.fin [1, 6, 8, 9] ?_;refine Z7 ?_;refine Ar ?_;refine R.fin [0, 1, 6, 8] ?_;refine Z90 ?_;refine R.fin [0, 1, 6, 8] ?_
  refine K.lpN (k + 1) ⟨hlt, N4 hmk hnf hbn, Sr hmk hmo hTo hbn, Pc hmk (J7 hmay _ (List.getElem_mem hlt)) htn hTl hbn, bu hmk hTs hbn⟩ (by omega) (StCut.of_eq ?_)
  rw [Ve hmk, Eg hmk, hov] <;> rfl
 have hke : k = l.length := by have := hk.1; simp at ht36; omega
 subst hke
 have hm2 := Sq hk.2.1
 refine Ts ?_;exact pz

end Go.SX.Nb
