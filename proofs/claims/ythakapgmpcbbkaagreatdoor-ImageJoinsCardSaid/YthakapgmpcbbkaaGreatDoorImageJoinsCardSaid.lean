/- ImageJoins answers true for whatever it is handed: of any moves, cut in two at any place: a row forth through both parts, one behind the other, is the row forth; back likewise (up to 50 columns and values, 8 moves). -/
import Derived.Test.YthakapgmpcbbkaaGreatDoorImageJoinsCardSaidPart10
set_option linter.all false
namespace Go.Proofs.YthakapgmpcbbkaaGreatDoor
open Go Go.SX Go.SX.Nb Go.ChangeShapes Go.RowKit
set_option maxRecDepth 100000
theorem plain : PlainT Tryz.prog (· ∈ [22, 35, 77, 48, 74, 75, 103, 63, 36, 9, 3, 2]) := ⟨fun t ht => by
 simp only [List.mem_cons, List.mem_nil_iff, or_false] at ht
 rcases ht with rfl | rfl | rfl | rfl | rfl | rfl | rfl | rfl | rfl | rfl | rfl | rfl
 ·exact .inl ⟨by kernel_rfl, .inr (.inr (.inr ⟨_, Tryz.underlying22, by simp, by rw [show Tryz.prog.cellsOf 48 = 2 by kernel_rfl]; decide⟩))⟩
 ·exact .inl ⟨by kernel_rfl, .inr (.inr (.inr ⟨_, Tryz.underlying35, by simp, by rw [show Tryz.prog.cellsOf 77 = 5 by kernel_rfl]; decide⟩))⟩
 ·refine .inr ⟨_, Tryz.underlying77, fun f hf => ?_, kids.struct (of_decide_eq_true (by kernel_rfl)) Tryz.underlying77 |>.2⟩
  simp only [List.mem_cons, List.mem_nil_iff, or_false] at hf
  rcases hf with rfl | rfl | rfl | rfl | rfl <;> simp
 ·refine .inr ⟨_, Tryz.underlying48, fun f hf => ?_, kids.struct (of_decide_eq_true (by kernel_rfl)) Tryz.underlying48 |>.2⟩
  simp only [List.mem_cons, List.mem_nil_iff, or_false] at hf
  rcases hf with rfl | rfl <;> simp
 ·exact .inl ⟨by kernel_rfl, .inr (.inr (.inr ⟨_, Tryz.underlying74, by simp, by rw [show Tryz.prog.cellsOf 9 = 1 by kernel_rfl]; decide⟩))⟩
 ·exact .inl ⟨by kernel_rfl, .inr (.inr (.inr ⟨_, Tryz.underlying75, by simp, by rw [show Tryz.prog.cellsOf 103 = 6 by kernel_rfl]; decide⟩))⟩
 ·refine .inr ⟨_, Tryz.underlying103, fun f hf => ?_, kids.struct (of_decide_eq_true (by kernel_rfl)) Tryz.underlying103 |>.2⟩
  simp only [List.mem_cons, List.mem_nil_iff, or_false] at hf
  rcases hf with rfl | rfl | rfl | rfl <;> simp
 ·refine .inr ⟨_, Tryz.underlying63, fun f hf => ?_, kids.struct (of_decide_eq_true (by kernel_rfl)) Tryz.underlying63 |>.2⟩
  simp only [List.mem_cons, List.mem_nil_iff, or_false] at hf
  rcases hf with rfl | rfl | rfl <;> simp
 ·exact .inl ⟨by kernel_rfl, .inr (.inr (.inr ⟨_, Tryz.underlying36, by simp, by rw [show Tryz.prog.cellsOf 63 = 3 by kernel_rfl]; decide⟩))⟩
 ·exact .inl ⟨by kernel_rfl, .inr (.inr (.inl Tryz.underlying9))⟩
 ·exact .inl ⟨by kernel_rfl, .inl ⟨_, Tryz.underlying3⟩⟩
 exact .inl ⟨by kernel_rfl, .inl ⟨_, Tryz.underlying2⟩⟩⟩
theorem vg {H : Type} [ErrAt] (d : DataW H) (y : AV) (h : DRep Tryz.prog 48 d y) : ∃ c : Col, y = B0 c := by
 obtain ⟨ys, hn, rfl, hh⟩ := h.struct' an Tryz.underlying48
 match ys, hn with
 | [y0, y1], _ =>
  obtain ⟨d0, b0, h0⟩ := hh 0 _ y0 rfl rfl
  obtain ⟨d1, b1, h1⟩ := hh 1 _ y1 rfl rfl
  obtain ⟨s, rfl, rfl⟩ := h0.str' Tryz.underlying9
  obtain ⟨k, rfl, rfl, _⟩ := h1.int' Tryz.underlying3
  exact ⟨⟨s, k⟩, rfl⟩
theorem Yo {H : Type} [ErrAt] (d : DataW H) (y : AV) (h : DRep Tryz.prog 22 d y) : ∃ c : List Col, y = Ac c := by
 obtain ⟨l, rfl, _⟩ := h.slice' an B0 (fun _ => True) Tryz.underlying22 (Nat.le_refl _) (fun d y _ hr => (vg d y hr).imp fun c h => ⟨h, trivial⟩)
 exact ⟨l, by rw [show Tryz.prog.cellsOf 48 = 2 by kernel_rfl]⟩
theorem rg {H : Type} [ErrAt] (d : DataW H) (y : AV) (h : DRep Tryz.prog 74 d y) : ∃ l : List Str, y = Fe l := by
 obtain ⟨l, rfl, _⟩ := h.slice' an A9 (fun _ => True) Tryz.underlying74 (Nat.le_refl _) (fun d y _ hr => by
  obtain ⟨s, rfl, rfl⟩ := hr.str' Tryz.underlying9
  exact ⟨s, rfl, trivial⟩)
 exact ⟨l, by rw [show Tryz.prog.cellsOf 9 = 1 by kernel_rfl]⟩
theorem Uh {H : Type} [ErrAt] (d : DataW H) (y : AV) (h : DRep Tryz.prog 75 d y) : ∃ l : List Nb.Expr, y = I9 l ∧ ∀ e ∈ l, Bn Do e = true := by
 obtain ⟨l, rfl, hl⟩ := (nn h).2 rfl
 exact ⟨l, rfl, (Dn _ _).1 hl⟩
theorem vh {H : Type} [ErrAt] (d : DataW H) (y : AV) (h : DRep Tryz.prog 77 d y) : ∃ m : Mov, y = E6 m ∧ RngMv m := by
 obtain ⟨ys, hn, rfl, hh⟩ := h.struct' an Tryz.underlying77
 match ys, hn with
 | [y0, y1, y2, y3, y4], _ =>
  obtain ⟨d0, b0, h0⟩ := hh 0 _ y0 rfl rfl
  obtain ⟨d1, b1, h1⟩ := hh 1 _ y1 rfl rfl
  obtain ⟨d2, b2, h2⟩ := hh 2 _ y2 rfl rfl
  obtain ⟨d3, b3, h3⟩ := hh 3 _ y3 rfl rfl
  obtain ⟨d4, b4, h4⟩ := hh 4 _ y4 rfl rfl
  obtain ⟨k, rfl, rfl, _⟩ := h0.int' Tryz.underlying3
  obtain ⟨t, rfl⟩ := rg d1 y1 h1
  obtain ⟨g, rfl⟩ := Yo d2 y2 h2
  obtain ⟨a, rfl, ha⟩ := Uh d3 y3 h3
  obtain ⟨b, rfl, hb⟩ := Uh d4 y4 h4
  exact ⟨⟨k, t, g, a, b⟩, rfl, ⟨ha, hb⟩⟩
theorem rh {H : Type} [ErrAt] (d : DataW H) (y : AV) (h : DRep Tryz.prog 35 d y) : ∃ l : List Mov, y = D8 l ∧ ∀ m ∈ l, RngMv m := by
 obtain ⟨l, rfl, hl⟩ := h.slice' an E6 RngMv Tryz.underlying35 (Nat.le_refl _) (fun d y _ hr => vh d y hr)
 exact ⟨l, by rw [show Tryz.prog.cellsOf 77 = 5 by kernel_rfl], hl.2⟩
theorem l6 {H : Type} [ErrAt] (d : DataW H) (y : AV) (h : DRep Tryz.prog 36 d y) : ∃ l : List Val, y = B1 l ∧ ∀ v ∈ l, -9223372036854775808 ≤ v.n ∧ v.n ≤ 9223372036854775807 := by
 obtain ⟨l, rfl, hl⟩ := h.slice' an Am (fun v => -9223372036854775808 ≤ v.n ∧ v.n ≤ 9223372036854775807) Tryz.underlying36 (Nat.le_refl _) (fun d y _ hr => (cp d y hr).imp fun c h => ⟨h.1, h.2⟩)
 exact ⟨l, by rw [show Tryz.prog.cellsOf 63 = 3 by kernel_rfl], hl.2⟩
theorem main {H : Type} [ErrAt] (ds : List (DataW H)) (ys : List AV) (h : DReps Tryz.prog Tryz.f4.params.toList ds ys) : AFun Tryz.prog 4 ys [] (At true) := by
 rw [Tryz.params4] at h
 obtain ⟨d0, ds, y0, ys, rfl, rfl, h0, h⟩ := h.cons'
 obtain ⟨d1, ds, y1, ys, rfl, rfl, h1, h⟩ := h.cons'
 obtain ⟨d2, ds, y2, ys, rfl, rfl, h2, h⟩ := h.cons'
 obtain ⟨d3, ds, y3, ys, rfl, rfl, h3, h⟩ := h.cons'
 obtain ⟨rfl, rfl⟩ := h.nil'
 obtain ⟨c, rfl⟩ := Yo d0 y0 h0
 obtain ⟨l, rfl, hl⟩ := rh d1 y1 h1
 obtain ⟨r, rfl, hr⟩ := l6 d2 y2 h2
 obtain ⟨n, rfl, rfl, _⟩ := h3.int' Tryz.underlying3
 exact c4 c l hl r hr n []
theorem ri (os : Os) : laidMet Tryz.prog Rows.imageJoinsRow.laid ((World.laidAll Tryz.prog os Rows.imageJoinsRow.laid).forCall (fun _ _ => 0) ⟨#[], #[.slice none 0 0, .slice none 0 0, .slice none 0 0, .int .i64 0], []⟩).memory :=
 laidMet_laidAll _ (by kernel_rfl) (by kernel_rfl)
theorem ABs (os : Os) {H : Type} (enc : TypeId × Value → H) : DataW.whole enc Tryz.prog ((World.laidAll Tryz.prog os Rows.imageJoinsRow.laid).forCall (fun _ _ => 0) ⟨#[], #[.slice none 0 0, .slice none 0 0, .slice none 0 0, .int .i64 0], []⟩).memory Tryz.f4.params.toList Rows.imageJoinsSpec.vars false
  #[.slice none 0 0, .slice none 0 0, .slice none 0 0, .int .i64 0].toList 8 = some ([.nil, .nil, .nil, .lit (.int .i64 0)], [], []) := by kernel_rfl
theorem vi (os : Os) {H : Type} (enc : TypeId × Value → H) : ∃ (w : World) (tape : Tape) (i : Input), w.os = os ∧ (w.forCall tape i).Shaped Tryz.prog ∧ i.vars = [] ∧ Input.okWide Tryz.prog (w.forCall tape i) .any w.heap.size 4 i ∧
   (OpenSpec.ofChange Rows.imageJoinsSpec).preRow enc Tryz.prog Tryz.f4 Rows.imageJoinsRow.domain false Rows.imageJoinsRow.laid (w.forCall tape i).memory i.args ∧ ({ modest := false } : Assume).holds Tryz.prog (lone (Frame.enter Tryz.prog 4 i.args .normal) [] (w.forCall tape i)) := by
 refine ⟨World.laidAll Tryz.prog os Rows.imageJoinsRow.laid, fun _ _ => 0, ⟨#[], #[.slice none 0 0, .slice none 0 0, .slice none 0 0, .int .i64 0], []⟩, World.laidAll_os _ _ _, World.shaped_of_ZipB (by kernel_rfl) (by kernel_rfl), rfl, (Input.okWide_of_okWideB (by kernel_rfl)).2,
  OpenSpec.preRow_of_cond 8 (ABs os enc) (by kernel_rfl) (fun k hk => by cases hk) (by kernel_rfl) ?_, ?_⟩
 ·rw [MakeChecks.laidMetH_plain _ _ _ (by kernel_rfl)]
  exact ri os
 simp only [Assume.holds]
 exact ⟨by simp, by simp, fun h => (by cases h), by simp, by simp⟩
theorem yy (os : Os) (started : os.Started) (H : Type) (enc : TypeId × Value → H) (F : Stop.Interp) :
  ReturnsInHanded {} Tryz.checked os 4 .any ((OpenSpec.ofChange Rows.imageJoinsSpec).preRow enc Tryz.prog Tryz.f4 Rows.imageJoinsRow.domain false Rows.imageJoinsRow.laid) (((OpenSpec.ofChange Rows.imageJoinsSpec).at F).post enc Tryz.prog Tryz.f4 false true false false) := by
 refine returnsInHanded_of_row (C := Tryz.checked) (s := (OpenSpec.ofChange Rows.imageJoinsSpec)) own started (by kernel_rfl) Tryz.func4 (vi os enc) ?_
 intro W base args ds gs before hval hW _ hcond _ hL hsh _
 rw [MakeChecks.laidMetH_plain _ _ _ (by kernel_rfl)] at hL
 obtain ⟨b, hbv⟩ := so hL
 letI E : ErrAt := { b := b }
 have hgs : gs = [] := by
  obtain ⟨p, q, _, hV, _⟩ := hW
  exact (trodVars_none hV).1
 subst hgs
 refine ip (fn := Tryz.f4) (tb := 4) kids full plain (fun t ht => ?_) Tryz.underlying4 (by kernel_rfl) rfl (fun ds hd => ?_) hval hW (glob hsh hL hbv) (fun ys hy => main ds ys hy)
 ·rw [Tryz.params4] at ht
  refine ⟨?_, ?_⟩
  ·have : ∀ t ∈ [22, 35, 36, 3], t ∈ [22, 35, 77, 48, 74, 75, 103, 63, 36, 9, 3, 2] := by decide
   exact this t ht
  have : ([22, 35, 36, 3].all fun t => decide (t < Tryz.prog.types.size)) = true := by kernel_rfl
  exact of_decide_eq_true (List.all_eq_true.1 this t ht)
 have e : Tryz.f4.params.size = 4 := by rw [Tryz.params4]; rfl
 rw [e] at hd
 match ds, hd with
 | [_, _, _, _], _ => rfl
theorem l7 : Tryz.pinned.checked.prog.funcNamed Rows.imageJoinsRow.func = some 4 := by kernel_rfl
theorem c6 : joinedFacts Tryz.pinned.checked.prog 4 Tryz.f4 (OpenSpec.ofChange Rows.imageJoinsSpec).bare Rows.imageJoinsRow = true := by kernel_rfl
theorem l8 : Tryz.f4.isInstance Tryz.pinned.checked.prog Rows.imageJoinsRow.origin Rows.imageJoinsRow.targs := of_decide_eq_true (by kernel_rfl)
theorem l9 : Tryz.f4.isWrapper Tryz.pinned.checked.prog Rows.imageJoinsRow.wrapper Rows.imageJoinsRow.mainSum := by
 unfold Func.isWrapper
 first | (rw [if_pos (by decide +kernel)]; kernel_rfl) | (rw [if_neg (by decide +kernel)]; exact ⟨rfl, rfl⟩)
theorem AE3 : Rows.ImageJoinsSaid :=
 OpenClaim.holds_of_cond 4 Tryz.f4 rfl rfl rfl rfl rfl rfl rfl ⟨rfl, rfl, rfl, rfl, rfl⟩ rfl rfl rfl rfl rfl l7 Tryz.func4 c6
  l8 l9
  (fun os started H enc _ F => by rw [OpenClaim.pre_eq_preRow]; exact yy os started H enc F)
theorem vj (f : FuncId) (fn : Func) (hf : Tryz.pinned.checked.prog.funcNamed "needlebeam/needlebeamlaw20.ImageJoins" = some f) (hfn : Tryz.pinned.checked.prog.funcs[f]? = some fn) :
  true = Tryz.pinned.checked.prog.looks [] ∧ ∀ (j : Nat) t, fn.params[j]? = some t → Tryz.pinned.checked.prog.wantsStandIn t = false := by
 obtain rfl : f = 4 := Option.some.inj ((show Tryz.prog.funcNamed "needlebeam/needlebeamlaw20.ImageJoins" = some 4 by kernel_rfl).symm.trans hf) |>.symm
 obtain rfl : fn = Tryz.f4 := (Option.some.inj (Tryz.func4.symm.trans hfn)).symm
 refine ⟨by kernel_rfl, fun j t ht => ?_⟩
 rw [Tryz.params4] at ht
 have hm : t ∈ [22, 35, 36, 3] := by simpa using Array.mem_of_getElem? ht
 have hall : ([22, 35, 36, 3].all fun u => !Tryz.prog.wantsStandIn u) = true := by kernel_rfl
 exact (show Tryz.prog.wantsStandIn t = false by simpa using List.all_eq_true.1 hall t hm)
theorem image_joins_card : Rows.ImageJoinsCardSaid :=
 Claim7.holds_tied_plain_at .later [] _ _ _ _ AE3 (fun _ h => by cases h) (by kernel_rfl) (fun _ h => by cases h) imageJoins_row_tie rfl ⟨rfl, rfl⟩ (by kernel_rfl) rfl vj (by kernel_rfl)
end Go.Proofs.YthakapgmpcbbkaaGreatDoor
