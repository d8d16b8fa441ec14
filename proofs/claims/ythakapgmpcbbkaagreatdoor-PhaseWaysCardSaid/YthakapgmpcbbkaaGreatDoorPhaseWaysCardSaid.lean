/- PhaseWays answers true for whatever it is handed: of any columns, any migration and any events: behind a cut it only comes to the new version; behind an abort, or a failure, only to where it was, with the cause that it had; keys only rise in each phase (up to 100 events, 50 columns, 4000 bytes). -/
import Derived.Test.YthakapgmpcbbkaaGreatDoorPhaseWaysCardSaidPart11
set_option linter.all false
namespace Go.Proofs.YthakapgmpcbbkaaGreatDoor
open Go Go.SX Go.SX.Nb Go.ChangeShapes Go.RowKit
set_option maxRecDepth 100000
theorem plain : PlainT Tryz.prog (· ∈ [22, 48, 23, 32, 9, 3, 2, 26]) := ⟨fun t ht => by
 simp only [List.mem_cons, List.mem_nil_iff, or_false] at ht
 rcases ht with rfl | rfl | rfl | rfl | rfl | rfl | rfl | rfl
 ·exact .inl ⟨by kernel_rfl, .inr (.inr (.inr ⟨_, Tryz.underlying22, by simp, by rw [show Tryz.prog.cellsOf 48 = 2 by kernel_rfl]; decide⟩))⟩
 ·refine .inr ⟨_, Tryz.underlying48, fun f hf => ?_, kids.struct (of_decide_eq_true (by kernel_rfl)) Tryz.underlying48 |>.2⟩
  simp only [List.mem_cons, List.mem_nil_iff, or_false] at hf
  rcases hf with rfl | rfl <;> simp
 ·exact .inl ⟨by kernel_rfl, .inr (.inr (.inr ⟨_, Tryz.underlying23, by simp, by rw [show Tryz.prog.cellsOf 32 = 4 by kernel_rfl]; decide⟩))⟩
 ·refine .inr ⟨_, Tryz.underlying32, fun f hf => ?_, kids.struct (of_decide_eq_true (by kernel_rfl)) Tryz.underlying32 |>.2⟩
  simp only [List.mem_cons, List.mem_nil_iff, or_false] at hf
  rcases hf with rfl | rfl | rfl | rfl <;> simp
 ·exact .inl ⟨by kernel_rfl, .inr (.inr (.inl Tryz.underlying9))⟩
 ·exact .inl ⟨by kernel_rfl, .inl ⟨_, Tryz.underlying3⟩⟩
 ·exact .inl ⟨by kernel_rfl, .inl ⟨_, Tryz.underlying2⟩⟩
 exact .inl ⟨by kernel_rfl, .inl ⟨_, Tryz.underlying26⟩⟩⟩
theorem y8 {H : Type} [ErrAt] (d : DataW H) (y : AV) (h : DRep Tryz.prog 48 d y) : ∃ c : Col, y = Ax c := by
 obtain ⟨ys, hn, rfl, hh⟩ := h.struct' vi Tryz.underlying48
 match ys, hn with
 | [y0, y1], _ =>
  obtain ⟨d0, b0, h0⟩ := hh 0 _ y0 rfl rfl
  obtain ⟨d1, b1, h1⟩ := hh 1 _ y1 rfl rfl
  obtain ⟨s, rfl, rfl⟩ := h0.str' Tryz.underlying9
  obtain ⟨k, rfl, rfl, _⟩ := h1.int' Tryz.underlying3
  exact ⟨⟨s, k⟩, rfl⟩
theorem tq {H : Type} [ErrAt] (d : DataW H) (y : AV) (h : DRep Tryz.prog 22 d y) : ∃ c : List Col, y = Ae c := by
 obtain ⟨l, rfl, _⟩ := h.slice' vi Ax (fun _ => True) Tryz.underlying22 (Nat.le_refl _) (fun d y _ hr => (y8 d y hr).imp fun c h => ⟨h, trivial⟩)
 exact ⟨l, by rw [show Tryz.prog.cellsOf 48 = 2 by kernel_rfl]⟩
theorem y9 {H : Type} [ErrAt] (d : DataW H) (y : AV) (h : DRep Tryz.prog 32 d y) : ∃ e : Evt, y = Wo e := by
 obtain ⟨ys, hn, rfl, hh⟩ := h.struct' vi Tryz.underlying32
 match ys, hn with
 | [y0, y1, y2, y3], _ =>
  obtain ⟨d0, b0, h0⟩ := hh 0 _ y0 rfl rfl
  obtain ⟨d1, b1, h1⟩ := hh 1 _ y1 rfl rfl
  obtain ⟨d2, b2, h2⟩ := hh 2 _ y2 rfl rfl
  obtain ⟨d3, b3, h3⟩ := hh 3 _ y3 rfl rfl
  obtain ⟨k, rfl, rfl, _⟩ := h0.int' Tryz.underlying3
  obtain ⟨s, rfl, rfl⟩ := h1.str' Tryz.underlying9
  obtain ⟨n, rfl, rfl, _⟩ := h2.int' Tryz.underlying2
  obtain ⟨e, rfl, rfl, _⟩ := h3.int' Tryz.underlying26
  exact ⟨⟨k, s, n, e⟩, rfl⟩
theorem tr {H : Type} [ErrAt] (d : DataW H) (y : AV) (h : DRep Tryz.prog 23 d y) : ∃ l : List Evt, y = .slice false 4 (l.map Wo) := by
 obtain ⟨l, rfl, _⟩ := h.slice' vi Wo (fun _ => True) Tryz.underlying23 (Nat.le_refl _) (fun d y _ hr => (y9 d y hr).imp fun c h => ⟨h, trivial⟩)
 exact ⟨l, by rw [show Tryz.prog.cellsOf 32 = 4 by kernel_rfl]⟩
theorem main {H : Type} [ErrAt] (ds : List (DataW H)) (ys : List AV) (h : DReps Tryz.prog Tryz.f3.params.toList ds ys) : AFun Tryz.prog 3 ys [] (Ao true) := by
 rw [Tryz.params3] at h
 obtain ⟨d0, ds, y0, ys, rfl, rfl, h0, h⟩ := h.cons'
 obtain ⟨d1, ds, y1, ys, rfl, rfl, h1, h⟩ := h.cons'
 obtain ⟨d2, ds, y2, ys, rfl, rfl, h2, h⟩ := h.cons'
 obtain ⟨rfl, rfl⟩ := h.nil'
 obtain ⟨c, rfl⟩ := tq d0 y0 h0
 obtain ⟨s, rfl, rfl⟩ := h1.str' Tryz.underlying9
 obtain ⟨l, rfl⟩ := tr d2 y2 h2
 exact c3 c s l []
theorem tt (os : Os) : laidMet Tryz.prog Rows.phaseWaysRow.laid ((World.laidAll Tryz.prog os Rows.phaseWaysRow.laid).forCall (fun _ _ => 0) ⟨#[], #[.slice none 0 0, .string ⟨#[]⟩, .slice none 0 0], []⟩).memory :=
 laidMet_laidAll _ (by kernel_rfl) (by kernel_rfl)
theorem ADg (os : Os) {H : Type} (enc : TypeId × Value → H) : DataW.whole enc Tryz.prog ((World.laidAll Tryz.prog os Rows.phaseWaysRow.laid).forCall (fun _ _ => 0) ⟨#[], #[.slice none 0 0, .string ⟨#[]⟩, .slice none 0 0], []⟩).memory Tryz.f3.params.toList Rows.phaseWaysSpec.vars false
  #[.slice none 0 0, .string ⟨#[]⟩, .slice none 0 0].toList 8 = some ([.nil, .lit (.string []), .nil], [], []) := by kernel_rfl
theorem yb (os : Os) {H : Type} (enc : TypeId × Value → H) : ∃ (w : World) (tape : Tape) (i : Input), w.os = os ∧ (w.forCall tape i).Shaped Tryz.prog ∧ i.vars = [] ∧ Input.okWide Tryz.prog (w.forCall tape i) .any w.heap.size 3 i ∧
   (OpenSpec.ofChange Rows.phaseWaysSpec).preRow enc Tryz.prog Tryz.f3 Rows.phaseWaysRow.domain false Rows.phaseWaysRow.laid (w.forCall tape i).memory i.args ∧ ({ modest := false } : Assume).holds Tryz.prog (lone (Frame.enter Tryz.prog 3 i.args .normal) [] (w.forCall tape i)) := by
 refine ⟨World.laidAll Tryz.prog os Rows.phaseWaysRow.laid, fun _ _ => 0, ⟨#[], #[.slice none 0 0, .string ⟨#[]⟩, .slice none 0 0], []⟩, World.laidAll_os _ _ _, World.shaped_of_ZipB (by kernel_rfl) (by kernel_rfl), rfl, (Input.okWide_of_okWideB (by kernel_rfl)).2,
  OpenSpec.preRow_of_cond 8 (ADg os enc) (by kernel_rfl) (fun k hk => by cases hk) (by kernel_rfl) ?_, ?_⟩
 ·rw [MakeChecks.laidMetH_plain _ _ _ (by kernel_rfl)]
  exact tt os
 simp only [Assume.holds]
 exact ⟨by simp, by simp, fun h => (by cases h), by simp, by simp⟩
theorem AB1 (os : Os) (started : os.Started) (H : Type) (enc : TypeId × Value → H) (F : Stop.Interp) :
  ReturnsInHanded {} Tryz.checked os 3 .any ((OpenSpec.ofChange Rows.phaseWaysSpec).preRow enc Tryz.prog Tryz.f3 Rows.phaseWaysRow.domain false Rows.phaseWaysRow.laid) (((OpenSpec.ofChange Rows.phaseWaysSpec).at F).post enc Tryz.prog Tryz.f3 false true false false) := by
 refine returnsInHanded_of_row (C := Tryz.checked) (s := (OpenSpec.ofChange Rows.phaseWaysSpec)) own started (by kernel_rfl) Tryz.func3 (yb os enc) ?_
 intro W base args ds gs before hval hW _ hcond _ hL hsh _
 rw [MakeChecks.laidMetH_plain _ _ _ (by kernel_rfl)] at hL
 obtain ⟨b, hbv⟩ := vj hL
 letI E : ErrAt := { b := b }
 have hgs : gs = [] := by
  obtain ⟨p, q, _, hV, _⟩ := hW
  exact (trodVars_none hV).1
 subst hgs
 refine jv (fn := Tryz.f3) (tb := 4) kids full plain (fun t ht => ?_) Tryz.underlying4 (by kernel_rfl) rfl (fun ds hd => ?_) hval hW (glob hsh hL hbv) (fun ys hy => main ds ys hy)
 ·rw [Tryz.params3] at ht
  refine ⟨?_, ?_⟩
  ·have : ∀ t ∈ [22, 9, 23], t ∈ [22, 48, 23, 32, 9, 3, 2, 26] := by decide
   exact this t ht
  have : ([22, 9, 23].all fun t => decide (t < Tryz.prog.types.size)) = true := by kernel_rfl
  exact of_decide_eq_true (List.all_eq_true.1 this t ht)
 have e : Tryz.f3.params.size = 3 := by rw [Tryz.params3]; rfl
 rw [e] at hd
 match ds, hd with
 | [_, _, _], _ => rfl
theorem mj : Tryz.pinned.checked.prog.funcNamed Rows.phaseWaysRow.func = some 3 := by kernel_rfl
theorem ec : joinedFacts Tryz.pinned.checked.prog 3 Tryz.f3 (OpenSpec.ofChange Rows.phaseWaysSpec).bare Rows.phaseWaysRow = true := by kernel_rfl
theorem ml : Tryz.f3.isInstance Tryz.pinned.checked.prog Rows.phaseWaysRow.origin Rows.phaseWaysRow.targs := of_decide_eq_true (by kernel_rfl)
theorem mm : Tryz.f3.isWrapper Tryz.pinned.checked.prog Rows.phaseWaysRow.wrapper Rows.phaseWaysRow.mainSum := by
 unfold Func.isWrapper
 first | (rw [if_pos (by decide +kernel)]; kernel_rfl) | (rw [if_neg (by decide +kernel)]; exact ⟨rfl, rfl⟩)
theorem AFi : Rows.PhaseWaysSaid :=
 OpenClaim.holds_of_cond 3 Tryz.f3 rfl rfl rfl rfl rfl rfl rfl ⟨rfl, rfl, rfl, rfl, rfl⟩ rfl rfl rfl rfl rfl mj Tryz.func3 ec
  ml mm
  (fun os started H enc _ F => by rw [OpenClaim.pre_eq_preRow]; exact AB1 os started H enc F)
theorem yd (f : FuncId) (fn : Func) (hf : Tryz.pinned.checked.prog.funcNamed "needlebeam/needlebeamlaw26.PhaseWays" = some f) (hfn : Tryz.pinned.checked.prog.funcs[f]? = some fn) :
  true = Tryz.pinned.checked.prog.looks [] ∧ ∀ (j : Nat) t, fn.params[j]? = some t → Tryz.pinned.checked.prog.wantsStandIn t = false := by
 obtain rfl : f = 3 := Option.some.inj ((show Tryz.prog.funcNamed "needlebeam/needlebeamlaw26.PhaseWays" = some 3 by kernel_rfl).symm.trans hf) |>.symm
 obtain rfl : fn = Tryz.f3 := (Option.some.inj (Tryz.func3.symm.trans hfn)).symm
 refine ⟨by kernel_rfl, fun j t ht => ?_⟩
 rw [Tryz.params3] at ht
 have hm : t ∈ [22, 9, 23] := by simpa using Array.mem_of_getElem? ht
 have hall : ([22, 9, 23].all fun u => !Tryz.prog.wantsStandIn u) = true := by kernel_rfl
 exact (show Tryz.prog.wantsStandIn t = false by simpa using List.all_eq_true.1 hall t hm)
theorem phase_ways_card : Rows.PhaseWaysCardSaid :=
 Claim7.holds_tied_plain_at .later [] _ _ _ _ AFi (fun _ h => by cases h) (by kernel_rfl) (fun _ h => by cases h) phaseWays_row_tie rfl ⟨rfl, rfl⟩ (by kernel_rfl) rfl yd (by kernel_rfl)
end Go.Proofs.YthakapgmpcbbkaaGreatDoor
