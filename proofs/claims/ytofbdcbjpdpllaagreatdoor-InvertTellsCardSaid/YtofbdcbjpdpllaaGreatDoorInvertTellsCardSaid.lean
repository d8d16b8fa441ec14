/- InvertTells answers true for whatever it is handed: whether a tree goes back, the tree back, and the move are what the chapter says, or what is wrong with it. -/
import Derived.Test.YtofbdcbjpdpllaaGreatDoorInvertTellsCardSaidPart12
set_option linter.all false
namespace Go.Proofs.YtofbdcbjpdpllaaGreatDoor
open Go Go.SX Go.SX.Nb Go.ChangeShapes Go.RowKit
set_option maxRecDepth 100000
theorem plain : PlainT Tryz.prog (· ∈ [26, 24, 23, 28, 27, 41, 9, 3, 2]) := ⟨fun t ht => by
 simp only [List.mem_cons, List.mem_nil_iff, or_false] at ht
 rcases ht with rfl | rfl | rfl | rfl | rfl | rfl | rfl | rfl | rfl
 ·refine .inr ⟨_, Tryz.underlying26, fun f hf => ?_, kids.struct (of_decide_eq_true (by kernel_rfl)) Tryz.underlying26 |>.2⟩
  simp only [List.mem_cons, List.mem_nil_iff, or_false] at hf
  rcases hf with rfl | rfl | rfl | rfl <;> simp
 ·exact .inl ⟨by kernel_rfl, .inr (.inr (.inr ⟨_, Tryz.underlying24, by simp, by rw [show Tryz.prog.cellsOf 26 = 6 by kernel_rfl]; decide⟩))⟩
 ·refine .inr ⟨_, Tryz.underlying23, fun f hf => ?_, kids.struct (of_decide_eq_true (by kernel_rfl)) Tryz.underlying23 |>.2⟩
  simp only [List.mem_cons, List.mem_nil_iff, or_false] at hf
  rcases hf with rfl | rfl | rfl <;> simp
 ·exact .inl ⟨by kernel_rfl, .inr (.inr (.inr ⟨_, Tryz.underlying28, by simp, by rw [show Tryz.prog.cellsOf 23 = 3 by kernel_rfl]; decide⟩))⟩
 ·exact .inl ⟨by kernel_rfl, .inr (.inr (.inr ⟨_, Tryz.underlying27, by simp, by rw [show Tryz.prog.cellsOf 41 = 2 by kernel_rfl]; decide⟩))⟩
 ·refine .inr ⟨_, Tryz.underlying41, fun f hf => ?_, kids.struct (of_decide_eq_true (by kernel_rfl)) Tryz.underlying41 |>.2⟩
  simp only [List.mem_cons, List.mem_nil_iff, or_false] at hf
  rcases hf with rfl | rfl <;> simp
 ·exact .inl ⟨by kernel_rfl, .inr (.inr (.inl Tryz.underlying9))⟩
 ·exact .inl ⟨by kernel_rfl, .inl ⟨_, Tryz.underlying3⟩⟩
 exact .inl ⟨by kernel_rfl, .inl ⟨_, Tryz.underlying2⟩⟩⟩
theorem AJ9 {H : Type} [ErrAt] (d : DataW H) (y : AV) (h : DRep Tryz.prog 41 d y) : ∃ c : Col, y = D8 c := by
 obtain ⟨ys, hn, rfl, hh⟩ := h.struct' ALc Tryz.underlying41
 match ys, hn with
 | [y0, y1], _ =>
  obtain ⟨d0, b0, h0⟩ := hh 0 _ y0 rfl rfl
  obtain ⟨d1, b1, h1⟩ := hh 1 _ y1 rfl rfl
  obtain ⟨s, rfl, rfl⟩ := h0.str' Tryz.underlying9
  obtain ⟨k, rfl, rfl, _⟩ := h1.int' Tryz.underlying3
  exact ⟨⟨s, k⟩, rfl⟩
theorem AF6 {H : Type} [ErrAt] (d : DataW H) (y : AV) (h : DRep Tryz.prog 27 d y) : ∃ c : List Col, y = B0 c := by
 obtain ⟨l, rfl, _⟩ := h.slice' ALc D8 (fun _ => True) Tryz.underlying27 (Nat.le_refl _) (fun d y _ hr => (AJ9 d y hr).imp fun c h => ⟨h, trivial⟩)
 exact ⟨l, by rw [show Tryz.prog.cellsOf 41 = 2 by kernel_rfl]⟩
theorem main {H : Type} [ErrAt] (ds : List (DataW H)) (ys : List AV) (h : DReps Tryz.prog Tryz.f5.params.toList ds ys) : AFun Tryz.prog 5 ys [] (At true) := by
 rw [Tryz.params5] at h
 obtain ⟨d0, ds, y0, ys, rfl, rfl, h0, h⟩ := h.cons'
 obtain ⟨d1, ds, y1, ys, rfl, rfl, h1, h⟩ := h.cons'
 obtain ⟨d2, ds, y2, ys, rfl, rfl, h2, h⟩ := h.cons'
 obtain ⟨d3, ds, y3, ys, rfl, rfl, h3, h⟩ := h.cons'
 obtain ⟨d4, ds, y4, ys, rfl, rfl, h4, h⟩ := h.cons'
 obtain ⟨rfl, rfl⟩ := h.nil'
 obtain ⟨x, rfl, hx⟩ := ACk d0 y0 h0
 obtain ⟨a, rfl, rfl⟩ := h1.str' Tryz.underlying9
 obtain ⟨b, rfl, rfl⟩ := h2.str' Tryz.underlying9
 obtain ⟨c, rfl⟩ := AF6 d3 y3 h3
 obtain ⟨k, rfl, rfl, _⟩ := h4.int' Tryz.underlying3
 exact c5 x hx a b c k []
theorem AF7 (os : Os) : laidMet Tryz.prog Rows.invertTellsRow.laid ((World.laidAll Tryz.prog os Rows.invertTellsRow.laid).forCall (fun _ _ => 0) ⟨#[], #[.agg #[.int .i64 0, .string ⟨#[]⟩, .int .i64 0, .int .i64 0, .string ⟨#[]⟩, .slice none 0 0], .string ⟨#[]⟩, .string ⟨#[]⟩, .slice none 0 0, .int .i64 0], []⟩).memory :=
 laidMet_laidAll _ (by kernel_rfl) (by kernel_rfl)
theorem ARp (os : Os) {H : Type} (enc : TypeId × Value → H) : DataW.whole enc Tryz.prog ((World.laidAll Tryz.prog os Rows.invertTellsRow.laid).forCall (fun _ _ => 0) ⟨#[], #[.agg #[.int .i64 0, .string ⟨#[]⟩, .int .i64 0, .int .i64 0, .string ⟨#[]⟩, .slice none 0 0], .string ⟨#[]⟩, .string ⟨#[]⟩, .slice none 0 0, .int .i64 0], []⟩).memory Tryz.f5.params.toList Rows.invertTellsSpec.vars false
  #[.agg #[.int .i64 0, .string ⟨#[]⟩, .int .i64 0, .int .i64 0, .string ⟨#[]⟩, .slice none 0 0], .string ⟨#[]⟩, .string ⟨#[]⟩, .slice none 0 0, .int .i64 0].toList 8 = some ([.agg [.lit (.int .i64 0), .lit (.string []), .agg [.lit (.int .i64 0), .lit (.int .i64 0), .lit (.string [])], .nil], .lit (.string []), .lit (.string []), .nil, .lit (.int .i64 0)], [], []) := by kernel_rfl
theorem AJa (os : Os) {H : Type} (enc : TypeId × Value → H) : ∃ (w : World) (tape : Tape) (i : Input), w.os = os ∧ (w.forCall tape i).Shaped Tryz.prog ∧ i.vars = [] ∧ Input.okWide Tryz.prog (w.forCall tape i) .any w.heap.size 5 i ∧
   (OpenSpec.ofChange Rows.invertTellsSpec).preRow enc Tryz.prog Tryz.f5 Rows.invertTellsRow.domain false Rows.invertTellsRow.laid (w.forCall tape i).memory i.args ∧ ({ modest := false } : Assume).holds Tryz.prog (lone (Frame.enter Tryz.prog 5 i.args .normal) [] (w.forCall tape i)) := by
 refine ⟨World.laidAll Tryz.prog os Rows.invertTellsRow.laid, fun _ _ => 0, ⟨#[], #[.agg #[.int .i64 0, .string ⟨#[]⟩, .int .i64 0, .int .i64 0, .string ⟨#[]⟩, .slice none 0 0], .string ⟨#[]⟩, .string ⟨#[]⟩, .slice none 0 0, .int .i64 0], []⟩, World.laidAll_os _ _ _, World.shaped_of_ZipB (by kernel_rfl) (by kernel_rfl), rfl, (Input.okWide_of_okWideB (by kernel_rfl)).2,
  OpenSpec.preRow_of_cond 8 (ARp os enc) (by kernel_rfl) (fun k hk => by cases hk) (by kernel_rfl) ?_, ?_⟩
 ·rw [MakeChecks.laidMetH_plain _ _ _ (by kernel_rfl)]
  exact AF7 os
 simp only [Assume.holds]
 exact ⟨by simp, by simp, fun h => (by cases h), by simp, by simp⟩
theorem AMt (os : Os) (started : os.Started) (H : Type) (enc : TypeId × Value → H) (F : Stop.Interp) :
  ReturnsInHanded {} Tryz.checked os 5 .any ((OpenSpec.ofChange Rows.invertTellsSpec).preRow enc Tryz.prog Tryz.f5 Rows.invertTellsRow.domain false Rows.invertTellsRow.laid) (((OpenSpec.ofChange Rows.invertTellsSpec).at F).post enc Tryz.prog Tryz.f5 false true false false) := by
 refine returnsInHanded_of_row (C := Tryz.checked) (s := (OpenSpec.ofChange Rows.invertTellsSpec)) own started (by kernel_rfl) Tryz.func5 (AJa os enc) ?_
 intro W base args ds gs before hval hW _ hcond _ hL hsh _
 rw [MakeChecks.laidMetH_plain _ _ _ (by kernel_rfl)] at hL
 obtain ⟨b, hbv⟩ := AGn hL
 letI E : ErrAt := { b := b }
 have hgs : gs = [] := by
  obtain ⟨p, q, _, hV, _⟩ := hW
  exact (trodVars_none hV).1
 subst hgs
 refine xd (fn := Tryz.f5) (tb := 4) kids full plain (fun t ht => ?_) Tryz.underlying4 (by kernel_rfl) rfl (fun ds hd => ?_) hval hW (glob hsh hL hbv) (fun ys hy => main ds ys hy)
 ·rw [Tryz.params5] at ht
  refine ⟨?_, ?_⟩
  ·have : ∀ t ∈ [26, 9, 9, 27, 3], t ∈ [26, 24, 23, 28, 27, 41, 9, 3, 2] := by decide
   exact this t ht
  have : ([26, 9, 9, 27, 3].all fun t => decide (t < Tryz.prog.types.size)) = true := by kernel_rfl
  exact of_decide_eq_true (List.all_eq_true.1 this t ht)
 have e : Tryz.f5.params.size = 5 := by rw [Tryz.params5]; rfl
 rw [e] at hd
 match ds, hd with
 | [_, _, _, _, _], _ => rfl
theorem AWa : Rows.InvertTellsSaid :=
 OpenClaim.holds_of_cond 5 Tryz.f5 rfl rfl rfl rfl rfl rfl rfl ⟨rfl, rfl, rfl, rfl, rfl⟩ rfl rfl rfl rfl rfl AA1 Tryz.func5 r6
  AA3 AA4
  (fun os started H enc _ F => by rw [OpenClaim.pre_eq_preRow]; exact AMt os started H enc F)
theorem AJb (f : FuncId) (fn : Func) (hf : Tryz.pinned.checked.prog.funcNamed "needlebeam/needlebeamlaw34.InvertTells" = some f) (hfn : Tryz.pinned.checked.prog.funcs[f]? = some fn) :
  true = Tryz.pinned.checked.prog.looks [] ∧ ∀ (j : Nat) t, fn.params[j]? = some t → Tryz.pinned.checked.prog.wantsStandIn t = false := by
 obtain rfl : f = 5 := Option.some.inj ((show Tryz.prog.funcNamed "needlebeam/needlebeamlaw34.InvertTells" = some 5 by kernel_rfl).symm.trans hf) |>.symm
 obtain rfl : fn = Tryz.f5 := (Option.some.inj (Tryz.func5.symm.trans hfn)).symm
 refine ⟨by kernel_rfl, fun j t ht => ?_⟩
 rw [Tryz.params5] at ht
 have hm : t ∈ [26, 9, 9, 27, 3] := by simpa using Array.mem_of_getElem? ht
 have hall : ([26, 9, 9, 27, 3].all fun u => !Tryz.prog.wantsStandIn u) = true := by kernel_rfl
 exact (show Tryz.prog.wantsStandIn t = false by simpa using List.all_eq_true.1 hall t hm)
theorem invert_tells_card : Rows.InvertTellsCardSaid :=
 Claim7.holds_tied_plain_at .later [] _ _ _ _ AWa (fun _ h => by cases h) (by kernel_rfl) (fun _ h => by cases h) invertTells_row_tie rfl ⟨rfl, rfl⟩ (by kernel_rfl) rfl AJb AA2
end Go.Proofs.YtofbdcbjpdpllaaGreatDoor
