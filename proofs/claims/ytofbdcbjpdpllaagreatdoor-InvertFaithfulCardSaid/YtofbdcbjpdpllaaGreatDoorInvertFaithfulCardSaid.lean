/- A row that comes forth by a move that goes back is faithful: InvertFaithful answers true for whatever can be read. -/
import Derived.Test.YtofbdcbjpdpllaaGreatDoorInvertFaithfulCardSaidPart10
set_option linter.all false
namespace Go.Proofs.YtofbdcbjpdpllaaGreatDoor
open Go Go.SX Go.SX.Nb Go.ChangeShapes Go.RowKit
set_option maxRecDepth 100000
theorem plain : PlainT Tryz.prog (· ∈ [26, 24, 23, 28, 27, 41, 9, 3, 2]) := ⟨fun t ht => by
 simp only [List.mem_cons, List.mem_nil_iff, or_false] at ht
 rcases ht with rfl | rfl | rfl | rfl | rfl | rfl | rfl | rfl | rfl
 ·refine .inr ⟨_, Tryz.underlying26, fun f hf => ?_, kids.struct (of_decide_eq_true (by kernel_rfl)) Tryz.underlying26 |>.2⟩
  simp only [List.mem_cons, List.mem_nil_iff, or_false] at hf
  rcases hf with rfl | rfl | rfl | rfl <;> simp
 ·exact .inl ⟨by kernel_rfl, .inr (.inr (.inr ⟨_, Tryz.underlying24, by simp, by rw [show Tryz.prog.cellsOf 26 = 6 by kernel_rfl]; decide⟩))⟩
 ·refine .inr ⟨_, Tryz.underlying23, fun f hf => ?_, kids.struct (of_decide_eq_true (by kernel_rfl)) Tryz.underlying23 |>.2⟩
  simp only [List.mem_cons, List.mem_nil_iff, or_false] at hf
  rcases hf with rfl | rfl | rfl <;> simp
 ·exact .inl ⟨by kernel_rfl, .inr (.inr (.inr ⟨_, Tryz.underlying28, by simp, by rw [show Tryz.prog.cellsOf 23 = 3 by kernel_rfl]; decide⟩))⟩
 ·exact .inl ⟨by kernel_rfl, .inr (.inr (.inr ⟨_, Tryz.underlying27, by simp, by rw [show Tryz.prog.cellsOf 41 = 2 by kernel_rfl]; decide⟩))⟩
 ·refine .inr ⟨_, Tryz.underlying41, fun f hf => ?_, kids.struct (of_decide_eq_true (by kernel_rfl)) Tryz.underlying41 |>.2⟩
  simp only [List.mem_cons, List.mem_nil_iff, or_false] at hf
  rcases hf with rfl | rfl <;> simp
 ·exact .inl ⟨by kernel_rfl, .inr (.inr (.inl Tryz.underlying9))⟩
 ·exact .inl ⟨by kernel_rfl, .inl ⟨_, Tryz.underlying3⟩⟩
 exact .inl ⟨by kernel_rfl, .inl ⟨_, Tryz.underlying2⟩⟩⟩
theorem ADq {H : Type} [ErrAt] (d : DataW H) (y : AV) (h : DRep Tryz.prog 41 d y) : ∃ c : Col, y = El c := by
 obtain ⟨ys, hn, rfl, hh⟩ := h.struct' ABl Tryz.underlying41
 match ys, hn with
 | [y0, y1], _ =>
  obtain ⟨d0, b0, h0⟩ := hh 0 _ y0 rfl rfl
  obtain ⟨d1, b1, h1⟩ := hh 1 _ y1 rfl rfl
  obtain ⟨s, rfl, rfl⟩ := h0.str' Tryz.underlying9
  obtain ⟨k, rfl, rfl, _⟩ := h1.int' Tryz.underlying3
  exact ⟨⟨s, k⟩, rfl⟩
theorem AAj {H : Type} [ErrAt] (d : DataW H) (y : AV) (h : DRep Tryz.prog 27 d y) : ∃ c : List Col, y = Ax c := by
 obtain ⟨l, rfl, _⟩ := h.slice' ABl El (fun _ => True) Tryz.underlying27 (Nat.le_refl _) (fun d y _ hr => (ADq d y hr).imp fun c h => ⟨h, trivial⟩)
 exact ⟨l, by rw [show Tryz.prog.cellsOf 41 = 2 by kernel_rfl]⟩
theorem AAk {H : Type} [ErrAt] (d : DataW H) (y : AV) (h : DRep Tryz.prog 28 d y) : ∃ l : List Val, y = Cf l ∧ ∀ v ∈ l, -9223372036854775808 ≤ v.n ∧ v.n ≤ 9223372036854775807 := by
 obtain ⟨l, rfl, hl⟩ := h.slice' ABl Bp (fun v => -9223372036854775808 ≤ v.n ∧ v.n ≤ 9223372036854775807) Tryz.underlying28 (Nat.le_refl _) (fun d y _ hr => (mp d y hr).imp fun c h => ⟨h.1, h.2⟩)
 exact ⟨l, by rw [show Tryz.prog.cellsOf 23 = 3 by kernel_rfl], hl.2⟩
theorem main {H : Type} [ErrAt] (ds : List (DataW H)) (ys : List AV) (h : DReps Tryz.prog Tryz.f6.params.toList ds ys) : AFun Tryz.prog 6 ys [] (B6 true) := by
 rw [Tryz.params6] at h
 obtain ⟨d0, ds, y0, ys, rfl, rfl, h0, h⟩ := h.cons'
 obtain ⟨d1, ds, y1, ys, rfl, rfl, h1, h⟩ := h.cons'
 obtain ⟨d2, ds, y2, ys, rfl, rfl, h2, h⟩ := h.cons'
 obtain ⟨d3, ds, y3, ys, rfl, rfl, h3, h⟩ := h.cons'
 obtain ⟨d4, ds, y4, ys, rfl, rfl, h4, h⟩ := h.cons'
 obtain ⟨rfl, rfl⟩ := h.nil'
 obtain ⟨x, rfl, hx⟩ := xf d0 y0 h0
 obtain ⟨c, rfl⟩ := AAj d1 y1 h1
 obtain ⟨l, rfl, hl⟩ := AAk d2 y2 h2
 obtain ⟨n, rfl, rfl, _⟩ := h3.int' Tryz.underlying3
 obtain ⟨k, rfl, rfl, _⟩ := h4.int' Tryz.underlying3
 exact c6 x hx c l hl n k []
theorem AAl (os : Os) : laidMet Tryz.prog Rows.invertFaithfulRow.laid ((World.laidAll Tryz.prog os Rows.invertFaithfulRow.laid).forCall (fun _ _ => 0) ⟨#[], #[.agg #[.int .i64 0, .string ⟨#[]⟩, .int .i64 0, .int .i64 0, .string ⟨#[]⟩, .slice none 0 0], .slice none 0 0, .slice none 0 0, .int .i64 0, .int .i64 0], []⟩).memory :=
 laidMet_laidAll _ (by kernel_rfl) (by kernel_rfl)
theorem AJu (os : Os) {H : Type} (enc : TypeId × Value → H) : DataW.whole enc Tryz.prog ((World.laidAll Tryz.prog os Rows.invertFaithfulRow.laid).forCall (fun _ _ => 0) ⟨#[], #[.agg #[.int .i64 0, .string ⟨#[]⟩, .int .i64 0, .int .i64 0, .string ⟨#[]⟩, .slice none 0 0], .slice none 0 0, .slice none 0 0, .int .i64 0, .int .i64 0], []⟩).memory Tryz.f6.params.toList Rows.invertFaithfulSpec.vars false
  #[.agg #[.int .i64 0, .string ⟨#[]⟩, .int .i64 0, .int .i64 0, .string ⟨#[]⟩, .slice none 0 0], .slice none 0 0, .slice none 0 0, .int .i64 0, .int .i64 0].toList 8 = some ([.agg [.lit (.int .i64 0), .lit (.string []), .agg [.lit (.int .i64 0), .lit (.int .i64 0), .lit (.string [])], .nil], .nil, .nil, .lit (.int .i64 0), .lit (.int .i64 0)], [], []) := by kernel_rfl
theorem ADr (os : Os) {H : Type} (enc : TypeId × Value → H) : ∃ (w : World) (tape : Tape) (i : Input), w.os = os ∧ (w.forCall tape i).Shaped Tryz.prog ∧ i.vars = [] ∧ Input.okWide Tryz.prog (w.forCall tape i) .any w.heap.size 6 i ∧
   (OpenSpec.ofChange Rows.invertFaithfulSpec).preRow enc Tryz.prog Tryz.f6 Rows.invertFaithfulRow.domain false Rows.invertFaithfulRow.laid (w.forCall tape i).memory i.args ∧ ({ modest := false } : Assume).holds Tryz.prog (lone (Frame.enter Tryz.prog 6 i.args .normal) [] (w.forCall tape i)) := by
 refine ⟨World.laidAll Tryz.prog os Rows.invertFaithfulRow.laid, fun _ _ => 0, ⟨#[], #[.agg #[.int .i64 0, .string ⟨#[]⟩, .int .i64 0, .int .i64 0, .string ⟨#[]⟩, .slice none 0 0], .slice none 0 0, .slice none 0 0, .int .i64 0, .int .i64 0], []⟩, World.laidAll_os _ _ _, World.shaped_of_ZipB (by kernel_rfl) (by kernel_rfl), rfl, (Input.okWide_of_okWideB (by kernel_rfl)).2,
  OpenSpec.preRow_of_cond 8 (AJu os enc) (by kernel_rfl) (fun k hk => by cases hk) (by kernel_rfl) ?_, ?_⟩
 ·rw [MakeChecks.laidMetH_plain _ _ _ (by kernel_rfl)]
  exact AAl os
 simp only [Assume.holds]
 exact ⟨by simp, by simp, fun h => (by cases h), by simp, by simp⟩
theorem AGm (os : Os) (started : os.Started) (H : Type) (enc : TypeId × Value → H) (F : Stop.Interp) :
  ReturnsInHanded {} Tryz.checked os 6 .any ((OpenSpec.ofChange Rows.invertFaithfulSpec).preRow enc Tryz.prog Tryz.f6 Rows.invertFaithfulRow.domain false Rows.invertFaithfulRow.laid) (((OpenSpec.ofChange Rows.invertFaithfulSpec).at F).post enc Tryz.prog Tryz.f6 false true false false) := by
 refine returnsInHanded_of_row (C := Tryz.checked) (s := (OpenSpec.ofChange Rows.invertFaithfulSpec)) own started (by kernel_rfl) Tryz.func6 (ADr os enc) ?_
 intro W base args ds gs before hval hW _ hcond _ hL hsh _
 rw [MakeChecks.laidMetH_plain _ _ _ (by kernel_rfl)] at hL
 obtain ⟨b, hbv⟩ := ABm hL
 letI E : ErrAt := { b := b }
 have hgs : gs = [] := by
  obtain ⟨p, q, _, hV, _⟩ := hW
  exact (trodVars_none hV).1
 subst hgs
 refine r6 (fn := Tryz.f6) (tb := 4) kids full plain (fun t ht => ?_) Tryz.underlying4 (by kernel_rfl) rfl (fun ds hd => ?_) hval hW (glob hsh hL hbv) (fun ys hy => main ds ys hy)
 ·rw [Tryz.params6] at ht
  refine ⟨?_, ?_⟩
  ·have : ∀ t ∈ [26, 27, 28, 3, 3], t ∈ [26, 24, 23, 28, 27, 41, 9, 3, 2] := by decide
   exact this t ht
  have : ([26, 27, 28, 3, 3].all fun t => decide (t < Tryz.prog.types.size)) = true := by kernel_rfl
  exact of_decide_eq_true (List.all_eq_true.1 this t ht)
 have e : Tryz.f6.params.size = 5 := by rw [Tryz.params6]; rfl
 rw [e] at hd
 match ds, hd with
 | [_, _, _, _, _], _ => rfl
theorem ANr : Rows.InvertFaithfulSaid :=
 OpenClaim.holds_of_cond 6 Tryz.f6 rfl rfl rfl rfl rfl rfl rfl ⟨rfl, rfl, rfl, rfl, rfl⟩ rfl rfl rfl rfl rfl tw Tryz.func6 ly
  tz u1
  (fun os started H enc _ F => by rw [OpenClaim.pre_eq_preRow]; exact AGm os started H enc F)
theorem ADs (f : FuncId) (fn : Func) (hf : Tryz.pinned.checked.prog.funcNamed "needlebeam/needlebeamlaw34.InvertFaithful" = some f) (hfn : Tryz.pinned.checked.prog.funcs[f]? = some fn) :
  true = Tryz.pinned.checked.prog.looks [] ∧ ∀ (j : Nat) t, fn.params[j]? = some t → Tryz.pinned.checked.prog.wantsStandIn t = false := by
 obtain rfl : f = 6 := Option.some.inj ((show Tryz.prog.funcNamed "needlebeam/needlebeamlaw34.InvertFaithful" = some 6 by kernel_rfl).symm.trans hf) |>.symm
 obtain rfl : fn = Tryz.f6 := (Option.some.inj (Tryz.func6.symm.trans hfn)).symm
 refine ⟨by kernel_rfl, fun j t ht => ?_⟩
 rw [Tryz.params6] at ht
 have hm : t ∈ [26, 27, 28, 3, 3] := by simpa using Array.mem_of_getElem? ht
 have hall : ([26, 27, 28, 3, 3].all fun u => !Tryz.prog.wantsStandIn u) = true := by kernel_rfl
 exact (show Tryz.prog.wantsStandIn t = false by simpa using List.all_eq_true.1 hall t hm)
theorem invert_faithful_card : Rows.InvertFaithfulCardSaid :=
 Claim7.holds_tied_plain_at .later [] _ _ _ _ ANr (fun _ h => by cases h) (by kernel_rfl) (fun _ h => by cases h) invertFaithful_row_tie rfl ⟨rfl, rfl⟩ (by kernel_rfl) rfl ADs tx
end Go.Proofs.YtofbdcbjpdpllaaGreatDoor
