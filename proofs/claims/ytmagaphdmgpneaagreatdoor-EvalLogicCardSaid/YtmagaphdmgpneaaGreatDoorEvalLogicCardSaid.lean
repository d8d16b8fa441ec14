/- EvalLogic answers true for whatever it is handed: or and and are their tables, and who decides decides. -/
import Derived.Test.YtmagaphdmgpneaaGreatDoorEvalLogicCardSaidPart7
set_option linter.all false
namespace Go.Proofs.YtmagaphdmgpneaaGreatDoor
open Go Go.SX Go.SX.Nb Go.ChangeShapes Go.RowKit
set_option maxRecDepth 100000
theorem plain : PlainT Tryz.prog (· ∈ [5, 2]) := ⟨fun t ht => by
 simp only [List.mem_cons, List.mem_nil_iff, or_false] at ht
 rcases ht with rfl | rfl
 ·exact .inl ⟨by kernel_rfl, .inl ⟨_, Tryz.underlying5⟩⟩
 ·exact .inl ⟨by kernel_rfl, .inl ⟨_, Tryz.underlying2⟩⟩⟩

theorem main {H : Type} [ErrAt] (ds : List (DataW H)) (ys : List AV) (h : DReps Tryz.prog Tryz.f6.params.toList ds ys) : AFun Tryz.prog 6 ys [] (boolA true) := by
 rw [Tryz.params6] at h
 obtain ⟨d0, ds, y0, ys, rfl, rfl, h0, h⟩ := h.cons'
 obtain ⟨d1, ds, y1, ys, rfl, rfl, h1, h⟩ := h.cons'
 obtain ⟨d2, ds, y2, ys, rfl, rfl, h2, h⟩ := h.cons'
 obtain ⟨rfl, rfl⟩ := h.nil'
 obtain ⟨a, rfl, rfl, ha, _⟩ := h0.int' Tryz.underlying5
 obtain ⟨b, rfl, rfl, hb, _⟩ := h1.int' Tryz.underlying5
 obtain ⟨n, rfl, rfl, hn1, hn2⟩ := h2.int' Tryz.underlying2
 exact c6 a b n ha hb ⟨hn1, hn2⟩ []
theorem laid_met (os : Os) : laidMet Tryz.prog Rows.evalLogicRow.laid ((World.laidAll Tryz.prog os Rows.evalLogicRow.laid).forCall (fun _ _ => 0) ⟨#[], #[.int .u8 0, .int .u8 0, .int .i64 0], []⟩).memory :=
 laidMet_laidAll _ (by kernel_rfl) (by kernel_rfl)
theorem reads (os : Os) {H : Type} (enc : TypeId × Value → H) : DataW.whole enc Tryz.prog ((World.laidAll Tryz.prog os Rows.evalLogicRow.laid).forCall (fun _ _ => 0) ⟨#[], #[.int .u8 0, .int .u8 0, .int .i64 0], []⟩).memory Tryz.f6.params.toList Rows.evalLogicSpec.vars false
  #[.int .u8 0, .int .u8 0, .int .i64 0].toList 8 = some ([.lit (.int .u8 0), .lit (.int .u8 0), .lit (.int .i64 0)], [], []) := by kernel_rfl
theorem witness (os : Os) {H : Type} (enc : TypeId × Value → H) : ∃ (w : World) (tape : Tape) (i : Input), w.os = os ∧ (w.forCall tape i).Shaped Tryz.prog ∧ i.vars = [] ∧ Input.okWide Tryz.prog (w.forCall tape i) .any w.heap.size 6 i ∧
   (OpenSpec.ofChange Rows.evalLogicSpec).preRow enc Tryz.prog Tryz.f6 Rows.evalLogicRow.domain false Rows.evalLogicRow.laid (w.forCall tape i).memory i.args ∧ ({ modest := false } : Assume).holds Tryz.prog (lone (Frame.enter Tryz.prog 6 i.args .normal) [] (w.forCall tape i)) := by
 refine ⟨World.laidAll Tryz.prog os Rows.evalLogicRow.laid, fun _ _ => 0, ⟨#[], #[.int .u8 0, .int .u8 0, .int .i64 0], []⟩, World.laidAll_os _ _ _, World.shaped_of_ZipB (by kernel_rfl) (by kernel_rfl), rfl, (Input.okWide_of_okWideB (by kernel_rfl)).2,
  OpenSpec.preRow_of_cond 8 (reads os enc) (by kernel_rfl) (fun k hk => by cases hk) (by kernel_rfl) ?_, ?_⟩
 ·rw [MakeChecks.laidMetH_plain _ _ _ (by kernel_rfl)]
  exact laid_met os
 ·simp only [Assume.holds]
  exact ⟨by simp, by simp, fun h => (by cases h), by simp, by simp⟩
theorem lifted (os : Os) (started : os.Started) (H : Type) (enc : TypeId × Value → H) (F : Stop.Interp) :
  ReturnsInHanded {} Tryz.checked os 6 .any ((OpenSpec.ofChange Rows.evalLogicSpec).preRow enc Tryz.prog Tryz.f6 Rows.evalLogicRow.domain false Rows.evalLogicRow.laid) (((OpenSpec.ofChange Rows.evalLogicSpec).at F).post enc Tryz.prog Tryz.f6 false true false false) := by
 refine returnsInHanded_of_row (C := Tryz.checked) (s := (OpenSpec.ofChange Rows.evalLogicSpec)) own started (by kernel_rfl) Tryz.func6 (witness os enc) ?_
 intro W base args ds gs before hval hW _ hcond _ hL hsh _
 rw [MakeChecks.laidMetH_plain _ _ _ (by kernel_rfl)] at hL
 obtain ⟨b, hbv⟩ := err_var hL
 letI E : ErrAt := ⟨b⟩
 have hgs : gs = [] := by
  obtain ⟨p, q, _, hV, _⟩ := hW
  exact (trodVars_none hV).1
 subst hgs
 refine card_true (fn := Tryz.f6) (tb := 4) kids full plain (fun t ht => ?_) Tryz.underlying4 (by kernel_rfl) rfl (fun ds hd => ?_) hval hW (glob hsh hL hbv) (fun ys hy => main ds ys hy)
 ·rw [Tryz.params6] at ht
  refine ⟨?_, ?_⟩
  ·have : ∀ t ∈ [5, 5, 2], t ∈ [5, 2] := by decide
   exact this t ht
  ·have : ([5, 5, 2].all fun t => decide (t < Tryz.prog.types.size)) = true := by kernel_rfl
   exact of_decide_eq_true (List.all_eq_true.1 this t ht)
 ·have e : Tryz.f6.params.size = 3 := by rw [Tryz.params6]; rfl
  rw [e] at hd
  match ds, hd with
  | [_, _, _], _ => rfl
theorem fact_name : Tryz.pinned.checked.prog.funcNamed Rows.evalLogicRow.func = some 6 := by kernel_rfl
theorem fact_cells : joinedFacts Tryz.pinned.checked.prog 6 Tryz.f6 (OpenSpec.ofChange Rows.evalLogicSpec).bare Rows.evalLogicRow = true := by kernel_rfl
theorem fact_inst : Tryz.f6.isInstance Tryz.pinned.checked.prog Rows.evalLogicRow.origin Rows.evalLogicRow.targs := of_decide_eq_true (by kernel_rfl)
theorem fact_wrap : Tryz.f6.isWrapper Tryz.pinned.checked.prog Rows.evalLogicRow.wrapper Rows.evalLogicRow.mainSum := by
 unfold Func.isWrapper
 first | (rw [if_pos (by decide +kernel)]; kernel_rfl) | (rw [if_neg (by decide +kernel)]; exact ⟨rfl, rfl⟩)
theorem said : Rows.EvalLogicSaid :=
 OpenClaim.holds_of_cond 6 Tryz.f6 rfl rfl rfl rfl rfl rfl rfl ⟨rfl, rfl, rfl, rfl, rfl⟩ rfl rfl rfl rfl rfl fact_name Tryz.func6 fact_cells
  fact_inst fact_wrap
  (fun os started H enc _ F => by rw [OpenClaim.pre_eq_preRow]; exact lifted os started H enc F)
theorem noStand (f : FuncId) (fn : Func) (hf : Tryz.pinned.checked.prog.funcNamed "needlebeam/needlebeamlaw16.EvalLogic" = some f) (hfn : Tryz.pinned.checked.prog.funcs[f]? = some fn) :
  true = Tryz.pinned.checked.prog.looks [] ∧ ∀ (j : Nat) t, fn.params[j]? = some t → Tryz.pinned.checked.prog.wantsStandIn t = false := by
 obtain rfl : f = 6 := Option.some.inj ((show Tryz.prog.funcNamed "needlebeam/needlebeamlaw16.EvalLogic" = some 6 by kernel_rfl).symm.trans hf) |>.symm
 obtain rfl : fn = Tryz.f6 := (Option.some.inj (Tryz.func6.symm.trans hfn)).symm
 refine ⟨by kernel_rfl, fun j t ht => ?_⟩
 rw [Tryz.params6] at ht
 have hm : t ∈ [5, 5, 2] := by simpa using Array.mem_of_getElem? ht
 have hall : ([5, 5, 2].all fun u => !Tryz.prog.wantsStandIn u) = true := by kernel_rfl
 exact (show Tryz.prog.wantsStandIn t = false by simpa using List.all_eq_true.1 hall t hm)
theorem eval_logic_card : Rows.EvalLogicCardSaid :=
 Claim7.holds_tied_plain_at .later [] _ _ _ _ said (fun _ h => by cases h) (by kernel_rfl) (fun _ h => by cases h) evalLogic_row_tie rfl ⟨rfl, rfl⟩ (by kernel_rfl) rfl noStand (by kernel_rfl)
end Go.Proofs.YtmagaphdmgpneaaGreatDoor
