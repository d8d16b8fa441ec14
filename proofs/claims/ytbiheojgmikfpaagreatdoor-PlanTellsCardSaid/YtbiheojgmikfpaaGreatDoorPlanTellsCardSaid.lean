/- PlanTells answers true for whatever it is handed: of any columns and any moves the plan, its text, the plan back and the shadows are what the reference says, or the migration is not sound. -/
import Derived.Test.YtbiheojgmikfpaaGreatDoorPlanTellsCardSaidPart8
set_option linter.all false
namespace Go.Proofs.YtbiheojgmikfpaaGreatDoor
open Go Go.SX Go.SX.Nb Go.ChangeShapes Go.RowKit
set_option maxRecDepth 100000
theorem vf : PlainT Tryz.prog (· ∈ [22, 23, 55, 47, 34, 53, 60, 58, 9, 3, 2]) := ⟨fun t ht => by
 simp only [List.mem_cons, List.mem_nil_iff, or_false] at ht
 rcases ht with rfl | rfl | rfl | rfl | rfl | rfl | rfl | rfl | rfl | rfl | rfl
 ·exact .inl ⟨by kernel_rfl, .inr (.inr (.inr ⟨_, Tryz.underlying22, by simp, by rw [show Tryz.prog.cellsOf 47 = 2 by kernel_rfl]; decide⟩))⟩
 ·exact .inl ⟨by kernel_rfl, .inr (.inr (.inr ⟨_, Tryz.underlying23, by simp, by rw [show Tryz.prog.cellsOf 55 = 5 by kernel_rfl]; decide⟩))⟩
 ·refine .inr ⟨_, Tryz.underlying55, fun f hf => ?_, kids.struct (of_decide_eq_true (by kernel_rfl)) Tryz.underlying55 |>.2⟩
  simp only [List.mem_cons, List.mem_nil_iff, or_false] at hf
  rcases hf with rfl | rfl | rfl | rfl | rfl <;> simp
 ·refine .inr ⟨_, Tryz.underlying47, fun f hf => ?_, kids.struct (of_decide_eq_true (by kernel_rfl)) Tryz.underlying47 |>.2⟩
  simp only [List.mem_cons, List.mem_nil_iff, or_false] at hf
  rcases hf with rfl | rfl <;> simp
 ·exact .inl ⟨by kernel_rfl, .inr (.inr (.inr ⟨_, Tryz.underlying34, by simp, by rw [show Tryz.prog.cellsOf 9 = 1 by kernel_rfl]; decide⟩))⟩
 ·exact .inl ⟨by kernel_rfl, .inr (.inr (.inr ⟨_, Tryz.underlying53, by simp, by rw [show Tryz.prog.cellsOf 60 = 6 by kernel_rfl]; decide⟩))⟩
 ·refine .inr ⟨_, Tryz.underlying60, fun f hf => ?_, kids.struct (of_decide_eq_true (by kernel_rfl)) Tryz.underlying60 |>.2⟩
  simp only [List.mem_cons, List.mem_nil_iff, or_false] at hf
  rcases hf with rfl | rfl | rfl | rfl <;> simp
 ·refine .inr ⟨_, Tryz.underlying58, fun f hf => ?_, kids.struct (of_decide_eq_true (by kernel_rfl)) Tryz.underlying58 |>.2⟩
  simp only [List.mem_cons, List.mem_nil_iff, or_false] at hf
  rcases hf with rfl | rfl | rfl <;> simp
 ·exact .inl ⟨by kernel_rfl, .inr (.inr (.inl Tryz.underlying9))⟩
 ·exact .inl ⟨by kernel_rfl, .inl ⟨_, Tryz.underlying3⟩⟩
 exact .inl ⟨by kernel_rfl, .inl ⟨_, Tryz.underlying2⟩⟩⟩
theorem m7 {H : Type} [ErrAt] (d : DataW H) (y : AV) (h : DRep Tryz.prog 47 d y) : ∃ c : Col, y = B3 c := by
 obtain ⟨ys, hn, rfl, hh⟩ := h.struct' ax Tryz.underlying47
 match ys, hn with
 | [y0, y1], _ =>
  obtain ⟨d0, b0, h0⟩ := hh 0 _ y0 rfl rfl
  obtain ⟨d1, b1, h1⟩ := hh 1 _ y1 rfl rfl
  obtain ⟨s, rfl, rfl⟩ := h0.str' Tryz.underlying9
  obtain ⟨k, rfl, rfl, _⟩ := h1.int' Tryz.underlying3
  exact ⟨⟨s, k⟩, rfl⟩
theorem Vl {H : Type} [ErrAt] (d : DataW H) (y : AV) (h : DRep Tryz.prog 22 d y) : ∃ c : List Col, y = A4 c := by
 obtain ⟨l, rfl, _⟩ := h.slice' ax B3 (fun _ => True) Tryz.underlying22 (Nat.le_refl _) (fun d y _ hr => (m7 d y hr).imp fun c h => ⟨h, trivial⟩)
 exact ⟨l, by rw [show Tryz.prog.cellsOf 47 = 2 by kernel_rfl]⟩
theorem ii {H : Type} [ErrAt] (d : DataW H) (y : AV) (h : DRep Tryz.prog 34 d y) : ∃ l : List Str, y = C2 l := by
 obtain ⟨l, rfl, _⟩ := h.slice' ax A7 (fun _ => True) Tryz.underlying34 (Nat.le_refl _) (fun d y _ hr => by
  obtain ⟨s, rfl, rfl⟩ := hr.str' Tryz.underlying9
  exact ⟨s, rfl, trivial⟩)
 exact ⟨l, by rw [show Tryz.prog.cellsOf 9 = 1 by kernel_rfl]⟩
theorem Rl {H : Type} [ErrAt] (d : DataW H) (y : AV) (h : DRep Tryz.prog 53 d y) : ∃ l : List Nb.Expr, y = Az l ∧ ∀ e ∈ l, Cm Fu e = true := by
 obtain ⟨l, rfl, hl⟩ := (ey h).2 rfl
 exact ⟨l, rfl, (Cg _ _).1 hl⟩
theorem m8 {H : Type} [ErrAt] (d : DataW H) (y : AV) (h : DRep Tryz.prog 55 d y) : ∃ m : Mov, y = Gc m ∧ RngMv m := by
 obtain ⟨ys, hn, rfl, hh⟩ := h.struct' ax Tryz.underlying55
 match ys, hn with
 | [y0, y1, y2, y3, y4], _ =>
  obtain ⟨d0, b0, h0⟩ := hh 0 _ y0 rfl rfl
  obtain ⟨d1, b1, h1⟩ := hh 1 _ y1 rfl rfl
  obtain ⟨d2, b2, h2⟩ := hh 2 _ y2 rfl rfl
  obtain ⟨d3, b3, h3⟩ := hh 3 _ y3 rfl rfl
  obtain ⟨d4, b4, h4⟩ := hh 4 _ y4 rfl rfl
  obtain ⟨k, rfl, rfl, _⟩ := h0.int' Tryz.underlying3
  obtain ⟨t, rfl⟩ := ii d1 y1 h1
  obtain ⟨g, rfl⟩ := Vl d2 y2 h2
  obtain ⟨a, rfl, ha⟩ := Rl d3 y3 h3
  obtain ⟨b, rfl, hb⟩ := Rl d4 y4 h4
  exact ⟨⟨k, t, g, a, b⟩, rfl, ⟨ha, hb⟩⟩
theorem ij {H : Type} [ErrAt] (d : DataW H) (y : AV) (h : DRep Tryz.prog 23 d y) : ∃ l : List Mov, y = By l ∧ ∀ m ∈ l, RngMv m := by
 obtain ⟨l, rfl, hl⟩ := h.slice' ax Gc RngMv Tryz.underlying23 (Nat.le_refl _) (fun d y _ hr => m8 d y hr)
 exact ⟨l, by rw [show Tryz.prog.cellsOf 55 = 5 by kernel_rfl], hl.2⟩
theorem main {H : Type} [ErrAt] (ds : List (DataW H)) (ys : List AV) (h : DReps Tryz.prog Tryz.f3.params.toList ds ys) : AFun Tryz.prog 3 ys [] (Am true) := by
 rw [Tryz.params3] at h
 obtain ⟨d0, ds, y0, ys, rfl, rfl, h0, h⟩ := h.cons'
 obtain ⟨d1, ds, y1, ys, rfl, rfl, h1, h⟩ := h.cons'
 obtain ⟨d2, ds, y2, ys, rfl, rfl, h2, h⟩ := h.cons'
 obtain ⟨rfl, rfl⟩ := h.nil'
 obtain ⟨c, rfl⟩ := Vl d0 y0 h0
 obtain ⟨l, rfl, hl⟩ := ij d1 y1 h1
 obtain ⟨k, rfl, rfl, _⟩ := h2.int' Tryz.underlying3
 exact c3 c l hl k []
theorem ik (os : Os) : laidMet Tryz.prog Rows.planTellsRow.laid ((World.laidAll Tryz.prog os Rows.planTellsRow.laid).forCall (fun _ _ => 0) ⟨#[], #[.slice none 0 0, .slice none 0 0, .int .i64 0], []⟩).memory :=
 laidMet_laidAll _ (by kernel_rfl) (by kernel_rfl)
theorem vg (os : Os) {H : Type} (enc : TypeId × Value → H) : DataW.whole enc Tryz.prog ((World.laidAll Tryz.prog os Rows.planTellsRow.laid).forCall (fun _ _ => 0) ⟨#[], #[.slice none 0 0, .slice none 0 0, .int .i64 0], []⟩).memory Tryz.f3.params.toList Rows.planTellsSpec.vars false
  #[.slice none 0 0, .slice none 0 0, .int .i64 0].toList 8 = some ([.nil, .nil, .lit (.int .i64 0)], [], []) := by kernel_rfl
theorem m9 (os : Os) {H : Type} (enc : TypeId × Value → H) : ∃ (w : World) (tape : Tape) (i : Input), w.os = os ∧ (w.forCall tape i).Shaped Tryz.prog ∧ i.vars = [] ∧ Input.okWide Tryz.prog (w.forCall tape i) .any w.heap.size 3 i ∧
   (OpenSpec.ofChange Rows.planTellsSpec).preRow enc Tryz.prog Tryz.f3 Rows.planTellsRow.domain false Rows.planTellsRow.laid (w.forCall tape i).memory i.args ∧ ({ modest := false } : Assume).holds Tryz.prog (lone (Frame.enter Tryz.prog 3 i.args .normal) [] (w.forCall tape i)) := by
 refine ⟨World.laidAll Tryz.prog os Rows.planTellsRow.laid, fun _ _ => 0, ⟨#[], #[.slice none 0 0, .slice none 0 0, .int .i64 0], []⟩, World.laidAll_os _ _ _, World.shaped_of_ZipB (by kernel_rfl) (by kernel_rfl), rfl, (Input.okWide_of_okWideB (by kernel_rfl)).2,
  OpenSpec.preRow_of_cond 8 (vg os enc) (by kernel_rfl) (fun k hk => by cases hk) (by kernel_rfl) ?_, ?_⟩
 ·rw [MakeChecks.laidMetH_plain _ _ _ (by kernel_rfl)]
  exact ik os
 simp only [Assume.holds]
 exact ⟨by simp, by simp, fun h => (by cases h), by simp, by simp⟩
theorem pt (os : Os) (started : os.Started) (H : Type) (enc : TypeId × Value → H) (F : Stop.Interp) :
  ReturnsInHanded {} Tryz.checked os 3 .any ((OpenSpec.ofChange Rows.planTellsSpec).preRow enc Tryz.prog Tryz.f3 Rows.planTellsRow.domain false Rows.planTellsRow.laid) (((OpenSpec.ofChange Rows.planTellsSpec).at F).post enc Tryz.prog Tryz.f3 false true false false) := by
 refine returnsInHanded_of_row (C := Tryz.checked) (s := (OpenSpec.ofChange Rows.planTellsSpec)) own started (by kernel_rfl) Tryz.func3 (m9 os enc) ?_
 intro W base args ds gs before hval hW _ hcond _ hL hsh _
 rw [MakeChecks.laidMetH_plain _ _ _ (by kernel_rfl)] at hL
 letI E : ErrAt := ⟨⟩
 have hgs : gs = [] := by
  obtain ⟨p, q, _, hV, _⟩ := hW
  exact (trodVars_none hV).1
 subst hgs
 refine aw (fn := Tryz.f3) (tb := 4) kids full vf (fun t ht => ?_) Tryz.underlying4 (by kernel_rfl) rfl (fun ds hd => ?_) hval hW (glob hsh hL) (fun ys hy => main ds ys hy)
 ·rw [Tryz.params3] at ht
  refine ⟨?_, ?_⟩
  ·have : ∀ t ∈ [22, 23, 3], t ∈ [22, 23, 55, 47, 34, 53, 60, 58, 9, 3, 2] := by decide
   exact this t ht
  have : ([22, 23, 3].all fun t => decide (t < Tryz.prog.types.size)) = true := by kernel_rfl
  exact of_decide_eq_true (List.all_eq_true.1 this t ht)
 have e : Tryz.f3.params.size = 3 := by rw [Tryz.params3]; rfl
 rw [e] at hd
 match ds, hd with
 | [_, _, _], _ => rfl
theorem ca : Tryz.pinned.checked.prog.funcNamed Rows.planTellsRow.func = some 3 := by kernel_rfl
theorem Xs : joinedFacts Tryz.pinned.checked.prog 3 Tryz.f3 (OpenSpec.ofChange Rows.planTellsSpec).bare Rows.planTellsRow = true := by kernel_rfl
theorem cb : Tryz.f3.isInstance Tryz.pinned.checked.prog Rows.planTellsRow.origin Rows.planTellsRow.targs := of_decide_eq_true (by kernel_rfl)
theorem cd : Tryz.f3.isWrapper Tryz.pinned.checked.prog Rows.planTellsRow.wrapper Rows.planTellsRow.mainSum := by
 unfold Func.isWrapper
 first | (rw [if_pos (by decide +kernel)]; kernel_rfl) | (rw [if_neg (by decide +kernel)]; exact ⟨rfl, rfl⟩)
theorem yd : Rows.PlanTellsSaid :=
 OpenClaim.holds_of_cond 3 Tryz.f3 rfl rfl rfl rfl rfl rfl rfl ⟨rfl, rfl, rfl, rfl, rfl⟩ rfl rfl rfl rfl rfl ca Tryz.func3 Xs
  cb cd
  (fun os started H enc _ F => by rw [OpenClaim.pre_eq_preRow]; exact pt os started H enc F)
theorem ma (f : FuncId) (fn : Func) (hf : Tryz.pinned.checked.prog.funcNamed "needlebeam/needlebeamlaw27.PlanTells" = some f) (hfn : Tryz.pinned.checked.prog.funcs[f]? = some fn) :
  false = Tryz.pinned.checked.prog.looks [] ∧ ∀ (j : Nat) t, fn.params[j]? = some t → Tryz.pinned.checked.prog.wantsStandIn t = false := by
 obtain rfl : f = 3 := Option.some.inj ((show Tryz.prog.funcNamed "needlebeam/needlebeamlaw27.PlanTells" = some 3 by kernel_rfl).symm.trans hf) |>.symm
 obtain rfl : fn = Tryz.f3 := (Option.some.inj (Tryz.func3.symm.trans hfn)).symm
 refine ⟨by kernel_rfl, fun j t ht => ?_⟩
 rw [Tryz.params3] at ht
 have hm : t ∈ [22, 23, 3] := by simpa using Array.mem_of_getElem? ht
 have hall : ([22, 23, 3].all fun u => !Tryz.prog.wantsStandIn u) = true := by kernel_rfl
 exact (show Tryz.prog.wantsStandIn t = false by simpa using List.all_eq_true.1 hall t hm)
theorem plan_tells_card : Rows.PlanTellsCardSaid :=
 Claim7.holds_tied_plain_at .later [] _ _ _ _ yd (fun _ h => by cases h) (by kernel_rfl) (fun _ h => by cases h) planTells_row_tie rfl ⟨rfl, rfl⟩ (by kernel_rfl) rfl ma (by kernel_rfl)
end Go.Proofs.YtbiheojgmikfpaaGreatDoor
