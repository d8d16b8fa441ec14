/- MigPrints answers true for whatever it is handed: any migration that is right has the text that the chapter says, and is parsed from it as it was, unless brackets nest too deep; any other one has none (up to 12 moves, trees of up to 500 nodes). -/
import Derived.Test.YtlafnblklafbkaaGreatDoorMigPrintsCardSaidPart11
set_option linter.all false
namespace Go.Proofs.YtlafnblklafbkaaGreatDoor
open Go Go.SX Go.SX.Nb Go.ChangeShapes Go.RowKit
set_option maxRecDepth 100000
theorem plain : PlainT Tryz.prog (· ∈ [40, 23, 47, 64, 29, 45, 69, 67, 9, 3, 2]) := ⟨fun t ht => by
 simp only [List.mem_cons, List.mem_nil_iff, or_false] at ht
 rcases ht with rfl | rfl | rfl | rfl | rfl | rfl | rfl | rfl | rfl | rfl | rfl
 ·exact .inl ⟨by kernel_rfl, .inr (.inr (.inr ⟨_, Tryz.underlying40, by simp, by rw [show Tryz.prog.cellsOf 64 = 2 by kernel_rfl]; decide⟩))⟩
 ·exact .inl ⟨by kernel_rfl, .inr (.inr (.inr ⟨_, Tryz.underlying23, by simp, by rw [show Tryz.prog.cellsOf 47 = 5 by kernel_rfl]; decide⟩))⟩
 ·refine .inr ⟨_, Tryz.underlying47, fun f hf => ?_, kids.struct (of_decide_eq_true (by kernel_rfl)) Tryz.underlying47 |>.2⟩
  simp only [List.mem_cons, List.mem_nil_iff, or_false] at hf
  rcases hf with rfl | rfl | rfl | rfl | rfl <;> simp
 ·refine .inr ⟨_, Tryz.underlying64, fun f hf => ?_, kids.struct (of_decide_eq_true (by kernel_rfl)) Tryz.underlying64 |>.2⟩
  simp only [List.mem_cons, List.mem_nil_iff, or_false] at hf
  rcases hf with rfl | rfl <;> simp
 ·exact .inl ⟨by kernel_rfl, .inr (.inr (.inr ⟨_, Tryz.underlying29, by simp, by rw [show Tryz.prog.cellsOf 9 = 1 by kernel_rfl]; decide⟩))⟩
 ·exact .inl ⟨by kernel_rfl, .inr (.inr (.inr ⟨_, Tryz.underlying45, by simp, by rw [show Tryz.prog.cellsOf 69 = 6 by kernel_rfl]; decide⟩))⟩
 ·refine .inr ⟨_, Tryz.underlying69, fun f hf => ?_, kids.struct (of_decide_eq_true (by kernel_rfl)) Tryz.underlying69 |>.2⟩
  simp only [List.mem_cons, List.mem_nil_iff, or_false] at hf
  rcases hf with rfl | rfl | rfl | rfl <;> simp
 ·refine .inr ⟨_, Tryz.underlying67, fun f hf => ?_, kids.struct (of_decide_eq_true (by kernel_rfl)) Tryz.underlying67 |>.2⟩
  simp only [List.mem_cons, List.mem_nil_iff, or_false] at hf
  rcases hf with rfl | rfl | rfl <;> simp
 ·exact .inl ⟨by kernel_rfl, .inr (.inr (.inl Tryz.underlying9))⟩
 ·exact .inl ⟨by kernel_rfl, .inl ⟨_, Tryz.underlying3⟩⟩
 exact .inl ⟨by kernel_rfl, .inl ⟨_, Tryz.underlying2⟩⟩⟩
theorem wr {H : Type} [ErrAt] (d : DataW H) (y : AV) (h : DRep Tryz.prog 64 d y) : ∃ c : Col, y = Bu c := by
 obtain ⟨ys, hn, rfl, hh⟩ := h.struct' kb Tryz.underlying64
 match ys, hn with
 | [y0, y1], _ =>
  obtain ⟨d0, b0, h0⟩ := hh 0 _ y0 rfl rfl
  obtain ⟨d1, b1, h1⟩ := hh 1 _ y1 rfl rfl
  obtain ⟨s, rfl, rfl⟩ := h0.str' Tryz.underlying9
  obtain ⟨k, rfl, rfl, _⟩ := h1.int' Tryz.underlying3
  exact ⟨⟨s, k⟩, rfl⟩
theorem se {H : Type} [ErrAt] (d : DataW H) (y : AV) (h : DRep Tryz.prog 40 d y) : ∃ c : List Col, y = Mi c := by
 obtain ⟨l, rfl, _⟩ := h.slice' kb Bu (fun _ => True) Tryz.underlying40 (Nat.le_refl _) (fun d y _ hr => (wr d y hr).imp fun c h => ⟨h, trivial⟩)
 exact ⟨l, by rw [show Tryz.prog.cellsOf 64 = 2 by kernel_rfl]⟩
theorem sg {H : Type} [ErrAt] (d : DataW H) (y : AV) (h : DRep Tryz.prog 29 d y) : ∃ l : List Str, y = Du l := by
 obtain ⟨l, rfl, _⟩ := h.slice' kb Aa (fun _ => True) Tryz.underlying29 (Nat.le_refl _) (fun d y _ hr => by
  obtain ⟨s, rfl, rfl⟩ := hr.str' Tryz.underlying9
  exact ⟨s, rfl, trivial⟩)
 exact ⟨l, by rw [show Tryz.prog.cellsOf 9 = 1 by kernel_rfl]⟩
theorem V9 {H : Type} [ErrAt] (d : DataW H) (y : AV) (h : DRep Tryz.prog 45 d y) : ∃ l : List Nb.Expr, y = Ip l ∧ ∀ e ∈ l, B0 D6 e = true := by
 obtain ⟨l, rfl, hl⟩ := (ou h).2 rfl
 exact ⟨l, rfl, (Bv _ _).1 hl⟩
theorem wt {H : Type} [ErrAt] (d : DataW H) (y : AV) (h : DRep Tryz.prog 47 d y) : ∃ m : Mov, y = Dp m ∧ RngMv m := by
 obtain ⟨ys, hn, rfl, hh⟩ := h.struct' kb Tryz.underlying47
 match ys, hn with
 | [y0, y1, y2, y3, y4], _ =>
  obtain ⟨d0, b0, h0⟩ := hh 0 _ y0 rfl rfl
  obtain ⟨d1, b1, h1⟩ := hh 1 _ y1 rfl rfl
  obtain ⟨d2, b2, h2⟩ := hh 2 _ y2 rfl rfl
  obtain ⟨d3, b3, h3⟩ := hh 3 _ y3 rfl rfl
  obtain ⟨d4, b4, h4⟩ := hh 4 _ y4 rfl rfl
  obtain ⟨k, rfl, rfl, _⟩ := h0.int' Tryz.underlying3
  obtain ⟨t, rfl⟩ := sg d1 y1 h1
  obtain ⟨g, rfl⟩ := se d2 y2 h2
  obtain ⟨a, rfl, ha⟩ := V9 d3 y3 h3
  obtain ⟨b, rfl, hb⟩ := V9 d4 y4 h4
  exact ⟨⟨k, t, g, a, b⟩, rfl, ⟨ha, hb⟩⟩
theorem Zu {H : Type} [ErrAt] (d : DataW H) (y : AV) (h : DRep Tryz.prog 23 d y) : ∃ l : List Mov, y = Ca l ∧ ∀ m ∈ l, RngMv m := by
 obtain ⟨l, rfl, hl⟩ := h.slice' kb Dp RngMv Tryz.underlying23 (Nat.le_refl _) (fun d y _ hr => wt d y hr)
 exact ⟨l, by rw [show Tryz.prog.cellsOf 47 = 5 by kernel_rfl], hl.2⟩
theorem main {H : Type} [ErrAt] (ds : List (DataW H)) (ys : List AV) (h : DReps Tryz.prog Tryz.f5.params.toList ds ys) : AFun Tryz.prog 5 ys [] (Ap true) := by
 rw [Tryz.params5] at h
 obtain ⟨d0, ds, y0, ys, rfl, rfl, h0, h⟩ := h.cons'
 obtain ⟨d1, ds, y1, ys, rfl, rfl, h1, h⟩ := h.cons'
 obtain ⟨rfl, rfl⟩ := h.nil'
 obtain ⟨a, rfl, ha⟩ := Zu d0 y0 h0
 obtain ⟨b, rfl, hb⟩ := Zu d1 y1 h1
 exact c5 a b ha hb []
theorem sh (os : Os) : laidMet Tryz.prog Rows.migPrintsRow.laid ((World.laidAll Tryz.prog os Rows.migPrintsRow.laid).forCall (fun _ _ => 0) ⟨#[], #[.slice none 0 0, .slice none 0 0], []⟩).memory :=
 laidMet_laidAll _ (by kernel_rfl) (by kernel_rfl)
theorem ACg (os : Os) {H : Type} (enc : TypeId × Value → H) : DataW.whole enc Tryz.prog ((World.laidAll Tryz.prog os Rows.migPrintsRow.laid).forCall (fun _ _ => 0) ⟨#[], #[.slice none 0 0, .slice none 0 0], []⟩).memory Tryz.f5.params.toList Rows.migPrintsSpec.vars false
  #[.slice none 0 0, .slice none 0 0].toList 8 = some ([.nil, .nil], [], []) := by kernel_rfl
theorem wu (os : Os) {H : Type} (enc : TypeId × Value → H) : ∃ (w : World) (tape : Tape) (i : Input), w.os = os ∧ (w.forCall tape i).Shaped Tryz.prog ∧ i.vars = [] ∧ Input.okWide Tryz.prog (w.forCall tape i) .any w.heap.size 5 i ∧
   (OpenSpec.ofChange Rows.migPrintsSpec).preRow enc Tryz.prog Tryz.f5 Rows.migPrintsRow.domain false Rows.migPrintsRow.laid (w.forCall tape i).memory i.args ∧ ({ modest := false } : Assume).holds Tryz.prog (lone (Frame.enter Tryz.prog 5 i.args .normal) [] (w.forCall tape i)) := by
 refine ⟨World.laidAll Tryz.prog os Rows.migPrintsRow.laid, fun _ _ => 0, ⟨#[], #[.slice none 0 0, .slice none 0 0], []⟩, World.laidAll_os _ _ _, World.shaped_of_ZipB (by kernel_rfl) (by kernel_rfl), rfl, (Input.okWide_of_okWideB (by kernel_rfl)).2,
  OpenSpec.preRow_of_cond 8 (ACg os enc) (by kernel_rfl) (fun k hk => by cases hk) (by kernel_rfl) ?_, ?_⟩
 ·rw [MakeChecks.laidMetH_plain _ _ _ (by kernel_rfl)]
  exact sh os
 simp only [Assume.holds]
 exact ⟨by simp, by simp, fun h => (by cases h), by simp, by simp⟩
theorem zn (os : Os) (started : os.Started) (H : Type) (enc : TypeId × Value → H) (F : Stop.Interp) :
  ReturnsInHanded {} Tryz.checked os 5 .any ((OpenSpec.ofChange Rows.migPrintsSpec).preRow enc Tryz.prog Tryz.f5 Rows.migPrintsRow.domain false Rows.migPrintsRow.laid) (((OpenSpec.ofChange Rows.migPrintsSpec).at F).post enc Tryz.prog Tryz.f5 false true false false) := by
 refine returnsInHanded_of_row (C := Tryz.checked) (s := (OpenSpec.ofChange Rows.migPrintsSpec)) own started (by kernel_rfl) Tryz.func5 (wu os enc) ?_
 intro W base args ds gs before hval hW _ hcond _ hL hsh _
 rw [MakeChecks.laidMetH_plain _ _ _ (by kernel_rfl)] at hL
 obtain ⟨b, hbv⟩ := uc hL
 letI E : ErrAt := { b := b }
 have hgs : gs = [] := by
  obtain ⟨p, q, _, hV, _⟩ := hW
  exact (trodVars_none hV).1
 subst hgs
 refine k9 (fn := Tryz.f5) (tb := 4) kids full plain (fun t ht => ?_) Tryz.underlying4 (by kernel_rfl) rfl (fun ds hd => ?_) hval hW (glob hsh hL hbv) (fun ys hy => main ds ys hy)
 ·rw [Tryz.params5] at ht
  refine ⟨?_, ?_⟩
  ·have : ∀ t ∈ [23, 23], t ∈ [40, 23, 47, 64, 29, 45, 69, 67, 9, 3, 2] := by decide
   exact this t ht
  have : ([23, 23].all fun t => decide (t < Tryz.prog.types.size)) = true := by kernel_rfl
  exact of_decide_eq_true (List.all_eq_true.1 this t ht)
 have e : Tryz.f5.params.size = 2 := by rw [Tryz.params5]; rfl
 rw [e] at hd
 match ds, hd with
 | [_, _], _ => rfl
theorem md : Tryz.pinned.checked.prog.funcNamed Rows.migPrintsRow.func = some 5 := by kernel_rfl
theorem dz : joinedFacts Tryz.pinned.checked.prog 5 Tryz.f5 (OpenSpec.ofChange Rows.migPrintsSpec).bare Rows.migPrintsRow = true := by kernel_rfl
theorem me : Tryz.f5.isInstance Tryz.pinned.checked.prog Rows.migPrintsRow.origin Rows.migPrintsRow.targs := of_decide_eq_true (by kernel_rfl)
theorem mf : Tryz.f5.isWrapper Tryz.pinned.checked.prog Rows.migPrintsRow.wrapper Rows.migPrintsRow.mainSum := by
 unfold Func.isWrapper
 first | (rw [if_pos (by decide +kernel)]; kernel_rfl) | (rw [if_neg (by decide +kernel)]; exact ⟨rfl, rfl⟩)
theorem AEj : Rows.MigPrintsSaid :=
 OpenClaim.holds_of_cond 5 Tryz.f5 rfl rfl rfl rfl rfl rfl rfl ⟨rfl, rfl, rfl, rfl, rfl⟩ rfl rfl rfl rfl rfl md Tryz.func5 dz
  me mf
  (fun os started H enc _ F => by rw [OpenClaim.pre_eq_preRow]; exact zn os started H enc F)
theorem wv (f : FuncId) (fn : Func) (hf : Tryz.pinned.checked.prog.funcNamed "needlebeam/needlebeamlaw18.MigPrints" = some f) (hfn : Tryz.pinned.checked.prog.funcs[f]? = some fn) :
  true = Tryz.pinned.checked.prog.looks [] ∧ ∀ (j : Nat) t, fn.params[j]? = some t → Tryz.pinned.checked.prog.wantsStandIn t = false := by
 obtain rfl : f = 5 := Option.some.inj ((show Tryz.prog.funcNamed "needlebeam/needlebeamlaw18.MigPrints" = some 5 by kernel_rfl).symm.trans hf) |>.symm
 obtain rfl : fn = Tryz.f5 := (Option.some.inj (Tryz.func5.symm.trans hfn)).symm
 refine ⟨by kernel_rfl, fun j t ht => ?_⟩
 rw [Tryz.params5] at ht
 have hm : t ∈ [23, 23] := by simpa using Array.mem_of_getElem? ht
 have hall : ([23, 23].all fun u => !Tryz.prog.wantsStandIn u) = true := by kernel_rfl
 exact (show Tryz.prog.wantsStandIn t = false by simpa using List.all_eq_true.1 hall t hm)
theorem mig_prints_card : Rows.MigPrintsCardSaid :=
 Claim7.holds_tied_plain_at .later [] _ _ _ _ AEj (fun _ h => by cases h) (by kernel_rfl) (fun _ h => by cases h) migPrints_row_tie rfl ⟨rfl, rfl⟩ (by kernel_rfl) rfl wv (by kernel_rfl)
end Go.Proofs.YtlafnblklafbkaaGreatDoor
