/- ImageBack answers true for whatever it is handed: the row back, and the old row, or the errors, are what the chapter says; what comes back is a row over the columns. -/
import Derived.Test.YtejjpdbfdmdgpaaGreatDoorImageBackCardSaidPart12
set_option linter.all false
namespace Go.Proofs.YtejjpdbfdmdgpaaGreatDoor
open Go Go.SX Go.SX.Nb Go.ChangeShapes Go.RowKit
set_option maxRecDepth 100000
theorem plain : PlainT Tryz.prog (· ∈ [22, 23, 54, 36, 51, 52, 62, 42, 24, 9, 3, 2]) := ⟨fun t ht => by
 simp only [List.mem_cons, List.mem_nil_iff, or_false] at ht
 rcases ht with rfl | rfl | rfl | rfl | rfl | rfl | rfl | rfl | rfl | rfl | rfl | rfl
 ·exact .inl ⟨by kernel_rfl, .inr (.inr (.inr ⟨_, Tryz.underlying22, by simp, by rw [show Tryz.prog.cellsOf 36 = 2 by kernel_rfl]; decide⟩))⟩
 ·exact .inl ⟨by kernel_rfl, .inr (.inr (.inr ⟨_, Tryz.underlying23, by simp, by rw [show Tryz.prog.cellsOf 54 = 5 by kernel_rfl]; decide⟩))⟩
 ·refine .inr ⟨_, Tryz.underlying54, fun f hf => ?_, kids.struct (of_decide_eq_true (by kernel_rfl)) Tryz.underlying54 |>.2⟩
  simp only [List.mem_cons, List.mem_nil_iff, or_false] at hf
  rcases hf with rfl | rfl | rfl | rfl | rfl <;> simp
 ·refine .inr ⟨_, Tryz.underlying36, fun f hf => ?_, kids.struct (of_decide_eq_true (by kernel_rfl)) Tryz.underlying36 |>.2⟩
  simp only [List.mem_cons, List.mem_nil_iff, or_false] at hf
  rcases hf with rfl | rfl <;> simp
 ·exact .inl ⟨by kernel_rfl, .inr (.inr (.inr ⟨_, Tryz.underlying51, by simp, by rw [show Tryz.prog.cellsOf 9 = 1 by kernel_rfl]; decide⟩))⟩
 ·exact .inl ⟨by kernel_rfl, .inr (.inr (.inr ⟨_, Tryz.underlying52, by simp, by rw [show Tryz.prog.cellsOf 62 = 6 by kernel_rfl]; decide⟩))⟩
 ·refine .inr ⟨_, Tryz.underlying62, fun f hf => ?_, kids.struct (of_decide_eq_true (by kernel_rfl)) Tryz.underlying62 |>.2⟩
  simp only [List.mem_cons, List.mem_nil_iff, or_false] at hf
  rcases hf with rfl | rfl | rfl | rfl <;> simp
 ·refine .inr ⟨_, Tryz.underlying42, fun f hf => ?_, kids.struct (of_decide_eq_true (by kernel_rfl)) Tryz.underlying42 |>.2⟩
  simp only [List.mem_cons, List.mem_nil_iff, or_false] at hf
  rcases hf with rfl | rfl | rfl <;> simp
 ·exact .inl ⟨by kernel_rfl, .inr (.inr (.inr ⟨_, Tryz.underlying24, by simp, by rw [show Tryz.prog.cellsOf 42 = 3 by kernel_rfl]; decide⟩))⟩
 ·exact .inl ⟨by kernel_rfl, .inr (.inr (.inl Tryz.underlying9))⟩
 ·exact .inl ⟨by kernel_rfl, .inl ⟨_, Tryz.underlying3⟩⟩
 exact .inl ⟨by kernel_rfl, .inl ⟨_, Tryz.underlying2⟩⟩⟩
theorem AKq {H : Type} [ErrAt] (d : DataW H) (y : AV) (h : DRep Tryz.prog 36 d y) : ∃ c : Col, y = Bj c := by
 obtain ⟨ys, hn, rfl, hh⟩ := h.struct' t8 Tryz.underlying36
 match ys, hn with
 | [y0, y1], _ =>
  obtain ⟨d0, b0, h0⟩ := hh 0 _ y0 rfl rfl
  obtain ⟨d1, b1, h1⟩ := hh 1 _ y1 rfl rfl
  obtain ⟨s, rfl, rfl⟩ := h0.str' Tryz.underlying9
  obtain ⟨k, rfl, rfl, _⟩ := h1.int' Tryz.underlying3
  exact ⟨⟨s, k⟩, rfl⟩
theorem pz {H : Type} [ErrAt] (d : DataW H) (y : AV) (h : DRep Tryz.prog 22 d y) : ∃ c : List Col, y = An c := by
 obtain ⟨l, rfl, _⟩ := h.slice' t8 Bj (fun _ => True) Tryz.underlying22 (Nat.le_refl _) (fun d y _ hr => (AKq d y hr).imp fun c h => ⟨h, trivial⟩)
 exact ⟨l, by rw [show Tryz.prog.cellsOf 36 = 2 by kernel_rfl]⟩
theorem AGt {H : Type} [ErrAt] (d : DataW H) (y : AV) (h : DRep Tryz.prog 51 d y) : ∃ l : List Str, y = Gg l := by
 obtain ⟨l, rfl, _⟩ := h.slice' t8 Af (fun _ => True) Tryz.underlying51 (Nat.le_refl _) (fun d y _ hr => by
  obtain ⟨s, rfl, rfl⟩ := hr.str' Tryz.underlying9
  exact ⟨s, rfl, trivial⟩)
 exact ⟨l, by rw [show Tryz.prog.cellsOf 9 = 1 by kernel_rfl]⟩
theorem gh {H : Type} [ErrAt] (d : DataW H) (y : AV) (h : DRep Tryz.prog 52 d y) : ∃ l : List Nb.Expr, y = L8 l ∧ ∀ e ∈ l, Et L5 e = true := by
 obtain ⟨l, rfl, hl⟩ := (AEs h).2 rfl
 exact ⟨l, rfl, (F3 _ _).1 hl⟩
theorem AKr {H : Type} [ErrAt] (d : DataW H) (y : AV) (h : DRep Tryz.prog 54 d y) : ∃ m : Mov, y = Fv m ∧ RngMv m := by
 obtain ⟨ys, hn, rfl, hh⟩ := h.struct' t8 Tryz.underlying54
 match ys, hn with
 | [y0, y1, y2, y3, y4], _ =>
  obtain ⟨d0, b0, h0⟩ := hh 0 _ y0 rfl rfl
  obtain ⟨d1, b1, h1⟩ := hh 1 _ y1 rfl rfl
  obtain ⟨d2, b2, h2⟩ := hh 2 _ y2 rfl rfl
  obtain ⟨d3, b3, h3⟩ := hh 3 _ y3 rfl rfl
  obtain ⟨d4, b4, h4⟩ := hh 4 _ y4 rfl rfl
  obtain ⟨k, rfl, rfl, _⟩ := h0.int' Tryz.underlying3
  obtain ⟨t, rfl⟩ := AGt d1 y1 h1
  obtain ⟨g, rfl⟩ := pz d2 y2 h2
  obtain ⟨a, rfl, ha⟩ := gh d3 y3 h3
  obtain ⟨b, rfl, hb⟩ := gh d4 y4 h4
  exact ⟨⟨k, t, g, a, b⟩, rfl, ⟨ha, hb⟩⟩
theorem AGu {H : Type} [ErrAt] (d : DataW H) (y : AV) (h : DRep Tryz.prog 23 d y) : ∃ l : List Mov, y = E6 l ∧ ∀ m ∈ l, RngMv m := by
 obtain ⟨l, rfl, hl⟩ := h.slice' t8 Fv RngMv Tryz.underlying23 (Nat.le_refl _) (fun d y _ hr => AKr d y hr)
 exact ⟨l, by rw [show Tryz.prog.cellsOf 54 = 5 by kernel_rfl], hl.2⟩
theorem AC9 {H : Type} [ErrAt] (d : DataW H) (y : AV) (h : DRep Tryz.prog 24 d y) : ∃ l : List Val, y = Br l ∧ ∀ v ∈ l, -9223372036854775808 ≤ v.n ∧ v.n ≤ 9223372036854775807 := by
 obtain ⟨l, rfl, hl⟩ := h.slice' t8 Bi (fun v => -9223372036854775808 ≤ v.n ∧ v.n ≤ 9223372036854775807) Tryz.underlying24 (Nat.le_refl _) (fun d y _ hr => (vt d y hr).imp fun c h => ⟨h.1, h.2⟩)
 exact ⟨l, by rw [show Tryz.prog.cellsOf 42 = 3 by kernel_rfl], hl.2⟩
theorem main {H : Type} [ErrAt] (ds : List (DataW H)) (ys : List AV) (h : DReps Tryz.prog Tryz.f3.params.toList ds ys) : AFun Tryz.prog 3 ys [] (B4 true) := by
 rw [Tryz.params3] at h
 obtain ⟨d0, ds, y0, ys, rfl, rfl, h0, h⟩ := h.cons'
 obtain ⟨d1, ds, y1, ys, rfl, rfl, h1, h⟩ := h.cons'
 obtain ⟨d2, ds, y2, ys, rfl, rfl, h2, h⟩ := h.cons'
 obtain ⟨rfl, rfl⟩ := h.nil'
 obtain ⟨c, rfl⟩ := pz d0 y0 h0
 obtain ⟨l, rfl, hl⟩ := AGu d1 y1 h1
 obtain ⟨r, rfl, hr⟩ := AC9 d2 y2 h2
 exact c3 c l hl r hr []
theorem AGv (os : Os) : laidMet Tryz.prog Rows.imageBackRow.laid ((World.laidAll Tryz.prog os Rows.imageBackRow.laid).forCall (fun _ _ => 0) ⟨#[], #[.slice none 0 0, .slice none 0 0, .slice none 0 0], []⟩).memory :=
 laidMet_laidAll _ (by kernel_rfl) (by kernel_rfl)
theorem ASj (os : Os) {H : Type} (enc : TypeId × Value → H) : DataW.whole enc Tryz.prog ((World.laidAll Tryz.prog os Rows.imageBackRow.laid).forCall (fun _ _ => 0) ⟨#[], #[.slice none 0 0, .slice none 0 0, .slice none 0 0], []⟩).memory Tryz.f3.params.toList Rows.imageBackSpec.vars false
  #[.slice none 0 0, .slice none 0 0, .slice none 0 0].toList 8 = some ([.nil, .nil, .nil], [], []) := by kernel_rfl
theorem AKs (os : Os) {H : Type} (enc : TypeId × Value → H) : ∃ (w : World) (tape : Tape) (i : Input), w.os = os ∧ (w.forCall tape i).Shaped Tryz.prog ∧ i.vars = [] ∧ Input.okWide Tryz.prog (w.forCall tape i) .any w.heap.size 3 i ∧
   (OpenSpec.ofChange Rows.imageBackSpec).preRow enc Tryz.prog Tryz.f3 Rows.imageBackRow.domain false Rows.imageBackRow.laid (w.forCall tape i).memory i.args ∧ ({ modest := false } : Assume).holds Tryz.prog (lone (Frame.enter Tryz.prog 3 i.args .normal) [] (w.forCall tape i)) := by
 refine ⟨World.laidAll Tryz.prog os Rows.imageBackRow.laid, fun _ _ => 0, ⟨#[], #[.slice none 0 0, .slice none 0 0, .slice none 0 0], []⟩, World.laidAll_os _ _ _, World.shaped_of_ZipB (by kernel_rfl) (by kernel_rfl), rfl, (Input.okWide_of_okWideB (by kernel_rfl)).2,
  OpenSpec.preRow_of_cond 8 (ASj os enc) (by kernel_rfl) (fun k hk => by cases hk) (by kernel_rfl) ?_, ?_⟩
 ·rw [MakeChecks.laidMetH_plain _ _ _ (by kernel_rfl)]
  exact AGv os
 simp only [Assume.holds]
 exact ⟨by simp, by simp, fun h => (by cases h), by simp, by simp⟩
theorem AO5 (os : Os) (started : os.Started) (H : Type) (enc : TypeId × Value → H) (F : Stop.Interp) :
  ReturnsInHanded {} Tryz.checked os 3 .any ((OpenSpec.ofChange Rows.imageBackSpec).preRow enc Tryz.prog Tryz.f3 Rows.imageBackRow.domain false Rows.imageBackRow.laid) (((OpenSpec.ofChange Rows.imageBackSpec).at F).post enc Tryz.prog Tryz.f3 false true false false) := by
 refine returnsInHanded_of_row (C := Tryz.checked) (s := (OpenSpec.ofChange Rows.imageBackSpec)) own started (by kernel_rfl) Tryz.func3 (AKs os enc) ?_
 intro W base args ds gs before hval hW _ hcond _ hL hsh _
 rw [MakeChecks.laidMetH_plain _ _ _ (by kernel_rfl)] at hL
 obtain ⟨b, hbv⟩ := AI4 hL
 letI E : ErrAt := { b := b }
 have hgs : gs = [] := by
  obtain ⟨p, q, _, hV, _⟩ := hW
  exact (trodVars_none hV).1
 subst hgs
 refine zw (fn := Tryz.f3) (tb := 4) kids full plain (fun t ht => ?_) Tryz.underlying4 (by kernel_rfl) rfl (fun ds hd => ?_) hval hW (glob hsh hL hbv) (fun ys hy => main ds ys hy)
 ·rw [Tryz.params3] at ht
  refine ⟨?_, ?_⟩
  ·have : ∀ t ∈ [22, 23, 24], t ∈ [22, 23, 54, 36, 51, 52, 62, 42, 24, 9, 3, 2] := by decide
   exact this t ht
  have : ([22, 23, 24].all fun t => decide (t < Tryz.prog.types.size)) = true := by kernel_rfl
  exact of_decide_eq_true (List.all_eq_true.1 this t ht)
 have e : Tryz.f3.params.size = 3 := by rw [Tryz.params3]; rfl
 rw [e] at hd
 match ds, hd with
 | [_, _, _], _ => rfl
theorem AVh : Rows.ImageBackSaid :=
 OpenClaim.holds_of_cond 3 Tryz.f3 rfl rfl rfl rfl rfl rfl rfl ⟨rfl, rfl, rfl, rfl, rfl⟩ rfl rfl rfl rfl rfl AC5 Tryz.func3 ux
  AC7 AC8
  (fun os started H enc _ F => by rw [OpenClaim.pre_eq_preRow]; exact AO5 os started H enc F)
theorem AKt (f : FuncId) (fn : Func) (hf : Tryz.pinned.checked.prog.funcNamed "needlebeam/needlebeamlaw20.ImageBack" = some f) (hfn : Tryz.pinned.checked.prog.funcs[f]? = some fn) :
  true = Tryz.pinned.checked.prog.looks [] ∧ ∀ (j : Nat) t, fn.params[j]? = some t → Tryz.pinned.checked.prog.wantsStandIn t = false := by
 obtain rfl : f = 3 := Option.some.inj ((show Tryz.prog.funcNamed "needlebeam/needlebeamlaw20.ImageBack" = some 3 by kernel_rfl).symm.trans hf) |>.symm
 obtain rfl : fn = Tryz.f3 := (Option.some.inj (Tryz.func3.symm.trans hfn)).symm
 refine ⟨by kernel_rfl, fun j t ht => ?_⟩
 rw [Tryz.params3] at ht
 have hm : t ∈ [22, 23, 24] := by simpa using Array.mem_of_getElem? ht
 have hall : ([22, 23, 24].all fun u => !Tryz.prog.wantsStandIn u) = true := by kernel_rfl
 exact (show Tryz.prog.wantsStandIn t = false by simpa using List.all_eq_true.1 hall t hm)
theorem image_back_card : Rows.ImageBackCardSaid :=
 Claim7.holds_tied_plain_at .later [] _ _ _ _ AVh (fun _ h => by cases h) (by kernel_rfl) (fun _ h => by cases h) imageBack_row_tie rfl ⟨rfl, rfl⟩ (by kernel_rfl) rfl AKt AC6
end Go.Proofs.YtejjpdbfdmdgpaaGreatDoor
