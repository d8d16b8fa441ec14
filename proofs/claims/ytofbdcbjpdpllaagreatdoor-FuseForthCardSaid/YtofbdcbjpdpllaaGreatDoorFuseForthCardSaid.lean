/- Each tree that fuse makes comes to the value that stands there, forth and back: FuseForth answers true for whatever can be read. -/
import Derived.Test.YtofbdcbjpdpllaaGreatDoorFuseForthCardSaidPart10
set_option linter.all false
namespace Go.Proofs.YtofbdcbjpdpllaaGreatDoor
open Go Go.SX Go.SX.Nb Go.ChangeShapes Go.RowKit
set_option maxRecDepth 100000
theorem plain : PlainT Tryz.prog (· ∈ [27, 46, 48, 41, 45, 24, 26, 23, 28, 9, 3, 2]) := ⟨fun t ht => by
 simp only [List.mem_cons, List.mem_nil_iff, or_false] at ht
 rcases ht with rfl | rfl | rfl | rfl | rfl | rfl | rfl | rfl | rfl | rfl | rfl | rfl
 ·exact .inl ⟨by kernel_rfl, .inr (.inr (.inr ⟨_, Tryz.underlying27, by simp, by rw [show Tryz.prog.cellsOf 41 = 2 by kernel_rfl]; decide⟩))⟩
 ·exact .inl ⟨by kernel_rfl, .inr (.inr (.inr ⟨_, Tryz.underlying46, by simp, by rw [show Tryz.prog.cellsOf 48 = 5 by kernel_rfl]; decide⟩))⟩
 ·refine .inr ⟨_, Tryz.underlying48, fun f hf => ?_, kids.struct (of_decide_eq_true (by kernel_rfl)) Tryz.underlying48 |>.2⟩
  simp only [List.mem_cons, List.mem_nil_iff, or_false] at hf
  rcases hf with rfl | rfl | rfl | rfl | rfl <;> simp
 ·refine .inr ⟨_, Tryz.underlying41, fun f hf => ?_, kids.struct (of_decide_eq_true (by kernel_rfl)) Tryz.underlying41 |>.2⟩
  simp only [List.mem_cons, List.mem_nil_iff, or_false] at hf
  rcases hf with rfl | rfl <;> simp
 ·exact .inl ⟨by kernel_rfl, .inr (.inr (.inr ⟨_, Tryz.underlying45, by simp, by rw [show Tryz.prog.cellsOf 9 = 1 by kernel_rfl]; decide⟩))⟩
 ·exact .inl ⟨by kernel_rfl, .inr (.inr (.inr ⟨_, Tryz.underlying24, by simp, by rw [show Tryz.prog.cellsOf 26 = 6 by kernel_rfl]; decide⟩))⟩
 ·refine .inr ⟨_, Tryz.underlying26, fun f hf => ?_, kids.struct (of_decide_eq_true (by kernel_rfl)) Tryz.underlying26 |>.2⟩
  simp only [List.mem_cons, List.mem_nil_iff, or_false] at hf
  rcases hf with rfl | rfl | rfl | rfl <;> simp
 ·refine .inr ⟨_, Tryz.underlying23, fun f hf => ?_, kids.struct (of_decide_eq_true (by kernel_rfl)) Tryz.underlying23 |>.2⟩
  simp only [List.mem_cons, List.mem_nil_iff, or_false] at hf
  rcases hf with rfl | rfl | rfl <;> simp
 ·exact .inl ⟨by kernel_rfl, .inr (.inr (.inr ⟨_, Tryz.underlying28, by simp, by rw [show Tryz.prog.cellsOf 23 = 3 by kernel_rfl]; decide⟩))⟩
 ·exact .inl ⟨by kernel_rfl, .inr (.inr (.inl Tryz.underlying9))⟩
 ·exact .inl ⟨by kernel_rfl, .inl ⟨_, Tryz.underlying3⟩⟩
 exact .inl ⟨by kernel_rfl, .inl ⟨_, Tryz.underlying2⟩⟩⟩
theorem AIc {H : Type} [ErrAt] (d : DataW H) (y : AV) (h : DRep Tryz.prog 41 d y) : ∃ c : Col, y = Bq c := by
 obtain ⟨ys, hn, rfl, hh⟩ := h.struct' qf Tryz.underlying41
 match ys, hn with
 | [y0, y1], _ =>
  obtain ⟨d0, b0, h0⟩ := hh 0 _ y0 rfl rfl
  obtain ⟨d1, b1, h1⟩ := hh 1 _ y1 rfl rfl
  obtain ⟨s, rfl, rfl⟩ := h0.str' Tryz.underlying9
  obtain ⟨k, rfl, rfl, _⟩ := h1.int' Tryz.underlying3
  exact ⟨⟨s, k⟩, rfl⟩
theorem na {H : Type} [ErrAt] (d : DataW H) (y : AV) (h : DRep Tryz.prog 27 d y) : ∃ c : List Col, y = Am c := by
 obtain ⟨l, rfl, _⟩ := h.slice' qf Bq (fun _ => True) Tryz.underlying27 (Nat.le_refl _) (fun d y _ hr => (AIc d y hr).imp fun c h => ⟨h, trivial⟩)
 exact ⟨l, by rw [show Tryz.prog.cellsOf 41 = 2 by kernel_rfl]⟩
theorem AEq {H : Type} [ErrAt] (d : DataW H) (y : AV) (h : DRep Tryz.prog 45 d y) : ∃ l : List Str, y = Gq l := by
 obtain ⟨l, rfl, _⟩ := h.slice' qf Ae (fun _ => True) Tryz.underlying45 (Nat.le_refl _) (fun d y _ hr => by
  obtain ⟨s, rfl, rfl⟩ := hr.str' Tryz.underlying9
  exact ⟨s, rfl, trivial⟩)
 exact ⟨l, by rw [show Tryz.prog.cellsOf 9 = 1 by kernel_rfl]⟩
theorem ee {H : Type} [ErrAt] (d : DataW H) (y : AV) (h : DRep Tryz.prog 24 d y) : ∃ l : List Nb.Expr, y = Cj l ∧ ∀ e ∈ l, Dw Hs e = true := by
 obtain ⟨l, rfl, hl⟩ := (ACj h).2 rfl
 exact ⟨l, rfl, (E3 _ _).1 hl⟩
theorem AId {H : Type} [ErrAt] (d : DataW H) (y : AV) (h : DRep Tryz.prog 48 d y) : ∃ m : Mov, y = Gw m ∧ RngMv m := by
 obtain ⟨ys, hn, rfl, hh⟩ := h.struct' qf Tryz.underlying48
 match ys, hn with
 | [y0, y1, y2, y3, y4], _ =>
  obtain ⟨d0, b0, h0⟩ := hh 0 _ y0 rfl rfl
  obtain ⟨d1, b1, h1⟩ := hh 1 _ y1 rfl rfl
  obtain ⟨d2, b2, h2⟩ := hh 2 _ y2 rfl rfl
  obtain ⟨d3, b3, h3⟩ := hh 3 _ y3 rfl rfl
  obtain ⟨d4, b4, h4⟩ := hh 4 _ y4 rfl rfl
  obtain ⟨k, rfl, rfl, _⟩ := h0.int' Tryz.underlying3
  obtain ⟨t, rfl⟩ := AEq d1 y1 h1
  obtain ⟨g, rfl⟩ := na d2 y2 h2
  obtain ⟨a, rfl, ha⟩ := ee d3 y3 h3
  obtain ⟨b, rfl, hb⟩ := ee d4 y4 h4
  exact ⟨⟨k, t, g, a, b⟩, rfl, ⟨ha, hb⟩⟩
theorem AEr {H : Type} [ErrAt] (d : DataW H) (y : AV) (h : DRep Tryz.prog 46 d y) : ∃ l : List Mov, y = Ew l ∧ ∀ m ∈ l, RngMv m := by
 obtain ⟨l, rfl, hl⟩ := h.slice' qf Gw RngMv Tryz.underlying46 (Nat.le_refl _) (fun d y _ hr => AId d y hr)
 exact ⟨l, by rw [show Tryz.prog.cellsOf 48 = 5 by kernel_rfl], hl.2⟩
theorem AA5 {H : Type} [ErrAt] (d : DataW H) (y : AV) (h : DRep Tryz.prog 28 d y) : ∃ l : List Val, y = Cv l ∧ ∀ v ∈ l, -9223372036854775808 ≤ v.n ∧ v.n ≤ 9223372036854775807 := by
 obtain ⟨l, rfl, hl⟩ := h.slice' qf C3 (fun v => -9223372036854775808 ≤ v.n ∧ v.n ≤ 9223372036854775807) Tryz.underlying28 (Nat.le_refl _) (fun d y _ hr => (tt d y hr).imp fun c h => ⟨h.1, h.2⟩)
 exact ⟨l, by rw [show Tryz.prog.cellsOf 23 = 3 by kernel_rfl], hl.2⟩
theorem main {H : Type} [ErrAt] (ds : List (DataW H)) (ys : List AV) (h : DReps Tryz.prog Tryz.f7.params.toList ds ys) : AFun Tryz.prog 7 ys [] (Bk true) := by
 rw [Tryz.params7] at h
 obtain ⟨d0, ds, y0, ys, rfl, rfl, h0, h⟩ := h.cons'
 obtain ⟨d1, ds, y1, ys, rfl, rfl, h1, h⟩ := h.cons'
 obtain ⟨d2, ds, y2, ys, rfl, rfl, h2, h⟩ := h.cons'
 obtain ⟨rfl, rfl⟩ := h.nil'
 obtain ⟨c, rfl⟩ := na d0 y0 h0
 obtain ⟨l, rfl, hl⟩ := AEr d1 y1 h1
 obtain ⟨r, rfl, hr⟩ := AA5 d2 y2 h2
 exact c7 c l hl r hr []
theorem AEs (os : Os) : laidMet Tryz.prog Rows.fuseForthRow.laid ((World.laidAll Tryz.prog os Rows.fuseForthRow.laid).forCall (fun _ _ => 0) ⟨#[], #[.slice none 0 0, .slice none 0 0, .slice none 0 0], []⟩).memory :=
 laidMet_laidAll _ (by kernel_rfl) (by kernel_rfl)
theorem AOx (os : Os) {H : Type} (enc : TypeId × Value → H) : DataW.whole enc Tryz.prog ((World.laidAll Tryz.prog os Rows.fuseForthRow.laid).forCall (fun _ _ => 0) ⟨#[], #[.slice none 0 0, .slice none 0 0, .slice none 0 0], []⟩).memory Tryz.f7.params.toList Rows.fuseForthSpec.vars false
  #[.slice none 0 0, .slice none 0 0, .slice none 0 0].toList 8 = some ([.nil, .nil, .nil], [], []) := by kernel_rfl
theorem AIe (os : Os) {H : Type} (enc : TypeId × Value → H) : ∃ (w : World) (tape : Tape) (i : Input), w.os = os ∧ (w.forCall tape i).Shaped Tryz.prog ∧ i.vars = [] ∧ Input.okWide Tryz.prog (w.forCall tape i) .any w.heap.size 7 i ∧
   (OpenSpec.ofChange Rows.fuseForthSpec).preRow enc Tryz.prog Tryz.f7 Rows.fuseForthRow.domain false Rows.fuseForthRow.laid (w.forCall tape i).memory i.args ∧ ({ modest := false } : Assume).holds Tryz.prog (lone (Frame.enter Tryz.prog 7 i.args .normal) [] (w.forCall tape i)) := by
 refine ⟨World.laidAll Tryz.prog os Rows.fuseForthRow.laid, fun _ _ => 0, ⟨#[], #[.slice none 0 0, .slice none 0 0, .slice none 0 0], []⟩, World.laidAll_os _ _ _, World.shaped_of_ZipB (by kernel_rfl) (by kernel_rfl), rfl, (Input.okWide_of_okWideB (by kernel_rfl)).2,
  OpenSpec.preRow_of_cond 8 (AOx os enc) (by kernel_rfl) (fun k hk => by cases hk) (by kernel_rfl) ?_, ?_⟩
 ·rw [MakeChecks.laidMetH_plain _ _ _ (by kernel_rfl)]
  exact AEs os
 simp only [Assume.holds]
 exact ⟨by simp, by simp, fun h => (by cases h), by simp, by simp⟩
theorem AKx (os : Os) (started : os.Started) (H : Type) (enc : TypeId × Value → H) (F : Stop.Interp) :
  ReturnsInHanded {} Tryz.checked os 7 .any ((OpenSpec.ofChange Rows.fuseForthSpec).preRow enc Tryz.prog Tryz.f7 Rows.fuseForthRow.domain false Rows.fuseForthRow.laid) (((OpenSpec.ofChange Rows.fuseForthSpec).at F).post enc Tryz.prog Tryz.f7 false true false false) := by
 refine returnsInHanded_of_row (C := Tryz.checked) (s := (OpenSpec.ofChange Rows.fuseForthSpec)) own started (by kernel_rfl) Tryz.func7 (AIe os enc) ?_
 intro W base args ds gs before hval hW _ hcond _ hL hsh _
 rw [MakeChecks.laidMetH_plain _ _ _ (by kernel_rfl)] at hL
 obtain ⟨b, hbv⟩ := AG6 hL
 letI E : ErrAt := { b := b }
 have hgs : gs = [] := by
  obtain ⟨p, q, _, hV, _⟩ := hW
  exact (trodVars_none hV).1
 subst hgs
 refine xv (fn := Tryz.f7) (tb := 4) kids full plain (fun t ht => ?_) Tryz.underlying4 (by kernel_rfl) rfl (fun ds hd => ?_) hval hW (glob hsh hL hbv) (fun ys hy => main ds ys hy)
 ·rw [Tryz.params7] at ht
  refine ⟨?_, ?_⟩
  ·have : ∀ t ∈ [27, 46, 28], t ∈ [27, 46, 48, 41, 45, 24, 26, 23, 28, 9, 3, 2] := by decide
   exact this t ht
  have : ([27, 46, 28].all fun t => decide (t < Tryz.prog.types.size)) = true := by kernel_rfl
  exact of_decide_eq_true (List.all_eq_true.1 this t ht)
 have e : Tryz.f7.params.size = 3 := by rw [Tryz.params7]; rfl
 rw [e] at hd
 match ds, hd with
 | [_, _, _], _ => rfl
theorem ARw : Rows.FuseForthSaid :=
 OpenClaim.holds_of_cond 7 Tryz.f7 rfl rfl rfl rfl rfl rfl rfl ⟨rfl, rfl, rfl, rfl, rfl⟩ rfl rfl rfl rfl rfl AA1 Tryz.func7 si
  AA3 AA4
  (fun os started H enc _ F => by rw [OpenClaim.pre_eq_preRow]; exact AKx os started H enc F)
theorem AIf (f : FuncId) (fn : Func) (hf : Tryz.pinned.checked.prog.funcNamed "needlebeam/needlebeamlaw21.FuseForth" = some f) (hfn : Tryz.pinned.checked.prog.funcs[f]? = some fn) :
  true = Tryz.pinned.checked.prog.looks [] ∧ ∀ (j : Nat) t, fn.params[j]? = some t → Tryz.pinned.checked.prog.wantsStandIn t = false := by
 obtain rfl : f = 7 := Option.some.inj ((show Tryz.prog.funcNamed "needlebeam/needlebeamlaw21.FuseForth" = some 7 by kernel_rfl).symm.trans hf) |>.symm
 obtain rfl : fn = Tryz.f7 := (Option.some.inj (Tryz.func7.symm.trans hfn)).symm
 refine ⟨by kernel_rfl, fun j t ht => ?_⟩
 rw [Tryz.params7] at ht
 have hm : t ∈ [27, 46, 28] := by simpa using Array.mem_of_getElem? ht
 have hall : ([27, 46, 28].all fun u => !Tryz.prog.wantsStandIn u) = true := by kernel_rfl
 exact (show Tryz.prog.wantsStandIn t = false by simpa using List.all_eq_true.1 hall t hm)
theorem fuse_forth_card : Rows.FuseForthCardSaid :=
 Claim7.holds_tied_plain_at .later [] _ _ _ _ ARw (fun _ h => by cases h) (by kernel_rfl) (fun _ h => by cases h) fuseForth_row_tie rfl ⟨rfl, rfl⟩ (by kernel_rfl) rfl AIf AA2
end Go.Proofs.YtofbdcbjpdpllaaGreatDoor
