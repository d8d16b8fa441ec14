/- A row comes forth through names with all its values, and is faithful: ImageNames answers true for whatever can be read. -/
import Derived.Test.YtofbdcbjpdpllaaGreatDoorImageNamesCardSaidPart9
set_option linter.all false
namespace Go.Proofs.YtofbdcbjpdpllaaGreatDoor
open Go Go.SX Go.SX.Nb Go.ChangeShapes Go.RowKit
set_option maxRecDepth 100000
theorem plain : PlainT Tryz.prog (· ∈ [27, 41, 45, 23, 28, 9, 3, 2]) := ⟨fun t ht => by
 simp only [List.mem_cons, List.mem_nil_iff, or_false] at ht
 rcases ht with rfl | rfl | rfl | rfl | rfl | rfl | rfl | rfl
 ·exact .inl ⟨by kernel_rfl, .inr (.inr (.inr ⟨_, Tryz.underlying27, by simp, by rw [show Tryz.prog.cellsOf 41 = 2 by kernel_rfl]; decide⟩))⟩
 ·refine .inr ⟨_, Tryz.underlying41, fun f hf => ?_, kids.struct (of_decide_eq_true (by kernel_rfl)) Tryz.underlying41 |>.2⟩
  simp only [List.mem_cons, List.mem_nil_iff, or_false] at hf
  rcases hf with rfl | rfl <;> simp
 ·exact .inl ⟨by kernel_rfl, .inr (.inr (.inr ⟨_, Tryz.underlying45, by simp, by rw [show Tryz.prog.cellsOf 9 = 1 by kernel_rfl]; decide⟩))⟩
 ·refine .inr ⟨_, Tryz.underlying23, fun f hf => ?_, kids.struct (of_decide_eq_true (by kernel_rfl)) Tryz.underlying23 |>.2⟩
  simp only [List.mem_cons, List.mem_nil_iff, or_false] at hf
  rcases hf with rfl | rfl | rfl <;> simp
 ·exact .inl ⟨by kernel_rfl, .inr (.inr (.inr ⟨_, Tryz.underlying28, by simp, by rw [show Tryz.prog.cellsOf 23 = 3 by kernel_rfl]; decide⟩))⟩
 ·exact .inl ⟨by kernel_rfl, .inr (.inr (.inl Tryz.underlying9))⟩
 ·exact .inl ⟨by kernel_rfl, .inl ⟨_, Tryz.underlying3⟩⟩
 exact .inl ⟨by kernel_rfl, .inl ⟨_, Tryz.underlying2⟩⟩⟩
theorem AAn {H : Type} [ErrAt] (d : DataW H) (y : AV) (h : DRep Tryz.prog 41 d y) : ∃ c : Col, y = Bs c := by
 obtain ⟨ys, hn, rfl, hh⟩ := h.struct' ue Tryz.underlying41
 match ys, hn with
 | [y0, y1], _ =>
  obtain ⟨d0, b0, h0⟩ := hh 0 _ y0 rfl rfl
  obtain ⟨d1, b1, h1⟩ := hh 1 _ y1 rfl rfl
  obtain ⟨s, rfl, rfl⟩ := h0.str' Tryz.underlying9
  obtain ⟨k, rfl, rfl, _⟩ := h1.int' Tryz.underlying3
  exact ⟨⟨s, k⟩, rfl⟩
theorem xf {H : Type} [ErrAt] (d : DataW H) (y : AV) (h : DRep Tryz.prog 27 d y) : ∃ c : List Col, y = Aq c := by
 obtain ⟨l, rfl, _⟩ := h.slice' ue Bs (fun _ => True) Tryz.underlying27 (Nat.le_refl _) (fun d y _ hr => (AAn d y hr).imp fun c h => ⟨h, trivial⟩)
 exact ⟨l, by rw [show Tryz.prog.cellsOf 41 = 2 by kernel_rfl]⟩
theorem eo {H : Type} [ErrAt] (d : DataW H) (y : AV) (h : DRep Tryz.prog 45 d y) : ∃ l : List Str, y = Ft l := by
 obtain ⟨l, rfl, _⟩ := h.slice' ue Ad (fun _ => True) Tryz.underlying45 (Nat.le_refl _) (fun d y _ hr => by
  obtain ⟨s, rfl, rfl⟩ := hr.str' Tryz.underlying9
  exact ⟨s, rfl, trivial⟩)
 exact ⟨l, by rw [show Tryz.prog.cellsOf 9 = 1 by kernel_rfl]⟩
theorem r6 {H : Type} [ErrAt] (d : DataW H) (y : AV) (h : DRep Tryz.prog 28 d y) : ∃ l : List Val, y = Br l ∧ ∀ v ∈ l, -9223372036854775808 ≤ v.n ∧ v.n ≤ 9223372036854775807 := by
 obtain ⟨l, rfl, hl⟩ := h.slice' ue Ba (fun v => -9223372036854775808 ≤ v.n ∧ v.n ≤ 9223372036854775807) Tryz.underlying28 (Nat.le_refl _) (fun d y _ hr => (yr d y hr).imp fun c h => ⟨h.1, h.2⟩)
 exact ⟨l, by rw [show Tryz.prog.cellsOf 23 = 3 by kernel_rfl], hl.2⟩
theorem main {H : Type} [ErrAt] (ds : List (DataW H)) (ys : List AV) (h : DReps Tryz.prog Tryz.f4.params.toList ds ys) : AFun Tryz.prog 4 ys [] (Bm true) := by
 rw [Tryz.params4] at h
 obtain ⟨d0, ds, y0, ys, rfl, rfl, h0, h⟩ := h.cons'
 obtain ⟨d1, ds, y1, ys, rfl, rfl, h1, h⟩ := h.cons'
 obtain ⟨d2, ds, y2, ys, rfl, rfl, h2, h⟩ := h.cons'
 obtain ⟨d3, ds, y3, ys, rfl, rfl, h3, h⟩ := h.cons'
 obtain ⟨rfl, rfl⟩ := h.nil'
 obtain ⟨c, rfl⟩ := xf d0 y0 h0
 obtain ⟨a, rfl⟩ := eo d1 y1 h1
 obtain ⟨b, rfl⟩ := eo d2 y2 h2
 obtain ⟨r, rfl, hr⟩ := r6 d3 y3 h3
 exact c4 c a b r hr []
theorem xg (os : Os) : laidMet Tryz.prog Rows.imageNamesRow.laid ((World.laidAll Tryz.prog os Rows.imageNamesRow.laid).forCall (fun _ _ => 0) ⟨#[], #[.slice none 0 0, .slice none 0 0, .slice none 0 0, .slice none 0 0], []⟩).memory :=
 laidMet_laidAll _ (by kernel_rfl) (by kernel_rfl)
theorem AFm (os : Os) {H : Type} (enc : TypeId × Value → H) : DataW.whole enc Tryz.prog ((World.laidAll Tryz.prog os Rows.imageNamesRow.laid).forCall (fun _ _ => 0) ⟨#[], #[.slice none 0 0, .slice none 0 0, .slice none 0 0, .slice none 0 0], []⟩).memory Tryz.f4.params.toList Rows.imageNamesSpec.vars false
  #[.slice none 0 0, .slice none 0 0, .slice none 0 0, .slice none 0 0].toList 8 = some ([.nil, .nil, .nil, .nil], [], []) := by kernel_rfl
theorem AAo (os : Os) {H : Type} (enc : TypeId × Value → H) : ∃ (w : World) (tape : Tape) (i : Input), w.os = os ∧ (w.forCall tape i).Shaped Tryz.prog ∧ i.vars = [] ∧ Input.okWide Tryz.prog (w.forCall tape i) .any w.heap.size 4 i ∧
   (OpenSpec.ofChange Rows.imageNamesSpec).preRow enc Tryz.prog Tryz.f4 Rows.imageNamesRow.domain false Rows.imageNamesRow.laid (w.forCall tape i).memory i.args ∧ ({ modest := false } : Assume).holds Tryz.prog (lone (Frame.enter Tryz.prog 4 i.args .normal) [] (w.forCall tape i)) := by
 refine ⟨World.laidAll Tryz.prog os Rows.imageNamesRow.laid, fun _ _ => 0, ⟨#[], #[.slice none 0 0, .slice none 0 0, .slice none 0 0, .slice none 0 0], []⟩, World.laidAll_os _ _ _, World.shaped_of_ZipB (by kernel_rfl) (by kernel_rfl), rfl, (Input.okWide_of_okWideB (by kernel_rfl)).2,
  OpenSpec.preRow_of_cond 8 (AFm os enc) (by kernel_rfl) (fun k hk => by cases hk) (by kernel_rfl) ?_, ?_⟩
 ·rw [MakeChecks.laidMetH_plain _ _ _ (by kernel_rfl)]
  exact xg os
 simp only [Assume.holds]
 exact ⟨by simp, by simp, fun h => (by cases h), by simp, by simp⟩
theorem ACy (os : Os) (started : os.Started) (H : Type) (enc : TypeId × Value → H) (F : Stop.Interp) :
  ReturnsInHanded {} Tryz.checked os 4 .any ((OpenSpec.ofChange Rows.imageNamesSpec).preRow enc Tryz.prog Tryz.f4 Rows.imageNamesRow.domain false Rows.imageNamesRow.laid) (((OpenSpec.ofChange Rows.imageNamesSpec).at F).post enc Tryz.prog Tryz.f4 false true false false) := by
 refine returnsInHanded_of_row (C := Tryz.checked) (s := (OpenSpec.ofChange Rows.imageNamesSpec)) own started (by kernel_rfl) Tryz.func4 (AAo os enc) ?_
 intro W base args ds gs before hval hW _ hcond _ hL hsh _
 rw [MakeChecks.laidMetH_plain _ _ _ (by kernel_rfl)] at hL
 obtain ⟨b, hbv⟩ := yk hL
 letI E : ErrAt := { b := b }
 have hgs : gs = [] := by
  obtain ⟨p, q, _, hV, _⟩ := hW
  exact (trodVars_none hV).1
 subst hgs
 refine o6 (fn := Tryz.f4) (tb := 4) kids full plain (fun t ht => ?_) Tryz.underlying4 (by kernel_rfl) rfl (fun ds hd => ?_) hval hW (glob hsh hL hbv) (fun ys hy => main ds ys hy)
 ·rw [Tryz.params4] at ht
  refine ⟨?_, ?_⟩
  ·have : ∀ t ∈ [27, 45, 45, 28], t ∈ [27, 41, 45, 23, 28, 9, 3, 2] := by decide
   exact this t ht
  have : ([27, 45, 45, 28].all fun t => decide (t < Tryz.prog.types.size)) = true := by kernel_rfl
  exact of_decide_eq_true (List.all_eq_true.1 this t ht)
 have e : Tryz.f4.params.size = 4 := by rw [Tryz.params4]; rfl
 rw [e] at hd
 match ds, hd with
 | [_, _, _, _], _ => rfl
theorem AIb : Rows.ImageNamesSaid :=
 OpenClaim.holds_of_cond 4 Tryz.f4 rfl rfl rfl rfl rfl rfl rfl ⟨rfl, rfl, rfl, rfl, rfl⟩ rfl rfl rfl rfl rfl qw Tryz.func4 jn
  qy qz
  (fun os started H enc _ F => by rw [OpenClaim.pre_eq_preRow]; exact ACy os started H enc F)
theorem AAp (f : FuncId) (fn : Func) (hf : Tryz.pinned.checked.prog.funcNamed "needlebeam/needlebeamlaw20.ImageNames" = some f) (hfn : Tryz.pinned.checked.prog.funcs[f]? = some fn) :
  true = Tryz.pinned.checked.prog.looks [] ∧ ∀ (j : Nat) t, fn.params[j]? = some t → Tryz.pinned.checked.prog.wantsStandIn t = false := by
 obtain rfl : f = 4 := Option.some.inj ((show Tryz.prog.funcNamed "needlebeam/needlebeamlaw20.ImageNames" = some 4 by kernel_rfl).symm.trans hf) |>.symm
 obtain rfl : fn = Tryz.f4 := (Option.some.inj (Tryz.func4.symm.trans hfn)).symm
 refine ⟨by kernel_rfl, fun j t ht => ?_⟩
 rw [Tryz.params4] at ht
 have hm : t ∈ [27, 45, 45, 28] := by simpa using Array.mem_of_getElem? ht
 have hall : ([27, 45, 45, 28].all fun u => !Tryz.prog.wantsStandIn u) = true := by kernel_rfl
 exact (show Tryz.prog.wantsStandIn t = false by simpa using List.all_eq_true.1 hall t hm)
theorem image_names_card : Rows.ImageNamesCardSaid :=
 Claim7.holds_tied_plain_at .later [] _ _ _ _ AIb (fun _ h => by cases h) (by kernel_rfl) (fun _ h => by cases h) imageNames_row_tie rfl ⟨rfl, rfl⟩ (by kernel_rfl) rfl AAp qx
end Go.Proofs.YtofbdcbjpdpllaaGreatDoor
