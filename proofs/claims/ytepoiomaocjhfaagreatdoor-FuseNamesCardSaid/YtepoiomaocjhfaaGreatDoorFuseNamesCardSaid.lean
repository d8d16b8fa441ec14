/- FuseNames answers true for whatever it is handed: over right steps there is a tree for each column, of its kind or of none, or the error says that a tree grew too large. -/
import Derived.Test.YtepoiomaocjhfaaGreatDoorFuseNamesCardSaidPart10
set_option linter.all false
namespace Go.Proofs.YtepoiomaocjhfaaGreatDoor
open Go Go.SX Go.SX.Nb Go.ChangeShapes Go.RowKit
set_option maxRecDepth 100000
theorem AAc : PlainT Tryz.prog (· ∈ [22, 23, 64, 58, 37, 43, 45, 42, 9, 3, 2]) := ⟨fun t ht => by
 simp only [List.mem_cons, List.mem_nil_iff, or_false] at ht
 rcases ht with rfl | rfl | rfl | rfl | rfl | rfl | rfl | rfl | rfl | rfl | rfl
 ·exact .inl ⟨by kernel_rfl, .inr (.inr (.inr ⟨_, Tryz.underlying22, by simp, by rw [show Tryz.prog.cellsOf 58 = 2 by kernel_rfl]; decide⟩))⟩
 ·exact .inl ⟨by kernel_rfl, .inr (.inr (.inr ⟨_, Tryz.underlying23, by simp, by rw [show Tryz.prog.cellsOf 64 = 5 by kernel_rfl]; decide⟩))⟩
 ·refine .inr ⟨_, Tryz.underlying64, fun f hf => ?_, kids.struct (of_decide_eq_true (by kernel_rfl)) Tryz.underlying64 |>.2⟩
  simp only [List.mem_cons, List.mem_nil_iff, or_false] at hf
  rcases hf with rfl | rfl | rfl | rfl | rfl <;> simp
 ·refine .inr ⟨_, Tryz.underlying58, fun f hf => ?_, kids.struct (of_decide_eq_true (by kernel_rfl)) Tryz.underlying58 |>.2⟩
  simp only [List.mem_cons, List.mem_nil_iff, or_false] at hf
  rcases hf with rfl | rfl <;> simp
 ·exact .inl ⟨by kernel_rfl, .inr (.inr (.inr ⟨_, Tryz.underlying37, by simp, by rw [show Tryz.prog.cellsOf 9 = 1 by kernel_rfl]; decide⟩))⟩
 ·exact .inl ⟨by kernel_rfl, .inr (.inr (.inr ⟨_, Tryz.underlying43, by simp, by rw [show Tryz.prog.cellsOf 45 = 6 by kernel_rfl]; decide⟩))⟩
 ·refine .inr ⟨_, Tryz.underlying45, fun f hf => ?_, kids.struct (of_decide_eq_true (by kernel_rfl)) Tryz.underlying45 |>.2⟩
  simp only [List.mem_cons, List.mem_nil_iff, or_false] at hf
  rcases hf with rfl | rfl | rfl | rfl <;> simp
 ·refine .inr ⟨_, Tryz.underlying42, fun f hf => ?_, kids.struct (of_decide_eq_true (by kernel_rfl)) Tryz.underlying42 |>.2⟩
  simp only [List.mem_cons, List.mem_nil_iff, or_false] at hf
  rcases hf with rfl | rfl | rfl <;> simp
 ·exact .inl ⟨by kernel_rfl, .inr (.inr (.inl Tryz.underlying9))⟩
 ·exact .inl ⟨by kernel_rfl, .inl ⟨_, Tryz.underlying3⟩⟩
 exact .inl ⟨by kernel_rfl, .inl ⟨_, Tryz.underlying2⟩⟩⟩
theorem sg {H : Type} [ErrAt] (d : DataW H) (y : AV) (h : DRep Tryz.prog 58 d y) : ∃ c : Col, y = Ak c := by
 obtain ⟨ys, hn, rfl, hh⟩ := h.struct' f6 Tryz.underlying58
 match ys, hn with
 | [y0, y1], _ =>
  obtain ⟨d0, b0, h0⟩ := hh 0 _ y0 rfl rfl
  obtain ⟨d1, b1, h1⟩ := hh 1 _ y1 rfl rfl
  obtain ⟨s, rfl, rfl⟩ := h0.str' Tryz.underlying9
  obtain ⟨k, rfl, rfl, _⟩ := h1.int' Tryz.underlying3
  exact ⟨⟨s, k⟩, rfl⟩
theorem Xc {H : Type} [ErrAt] (d : DataW H) (y : AV) (h : DRep Tryz.prog 22 d y) : ∃ c : List Col, y = A9 c := by
 obtain ⟨l, rfl, _⟩ := h.slice' f6 Ak (fun _ => True) Tryz.underlying22 (Nat.le_refl _) (fun d y _ hr => (sg d y hr).imp fun c h => ⟨h, trivial⟩)
 exact ⟨l, by rw [show Tryz.prog.cellsOf 58 = 2 by kernel_rfl]⟩
theorem nr {H : Type} [ErrAt] (d : DataW H) (y : AV) (h : DRep Tryz.prog 37 d y) : ∃ l : List Str, y = D6 l := by
 obtain ⟨l, rfl, _⟩ := h.slice' f6 A6 (fun _ => True) Tryz.underlying37 (Nat.le_refl _) (fun d y _ hr => by
  obtain ⟨s, rfl, rfl⟩ := hr.str' Tryz.underlying9
  exact ⟨s, rfl, trivial⟩)
 exact ⟨l, by rw [show Tryz.prog.cellsOf 9 = 1 by kernel_rfl]⟩
theorem T6 {H : Type} [ErrAt] (d : DataW H) (y : AV) (h : DRep Tryz.prog 43 d y) : ∃ l : List Nb.Expr, y = Ay l ∧ ∀ e ∈ l, Cs Gg e = true := by
 obtain ⟨l, rfl, hl⟩ := (l8 h).2 rfl
 exact ⟨l, rfl, (Co _ _).1 hl⟩
theorem sh {H : Type} [ErrAt] (d : DataW H) (y : AV) (h : DRep Tryz.prog 64 d y) : ∃ m : Mov, y = E3 m ∧ RngMv m := by
 obtain ⟨ys, hn, rfl, hh⟩ := h.struct' f6 Tryz.underlying64
 match ys, hn with
 | [y0, y1, y2, y3, y4], _ =>
  obtain ⟨d0, b0, h0⟩ := hh 0 _ y0 rfl rfl
  obtain ⟨d1, b1, h1⟩ := hh 1 _ y1 rfl rfl
  obtain ⟨d2, b2, h2⟩ := hh 2 _ y2 rfl rfl
  obtain ⟨d3, b3, h3⟩ := hh 3 _ y3 rfl rfl
  obtain ⟨d4, b4, h4⟩ := hh 4 _ y4 rfl rfl
  obtain ⟨k, rfl, rfl, _⟩ := h0.int' Tryz.underlying3
  obtain ⟨t, rfl⟩ := nr d1 y1 h1
  obtain ⟨g, rfl⟩ := Xc d2 y2 h2
  obtain ⟨a, rfl, ha⟩ := T6 d3 y3 h3
  obtain ⟨b, rfl, hb⟩ := T6 d4 y4 h4
  exact ⟨⟨k, t, g, a, b⟩, rfl, ⟨ha, hb⟩⟩
theorem nt {H : Type} [ErrAt] (d : DataW H) (y : AV) (h : DRep Tryz.prog 23 d y) : ∃ l : List Mov, y = Cp l ∧ ∀ m ∈ l, RngMv m := by
 obtain ⟨l, rfl, hl⟩ := h.slice' f6 E3 RngMv Tryz.underlying23 (Nat.le_refl _) (fun d y _ hr => sh d y hr)
 exact ⟨l, by rw [show Tryz.prog.cellsOf 64 = 5 by kernel_rfl], hl.2⟩
theorem main {H : Type} [ErrAt] (ds : List (DataW H)) (ys : List AV) (h : DReps Tryz.prog Tryz.f7.params.toList ds ys) : AFun Tryz.prog 7 ys [] (Al true) := by
 rw [Tryz.params7] at h
 obtain ⟨d0, ds, y0, ys, rfl, rfl, h0, h⟩ := h.cons'
 obtain ⟨d1, ds, y1, ys, rfl, rfl, h1, h⟩ := h.cons'
 obtain ⟨rfl, rfl⟩ := h.nil'
 obtain ⟨c, rfl⟩ := Xc d0 y0 h0
 obtain ⟨l, rfl, hl⟩ := nt d1 y1 h1
 exact c7 c l hl []
theorem nu (os : Os) : laidMet Tryz.prog Rows.fuseNamesRow.laid ((World.laidAll Tryz.prog os Rows.fuseNamesRow.laid).forCall (fun _ _ => 0) ⟨#[], #[.slice none 0 0, .slice none 0 0], []⟩).memory :=
 laidMet_laidAll _ (by kernel_rfl) (by kernel_rfl)
theorem AAd (os : Os) {H : Type} (enc : TypeId × Value → H) : DataW.whole enc Tryz.prog ((World.laidAll Tryz.prog os Rows.fuseNamesRow.laid).forCall (fun _ _ => 0) ⟨#[], #[.slice none 0 0, .slice none 0 0], []⟩).memory Tryz.f7.params.toList Rows.fuseNamesSpec.vars false
  #[.slice none 0 0, .slice none 0 0].toList 8 = some ([.nil, .nil], [], []) := by kernel_rfl
theorem si (os : Os) {H : Type} (enc : TypeId × Value → H) : ∃ (w : World) (tape : Tape) (i : Input), w.os = os ∧ (w.forCall tape i).Shaped Tryz.prog ∧ i.vars = [] ∧ Input.okWide Tryz.prog (w.forCall tape i) .any w.heap.size 7 i ∧
   (OpenSpec.ofChange Rows.fuseNamesSpec).preRow enc Tryz.prog Tryz.f7 Rows.fuseNamesRow.domain false Rows.fuseNamesRow.laid (w.forCall tape i).memory i.args ∧ ({ modest := false } : Assume).holds Tryz.prog (lone (Frame.enter Tryz.prog 7 i.args .normal) [] (w.forCall tape i)) := by
 refine ⟨World.laidAll Tryz.prog os Rows.fuseNamesRow.laid, fun _ _ => 0, ⟨#[], #[.slice none 0 0, .slice none 0 0], []⟩, World.laidAll_os _ _ _, World.shaped_of_ZipB (by kernel_rfl) (by kernel_rfl), rfl, (Input.okWide_of_okWideB (by kernel_rfl)).2,
  OpenSpec.preRow_of_cond 8 (AAd os enc) (by kernel_rfl) (fun k hk => by cases hk) (by kernel_rfl) ?_, ?_⟩
 ·rw [MakeChecks.laidMetH_plain _ _ _ (by kernel_rfl)]
  exact nu os
 simp only [Assume.holds]
 exact ⟨by simp, by simp, fun h => (by cases h), by simp, by simp⟩
theorem wj (os : Os) (started : os.Started) (H : Type) (enc : TypeId × Value → H) (F : Stop.Interp) :
  ReturnsInHanded {} Tryz.checked os 7 .any ((OpenSpec.ofChange Rows.fuseNamesSpec).preRow enc Tryz.prog Tryz.f7 Rows.fuseNamesRow.domain false Rows.fuseNamesRow.laid) (((OpenSpec.ofChange Rows.fuseNamesSpec).at F).post enc Tryz.prog Tryz.f7 false true false false) := by
 refine returnsInHanded_of_row (C := Tryz.checked) (s := (OpenSpec.ofChange Rows.fuseNamesSpec)) own started (by kernel_rfl) Tryz.func7 (si os enc) ?_
 intro W base args ds gs before hval hW _ hcond _ hL hsh _
 rw [MakeChecks.laidMetH_plain _ _ _ (by kernel_rfl)] at hL
 obtain ⟨b, hbv⟩ := pu hL
 letI E : ErrAt := { b := b }
 have hgs : gs = [] := by
  obtain ⟨p, q, _, hV, _⟩ := hW
  exact (trodVars_none hV).1
 subst hgs
 refine f5 (fn := Tryz.f7) (tb := 4) kids full AAc (fun t ht => ?_) Tryz.underlying4 (by kernel_rfl) rfl (fun ds hd => ?_) hval hW (glob hsh hL hbv) (fun ys hy => main ds ys hy)
 ·rw [Tryz.params7] at ht
  refine ⟨?_, ?_⟩
  ·have : ∀ t ∈ [22, 23], t ∈ [22, 23, 64, 58, 37, 43, 45, 42, 9, 3, 2] := by decide
   exact this t ht
  have : ([22, 23].all fun t => decide (t < Tryz.prog.types.size)) = true := by kernel_rfl
  exact of_decide_eq_true (List.all_eq_true.1 this t ht)
 have e : Tryz.f7.params.size = 2 := by rw [Tryz.params7]; rfl
 rw [e] at hd
 match ds, hd with
 | [_, _], _ => rfl
theorem ib : Tryz.pinned.checked.prog.funcNamed Rows.fuseNamesRow.func = some 7 := by kernel_rfl
theorem ai : joinedFacts Tryz.pinned.checked.prog 7 Tryz.f7 (OpenSpec.ofChange Rows.fuseNamesSpec).bare Rows.fuseNamesRow = true := by kernel_rfl
theorem ic : Tryz.f7.isInstance Tryz.pinned.checked.prog Rows.fuseNamesRow.origin Rows.fuseNamesRow.targs := of_decide_eq_true (by kernel_rfl)
theorem ie : Tryz.f7.isWrapper Tryz.pinned.checked.prog Rows.fuseNamesRow.wrapper Rows.fuseNamesRow.mainSum := by
 unfold Func.isWrapper
 first | (rw [if_pos (by decide +kernel)]; kernel_rfl) | (rw [if_neg (by decide +kernel)]; exact ⟨rfl, rfl⟩)
theorem ACj : Rows.FuseNamesSaid :=
 OpenClaim.holds_of_cond 7 Tryz.f7 rfl rfl rfl rfl rfl rfl rfl ⟨rfl, rfl, rfl, rfl, rfl⟩ rfl rfl rfl rfl rfl ib Tryz.func7 ai
  ic ie
  (fun os started H enc _ F => by rw [OpenClaim.pre_eq_preRow]; exact wj os started H enc F)
theorem sj (f : FuncId) (fn : Func) (hf : Tryz.pinned.checked.prog.funcNamed "needlebeam/needlebeamlaw21.FuseNames" = some f) (hfn : Tryz.pinned.checked.prog.funcs[f]? = some fn) :
  true = Tryz.pinned.checked.prog.looks [] ∧ ∀ (j : Nat) t, fn.params[j]? = some t → Tryz.pinned.checked.prog.wantsStandIn t = false := by
 obtain rfl : f = 7 := Option.some.inj ((show Tryz.prog.funcNamed "needlebeam/needlebeamlaw21.FuseNames" = some 7 by kernel_rfl).symm.trans hf) |>.symm
 obtain rfl : fn = Tryz.f7 := (Option.some.inj (Tryz.func7.symm.trans hfn)).symm
 refine ⟨by kernel_rfl, fun j t ht => ?_⟩
 rw [Tryz.params7] at ht
 have hm : t ∈ [22, 23] := by simpa using Array.mem_of_getElem? ht
 have hall : ([22, 23].all fun u => !Tryz.prog.wantsStandIn u) = true := by kernel_rfl
 exact (show Tryz.prog.wantsStandIn t = false by simpa using List.all_eq_true.1 hall t hm)
theorem fuse_names_card : Rows.FuseNamesCardSaid :=
 Claim7.holds_tied_plain_at .later [] _ _ _ _ ACj (fun _ h => by cases h) (by kernel_rfl) (fun _ h => by cases h) fuseNames_row_tie rfl ⟨rfl, rfl⟩ (by kernel_rfl) rfl sj (by kernel_rfl)
end Go.Proofs.YtepoiomaocjhfaaGreatDoor
