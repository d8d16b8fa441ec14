/- RewriteTells answers true for whatever can be read: the plans of a query forth and back are what the reference tells, or the errors. -/
import Derived.Test.YtekiioamifokoaaGreatDoorRewriteTellsCardSaidPart12
set_option linter.all false
namespace Go.Proofs.YtekiioamifokoaaGreatDoor
open Go Go.SX Go.SX.Nb Go.ChangeShapes Go.RowKit
set_option maxRecDepth 100000
theorem AMx : PlainT Tryz.prog (· ∈ [29, 30, 31, 80, 69, 22, 25, 27, 24, 9, 4, 3, 2]) := ⟨fun t ht => by
 simp only [List.mem_cons, List.mem_nil_iff, or_false] at ht
 rcases ht with rfl | rfl | rfl | rfl | rfl | rfl | rfl | rfl | rfl | rfl | rfl | rfl | rfl
 ·refine .inr ⟨_, Tryz.underlying29, fun f hf => ?_, kids.struct (of_decide_eq_true (by kernel_rfl)) Tryz.underlying29 |>.2⟩
  simp only [List.mem_cons, List.mem_nil_iff, or_false] at hf
  rcases hf with rfl | rfl | rfl | rfl <;> simp
 ·exact .inl ⟨by kernel_rfl, .inr (.inr (.inr ⟨_, Tryz.underlying30, by simp, by rw [show Tryz.prog.cellsOf 69 = 2 by kernel_rfl]; decide⟩))⟩
 ·exact .inl ⟨by kernel_rfl, .inr (.inr (.inr ⟨_, Tryz.underlying31, by simp, by rw [show Tryz.prog.cellsOf 80 = 5 by kernel_rfl]; decide⟩))⟩
 ·refine .inr ⟨_, Tryz.underlying80, fun f hf => ?_, kids.struct (of_decide_eq_true (by kernel_rfl)) Tryz.underlying80 |>.2⟩
  simp only [List.mem_cons, List.mem_nil_iff, or_false] at hf
  rcases hf with rfl | rfl | rfl | rfl | rfl <;> simp
 ·refine .inr ⟨_, Tryz.underlying69, fun f hf => ?_, kids.struct (of_decide_eq_true (by kernel_rfl)) Tryz.underlying69 |>.2⟩
  simp only [List.mem_cons, List.mem_nil_iff, or_false] at hf
  rcases hf with rfl | rfl <;> simp
 ·exact .inl ⟨by kernel_rfl, .inr (.inr (.inr ⟨_, Tryz.underlying22, by simp, by rw [show Tryz.prog.cellsOf 9 = 1 by kernel_rfl]; decide⟩))⟩
 ·exact .inl ⟨by kernel_rfl, .inr (.inr (.inr ⟨_, Tryz.underlying25, by simp, by rw [show Tryz.prog.cellsOf 27 = 6 by kernel_rfl]; decide⟩))⟩
 ·refine .inr ⟨_, Tryz.underlying27, fun f hf => ?_, kids.struct (of_decide_eq_true (by kernel_rfl)) Tryz.underlying27 |>.2⟩
  simp only [List.mem_cons, List.mem_nil_iff, or_false] at hf
  rcases hf with rfl | rfl | rfl | rfl <;> simp
 ·refine .inr ⟨_, Tryz.underlying24, fun f hf => ?_, kids.struct (of_decide_eq_true (by kernel_rfl)) Tryz.underlying24 |>.2⟩
  simp only [List.mem_cons, List.mem_nil_iff, or_false] at hf
  rcases hf with rfl | rfl | rfl <;> simp
 ·exact .inl ⟨by kernel_rfl, .inr (.inr (.inl Tryz.underlying9))⟩
 ·exact .inl ⟨by kernel_rfl, .inr (.inl Tryz.underlying4)⟩
 ·exact .inl ⟨by kernel_rfl, .inl ⟨_, Tryz.underlying3⟩⟩
 exact .inl ⟨by kernel_rfl, .inl ⟨_, Tryz.underlying2⟩⟩⟩
theorem AFx {H : Type} [ErrAt] (d : DataW H) (y : AV) (h : DRep Tryz.prog 69 d y) : ∃ c : Col, y = Bl c := by
 obtain ⟨ys, hn, rfl, hh⟩ := h.struct' oz Tryz.underlying69
 match ys, hn with
 | [y0, y1], _ =>
  obtain ⟨d0, b0, h0⟩ := hh 0 _ y0 rfl rfl
  obtain ⟨d1, b1, h1⟩ := hh 1 _ y1 rfl rfl
  obtain ⟨s, rfl, rfl⟩ := h0.str' Tryz.underlying9
  obtain ⟨k, rfl, rfl, _⟩ := h1.int' Tryz.underlying3
  exact ⟨⟨s, k⟩, rfl⟩
theorem m8 {H : Type} [ErrAt] (d : DataW H) (y : AV) (h : DRep Tryz.prog 30 d y) : ∃ c : List Col, y = Ai c := by
 obtain ⟨l, rfl, _⟩ := h.slice' oz Bl (fun _ => True) Tryz.underlying30 (Nat.le_refl _) (fun d y _ hr => (AFx d y hr).imp fun c h => ⟨h, trivial⟩)
 exact ⟨l, by rw [show Tryz.prog.cellsOf 69 = 2 by kernel_rfl]⟩
theorem m9 {H : Type} [ErrAt] (d : DataW H) (y : AV) (h : DRep Tryz.prog 22 d y) : ∃ l : List Str, y = E4 l := by
 obtain ⟨l, rfl, _⟩ := h.slice' oz Ab (fun _ => True) Tryz.underlying22 (Nat.le_refl _) (fun d y _ hr => by
  obtain ⟨s, rfl, rfl⟩ := hr.str' Tryz.underlying9
  exact ⟨s, rfl, trivial⟩)
 exact ⟨l, by rw [show Tryz.prog.cellsOf 9 = 1 by kernel_rfl]⟩
theorem cw {H : Type} [ErrAt] (d : DataW H) (y : AV) (h : DRep Tryz.prog 25 d y) : ∃ l : List Nb.Expr, y = Bd l ∧ ∀ e ∈ l, F7 Lv e = true := by
 obtain ⟨l, rfl, hl⟩ := (ju h).2 rfl
 exact ⟨l, rfl, (J7 _ _).1 hl⟩
theorem AFy {H : Type} [ErrAt] (d : DataW H) (y : AV) (h : DRep Tryz.prog 80 d y) : ∃ m : Mov, y = G5 m ∧ RngMv m := by
 obtain ⟨ys, hn, rfl, hh⟩ := h.struct' oz Tryz.underlying80
 match ys, hn with
 | [y0, y1, y2, y3, y4], _ =>
  obtain ⟨d0, b0, h0⟩ := hh 0 _ y0 rfl rfl
  obtain ⟨d1, b1, h1⟩ := hh 1 _ y1 rfl rfl
  obtain ⟨d2, b2, h2⟩ := hh 2 _ y2 rfl rfl
  obtain ⟨d3, b3, h3⟩ := hh 3 _ y3 rfl rfl
  obtain ⟨d4, b4, h4⟩ := hh 4 _ y4 rfl rfl
  obtain ⟨k, rfl, rfl, _⟩ := h0.int' Tryz.underlying3
  obtain ⟨t, rfl⟩ := m9 d1 y1 h1
  obtain ⟨g, rfl⟩ := m8 d2 y2 h2
  obtain ⟨a, rfl, ha⟩ := cw d3 y3 h3
  obtain ⟨b, rfl, hb⟩ := cw d4 y4 h4
  exact ⟨⟨k, t, g, a, b⟩, rfl, ⟨ha, hb⟩⟩
theorem ACm {H : Type} [ErrAt] (d : DataW H) (y : AV) (h : DRep Tryz.prog 31 d y) : ∃ l : List Mov, y = Dm l ∧ ∀ m ∈ l, RngMv m := by
 obtain ⟨l, rfl, hl⟩ := h.slice' oz G5 RngMv Tryz.underlying31 (Nat.le_refl _) (fun d y _ hr => AFy d y hr)
 exact ⟨l, by rw [show Tryz.prog.cellsOf 80 = 5 by kernel_rfl], hl.2⟩
theorem AFz {H : Type} [ErrAt] (d : DataW H) (y : AV) (h : DRep Tryz.prog 29 d y) : ∃ q : Qry, y = Qi q ∧ F7 Lv q.whr = true := by
 obtain ⟨ys, hn, rfl, hh⟩ := h.struct' oz Tryz.underlying29
 match ys, hn with
 | [y0, y1, y2, y3], _ =>
  obtain ⟨d0, b0, h0⟩ := hh 0 _ y0 rfl rfl
  obtain ⟨d1, b1, h1⟩ := hh 1 _ y1 rfl rfl
  obtain ⟨d2, b2, h2⟩ := hh 2 _ y2 rfl rfl
  obtain ⟨d3, b3, h3⟩ := hh 3 _ y3 rfl rfl
  obtain ⟨b, rfl, rfl⟩ := h0.bool' Tryz.underlying4
  obtain ⟨l, rfl⟩ := m9 d1 y1 h1
  obtain ⟨e, rfl, he⟩ := AAv d2 y2 h2
  obtain ⟨k, rfl, rfl, _⟩ := h3.int' Tryz.underlying3
  exact ⟨⟨b, l, e, k⟩, by simp only [Al] <;> rfl, he⟩
theorem main {H : Type} [ErrAt] (ds : List (DataW H)) (ys : List AV) (h : DReps Tryz.prog Tryz.f3.params.toList ds ys) : AFun Tryz.prog 3 ys [] (B0 true) := by
 rw [Tryz.params3] at h
 obtain ⟨d0, ds, y0, ys, rfl, rfl, h0, h⟩ := h.cons'
 obtain ⟨d1, ds, y1, ys, rfl, rfl, h1, h⟩ := h.cons'
 obtain ⟨d2, ds, y2, ys, rfl, rfl, h2, h⟩ := h.cons'
 obtain ⟨rfl, rfl⟩ := h.nil'
 obtain ⟨q, rfl, hq⟩ := AFz d0 y0 h0
 obtain ⟨c, rfl⟩ := m8 d1 y1 h1
 obtain ⟨l, rfl, hl⟩ := ACm d2 y2 h2
 exact c3 q hq c l hl []
theorem ACn (os : Os) : laidMet Tryz.prog Rows.rewriteTellsRow.laid ((World.laidAll Tryz.prog os Rows.rewriteTellsRow.laid).forCall (fun _ _ => 0) ⟨#[], #[.agg #[.bool false, .slice none 0 0, .int .i64 0, .string ⟨#[]⟩, .int .i64 0, .int .i64 0, .string ⟨#[]⟩, .slice none 0 0, .int .i64 0], .slice none 0 0, .slice none 0 0], []⟩).memory :=
 laidMet_laidAll _ (by kernel_rfl) (by kernel_rfl)
theorem AMy (os : Os) {H : Type} (enc : TypeId × Value → H) : DataW.whole enc Tryz.prog ((World.laidAll Tryz.prog os Rows.rewriteTellsRow.laid).forCall (fun _ _ => 0) ⟨#[], #[.agg #[.bool false, .slice none 0 0, .int .i64 0, .string ⟨#[]⟩, .int .i64 0, .int .i64 0, .string ⟨#[]⟩, .slice none 0 0, .int .i64 0], .slice none 0 0, .slice none 0 0], []⟩).memory Tryz.f3.params.toList Rows.rewriteTellsSpec.vars false
  #[.agg #[.bool false, .slice none 0 0, .int .i64 0, .string ⟨#[]⟩, .int .i64 0, .int .i64 0, .string ⟨#[]⟩, .slice none 0 0, .int .i64 0], .slice none 0 0, .slice none 0 0].toList 8 = some ([.agg [.lit (.bool false), .nil, .agg [.lit (.int .i64 0), .lit (.string []), .agg [.lit (.int .i64 0), .lit (.int .i64 0), .lit (.string [])], .nil], .lit (.int .i64 0)], .nil, .nil], [], []) := by kernel_rfl
theorem AG0 (os : Os) {H : Type} (enc : TypeId × Value → H) : ∃ (w : World) (tape : Tape) (i : Input), w.os = os ∧ (w.forCall tape i).Shaped Tryz.prog ∧ i.vars = [] ∧ Input.okWide Tryz.prog (w.forCall tape i) .any w.heap.size 3 i ∧
   (OpenSpec.ofChange Rows.rewriteTellsSpec).preRow enc Tryz.prog Tryz.f3 Rows.rewriteTellsRow.domain false Rows.rewriteTellsRow.laid (w.forCall tape i).memory i.args ∧ ({ modest := false } : Assume).holds Tryz.prog (lone (Frame.enter Tryz.prog 3 i.args .normal) [] (w.forCall tape i)) := by
 refine ⟨World.laidAll Tryz.prog os Rows.rewriteTellsRow.laid, fun _ _ => 0, ⟨#[], #[.agg #[.bool false, .slice none 0 0, .int .i64 0, .string ⟨#[]⟩, .int .i64 0, .int .i64 0, .string ⟨#[]⟩, .slice none 0 0, .int .i64 0], .slice none 0 0, .slice none 0 0], []⟩, World.laidAll_os _ _ _, World.shaped_of_ZipB (by kernel_rfl) (by kernel_rfl), rfl, (Input.okWide_of_okWideB (by kernel_rfl)).2,
  OpenSpec.preRow_of_cond 8 (AMy os enc) (by kernel_rfl) (fun k hk => by cases hk) (by kernel_rfl) ?_, ?_⟩
 ·rw [MakeChecks.laidMetH_plain _ _ _ (by kernel_rfl)]
  exact ACn os
 simp only [Assume.holds]
 exact ⟨by simp, by simp, fun h => (by cases h), by simp, by simp⟩
theorem AJ1 (os : Os) (started : os.Started) (H : Type) (enc : TypeId × Value → H) (F : Stop.Interp) :
  ReturnsInHanded {} Tryz.checked os 3 .any ((OpenSpec.ofChange Rows.rewriteTellsSpec).preRow enc Tryz.prog Tryz.f3 Rows.rewriteTellsRow.domain false Rows.rewriteTellsRow.laid) (((OpenSpec.ofChange Rows.rewriteTellsSpec).at F).post enc Tryz.prog Tryz.f3 false true false false) := by
 refine returnsInHanded_of_row (C := Tryz.checked) (s := (OpenSpec.ofChange Rows.rewriteTellsSpec)) own started (by kernel_rfl) Tryz.func3 (AG0 os enc) ?_
 intro W base args ds gs before hval hW _ hcond _ hL hsh _
 rw [MakeChecks.laidMetH_plain _ _ _ (by kernel_rfl)] at hL
 obtain ⟨b, hbv⟩ := ADs hL
 obtain ⟨b2, hbv2⟩ := AAt hL
 letI E : ErrAt := { b := b, bs := b2 }
 have hgs : gs = [] := by
  obtain ⟨p, q, _, hV, _⟩ := hW
  exact (trodVars_none hV).1
 subst hgs
 refine we (fn := Tryz.f3) (tb := 4) kids full AMx (fun t ht => ?_) Tryz.underlying4 (by kernel_rfl) rfl (fun ds hd => ?_) hval hW (glob hsh hL hbv hbv2) (fun ys hy => main ds ys hy)
 ·rw [Tryz.params3] at ht
  refine ⟨?_, ?_⟩
  ·have : ∀ t ∈ [29, 30, 31], t ∈ [29, 30, 31, 80, 69, 22, 25, 27, 24, 9, 4, 3, 2] := by decide
   exact this t ht
  have : ([29, 30, 31].all fun t => decide (t < Tryz.prog.types.size)) = true := by kernel_rfl
  exact of_decide_eq_true (List.all_eq_true.1 this t ht)
 have e : Tryz.f3.params.size = 3 := by rw [Tryz.params3]; rfl
 rw [e] at hd
 match ds, hd with
 | [_, _, _], _ => rfl
theorem AQ4 : Rows.RewriteTellsSaid :=
 OpenClaim.holds_of_cond 3 Tryz.f3 rfl rfl rfl rfl rfl rfl rfl ⟨rfl, rfl, rfl, rfl, rfl⟩ rfl rfl rfl rfl rfl y9 Tryz.func3 r7
  yd ye
  (fun os started H enc _ F => by rw [OpenClaim.pre_eq_preRow]; exact AJ1 os started H enc F)
theorem AG1 (f : FuncId) (fn : Func) (hf : Tryz.pinned.checked.prog.funcNamed "needlebeam/needlebeamlaw23.RewriteTells" = some f) (hfn : Tryz.pinned.checked.prog.funcs[f]? = some fn) :
  true = Tryz.pinned.checked.prog.looks [] ∧ ∀ (j : Nat) t, fn.params[j]? = some t → Tryz.pinned.checked.prog.wantsStandIn t = false := by
 obtain rfl : f = 3 := Option.some.inj ((show Tryz.prog.funcNamed "needlebeam/needlebeamlaw23.RewriteTells" = some 3 by kernel_rfl).symm.trans hf) |>.symm
 obtain rfl : fn = Tryz.f3 := (Option.some.inj (Tryz.func3.symm.trans hfn)).symm
 refine ⟨by kernel_rfl, fun j t ht => ?_⟩
 rw [Tryz.params3] at ht
 have hm : t ∈ [29, 30, 31] := by simpa using Array.mem_of_getElem? ht
 have hall : ([29, 30, 31].all fun u => !Tryz.prog.wantsStandIn u) = true := by kernel_rfl
 exact (show Tryz.prog.wantsStandIn t = false by simpa using List.all_eq_true.1 hall t hm)
theorem rewrite_tells_card : Rows.RewriteTellsCardSaid :=
 Claim7.holds_tied_plain_at .later [] _ _ _ _ AQ4 (fun _ h => by cases h) (by kernel_rfl) (fun _ h => by cases h) rewriteTells_row_tie rfl ⟨rfl, rfl⟩ (by kernel_rfl) rfl AG1 yb
end Go.Proofs.YtekiioamifokoaaGreatDoor
