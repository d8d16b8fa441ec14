/- RewriteBack answers true for whatever can be read: a query over the columns ahead, rewritten back, has over rows that come forth and back the answer that it has over the rows ahead. -/
import Derived.Test.YtekiioamifokoaaGreatDoorRewriteBackCardSaidPart11
set_option linter.all false
namespace Go.Proofs.YtekiioamifokoaaGreatDoor
open Go Go.SX Go.SX.Nb Go.ChangeShapes Go.RowKit
set_option maxRecDepth 100000
theorem plain : PlainT Tryz.prog (· ∈ [29, 30, 31, 80, 69, 22, 25, 27, 24, 9, 4, 3, 2, 52, 58, 54]) := ⟨fun t ht => by
 simp only [List.mem_cons, List.mem_nil_iff, or_false] at ht
 rcases ht with rfl | rfl | rfl | rfl | rfl | rfl | rfl | rfl | rfl | rfl | rfl | rfl | rfl | rfl | rfl | rfl
 ·refine .inr ⟨_, Tryz.underlying29, fun f hf => ?_, kids.struct (of_decide_eq_true (by kernel_rfl)) Tryz.underlying29 |>.2⟩
  simp only [List.mem_cons, List.mem_nil_iff, or_false] at hf
  rcases hf with rfl | rfl | rfl | rfl <;> simp
 ·exact .inl ⟨by kernel_rfl, .inr (.inr (.inr ⟨_, Tryz.underlying30, by simp, by rw [show Tryz.prog.cellsOf 69 = 2 by kernel_rfl]; decide⟩))⟩
 ·exact .inl ⟨by kernel_rfl, .inr (.inr (.inr ⟨_, Tryz.underlying31, by simp, by rw [show Tryz.prog.cellsOf 80 = 5 by kernel_rfl]; decide⟩))⟩
 ·refine .inr ⟨_, Tryz.underlying80, fun f hf => ?_, kids.struct (of_decide_eq_true (by kernel_rfl)) Tryz.underlying80 |>.2⟩
  simp only [List.mem_cons, List.mem_nil_iff, or_false] at hf
  rcases hf with rfl | rfl | rfl | rfl | rfl <;> simp
 ·refine .inr ⟨_, Tryz.underlying69, fun f hf => ?_, kids.struct (of_decide_eq_true (by kernel_rfl)) Tryz.underlying69 |>.2⟩
  simp only [List.mem_cons, List.mem_nil_iff, or_false] at hf
  rcases hf with rfl | rfl <;> simp
 ·exact .inl ⟨by kernel_rfl, .inr (.inr (.inr ⟨_, Tryz.underlying22, by simp, by rw [show Tryz.prog.cellsOf 9 = 1 by kernel_rfl]; decide⟩))⟩
 ·exact .inl ⟨by kernel_rfl, .inr (.inr (.inr ⟨_, Tryz.underlying25, by simp, by rw [show Tryz.prog.cellsOf 27 = 6 by kernel_rfl]; decide⟩))⟩
 ·refine .inr ⟨_, Tryz.underlying27, fun f hf => ?_, kids.struct (of_decide_eq_true (by kernel_rfl)) Tryz.underlying27 |>.2⟩
  simp only [List.mem_cons, List.mem_nil_iff, or_false] at hf
  rcases hf with rfl | rfl | rfl | rfl <;> simp
 ·refine .inr ⟨_, Tryz.underlying24, fun f hf => ?_, kids.struct (of_decide_eq_true (by kernel_rfl)) Tryz.underlying24 |>.2⟩
  simp only [List.mem_cons, List.mem_nil_iff, or_false] at hf
  rcases hf with rfl | rfl | rfl <;> simp
 ·exact .inl ⟨by kernel_rfl, .inr (.inr (.inl Tryz.underlying9))⟩
 ·exact .inl ⟨by kernel_rfl, .inr (.inl Tryz.underlying4)⟩
 ·exact .inl ⟨by kernel_rfl, .inl ⟨_, Tryz.underlying3⟩⟩
 ·exact .inl ⟨by kernel_rfl, .inl ⟨_, Tryz.underlying2⟩⟩
 ·exact .inl ⟨by kernel_rfl, .inr (.inr (.inr ⟨_, Tryz.underlying52, by simp, by rw [show Tryz.prog.cellsOf 58 = 2 by kernel_rfl]; decide⟩))⟩
 ·refine .inr ⟨_, Tryz.underlying58, fun f hf => ?_, kids.struct (of_decide_eq_true (by kernel_rfl)) Tryz.underlying58 |>.2⟩
  simp only [List.mem_cons, List.mem_nil_iff, or_false] at hf
  rcases hf with rfl | rfl <;> simp
 exact .inl ⟨by kernel_rfl, .inr (.inr (.inr ⟨_, Tryz.underlying54, by simp, by rw [show Tryz.prog.cellsOf 24 = 3 by kernel_rfl]; decide⟩))⟩⟩
theorem AJw {H : Type} [ErrAt] (d : DataW H) (y : AV) (h : DRep Tryz.prog 69 d y) : ∃ c : Col, y = Cc c := by
 obtain ⟨ys, hn, rfl, hh⟩ := h.struct' ce Tryz.underlying69
 match ys, hn with
 | [y0, y1], _ =>
  obtain ⟨d0, b0, h0⟩ := hh 0 _ y0 rfl rfl
  obtain ⟨d1, b1, h1⟩ := hh 1 _ y1 rfl rfl
  obtain ⟨s, rfl, rfl⟩ := h0.str' Tryz.underlying9
  obtain ⟨k, rfl, rfl, _⟩ := h1.int' Tryz.underlying3
  exact ⟨⟨s, k⟩, rfl⟩
theorem oe {H : Type} [ErrAt] (d : DataW H) (y : AV) (h : DRep Tryz.prog 30 d y) : ∃ c : List Col, y = Am c := by
 obtain ⟨l, rfl, _⟩ := h.slice' ce Cc (fun _ => True) Tryz.underlying30 (Nat.le_refl _) (fun d y _ hr => (AJw d y hr).imp fun c h => ⟨h, trivial⟩)
 exact ⟨l, by rw [show Tryz.prog.cellsOf 69 = 2 by kernel_rfl]⟩
theorem og {H : Type} [ErrAt] (d : DataW H) (y : AV) (h : DRep Tryz.prog 22 d y) : ∃ l : List Str, y = G9 l := by
 obtain ⟨l, rfl, _⟩ := h.slice' ce Ac (fun _ => True) Tryz.underlying22 (Nat.le_refl _) (fun d y _ hr => by
  obtain ⟨s, rfl, rfl⟩ := hr.str' Tryz.underlying9
  exact ⟨s, rfl, trivial⟩)
 exact ⟨l, by rw [show Tryz.prog.cellsOf 9 = 1 by kernel_rfl]⟩
theorem fx {H : Type} [ErrAt] (d : DataW H) (y : AV) (h : DRep Tryz.prog 25 d y) : ∃ l : List Nb.Expr, y = C4 l ∧ ∀ e ∈ l, Dy Ge e = true := by
 obtain ⟨l, rfl, hl⟩ := (ma h).2 rfl
 exact ⟨l, rfl, (Fu _ _).1 hl⟩
theorem AJx {H : Type} [ErrAt] (d : DataW H) (y : AV) (h : DRep Tryz.prog 80 d y) : ∃ m : Mov, y = Hs m ∧ RngMv m := by
 obtain ⟨ys, hn, rfl, hh⟩ := h.struct' ce Tryz.underlying80
 match ys, hn with
 | [y0, y1, y2, y3, y4], _ =>
  obtain ⟨d0, b0, h0⟩ := hh 0 _ y0 rfl rfl
  obtain ⟨d1, b1, h1⟩ := hh 1 _ y1 rfl rfl
  obtain ⟨d2, b2, h2⟩ := hh 2 _ y2 rfl rfl
  obtain ⟨d3, b3, h3⟩ := hh 3 _ y3 rfl rfl
  obtain ⟨d4, b4, h4⟩ := hh 4 _ y4 rfl rfl
  obtain ⟨k, rfl, rfl, _⟩ := h0.int' Tryz.underlying3
  obtain ⟨t, rfl⟩ := og d1 y1 h1
  obtain ⟨g, rfl⟩ := oe d2 y2 h2
  obtain ⟨a, rfl, ha⟩ := fx d3 y3 h3
  obtain ⟨b, rfl, hb⟩ := fx d4 y4 h4
  exact ⟨⟨k, t, g, a, b⟩, rfl, ⟨ha, hb⟩⟩
theorem AG3 {H : Type} [ErrAt] (d : DataW H) (y : AV) (h : DRep Tryz.prog 31 d y) : ∃ l : List Mov, y = Eh l ∧ ∀ m ∈ l, RngMv m := by
 obtain ⟨l, rfl, hl⟩ := h.slice' ce Hs RngMv Tryz.underlying31 (Nat.le_refl _) (fun d y _ hr => AJx d y hr)
 exact ⟨l, by rw [show Tryz.prog.cellsOf 80 = 5 by kernel_rfl], hl.2⟩
theorem AJy {H : Type} [ErrAt] (d : DataW H) (y : AV) (h : DRep Tryz.prog 29 d y) : ∃ q : Qry, y = Rl q ∧ Dy Ge q.whr = true := by
 obtain ⟨ys, hn, rfl, hh⟩ := h.struct' ce Tryz.underlying29
 match ys, hn with
 | [y0, y1, y2, y3], _ =>
  obtain ⟨d0, b0, h0⟩ := hh 0 _ y0 rfl rfl
  obtain ⟨d1, b1, h1⟩ := hh 1 _ y1 rfl rfl
  obtain ⟨d2, b2, h2⟩ := hh 2 _ y2 rfl rfl
  obtain ⟨d3, b3, h3⟩ := hh 3 _ y3 rfl rfl
  obtain ⟨b, rfl, rfl⟩ := h0.bool' Tryz.underlying4
  obtain ⟨l, rfl⟩ := og d1 y1 h1
  obtain ⟨e, rfl, he⟩ := ADd d2 y2 h2
  obtain ⟨k, rfl, rfl, _⟩ := h3.int' Tryz.underlying3
  exact ⟨⟨b, l, e, k⟩, by simp only [Ap] <;> rfl, he⟩
theorem AG4 {H : Type} [ErrAt] (d : DataW H) (y : AV) (h : DRep Tryz.prog 54 d y) : ∃ l : List Val, y = Ce l ∧ ∀ v ∈ l, -9223372036854775808 ≤ v.n ∧ v.n ≤ 9223372036854775807 := by
 obtain ⟨l, rfl, hl⟩ := h.slice' ce Bq (fun v => -9223372036854775808 ≤ v.n ∧ v.n ≤ 9223372036854775807) Tryz.underlying54 (Nat.le_refl _) (fun d y _ hr => (uj d y hr).imp fun c h => ⟨h.1, h.2⟩)
 exact ⟨l, by rw [show Tryz.prog.cellsOf 24 = 3 by kernel_rfl], hl.2⟩
theorem AJz {H : Type} [ErrAt] (d : DataW H) (y : AV) (h : DRep Tryz.prog 58 d y) : ∃ r : Row, y = Eo r ∧ ∀ v ∈ r.l, -9223372036854775808 ≤ v.n ∧ v.n ≤ 9223372036854775807 := by
 obtain ⟨ys, hn, rfl, hh⟩ := h.struct' ce Tryz.underlying58
 match ys, hn with
 | [y0, y1], _ =>
  obtain ⟨d0, b0, h0⟩ := hh 0 _ y0 rfl rfl
  obtain ⟨d1, b1, h1⟩ := hh 1 _ y1 rfl rfl
  obtain ⟨k, rfl, rfl, _⟩ := h0.int' Tryz.underlying2
  obtain ⟨l, rfl, hl⟩ := AG4 d1 y1 h1
  exact ⟨⟨k, l⟩, rfl, hl⟩
theorem AG5 {H : Type} [ErrAt] (d : DataW H) (y : AV) (h : DRep Tryz.prog 52 d y) : ∃ l : List Row, y = Hu l ∧ ∀ r ∈ l, ∀ v ∈ r.l, -9223372036854775808 ≤ v.n ∧ v.n ≤ 9223372036854775807 := by
 obtain ⟨l, rfl, hl⟩ := h.slice' ce Eo (fun r => ∀ v ∈ r.l, -9223372036854775808 ≤ v.n ∧ v.n ≤ 9223372036854775807) Tryz.underlying52 (Nat.le_refl _) (fun d y _ hr => AJz d y hr)
 exact ⟨l, by rw [show Tryz.prog.cellsOf 58 = 2 by kernel_rfl], hl.2⟩
theorem main {H : Type} [ErrAt] (ds : List (DataW H)) (ys : List AV) (h : DReps Tryz.prog Tryz.f6.params.toList ds ys) : AFun Tryz.prog 6 ys [] (B4 true) := by
 rw [Tryz.params6] at h
 obtain ⟨d0, ds, y0, ys, rfl, rfl, h0, h⟩ := h.cons'
 obtain ⟨d1, ds, y1, ys, rfl, rfl, h1, h⟩ := h.cons'
 obtain ⟨d2, ds, y2, ys, rfl, rfl, h2, h⟩ := h.cons'
 obtain ⟨d3, ds, y3, ys, rfl, rfl, h3, h⟩ := h.cons'
 obtain ⟨rfl, rfl⟩ := h.nil'
 obtain ⟨q, rfl, hq⟩ := AJy d0 y0 h0
 obtain ⟨c, rfl⟩ := oe d1 y1 h1
 obtain ⟨l, rfl, hl⟩ := AG3 d2 y2 h2
 obtain ⟨w, rfl, hw⟩ := AG5 d3 y3 h3
 exact c6r q hq c l hl w hw []
theorem AG6 (os : Os) : laidMet Tryz.prog Rows.rewriteBackRow.laid ((World.laidAll Tryz.prog os Rows.rewriteBackRow.laid).forCall (fun _ _ => 0) ⟨#[], #[.agg #[.bool false, .slice none 0 0, .int .i64 0, .string ⟨#[]⟩, .int .i64 0, .int .i64 0, .string ⟨#[]⟩, .slice none 0 0, .int .i64 0], .slice none 0 0, .slice none 0 0, .slice none 0 0], []⟩).memory :=
 laidMet_laidAll _ (by kernel_rfl) (by kernel_rfl)
theorem AR7 (os : Os) {H : Type} (enc : TypeId × Value → H) : DataW.whole enc Tryz.prog ((World.laidAll Tryz.prog os Rows.rewriteBackRow.laid).forCall (fun _ _ => 0) ⟨#[], #[.agg #[.bool false, .slice none 0 0, .int .i64 0, .string ⟨#[]⟩, .int .i64 0, .int .i64 0, .string ⟨#[]⟩, .slice none 0 0, .int .i64 0], .slice none 0 0, .slice none 0 0, .slice none 0 0], []⟩).memory Tryz.f6.params.toList Rows.rewriteBackSpec.vars false
  #[.agg #[.bool false, .slice none 0 0, .int .i64 0, .string ⟨#[]⟩, .int .i64 0, .int .i64 0, .string ⟨#[]⟩, .slice none 0 0, .int .i64 0], .slice none 0 0, .slice none 0 0, .slice none 0 0].toList 8 = some ([.agg [.lit (.bool false), .nil, .agg [.lit (.int .i64 0), .lit (.string []), .agg [.lit (.int .i64 0), .lit (.int .i64 0), .lit (.string [])], .nil], .lit (.int .i64 0)], .nil, .nil, .nil], [], []) := by kernel_rfl
theorem AK0 (os : Os) {H : Type} (enc : TypeId × Value → H) : ∃ (w : World) (tape : Tape) (i : Input), w.os = os ∧ (w.forCall tape i).Shaped Tryz.prog ∧ i.vars = [] ∧ Input.okWide Tryz.prog (w.forCall tape i) .any w.heap.size 6 i ∧
   (OpenSpec.ofChange Rows.rewriteBackSpec).preRow enc Tryz.prog Tryz.f6 Rows.rewriteBackRow.domain false Rows.rewriteBackRow.laid (w.forCall tape i).memory i.args ∧ ({ modest := false } : Assume).holds Tryz.prog (lone (Frame.enter Tryz.prog 6 i.args .normal) [] (w.forCall tape i)) := by
 refine ⟨World.laidAll Tryz.prog os Rows.rewriteBackRow.laid, fun _ _ => 0, ⟨#[], #[.agg #[.bool false, .slice none 0 0, .int .i64 0, .string ⟨#[]⟩, .int .i64 0, .int .i64 0, .string ⟨#[]⟩, .slice none 0 0, .int .i64 0], .slice none 0 0, .slice none 0 0, .slice none 0 0], []⟩, World.laidAll_os _ _ _, World.shaped_of_ZipB (by kernel_rfl) (by kernel_rfl), rfl, (Input.okWide_of_okWideB (by kernel_rfl)).2,
  OpenSpec.preRow_of_cond 8 (AR7 os enc) (by kernel_rfl) (fun k hk => by cases hk) (by kernel_rfl) ?_, ?_⟩
 ·rw [MakeChecks.laidMetH_plain _ _ _ (by kernel_rfl)]
  exact AG6 os
 simp only [Assume.holds]
 exact ⟨by simp, by simp, fun h => (by cases h), by simp, by simp⟩
theorem AMx (os : Os) (started : os.Started) (H : Type) (enc : TypeId × Value → H) (F : Stop.Interp) :
  ReturnsInHanded {} Tryz.checked os 6 .any ((OpenSpec.ofChange Rows.rewriteBackSpec).preRow enc Tryz.prog Tryz.f6 Rows.rewriteBackRow.domain false Rows.rewriteBackRow.laid) (((OpenSpec.ofChange Rows.rewriteBackSpec).at F).post enc Tryz.prog Tryz.f6 false true false false) := by
 refine returnsInHanded_of_row (C := Tryz.checked) (s := (OpenSpec.ofChange Rows.rewriteBackSpec)) own started (by kernel_rfl) Tryz.func6 (AK0 os enc) ?_
 intro W base args ds gs before hval hW _ hcond _ hL hsh _
 rw [MakeChecks.laidMetH_plain _ _ _ (by kernel_rfl)] at hL
 obtain ⟨b, hbv⟩ := AH9 hL
 obtain ⟨b2, hbv2⟩ := ADb hL
 letI E : ErrAt := { b := b, bs := b2 }
 have hgs : gs = [] := by
  obtain ⟨p, q, _, hV, _⟩ := hW
  exact (trodVars_none hV).1
 subst hgs
 refine yq (fn := Tryz.f6) (tb := 4) kids full plain (fun t ht => ?_) Tryz.underlying4 (by kernel_rfl) rfl (fun ds hd => ?_) hval hW (glob hsh hL hbv hbv2) (fun ys hy => main ds ys hy)
 ·rw [Tryz.params6] at ht
  refine ⟨?_, ?_⟩
  ·have : ∀ t ∈ [29, 30, 31, 52], t ∈ [29, 30, 31, 80, 69, 22, 25, 27, 24, 9, 4, 3, 2, 52, 58, 54] := by decide
   exact this t ht
  have : ([29, 30, 31, 52].all fun t => decide (t < Tryz.prog.types.size)) = true := by kernel_rfl
  exact of_decide_eq_true (List.all_eq_true.1 this t ht)
 have e : Tryz.f6.params.size = 4 := by rw [Tryz.params6]; rfl
 rw [e] at hd
 match ds, hd with
 | [_, _, _, _], _ => rfl
theorem AUq : Rows.RewriteBackSaid :=
 OpenClaim.holds_of_cond 6 Tryz.f6 rfl rfl rfl rfl rfl rfl rfl ⟨rfl, rfl, rfl, rfl, rfl⟩ rfl rfl rfl rfl rfl AAu Tryz.func6 tg
  AAw AAx
  (fun os started H enc _ F => by rw [OpenClaim.pre_eq_preRow]; exact AMx os started H enc F)
theorem AK1 (f : FuncId) (fn : Func) (hf : Tryz.pinned.checked.prog.funcNamed "needlebeam/needlebeamlaw23.RewriteBack" = some f) (hfn : Tryz.pinned.checked.prog.funcs[f]? = some fn) :
  true = Tryz.pinned.checked.prog.looks [] ∧ ∀ (j : Nat) t, fn.params[j]? = some t → Tryz.pinned.checked.prog.wantsStandIn t = false := by
 obtain rfl : f = 6 := Option.some.inj ((show Tryz.prog.funcNamed "needlebeam/needlebeamlaw23.RewriteBack" = some 6 by kernel_rfl).symm.trans hf) |>.symm
 obtain rfl : fn = Tryz.f6 := (Option.some.inj (Tryz.func6.symm.trans hfn)).symm
 refine ⟨by kernel_rfl, fun j t ht => ?_⟩
 rw [Tryz.params6] at ht
 have hm : t ∈ [29, 30, 31, 52] := by simpa using Array.mem_of_getElem? ht
 have hall : ([29, 30, 31, 52].all fun u => !Tryz.prog.wantsStandIn u) = true := by kernel_rfl
 exact (show Tryz.prog.wantsStandIn t = false by simpa using List.all_eq_true.1 hall t hm)
theorem rewrite_back_card : Rows.RewriteBackCardSaid :=
 Claim7.holds_tied_plain_at .later [] _ _ _ _ AUq (fun _ h => by cases h) (by kernel_rfl) (fun _ h => by cases h) rewriteBack_row_tie rfl ⟨rfl, rfl⟩ (by kernel_rfl) rfl AK1 AAv
end Go.Proofs.YtekiioamifokoaaGreatDoor
