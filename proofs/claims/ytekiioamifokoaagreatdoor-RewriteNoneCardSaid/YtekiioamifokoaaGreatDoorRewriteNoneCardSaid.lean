/- RewriteNone answers true for whatever can be read: without moves the plans have each column's name for its tree, and have the query's answer over any rows. -/
import Derived.Test.YtekiioamifokoaaGreatDoorRewriteNoneCardSaidPart11
set_option linter.all false
namespace Go.Proofs.YtekiioamifokoaaGreatDoor
open Go Go.SX Go.SX.Nb Go.ChangeShapes Go.RowKit
set_option maxRecDepth 100000
theorem plain : PlainT Tryz.prog (· ∈ [29, 30, 69, 22, 25, 27, 24, 9, 4, 3, 2, 52, 58, 54]) := ⟨fun t ht => by
 simp only [List.mem_cons, List.mem_nil_iff, or_false] at ht
 rcases ht with rfl | rfl | rfl | rfl | rfl | rfl | rfl | rfl | rfl | rfl | rfl | rfl | rfl | rfl
 ·refine .inr ⟨_, Tryz.underlying29, fun f hf => ?_, kids.struct (of_decide_eq_true (by kernel_rfl)) Tryz.underlying29 |>.2⟩
  simp only [List.mem_cons, List.mem_nil_iff, or_false] at hf
  rcases hf with rfl | rfl | rfl | rfl <;> simp
 ·exact .inl ⟨by kernel_rfl, .inr (.inr (.inr ⟨_, Tryz.underlying30, by simp, by rw [show Tryz.prog.cellsOf 69 = 2 by kernel_rfl]; decide⟩))⟩
 ·refine .inr ⟨_, Tryz.underlying69, fun f hf => ?_, kids.struct (of_decide_eq_true (by kernel_rfl)) Tryz.underlying69 |>.2⟩
  simp only [List.mem_cons, List.mem_nil_iff, or_false] at hf
  rcases hf with rfl | rfl <;> simp
 ·exact .inl ⟨by kernel_rfl, .inr (.inr (.inr ⟨_, Tryz.underlying22, by simp, by rw [show Tryz.prog.cellsOf 9 = 1 by kernel_rfl]; decide⟩))⟩
 ·exact .inl ⟨by kernel_rfl, .inr (.inr (.inr ⟨_, Tryz.underlying25, by simp, by rw [show Tryz.prog.cellsOf 27 = 6 by kernel_rfl]; decide⟩))⟩
 ·refine .inr ⟨_, Tryz.underlying27, fun f hf => ?_, kids.struct (of_decide_eq_true (by kernel_rfl)) Tryz.underlying27 |>.2⟩
  simp only [List.mem_cons, List.mem_nil_iff, or_false] at hf
  rcases hf with rfl | rfl | rfl | rfl <;> simp
 ·refine .inr ⟨_, Tryz.underlying24, fun f hf => ?_, kids.struct (of_decide_eq_true (by kernel_rfl)) Tryz.underlying24 |>.2⟩
  simp only [List.mem_cons, List.mem_nil_iff, or_false] at hf
  rcases hf with rfl | rfl | rfl <;> simp
 ·exact .inl ⟨by kernel_rfl, .inr (.inr (.inl Tryz.underlying9))⟩
 ·exact .inl ⟨by kernel_rfl, .inr (.inl Tryz.underlying4)⟩
 ·exact .inl ⟨by kernel_rfl, .inl ⟨_, Tryz.underlying3⟩⟩
 ·exact .inl ⟨by kernel_rfl, .inl ⟨_, Tryz.underlying2⟩⟩
 ·exact .inl ⟨by kernel_rfl, .inr (.inr (.inr ⟨_, Tryz.underlying52, by simp, by rw [show Tryz.prog.cellsOf 58 = 2 by kernel_rfl]; decide⟩))⟩
 ·refine .inr ⟨_, Tryz.underlying58, fun f hf => ?_, kids.struct (of_decide_eq_true (by kernel_rfl)) Tryz.underlying58 |>.2⟩
  simp only [List.mem_cons, List.mem_nil_iff, or_false] at hf
  rcases hf with rfl | rfl <;> simp
 exact .inl ⟨by kernel_rfl, .inr (.inr (.inr ⟨_, Tryz.underlying54, by simp, by rw [show Tryz.prog.cellsOf 24 = 3 by kernel_rfl]; decide⟩))⟩⟩
theorem AGz {H : Type} [ErrAt] (d : DataW H) (y : AV) (h : DRep Tryz.prog 69 d y) : ∃ c : Col, y = C0 c := by
 obtain ⟨ys, hn, rfl, hh⟩ := h.struct' jf Tryz.underlying69
 match ys, hn with
 | [y0, y1], _ =>
  obtain ⟨d0, b0, h0⟩ := hh 0 _ y0 rfl rfl
  obtain ⟨d1, b1, h1⟩ := hh 1 _ y1 rfl rfl
  obtain ⟨s, rfl, rfl⟩ := h0.str' Tryz.underlying9
  obtain ⟨k, rfl, rfl, _⟩ := h1.int' Tryz.underlying3
  exact ⟨⟨s, k⟩, rfl⟩
theorem ADe {H : Type} [ErrAt] (d : DataW H) (y : AV) (h : DRep Tryz.prog 30 d y) : ∃ c : List Col, y = An c := by
 obtain ⟨l, rfl, _⟩ := h.slice' jf C0 (fun _ => True) Tryz.underlying30 (Nat.le_refl _) (fun d y _ hr => (AGz d y hr).imp fun c h => ⟨h, trivial⟩)
 exact ⟨l, by rw [show Tryz.prog.cellsOf 69 = 2 by kernel_rfl]⟩
theorem ADf {H : Type} [ErrAt] (d : DataW H) (y : AV) (h : DRep Tryz.prog 22 d y) : ∃ l : List Str, y = Fg l := by
 obtain ⟨l, rfl, _⟩ := h.slice' jf Ac (fun _ => True) Tryz.underlying22 (Nat.le_refl _) (fun d y _ hr => by
  obtain ⟨s, rfl, rfl⟩ := hr.str' Tryz.underlying9
  exact ⟨s, rfl, trivial⟩)
 exact ⟨l, by rw [show Tryz.prog.cellsOf 9 = 1 by kernel_rfl]⟩
theorem AH0 {H : Type} [ErrAt] (d : DataW H) (y : AV) (h : DRep Tryz.prog 29 d y) : ∃ q : Qry, y = Nx q ∧ E0 Hb q.whr = true := by
 obtain ⟨ys, hn, rfl, hh⟩ := h.struct' jf Tryz.underlying29
 match ys, hn with
 | [y0, y1, y2, y3], _ =>
  obtain ⟨d0, b0, h0⟩ := hh 0 _ y0 rfl rfl
  obtain ⟨d1, b1, h1⟩ := hh 1 _ y1 rfl rfl
  obtain ⟨d2, b2, h2⟩ := hh 2 _ y2 rfl rfl
  obtain ⟨d3, b3, h3⟩ := hh 3 _ y3 rfl rfl
  obtain ⟨b, rfl, rfl⟩ := h0.bool' Tryz.underlying4
  obtain ⟨l, rfl⟩ := ADf d1 y1 h1
  obtain ⟨e, rfl, he⟩ := AAu d2 y2 h2
  obtain ⟨k, rfl, rfl, _⟩ := h3.int' Tryz.underlying3
  exact ⟨⟨b, l, e, k⟩, by simp only [Al] <;> rfl, he⟩
theorem ADg {H : Type} [ErrAt] (d : DataW H) (y : AV) (h : DRep Tryz.prog 54 d y) : ∃ l : List Val, y = Hf l ∧ ∀ v ∈ l, -9223372036854775808 ≤ v.n ∧ v.n ≤ 9223372036854775807 := by
 obtain ⟨l, rfl, hl⟩ := h.slice' jf Bm (fun v => -9223372036854775808 ≤ v.n ∧ v.n ≤ 9223372036854775807) Tryz.underlying54 (Nat.le_refl _) (fun d y _ hr => (r6 d y hr).imp fun c h => ⟨h.1, h.2⟩)
 exact ⟨l, by rw [show Tryz.prog.cellsOf 24 = 3 by kernel_rfl], hl.2⟩
theorem AH1 {H : Type} [ErrAt] (d : DataW H) (y : AV) (h : DRep Tryz.prog 58 d y) : ∃ r : Row, y = Eh r ∧ ∀ v ∈ r.l, -9223372036854775808 ≤ v.n ∧ v.n ≤ 9223372036854775807 := by
 obtain ⟨ys, hn, rfl, hh⟩ := h.struct' jf Tryz.underlying58
 match ys, hn with
 | [y0, y1], _ =>
  obtain ⟨d0, b0, h0⟩ := hh 0 _ y0 rfl rfl
  obtain ⟨d1, b1, h1⟩ := hh 1 _ y1 rfl rfl
  obtain ⟨k, rfl, rfl, _⟩ := h0.int' Tryz.underlying2
  obtain ⟨l, rfl, hl⟩ := ADg d1 y1 h1
  exact ⟨⟨k, l⟩, rfl, hl⟩
theorem ADh {H : Type} [ErrAt] (d : DataW H) (y : AV) (h : DRep Tryz.prog 52 d y) : ∃ l : List Row, y = Gy l ∧ ∀ r ∈ l, ∀ v ∈ r.l, -9223372036854775808 ≤ v.n ∧ v.n ≤ 9223372036854775807 := by
 obtain ⟨l, rfl, hl⟩ := h.slice' jf Eh (fun r => ∀ v ∈ r.l, -9223372036854775808 ≤ v.n ∧ v.n ≤ 9223372036854775807) Tryz.underlying52 (Nat.le_refl _) (fun d y _ hr => AH1 d y hr)
 exact ⟨l, by rw [show Tryz.prog.cellsOf 58 = 2 by kernel_rfl], hl.2⟩
theorem main {H : Type} [ErrAt] (ds : List (DataW H)) (ys : List AV) (h : DReps Tryz.prog Tryz.f5.params.toList ds ys) : AFun Tryz.prog 5 ys [] (Az true) := by
 rw [Tryz.params5] at h
 obtain ⟨d0, ds, y0, ys, rfl, rfl, h0, h⟩ := h.cons'
 obtain ⟨d1, ds, y1, ys, rfl, rfl, h1, h⟩ := h.cons'
 obtain ⟨d2, ds, y2, ys, rfl, rfl, h2, h⟩ := h.cons'
 obtain ⟨rfl, rfl⟩ := h.nil'
 obtain ⟨q, rfl, hq⟩ := AH0 d0 y0 h0
 obtain ⟨c, rfl⟩ := ADe d1 y1 h1
 obtain ⟨w, rfl, hw⟩ := ADh d2 y2 h2
 exact c5 q hq c w hw []
theorem ADi (os : Os) : laidMet Tryz.prog Rows.rewriteNoneRow.laid ((World.laidAll Tryz.prog os Rows.rewriteNoneRow.laid).forCall (fun _ _ => 0) ⟨#[], #[.agg #[.bool false, .slice none 0 0, .int .i64 0, .string ⟨#[]⟩, .int .i64 0, .int .i64 0, .string ⟨#[]⟩, .slice none 0 0, .int .i64 0], .slice none 0 0, .slice none 0 0], []⟩).memory :=
 laidMet_laidAll _ (by kernel_rfl) (by kernel_rfl)
theorem ANv (os : Os) {H : Type} (enc : TypeId × Value → H) : DataW.whole enc Tryz.prog ((World.laidAll Tryz.prog os Rows.rewriteNoneRow.laid).forCall (fun _ _ => 0) ⟨#[], #[.agg #[.bool false, .slice none 0 0, .int .i64 0, .string ⟨#[]⟩, .int .i64 0, .int .i64 0, .string ⟨#[]⟩, .slice none 0 0, .int .i64 0], .slice none 0 0, .slice none 0 0], []⟩).memory Tryz.f5.params.toList Rows.rewriteNoneSpec.vars false
  #[.agg #[.bool false, .slice none 0 0, .int .i64 0, .string ⟨#[]⟩, .int .i64 0, .int .i64 0, .string ⟨#[]⟩, .slice none 0 0, .int .i64 0], .slice none 0 0, .slice none 0 0].toList 8 = some ([.agg [.lit (.bool false), .nil, .agg [.lit (.int .i64 0), .lit (.string []), .agg [.lit (.int .i64 0), .lit (.int .i64 0), .lit (.string [])], .nil], .lit (.int .i64 0)], .nil, .nil], [], []) := by kernel_rfl
theorem AH2 (os : Os) {H : Type} (enc : TypeId × Value → H) : ∃ (w : World) (tape : Tape) (i : Input), w.os = os ∧ (w.forCall tape i).Shaped Tryz.prog ∧ i.vars = [] ∧ Input.okWide Tryz.prog (w.forCall tape i) .any w.heap.size 5 i ∧
   (OpenSpec.ofChange Rows.rewriteNoneSpec).preRow enc Tryz.prog Tryz.f5 Rows.rewriteNoneRow.domain false Rows.rewriteNoneRow.laid (w.forCall tape i).memory i.args ∧ ({ modest := false } : Assume).holds Tryz.prog (lone (Frame.enter Tryz.prog 5 i.args .normal) [] (w.forCall tape i)) := by
 refine ⟨World.laidAll Tryz.prog os Rows.rewriteNoneRow.laid, fun _ _ => 0, ⟨#[], #[.agg #[.bool false, .slice none 0 0, .int .i64 0, .string ⟨#[]⟩, .int .i64 0, .int .i64 0, .string ⟨#[]⟩, .slice none 0 0, .int .i64 0], .slice none 0 0, .slice none 0 0], []⟩, World.laidAll_os _ _ _, World.shaped_of_ZipB (by kernel_rfl) (by kernel_rfl), rfl, (Input.okWide_of_okWideB (by kernel_rfl)).2,
  OpenSpec.preRow_of_cond 8 (ANv os enc) (by kernel_rfl) (fun k hk => by cases hk) (by kernel_rfl) ?_, ?_⟩
 ·rw [MakeChecks.laidMetH_plain _ _ _ (by kernel_rfl)]
  exact ADi os
 simp only [Assume.holds]
 exact ⟨by simp, by simp, fun h => (by cases h), by simp, by simp⟩
theorem AJw (os : Os) (started : os.Started) (H : Type) (enc : TypeId × Value → H) (F : Stop.Interp) :
  ReturnsInHanded {} Tryz.checked os 5 .any ((OpenSpec.ofChange Rows.rewriteNoneSpec).preRow enc Tryz.prog Tryz.f5 Rows.rewriteNoneRow.domain false Rows.rewriteNoneRow.laid) (((OpenSpec.ofChange Rows.rewriteNoneSpec).at F).post enc Tryz.prog Tryz.f5 false true false false) := by
 refine returnsInHanded_of_row (C := Tryz.checked) (s := (OpenSpec.ofChange Rows.rewriteNoneSpec)) own started (by kernel_rfl) Tryz.func5 (AH2 os enc) ?_
 intro W base args ds gs before hval hW _ hcond _ hL hsh _
 rw [MakeChecks.laidMetH_plain _ _ _ (by kernel_rfl)] at hL
 obtain ⟨b, hbv⟩ := AEk hL
 obtain ⟨b2, hbv2⟩ := AAq hL
 letI E : ErrAt := { b := b, bs := b2 }
 have hgs : gs = [] := by
  obtain ⟨p, q, _, hV, _⟩ := hW
  exact (trodVars_none hV).1
 subst hgs
 refine vk (fn := Tryz.f5) (tb := 4) kids full plain (fun t ht => ?_) Tryz.underlying4 (by kernel_rfl) rfl (fun ds hd => ?_) hval hW (glob hsh hL hbv hbv2) (fun ys hy => main ds ys hy)
 ·rw [Tryz.params5] at ht
  refine ⟨?_, ?_⟩
  ·have : ∀ t ∈ [29, 30, 52], t ∈ [29, 30, 69, 22, 25, 27, 24, 9, 4, 3, 2, 52, 58, 54] := by decide
   exact this t ht
  have : ([29, 30, 52].all fun t => decide (t < Tryz.prog.types.size)) = true := by kernel_rfl
  exact of_decide_eq_true (List.all_eq_true.1 this t ht)
 have e : Tryz.f5.params.size = 3 := by rw [Tryz.params5]; rfl
 rw [e] at hd
 match ds, hd with
 | [_, _, _], _ => rfl
theorem ARf : Rows.RewriteNoneSaid :=
 OpenClaim.holds_of_cond 5 Tryz.f5 rfl rfl rfl rfl rfl rfl rfl ⟨rfl, rfl, rfl, rfl, rfl⟩ rfl rfl rfl rfl rfl xz Tryz.func5 py
  y7 y8
  (fun os started H enc _ F => by rw [OpenClaim.pre_eq_preRow]; exact AJw os started H enc F)
theorem AH3 (f : FuncId) (fn : Func) (hf : Tryz.pinned.checked.prog.funcNamed "needlebeam/needlebeamlaw23.RewriteNone" = some f) (hfn : Tryz.pinned.checked.prog.funcs[f]? = some fn) :
  true = Tryz.pinned.checked.prog.looks [] ∧ ∀ (j : Nat) t, fn.params[j]? = some t → Tryz.pinned.checked.prog.wantsStandIn t = false := by
 obtain rfl : f = 5 := Option.some.inj ((show Tryz.prog.funcNamed "needlebeam/needlebeamlaw23.RewriteNone" = some 5 by kernel_rfl).symm.trans hf) |>.symm
 obtain rfl : fn = Tryz.f5 := (Option.some.inj (Tryz.func5.symm.trans hfn)).symm
 refine ⟨by kernel_rfl, fun j t ht => ?_⟩
 rw [Tryz.params5] at ht
 have hm : t ∈ [29, 30, 52] := by simpa using Array.mem_of_getElem? ht
 have hall : ([29, 30, 52].all fun u => !Tryz.prog.wantsStandIn u) = true := by kernel_rfl
 exact (show Tryz.prog.wantsStandIn t = false by simpa using List.all_eq_true.1 hall t hm)
theorem rewrite_none_card : Rows.RewriteNoneCardSaid :=
 Claim7.holds_tied_plain_at .later [] _ _ _ _ ARf (fun _ h => by cases h) (by kernel_rfl) (fun _ h => by cases h) rewriteNone_row_tie rfl ⟨rfl, rfl⟩ (by kernel_rfl) rfl AH3 y6
end Go.Proofs.YtekiioamifokoaaGreatDoor
