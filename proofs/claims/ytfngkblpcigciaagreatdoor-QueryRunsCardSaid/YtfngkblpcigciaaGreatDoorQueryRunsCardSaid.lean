/- QueryRuns answers true for whatever can be read: whether a query goes with columns, and the answer, or the error, are what the reference tells. -/
import Derived.Test.YtfngkblpcigciaaGreatDoorQueryRunsCardSaidPart10
set_option linter.all false
namespace Go.Proofs.YtfngkblpcigciaaGreatDoor
open Go Go.SX Go.SX.Nb Go.ChangeShapes Go.RowKit
set_option maxRecDepth 100000
theorem plain : PlainT Tryz.prog (· ∈ [29, 27, 25, 24, 22, 31, 46, 44, 30, 48, 9, 4, 3, 2]) := ⟨fun t ht => by
 simp only [List.mem_cons, List.mem_nil_iff, or_false] at ht
 rcases ht with rfl | rfl | rfl | rfl | rfl | rfl | rfl | rfl | rfl | rfl | rfl | rfl | rfl | rfl
 ·refine .inr ⟨_, Tryz.underlying29, fun f hf => ?_, kids.struct (of_decide_eq_true (by kernel_rfl)) Tryz.underlying29 |>.2⟩
  simp only [List.mem_cons, List.mem_nil_iff, or_false] at hf
  rcases hf with rfl | rfl | rfl | rfl <;> simp
 ·refine .inr ⟨_, Tryz.underlying27, fun f hf => ?_, kids.struct (of_decide_eq_true (by kernel_rfl)) Tryz.underlying27 |>.2⟩
  simp only [List.mem_cons, List.mem_nil_iff, or_false] at hf
  rcases hf with rfl | rfl | rfl | rfl <;> simp
 ·exact .inl ⟨by kernel_rfl, .inr (.inr (.inr ⟨_, Tryz.underlying25, by simp, by rw [show Tryz.prog.cellsOf 27 = 6 by kernel_rfl]; decide⟩))⟩
 ·refine .inr ⟨_, Tryz.underlying24, fun f hf => ?_, kids.struct (of_decide_eq_true (by kernel_rfl)) Tryz.underlying24 |>.2⟩
  simp only [List.mem_cons, List.mem_nil_iff, or_false] at hf
  rcases hf with rfl | rfl | rfl <;> simp
 ·exact .inl ⟨by kernel_rfl, .inr (.inr (.inr ⟨_, Tryz.underlying22, by simp, by rw [show Tryz.prog.cellsOf 9 = 1 by kernel_rfl]; decide⟩))⟩
 ·exact .inl ⟨by kernel_rfl, .inr (.inr (.inr ⟨_, Tryz.underlying31, by simp, by rw [show Tryz.prog.cellsOf 46 = 2 by kernel_rfl]; decide⟩))⟩
 ·refine .inr ⟨_, Tryz.underlying46, fun f hf => ?_, kids.struct (of_decide_eq_true (by kernel_rfl)) Tryz.underlying46 |>.2⟩
  simp only [List.mem_cons, List.mem_nil_iff, or_false] at hf
  rcases hf with rfl | rfl <;> simp
 ·exact .inl ⟨by kernel_rfl, .inr (.inr (.inr ⟨_, Tryz.underlying44, by simp, by rw [show Tryz.prog.cellsOf 24 = 3 by kernel_rfl]; decide⟩))⟩
 ·exact .inl ⟨by kernel_rfl, .inr (.inr (.inr ⟨_, Tryz.underlying30, by simp, by rw [show Tryz.prog.cellsOf 48 = 2 by kernel_rfl]; decide⟩))⟩
 ·refine .inr ⟨_, Tryz.underlying48, fun f hf => ?_, kids.struct (of_decide_eq_true (by kernel_rfl)) Tryz.underlying48 |>.2⟩
  simp only [List.mem_cons, List.mem_nil_iff, or_false] at hf
  rcases hf with rfl | rfl <;> simp
 ·exact .inl ⟨by kernel_rfl, .inr (.inr (.inl Tryz.underlying9))⟩
 ·exact .inl ⟨by kernel_rfl, .inr (.inl Tryz.underlying4)⟩
 ·exact .inl ⟨by kernel_rfl, .inl ⟨_, Tryz.underlying3⟩⟩
 exact .inl ⟨by kernel_rfl, .inl ⟨_, Tryz.underlying2⟩⟩⟩
theorem ADx {H : Type} [ErrAt] (d : DataW H) (y : AV) (h : DRep Tryz.prog 48 d y) : ∃ c : Col, y = N5 c := by
 obtain ⟨ys, hn, rfl, hh⟩ := h.struct' fl Tryz.underlying48
 match ys, hn with
 | [y0, y1], _ =>
  obtain ⟨d0, b0, h0⟩ := hh 0 _ y0 rfl rfl
  obtain ⟨d1, b1, h1⟩ := hh 1 _ y1 rfl rfl
  obtain ⟨s, rfl, rfl⟩ := h0.str' Tryz.underlying9
  obtain ⟨k, rfl, rfl, _⟩ := h1.int' Tryz.underlying3
  exact ⟨⟨s, k⟩, rfl⟩
theorem AA3 {H : Type} [ErrAt] (d : DataW H) (y : AV) (h : DRep Tryz.prog 30 d y) : ∃ c : List Col, y = Ce c := by
 obtain ⟨l, rfl, _⟩ := h.slice' fl N5 (fun _ => True) Tryz.underlying30 (Nat.le_refl _) (fun d y _ hr => (ADx d y hr).imp fun c h => ⟨h, trivial⟩)
 exact ⟨l, by rw [show Tryz.prog.cellsOf 48 = 2 by kernel_rfl]⟩
theorem AA4 {H : Type} [ErrAt] (d : DataW H) (y : AV) (h : DRep Tryz.prog 22 d y) : ∃ l : List Str, y = J4 l := by
 obtain ⟨l, rfl, _⟩ := h.slice' fl Ac (fun _ => True) Tryz.underlying22 (Nat.le_refl _) (fun d y _ hr => by
  obtain ⟨s, rfl, rfl⟩ := hr.str' Tryz.underlying9
  exact ⟨s, rfl, trivial⟩)
 exact ⟨l, by rw [show Tryz.prog.cellsOf 9 = 1 by kernel_rfl]⟩
theorem AA5 {H : Type} [ErrAt] (d : DataW H) (y : AV) (h : DRep Tryz.prog 44 d y) : ∃ l : List Val, y = Fh l ∧ ∀ v ∈ l, -9223372036854775808 ≤ v.n ∧ v.n ≤ 9223372036854775807 := by
 obtain ⟨l, rfl, hl⟩ := h.slice' fl B8 (fun v => -9223372036854775808 ≤ v.n ∧ v.n ≤ 9223372036854775807) Tryz.underlying44 (Nat.le_refl _) (fun d y _ hr => (mp d y hr).imp fun c h => ⟨h.1, h.2⟩)
 exact ⟨l, by rw [show Tryz.prog.cellsOf 24 = 3 by kernel_rfl], hl.2⟩
theorem ADy {H : Type} [ErrAt] (d : DataW H) (y : AV) (h : DRep Tryz.prog 46 d y) : ∃ r : Row, y = Fi r ∧ ∀ v ∈ r.l, -9223372036854775808 ≤ v.n ∧ v.n ≤ 9223372036854775807 := by
 obtain ⟨ys, hn, rfl, hh⟩ := h.struct' fl Tryz.underlying46
 match ys, hn with
 | [y0, y1], _ =>
  obtain ⟨d0, b0, h0⟩ := hh 0 _ y0 rfl rfl
  obtain ⟨d1, b1, h1⟩ := hh 1 _ y1 rfl rfl
  obtain ⟨k, rfl, rfl, _⟩ := h0.int' Tryz.underlying2
  obtain ⟨l, rfl, hl⟩ := AA5 d1 y1 h1
  exact ⟨⟨k, l⟩, rfl, hl⟩
theorem AA6 {H : Type} [ErrAt] (d : DataW H) (y : AV) (h : DRep Tryz.prog 31 d y) : ∃ l : List Row, y = Hi l ∧ ∀ r ∈ l, ∀ v ∈ r.l, -9223372036854775808 ≤ v.n ∧ v.n ≤ 9223372036854775807 := by
 obtain ⟨l, rfl, hl⟩ := h.slice' fl Fi (fun r => ∀ v ∈ r.l, -9223372036854775808 ≤ v.n ∧ v.n ≤ 9223372036854775807) Tryz.underlying31 (Nat.le_refl _) (fun d y _ hr => ADy d y hr)
 exact ⟨l, by rw [show Tryz.prog.cellsOf 46 = 2 by kernel_rfl], hl.2⟩
theorem ADz {H : Type} [ErrAt] (d : DataW H) (y : AV) (h : DRep Tryz.prog 29 d y) : ∃ q : Qry, y = M6 q ∧ Dk Hy q.whr = true := by
 obtain ⟨ys, hn, rfl, hh⟩ := h.struct' fl Tryz.underlying29
 match ys, hn with
 | [y0, y1, y2, y3], _ =>
  obtain ⟨d0, b0, h0⟩ := hh 0 _ y0 rfl rfl
  obtain ⟨d1, b1, h1⟩ := hh 1 _ y1 rfl rfl
  obtain ⟨d2, b2, h2⟩ := hh 2 _ y2 rfl rfl
  obtain ⟨d3, b3, h3⟩ := hh 3 _ y3 rfl rfl
  obtain ⟨b, rfl, rfl⟩ := h0.bool' Tryz.underlying4
  obtain ⟨l, rfl⟩ := AA4 d1 y1 h1
  obtain ⟨e, rfl, he⟩ := xh d2 y2 h2
  obtain ⟨k, rfl, rfl, _⟩ := h3.int' Tryz.underlying3
  exact ⟨⟨b, l, e, k⟩, by simp only [Ax] <;> rfl, he⟩
theorem main {H : Type} [ErrAt] (ds : List (DataW H)) (ys : List AV) (h : DReps Tryz.prog Tryz.f3.params.toList ds ys) : AFun Tryz.prog 3 ys [] (At true) := by
 rw [Tryz.params3] at h
 obtain ⟨d0, ds, y0, ys, rfl, rfl, h0, h⟩ := h.cons'
 obtain ⟨d1, ds, y1, ys, rfl, rfl, h1, h⟩ := h.cons'
 obtain ⟨d2, ds, y2, ys, rfl, rfl, h2, h⟩ := h.cons'
 obtain ⟨rfl, rfl⟩ := h.nil'
 obtain ⟨q, rfl, hq⟩ := ADz d0 y0 h0
 obtain ⟨c, rfl⟩ := AA3 d1 y1 h1
 obtain ⟨l, rfl, hl⟩ := AA6 d2 y2 h2
 exact c3 q hq c l hl []
theorem AA7 (os : Os) : laidMet Tryz.prog Rows.queryRunsRow.laid ((World.laidAll Tryz.prog os Rows.queryRunsRow.laid).forCall (fun _ _ => 0) ⟨#[], #[.agg #[.bool false, .slice none 0 0, .int .i64 0, .string ⟨#[]⟩, .int .i64 0, .int .i64 0, .string ⟨#[]⟩, .slice none 0 0, .int .i64 0], .slice none 0 0, .slice none 0 0], []⟩).memory :=
 laidMet_laidAll _ (by kernel_rfl) (by kernel_rfl)
theorem AL3 (os : Os) {H : Type} (enc : TypeId × Value → H) : DataW.whole enc Tryz.prog ((World.laidAll Tryz.prog os Rows.queryRunsRow.laid).forCall (fun _ _ => 0) ⟨#[], #[.agg #[.bool false, .slice none 0 0, .int .i64 0, .string ⟨#[]⟩, .int .i64 0, .int .i64 0, .string ⟨#[]⟩, .slice none 0 0, .int .i64 0], .slice none 0 0, .slice none 0 0], []⟩).memory Tryz.f3.params.toList Rows.queryRunsSpec.vars false
  #[.agg #[.bool false, .slice none 0 0, .int .i64 0, .string ⟨#[]⟩, .int .i64 0, .int .i64 0, .string ⟨#[]⟩, .slice none 0 0, .int .i64 0], .slice none 0 0, .slice none 0 0].toList 8 = some ([.agg [.lit (.bool false), .nil, .agg [.lit (.int .i64 0), .lit (.string []), .agg [.lit (.int .i64 0), .lit (.int .i64 0), .lit (.string [])], .nil], .lit (.int .i64 0)], .nil, .nil], [], []) := by kernel_rfl
theorem AE0 (os : Os) {H : Type} (enc : TypeId × Value → H) : ∃ (w : World) (tape : Tape) (i : Input), w.os = os ∧ (w.forCall tape i).Shaped Tryz.prog ∧ i.vars = [] ∧ Input.okWide Tryz.prog (w.forCall tape i) .any w.heap.size 3 i ∧
   (OpenSpec.ofChange Rows.queryRunsSpec).preRow enc Tryz.prog Tryz.f3 Rows.queryRunsRow.domain false Rows.queryRunsRow.laid (w.forCall tape i).memory i.args ∧ ({ modest := false } : Assume).holds Tryz.prog (lone (Frame.enter Tryz.prog 3 i.args .normal) [] (w.forCall tape i)) := by
 refine ⟨World.laidAll Tryz.prog os Rows.queryRunsRow.laid, fun _ _ => 0, ⟨#[], #[.agg #[.bool false, .slice none 0 0, .int .i64 0, .string ⟨#[]⟩, .int .i64 0, .int .i64 0, .string ⟨#[]⟩, .slice none 0 0, .int .i64 0], .slice none 0 0, .slice none 0 0], []⟩, World.laidAll_os _ _ _, World.shaped_of_ZipB (by kernel_rfl) (by kernel_rfl), rfl, (Input.okWide_of_okWideB (by kernel_rfl)).2,
  OpenSpec.preRow_of_cond 8 (AL3 os enc) (by kernel_rfl) (fun k hk => by cases hk) (by kernel_rfl) ?_, ?_⟩
 ·rw [MakeChecks.laidMetH_plain _ _ _ (by kernel_rfl)]
  exact AA7 os
 simp only [Assume.holds]
 exact ⟨by simp, by simp, fun h => (by cases h), by simp, by simp⟩
theorem AH7 (os : Os) (started : os.Started) (H : Type) (enc : TypeId × Value → H) (F : Stop.Interp) :
  ReturnsInHanded {} Tryz.checked os 3 .any ((OpenSpec.ofChange Rows.queryRunsSpec).preRow enc Tryz.prog Tryz.f3 Rows.queryRunsRow.domain false Rows.queryRunsRow.laid) (((OpenSpec.ofChange Rows.queryRunsSpec).at F).post enc Tryz.prog Tryz.f3 false true false false) := by
 refine returnsInHanded_of_row (C := Tryz.checked) (s := (OpenSpec.ofChange Rows.queryRunsSpec)) own started (by kernel_rfl) Tryz.func3 (AE0 os enc) ?_
 intro W base args ds gs before hval hW _ hcond _ hL hsh _
 rw [MakeChecks.laidMetH_plain _ _ _ (by kernel_rfl)] at hL
 obtain ⟨b, hbv⟩ := ABe hL
 obtain ⟨b2, hbv2⟩ := xd hL
 letI E : ErrAt := { b := b, bs := b2 }
 have hgs : gs = [] := by
  obtain ⟨p, q, _, hV, _⟩ := hW
  exact (trodVars_none hV).1
 subst hgs
 refine qw (fn := Tryz.f3) (tb := 4) kids full plain (fun t ht => ?_) Tryz.underlying4 (by kernel_rfl) rfl (fun ds hd => ?_) hval hW (glob hsh hL hbv hbv2) (fun ys hy => main ds ys hy)
 ·rw [Tryz.params3] at ht
  refine ⟨?_, ?_⟩
  ·have : ∀ t ∈ [29, 30, 31], t ∈ [29, 27, 25, 24, 22, 31, 46, 44, 30, 48, 9, 4, 3, 2] := by decide
   exact this t ht
  have : ([29, 30, 31].all fun t => decide (t < Tryz.prog.types.size)) = true := by kernel_rfl
  exact of_decide_eq_true (List.all_eq_true.1 this t ht)
 have e : Tryz.f3.params.size = 3 := by rw [Tryz.params3]; rfl
 rw [e] at hd
 match ds, hd with
 | [_, _, _], _ => rfl
theorem ANg : Rows.QueryRunsSaid :=
 OpenClaim.holds_of_cond 3 Tryz.f3 rfl rfl rfl rfl rfl rfl rfl ⟨rfl, rfl, rfl, rfl, rfl⟩ rfl rfl rfl rfl rfl tw Tryz.func3 lz
  tz u1
  (fun os started H enc _ F => by rw [OpenClaim.pre_eq_preRow]; exact AH7 os started H enc F)
theorem AE1 (f : FuncId) (fn : Func) (hf : Tryz.pinned.checked.prog.funcNamed "needlebeam/needlebeamlaw22.QueryRuns" = some f) (hfn : Tryz.pinned.checked.prog.funcs[f]? = some fn) :
  true = Tryz.pinned.checked.prog.looks [] ∧ ∀ (j : Nat) t, fn.params[j]? = some t → Tryz.pinned.checked.prog.wantsStandIn t = false := by
 obtain rfl : f = 3 := Option.some.inj ((show Tryz.prog.funcNamed "needlebeam/needlebeamlaw22.QueryRuns" = some 3 by kernel_rfl).symm.trans hf) |>.symm
 obtain rfl : fn = Tryz.f3 := (Option.some.inj (Tryz.func3.symm.trans hfn)).symm
 refine ⟨by kernel_rfl, fun j t ht => ?_⟩
 rw [Tryz.params3] at ht
 have hm : t ∈ [29, 30, 31] := by simpa using Array.mem_of_getElem? ht
 have hall : ([29, 30, 31].all fun u => !Tryz.prog.wantsStandIn u) = true := by kernel_rfl
 exact (show Tryz.prog.wantsStandIn t = false by simpa using List.all_eq_true.1 hall t hm)
theorem query_runs_card : Rows.QueryRunsCardSaid :=
 Claim7.holds_tied_plain_at .later [] _ _ _ _ ANg (fun _ h => by cases h) (by kernel_rfl) (fun _ h => by cases h) queryRuns_row_tie rfl ⟨rfl, rfl⟩ (by kernel_rfl) rfl AE1 tx
end Go.Proofs.YtfngkblpcigciaaGreatDoor
