/- LoadCalls answers true for whatever can be read: the drawn calls are those of the reference, the first forty of them are right, and a shorter script is a beginning of a longer one. -/
import Derived.Test.YtdjhkihdmiednaaGreatDoorLoadCallsCardSaidPart10
set_option linter.all false
namespace Go.Proofs.YtdjhkihdmiednaaGreatDoor
open Go Go.SX Go.SX.Nb Go.ChangeShapes Go.RowKit
set_option maxRecDepth 100000
theorem plain : PlainT Tryz.prog (· ∈ [22, 23, 51, 9, 3]) := ⟨fun t ht => by
 simp only [List.mem_cons, List.mem_nil_iff, or_false] at ht
 rcases ht with rfl | rfl | rfl | rfl | rfl
 ·exact .inl ⟨by kernel_rfl, .inl ⟨_, Tryz.underlying22⟩⟩
 ·exact .inl ⟨by kernel_rfl, .inr (.inr (.inr ⟨_, Tryz.underlying23, by simp, by rw [show Tryz.prog.cellsOf 51 = 2 by kernel_rfl]; decide⟩))⟩
 ·refine .inr ⟨_, Tryz.underlying51, fun f hf => ?_, kids.struct (of_decide_eq_true (by kernel_rfl)) Tryz.underlying51 |>.2⟩
  simp only [List.mem_cons, List.mem_nil_iff, or_false] at hf
  rcases hf with rfl | rfl <;> simp
 ·exact .inl ⟨by kernel_rfl, .inr (.inr (.inl Tryz.underlying9))⟩
 exact .inl ⟨by kernel_rfl, .inl ⟨_, Tryz.underlying3⟩⟩⟩
theorem lb {H : Type} [ErrAt] (d : DataW H) (y : AV) (h : DRep Tryz.prog 51 d y) : ∃ c : Col, y = Jp c := by
 obtain ⟨ys, hn, rfl, hh⟩ := h.struct' pm Tryz.underlying51
 match ys, hn with
 | [y0, y1], _ =>
  obtain ⟨d0, b0, h0⟩ := hh 0 _ y0 rfl rfl
  obtain ⟨d1, b1, h1⟩ := hh 1 _ y1 rfl rfl
  obtain ⟨s, rfl, rfl⟩ := h0.str' Tryz.underlying9
  obtain ⟨k, rfl, rfl, _⟩ := h1.int' Tryz.underlying3
  exact ⟨⟨s, k⟩, rfl⟩
theorem i3 {H : Type} [ErrAt] (d : DataW H) (y : AV) (h : DRep Tryz.prog 23 d y) : ∃ c : List Col, y = Cu c := by
 obtain ⟨l, rfl, _⟩ := h.slice' pm Jp (fun _ => True) Tryz.underlying23 (Nat.le_refl _) (fun d y _ hr => (lb d y hr).imp fun c h => ⟨h, trivial⟩)
 exact ⟨l, by rw [show Tryz.prog.cellsOf 51 = 2 by kernel_rfl]⟩
theorem main {H : Type} [ErrAt] (ds : List (DataW H)) (ys : List AV) (h : DReps Tryz.prog Tryz.f3.params.toList ds ys) : AFun Tryz.prog 3 ys [] (Aj true) := by
 rw [Tryz.params3] at h
 obtain ⟨d0, ds, y0, ys, rfl, rfl, h0, h⟩ := h.cons'
 obtain ⟨d1, ds, y1, ys, rfl, rfl, h1, h⟩ := h.cons'
 obtain ⟨d2, ds, y2, ys, rfl, rfl, h2, h⟩ := h.cons'
 obtain ⟨d3, ds, y3, ys, rfl, rfl, h3, h⟩ := h.cons'
 obtain ⟨d4, ds, y4, ys, rfl, rfl, h4, h⟩ := h.cons'
 obtain ⟨rfl, rfl⟩ := h.nil'
 obtain ⟨s, rfl, rfl, _⟩ := h0.int' Tryz.underlying22
 obtain ⟨c, rfl⟩ := i3 d1 y1 h1
 obtain ⟨mv, rfl, rfl⟩ := h2.str' Tryz.underlying9
 obtain ⟨n, rfl, rfl, _⟩ := h3.int' Tryz.underlying3
 obtain ⟨m, rfl, rfl, _⟩ := h4.int' Tryz.underlying3
 exact c3L s c mv n m []
theorem i4 (os : Os) : laidMet Tryz.prog Rows.loadCallsRow.laid ((World.laidAll Tryz.prog os Rows.loadCallsRow.laid).forCall (fun _ _ => 0) ⟨#[], #[.int .u64 0, .slice none 0 0, .string ⟨#[]⟩, .int .i64 0, .int .i64 0], []⟩).memory :=
 laidMet_laidAll _ (by kernel_rfl) (by kernel_rfl)
theorem qr (os : Os) {H : Type} (enc : TypeId × Value → H) : DataW.whole enc Tryz.prog ((World.laidAll Tryz.prog os Rows.loadCallsRow.laid).forCall (fun _ _ => 0) ⟨#[], #[.int .u64 0, .slice none 0 0, .string ⟨#[]⟩, .int .i64 0, .int .i64 0], []⟩).memory Tryz.f3.params.toList Rows.loadCallsSpec.vars false
  #[.int .u64 0, .slice none 0 0, .string ⟨#[]⟩, .int .i64 0, .int .i64 0].toList 8 = some ([.lit (.int .u64 0), .nil, .lit (.string []), .lit (.int .i64 0), .lit (.int .i64 0)], [], []) := by kernel_rfl
theorem lc (os : Os) {H : Type} (enc : TypeId × Value → H) : ∃ (w : World) (tape : Tape) (i : Input), w.os = os ∧ (w.forCall tape i).Shaped Tryz.prog ∧ i.vars = [] ∧ Input.okWide Tryz.prog (w.forCall tape i) .any w.heap.size 3 i ∧
   (OpenSpec.ofChange Rows.loadCallsSpec).preRow enc Tryz.prog Tryz.f3 Rows.loadCallsRow.domain false Rows.loadCallsRow.laid (w.forCall tape i).memory i.args ∧ ({ modest := false } : Assume).holds Tryz.prog (lone (Frame.enter Tryz.prog 3 i.args .normal) [] (w.forCall tape i)) := by
 refine ⟨World.laidAll Tryz.prog os Rows.loadCallsRow.laid, fun _ _ => 0, ⟨#[], #[.int .u64 0, .slice none 0 0, .string ⟨#[]⟩, .int .i64 0, .int .i64 0], []⟩, World.laidAll_os _ _ _, World.shaped_of_ZipB (by kernel_rfl) (by kernel_rfl), rfl, (Input.okWide_of_okWideB (by kernel_rfl)).2,
  OpenSpec.preRow_of_cond 8 (qr os enc) (by kernel_rfl) (fun k hk => by cases hk) (by kernel_rfl) ?_, ?_⟩
 ·rw [MakeChecks.laidMetH_plain _ _ _ (by kernel_rfl)]
  exact i4 os
 simp only [Assume.holds]
 exact ⟨by simp, by simp, fun h => (by cases h), by simp, by simp⟩
theorem ni (os : Os) (started : os.Started) (H : Type) (enc : TypeId × Value → H) (F : Stop.Interp) :
  ReturnsInHanded {} Tryz.checked os 3 .any ((OpenSpec.ofChange Rows.loadCallsSpec).preRow enc Tryz.prog Tryz.f3 Rows.loadCallsRow.domain false Rows.loadCallsRow.laid) (((OpenSpec.ofChange Rows.loadCallsSpec).at F).post enc Tryz.prog Tryz.f3 false true false false) := by
 refine returnsInHanded_of_row (C := Tryz.checked) (s := (OpenSpec.ofChange Rows.loadCallsSpec)) own started (by kernel_rfl) Tryz.func3 (lc os enc) ?_
 intro W base args ds gs before hval hW _ hcond _ hL hsh _
 rw [MakeChecks.laidMetH_plain _ _ _ (by kernel_rfl)] at hL
 obtain ⟨b, hbv⟩ := j8 hL
 obtain ⟨b2, hbv2⟩ := fq hL
 letI E : ErrAt := { b := b, bs := b2 }
 have hgs : gs = [] := by
  obtain ⟨p, q, _, hV, _⟩ := hW
  exact (trodVars_none hV).1
 subst hgs
 refine bf (fn := Tryz.f3) (tb := 4) kids full plain (fun t ht => ?_) Tryz.underlying4 (by kernel_rfl) rfl (fun ds hd => ?_) hval hW (glob hsh hL hbv hbv2) (fun ys hy => main ds ys hy)
 ·rw [Tryz.params3] at ht
  refine ⟨?_, ?_⟩
  ·have : ∀ t ∈ [22, 23, 9, 3, 3], t ∈ [22, 23, 51, 9, 3] := by decide
   exact this t ht
  have : ([22, 23, 9, 3, 3].all fun t => decide (t < Tryz.prog.types.size)) = true := by kernel_rfl
  exact of_decide_eq_true (List.all_eq_true.1 this t ht)
 have e : Tryz.f3.params.size = 5 := by rw [Tryz.params3]; rfl
 rw [e] at hd
 match ds, hd with
 | [_, _, _, _, _], _ => rfl
theorem u9 : Rows.LoadCallsSaid :=
 OpenClaim.holds_of_cond 3 Tryz.f3 rfl rfl rfl rfl rfl rfl rfl ⟨rfl, rfl, rfl, rfl, rfl⟩ rfl rfl rfl rfl rfl cn Tryz.func3 Y8
  cp cq
  (fun os started H enc _ F => by rw [OpenClaim.pre_eq_preRow]; exact ni os started H enc F)
theorem ld (f : FuncId) (fn : Func) (hf : Tryz.pinned.checked.prog.funcNamed "needlebeam/needlebeamlaw35.LoadCalls" = some f) (hfn : Tryz.pinned.checked.prog.funcs[f]? = some fn) :
  true = Tryz.pinned.checked.prog.looks [] ∧ ∀ (j : Nat) t, fn.params[j]? = some t → Tryz.pinned.checked.prog.wantsStandIn t = false := by
 obtain rfl : f = 3 := Option.some.inj ((show Tryz.prog.funcNamed "needlebeam/needlebeamlaw35.LoadCalls" = some 3 by kernel_rfl).symm.trans hf) |>.symm
 obtain rfl : fn = Tryz.f3 := (Option.some.inj (Tryz.func3.symm.trans hfn)).symm
 refine ⟨by kernel_rfl, fun j t ht => ?_⟩
 rw [Tryz.params3] at ht
 have hm : t ∈ [22, 23, 9, 3, 3] := by simpa using Array.mem_of_getElem? ht
 have hall : ([22, 23, 9, 3, 3].all fun u => !Tryz.prog.wantsStandIn u) = true := by kernel_rfl
 exact (show Tryz.prog.wantsStandIn t = false by simpa using List.all_eq_true.1 hall t hm)
theorem load_calls_card : Rows.LoadCallsCardSaid :=
 Claim7.holds_tied_plain_at .later [] _ _ _ _ u9 (fun _ h => by cases h) (by kernel_rfl) (fun _ h => by cases h) loadCalls_row_tie rfl ⟨rfl, rfl⟩ (by kernel_rfl) rfl ld co
end Go.Proofs.YtdjhkihdmiednaaGreatDoor
