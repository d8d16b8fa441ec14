/- QueryParses answers true for whatever it is handed: any source of up to 2000 bytes is parsed as the reference says, or the first fault is told; what is parsed is right, and printed it is parsed as the same. -/
import Derived.Test.YtldolkjhlcpidaaGreatDoorQueryParsesCardSaidPart11
set_option linter.all false
namespace Go.Proofs.YtldolkjhlcpidaaGreatDoor
open Go Go.SX Go.SX.Nb Go.ChangeShapes Go.RowKit
set_option maxRecDepth 100000
theorem plain : PlainT Tryz.prog (· ∈ [9]) := ⟨fun t ht => by
 simp only [List.mem_cons, List.mem_nil_iff, or_false] at ht
 subst ht
 exact .inl ⟨by kernel_rfl, .inr (.inr (.inl Tryz.underlying9))⟩⟩

theorem main {H : Type} [ErrAt] (ds : List (DataW H)) (ys : List AV) (h : DReps Tryz.prog Tryz.f3.params.toList ds ys) : AFun Tryz.prog 3 ys [] (Ao true) := by
 rw [Tryz.params3] at h
 obtain ⟨d0, ds, y0, ys, rfl, rfl, h0, h⟩ := h.cons'
 obtain ⟨rfl, rfl⟩ := h.nil'
 obtain ⟨s, rfl, rfl⟩ := h0.str' Tryz.underlying9
 exact c3 s []
theorem pu (os : Os) : laidMet Tryz.prog Rows.queryParsesRow.laid ((World.laidAll Tryz.prog os Rows.queryParsesRow.laid).forCall (fun _ _ => 0) ⟨#[], #[.string ⟨#[]⟩], []⟩).memory :=
 laidMet_laidAll _ (by kernel_rfl) (by kernel_rfl)
theorem ACo (os : Os) {H : Type} (enc : TypeId × Value → H) : DataW.whole enc Tryz.prog ((World.laidAll Tryz.prog os Rows.queryParsesRow.laid).forCall (fun _ _ => 0) ⟨#[], #[.string ⟨#[]⟩], []⟩).memory Tryz.f3.params.toList Rows.queryParsesSpec.vars false
  #[.string ⟨#[]⟩].toList 8 = some ([.lit (.string [])], [], []) := by kernel_rfl
theorem vu (os : Os) {H : Type} (enc : TypeId × Value → H) : ∃ (w : World) (tape : Tape) (i : Input), w.os = os ∧ (w.forCall tape i).Shaped Tryz.prog ∧ i.vars = [] ∧ Input.okWide Tryz.prog (w.forCall tape i) .any w.heap.size 3 i ∧
   (OpenSpec.ofChange Rows.queryParsesSpec).preRow enc Tryz.prog Tryz.f3 Rows.queryParsesRow.domain false Rows.queryParsesRow.laid (w.forCall tape i).memory i.args ∧ ({ modest := false } : Assume).holds Tryz.prog (lone (Frame.enter Tryz.prog 3 i.args .normal) [] (w.forCall tape i)) := by
 refine ⟨World.laidAll Tryz.prog os Rows.queryParsesRow.laid, fun _ _ => 0, ⟨#[], #[.string ⟨#[]⟩], []⟩, World.laidAll_os _ _ _, World.shaped_of_ZipB (by kernel_rfl) (by kernel_rfl), rfl, (Input.okWide_of_okWideB (by kernel_rfl)).2,
  OpenSpec.preRow_of_cond 8 (ACo os enc) (by kernel_rfl) (fun k hk => by cases hk) (by kernel_rfl) ?_, ?_⟩
 ·rw [MakeChecks.laidMetH_plain _ _ _ (by kernel_rfl)]
  exact pu os
 simp only [Assume.holds]
 exact ⟨by simp, by simp, fun h => (by cases h), by simp, by simp⟩
theorem ze (os : Os) (started : os.Started) (H : Type) (enc : TypeId × Value → H) (F : Stop.Interp) :
  ReturnsInHanded {} Tryz.checked os 3 .any ((OpenSpec.ofChange Rows.queryParsesSpec).preRow enc Tryz.prog Tryz.f3 Rows.queryParsesRow.domain false Rows.queryParsesRow.laid) (((OpenSpec.ofChange Rows.queryParsesSpec).at F).post enc Tryz.prog Tryz.f3 false true false false) := by
 refine returnsInHanded_of_row (C := Tryz.checked) (s := (OpenSpec.ofChange Rows.queryParsesSpec)) own started (by kernel_rfl) Tryz.func3 (vu os enc) ?_
 intro W base args ds gs before hval hW _ hcond _ hL hsh _
 rw [MakeChecks.laidMetH_plain _ _ _ (by kernel_rfl)] at hL
 obtain ⟨b, hbv⟩ := s9 hL
 obtain ⟨b2, hbv2⟩ := me hL
 letI E : ErrAt := ⟨b, b2⟩
 have hgs : gs = [] := by
  obtain ⟨p, q, _, hV, _⟩ := hW
  exact (trodVars_none hV).1
 subst hgs
 refine ik (fn := Tryz.f3) (tb := 4) kids full plain (fun t ht => ?_) Tryz.underlying4 (by kernel_rfl) rfl (fun ds hd => ?_) hval hW (glob hsh hL hbv hbv2) (fun ys hy => main ds ys hy)
 ·rw [Tryz.params3] at ht
  refine ⟨?_, ?_⟩
  ·have : ∀ t ∈ [9], t ∈ [9] := by decide
   exact this t ht
  have : ([9].all fun t => decide (t < Tryz.prog.types.size)) = true := by kernel_rfl
  exact of_decide_eq_true (List.all_eq_true.1 this t ht)
 have e : Tryz.f3.params.size = 1 := by rw [Tryz.params3]; rfl
 rw [e] at hd
 match ds, hd with
 | [_], _ => rfl
theorem k7 : Tryz.pinned.checked.prog.funcNamed Rows.queryParsesRow.func = some 3 := by kernel_rfl
theorem bx : joinedFacts Tryz.pinned.checked.prog 3 Tryz.f3 (OpenSpec.ofChange Rows.queryParsesSpec).bare Rows.queryParsesRow = true := by kernel_rfl
theorem k8 : Tryz.f3.isInstance Tryz.pinned.checked.prog Rows.queryParsesRow.origin Rows.queryParsesRow.targs := of_decide_eq_true (by kernel_rfl)
theorem k9 : Tryz.f3.isWrapper Tryz.pinned.checked.prog Rows.queryParsesRow.wrapper Rows.queryParsesRow.mainSum := by
 unfold Func.isWrapper
 first | (rw [if_pos (by decide +kernel)]; kernel_rfl) | (rw [if_neg (by decide +kernel)]; exact ⟨rfl, rfl⟩)
theorem AE5 : Rows.QueryParsesSaid :=
 OpenClaim.holds_of_cond 3 Tryz.f3 rfl rfl rfl rfl rfl rfl rfl ⟨rfl, rfl, rfl, rfl, rfl⟩ rfl rfl rfl rfl rfl k7 Tryz.func3 bx
  k8 k9
  (fun os started H enc _ F => by rw [OpenClaim.pre_eq_preRow]; exact ze os started H enc F)
theorem vw (f : FuncId) (fn : Func) (hf : Tryz.pinned.checked.prog.funcNamed "needlebeam/needlebeamlaw22.QueryParses" = some f) (hfn : Tryz.pinned.checked.prog.funcs[f]? = some fn) :
  true = Tryz.pinned.checked.prog.looks [] ∧ ∀ (j : Nat) t, fn.params[j]? = some t → Tryz.pinned.checked.prog.wantsStandIn t = false := by
 obtain rfl : f = 3 := Option.some.inj ((show Tryz.prog.funcNamed "needlebeam/needlebeamlaw22.QueryParses" = some 3 by kernel_rfl).symm.trans hf) |>.symm
 obtain rfl : fn = Tryz.f3 := (Option.some.inj (Tryz.func3.symm.trans hfn)).symm
 refine ⟨by kernel_rfl, fun j t ht => ?_⟩
 rw [Tryz.params3] at ht
 have hm : t ∈ [9] := by simpa using Array.mem_of_getElem? ht
 have hall : ([9].all fun u => !Tryz.prog.wantsStandIn u) = true := by kernel_rfl
 exact (show Tryz.prog.wantsStandIn t = false by simpa using List.all_eq_true.1 hall t hm)
theorem query_parses_card : Rows.QueryParsesCardSaid :=
 Claim7.holds_tied_plain_at .later [] _ _ _ _ AE5 (fun _ h => by cases h) (by kernel_rfl) (fun _ h => by cases h) queryParses_row_tie rfl ⟨rfl, rfl⟩ (by kernel_rfl) rfl vw (by kernel_rfl)
end Go.Proofs.YtldolkjhlcpidaaGreatDoor
