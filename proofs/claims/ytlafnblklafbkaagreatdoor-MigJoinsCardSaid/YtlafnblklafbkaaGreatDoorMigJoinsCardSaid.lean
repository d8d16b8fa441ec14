/- MigJoins answers true for whatever it is handed: two sources of up to 1500 bytes that are migrations, one behind the other, are both, if there are not too many moves; its chapter's example is parsed and printed. -/
import Derived.Test.YtlafnblklafbkaaGreatDoorMigJoinsCardSaidPart10
set_option linter.all false
namespace Go.Proofs.YtlafnblklafbkaaGreatDoor
open Go Go.SX Go.SX.Nb Go.ChangeShapes Go.RowKit
set_option maxRecDepth 100000
theorem plain : PlainT Tryz.prog (· ∈ [9]) := ⟨fun t ht => by
 simp only [List.mem_cons, List.mem_nil_iff, or_false] at ht
 subst ht
 exact .inl ⟨by kernel_rfl, .inr (.inr (.inl Tryz.underlying9))⟩⟩

theorem main {H : Type} [ErrAt] (ds : List (DataW H)) (ys : List AV) (h : DReps Tryz.prog Tryz.f4.params.toList ds ys) : AFun Tryz.prog 4 ys [] (B2 true) := by
 rw [Tryz.params4] at h
 obtain ⟨d0, ds, y0, ys, rfl, rfl, h0, h⟩ := h.cons'
 obtain ⟨d1, ds, y1, ys, rfl, rfl, h1, h⟩ := h.cons'
 obtain ⟨rfl, rfl⟩ := h.nil'
 obtain ⟨a, rfl, rfl⟩ := h0.str' Tryz.underlying9
 obtain ⟨b, rfl, rfl⟩ := h1.str' Tryz.underlying9
 exact c4 a b []
theorem iq (os : Os) : laidMet Tryz.prog Rows.migJoinsRow.laid ((World.laidAll Tryz.prog os Rows.migJoinsRow.laid).forCall (fun _ _ => 0) ⟨#[], #[.string ⟨#[]⟩, .string ⟨#[]⟩], []⟩).memory :=
 laidMet_laidAll _ (by kernel_rfl) (by kernel_rfl)
theorem qy (os : Os) {H : Type} (enc : TypeId × Value → H) : DataW.whole enc Tryz.prog ((World.laidAll Tryz.prog os Rows.migJoinsRow.laid).forCall (fun _ _ => 0) ⟨#[], #[.string ⟨#[]⟩, .string ⟨#[]⟩], []⟩).memory Tryz.f4.params.toList Rows.migJoinsSpec.vars false
  #[.string ⟨#[]⟩, .string ⟨#[]⟩].toList 8 = some ([.lit (.string []), .lit (.string [])], [], []) := by kernel_rfl
theorem lp (os : Os) {H : Type} (enc : TypeId × Value → H) : ∃ (w : World) (tape : Tape) (i : Input), w.os = os ∧ (w.forCall tape i).Shaped Tryz.prog ∧ i.vars = [] ∧ Input.okWide Tryz.prog (w.forCall tape i) .any w.heap.size 4 i ∧
   (OpenSpec.ofChange Rows.migJoinsSpec).preRow enc Tryz.prog Tryz.f4 Rows.migJoinsRow.domain false Rows.migJoinsRow.laid (w.forCall tape i).memory i.args ∧ ({ modest := false } : Assume).holds Tryz.prog (lone (Frame.enter Tryz.prog 4 i.args .normal) [] (w.forCall tape i)) := by
 refine ⟨World.laidAll Tryz.prog os Rows.migJoinsRow.laid, fun _ _ => 0, ⟨#[], #[.string ⟨#[]⟩, .string ⟨#[]⟩], []⟩, World.laidAll_os _ _ _, World.shaped_of_ZipB (by kernel_rfl) (by kernel_rfl), rfl, (Input.okWide_of_okWideB (by kernel_rfl)).2,
  OpenSpec.preRow_of_cond 8 (qy os enc) (by kernel_rfl) (fun k hk => by cases hk) (by kernel_rfl) ?_, ?_⟩
 ·rw [MakeChecks.laidMetH_plain _ _ _ (by kernel_rfl)]
  exact iq os
 simp only [Assume.holds]
 exact ⟨by simp, by simp, fun h => (by cases h), by simp, by simp⟩
theorem nz (os : Os) (started : os.Started) (H : Type) (enc : TypeId × Value → H) (F : Stop.Interp) :
  ReturnsInHanded {} Tryz.checked os 4 .any ((OpenSpec.ofChange Rows.migJoinsSpec).preRow enc Tryz.prog Tryz.f4 Rows.migJoinsRow.domain false Rows.migJoinsRow.laid) (((OpenSpec.ofChange Rows.migJoinsSpec).at F).post enc Tryz.prog Tryz.f4 false true false false) := by
 refine returnsInHanded_of_row (C := Tryz.checked) (s := (OpenSpec.ofChange Rows.migJoinsSpec)) own started (by kernel_rfl) Tryz.func4 (lp os enc) ?_
 intro W base args ds gs before hval hW _ hcond _ hL hsh _
 rw [MakeChecks.laidMetH_plain _ _ _ (by kernel_rfl)] at hL
 obtain ⟨b, hbv⟩ := jj hL
 letI E : ErrAt := { b := b }
 have hgs : gs = [] := by
  obtain ⟨p, q, _, hV, _⟩ := hW
  exact (trodVars_none hV).1
 subst hgs
 refine Zq (fn := Tryz.f4) (tb := 4) kids full plain (fun t ht => ?_) Tryz.underlying4 (by kernel_rfl) rfl (fun ds hd => ?_) hval hW (glob hsh hL hbv) (fun ys hy => main ds ys hy)
 ·rw [Tryz.params4] at ht
  refine ⟨?_, ?_⟩
  ·have : ∀ t ∈ [9, 9], t ∈ [9] := by decide
   exact this t ht
  have : ([9, 9].all fun t => decide (t < Tryz.prog.types.size)) = true := by kernel_rfl
  exact of_decide_eq_true (List.all_eq_true.1 this t ht)
 have e : Tryz.f4.params.size = 2 := by rw [Tryz.params4]; rfl
 rw [e] at hd
 match ds, hd with
 | [_, _], _ => rfl
theorem cd : Tryz.pinned.checked.prog.funcNamed Rows.migJoinsRow.func = some 4 := by kernel_rfl
theorem Wz : joinedFacts Tryz.pinned.checked.prog 4 Tryz.f4 (OpenSpec.ofChange Rows.migJoinsSpec).bare Rows.migJoinsRow = true := by kernel_rfl
theorem ce : Tryz.f4.isInstance Tryz.pinned.checked.prog Rows.migJoinsRow.origin Rows.migJoinsRow.targs := of_decide_eq_true (by kernel_rfl)
theorem cf : Tryz.f4.isWrapper Tryz.pinned.checked.prog Rows.migJoinsRow.wrapper Rows.migJoinsRow.mainSum := by
 unfold Func.isWrapper
 first | (rw [if_pos (by decide +kernel)]; kernel_rfl) | (rw [if_neg (by decide +kernel)]; exact ⟨rfl, rfl⟩)
theorem tm : Rows.MigJoinsSaid :=
 OpenClaim.holds_of_cond 4 Tryz.f4 rfl rfl rfl rfl rfl rfl rfl ⟨rfl, rfl, rfl, rfl, rfl⟩ rfl rfl rfl rfl rfl cd Tryz.func4 Wz
  ce cf
  (fun os started H enc _ F => by rw [OpenClaim.pre_eq_preRow]; exact nz os started H enc F)
theorem lq (f : FuncId) (fn : Func) (hf : Tryz.pinned.checked.prog.funcNamed "needlebeam/needlebeamlaw18.MigJoins" = some f) (hfn : Tryz.pinned.checked.prog.funcs[f]? = some fn) :
  true = Tryz.pinned.checked.prog.looks [] ∧ ∀ (j : Nat) t, fn.params[j]? = some t → Tryz.pinned.checked.prog.wantsStandIn t = false := by
 obtain rfl : f = 4 := Option.some.inj ((show Tryz.prog.funcNamed "needlebeam/needlebeamlaw18.MigJoins" = some 4 by kernel_rfl).symm.trans hf) |>.symm
 obtain rfl : fn = Tryz.f4 := (Option.some.inj (Tryz.func4.symm.trans hfn)).symm
 refine ⟨by kernel_rfl, fun j t ht => ?_⟩
 rw [Tryz.params4] at ht
 have hm : t ∈ [9, 9] := by simpa using Array.mem_of_getElem? ht
 have hall : ([9, 9].all fun u => !Tryz.prog.wantsStandIn u) = true := by kernel_rfl
 exact (show Tryz.prog.wantsStandIn t = false by simpa using List.all_eq_true.1 hall t hm)
theorem mig_joins_card : Rows.MigJoinsCardSaid :=
 Claim7.holds_tied_plain_at .later [] _ _ _ _ tm (fun _ h => by cases h) (by kernel_rfl) (fun _ h => by cases h) migJoins_row_tie rfl ⟨rfl, rfl⟩ (by kernel_rfl) rfl lq (by kernel_rfl)
end Go.Proofs.YtlafnblklafbkaaGreatDoor
