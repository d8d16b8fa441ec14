/- SoundTexts answers true for whatever it is handed: of any columns and any source that is a migration: printed, and parsed again, it is sound, or is not, at the same move, for the same reason (up to 50 columns, 3000 bytes). -/
import Derived.Test.YtlafnblklafbkaaGreatDoorSoundTextsCardSaidPart11
set_option linter.all false
namespace Go.Proofs.YtlafnblklafbkaaGreatDoor
open Go Go.SX Go.SX.Nb Go.ChangeShapes Go.RowKit
set_option maxRecDepth 100000
theorem plain : PlainT Tryz.prog (· ∈ [40, 64, 9, 3]) := ⟨fun t ht => by
 simp only [List.mem_cons, List.mem_nil_iff, or_false] at ht
 rcases ht with rfl | rfl | rfl | rfl
 ·exact .inl ⟨by kernel_rfl, .inr (.inr (.inr ⟨_, Tryz.underlying40, by simp, by rw [show Tryz.prog.cellsOf 64 = 2 by kernel_rfl]; decide⟩))⟩
 ·refine .inr ⟨_, Tryz.underlying64, fun f hf => ?_, kids.struct (of_decide_eq_true (by kernel_rfl)) Tryz.underlying64 |>.2⟩
  simp only [List.mem_cons, List.mem_nil_iff, or_false] at hf
  rcases hf with rfl | rfl <;> simp
 ·exact .inl ⟨by kernel_rfl, .inr (.inr (.inl Tryz.underlying9))⟩
 exact .inl ⟨by kernel_rfl, .inl ⟨_, Tryz.underlying3⟩⟩⟩
theorem v8 {H : Type} [ErrAt] (d : DataW H) (y : AV) (h : DRep Tryz.prog 64 d y) : ∃ c : Col, y = Av c := by
 obtain ⟨ys, hn, rfl, hh⟩ := h.struct' AA0 Tryz.underlying64
 match ys, hn with
 | [y0, y1], _ =>
  obtain ⟨d0, b0, h0⟩ := hh 0 _ y0 rfl rfl
  obtain ⟨d1, b1, h1⟩ := hh 1 _ y1 rfl rfl
  obtain ⟨s, rfl, rfl⟩ := h0.str' Tryz.underlying9
  obtain ⟨k, rfl, rfl, _⟩ := h1.int' Tryz.underlying3
  exact ⟨⟨s, k⟩, rfl⟩
theorem qu {H : Type} [ErrAt] (d : DataW H) (y : AV) (h : DRep Tryz.prog 40 d y) : ∃ c : List Col, y = Ar c := by
 obtain ⟨l, rfl, _⟩ := h.slice' AA0 Av (fun _ => True) Tryz.underlying40 (Nat.le_refl _) (fun d y _ hr => (v8 d y hr).imp fun c h => ⟨h, trivial⟩)
 exact ⟨l, by rw [show Tryz.prog.cellsOf 64 = 2 by kernel_rfl]⟩
theorem main {H : Type} [ErrAt] (ds : List (DataW H)) (ys : List AV) (h : DReps Tryz.prog Tryz.f6.params.toList ds ys) : AFun Tryz.prog 6 ys [] (B2 true) := by
 rw [Tryz.params6] at h
 obtain ⟨d0, ds, y0, ys, rfl, rfl, h0, h⟩ := h.cons'
 obtain ⟨d1, ds, y1, ys, rfl, rfl, h1, h⟩ := h.cons'
 obtain ⟨rfl, rfl⟩ := h.nil'
 obtain ⟨c, rfl⟩ := qu d0 y0 h0
 obtain ⟨s, rfl, rfl⟩ := h1.str' Tryz.underlying9
 exact c6 c s []
theorem qv (os : Os) : laidMet Tryz.prog Rows.soundTextsRow.laid ((World.laidAll Tryz.prog os Rows.soundTextsRow.laid).forCall (fun _ _ => 0) ⟨#[], #[.slice none 0 0, .string ⟨#[]⟩], []⟩).memory :=
 laidMet_laidAll _ (by kernel_rfl) (by kernel_rfl)
theorem AAr (os : Os) {H : Type} (enc : TypeId × Value → H) : DataW.whole enc Tryz.prog ((World.laidAll Tryz.prog os Rows.soundTextsRow.laid).forCall (fun _ _ => 0) ⟨#[], #[.slice none 0 0, .string ⟨#[]⟩], []⟩).memory Tryz.f6.params.toList Rows.soundTextsSpec.vars false
  #[.slice none 0 0, .string ⟨#[]⟩].toList 8 = some ([.nil, .lit (.string [])], [], []) := by kernel_rfl
theorem vd (os : Os) {H : Type} (enc : TypeId × Value → H) : ∃ (w : World) (tape : Tape) (i : Input), w.os = os ∧ (w.forCall tape i).Shaped Tryz.prog ∧ i.vars = [] ∧ Input.okWide Tryz.prog (w.forCall tape i) .any w.heap.size 6 i ∧
   (OpenSpec.ofChange Rows.soundTextsSpec).preRow enc Tryz.prog Tryz.f6 Rows.soundTextsRow.domain false Rows.soundTextsRow.laid (w.forCall tape i).memory i.args ∧ ({ modest := false } : Assume).holds Tryz.prog (lone (Frame.enter Tryz.prog 6 i.args .normal) [] (w.forCall tape i)) := by
 refine ⟨World.laidAll Tryz.prog os Rows.soundTextsRow.laid, fun _ _ => 0, ⟨#[], #[.slice none 0 0, .string ⟨#[]⟩], []⟩, World.laidAll_os _ _ _, World.shaped_of_ZipB (by kernel_rfl) (by kernel_rfl), rfl, (Input.okWide_of_okWideB (by kernel_rfl)).2,
  OpenSpec.preRow_of_cond 8 (AAr os enc) (by kernel_rfl) (fun k hk => by cases hk) (by kernel_rfl) ?_, ?_⟩
 ·rw [MakeChecks.laidMetH_plain _ _ _ (by kernel_rfl)]
  exact qv os
 simp only [Assume.holds]
 exact ⟨by simp, by simp, fun h => (by cases h), by simp, by simp⟩
theorem yi (os : Os) (started : os.Started) (H : Type) (enc : TypeId × Value → H) (F : Stop.Interp) :
  ReturnsInHanded {} Tryz.checked os 6 .any ((OpenSpec.ofChange Rows.soundTextsSpec).preRow enc Tryz.prog Tryz.f6 Rows.soundTextsRow.domain false Rows.soundTextsRow.laid) (((OpenSpec.ofChange Rows.soundTextsSpec).at F).post enc Tryz.prog Tryz.f6 false true false false) := by
 refine returnsInHanded_of_row (C := Tryz.checked) (s := (OpenSpec.ofChange Rows.soundTextsSpec)) own started (by kernel_rfl) Tryz.func6 (vd os enc) ?_
 intro W base args ds gs before hval hW _ hcond _ hL hsh _
 rw [MakeChecks.laidMetH_plain _ _ _ (by kernel_rfl)] at hL
 obtain ⟨b, hbv⟩ := ru hL
 letI E : ErrAt := { b := b }
 have hgs : gs = [] := by
  obtain ⟨p, q, _, hV, _⟩ := hW
  exact (trodVars_none hV).1
 subst hgs
 refine h9 (fn := Tryz.f6) (tb := 4) kids full plain (fun t ht => ?_) Tryz.underlying4 (by kernel_rfl) rfl (fun ds hd => ?_) hval hW (glob hsh hL hbv) (fun ys hy => main ds ys hy)
 ·rw [Tryz.params6] at ht
  refine ⟨?_, ?_⟩
  ·have : ∀ t ∈ [40, 9], t ∈ [40, 64, 9, 3] := by decide
   exact this t ht
  have : ([40, 9].all fun t => decide (t < Tryz.prog.types.size)) = true := by kernel_rfl
  exact of_decide_eq_true (List.all_eq_true.1 this t ht)
 have e : Tryz.f6.params.size = 2 := by rw [Tryz.params6]; rfl
 rw [e] at hd
 match ds, hd with
 | [_, _], _ => rfl
theorem ki : Tryz.pinned.checked.prog.funcNamed Rows.soundTextsRow.func = some 6 := by kernel_rfl
theorem bx : joinedFacts Tryz.pinned.checked.prog 6 Tryz.f6 (OpenSpec.ofChange Rows.soundTextsSpec).bare Rows.soundTextsRow = true := by kernel_rfl
theorem kj : Tryz.f6.isInstance Tryz.pinned.checked.prog Rows.soundTextsRow.origin Rows.soundTextsRow.targs := of_decide_eq_true (by kernel_rfl)
theorem km : Tryz.f6.isWrapper Tryz.pinned.checked.prog Rows.soundTextsRow.wrapper Rows.soundTextsRow.mainSum := by
 unfold Func.isWrapper
 first | (rw [if_pos (by decide +kernel)]; kernel_rfl) | (rw [if_neg (by decide +kernel)]; exact ⟨rfl, rfl⟩)
theorem ACz : Rows.SoundTextsSaid :=
 OpenClaim.holds_of_cond 6 Tryz.f6 rfl rfl rfl rfl rfl rfl rfl ⟨rfl, rfl, rfl, rfl, rfl⟩ rfl rfl rfl rfl rfl ki Tryz.func6 bx
  kj km
  (fun os started H enc _ F => by rw [OpenClaim.pre_eq_preRow]; exact yi os started H enc F)
theorem ve (f : FuncId) (fn : Func) (hf : Tryz.pinned.checked.prog.funcNamed "needlebeam/needlebeamlaw19.SoundTexts" = some f) (hfn : Tryz.pinned.checked.prog.funcs[f]? = some fn) :
  true = Tryz.pinned.checked.prog.looks [] ∧ ∀ (j : Nat) t, fn.params[j]? = some t → Tryz.pinned.checked.prog.wantsStandIn t = false := by
 obtain rfl : f = 6 := Option.some.inj ((show Tryz.prog.funcNamed "needlebeam/needlebeamlaw19.SoundTexts" = some 6 by kernel_rfl).symm.trans hf) |>.symm
 obtain rfl : fn = Tryz.f6 := (Option.some.inj (Tryz.func6.symm.trans hfn)).symm
 refine ⟨by kernel_rfl, fun j t ht => ?_⟩
 rw [Tryz.params6] at ht
 have hm : t ∈ [40, 9] := by simpa using Array.mem_of_getElem? ht
 have hall : ([40, 9].all fun u => !Tryz.prog.wantsStandIn u) = true := by kernel_rfl
 exact (show Tryz.prog.wantsStandIn t = false by simpa using List.all_eq_true.1 hall t hm)
theorem sound_texts_card : Rows.SoundTextsCardSaid :=
 Claim7.holds_tied_plain_at .later [] _ _ _ _ ACz (fun _ h => by cases h) (by kernel_rfl) (fun _ h => by cases h) soundTexts_row_tie rfl ⟨rfl, rfl⟩ (by kernel_rfl) rfl ve (by kernel_rfl)
end Go.Proofs.YtlafnblklafbkaaGreatDoor
