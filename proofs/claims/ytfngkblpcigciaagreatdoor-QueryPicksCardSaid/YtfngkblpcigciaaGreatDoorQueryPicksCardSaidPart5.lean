/- Texts on the way to this: QueryPicks answers true for whatever it is handed: the answer has, of each row that the query of all columns tells, just the values of its own columns. (part 5) -/
import Derived.Test.YtfngkblpcigciaaGreatDoorQueryPicksCardSaidPart4
set_option linter.all false
namespace Go.SX.Nb
open Go Go.SX Go.Proofs
variable [ErrAt]
set_option maxRecDepth 4000
def wAt (s : Str) (k : Nat) : Int × Str × Int × Int := Az (s.drop k)
theorem Hc {f k : Nat} {s : Str} (h : s ≠ []) : E7 (f + 1) k s = (⟨(Az s).1, (Az s).2.1, k⟩, (Az s).2.2.2) :: (if (Az s).2.2.2 == 0 then E7 f (k + (Az s).2.2.1.toNat + gapM (s.drop (Az s).2.2.1.toNat)) ((s.drop (Az s).2.2.1.toNat).drop (gapM (s.drop (Az s).2.2.1.toNat))) else []) := by
 rw [E7, if_neg (by simpa using h)]
/-- Where the reader is, with k words behind it. -/
def Kx (s : Str) (k p : Nat) : Prop := (∃ f, (s.drop p).length < f ∧ (Ax s).drop k = E7 f p (s.drop p)) ∧ p ≤ s.length ∧ ∀ j, j < k → ∃ it, (Ax s)[j]? = some it ∧ it.2 = 0
theorem V1 (s : Str) : Kx s 0 (gapM s) := ⟨⟨s.length + 1, by rw [List.length_drop]; omega, by rw [List.drop_zero]; rfl⟩, Uy s, fun j hj => by omega⟩
theorem Yd {s : Str} {k p : Nat} (h : Kx s k p) : k ≤ (Ax s).length := by
 refine Classical.byContradiction fun hn => ?_
 obtain ⟨it, hit, _⟩ := h.2.2 (Ax s).length (by omega)
 rw [List.getElem?_eq_none (Nat.le_refl _)] at hit
 cases hit
theorem Ye {s : Str} {k p : Nat} (h : Kx s k p) (hp : s.length ≤ p) : k = (Ax s).length ∧ ∀ it ∈ Ax s, it.2 = 0 := by
 have hl := Yd h
 obtain ⟨⟨f, _, hd⟩, _, h0⟩ := h
 have e : s.drop p = [] := by rw [List.drop_eq_nil_iff]; exact hp
 rw [e] at hd
 have : (Ax s).drop k = [] := by rw [hd]; cases f <;> rfl
 rw [List.drop_eq_nil_iff] at this
 have hk : k = (Ax s).length := by omega
 refine ⟨hk, fun it hit => ?_⟩
 obtain ⟨j, hj, rfl⟩ := List.mem_iff_getElem.1 hit
 obtain ⟨it', h1, h2⟩ := h0 j (by omega)
 rw [List.getElem?_eq_getElem hj] at h1
 injection h1 with h1
 rw [h1]; exact h2
theorem Mx {s : Str} {k p : Nat} (h : Kx s k p) (hp : p < s.length) : ∃ f, (s.drop p).length < f + 1 ∧ (Ax s).drop k = E7 (f + 1) p (s.drop p) ∧ s.drop p ≠ [] := by
 obtain ⟨⟨f, hf, hd⟩, _, _⟩ := h
 obtain ⟨g, rfl⟩ : ∃ g, f = g + 1 := ⟨f - 1, by omega⟩
 exact ⟨g, hf, hd, fun e => by rw [List.drop_eq_nil_iff] at e; omega⟩
theorem Ir {s : Str} {k p : Nat} (h : Kx s k p) (hp : p < s.length) : (Ax s)[k]? = some (⟨(wAt s p).1, (wAt s p).2.1, p⟩, (wAt s p).2.2.2) := by
 obtain ⟨f, _, hd, hne⟩ := Mx h hp
 rw [Hc hne] at hd
 have := congrArg (·[0]?) hd
 unfold wAt
 simpa using this
theorem V2 {s : Str} {k p : Nat} (h : Kx s k p) (hp : p < s.length) (he : (wAt s p).2.2.2 = 0) : ∃ n : Nat, (wAt s p).2.2.1 = (n : Int) ∧ 1 ≤ n ∧ p + n ≤ s.length ∧ Kx s (k + 1) (p + n + gapM (s.drop (p + n))) := by
 have hi := Ir h hp
 obtain ⟨f, hf, hd, hne⟩ := Mx h hp
 obtain ⟨n, hn, h1, h2⟩ := W1 (s := s.drop p) (by rw [List.length_drop]; omega) he
 rw [List.length_drop] at h2 hf
 have hg := Uy (s.drop (p + n))
 rw [List.length_drop] at hg
 refine ⟨n, hn, h1, by omega, ⟨f, by rw [List.length_drop]; omega, ?_⟩, by omega, fun j hj => ?_⟩
 ·rw [Hc hne] at hd
  have := congrArg (·.drop 1) hd
  simp only [List.drop_drop, List.drop_succ_cons, List.drop_zero] at this
  unfold wAt at he
  rw [this, hn, he]
  simp only [beq_self_eq_true, if_true, Int.toNat_natCast, List.drop_drop]
 rcases Nat.lt_or_ge j k with h' | h'
 ·exact h.2.2 j h'
 have : j = k := by omega
 subst this
 exact ⟨_, hi, he⟩
theorem td (l : Nat) (s : Str) (hs : s.length ≤ 1048576) (U F : Nat → List AObj) (hlen : ∀ k, (U k).length = (U 0).length) (hll : l < (U 0).length)
  (hy : ∀ k it, (Ax s)[k]? = some it → AYield Tryz.prog l [Er it.1, A4 it.2] (U k) (fun b H' => if it.2 = 0 then b = true ∧ H' = U (k + 1) else b = false ∧ H' = F k)) : ACall Tryz.prog 105 [.yield l, .ro [A8 s]] (U 0) (fun r H' => ((∀ it ∈ Ax s, it.2 = 0) ∧ H' = U (Ax s).length) ∨ ∃ k it, (Ax s)[k]? = some it ∧ it.2 ≠ 0 ∧ (∀ j, j < k → ∃ it', (Ax s)[j]? = some it' ∧ it'.2 = 0) ∧ H' = F k) := by
 refine ACall.body [] [0, 1] Tryz.func105 Tryz.ntmps105 (fun d => ?_)
 refine Qg ?_;refine R.call Tryz.call106 (qw s hs _) ?_;refine Au ?_;refine R.fin [0, 1, 3] ?_
 refine AW.loopC (α := Nat × Nat) (fun x => ⟨44, A6 0 (.yield l) (A6 1 (.ro [A8 s]) (A6 3 (A4 (x.2 : Nat)) (fun _ => .any))), U x.1, [], [], none⟩) (fun x => Kx s x.1 x.2) (fun x => s.length - x.2) (0, gapM s) (V1 s) (StLe.refl _) rfl (fun x hx => ?_)
 obtain ⟨k, p⟩ := x
 simp only at hx ⊢
 refine Z9 ?_;refine Cq ?_;refine R.slen jU ?_;refine R.lss ?_;refine R.fin [0, 1, 3, 13] ?_
 refine W.cond (fun ht13 => ?_) (fun ht13 => ?_)
 ·have hpl : p < s.length := by simpa using ht13
  refine Ud ?_;refine Qg ?_;refine At ?_;refine R.scutL p jU hx.2.1 (Nat.le_refl _) ?_
  refine R.call Tryz.call107 (tc (s.drop p) (by rw [List.length_drop]; omega) (by rw [List.length_drop]; omega) _) ?_
  refine Z62 ?_;refine Z8 ?_;refine Z14 ?_;refine Z14 ?_;refine R.fin [0, 1, 3, 4, 5, 6, 7] ?_;refine Z9 ?_;refine Z79 ?_;refine At ?_;refine Uj ?_;refine At ?_;refine R.yield0 (hy k _ (Ir hx hpl)) ?_
  intro b V hV hb
  refine R.not ?_;refine Z22 ?_;refine U4 ?_;refine R.fin [0, 1, 3, 6, 40] ?_
  refine W.cond (fun ht40 => ?_) (fun ht40 => ?_)
  ·have hbe : (Az (s.drop p)).2.2.2 ≠ 0 ∧ V = F k := by
    split at hb
    ·rename_i h0
     obtain ⟨rfl, _⟩ := hb
     have h0' : (Az (s.drop p)).2.2.2 = 0 := h0
     simp [h0'] at ht40
    rename_i h0
    exact ⟨h0, hb.2⟩
   refine Z11 ?_;refine Z84 ?_;exact K.fin .nores (hp := .inr ⟨k, _, Ir hx hpl, hbe.1, hx.2.2, hbe.2⟩)
  have hbe : (Az (s.drop p)).2.2.2 = 0 ∧ V = U (k + 1) := by
   split at hb
   ·rename_i h0
    exact ⟨h0, hb.2⟩
   obtain ⟨rfl, _⟩ := hb
   simp at ht40
  obtain ⟨n, hn, hn1, hnl, hnx⟩ := V2 hx hpl hbe.1
  unfold wAt at hn
  rw [hn]
  have hgl := Uy (s.drop (p + n))
  rw [List.length_drop] at hgl
  refine bc ?_;refine Z82 ?_;refine R.fin [0, 1, 3] ?_;refine Z13 ?_;refine Z21 ?_;refine Cq ?_;refine At ?_;refine R.scutL (p + n) jU hnl (Nat.le_refl _) ?_
  refine R.call Tryz.call106 (qw (s.drop (p + n)) (by rw [List.length_drop]; omega) _) ?_
  refine Z82 ?_;refine R.fin [0, 1, 3] ?_;exact K.lpN (k + 1, p + n + gapM (s.drop (p + n))) hnx (by show s.length - _ < s.length - p; omega) (StCut.of_eq (by rw [hbe.2]; simp))
 have hpl : s.length ≤ p := by simpa using ht13
 obtain ⟨hk, hz⟩ := Ye hx hpl
 refine Z96 ?_;refine K.lpE ?_;exact K.finN .nores (hp := .inl ⟨hz, by rw [hk]⟩)

theorem c71 (s : Str) (Hp : List AObj) : AFun Tryz.prog 71 [A8 s] Hp (.fn (.func 105) [] [.ro [A8 s]]) := by
 refine ACall.body [.tmp 2] [0] Tryz.func71 Tryz.ntmps71 (fun d => ?_)
 refine Ob ?_;refine Ba ?_;refine R.makeFunc ?_;exact ap

def Ap (s : Str) : List Tok × Int × Nat := if 4000 < s.length then ([], 3, 0) else
 match (Ax s).find? (fun it => it.2 != 0) with
 | some it => ([], it.2, it.1.at_)
 | none => ((Ax s).map (·.1) ++ [⟨0, [], s.length⟩], 0, 0)
theorem ig {s : Str} {k : Nat} {it : Tok × Int} (hit : (Ax s)[k]? = some it) (he : it.2 ≠ 0) (h0 : ∀ j, j < k → ∃ it', (Ax s)[j]? = some it' ∧ it'.2 = 0) : (Ax s).find? (fun it => it.2 != 0) = some it := by
 rw [List.find?_eq_some_iff_getElem]
 obtain ⟨hk, e⟩ := List.getElem?_eq_some_iff.1 hit
 refine ⟨by simpa using he, k, hk, e, fun j hj => ?_⟩
 obtain ⟨it', h1, h2⟩ := h0 j hj
 rw [List.getElem?_eq_getElem (by omega)] at h1
 injection h1 with h1
 rw [h1, h2]; rfl
theorem ce {s : Str} (h : ∀ it ∈ Ax s, it.2 = 0) : (Ax s).find? (fun it => it.2 != 0) = none := by
 rw [List.find?_eq_none]
 intro it hit
 simp [h it hit]
def P5 (s : Str) (k : Nat) : Int × Nat := match (Ax s)[k]? with | some it => (it.2, it.1.at_) | none => (0, 0)
theorem My : ∀ (f k : Nat) (s : Str), (E7 f k s).length ≤ f
 | 0, _, _ => Nat.zero_le _
 | f + 1, k, s => by
  rw [E7]
  split
  ·exact Nat.zero_le _
  rw [List.length_cons]
  split
  ·have := My f (k + (Az s).2.2.1.toNat + gapM (s.drop (Az s).2.2.1.toNat)) ((s.drop (Az s).2.2.1.toNat).drop (gapM (s.drop (Az s).2.2.1.toNat)))
   omega
  simp
theorem Mz (s : Str) : (Ax s).length ≤ s.length + 1 := My _ _ _
def G7 (s : Str) (k : Nat) : List Tok := ((Ax s).take k).map (·.1)
theorem Ka (s : Str) (k : Nat) : (G7 s k).length ≤ s.length + 1 := by
 have := Mz s
 unfold G7
 rw [List.length_map, List.length_take]
 omega
theorem V3 {s : Str} {k : Nat} {it : Tok × Int} (hit : (Ax s)[k]? = some it) : G7 s (k + 1) = G7 s k ++ [it.1] := by
 unfold G7
 rw [List.take_succ, hit, List.map_append]
 rfl
theorem Yf (s : Str) : G7 s (Ax s).length = (Ax s).map (·.1) := by unfold G7; rw [List.take_length]
theorem Yg {s : Str} {k : Nat} {it : Tok × Int} (hl4 : ¬ 4000 < s.length) (hit : (Ax s)[k]? = some it) (he : it.2 ≠ 0) (h0 : ∀ j, j < k → ∃ it', (Ax s)[j]? = some it' ∧ it'.2 = 0) : Ap s = ([], it.2, it.1.at_) := by
 unfold Ap
 rw [if_neg hl4, ig hit he h0]
theorem cf {s : Str} (hl4 : ¬ 4000 < s.length) (hz : ∀ it ∈ Ax s, it.2 = 0) : Ap s = (G7 s (Ax s).length ++ [⟨0, [], s.length⟩], 0, 0) := by
 unfold Ap
 rw [if_neg hl4, ce hz, Yf]
theorem c37 (s : Str) (hs : s.length ≤ 1048576) (Hp : List AObj) : AFun Tryz.prog 37 [A8 s] Hp (.tup [cc (Ap s).1, .agg [A4 (Ap s).2.1, A4 (Ap s).2.2]]) := by
 refine ACall.body [.cell 2 72, .cell 3 50] [0, 5, 6] Tryz.func37 Tryz.ntmps37 (fun d => ?_)
 refine Z30 ?_;refine R.alloc jZ ?_;refine R.fin [0, 2, 3, 5, 6] ?_;refine Z9 ?_;refine U3 ?_;refine R.fin [0, 2, 3, 5, 6, 9] ?_
 refine W.cond (fun ht9 => ?_) (fun ht9 => ?_)
 ·have hlm : Ap s = ([], 3, 0) := by unfold Ap; rw [if_pos (by simp at ht9; omega)]
  refine Ba ?_;refine lf ?_;refine R.nilOwn 0 3 ?_;refine Rq ?_;refine Z11 ?_;exact K.fin (V.two (V.cell jA) (V.cellN jA jS)) ⟨by rw [hlm]; rfl, rfl⟩
 have hl4 : ¬ 4000 < s.length := by simp at ht9; omega
 refine Z5 ?_;refine Z30 ?_;refine R.fin [0, 2, 3, 4, 5, 6] ?_;refine Z27 ?_;refine R.nilOwn 2 3 ?_;refine At ?_;refine R.call Tryz.call71 (c71 s _) ?_;refine R.fin [0, 2, 3, 4, 5, 6, 12] ?_;refine Eq ?_
 refine W.rangeV (m := 3) Tryz.call105 (fun FR as' bd' hFR has hbd => ?_)
 refine ⟨_, td (oid Hp.length 4) s hs (fun k => Hp ++ [AObj.cells 72 [AV.nil], AObj.cells 50 [A4 0, A4 0], AObj.cells 72 [AV.slice true 3 ((G7 s k).map Er)], AObj.defs, AObj.loop LoopState.ready none FR 32 #[13, 14] as' bd' (oid Hp.length 3)]) (fun k => Hp ++ [AObj.cells 72 [AV.nil], AObj.cells 50 [A4 (P5 s k).1, A4 (P5 s k).2], AObj.cells 72 [AV.slice true 3 ((G7 s k).map Er)], AObj.defs, AObj.loop LoopState.done (some Code.ret) FR 32 #[13, 14] as' bd' (oid Hp.length 3)]) (fun k => by simp) (by simp [oid]) (fun k it hit => ?_), ?_⟩
 ·generalize hV : Hp ++ [AObj.cells 72 [AV.nil], AObj.cells 50 [A4 0, A4 0], AObj.cells 72 [AV.slice true 3 ((G7 s k).map Er)], AObj.defs, AObj.loop LoopState.ready none FR 32 #[13, 14] as' bd' (oid Hp.length 3)] = V
  have hL : V[oid Hp.length 4]? = some (AObj.loop LoopState.ready none FR 32 #[13, 14] as' bd' (oid Hp.length 3)) := by rw [← hV, Am]; rfl
  have hA0 : V[oid Hp.length 2]? = some (AObj.cells 72 [AV.slice true 3 ((G7 s k).map Er)]) := by rw [← hV, Am]; rfl
  have hB0 : V[oid Hp.length 0]? = some (AObj.cells 72 [AV.nil]) := by rw [← hV, Am]; rfl
  have hC0 : V[oid Hp.length 1]? = some (AObj.cells 50 [A4 0, A4 0]) := by rw [← hV, Am]; rfl
  refine AYield.ofRound (pd := none) (fr := FR) (sz := 32) (ps := #[13, 14]) (df := oid Hp.length 3) (asg := as') (bd := bd') hL rfl (by decide) (fun d => ?_)
  subst hFR has hbd
  refine W.keep [2, 3, 4, 13, 14] ?_;refine U6 ?_;refine R.fin [2, 3, 4, 5, 14] ?_;refine Xn ?_;refine R.fin [2, 3, 4, 5, 6] ?_
  refine ⟨rfl, none, hL, ?_⟩
  generalize hbz : (AObj.loop LoopState.busy _ _ _ _ _ _ _) = bz
  have hA : (V.set (oid Hp.length 4) bz)[oid Hp.length 2]? = some (AObj.cells 72 [AV.slice true 3 ((G7 s k).map Er)]) := by rw [List.getElem?_set_ne (Bq (by decide))]; exact hA0
  have hB : (V.set (oid Hp.length 4) bz)[oid Hp.length 0]? = some (AObj.cells 72 [AV.nil]) := by rw [List.getElem?_set_ne (Bq (by decide))]; exact hB0
  have hC : (V.set (oid Hp.length 4) bz)[oid Hp.length 1]? = some (AObj.cells 50 [A4 0, A4 0]) := by rw [List.getElem?_set_ne (Bq (by decide))]; exact hC0
  refine Eq ?_;refine Mh ?_;refine R.fin [2, 3, 4, 5, 6, 16] ?_
  refine W.cond (fun ht16 => ?_) (fun ht16 => ?_)
  ·have hne : it.2 ≠ 0 := by simpa using ht16
   refine W.drawY [0, 0, 2, 7, 0, 31] [4] [.q 4 [] [], .s [] (some 0) [] []] (fun _ => V.set (oid Hp.length 4) bz) (fun _ => [AObj.cells 82 [A4 it.1.kind, A8 it.1.text, A4 it.1.at_]]) Ae (by kernel_rfl) rfl rfl (fun _ => rfl) ?_
   apply Y.q
   case h1 =>
    intro B hT hF
    refine D.move ?_;refine D.fieldAddrPtr (fo := 2) jU Tryz.sizeOf3 ?_;refine D.loadOwn (n := 0) jA ?_;exact oa
   case hTF => decide
   refine Y.storeUp (o := oid Hp.length 0) (ys := [.nil]) (t' := 72) (cs := [AV.nil]) (cs' := [AV.nil]) Tryz.sizeOf72 (fun _ _ => ⟨hB, (B4 hB).symm, rfl, by simp⟩) ?_;refine Y.tail (tn := [4]) (U := V.set (oid Hp.length 4) bz) ?_
   refine R.storeUp jS hC ?_ ?_
   ·simp
   refine b9 ?_;refine K.blR ?_
   subst hbz
   refine K.rdR (Rn hL (Bq (by decide))) ?_
   rw [if_neg hne]
   refine ⟨rfl, ?_⟩
   subst hV
   simp only [Ck, List.set_cons_succ, List.set_cons_zero]
   rw [show P5 s k = (it.2, it.1.at_) by unfold P5; rw [hit]]
  have heq : it.2 = 0 := by simpa using ht16
  refine Z5 ?_;refine AW.region ?_
  have hl3 := Ka s k
  refine R.loadUpT jA hA ?_;refine Mj ?_;refine Mk ?_
  refine R.append jU Tryz.type82 ?_ ?_ ?_
  ·simp [hl3, Tryz.t82]; omega
  ·simp [hl3, Tryz.t82]; omega
  refine R.storeUpT jS (Ad hA) ?_ ?_
  ·simp [or_imp, forall_and]
  refine R.fin [] ?_;refine K.blN ?_
  subst hbz
  refine K.rdN (Ro hL (Bq (by decide)) (Bq (by decide))) ?_
  rw [if_pos heq]
  refine ⟨rfl, ?_⟩
  subst hV
  simp only [Ck, List.set_cons_succ, List.set_cons_zero]
  rw [V3 hit, List.map_append]
  rfl
 rintro r H' (⟨hz, rfl⟩ | ⟨k, it, hit, hne, h0, rfl⟩)
 ·refine ⟨Hp, _, _, _, rfl, rfl, fun h => h, ?_, rfl, by simp, ?_⟩
  ·intro o ho
   have : o = oid Hp.length 3 := by simpa using ho
   subst this
   rw [Am]
   rfl
  refine Z13 ?_;refine Ba ?_;refine R.loadOwnT jA ?_;refine At ?_;refine R.slen jU ?_;refine Uj ?_;refine Mk ?_
  refine R.append jU Tryz.type82 ?_ ?_ ?_
  ·have := Ka s (Ax s).length; simp [Tryz.t82]; omega
  ·have := Ka s (Ax s).length; simp [Tryz.t82]; omega
  refine Uk ?_;refine R.storeOwnT jS ?_;refine Rq ?_;refine AW.ret ?_;exact K.fin (V.two (V.cell jA) (V.cellN jA jS)) ⟨by rw [cf hl4 hz, cc, List.map_append]; rfl, rfl⟩ (hlow := by simp [or_imp, forall_and])
 refine ⟨Hp, _, _, _, rfl, rfl, fun h => h, ?_, rfl, by simp, ?_⟩
 ·intro o ho
  have : o = oid Hp.length 3 := by simpa using ho
  subst this
  rw [Am]
  rfl
 refine W.nilOwn 0 3 ?_;refine Z59 ?_;exact K.fin (V.two (V.cell jA) (V.cellN jA jS)) ⟨by rw [Yg hl4 hit hne h0, show P5 s k = (it.2, it.1.at_) by unfold P5; rw [hit]]; rfl, rfl⟩

inductive Expr where
 | mk (op : Int) (text : Str) (val : Val) (kids : List Expr)
def Expr.op : Expr → Int | .mk o _ _ _ => o
def Expr.text : Expr → Str | .mk _ t _ _ => t
def Expr.val : Expr → Val | .mk _ _ v _ => v
def Expr.kids : Expr → List Expr | .mk _ _ _ k => k
mutual
def Ab : Expr → AV
 | .mk o t v k => .agg [.v (.int .i64 o), .v (sv t), .v (.int .i64 v.kind), .v (.int .i64 v.n), .v (sv v.s), .slice false 6 (Kb k)]
def Kb : List Expr → List AV
  | [] => []
  | e :: r => Ab e :: Kb r
 end
theorem N0 : ∀ l, Kb l = l.map Ab
 | [] => rfl
 | e :: r => by rw [Kb, N0 r]; rfl
theorem Af (e : Expr) : Ab e = .agg [.v (.int .i64 e.op), .v (sv e.text), .v (.int .i64 e.val.kind), .v (.int .i64 e.val.n), .v (sv e.val.s), .slice false 6 (e.kids.map Ab)] := by
 cases e with
 | mk o t v k => rw [Ab, N0]; rfl
attribute [go_sem] Af
def I5 : Str := [32, 111, 114, 32, 32, 97, 110, 100, 32, 32, 61, 32, 33, 61, 32, 60, 32, 60, 61, 32, 62, 32, 62, 61, 32, 32, 43, 32, 45, 32, 38, 32, 32, 42, 32, 47, 32, 37, 32]
def Gr (v : Val) : Bool := v.kind == 0 && v.n == 0 && v.s == []
def C8 (e : Expr) : Bool :=
 if e.op == 1 then ((Bu e.val && decide (0 ≤ e.val.n)) && (e.text == [])) && ((e.kids.length : Int) == 0)
 else if e.op == 2 then (Gr e.val && Dg e.text) && ((e.kids.length : Int) == 0)
 else if e.op == 3 || e.op == 4 then (Gr e.val && (e.text == [])) && ((e.kids.length : Int) == 1)
 else if e.op == 5 then (Gr e.val && I4 e.text I5) && ((e.kids.length : Int) == 2)
 else if e.op == 6 then Gr e.val && (Av e.text == (e.kids.length : Int))
 else false
theorem c93 (e : Expr) (hs : e.text.length ≤ 1048576) (Hp : List AObj) : AFun Tryz.prog 93 [Ab e] Hp (Ak (C8 e)) := by
 refine ACall.body [.tmp 2] [0] Tryz.func93 Tryz.ntmps93 (fun d => ?_)
 refine Ob ?_;refine g7 ?_;refine Dn ?_;refine Uj ?_;refine R.eqlAgg S1 (Fl e.val.kind e.val.n 0 0 e.val.s []) ?_;refine Au ?_;refine R.fin [1, 3] ?_;refine Z27 ?_;refine Z15 ?_;refine R.fin [1, 3, 9] ?_;refine Ru ?_;refine R.fin [1, 3, 9, 10] ?_
 refine W.cond (fun ht10 => ?_) (fun ht10 => ?_)
 ·refine g7 ?_;refine Dn ?_;refine R.call Tryz.call120 (bp e.val _) ?_;refine At ?_;refine gz ?_;refine G.fieldAddrRo (off := 1) jU Tryz.sizeOf2 ?_;refine G.loadRo jA ?_;refine G.geq ?_;refine U2 ?_;refine Ql ?_;exact ar
 refine Z48 ?_;refine R.fin [1, 3, 9, 32] ?_
 refine W.cond (fun ht32 => ?_) (fun ht32 => ?_)
 ·refine Z29 ?_;refine Z28 ?_;refine G.call Tryz.call60 (fun hB => c60 e.text hs _) ?_;exact ar
 refine Z27 ?_;refine Z20 ?_;refine R.fin [1, 3, 9, 46] ?_
 refine W.cond (fun ht46 => ?_) (fun ht46 => ?_)
 ·refine Z5 ?_
  refine W.cond (fun ht46 => ?_) (fun ht46 => ?_)
  ·refine Z29 ?_;refine Ql ?_;exact ar
  refine Z48 ?_;refine R.fin [1, 3, 9, 61] ?_
  refine W.cond (fun ht61 => ?_) (fun ht61 => ?_)
  ·refine Z29 ?_;refine Z28 ?_;exact ob
  refine Z48 ?_;refine R.fin [1, 3, 75] ?_
  refine W.cond (fun ht75 => ?_) (fun ht75 => ?_)
  ·refine pc ?_;refine H.fieldAddrRo (off := 1) jU Tryz.sizeOf9 ?_;refine H.loadRo jA ?_;refine oy ?_;refine H.loadRo jA ?_;refine H.len jU ?_;refine D.tail ?_;exact lm
  refine Z17 ?_;exact oe
 refine AW.region ?_;refine Z20 ?_;refine R.fin [1, 3, 9, 46] ?_;refine K.thN ?_
 refine W.cond (fun ht46 => ?_) (fun ht46 => ?_)
 ·refine Z29 ?_;refine Ql ?_;exact ar
 refine Z48 ?_;refine R.fin [1, 3, 9, 61] ?_
 refine W.cond (fun ht61 => ?_) (fun ht61 => ?_)
 ·refine Z29 ?_;refine Z28 ?_;exact ob
 refine Z48 ?_;refine R.fin [1, 3, 75] ?_
 refine W.cond (fun ht75 => ?_) (fun ht75 => ?_)
 ·refine pc ?_;refine H.fieldAddrRo (off := 1) jU Tryz.sizeOf9 ?_;refine H.loadRo jA ?_;refine oy ?_;refine H.loadRo jA ?_;refine H.len jU ?_;refine D.tail ?_;exact lm
 refine Z17 ?_;exact oe

mutual
def Aq (d : Int) : Expr → List (Int × Expr)
 | .mk o t v k => (d, .mk o t v k) :: An (d + 1) k
def An (d : Int) : List Expr → List (Int × Expr)
  | [] => []
  | e :: r => Aq d e ++ An d r
 end
theorem E8 (d : Int) (e : Expr) : Aq d e = (d, e) :: An (d + 1) e.kids := by cases e; rfl
theorem Ft (d : Int) : ∀ a b, An d (a ++ b) = An d a ++ An d b
 | [], b => rfl
 | e :: r, b => by rw [List.cons_append, An, An, Ft d r b, List.append_assoc]
theorem Sa (d : Int) (l : List Expr) {x : Nat} (h : x < l.length) : An d (l.take (x + 1)) = An d (l.take x) ++ Aq d l[x] := by
 rw [List.take_succ_eq_append_getElem h, Ft]
 simp [An]
theorem Jh (d : Int) (l : List Expr) {x : Nat} (h : x < l.length) : An d l = An d (l.take x) ++ (Aq d l[x] ++ An d (l.drop (x + 1))) := by
 have e : l = l.take x ++ (l[x] :: l.drop (x + 1)) := by rw [← List.drop_eq_getElem_cons h, List.take_append_drop]
 conv => lhs; rw [e]
 rw [Ft, An]
mutual
def sizeE : Expr → Nat
 | .mk _ _ _ k => 1 + B8 k
def B8 : List Expr → Nat
  | [] => 0
  | e :: r => sizeE e + B8 r
 end
theorem Hd (e : Expr) : sizeE e = 1 + B8 e.kids := by cases e; rfl
theorem P6 : ∀ (l : List Expr) {x : Nat} (h : x < l.length), sizeE l[x] ≤ B8 l
 | e :: r, 0, _ => by simp only [List.getElem_cons_zero, B8]; omega
 | e :: r, x + 1, h => by
  have := P6 r (x := x) (by simpa using h)
  simp only [List.getElem_cons_succ, B8]
  omega
theorem cg (e : Expr) {x : Nat} (h : x < e.kids.length) : sizeE e.kids[x] + 1 ≤ sizeE e := by
 have := P6 e.kids h
 rw [Hd e]
 omega
/-- Each node has few kids. -/
def okE : Nat → Expr → Prop
 | 0, _ => False
 | n + 1, e => e.text.length ≤ 1048576 ∧ e.kids.length ≤ 1048576 ∧ ∀ y ∈ e.kids, okE n y
/-- Who takes what a tree yields: item k is taken at U k; it goes on (go k) to U (k + 1), or ends at F k. Behind U k there may stand others' objects. -/
structure Takes (P : Program) (l : Nat) (L : List (Int × Expr)) (go : Nat → Bool) (U F : Nat → List AObj) (n0 : Nat) : Prop where
 lenU : ∀ k, (U k).length = n0
 lenF : ∀ k, (F k).length = n0
 lowU : ∀ k, ∀ x ∈ U k, ObjLow n0 x
 lowF : ∀ k, ∀ x ∈ F k, ObjLow n0 x
 lt : l < n0
 y : ∀ (X : List AObj) (k : Nat) (it : Int × Expr), L[k]? = some it → (∀ j, j < k → go j = true) → AYield P l [A4 it.1, Ab it.2] (U k ++ X) (fun b H' => b = go k ∧ H' = (if go k then U (k + 1) else F k) ++ X)
theorem ObjLow.le {m m' : Nat} (h : m ≤ m') {x : AObj} (hx : ObjLow m x) : ObjLow m' x := by
 cases x with
 | cells t cs => exact fun y hy => (hx y hy).mono h
 | loop s pd fr sz ps as' bd df => exact ⟨fun s => (hx.1 s).mono h, Nat.lt_of_lt_of_le hx.2 h⟩
 | defs => trivial
 | dead => trivial
 | bld _ _ _ => trivial
 | gone => trivial
/-- What the walk over n items from k0 on comes to. -/
def Sb (go : Nat → Bool) (U F : Nat → List AObj) (k0 n : Nat) (X : List AObj) : AV → List AObj → Prop := fun r H' =>
 ((∀ j, j < n → go (k0 + j) = true) ∧ r = Ak true ∧ H' = U (k0 + n) ++ X) ∨ (∃ j, j < n ∧ (∀ i, i < j → go (k0 + i) = true) ∧ go (k0 + j) = false ∧ r = Ak false ∧ H' = F (k0 + j) ++ X)
mutual
theorem Aj (m : Nat) : ∀ e, Low m (Ab e)
 | .mk o t v k => by
  rw [Ab]
  refine .agg _ fun y hy => ?_
  simp only [List.mem_cons, List.mem_nil_iff, or_false] at hy
  rcases hy with rfl | rfl | rfl | rfl | rfl | rfl
  ·exact .v _
  ·exact .v _
  ·exact .v _
  ·exact .v _
  ·exact .v _
  exact low_slice.2 (N1 m k)
theorem N1 (m : Nat) : ∀ l, ∀ y ∈ Kb l, Low m y
  | [], y, hy => by cases hy
  | e :: r, y, hy => by
    rw [Kb] at hy
    rcases List.mem_cons.1 hy with rfl | h
    · exact Aj m e
    exact N1 m r y h
 end
theorem Ji {V O A B own : List AObj} (h : V ++ O = A ++ (B ++ own)) (hl : V.length = (A ++ B).length) : V = A ++ B ∧ O = own := by
 rw [← List.append_assoc] at h
 exact List.append_inj h hl
theorem Jj {m : Nat} {A X : List AObj} (hA : ∀ x ∈ A, ObjLow m x) (hX : ∀ x ∈ X, ObjLow m x) : ∀ x ∈ A ++ X, ObjLow m x := fun x hx => by
 rcases List.mem_append.1 hx with h | h
 ·exact hA x h
 exact hX x h
theorem V4 {P : Program} {l : Nat} {L : List (Int × Expr)} {go : Nat → Bool} {U F : Nat → List AObj} {n0 k n K : Nat} {X own V O : List AObj} {r : AV} (T : Takes P l L go U F n0) (hV : V.length = (U K ++ X).length) (hp : Sb go U F k n (X ++ own) r (V ++ O)) :
  ∃ b, r = Ak b ∧ O = own ∧ (if b then (∀ j, j < n → go (k + j) = true) ∧ V = U (k + n) ++ X else ∃ j, j < n ∧ (∀ i, i < j → go (k + i) = true) ∧ go (k + j) = false ∧ V = F (k + j) ++ X) ∧ ((∀ x ∈ U K ++ X, ObjLow V.length x) → ∀ x ∈ V, ObjLow V.length x) := by
 have hn : n0 ≤ V.length := by rw [hV, List.length_append, T.lenU]; omega
 rcases hp with ⟨h1, h2, h3⟩ | ⟨j, hj, h1, h2, h3, h4⟩
 ·obtain ⟨e1, e2⟩ := Ji h3 (by rw [hV]; simp [T.lenU])
  refine ⟨true, h2, e2, ⟨h1, e1⟩, fun h => ?_⟩
  rw [e1] at h ⊢
  exact Jj (fun x hx => ObjLow.le (by rw [List.length_append, T.lenU]; omega) (T.lowU _ x hx)) (fun x hx => h x (List.mem_append_right _ hx))
 obtain ⟨e1, e2⟩ := Ji h4 (by rw [hV]; simp [T.lenU, T.lenF])
 refine ⟨false, h3, e2, ⟨j, hj, h1, h2, e1⟩, fun h => ?_⟩
 rw [e1] at h ⊢
 exact Jj (fun x hx => ObjLow.le (by rw [List.length_append, T.lenF]; omega) (T.lowF _ x hx)) (fun x hx => h x (List.mem_append_right _ hx))
theorem Sc (d : Int) (l : List Expr) {x : Nat} (h : x < l.length) : (An d (l.take (x + 1))).length = (An d (l.take x)).length + (Aq d l[x]).length := by rw [Sa d l h, List.length_append]
theorem cj {d0 : Int} {e : Expr} {x : Nat} (h : x < e.kids.length) {j : Nat} {it : Int × Expr} (hj : (Aq (d0 + 1) e.kids[x])[j]? = some it) : (Aq d0 e)[1 + (An (d0 + 1) (e.kids.take x)).length + j]? = some it := by
 rw [E8 d0 e, show 1 + (An (d0 + 1) (e.kids.take x)).length + j = ((An (d0 + 1) (e.kids.take x)).length + j) + 1 by omega, List.getElem?_cons_succ, Jh (d0 + 1) e.kids h, List.getElem?_append_right (by omega)]
 rw [show (An (d0 + 1) (e.kids.take x)).length + j - (An (d0 + 1) (e.kids.take x)).length = j by omega, List.getElem?_append_left (List.getElem?_eq_some_iff.1 hj).1]
 exact hj
theorem Yh (d0 : Int) (e : Expr) {x : Nat} (h : x < e.kids.length) : 1 + (An (d0 + 1) (e.kids.take x)).length + (Aq (d0 + 1) e.kids[x]).length ≤ (Aq d0 e).length := by
 rw [E8 d0 e, List.length_cons, Jh (d0 + 1) e.kids h]
 simp only [List.length_append]
 omega
theorem c127 {l : Nat} {L : List (Int × Expr)} {go : Nat → Bool} {U F : Nat → List AObj} {n0 : Nat} (T : Takes Tryz.prog l L go U F n0) : ∀ (n : Nat) (e : Expr), okE n e → ∀ (d0 : Int) (k0 : Nat) (X : List AObj), 0 ≤ d0 → d0 + n ≤ 1099511627776 → (∀ (j : Nat) (it : Int × Expr), (Aq d0 e)[j]? = some it → L[k0 + j]? = some it) → (∀ j, j < k0 → go j = true) → ACall Tryz.prog 127 [Ab e, A4 d0, .yield l] (U k0 ++ X) (Sb go U F k0 (Aq d0 e).length X) := by
 intro n
 induction n with
 | zero => exact fun e h => h.elim
 | succ n ih =>
 intro e hok d0 k0 X hd hdn hit hgo
 have hlen0 : (U k0 ++ X).length = n0 + X.length := by rw [List.length_append, T.lenU]
 refine ACall.body [.tmp 6] [0, 1, 2] Tryz.func127 Tryz.ntmps127 (fun d => ?_)
 refine Z97 ?_;refine R.fin [1, 2, 3] ?_;refine Lh ?_;refine Dn ?_
 refine R.yield0 (T.y X k0 (d0, e) (hit 0 _ (by rw [E8]; rfl)) hgo) ?_
 intro b Vv hV hb
 refine R.not ?_;refine R.fin [1, 2, 3, 13] ?_
 refine W.cond (fun ht13 => ?_) (fun ht13 => ?_)
 ·have hb' : b = false := by simpa using ht13
  subst hb'
  refine Rt ?_;refine Z11 ?_;exact K.fin (V.one V.tmp) (Or.inr ⟨0, by rw [E8]; simp, fun i hi => by omega, hb.1.symm, rfl, by have := hb.2; rw [show go k0 = false from hb.1.symm] at this; exact this⟩)
 have hb' : b = true := by simpa using ht13
 subst hb'
 have hgo0 : go (k0 + 0) = true := hb.1.symm
 have hVe : Vv = U (k0 + 1) ++ X := by have := hb.2; rw [show go k0 = true from hb.1.symm] at this; exact this
 subst hVe
 have h0x : 0 ≤ e.kids.length ∧ ∀ j, j < 1 + (An (d0 + 1) (e.kids.take 0)).length → go (k0 + j) = true := ⟨Nat.zero_le _, fun j hj => by
  have : j = 0 := by simp [An] at hj; omega
  subst this
  exact hgo0⟩
 refine Z5 ?_;refine Z27 ?_;refine Z38 ?_;refine Z70 ?_;refine R.fin [1, 2, 15, 16, 17] ?_
 refine AW.loopC (α := Nat) (fun x => ⟨28, A6 1 (A4 d0) (A6 2 (.yield l) (A6 15 (.slice false 6 (e.kids.map Ab)) (A6 16 (A4 e.kids.length) (A6 17 (A4 (x : Nat)) (fun _ => .any))))), U (k0 + (1 + (An (d0 + 1) (e.kids.take x)).length)) ++ X, [], [], none⟩) (fun x => x ≤ e.kids.length ∧ ∀ j, j < 1 + (An (d0 + 1) (e.kids.take x)).length → go (k0 + j) = true) (fun x => e.kids.length - x) (0) h0x (StLe.of_eq (by simp [An])) rfl (fun x hx => ?_)
 refine Z89 ?_;refine R.fin [1, 2, 15, 16, 17, 18] ?_
 refine W.condX (fun ht18 => ?_) (fun ht18 => ?_)
 ·have hlt : x < e.kids.length := by simpa using ht18
  have hkl := hok.2.1
  refine Qk ?_;refine fm ?_;refine Z16 ?_;refine R.fin [1, 2, 8, 15, 16, 17] ?_;refine Z31 ?_;refine At ?_;refine R.add64 ?_;refine At ?_
  refine R.callG Tryz.call127 (args := [Ab e.kids[x], A4 (d0 + 1), .yield l]) (by rw [List.append_assoc]; exact ih e.kids[x] (hok.2.2 _ (List.getElem_mem hlt)) (d0 + 1) (k0 + (1 + (An (d0 + 1) (e.kids.take x)).length)) (X ++ _) (by omega) (by omega) (fun j it hj => by have := hit _ it (cj hlt hj); rwa [← Nat.add_assoc] at this) (fun j hj => by rcases Nat.lt_or_ge j k0 with h | h; exact hgo j h; have := hx.2 (j - k0) (by omega); rwa [show k0 + (j - k0) = j by omega] at this)) ?_
  intro r Vv O hV hp
  obtain ⟨b, rfl, rfl, hc, hlowV⟩ := V4 T hV hp
  refine ⟨hlowV, fun o ho => by simp at ho, ?_⟩
  refine R.not ?_;refine R.fin [1, 2, 15, 16, 17, 26] ?_
  refine W.cond (fun ht26 => ?_) (fun ht26 => ?_)
  ·have hb' : b = false := by simpa using ht26
   subst hb'
   obtain ⟨j, hj, h1, h2, h3⟩ := hc
   refine Rt ?_;refine Z59 ?_;refine K.lpR ?_;refine K.thR ?_
   have hil := Yh d0 e hlt
   refine K.fin (V.one V.tmp) (Or.inr ⟨1 + (An (d0 + 1) (e.kids.take x)).length + j, by omega, fun i hi => ?_, by rwa [Nat.add_assoc] at h2, rfl, by rwa [Nat.add_assoc] at h3⟩)
   rcases Nat.lt_or_ge i (1 + (An (d0 + 1) (e.kids.take x)).length) with h | h
   ·exact hx.2 i h
   have := h1 (i - (1 + (An (d0 + 1) (e.kids.take x)).length)) (by omega)
   rwa [show k0 + (1 + (An (d0 + 1) (e.kids.take x)).length) + (i - (1 + (An (d0 + 1) (e.kids.take x)).length)) = k0 + i by omega] at this
  have hb' : b = true := by simpa using ht26
  subst hb'
  obtain ⟨h1, h3⟩ := hc
  refine Mi ?_;refine R.fin [1, 2, 15, 16, 17] ?_
  subst h3
  have hll := Sc (d0 + 1) e.kids hlt
  have e1 : k0 + (1 + (An (d0 + 1) (e.kids.take (x + 1))).length) = k0 + (1 + (An (d0 + 1) (e.kids.take x)).length) + (Aq (d0 + 1) e.kids[x]).length := by omega
  refine K.lpN (x + 1) ⟨hlt, fun j hj => ?_⟩ (by omega) ?_
  ·rcases Nat.lt_or_ge j (1 + (An (d0 + 1) (e.kids.take x)).length) with h | h
   ·exact hx.2 j h
   have := h1 (j - (1 + (An (d0 + 1) (e.kids.take x)).length)) (by omega)
   rwa [show k0 + (1 + (An (d0 + 1) (e.kids.take x)).length) + (j - (1 + (An (d0 + 1) (e.kids.take x)).length)) = k0 + j by omega] at this
  simp only [e1]
  exact StCut.take (own := []) (fun _ => .refl _) (by repeat (first | exact B6 | refine B5 (by first | (simp [Aj]; done) | (have := T.lt; simp [T.lenU]; omega)) ?_)) (by simp) (by simp)
 have hxe : e.kids.take x = e.kids := List.take_of_length_le (by simp at ht18; omega)
 refine Z55 ?_;refine Rt ?_;refine AW.ret ?_
 have hl2 : (Aq d0 e).length = 1 + (An (d0 + 1) (e.kids.take x)).length := by rw [E8, hxe, List.length_cons]; omega
 exact K.fin (V.one V.tmp) (Or.inl ⟨fun j hj => hx.2 j (by omega), rfl, by rw [hl2]⟩)

abbrev E1 (e : Expr) : List AV := [.v (.int .i64 e.op), .v (sv e.text), .v (.int .i64 e.val.kind), .v (.int .i64 e.val.n), .v (sv e.val.s), .slice false 6 (e.kids.map Ab)]
/-- What taking all of a tree comes to. -/
def G8 (go : Nat → Bool) (U F : Nat → List AObj) (n : Nat) (H' : List AObj) : Prop :=
 ((∀ j, j < n → go j = true) ∧ H' = U n) ∨ (∃ j, j < n ∧ (∀ i, i < j → go i = true) ∧ go j = false ∧ H' = F j)
theorem ml {l : Nat} {e : Expr} {go : Nat → Bool} {U F : Nat → List AObj} {n0 : Nat} (T : Takes Tryz.prog l (Aq 1 e) go U F n0) (n : Nat) (hok : okE n e) (hn : n ≤ 1048576) : ACall Tryz.prog 126 [.yield l, .ro (E1 e)] (U 0) (fun r H' => G8 go U F (Aq 1 e).length H') := by
 refine ACall.body [] [0, 1] Tryz.func126 Tryz.ntmps126 (fun d => ?_)
 refine AW.region ?_;refine Dn ?_;refine At ?_;refine R.callG Tryz.call127 (args := [Ab e, A4 1, .yield l]) (c127 T n e hok 1 0 [] (by omega) (by omega) (fun j it hj => by rwa [Nat.zero_add]) (fun j hj => by omega)) ?_
 intro r Vv O hV hp
 have hO : O = [] := by
  have h1 : (Vv ++ O).length = n0 := by rcases hp with ⟨_, _, h⟩ | ⟨j, _, _, _, _, h⟩ <;> rw [h] <;> simp [T.lenU, T.lenF]
  have h2 := T.lenU 0
  rw [List.length_append, hV, h2] at h1
  exact List.eq_nil_of_length_eq_zero (by omega)
 subst hO
 rw [List.append_nil] at hp
 have hq : G8 go U F (Aq 1 e).length Vv := by
  rcases hp with ⟨h1, _, h⟩ | ⟨j, h1, h2, h3, _, h⟩
  ·exact .inl ⟨fun j hj => by have := h1 j hj; rwa [Nat.zero_add] at this, by rw [h]; simp⟩
  exact .inr ⟨j, h1, fun i hi => by have := h2 i hi; rwa [Nat.zero_add] at this, by rwa [Nat.zero_add] at h3, by rw [h]; simp⟩
 refine ⟨fun h => ?_, fun o ho => by simp at ho, ?_⟩
 ·rcases hq with ⟨_, h⟩ | ⟨j, _, _, _, h⟩ <;> rw [h]
  ·rw [T.lenU]; exact T.lowU _
  rw [T.lenF]; exact T.lowF _
 refine R.fin [] ?_;exact K.finN .nores (hp := hq)

theorem c92 (e : Expr) (Hp : List AObj) : AFun Tryz.prog 92 [Ab e] Hp (.fn (.func 126) [] [.ro (E1 e)]) := by
 refine ACall.body [.tmp 2] [0] Tryz.func92 Tryz.ntmps92 (fun d => ?_)
 refine Ob ?_;refine Ba ?_;refine R.makeFunc ?_;refine Z76 ?_;exact K.fin (V.one V.tmp) (hlow := by have := Aj Hp.length e; rw [Af] at this; simpa using this)

def goM (e : Expr) (k : Nat) : Bool := match (Aq 1 e)[k]? with
 | some it => !((!C8 it.2 || decide ((30 : Int) < it.1)) || decide ((300 : Int) < (k : Int) + 1))
 | none => true
def Bb (e : Expr) : Bool := (List.range (Aq 1 e).length).all (goM e)
mutual
theorem P7 : ∀ (n : Nat) (e : Expr), okE n e → ∀ d, ∀ it ∈ Aq d e, it.2.text.length ≤ 1048576
 | 0, _, h, _, _, _ => h.elim
 | n + 1, e, h, d, it, hit => by
  rw [E8] at hit
  rcases List.mem_cons.1 hit with rfl | h'
  ·exact h.1
  exact P8 n e.kids h.2.2 (d + 1) it h'
 termination_by n e => (n, 0)
theorem P8 : ∀ (n : Nat) (l : List Expr), (∀ y ∈ l, okE n y) → ∀ d, ∀ it ∈ An d l, it.2.text.length ≤ 1048576
  | n, [], _, _, _, h => by cases h
  | n, e :: r, h, d, it, hit => by
    rw [An] at hit
    rcases List.mem_append.1 hit with h' | h'
    · exact P7 n e (h e (by simp)) d it h'
    exact P8 n r (fun y hy => h y (by simp [hy])) d it h'
  termination_by n l => (n, l.length + 1)
 end
theorem V5 {U : List AObj} {i j : Nat} {x y : AObj} (h : U[i]? = some x) (hne : j ≠ i) : (U.set j y)[i]? = some x := by rw [List.getElem?_set_ne hne]; exact h
theorem mm {e : Expr} {k : Nat} {it : Int × Expr} (hit : (Aq 1 e)[k]? = some it) (h : ∀ j, j < k → goM e j = true) : (k : Int) ≤ 300 := by
 rcases Nat.eq_zero_or_pos k with h0 | h0
 ·omega
 have hl := (List.getElem?_eq_some_iff.1 hit).1
 have := h (k - 1) (by omega)
 unfold goM at this
 rw [List.getElem?_eq_getElem (by omega)] at this
 simp at this
 omega
theorem Qu {e : Expr} {k : Nat} {it : Int × Expr} (hit : (Aq 1 e)[k]? = some it) : goM e k = !((!C8 it.2 || decide ((30 : Int) < it.1)) || decide ((300 : Int) < (k : Int) + 1)) := by
 unfold goM; rw [hit]
theorem c61 (n : Nat) (e : Expr) (hok : okE n e) (hn : n ≤ 1048576) (Hp : List AObj) : AFun Tryz.prog 61 [Ab e] Hp (Ak (Bb e)) := by
 refine ACall.body [.cell 2 4] [0, 4, 5] Tryz.func61 Tryz.ntmps61 (fun d => ?_)
 refine Z24 ?_;refine R.alloc jZ ?_;refine R.fin [1, 2, 4, 5] ?_;refine U6 ?_;refine R.fin [1, 2, 3, 4, 5] ?_;refine Z27 ?_
 refine R.assumeLow (fun hlow => ?_)
 refine lz ?_;refine R.fin [2, 3, 4, 5, 7] ?_;refine Eq ?_
 refine W.rangeV (m := 2) Tryz.call126 (fun FR as' bd' hFR has hbd => ?_)
 have hFRl : ∀ s, Low (Hp.length + 4) (FR s) := by
  intro s
  rw [hFR]
  refine Low.strip ?_
  revert s
  repeat (first | exact B6 | refine B5 (by simp [oid, Aj] <;> try omega) ?_)
 have hOl : ∀ {k : Nat}, ∀ x ∈ [AObj.cells 4 [Ak false], AObj.cells 3 [A4 (k : Nat)], AObj.defs, AObj.loop LoopState.ready none FR 23 #[8, 9] as' bd' (oid Hp.length 2)], ObjLow (Hp.length + 4) x := by
  intro k x hx
  simp only [List.mem_cons, List.mem_nil_iff, or_false] at hx
  rcases hx with rfl | rfl | rfl | rfl
  ·exact low1
  ·exact low1
  ·trivial
  exact i6
 have hOf : ∀ {k : Nat}, ∀ x ∈ [AObj.cells 4 [Ak false], AObj.cells 3 [A4 ((k : Nat) + 1)], AObj.defs, AObj.loop LoopState.done (some Code.ret) FR 23 #[8, 9] as' bd' (oid Hp.length 2)], ObjLow (Hp.length + 4) x := by
  intro k x hx
  simp only [List.mem_cons, List.mem_nil_iff, or_false] at hx
  rcases hx with rfl | rfl | rfl | rfl
  ·exact low1
  ·exact low1
  ·trivial
  exact i6
 refine ⟨fun _ H' => G8 (goM e) (fun k => Hp ++ [AObj.cells 4 [Ak false], AObj.cells 3 [A4 (k : Nat)], AObj.defs, AObj.loop LoopState.ready none FR 23 #[8, 9] as' bd' (oid Hp.length 2)]) (fun k => Hp ++ [AObj.cells 4 [Ak false], AObj.cells 3 [A4 ((k : Nat) + 1)], AObj.defs, AObj.loop LoopState.done (some Code.ret) FR 23 #[8, 9] as' bd' (oid Hp.length 2)]) (Aq 1 e).length H', ml (l := oid Hp.length 3) (go := goM e) (U := fun k => Hp ++ [AObj.cells 4 [Ak false], AObj.cells 3 [A4 (k : Nat)], AObj.defs, AObj.loop LoopState.ready none FR 23 #[8, 9] as' bd' (oid Hp.length 2)]) (F := fun k => Hp ++ [AObj.cells 4 [Ak false], AObj.cells 3 [A4 ((k : Nat) + 1)], AObj.defs, AObj.loop LoopState.done (some Code.ret) FR 23 #[8, 9] as' bd' (oid Hp.length 2)]) (n0 := Hp.length + 4) ⟨fun k => by simp, fun k => by simp, fun k x hx => ?_, fun k x hx => ?_, by simp [oid], fun X k it hit hgo => ?_⟩ n hok hn, ?_⟩
 ·exact bg
 ·exact Jj (fun x hx => ObjLow.le (by omega) (hlow x hx)) hOf x hx
 ·have hk3 := mm hit hgo
  generalize hV : (Hp ++ [AObj.cells 4 [Ak false], AObj.cells 3 [A4 (k : Nat)], AObj.defs, AObj.loop LoopState.ready none FR 23 #[8, 9] as' bd' (oid Hp.length 2)] ++ X) = V
  have hL : V[oid Hp.length 3]? = some (AObj.loop LoopState.ready none FR 23 #[8, 9] as' bd' (oid Hp.length 2)) := by rw [← hV, List.append_assoc, Am]; rfl
  have hA0 : V[oid Hp.length 1]? = some (AObj.cells 3 [A4 (k : Nat)]) := by rw [← hV, List.append_assoc, Am]; rfl
  have hB0 : V[oid Hp.length 0]? = some (AObj.cells 4 [Ak false]) := by rw [← hV, List.append_assoc, Am]; rfl
  refine AYield.ofRound (pd := none) (fr := FR) (sz := 23) (ps := #[8, 9]) (df := oid Hp.length 2) (asg := as') (bd := bd') hL rfl (by decide) (fun d => ?_)
  subst hFR has hbd
  refine W.keep [2, 3, 8, 9] ?_;refine Z3 ?_;refine R.fin [2, 3, 4, 9] ?_;refine AW.region ?_;refine Z16 ?_;refine R.fin [2, 3, 4, 5] ?_
  refine ⟨rfl, none, hL, ?_⟩
  generalize hbz : (AObj.loop LoopState.busy _ _ _ _ _ _ _) = bz
  have hA : (V.set (oid Hp.length 3) bz)[oid Hp.length 1]? = some (AObj.cells 3 [A4 (k : Nat)]) := by rw [List.getElem?_set_ne (Bq (by decide))]; exact hA0
  have hB : (V.set (oid Hp.length 3) bz)[oid Hp.length 0]? = some (AObj.cells 4 [Ak false]) := by rw [List.getElem?_set_ne (Bq (by decide))]; exact hB0
  refine Eq ?_;refine Ba ?_;refine R.loadUp jA hA ?_;refine R.add64 ?_
  refine R.storeUp jS hA ?_ ?_
  ·simp
  refine R.fin [2, 3, 4, 5] ?_;refine Z31 ?_;refine R.call Tryz.call93 (c93 it.2 (P7 n e hok 1 it (List.mem_of_getElem? hit)) _) ?_;refine R.not ?_;refine Z22 ?_;refine Md ?_;refine At ?_;refine G.loadUp jA (Ad hA) ?_;refine Md ?_;refine R.fin [2, 22] ?_
  refine W.cond (fun ht22 => ?_) (fun ht22 => ?_)
  ·have hgf : goM e k = false := by rw [Qu hit, ht22]; rfl
   refine Ba ?_
   refine R.storeUp jS (V5 (j := oid Hp.length 1) hB (Bq (by decide))) ?_ ?_
   ·simp
   refine R.fin [] ?_;refine AW.ret ?_;refine K.blR ?_
   subst hbz
   refine K.rdR (Ro hL (Bq (by decide)) (Bq (by decide))) ?_
   refine ⟨hgf.symm, ?_⟩
   rw [if_neg (by rw [hgf]; simp)]
   subst hV
   simp only [List.append_assoc, Ck, List.cons_append, List.nil_append, List.set_cons_succ, List.set_cons_zero]
   try rfl
  have hgt : goM e k = true := by rw [Qu hit, ht22]; rfl
  refine AW.skip ?_;refine K.blN ?_
  subst hbz
  refine K.rdN (Rn hL (Bq (by decide))) ?_
  refine ⟨hgt.symm, ?_⟩
  rw [if_pos hgt]
  subst hV
  simp only [List.append_assoc, Ck, List.cons_append, List.nil_append, List.set_cons_succ, List.set_cons_zero]
  try rfl
 rintro r H' (⟨h1, rfl⟩ | ⟨j, hj, h1, h2, rfl⟩)
 ·refine ⟨Hp, _, _, _, rfl, rfl, fun h => h, ?_, rfl, by simp, ?_⟩
  ·intro o ho
   have : o = oid Hp.length 2 := by simpa using ho
   subst this
   rw [Am]
   rfl
  refine Z13 ?_;refine Ba ?_;refine Z6 ?_;exact K.fin (V.one (V.cell jA)) ⟨by rw [show Bb e = true from List.all_eq_true.2 fun j hj => h1 j (List.mem_range.1 hj)], rfl⟩
 refine ⟨Hp, _, _, _, rfl, rfl, fun h => h, ?_, rfl, by simp, ?_⟩
 ·intro o ho
  have : o = oid Hp.length 2 := by simpa using ho
  subst this
  rw [Am]
  rfl
 refine Z59 ?_;exact K.fin (V.one (V.cell jA)) ⟨by rw [show Bb e = false from List.all_eq_false.2 ⟨j, List.mem_range.2 hj, by rw [h2]; simp⟩], rfl⟩

def D7 (s : Str) : Expr := .mk 2 s ⟨0, 0, []⟩ []
theorem Sd (s : Str) : Le (.agg [A4 2, A8 s, A4 0, A4 0, A8 [], .nil]) (Ab (D7 s)) := by
 rw [Af]
 refine .agg _ _ rfl (by simp [AV.one, Value.oneCell', sv]) fun i y y' h1 h2 => ?_
 match i with
 | 0 => simp at h1 h2; subst h1; subst h2; exact .inl rfl
 | 1 => simp at h1 h2; subst h1; subst h2; exact .inl rfl
 | 2 => simp at h1 h2; subst h1; subst h2; exact .inl rfl
 | 3 => simp at h1 h2; subst h1; subst h2; exact .inl rfl
 | 4 => simp at h1 h2; subst h1; subst h2; exact .inl rfl
 | 5 => simp at h1 h2; subst h1; subst h2; exact .inr ⟨rfl, 6, rfl⟩
 | i + 6 => simp at h1
theorem Se (s : Str) (h : s.length ≤ 1048576) : okE 1 (D7 s) := ⟨h, by simp [D7, Expr.kids], fun y hy => by cases hy⟩
def Is (c : List Col) (x : Nat) (y : Col) : Bool := !(((!Bb (D7 y.name)) || (F7 y.kind == [])) || (B2 y.name c != (x : Int)))
def Fd (c : List Col) : Bool := c.zipIdx.all fun x => Is c x.2 x.1
theorem colsP_true {c : List Col} : Fd c = true ↔ ∀ (j : Nat) (y : Col), c[j]? = some y → Is c j y = true := Un
theorem c26 (c : List Col) (hc : OkCols c) (Hp : List AObj) : AFun Tryz.prog 26 [C0 c] Hp (Ak (Fd c)) := by
 refine ACall.body [.tmp 2] [0] Tryz.func26 Tryz.ntmps26 (fun d => ?_)
 refine Z88 ?_;refine Of ?_;refine R.fin [0, 5, 6, 7] ?_
 refine AW.loopC (α := Nat) (fun x => ⟨32, A6 0 (C0 c) (A6 5 (C0 c) (A6 6 (A4 c.length) (A6 7 (A4 (x : Nat)) (fun _ => .any)))), Hp, [], [], none⟩) (fun x => x ≤ c.length ∧ ∀ (j : Nat) (y : Col), j < x → c[j]? = some y → Is c j y = true) (fun x => c.length - x) (0) (by simp) (StLe.of_eq (by simp)) rfl (fun x hx => ?_)
 refine Z89 ?_;refine R.fin [0, 5, 6, 7, 8] ?_
 refine W.condX (fun ht8 => ?_) (fun ht8 => ?_)
 ·have hlt : x < c.length := by simpa using ht8
  have hcl := hc.len
  refine Gg ?_;refine m7 ?_;refine Dn ?_;refine av ?_;refine R.fin [0, 3, 4, 5, 6, 7] ?_;refine Ba ?_;refine R.fieldAddrPtr (fo := 0) jU Tryz.sizeOf9 ?_;refine om ?_;refine R.wk 14 _ (Sd c[x].name) ?_;refine R.call Tryz.call61 (c61 1 (D7 c[x].name) (Se _ (hc.names _ (List.getElem_mem hlt))) (by decide) _) ?_;refine R.not ?_;refine At ?_;refine G.fieldAddrPtr (fo := 1) jU Tryz.sizeOf3 ?_;refine G.loadOwn jA ?_;refine G.call Tryz.call62 (fun hB => c62 c[x].kind _) ?_;refine G.seql ?_;refine R.pickOr ?_;refine Z22 ?_;refine G.fieldAddrPtr (fo := 0) jU Tryz.sizeOf9 ?_;refine G.loadOwn jA ?_;refine G.call Tryz.call29 (fun hB => c29 c hc c[x].name _) ?_;refine G.move ?_;refine U4 ?_;refine R.fin [0, 5, 6, 7, 30] ?_
  refine W.cond (fun ht30 => ?_) (fun ht30 => ?_)
  ·refine Z57 ?_;refine Oa ?_
   exact K.fin (V.one V.tmp) ⟨by rw [show Fd c = false from Bool.eq_false_iff.2 fun h => by have := colsP_true.1 h x c[x] (List.getElem?_eq_getElem hlt); unfold Is at this; rw [ht30] at this; cases this], rfl⟩
  refine Mi ?_;refine R.fin [0, 5, 6, 7] ?_
  refine K.lpN (x + 1) ⟨hlt, Um hlt hx.2 (by unfold Is; rw [ht30]; rfl)⟩ (by omega) ?_
  exact StCut.take (own := []) (fun _ => .refl _) (by repeat (first | exact B6 | refine B5 (by simp) ?_)) (by simp) (by simp)
 refine Z55 ?_;refine Z57 ?_;exact K.fin (V.one V.tmp) ⟨by rw [colsP_true.2 (Y4 (by simp at ht8; omega) hx.2)], rfl⟩

theorem Qv (s : Str) (h : s ≠ []) : Lib.contains [] s = false := by
 cases s with
 | nil => exact absurd rfl h
 | cons a r => rfl
theorem contains_cons (b : UInt8) (l s : Str) : Lib.contains (b :: l) s = (s.isPrefixOf (b :: l) || Lib.contains l s) := by
 unfold Lib.contains
 have hge := Lib.index_ge l s
 rw [Lib.index]
 by_cases hp : s.isPrefixOf (b :: l) = true
 ·rw [if_pos hp, hp]; rfl
 rw [if_neg hp]
 have hp' : s.isPrefixOf (b :: l) = false := Bool.eq_false_iff.2 hp
 rw [hp', Bool.false_or]
 by_cases hi : Lib.index l s = -1
 ·rw [hi]; rfl
 have : (Lib.index l s == -1) = false := by simpa using hi
 rw [this, if_neg (by simp)]
 rw [decide_eq_decide]
 omega
/-- Words between blanks. -/
def He : List Str → Str
 | [] => [32]
 | w :: r => 32 :: (w ++ He r)
theorem P9 (sub : Str) : ∀ (w R : Str), (32 : UInt8) ∉ w → Lib.contains (w ++ R) (32 :: sub) = Lib.contains R (32 :: sub)
 | [], R, _ => rfl
 | b :: w, R, h => by
  have hb : b ≠ 32 := fun e => h (by simp [e])
  rw [List.cons_append, contains_cons, P9 sub w R (fun hm => h (by simp [hm]))]
  have : (32 :: sub).isPrefixOf (b :: (w ++ R)) = false := by
   simp [List.isPrefixOf, Ne.symm hb]
  rw [this, Bool.false_or]
theorem Ky : ∀ (s w : Str) (R : Str), (32 : UInt8) ∉ s → (32 : UInt8) ∉ w → (s ++ [32]).isPrefixOf (w ++ 32 :: R) = (s == w)
 | [], [], R, _, _ => by simp [List.isPrefixOf]
 | [], b :: w, R, _, hw => by
  have hb : (32 : UInt8) ≠ b := fun e => hw (by simp [e])
  simp [List.isPrefixOf, hb]
 | a :: s, [], R, hs, _ => by
  have hb : a ≠ (32 : UInt8) := fun e => hs (by simp [e])
  simp [List.isPrefixOf, hb]
 | a :: s, b :: w, R, hs, hw => by
  have ih := Ky s w R (fun h => hs (by simp [h])) (fun h => hw (by simp [h]))
  rw [List.cons_append, List.cons_append, List.isPrefixOf, ih]
  rfl
theorem Sf : ∀ ws, ∃ R, He ws = 32 :: R
 | [] => ⟨[], rfl⟩
 | w :: r => ⟨_, rfl⟩
theorem Fe (s : Str) (hs : (32 : UInt8) ∉ s) : ∀ (ws : List Str), (∀ w ∈ ws, (32 : UInt8) ∉ w) → Lib.contains (He ws) ([32] ++ s ++ [32]) = ws.any (· == s)
 | [], _ => by
  rw [He, contains_cons, Qv _ (by simp), Bool.or_false]
  cases s <;> simp [List.isPrefixOf]
 | w :: r, h => by
  have hw := h w (by simp)
  obtain ⟨R, hR⟩ := Sf r
  have ih := Fe s hs r (fun x hx => h x (by simp [hx]))
  have e1 : ([32] ++ s ++ [32] : Str) = 32 :: (s ++ [32]) := rfl
  rw [He, contains_cons, e1, P9 _ w _ hw, ← e1, ih, List.any_cons]
  congr 1
  rw [e1, hR]
  have := Ky s w R hs hw
  rw [List.isPrefixOf, this]
  simp only [beq_self_eq_true, Bool.true_and]
  by_cases hsw : s = w
  ·subst hsw; rfl
  rw [beq_eq_false_iff_ne.2 hsw, beq_eq_false_iff_ne.2 (Ne.symm hsw)]
theorem Om : Gj = He words := by kernel_rfl
theorem Sg : ∀ w ∈ words, (32 : UInt8) ∉ w := by decide
theorem Sh (s : Str) : Lib.contains s [32] = s.contains 32 := by
 induction s with
 | nil => rfl
 | cons b l ih =>
  rw [contains_cons, ih, List.contains_cons]
  congr 1
  simp [List.isPrefixOf]
theorem N2 (s : Str) (h1 : s ≠ []) (h2 : (32 : UInt8) ∉ s) : Db s = K5 s := by
 unfold Db
 rw [Sh, Om, Fe s h2 words Sg]
 have e1 : (s == []) = false := by simpa using h1
 have e2 : s.contains 32 = false := by simpa using h2
 rw [e1, e2]
 rfl
set_option maxRecDepth 8000
theorem ck {p : UInt8 → Bool} (h : ((List.range 256).all fun n => p (UInt8.ofNat n)) = true) (c : UInt8) : p c = true := by
 have := List.all_eq_true.1 h c.toNat (List.mem_range.2 c.toNat_lt)
 simpa using this
theorem V6 (c : UInt8) : tails.contains c = Mn c := by
 have := ck (p := fun c => tails.contains c == Mn c) (by kernel_rfl) c
 simpa using this
theorem Qw (c : UInt8) : letters.contains c = Gi c := by
 have := ck (p := fun c => letters.contains c == Gi c) (by kernel_rfl) c
 simpa using this
theorem V7 : Mn 32 = false := by kernel_rfl
theorem W3 (s of : Str) : (Jf s of == (s.length : Int)) = s.all (of.contains ·) := by
 unfold Jf Lib.trimLeftS
 induction s with
 | nil => rfl
 | cons c r ih =>
  rw [List.dropWhile_cons, List.all_cons]
  cases hc : of.contains c with
  | true =>
   simp only [if_true, Bool.true_and]
   rw [← ih, Bool.eq_iff_iff]
   have := (List.dropWhile_sublist (fun x => of.contains x) (l := r)).length_le
   simp only [beq_iff_eq, List.length_cons]
   omega
  | false =>
   simp only [Bool.false_eq_true, if_false, Bool.false_and]
   rw [beq_eq_false_iff_ne]
   simp only [List.length_cons]
   omega
theorem N3 (s : Str) : Dg s = Je s := by
 cases s with
 | nil => rfl
 | cons c r =>
  unfold Dg
  rw [W3]
  have e1 : ((c :: r).all fun x => tails.contains x) = (c :: r).all Mn := by
   congr 1
   funext x
   exact V6 x
  have e2 : (Jf ((c :: r).take 1) letters == 1) = Gi c := by
   have := W3 [c] letters
   rw [← Qw c]
   simpa using this
  rw [e1, e2]
  have e3 : ((c :: r : Str) == []) = false := rfl
  have e4 : decide (((c :: r).length : Int) ≤ 16) = decide ((c :: r).length ≤ 16) := by
   rw [decide_eq_decide]; omega
  rw [e3, e4]
  show _ = (decide ((c :: r).length ≤ 16) && Gi c && !K5 (c :: r) && (c :: r).all Mn)
  cases ha : (c :: r).all Mn with
  | false => simp
  | true =>
   have hb : (32 : UInt8) ∉ (c :: r) := fun hm => by
    have := List.all_eq_true.1 ha 32 hm
    rw [V7] at this
    cases this
   rw [N2 _ (by simp) hb]
   simp
theorem V8 (s : Str) : Bb (D7 s) = Je s := by
 have e : Aq 1 (D7 s) = [(1, D7 s)] := by rw [E8]; rfl
 unfold Bb
 rw [e]
 show ((List.range 1).all (goM (D7 s))) = _
 have g : goM (D7 s) 0 = C8 (D7 s) := by
  unfold goM
  rw [e]
  simp
 simp only [List.range_succ, List.range_zero, List.nil_append, List.all_cons, List.all_nil, Bool.and_true]
 rw [g, ← N3]
 simp [C8, D7, Expr.op, Expr.val, Expr.text, Expr.kids, Gr]
theorem Qx (k : Int) : (F7 k == []) = (decide (k < 1) || decide ((3 : Int) < k)) := by
 unfold F7
 by_cases h : k < 1 ∨ 3 < k
 ·rw [if_pos h]
  have : (decide (k < 1) || decide ((3 : Int) < k)) = true := by simpa using h
  rw [this]; rfl
 rw [if_neg h]
 have : (decide (k < 1) || decide ((3 : Int) < k)) = false := by simp; omega
 rw [this]
 have hk : k = 1 ∨ k = 2 ∨ k = 3 := by omega
 rcases hk with rfl | rfl | rfl <;> rfl
theorem W4 (c : List Col) : Fd c = bo c := by
 unfold Fd bo
 congr 1
 funext x
 unfold Is l3
 rw [V8, Qx, ← Bool.or_assoc (!Je x.1.name)]
set_option maxRecDepth 4000
def A9 (l : List Tok) (i : Nat) : Tok := l.getD i ⟨0, [], 0⟩
theorem It {l : List Tok} {i : Nat} (h : i < l.length) : (l.map Er)[i]? = some (Er (A9 l i)) := by
 rw [List.getElem?_map, List.getElem?_eq_getElem h]
 unfold A9
 rw [List.getD_eq_getElem?_getD, List.getElem?_eq_getElem h]
 rfl
end Go.SX.Nb
