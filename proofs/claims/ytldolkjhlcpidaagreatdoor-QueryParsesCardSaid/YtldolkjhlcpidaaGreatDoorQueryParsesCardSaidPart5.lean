/- Texts on the way to this: QueryParses answers true for whatever it is handed: any source of up to 2000 bytes is parsed as the reference says, or the first fault is told; what is parsed is right, and printed it is parsed as the same. (part 5) -/
import Derived.Test.YtldolkjhlcpidaaGreatDoorQueryParsesCardSaidPart4
set_option linter.all false
namespace Go.SX.Nb
open Go Go.SX Go.Proofs
variable [ErrAt]
set_option maxRecDepth 4000
def wAt (s : Str) (k : Nat) : Int × Str × Int × Int := Aq (s.drop k)
theorem Ev {f k : Nat} {s : Str} (h : s ≠ []) : Cj (f + 1) k s = (⟨(Aq s).1, (Aq s).2.1, k⟩, (Aq s).2.2.2) :: (if (Aq s).2.2.2 == 0 then Cj f (k + (Aq s).2.2.1.toNat + gapM (s.drop (Aq s).2.2.1.toNat)) ((s.drop (Aq s).2.2.1.toNat).drop (gapM (s.drop (Aq s).2.2.1.toNat))) else []) := by
 rw [Cj, if_neg (by simpa using h)]
/-- Where the reader is, with k words behind it. -/
def J0 (s : Str) (k p : Nat) : Prop := (∃ f, (s.drop p).length < f ∧ (Ax s).drop k = Cj f p (s.drop p)) ∧ p ≤ s.length ∧ ∀ j, j < k → ∃ it, (Ax s)[j]? = some it ∧ it.2 = 0
theorem Zx (s : Str) : J0 s 0 (gapM s) := ⟨⟨s.length + 1, by rw [List.length_drop]; omega, by rw [List.drop_zero]; rfl⟩, Uc s, fun j hj => by omega⟩
theorem ig {s : Str} {k p : Nat} (h : J0 s k p) : k ≤ (Ax s).length := by
 refine Classical.byContradiction fun hn => ?_
 obtain ⟨it, hit, _⟩ := h.2.2 (Ax s).length (by omega)
 rw [List.getElem?_eq_none (Nat.le_refl _)] at hit
 cases hit
theorem Sb {s : Str} {k p : Nat} (h : J0 s k p) (hp : s.length ≤ p) : k = (Ax s).length ∧ ∀ it ∈ Ax s, it.2 = 0 := by
 have hl := ig h
 obtain ⟨⟨f, _, hd⟩, _, h0⟩ := h
 have e : s.drop p = [] := by rw [List.drop_eq_nil_iff]; exact hp
 rw [e] at hd
 have : (Ax s).drop k = [] := by rw [hd]; cases f <;> rfl
 rw [List.drop_eq_nil_iff] at this
 have hk : k = (Ax s).length := by omega
 refine ⟨hk, fun it hit => ?_⟩
 obtain ⟨j, hj, rfl⟩ := List.mem_iff_getElem.1 hit
 obtain ⟨it', h1, h2⟩ := h0 j (by omega)
 rw [List.getElem?_eq_getElem hj] at h1
 injection h1 with h1
 rw [h1]; exact h2
theorem L8 {s : Str} {k p : Nat} (h : J0 s k p) (hp : p < s.length) : ∃ f, (s.drop p).length < f + 1 ∧ (Ax s).drop k = Cj (f + 1) p (s.drop p) ∧ s.drop p ≠ [] := by
 obtain ⟨⟨f, hf, hd⟩, _, _⟩ := h
 obtain ⟨g, rfl⟩ : ∃ g, f = g + 1 := ⟨f - 1, by omega⟩
 exact ⟨g, hf, hd, fun e => by rw [List.drop_eq_nil_iff] at e; omega⟩
theorem Fl {s : Str} {k p : Nat} (h : J0 s k p) (hp : p < s.length) : (Ax s)[k]? = some (⟨(wAt s p).1, (wAt s p).2.1, p⟩, (wAt s p).2.2.2) := by
 obtain ⟨f, _, hd, hne⟩ := L8 h hp
 rw [Ev hne] at hd
 have := congrArg (·[0]?) hd
 unfold wAt
 simpa using this
theorem Zy {s : Str} {k p : Nat} (h : J0 s k p) (hp : p < s.length) (he : (wAt s p).2.2.2 = 0) : ∃ n : Nat, (wAt s p).2.2.1 = (n : Int) ∧ 1 ≤ n ∧ p + n ≤ s.length ∧ J0 s (k + 1) (p + n + gapM (s.drop (p + n))) := by
 have hi := Fl h hp
 obtain ⟨f, hf, hd, hne⟩ := L8 h hp
 obtain ⟨n, hn, h1, h2⟩ := Lu (s := s.drop p) (by rw [List.length_drop]; omega) he
 rw [List.length_drop] at h2 hf
 have hg := Uc (s.drop (p + n))
 rw [List.length_drop] at hg
 refine ⟨n, hn, h1, by omega, ⟨f, by rw [List.length_drop]; omega, ?_⟩, by omega, fun j hj => ?_⟩
 ·rw [Ev hne] at hd
  have := congrArg (·.drop 1) hd
  simp only [List.drop_drop, List.drop_succ_cons, List.drop_zero] at this
  unfold wAt at he
  rw [this, hn, he]
  simp only [beq_self_eq_true, if_true, Int.toNat_natCast, List.drop_drop]
 rcases Nat.lt_or_ge j k with h' | h'
 ·exact h.2.2 j h'
 have : j = k := by omega
 subst this
 exact ⟨_, hi, he⟩
theorem c77 (l : Nat) (s : Str) (hs : s.length ≤ 1048576) (U F : Nat → List AObj) (hlen : ∀ k, (U k).length = (U 0).length) (hll : l < (U 0).length)
  (hy : ∀ k it, (Ax s)[k]? = some it → AYield Tryz.prog l [D0 it.1, A3 it.2] (U k) (fun b H' => if it.2 = 0 then b = true ∧ H' = U (k + 1) else b = false ∧ H' = F k)) : ACall Tryz.prog 77 [.yield l, .ro [A7 s]] (U 0) (fun r H' => ((∀ it ∈ Ax s, it.2 = 0) ∧ H' = U (Ax s).length) ∨ ∃ k it, (Ax s)[k]? = some it ∧ it.2 ≠ 0 ∧ (∀ j, j < k → ∃ it', (Ax s)[j]? = some it' ∧ it'.2 = 0) ∧ H' = F k) := by
 refine ACall.body [] [0, 1] Tryz.func77 Tryz.ntmps77 (fun d => ?_)
 refine gj ?_;refine R.call Tryz.call78 (c78 s hs _) ?_;refine B3 ?_;refine R.fin [0, 1, 3] ?_
 refine AW.loopC (α := Nat × Nat) (fun x => ⟨44, A5 0 (.yield l) (A5 1 (.ro [A7 s]) (A5 3 (A3 (x.2 : Nat)) (fun _ => .any))), U x.1, [], [], none⟩) (fun x => J0 s x.1 x.2) (fun x => s.length - x.2) (0, gapM s) (Zx s) (StLe.refl _) rfl (fun x hx => ?_)
 obtain ⟨k, p⟩ := x
 simp only at hx ⊢
 refine Z8 ?_;refine Ff ?_;refine R.slen jU ?_;refine R.lss ?_;refine R.fin [0, 1, 3, 13] ?_
 refine W.cond (fun ht13 => ?_) (fun ht13 => ?_)
 ·have hpl : p < s.length := by simpa using ht13
  refine Ji ?_;refine gj ?_;refine C3 ?_;refine R.scutL p jU hx.2.1 (Nat.le_refl _) ?_
  refine R.call Tryz.call79 (c79 (s.drop p) (by rw [List.length_drop]; omega) (by rw [List.length_drop]; omega) _) ?_
  refine Z78 ?_;refine Z25 ?_;refine zy ?_;refine R.fin [0, 1, 3, 4, 5, 6, 7] ?_;refine Z8 ?_;refine Z53 ?_;refine C3 ?_;refine W0 ?_;refine C3 ?_;refine R.yield0 (hy k _ (Fl hx hpl)) ?_
  intro b V hV hb
  refine R.not ?_;refine Z14 ?_;refine G.neq ?_;refine H7 ?_;refine R.fin [0, 1, 3, 6, 40] ?_
  refine W.cond (fun ht40 => ?_) (fun ht40 => ?_)
  ·have hbe : (Aq (s.drop p)).2.2.2 ≠ 0 ∧ V = F k := by
    split at hb
    ·rename_i h0
     obtain ⟨rfl, _⟩ := hb
     have h0' : (Aq (s.drop p)).2.2.2 = 0 := h0
     simp [h0'] at ht40
    rename_i h0
    exact ⟨h0, hb.2⟩
   refine AW.ret ?_;refine K.thR ?_;refine Ys ?_;exact K.fin .nores (hp := .inr ⟨k, _, Fl hx hpl, hbe.1, hx.2.2, hbe.2⟩)
  have hbe : (Aq (s.drop p)).2.2.2 = 0 ∧ V = U (k + 1) := by
   split at hb
   ·rename_i h0
    exact ⟨h0, hb.2⟩
   obtain ⟨rfl, _⟩ := hb
   simp at ht40
  obtain ⟨n, hn, hn1, hnl, hnx⟩ := Zy hx hpl hbe.1
  unfold wAt at hn
  rw [hn]
  have hgl := Uc (s.drop (p + n))
  rw [List.length_drop] at hgl
  refine Z4 ?_;refine Z5 ?_;refine C3 ?_;refine Z23 ?_;refine R.fin [0, 1, 3] ?_;refine Z19 ?_;refine Z5 ?_;refine rb ?_;refine R.scutL (p + n) jU hnl (Nat.le_refl _) ?_
  refine R.call Tryz.call78 (c78 (s.drop (p + n)) (by rw [List.length_drop]; omega) _) ?_
  refine Z23 ?_;refine R.fin [0, 1, 3] ?_;exact K.lpN (k + 1, p + n + gapM (s.drop (p + n))) hnx (by show s.length - _ < s.length - p; omega) (StCut.of_eq (by rw [hbe.2]; simp))
 have hpl : s.length ≤ p := by simpa using ht13
 obtain ⟨hk, hz⟩ := Sb hx hpl
 refine Z40 ?_;refine K.lpE ?_;exact K.finN .nores (hp := .inl ⟨hz, by rw [hk]⟩)

theorem c46 (s : Str) (Hp : List AObj) : AFun Tryz.prog 46 [A7 s] Hp (.fn (.func 77) [] [.ro [A7 s]]) := by
 refine ACall.body [.tmp 2] [0] Tryz.func46 Tryz.ntmps46 (fun d => ?_)
 refine lj ?_;refine R.makeFunc ?_;exact qr

def A6 (s : Str) : List Tok × Int × Nat := if 4000 < s.length then ([], 3, 0) else
 match (Ax s).find? (fun it => it.2 != 0) with
 | some it => ([], it.2, it.1.at_)
 | none => ((Ax s).map (·.1) ++ [⟨0, [], s.length⟩], 0, 0)
theorem rx {s : Str} {k : Nat} {it : Tok × Int} (hit : (Ax s)[k]? = some it) (he : it.2 ≠ 0) (h0 : ∀ j, j < k → ∃ it', (Ax s)[j]? = some it' ∧ it'.2 = 0) : (Ax s).find? (fun it => it.2 != 0) = some it := by
 rw [List.find?_eq_some_iff_getElem]
 obtain ⟨hk, e⟩ := List.getElem?_eq_some_iff.1 hit
 refine ⟨by simpa using he, k, hk, e, fun j hj => ?_⟩
 obtain ⟨it', h1, h2⟩ := h0 j hj
 rw [List.getElem?_eq_getElem (by omega)] at h1
 injection h1 with h1
 rw [h1, h2]; rfl
theorem Wb {s : Str} (h : ∀ it ∈ Ax s, it.2 = 0) : (Ax s).find? (fun it => it.2 != 0) = none := by
 rw [List.find?_eq_none]
 intro it hit
 simp [h it hit]
def Sc (s : Str) (k : Nat) : Int × Nat := match (Ax s)[k]? with | some it => (it.2, it.1.at_) | none => (0, 0)
theorem Pu : ∀ (f k : Nat) (s : Str), (Cj f k s).length ≤ f
 | 0, _, _ => Nat.zero_le _
 | f + 1, k, s => by
  rw [Cj]
  split
  ·exact Nat.zero_le _
  rw [List.length_cons]
  split
  ·have := Pu f (k + (Aq s).2.2.1.toNat + gapM (s.drop (Aq s).2.2.1.toNat)) ((s.drop (Aq s).2.2.1.toNat).drop (gapM (s.drop (Aq s).2.2.1.toNat)))
   omega
  simp
theorem Pv (s : Str) : (Ax s).length ≤ s.length + 1 := Pu _ _ _
def Dw (s : Str) (k : Nat) : List Tok := ((Ax s).take k).map (·.1)
theorem Ew (s : Str) (k : Nat) : (Dw s k).length ≤ s.length + 1 := by
 have := Pv s
 unfold Dw
 rw [List.length_map, List.length_take]
 omega
theorem Pw {s : Str} {k : Nat} {it : Tok × Int} (hit : (Ax s)[k]? = some it) : Dw s (k + 1) = Dw s k ++ [it.1] := by
 unfold Dw
 rw [List.take_succ, hit, List.map_append]
 rfl
theorem ii (s : Str) : Dw s (Ax s).length = (Ax s).map (·.1) := by unfold Dw; rw [List.take_length]
theorem Sd {s : Str} {k : Nat} {it : Tok × Int} (hl4 : ¬ 4000 < s.length) (hit : (Ax s)[k]? = some it) (he : it.2 ≠ 0) (h0 : ∀ j, j < k → ∃ it', (Ax s)[j]? = some it' ∧ it'.2 = 0) : A6 s = ([], it.2, it.1.at_) := by
 unfold A6
 rw [if_neg hl4, rx hit he h0]
theorem Wc {s : Str} (hl4 : ¬ 4000 < s.length) (hz : ∀ it ∈ Ax s, it.2 = 0) : A6 s = (Dw s (Ax s).length ++ [⟨0, [], s.length⟩], 0, 0) := by
 unfold A6
 rw [if_neg hl4, Wb hz, ii]
theorem c15 (s : Str) (hs : s.length ≤ 1048576) (Hp : List AObj) : AFun Tryz.prog 15 [A7 s] Hp (.tup [Np (A6 s).1, .agg [A3 (A6 s).2.1, A3 (A6 s).2.2]]) := by
 refine ACall.body [.cell 2 42, .cell 3 33] [0, 5, 6] Tryz.func15 Tryz.ntmps15 (fun d => ?_)
 refine Z28 ?_;refine J4 ?_;refine R.fin [0, 2, 3, 5, 6] ?_;refine Z8 ?_;refine Za ?_;refine R.fin [0, 2, 3, 5, 6, 9] ?_
 refine W.cond (fun ht9 => ?_) (fun ht9 => ?_)
 ·have hlm : A6 s = ([], 3, 0) := by unfold A6; rw [if_pos (by simp at ht9; omega)]
  refine B9 ?_;refine q9 ?_;refine R.nilOwn 0 3 ?_;refine Z88 ?_;refine K.thR ?_;exact K.fin (V.two (V.cell jA) (V.cellN jA jS)) ⟨by rw [hlm]; rfl, rfl⟩
 have hl4 : ¬ 4000 < s.length := by simp at ht9; omega
 refine Z4 ?_;refine Z28 ?_;refine R.fin [0, 2, 3, 4, 5, 6] ?_;refine Z29 ?_;refine R.nilOwn 2 3 ?_;refine C3 ?_;refine R.call Tryz.call46 (c46 s _) ?_;refine R.fin [0, 2, 3, 4, 5, 6, 12] ?_;refine AW.block ?_
 refine W.rangeV (m := 3) Tryz.call77 (fun FR as' bd' hFR has hbd => ?_)
 refine ⟨_, c77 (oid Hp.length 4) s hs (fun k => Hp ++ [AObj.cells 42 [AV.nil], AObj.cells 33 [A3 0, A3 0], AObj.cells 42 [AV.slice true 3 ((Dw s k).map D0)], AObj.defs, AObj.loop LoopState.ready none FR 32 #[13, 14] as' bd' (oid Hp.length 3)]) (fun k => Hp ++ [AObj.cells 42 [AV.nil], AObj.cells 33 [A3 (Sc s k).1, A3 (Sc s k).2], AObj.cells 42 [AV.slice true 3 ((Dw s k).map D0)], AObj.defs, AObj.loop LoopState.done (some Code.ret) FR 32 #[13, 14] as' bd' (oid Hp.length 3)]) (fun k => by simp) (by simp [oid]) (fun k it hit => ?_), ?_⟩
 ·generalize hV : Hp ++ [AObj.cells 42 [AV.nil], AObj.cells 33 [A3 0, A3 0], AObj.cells 42 [AV.slice true 3 ((Dw s k).map D0)], AObj.defs, AObj.loop LoopState.ready none FR 32 #[13, 14] as' bd' (oid Hp.length 3)] = V
  have hL : V[oid Hp.length 4]? = some (AObj.loop LoopState.ready none FR 32 #[13, 14] as' bd' (oid Hp.length 3)) := by rw [← hV, Ap]; rfl
  have hA0 : V[oid Hp.length 2]? = some (AObj.cells 42 [AV.slice true 3 ((Dw s k).map D0)]) := by rw [← hV, Ap]; rfl
  have hB0 : V[oid Hp.length 0]? = some (AObj.cells 42 [AV.nil]) := by rw [← hV, Ap]; rfl
  have hC0 : V[oid Hp.length 1]? = some (AObj.cells 33 [A3 0, A3 0]) := by rw [← hV, Ap]; rfl
  refine AYield.ofRound (pd := none) (fr := FR) (sz := 32) (ps := #[13, 14]) (df := oid Hp.length 3) (asg := as') (bd := bd') hL rfl (by decide) (fun d => ?_)
  subst hFR has hbd
  refine W.keep [2, 3, 4, 13, 14] ?_;refine B9 ?_;refine Z10 ?_;refine R.fin [2, 3, 4, 5, 14] ?_;refine Yw ?_;refine R.fin [2, 3, 4, 5, 6] ?_
  refine ⟨rfl, none, hL, ?_⟩
  generalize hbz : (AObj.loop LoopState.busy _ _ _ _ _ _ _) = bz
  have hA : (V.set (oid Hp.length 4) bz)[oid Hp.length 2]? = some (AObj.cells 42 [AV.slice true 3 ((Dw s k).map D0)]) := by rw [List.getElem?_set_ne (Ef (by decide))]; exact hA0
  have hB : (V.set (oid Hp.length 4) bz)[oid Hp.length 0]? = some (AObj.cells 42 [AV.nil]) := by rw [List.getElem?_set_ne (Ef (by decide))]; exact hB0
  have hC : (V.set (oid Hp.length 4) bz)[oid Hp.length 1]? = some (AObj.cells 33 [A3 0, A3 0]) := by rw [List.getElem?_set_ne (Ef (by decide))]; exact hC0
  refine AW.block ?_;refine Z8 ?_;refine R.neq ?_;refine R.fin [2, 3, 4, 5, 6, 16] ?_
  refine W.cond (fun ht16 => ?_) (fun ht16 => ?_)
  ·have hne : it.2 ≠ 0 := by simpa using ht16
   refine W.drawY [0, 0, 2, 7, 0, 31] [4] [.q 4 [] [], .s [] (some 0) [] []] (fun _ => V.set (oid Hp.length 4) bz) (fun _ => [AObj.cells 52 [A3 it.1.kind, A7 it.1.text, A3 it.1.at_]]) Ae (by kernel_rfl) rfl rfl (fun _ => rfl) ?_
   apply Y.q
   case h1 =>
    intro B hT hF
    refine D.move ?_;refine D.fieldAddrPtr (fo := 2) jU Tryz.sizeOf3 ?_;refine D.loadOwn (n := 0) jA ?_;exact wn
   case hTF => decide
   refine Y.storeUp (o := oid Hp.length 0) (ys := [.nil]) (t' := 42) (cs := [AV.nil]) (cs' := [AV.nil]) Tryz.sizeOf42 (fun _ _ => ⟨hB, (B5 hB).symm, rfl, by simp⟩) ?_;refine Y.tail (tn := [4]) (U := V.set (oid Hp.length 4) bz) ?_
   refine R.storeUp jS hC ?_ ?_
   ·simp
   refine Rf ?_;refine K.thR ?_;refine K.blR ?_
   subst hbz
   refine K.rdR (Vm hL (Ef (by decide))) ?_
   rw [if_neg hne]
   refine ⟨rfl, ?_⟩
   subst hV
   simp only [Ed, List.set_cons_succ, List.set_cons_zero]
   rw [show Sc s k = (it.2, it.1.at_) by unfold Sc; rw [hit]]
  have heq : it.2 = 0 := by simpa using ht16
  refine Z4 ?_;refine H8 ?_
  have hl3 := Ew s k
  refine R.loadUpT jA hA ?_;refine Kr ?_;refine W1 ?_
  refine R.append jU Tryz.type52 ?_ ?_ ?_
  ·simp [hl3, Tryz.t52]; omega
  ·simp [hl3, Tryz.t52]; omega
  refine R.storeUpT jS (Aa hA) ?_ ?_
  ·simp [or_imp, forall_and]
  refine R.fin [] ?_;refine K.blN ?_
  subst hbz
  refine K.rdN (vx hL (Ef (by decide)) (Ef (by decide))) ?_
  rw [if_pos heq]
  refine ⟨rfl, ?_⟩
  subst hV
  simp only [Ed, List.set_cons_succ, List.set_cons_zero]
  rw [Pw hit, List.map_append]
  rfl
 rintro r H' (⟨hz, rfl⟩ | ⟨k, it, hit, hne, h0, rfl⟩)
 ·refine ⟨Hp, _, _, _, rfl, rfl, fun h => h, ?_, rfl, by simp, ?_⟩
  ·intro o ho
   have : o = oid Hp.length 3 := by simpa using ho
   subst this
   rw [Ap]
   rfl
  refine Z19 ?_;refine B9 ?_;refine R.loadOwnT jA ?_;refine Z69 ?_;refine AA4 ?_
  refine R.append jU Tryz.type52 ?_ ?_ ?_
  ·have := Ew s (Ax s).length; simp [Tryz.t52]; omega
  ·have := Ew s (Ax s).length; simp [Tryz.t52]; omega
  refine ln ?_;refine R.storeOwnT jS ?_;refine Z88 ?_;exact K.fin (V.two (V.cell jA) (V.cellN jA jS)) ⟨by rw [Wc hl4 hz, Np, List.map_append]; rfl, rfl⟩ (hlow := by simp [or_imp, forall_and])
 refine ⟨Hp, _, _, _, rfl, rfl, fun h => h, ?_, rfl, by simp, ?_⟩
 ·intro o ho
  have : o = oid Hp.length 3 := by simpa using ho
  subst this
  rw [Ap]
  rfl
 refine W.nilOwn 0 3 ?_;refine AW.ret ?_;refine Z6 ?_;exact K.fin (V.two (V.cell jA) (V.cellN jA jS)) ⟨by rw [Sd hl4 hit hne h0, show Sc s k = (it.2, it.1.at_) by unfold Sc; rw [hit]]; rfl, rfl⟩

inductive Expr where
 | mk (op : Int) (text : Str) (val : Val) (kids : List Expr)
def Expr.op : Expr → Int | .mk o _ _ _ => o
def Expr.text : Expr → Str | .mk _ t _ _ => t
def Expr.val : Expr → Val | .mk _ _ v _ => v
def Expr.kids : Expr → List Expr | .mk _ _ _ k => k
mutual
def Af : Expr → AV
 | .mk o t v k => .agg [.v (.int .i64 o), .v (sv t), .v (.int .i64 v.kind), .v (.int .i64 v.n), .v (sv v.s), .slice false 6 (Mz k)]
def Mz : List Expr → List AV
  | [] => []
  | e :: r => Af e :: Mz r
 end
theorem Px : ∀ l, Mz l = l.map Af
 | [] => rfl
 | e :: r => by rw [Mz, Px r]; rfl
theorem A8 (e : Expr) : Af e = .agg [.v (.int .i64 e.op), .v (sv e.text), .v (.int .i64 e.val.kind), .v (.int .i64 e.val.n), .v (sv e.val.s), .slice false 6 (e.kids.map Af)] := by
 cases e with
 | mk o t v k => rw [Af, Px]; rfl
attribute [go_sem] A8
def Kh : Str := [32, 111, 114, 32, 32, 97, 110, 100, 32, 32, 61, 32, 33, 61, 32, 60, 32, 60, 61, 32, 62, 32, 62, 61, 32, 32, 43, 32, 45, 32, 38, 32, 32, 42, 32, 47, 32, 37, 32]
def Gr (v : Val) : Bool := v.kind == 0 && v.n == 0 && v.s == []
def Bk (e : Expr) : Bool :=
 if e.op == 1 then ((Bw e.val && decide (0 ≤ e.val.n)) && (e.text == [])) && ((e.kids.length : Int) == 0)
 else if e.op == 2 then (Gr e.val && Ch e.text) && ((e.kids.length : Int) == 0)
 else if e.op == 3 || e.op == 4 then (Gr e.val && (e.text == [])) && ((e.kids.length : Int) == 1)
 else if e.op == 5 then (Gr e.val && Ct e.text Kh) && ((e.kids.length : Int) == 2)
 else if e.op == 6 then Gr e.val && (B7 e.text == (e.kids.length : Int))
 else false
theorem c69 (e : Expr) (hs : e.text.length ≤ 1048576) (Hp : List AObj) : AFun Tryz.prog 69 [Af e] Hp (Ao (Bk e)) := by
 refine ACall.body [.tmp 2] [0] Tryz.func69 Tryz.ntmps69 (fun d => ?_)
 refine lj ?_;refine R.fieldAddrRo (off := 2) jU Tryz.sizeOf25 ?_;refine I7 ?_;refine W0 ?_;refine R.eqlAgg rn (Og e.val.kind e.val.n 0 0 e.val.s []) ?_;refine B3 ?_;refine R.fin [1, 3] ?_;refine Z29 ?_;refine Z13 ?_;refine R.fin [1, 3, 9] ?_;refine li ?_;refine R.fin [1, 3, 9, 10] ?_
 refine W.cond (fun ht10 => ?_) (fun ht10 => ?_)
 ·refine B9 ?_;refine R.fieldAddrRo (off := 2) jU Tryz.sizeOf25 ?_;refine I7 ?_;refine R.call Tryz.call99 (c99 e.val _) ?_;refine C3 ?_;refine G.fieldAddrRo (off := 2) jU Tryz.sizeOf25 ?_;refine G.fieldAddrRo (off := 1) jU Tryz.sizeOf2 ?_;refine G.loadRo jA ?_;refine G.geq ?_;refine Yp ?_;refine Z36 ?_;refine G.seql ?_;exact ky
 refine Z73 ?_;refine R.fin [1, 3, 9, 32] ?_
 refine W.cond (fun ht32 => ?_) (fun ht32 => ?_)
 ·refine Z31 ?_;refine Z36 ?_;refine G.call Tryz.call36 (fun hB => c36 e.text hs _) ?_;exact ky
 refine Z29 ?_;refine Z30 ?_;refine R.fin [1, 3, 9, 46] ?_
 refine W.cond (fun ht46 => ?_) (fun ht46 => ?_)
 ·refine Z4 ?_
  refine W.cond (fun ht46 => ?_) (fun ht46 => ?_)
  ·refine Z31 ?_;refine Z36 ?_;refine G.seql ?_;exact ky
  refine Z73 ?_;refine R.fin [1, 3, 9, 61] ?_
  refine W.cond (fun ht61 => ?_) (fun ht61 => ?_)
  ·refine Z31 ?_;refine Z36 ?_;exact zw
  refine Z73 ?_;refine R.fin [1, 3, 75] ?_
  refine W.cond (fun ht75 => ?_) (fun ht75 => ?_)
  ·refine AAe ?_;refine qi ?_;refine AA9 ?_;refine H.loadRo jA ?_;refine H.len jU ?_;refine D.tail ?_;exact x5
  refine Z34 ?_;exact AA0
 refine H8 ?_;refine Z30 ?_;refine R.fin [1, 3, 9, 46] ?_;refine K.thN ?_
 refine W.cond (fun ht46 => ?_) (fun ht46 => ?_)
 ·refine Z31 ?_;refine Z36 ?_;refine G.seql ?_;exact ky
 refine Z73 ?_;refine R.fin [1, 3, 9, 61] ?_
 refine W.cond (fun ht61 => ?_) (fun ht61 => ?_)
 ·refine Z31 ?_;refine Z36 ?_;exact zw
 refine Z73 ?_;refine R.fin [1, 3, 75] ?_
 refine W.cond (fun ht75 => ?_) (fun ht75 => ?_)
 ·refine AAe ?_;refine qi ?_;refine AA9 ?_;refine H.loadRo jA ?_;refine H.len jU ?_;refine D.tail ?_;exact x5
 refine Z34 ?_;exact AA0

mutual
def Az (d : Int) : Expr → List (Int × Expr)
 | .mk o t v k => (d, .mk o t v k) :: Au (d + 1) k
def Au (d : Int) : List Expr → List (Int × Expr)
  | [] => []
  | e :: r => Az d e ++ Au d r
 end
theorem H0 (d : Int) (e : Expr) : Az d e = (d, e) :: Au (d + 1) e.kids := by cases e; rfl
theorem I1 (d : Int) : ∀ a b, Au d (a ++ b) = Au d a ++ Au d b
 | [], b => rfl
 | e :: r, b => by rw [List.cons_append, Au, Au, I1 d r b, List.append_assoc]
theorem Wd (d : Int) (l : List Expr) {x : Nat} (h : x < l.length) : Au d (l.take (x + 1)) = Au d (l.take x) ++ Az d l[x] := by
 rw [List.take_succ_eq_append_getElem h, I1]
 simp [Au]
theorem Lv (d : Int) (l : List Expr) {x : Nat} (h : x < l.length) : Au d l = Au d (l.take x) ++ (Az d l[x] ++ Au d (l.drop (x + 1))) := by
 have e : l = l.take x ++ (l[x] :: l.drop (x + 1)) := by rw [← List.drop_eq_getElem_cons h, List.take_append_drop]
 conv => lhs; rw [e]
 rw [I1, Au]
mutual
def sizeE : Expr → Nat
 | .mk _ _ _ k => 1 + Bg k
def Bg : List Expr → Nat
  | [] => 0
  | e :: r => sizeE e + Bg r
 end
theorem E6 (e : Expr) : sizeE e = 1 + Bg e.kids := by cases e; rfl
theorem N0 : ∀ (l : List Expr) {x : Nat} (h : x < l.length), sizeE l[x] ≤ Bg l
 | e :: r, 0, _ => by simp only [List.getElem_cons_zero, Bg]; omega
 | e :: r, x + 1, h => by
  have := N0 r (x := x) (by simpa using h)
  simp only [List.getElem_cons_succ, Bg]
  omega
theorem We (e : Expr) {x : Nat} (h : x < e.kids.length) : sizeE e.kids[x] + 1 ≤ sizeE e := by
 have := N0 e.kids h
 rw [E6 e]
 omega
/-- Each node has few kids. -/
def okE : Nat → Expr → Prop
 | 0, _ => False
 | n + 1, e => e.text.length ≤ 1048576 ∧ e.kids.length ≤ 1048576 ∧ ∀ y ∈ e.kids, okE n y
/-- Who takes what a tree yields: item k is taken at U k; it goes on (go k) to U (k + 1), or ends at F k. Behind U k there may stand others' objects. -/
structure Takes (P : Program) (l : Nat) (L : List (Int × Expr)) (go : Nat → Bool) (U F : Nat → List AObj) (n0 : Nat) : Prop where
 lenU : ∀ k, (U k).length = n0
 lenF : ∀ k, (F k).length = n0
 lowU : ∀ k, ∀ x ∈ U k, ObjLow n0 x
 lowF : ∀ k, ∀ x ∈ F k, ObjLow n0 x
 lt : l < n0
 y : ∀ (X : List AObj) (k : Nat) (it : Int × Expr), L[k]? = some it → (∀ j, j < k → go j = true) → AYield P l [A3 it.1, Af it.2] (U k ++ X) (fun b H' => b = go k ∧ H' = (if go k then U (k + 1) else F k) ++ X)
theorem ObjLow.le {m m' : Nat} (h : m ≤ m') {x : AObj} (hx : ObjLow m x) : ObjLow m' x := by
 cases x with
 | cells t cs => exact fun y hy => (hx y hy).mono h
 | loop s pd fr sz ps as' bd df => exact ⟨fun s => (hx.1 s).mono h, Nat.lt_of_lt_of_le hx.2 h⟩
 | defs => trivial
 | dead => trivial
 | bld _ _ _ => trivial
 | gone => trivial
/-- What the walk over n items from k0 on comes to. -/
def Wf (go : Nat → Bool) (U F : Nat → List AObj) (k0 n : Nat) (X : List AObj) : AV → List AObj → Prop := fun r H' =>
 ((∀ j, j < n → go (k0 + j) = true) ∧ r = Ao true ∧ H' = U (k0 + n) ++ X) ∨ (∃ j, j < n ∧ (∀ i, i < j → go (k0 + i) = true) ∧ go (k0 + j) = false ∧ r = Ao false ∧ H' = F (k0 + j) ++ X)
mutual
theorem Ag (m : Nat) : ∀ e, Low m (Af e)
 | .mk o t v k => by
  rw [Af]
  refine .agg _ fun y hy => ?_
  simp only [List.mem_cons, List.mem_nil_iff, or_false] at hy
  rcases hy with rfl | rfl | rfl | rfl | rfl | rfl
  ·exact .v _
  ·exact .v _
  ·exact .v _
  ·exact .v _
  ·exact .v _
  exact low_slice.2 (Py m k)
theorem Py (m : Nat) : ∀ l, ∀ y ∈ Mz l, Low m y
  | [], y, hy => by cases hy
  | e :: r, y, hy => by
    rw [Mz] at hy
    rcases List.mem_cons.1 hy with rfl | h
    · exact Ag m e
    exact Py m r y h
 end
theorem Lw {V O A B own : List AObj} (h : V ++ O = A ++ (B ++ own)) (hl : V.length = (A ++ B).length) : V = A ++ B ∧ O = own := by
 rw [← List.append_assoc] at h
 exact List.append_inj h hl
theorem Oi {m : Nat} {A X : List AObj} (hA : ∀ x ∈ A, ObjLow m x) (hX : ∀ x ∈ X, ObjLow m x) : ∀ x ∈ A ++ X, ObjLow m x := fun x hx => by
 rcases List.mem_append.1 hx with h | h
 ·exact hA x h
 exact hX x h
theorem Zz {P : Program} {l : Nat} {L : List (Int × Expr)} {go : Nat → Bool} {U F : Nat → List AObj} {n0 k n K : Nat} {X own V O : List AObj} {r : AV} (T : Takes P l L go U F n0) (hV : V.length = (U K ++ X).length) (hp : Wf go U F k n (X ++ own) r (V ++ O)) :
  ∃ b, r = Ao b ∧ O = own ∧ (if b then (∀ j, j < n → go (k + j) = true) ∧ V = U (k + n) ++ X else ∃ j, j < n ∧ (∀ i, i < j → go (k + i) = true) ∧ go (k + j) = false ∧ V = F (k + j) ++ X) ∧ ((∀ x ∈ U K ++ X, ObjLow V.length x) → ∀ x ∈ V, ObjLow V.length x) := by
 have hn : n0 ≤ V.length := by rw [hV, List.length_append, T.lenU]; omega
 rcases hp with ⟨h1, h2, h3⟩ | ⟨j, hj, h1, h2, h3, h4⟩
 ·obtain ⟨e1, e2⟩ := Lw h3 (by rw [hV]; simp [T.lenU])
  refine ⟨true, h2, e2, ⟨h1, e1⟩, fun h => ?_⟩
  rw [e1] at h ⊢
  exact Oi (fun x hx => ObjLow.le (by rw [List.length_append, T.lenU]; omega) (T.lowU _ x hx)) (fun x hx => h x (List.mem_append_right _ hx))
 obtain ⟨e1, e2⟩ := Lw h4 (by rw [hV]; simp [T.lenU, T.lenF])
 refine ⟨false, h3, e2, ⟨j, hj, h1, h2, e1⟩, fun h => ?_⟩
 rw [e1] at h ⊢
 exact Oi (fun x hx => ObjLow.le (by rw [List.length_append, T.lenF]; omega) (T.lowF _ x hx)) (fun x hx => h x (List.mem_append_right _ hx))
theorem Wg (d : Int) (l : List Expr) {x : Nat} (h : x < l.length) : (Au d (l.take (x + 1))).length = (Au d (l.take x)).length + (Az d l[x]).length := by rw [Wd d l h, List.length_append]
theorem mc {d0 : Int} {e : Expr} {x : Nat} (h : x < e.kids.length) {j : Nat} {it : Int × Expr} (hj : (Az (d0 + 1) e.kids[x])[j]? = some it) : (Az d0 e)[1 + (Au (d0 + 1) (e.kids.take x)).length + j]? = some it := by
 rw [H0 d0 e, show 1 + (Au (d0 + 1) (e.kids.take x)).length + j = ((Au (d0 + 1) (e.kids.take x)).length + j) + 1 by omega, List.getElem?_cons_succ, Lv (d0 + 1) e.kids h, List.getElem?_append_right (by omega)]
 rw [show (Au (d0 + 1) (e.kids.take x)).length + j - (Au (d0 + 1) (e.kids.take x)).length = j by omega, List.getElem?_append_left (List.getElem?_eq_some_iff.1 hj).1]
 exact hj
theorem ij (d0 : Int) (e : Expr) {x : Nat} (h : x < e.kids.length) : 1 + (Au (d0 + 1) (e.kids.take x)).length + (Az (d0 + 1) e.kids[x]).length ≤ (Az d0 e).length := by
 rw [H0 d0 e, List.length_cons, Lv (d0 + 1) e.kids h]
 simp only [List.length_append]
 omega
theorem c98 {l : Nat} {L : List (Int × Expr)} {go : Nat → Bool} {U F : Nat → List AObj} {n0 : Nat} (T : Takes Tryz.prog l L go U F n0) : ∀ (n : Nat) (e : Expr), okE n e → ∀ (d0 : Int) (k0 : Nat) (X : List AObj), 0 ≤ d0 → d0 + n ≤ 1099511627776 → (∀ (j : Nat) (it : Int × Expr), (Az d0 e)[j]? = some it → L[k0 + j]? = some it) → (∀ j, j < k0 → go j = true) → ACall Tryz.prog 98 [Af e, A3 d0, .yield l] (U k0 ++ X) (Wf go U F k0 (Az d0 e).length X) := by
 intro n
 induction n with
 | zero => exact fun e h => h.elim
 | succ n ih =>
 intro e hok d0 k0 X hd hdn hit hgo
 have hlen0 : (U k0 ++ X).length = n0 + X.length := by rw [List.length_append, T.lenU]
 refine ACall.body [.tmp 6] [0, 1, 2] Tryz.func98 Tryz.ntmps98 (fun d => ?_)
 refine Z47 ?_;refine B3 ?_;refine R.fin [1, 2, 3] ?_;refine Vs ?_;refine I7 ?_
 refine R.yield0 (T.y X k0 (d0, e) (hit 0 _ (by rw [H0]; rfl)) hgo) ?_
 intro b Vv hV hb
 refine R.not ?_;refine R.fin [1, 2, 3, 13] ?_
 refine W.cond (fun ht13 => ?_) (fun ht13 => ?_)
 ·have hb' : b = false := by simpa using ht13
  subst hb'
  refine Z1 ?_;refine Z94 ?_;refine K.thR ?_;exact K.fin (V.one V.tmp) (Or.inr ⟨0, by rw [H0]; simp, fun i hi => by omega, hb.1.symm, rfl, by have := hb.2; rw [show go k0 = false from hb.1.symm] at this; exact this⟩)
 have hb' : b = true := by simpa using ht13
 subst hb'
 have hgo0 : go (k0 + 0) = true := hb.1.symm
 have hVe : Vv = U (k0 + 1) ++ X := by have := hb.2; rw [show go k0 = true from hb.1.symm] at this; exact this
 subst hVe
 have h0x : 0 ≤ e.kids.length ∧ ∀ j, j < 1 + (Au (d0 + 1) (e.kids.take 0)).length → go (k0 + j) = true := ⟨Nat.zero_le _, fun j hj => by
  have : j = 0 := by simp [Au] at hj; omega
  subst this
  exact hgo0⟩
 refine Zi ?_;refine Z33 ?_;refine Z7 ?_;refine R.fin [1, 2, 15, 16, 17] ?_
 refine AW.loopC (α := Nat) (fun x => ⟨28, A5 1 (A3 d0) (A5 2 (.yield l) (A5 15 (.slice false 6 (e.kids.map Af)) (A5 16 (A3 e.kids.length) (A5 17 (A3 (x : Nat)) (fun _ => .any))))), U (k0 + (1 + (Au (d0 + 1) (e.kids.take x)).length)) ++ X, [], [], none⟩) (fun x => x ≤ e.kids.length ∧ ∀ j, j < 1 + (Au (d0 + 1) (e.kids.take x)).length → go (k0 + j) = true) (fun x => e.kids.length - x) (0) h0x (StLe.of_eq (by simp [Au])) rfl (fun x hx => ?_)
 refine lh ?_;refine R.fin [1, 2, 15, 16, 17, 18] ?_
 refine W.condX (fun ht18 => ?_) (fun ht18 => ?_)
 ·have hlt : x < e.kids.length := by simpa using ht18
  have hkl := hok.2.1
  refine Z38 ?_;refine B9 ?_;refine qa ?_;refine Z10 ?_;refine R.fin [1, 2, 8, 15, 16, 17] ?_;refine Z20 ?_;refine C3 ?_;refine qg ?_
  refine R.callG Tryz.call98 (args := [Af e.kids[x], A3 (d0 + 1), .yield l]) (by rw [List.append_assoc]; exact ih e.kids[x] (hok.2.2 _ (List.getElem_mem hlt)) (d0 + 1) (k0 + (1 + (Au (d0 + 1) (e.kids.take x)).length)) (X ++ _) (by omega) (by omega) (fun j it hj => by have := hit _ it (mc hlt hj); rwa [← Nat.add_assoc] at this) (fun j hj => by rcases Nat.lt_or_ge j k0 with h | h; exact hgo j h; have := hx.2 (j - k0) (by omega); rwa [show k0 + (j - k0) = j by omega] at this)) ?_
  intro r Vv O hV hp
  obtain ⟨b, rfl, rfl, hc, hlowV⟩ := Zz T hV hp
  refine ⟨hlowV, fun o ho => by simp at ho, ?_⟩
  refine R.not ?_;refine R.fin [1, 2, 15, 16, 17, 26] ?_
  refine W.cond (fun ht26 => ?_) (fun ht26 => ?_)
  ·have hb' : b = false := by simpa using ht26
   subst hb'
   obtain ⟨j, hj, h1, h2, h3⟩ := hc
   refine Z1 ?_;refine Z94 ?_;refine Zc ?_
   have hil := ij d0 e hlt
   refine K.fin (V.one V.tmp) (Or.inr ⟨1 + (Au (d0 + 1) (e.kids.take x)).length + j, by omega, fun i hi => ?_, by rwa [Nat.add_assoc] at h2, rfl, by rwa [Nat.add_assoc] at h3⟩)
   rcases Nat.lt_or_ge i (1 + (Au (d0 + 1) (e.kids.take x)).length) with h | h
   ·exact hx.2 i h
   have := h1 (i - (1 + (Au (d0 + 1) (e.kids.take x)).length)) (by omega)
   rwa [show k0 + (1 + (Au (d0 + 1) (e.kids.take x)).length) + (i - (1 + (Au (d0 + 1) (e.kids.take x)).length)) = k0 + i by omega] at this
  have hb' : b = true := by simpa using ht26
  subst hb'
  obtain ⟨h1, h3⟩ := hc
  refine Z34 ?_;refine gk ?_;refine R.fin [1, 2, 15, 16, 17] ?_
  subst h3
  have hll := Wg (d0 + 1) e.kids hlt
  have e1 : k0 + (1 + (Au (d0 + 1) (e.kids.take (x + 1))).length) = k0 + (1 + (Au (d0 + 1) (e.kids.take x)).length) + (Az (d0 + 1) e.kids[x]).length := by omega
  refine K.lpN (x + 1) ⟨hlt, fun j hj => ?_⟩ (by omega) ?_
  ·rcases Nat.lt_or_ge j (1 + (Au (d0 + 1) (e.kids.take x)).length) with h | h
   ·exact hx.2 j h
   have := h1 (j - (1 + (Au (d0 + 1) (e.kids.take x)).length)) (by omega)
   rwa [show k0 + (1 + (Au (d0 + 1) (e.kids.take x)).length) + (j - (1 + (Au (d0 + 1) (e.kids.take x)).length)) = k0 + j by omega] at this
  simp only [e1]
  exact StCut.take (own := []) (fun _ => .refl _) (by repeat (first | exact F4 | refine F3 (by first | (simp [Ag]; done) | (have := T.lt; simp [T.lenU]; omega)) ?_)) (by simp) (by simp)
 have hxe : e.kids.take x = e.kids := List.take_of_length_le (by simp at ht18; omega)
 refine Z49 ?_;refine Z1 ?_;refine Z94 ?_
 have hl2 : (Az d0 e).length = 1 + (Au (d0 + 1) (e.kids.take x)).length := by rw [H0, hxe, List.length_cons]; omega
 exact K.fin (V.one V.tmp) (Or.inl ⟨fun j hj => hx.2 j (by omega), rfl, by rw [hl2]⟩)

abbrev Cw (e : Expr) : List AV := [.v (.int .i64 e.op), .v (sv e.text), .v (.int .i64 e.val.kind), .v (.int .i64 e.val.n), .v (sv e.val.s), .slice false 6 (e.kids.map Af)]
/-- What taking all of a tree comes to. -/
def Ia (go : Nat → Bool) (U F : Nat → List AObj) (n : Nat) (H' : List AObj) : Prop :=
 ((∀ j, j < n → go j = true) ∧ H' = U n) ∨ (∃ j, j < n ∧ (∀ i, i < j → go i = true) ∧ go j = false ∧ H' = F j)
theorem c97 {l : Nat} {e : Expr} {go : Nat → Bool} {U F : Nat → List AObj} {n0 : Nat} (T : Takes Tryz.prog l (Az 1 e) go U F n0) (n : Nat) (hok : okE n e) (hn : n ≤ 1048576) : ACall Tryz.prog 97 [.yield l, .ro (Cw e)] (U 0) (fun r H' => Ia go U F (Az 1 e).length H') := by
 refine ACall.body [] [0, 1] Tryz.func97 Tryz.ntmps97 (fun d => ?_)
 refine H8 ?_;refine I7 ?_;refine C3 ?_;refine R.callG Tryz.call98 (args := [Af e, A3 1, .yield l]) (c98 T n e hok 1 0 [] (by omega) (by omega) (fun j it hj => by rwa [Nat.zero_add]) (fun j hj => by omega)) ?_
 intro r Vv O hV hp
 have hO : O = [] := by
  have h1 : (Vv ++ O).length = n0 := by rcases hp with ⟨_, _, h⟩ | ⟨j, _, _, _, _, h⟩ <;> rw [h] <;> simp [T.lenU, T.lenF]
  have h2 := T.lenU 0
  rw [List.length_append, hV, h2] at h1
  exact List.eq_nil_of_length_eq_zero (by omega)
 subst hO
 rw [List.append_nil] at hp
 have hq : Ia go U F (Az 1 e).length Vv := by
  rcases hp with ⟨h1, _, h⟩ | ⟨j, h1, h2, h3, _, h⟩
  ·exact .inl ⟨fun j hj => by have := h1 j hj; rwa [Nat.zero_add] at this, by rw [h]; simp⟩
  exact .inr ⟨j, h1, fun i hi => by have := h2 i hi; rwa [Nat.zero_add] at this, by rwa [Nat.zero_add] at h3, by rw [h]; simp⟩
 refine ⟨fun h => ?_, fun o ho => by simp at ho, ?_⟩
 ·rcases hq with ⟨_, h⟩ | ⟨j, _, _, _, h⟩ <;> rw [h]
  ·rw [T.lenU]; exact T.lowU _
  rw [T.lenF]; exact T.lowF _
 refine R.fin [] ?_;exact K.finN .nores (hp := hq)

theorem c68 (e : Expr) (Hp : List AObj) : AFun Tryz.prog 68 [Af e] Hp (.fn (.func 97) [] [.ro (Cw e)]) := by
 refine ACall.body [.tmp 2] [0] Tryz.func68 Tryz.ntmps68 (fun d => ?_)
 refine lj ?_;refine R.makeFunc ?_;refine Z97 ?_;exact K.fin (V.one V.tmp) (hlow := by have := Ag Hp.length e; rw [A8] at this; simpa using this)

def goM (e : Expr) (k : Nat) : Bool := match (Az 1 e)[k]? with
 | some it => !((!Bk it.2 || decide ((30 : Int) < it.1)) || decide ((300 : Int) < (k : Int) + 1))
 | none => true
def E7 (e : Expr) : Bool := (List.range (Az 1 e).length).all (goM e)
mutual
theorem Se : ∀ (n : Nat) (e : Expr), okE n e → ∀ d, ∀ it ∈ Az d e, it.2.text.length ≤ 1048576
 | 0, _, h, _, _, _ => h.elim
 | n + 1, e, h, d, it, hit => by
  rw [H0] at hit
  rcases List.mem_cons.1 hit with rfl | h'
  ·exact h.1
  exact Sf n e.kids h.2.2 (d + 1) it h'
 termination_by n e => (n, 0)
theorem Sf : ∀ (n : Nat) (l : List Expr), (∀ y ∈ l, okE n y) → ∀ d, ∀ it ∈ Au d l, it.2.text.length ≤ 1048576
  | n, [], _, _, _, h => by cases h
  | n, e :: r, h, d, it, hit => by
    rw [Au] at hit
    rcases List.mem_append.1 hit with h' | h'
    · exact Se n e (h e (by simp)) d it h'
    exact Sf n r (fun y hy => h y (by simp [hy])) d it h'
  termination_by n l => (n, l.length + 1)
 end
theorem aa {U : List AObj} {i j : Nat} {x y : AObj} (h : U[i]? = some x) (hne : j ≠ i) : (U.set j y)[i]? = some x := by rw [List.getElem?_set_ne hne]; exact h
theorem yb {e : Expr} {k : Nat} {it : Int × Expr} (hit : (Az 1 e)[k]? = some it) (h : ∀ j, j < k → goM e j = true) : (k : Int) ≤ 300 := by
 rcases Nat.eq_zero_or_pos k with h0 | h0
 ·omega
 have hl := (List.getElem?_eq_some_iff.1 hit).1
 have := h (k - 1) (by omega)
 unfold goM at this
 rw [List.getElem?_eq_getElem (by omega)] at this
 simp at this
 omega
theorem Ud {e : Expr} {k : Nat} {it : Int × Expr} (hit : (Az 1 e)[k]? = some it) : goM e k = !((!Bk it.2 || decide ((30 : Int) < it.1)) || decide ((300 : Int) < (k : Int) + 1)) := by
 unfold goM; rw [hit]
theorem c37 (n : Nat) (e : Expr) (hok : okE n e) (hn : n ≤ 1048576) (Hp : List AObj) : AFun Tryz.prog 37 [Af e] Hp (Ao (E7 e)) := by
 refine ACall.body [.cell 2 4] [0, 4, 5] Tryz.func37 Tryz.ntmps37 (fun d => ?_)
 refine Z47 ?_;refine J4 ?_;refine R.fin [1, 2, 4, 5] ?_;refine B9 ?_;refine Z10 ?_;refine R.fin [1, 2, 3, 4, 5] ?_;refine Z29 ?_
 refine R.assumeLow (fun hlow => ?_)
 refine xl ?_;refine R.fin [2, 3, 4, 5, 7] ?_;refine AW.block ?_
 refine W.rangeV (m := 2) Tryz.call97 (fun FR as' bd' hFR has hbd => ?_)
 have hFRl : ∀ s, Low (Hp.length + 4) (FR s) := by
  intro s
  rw [hFR]
  refine Low.strip ?_
  revert s
  repeat (first | exact F4 | refine F3 (by simp [oid, Ag] <;> try omega) ?_)
 have hOl : ∀ {k : Nat}, ∀ x ∈ [AObj.cells 4 [Ao false], AObj.cells 3 [A3 (k : Nat)], AObj.defs, AObj.loop LoopState.ready none FR 23 #[8, 9] as' bd' (oid Hp.length 2)], ObjLow (Hp.length + 4) x := by
  intro k x hx
  simp only [List.mem_cons, List.mem_nil_iff, or_false] at hx
  rcases hx with rfl | rfl | rfl | rfl
  ·exact q8
  ·exact q8
  ·trivial
  exact rg
 have hOf : ∀ {k : Nat}, ∀ x ∈ [AObj.cells 4 [Ao false], AObj.cells 3 [A3 ((k : Nat) + 1)], AObj.defs, AObj.loop LoopState.done (some Code.ret) FR 23 #[8, 9] as' bd' (oid Hp.length 2)], ObjLow (Hp.length + 4) x := by
  intro k x hx
  simp only [List.mem_cons, List.mem_nil_iff, or_false] at hx
  rcases hx with rfl | rfl | rfl | rfl
  ·exact q8
  ·exact q8
  ·trivial
  exact rg
 refine ⟨fun _ H' => Ia (goM e) (fun k => Hp ++ [AObj.cells 4 [Ao false], AObj.cells 3 [A3 (k : Nat)], AObj.defs, AObj.loop LoopState.ready none FR 23 #[8, 9] as' bd' (oid Hp.length 2)]) (fun k => Hp ++ [AObj.cells 4 [Ao false], AObj.cells 3 [A3 ((k : Nat) + 1)], AObj.defs, AObj.loop LoopState.done (some Code.ret) FR 23 #[8, 9] as' bd' (oid Hp.length 2)]) (Az 1 e).length H', c97 (l := oid Hp.length 3) (go := goM e) (U := fun k => Hp ++ [AObj.cells 4 [Ao false], AObj.cells 3 [A3 (k : Nat)], AObj.defs, AObj.loop LoopState.ready none FR 23 #[8, 9] as' bd' (oid Hp.length 2)]) (F := fun k => Hp ++ [AObj.cells 4 [Ao false], AObj.cells 3 [A3 ((k : Nat) + 1)], AObj.defs, AObj.loop LoopState.done (some Code.ret) FR 23 #[8, 9] as' bd' (oid Hp.length 2)]) (n0 := Hp.length + 4) ⟨fun k => by simp, fun k => by simp, fun k x hx => ?_, fun k x hx => ?_, by simp [oid], fun X k it hit hgo => ?_⟩ n hok hn, ?_⟩
 ·exact lp
 ·exact Oi (fun x hx => ObjLow.le (by omega) (hlow x hx)) hOf x hx
 ·have hk3 := yb hit hgo
  generalize hV : (Hp ++ [AObj.cells 4 [Ao false], AObj.cells 3 [A3 (k : Nat)], AObj.defs, AObj.loop LoopState.ready none FR 23 #[8, 9] as' bd' (oid Hp.length 2)] ++ X) = V
  have hL : V[oid Hp.length 3]? = some (AObj.loop LoopState.ready none FR 23 #[8, 9] as' bd' (oid Hp.length 2)) := by rw [← hV, List.append_assoc, Ap]; rfl
  have hA0 : V[oid Hp.length 1]? = some (AObj.cells 3 [A3 (k : Nat)]) := by rw [← hV, List.append_assoc, Ap]; rfl
  have hB0 : V[oid Hp.length 0]? = some (AObj.cells 4 [Ao false]) := by rw [← hV, List.append_assoc, Ap]; rfl
  refine AYield.ofRound (pd := none) (fr := FR) (sz := 23) (ps := #[8, 9]) (df := oid Hp.length 2) (asg := as') (bd := bd') hL rfl (by decide) (fun d => ?_)
  subst hFR has hbd
  refine W.keep [2, 3, 8, 9] ?_;refine Z1 ?_;refine R.fin [2, 3, 4, 9] ?_;refine H8 ?_;refine Z10 ?_;refine Rk ?_
  refine ⟨rfl, none, hL, ?_⟩
  generalize hbz : (AObj.loop LoopState.busy _ _ _ _ _ _ _) = bz
  have hA : (V.set (oid Hp.length 3) bz)[oid Hp.length 1]? = some (AObj.cells 3 [A3 (k : Nat)]) := by rw [List.getElem?_set_ne (Ef (by decide))]; exact hA0
  have hB : (V.set (oid Hp.length 3) bz)[oid Hp.length 0]? = some (AObj.cells 4 [Ao false]) := by rw [List.getElem?_set_ne (Ef (by decide))]; exact hB0
  refine AW.block ?_;refine B9 ?_;refine R.loadUp jA hA ?_;refine R.add64 ?_
  refine R.storeUp jS hA ?_ ?_
  ·simp
  refine Rk ?_;refine Z20 ?_;refine R.call Tryz.call69 (c69 it.2 (Se n e hok 1 it (List.mem_of_getElem? hit)) _) ?_;refine R.not ?_;refine Z14 ?_;refine G.gtr ?_;refine Vq ?_;refine G.loadUp jA (Aa hA) ?_;refine ld ?_;refine R.fin [2, 22] ?_
  refine W.cond (fun ht22 => ?_) (fun ht22 => ?_)
  ·have hgf : goM e k = false := by rw [Ud hit, ht22]; rfl
   refine B9 ?_
   refine R.storeUp jS (aa (j := oid Hp.length 1) hB (Ef (by decide))) ?_ ?_
   ·simp
   refine Rf ?_;refine K.blR ?_
   subst hbz
   refine K.rdR (vx hL (Ef (by decide)) (Ef (by decide))) ?_
   refine ⟨hgf.symm, ?_⟩
   rw [if_neg (by rw [hgf]; simp)]
   subst hV
   simp only [List.append_assoc, Ed, List.cons_append, List.nil_append, List.set_cons_succ, List.set_cons_zero]
   try rfl
  have hgt : goM e k = true := by rw [Ud hit, ht22]; rfl
  refine AW.skip ?_;refine K.blN ?_
  subst hbz
  refine K.rdN (Vm hL (Ef (by decide))) ?_
  refine ⟨hgt.symm, ?_⟩
  rw [if_pos hgt]
  subst hV
  simp only [List.append_assoc, Ed, List.cons_append, List.nil_append, List.set_cons_succ, List.set_cons_zero]
  try rfl
 rintro r H' (⟨h1, rfl⟩ | ⟨j, hj, h1, h2, rfl⟩)
 ·refine ⟨Hp, _, _, _, rfl, rfl, fun h => h, ?_, rfl, by simp, ?_⟩
  ·intro o ho
   have : o = oid Hp.length 2 := by simpa using ho
   subst this
   rw [Ap]
   rfl
  refine Z19 ?_;refine B9 ?_;refine Z22 ?_;exact K.fin (V.one (V.cell jA)) ⟨by rw [show E7 e = true from List.all_eq_true.2 fun j hj => h1 j (List.mem_range.1 hj)], rfl⟩
 refine ⟨Hp, _, _, _, rfl, rfl, fun h => h, ?_, rfl, by simp, ?_⟩
 ·intro o ho
  have : o = oid Hp.length 2 := by simpa using ho
  subst this
  rw [Ap]
  rfl
 refine AW.ret ?_;refine Z6 ?_;exact K.fin (V.one (V.cell jA)) ⟨by rw [show E7 e = false from List.all_eq_false.2 ⟨j, List.mem_range.2 hj, by rw [h2]; simp⟩], rfl⟩

def D6 (s : Str) : Expr := .mk 2 s ⟨0, 0, []⟩ []
theorem Wh (s : Str) : Le (.agg [A3 2, A7 s, A3 0, A3 0, A7 [], .nil]) (Af (D6 s)) := by
 rw [A8]
 refine .agg _ _ rfl (by simp [AV.one, Value.oneCell', sv]) fun i y y' h1 h2 => ?_
 match i with
 | 0 => simp at h1 h2; subst h1; subst h2; exact .inl rfl
 | 1 => simp at h1 h2; subst h1; subst h2; exact .inl rfl
 | 2 => simp at h1 h2; subst h1; subst h2; exact .inl rfl
 | 3 => simp at h1 h2; subst h1; subst h2; exact .inl rfl
 | 4 => simp at h1 h2; subst h1; subst h2; exact .inl rfl
 | 5 => simp at h1 h2; subst h1; subst h2; exact .inr ⟨rfl, 6, rfl⟩
 | i + 6 => simp at h1
theorem Wi (s : Str) (h : s.length ≤ 1048576) : okE 1 (D6 s) := ⟨h, by simp [D6, Expr.kids], fun y hy => by cases hy⟩
theorem contains_nil (s : Str) (h : s ≠ []) : Lib.contains [] s = false := by
 cases s with
 | nil => exact absurd rfl h
 | cons a r => rfl
theorem contains_cons (b : UInt8) (l s : Str) : Lib.contains (b :: l) s = (s.isPrefixOf (b :: l) || Lib.contains l s) := by
 unfold Lib.contains
 have hge := Lib.index_ge l s
 rw [Lib.index]
 by_cases hp : s.isPrefixOf (b :: l) = true
 ·rw [if_pos hp, hp]; rfl
 rw [if_neg hp]
 have hp' : s.isPrefixOf (b :: l) = false := Bool.eq_false_iff.2 hp
 rw [hp', Bool.false_or]
 by_cases hi : Lib.index l s = -1
 ·rw [hi]; rfl
 have : (Lib.index l s == -1) = false := by simpa using hi
 rw [this, if_neg (by simp)]
 rw [decide_eq_decide]
 omega
/-- Words between blanks. -/
def He : List Str → Str
 | [] => [32]
 | w :: r => 32 :: (w ++ He r)
theorem Sg (sub : Str) : ∀ (w R : Str), (32 : UInt8) ∉ w → Lib.contains (w ++ R) (32 :: sub) = Lib.contains R (32 :: sub)
 | [], R, _ => rfl
 | b :: w, R, h => by
  have hb : b ≠ 32 := fun e => h (by simp [e])
  rw [List.cons_append, contains_cons, Sg sub w R (fun hm => h (by simp [hm]))]
  have : (32 :: sub).isPrefixOf (b :: (w ++ R)) = false := by
   simp [List.isPrefixOf, Ne.symm hb]
  rw [this, Bool.false_or]
theorem Nq : ∀ (s w : Str) (R : Str), (32 : UInt8) ∉ s → (32 : UInt8) ∉ w → (s ++ [32]).isPrefixOf (w ++ 32 :: R) = (s == w)
 | [], [], R, _, _ => by simp [List.isPrefixOf]
 | [], b :: w, R, _, hw => by
  have hb : (32 : UInt8) ≠ b := fun e => hw (by simp [e])
  simp [List.isPrefixOf, hb]
 | a :: s, [], R, hs, _ => by
  have hb : a ≠ (32 : UInt8) := fun e => hs (by simp [e])
  simp [List.isPrefixOf, hb]
 | a :: s, b :: w, R, hs, hw => by
  have ih := Nq s w R (fun h => hs (by simp [h])) (fun h => hw (by simp [h]))
  rw [List.cons_append, List.cons_append, List.isPrefixOf, ih]
  rfl
theorem Wj : ∀ ws, ∃ R, He ws = 32 :: R
 | [] => ⟨[], rfl⟩
 | w :: r => ⟨_, rfl⟩
theorem Hf (s : Str) (hs : (32 : UInt8) ∉ s) : ∀ (ws : List Str), (∀ w ∈ ws, (32 : UInt8) ∉ w) → Lib.contains (He ws) ([32] ++ s ++ [32]) = ws.any (· == s)
 | [], _ => by
  rw [He, contains_cons, contains_nil _ (by simp), Bool.or_false]
  cases s <;> simp [List.isPrefixOf]
 | w :: r, h => by
  have hw := h w (by simp)
  obtain ⟨R, hR⟩ := Wj r
  have ih := Hf s hs r (fun x hx => h x (by simp [hx]))
  have e1 : ([32] ++ s ++ [32] : Str) = 32 :: (s ++ [32]) := rfl
  rw [He, contains_cons, e1, Sg _ w _ hw, ← e1, ih, List.any_cons]
  congr 1
  rw [e1, hR]
  have := Nq s w R hs hw
  rw [List.isPrefixOf, this]
  simp only [beq_self_eq_true, Bool.true_and]
  by_cases hsw : s = w
  ·subst hsw; rfl
  rw [beq_eq_false_iff_ne.2 hsw, beq_eq_false_iff_ne.2 (Ne.symm hsw)]
theorem Rt : Ig = He words := by kernel_rfl
theorem Nr : ∀ w ∈ words, (32 : UInt8) ∉ w := by decide
theorem Pz (s : Str) : Lib.contains s [32] = s.contains 32 := by
 induction s with
 | nil => rfl
 | cons b l ih =>
  rw [contains_cons, ih, List.contains_cons]
  congr 1
  simp [List.isPrefixOf]
theorem Jn (s : Str) (h1 : s ≠ []) (h2 : (32 : UInt8) ∉ s) : Bs s = Bj s := by
 unfold Bs
 rw [Pz, Rt, Hf s h2 words Nr]
 have e1 : (s == []) = false := by simpa using h1
 have e2 : s.contains 32 = false := by simpa using h2
 rw [e1, e2]
 rfl
set_option maxRecDepth 8000
theorem Ik {p : UInt8 → Bool} (h : ((List.range 256).all fun n => p (UInt8.ofNat n)) = true) (c : UInt8) : p c = true := by
 have := List.all_eq_true.1 h c.toNat (List.mem_range.2 c.toNat_lt)
 simpa using this
theorem Q0 (c : UInt8) : tails.contains c = Bd c := by
 have := Ik (p := fun c => tails.contains c == Bd c) (by kernel_rfl) c
 simpa using this
theorem Ly (c : UInt8) : letters.contains c = Bc c := by
 have := Ik (p := fun c => letters.contains c == Bc c) (by kernel_rfl) c
 simpa using this
theorem ae : Bd 32 = false := by kernel_rfl
theorem cg (s of : Str) : (G9 s of == (s.length : Int)) = s.all (of.contains ·) := by
 unfold G9 Lib.trimLeftS
 induction s with
 | nil => rfl
 | cons c r ih =>
  rw [List.dropWhile_cons, List.all_cons]
  cases hc : of.contains c with
  | true =>
   simp only [if_true, Bool.true_and]
   rw [← ih, Bool.eq_iff_iff]
   have := (List.dropWhile_sublist (fun x => of.contains x) (l := r)).length_le
   simp only [beq_iff_eq, List.length_cons]
   omega
  | false =>
   simp only [Bool.false_eq_true, if_false, Bool.false_and]
   rw [beq_eq_false_iff_ne]
   simp only [List.length_cons]
   omega
theorem E8 (s : Str) : Ch s = Gq s := by
 cases s with
 | nil => rfl
 | cons c r =>
  unfold Ch
  rw [cg]
  have e1 : ((c :: r).all fun x => tails.contains x) = (c :: r).all Bd := by
   congr 1
   funext x
   exact Q0 x
  have e2 : (G9 ((c :: r).take 1) letters == 1) = Bc c := by
   have := cg [c] letters
   rw [← Ly c]
   simpa using this
  rw [e1, e2]
  have e3 : ((c :: r : Str) == []) = false := rfl
  have e4 : decide (((c :: r).length : Int) ≤ 16) = decide ((c :: r).length ≤ 16) := by
   rw [decide_eq_decide]; omega
  rw [e3, e4]
  show _ = (decide ((c :: r).length ≤ 16) && Bc c && !Bj (c :: r) && (c :: r).all Bd)
  cases ha : (c :: r).all Bd with
  | false => simp
  | true =>
   have hb : (32 : UInt8) ∉ (c :: r) := fun hm => by
    have := List.all_eq_true.1 ha 32 hm
    rw [ae] at this
    cases this
   rw [Jn _ (by simp) hb]
   simp
set_option maxRecDepth 4000
def A4 (l : List Tok) (i : Nat) : Tok := l.getD i ⟨0, [], 0⟩
theorem Fm {l : List Tok} {i : Nat} (h : i < l.length) : (l.map D0)[i]? = some (D0 (A4 l i)) := by
 rw [List.getElem?_map, List.getElem?_eq_getElem h]
 unfold A4
 rw [List.getD_eq_getElem?_getD, List.getElem?_eq_getElem h]
 rfl
theorem yd (s : Str) : Bs s = Bj s := by
 by_cases h1 : s = []
 ·subst h1; rfl
 by_cases h2 : (32 : UInt8) ∈ s
 ·have e1 : Bs s = false := by
   unfold Bs
   rw [Pz, List.contains_iff_mem.2 h2]
   simp
  have e2 : Bj s = false := by
   unfold Bj
   rw [List.any_eq_false]
   intro w hw he
   have : w = s := by simpa using he
   subst this
   exact Nr w hw h2
  rw [e1, e2]
 exact Jn s h1 h2
end Go.SX.Nb
