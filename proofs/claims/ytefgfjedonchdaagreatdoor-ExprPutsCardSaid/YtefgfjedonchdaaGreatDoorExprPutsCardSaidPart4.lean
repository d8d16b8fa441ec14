/- Texts on the way to this: ExprPuts answers true for whatever can be read: the card of the law. (part 4) -/
import Derived.Test.YtefgfjedonchdaaGreatDoorExprPutsCardSaidPart3
set_option linter.all false
namespace Go.SX.Nb
open Go Go.SX Go.Proofs
variable [ErrAt]
set_option maxRecDepth 4000
def wAt (s : Str) (k : Nat) : Int × Str × Int × Int := wordM (s.drop k)
theorem itemsF_cons {f k : Nat} {s : Str} (h : s ≠ []) : itemsF (f + 1) k s = (⟨(wordM s).1, (wordM s).2.1, k⟩, (wordM s).2.2.2) :: (if (wordM s).2.2.2 == 0 then itemsF f (k + (wordM s).2.2.1.toNat + gapM (s.drop (wordM s).2.2.1.toNat)) ((s.drop (wordM s).2.2.1.toNat).drop (gapM (s.drop (wordM s).2.2.1.toNat))) else []) := by
  rw [itemsF, if_neg (by simpa using h)]
/-- Where the reader is, with k words behind it. -/
def LexAt (s : Str) (k p : Nat) : Prop := (∃ f, (s.drop p).length < f ∧ (itemsT s).drop k = itemsF f p (s.drop p)) ∧ p ≤ s.length ∧ ∀ j, j < k → ∃ it, (itemsT s)[j]? = some it ∧ it.2 = 0
theorem lexAt_zero (s : Str) : LexAt s 0 (gapM s) := ⟨⟨s.length + 1, by rw [List.length_drop]; omega, by rw [List.drop_zero]; rfl⟩, gap_le s, fun j hj => by omega⟩
theorem lexAt_len {s : Str} {k p : Nat} (h : LexAt s k p) : k ≤ (itemsT s).length := by
  refine Classical.byContradiction fun hn => ?_
  obtain ⟨it, hit, _⟩ := h.2.2 (itemsT s).length (by omega)
  rw [List.getElem?_eq_none (Nat.le_refl _)] at hit
  cases hit
theorem lexAt_end {s : Str} {k p : Nat} (h : LexAt s k p) (hp : s.length ≤ p) : k = (itemsT s).length ∧ ∀ it ∈ itemsT s, it.2 = 0 := by
  have hl := lexAt_len h
  obtain ⟨⟨f, _, hd⟩, _, h0⟩ := h
  have e : s.drop p = [] := by rw [List.drop_eq_nil_iff]; exact hp
  rw [e] at hd
  have : (itemsT s).drop k = [] := by rw [hd]; cases f <;> rfl
  rw [List.drop_eq_nil_iff] at this
  have hk : k = (itemsT s).length := by omega
  refine ⟨hk, fun it hit => ?_⟩
  obtain ⟨j, hj, rfl⟩ := List.mem_iff_getElem.1 hit
  obtain ⟨it', h1, h2⟩ := h0 j (by omega)
  rw [List.getElem?_eq_getElem hj] at h1
  injection h1 with h1
  rw [h1]; exact h2
theorem lexAt_cons {s : Str} {k p : Nat} (h : LexAt s k p) (hp : p < s.length) : ∃ f, (s.drop p).length < f + 1 ∧ (itemsT s).drop k = itemsF (f + 1) p (s.drop p) ∧ s.drop p ≠ [] := by
  obtain ⟨⟨f, hf, hd⟩, _, _⟩ := h
  obtain ⟨g, rfl⟩ : ∃ g, f = g + 1 := ⟨f - 1, by omega⟩
  exact ⟨g, hf, hd, fun e => by rw [List.drop_eq_nil_iff] at e; omega⟩
theorem lexAt_item {s : Str} {k p : Nat} (h : LexAt s k p) (hp : p < s.length) : (itemsT s)[k]? = some (⟨(wAt s p).1, (wAt s p).2.1, p⟩, (wAt s p).2.2.2) := by
  obtain ⟨f, _, hd, hne⟩ := lexAt_cons h hp
  rw [itemsF_cons hne] at hd
  have := congrArg (·[0]?) hd
  unfold wAt
  simpa using this
theorem lexAt_next {s : Str} {k p : Nat} (h : LexAt s k p) (hp : p < s.length) (he : (wAt s p).2.2.2 = 0) : ∃ n : Nat, (wAt s p).2.2.1 = (n : Int) ∧ 1 ≤ n ∧ p + n ≤ s.length ∧ LexAt s (k + 1) (p + n + gapM (s.drop (p + n))) := by
  have hi := lexAt_item h hp
  obtain ⟨f, hf, hd, hne⟩ := lexAt_cons h hp
  obtain ⟨n, hn, h1, h2⟩ := word_ok (s := s.drop p) (by rw [List.length_drop]; omega) he
  rw [List.length_drop] at h2 hf
  have hg := gap_le (s.drop (p + n))
  rw [List.length_drop] at hg
  refine ⟨n, hn, h1, by omega, ⟨f, by rw [List.length_drop]; omega, ?_⟩, by omega, fun j hj => ?_⟩
  · rw [itemsF_cons hne] at hd
    have := congrArg (·.drop 1) hd
    simp only [List.drop_drop, List.drop_succ_cons, List.drop_zero] at this
    unfold wAt at he
    rw [this, hn, he]
    simp only [beq_self_eq_true, if_true, Int.toNat_natCast, List.drop_drop]
  · rcases Nat.lt_or_ge j k with h' | h'
    · exact h.2.2 j h'
    · have : j = k := by omega
      subst this
      exact ⟨_, hi, he⟩
theorem c103 (l : Nat) (s : Str) (hs : s.length ≤ 1048576) (U F : Nat → List AObj) (hlen : ∀ k, (U k).length = (U 0).length) (hll : l < (U 0).length)
    (hy : ∀ k it, (itemsT s)[k]? = some it → AYield Tryz.prog l [tokA it.1, intA it.2] (U k) (fun b H' => if it.2 = 0 then b = true ∧ H' = U (k + 1) else b = false ∧ H' = F k)) : ACall Tryz.prog 103 [.yield l, .ro [strA s]] (U 0) (fun r H' => ((∀ it ∈ itemsT s, it.2 = 0) ∧ H' = U (itemsT s).length) ∨ ∃ k it, (itemsT s)[k]? = some it ∧ it.2 ≠ 0 ∧ (∀ j, j < k → ∃ it', (itemsT s)[j]? = some it' ∧ it'.2 = 0) ∧ H' = F k) := by
  refine ACall.body [] [0, 1] Tryz.func103 Tryz.ntmps103 (fun d => ?_)
  refine AW.seqR ?_
  refine R.loadRo Tryz.isAgg9 ?_
  refine R.call Tryz.call104 (c104 s hs _) ?_
  refine R.assign ?_
  refine R.fin [0, 1, 3] ?_
  refine AW.loopC (α := Nat × Nat) (fun x => ⟨44, setF 0 (.yield l) (setF 1 (.ro [strA s]) (setF 3 (intA (x.2 : Nat)) (fun _ => .any))), U x.1, [], [], none⟩) (fun x => LexAt s x.1 x.2) (fun x => s.length - x.2) (0, gapM s) (lexAt_zero s) (StLe.refl _) rfl (fun x hx => ?_)
  obtain ⟨k, p⟩ := x
  simp only at hx ⊢
  refine W.seq ?_
  refine AW.seqR ?_
  refine R.move ?_
  refine R.loadRo Tryz.isAgg9 ?_
  refine R.slen Tryz.underlying9 ?_
  refine R.lss ?_
  refine R.fin [0, 1, 3, 13] ?_
  refine W.cond (fun ht13 => ?_) (fun ht13 => ?_)
  · skip
    have hpl : p < s.length := by simpa using ht13
    refine AW.skip ?_
    refine K.thN ?_
    refine W.seq ?_
    refine AW.block ?_
    refine AW.seqR ?_
    refine R.loadRo Tryz.isAgg9 ?_
    refine R.move ?_
    refine R.scutL p Tryz.underlying9 hx.2.1 (Nat.le_refl _) ?_
    refine R.call Tryz.call105 (c105 (s.drop p) (by rw [List.length_drop]; omega) (by rw [List.length_drop]; omega) _) ?_
    refine R.move ?_
    refine R.extract ?_
    refine R.extract ?_
    refine R.extract ?_
    refine R.extract ?_
    refine R.assign ?_
    refine R.assign ?_
    refine R.assign ?_
    refine R.assign ?_
    refine R.fin [0, 1, 3, 4, 5, 6, 7] ?_
    refine W.seq ?_
    refine AW.seqR ?_
    refine R.move ?_
    refine R.move ?_
    refine R.move ?_
    refine R.move ?_
    refine R.build (places := #[(0, 1), (1, 1), (2, 1)]) Tryz.underlying31 (fun w => by simp) Tryz.zeroValue31 ?_
    refine R.move ?_
    refine R.yield0 (hy k _ (lexAt_item hx hpl)) ?_
    intro b V hV hb
    refine R.not ?_
    refine R.move ?_
    refine G.move ?_
    refine G.neq ?_
    refine R.pickOr ?_
    refine R.fin [0, 1, 3, 6, 40] ?_
    refine W.cond (fun ht40 => ?_) (fun ht40 => ?_)
    · skip
      have hbe : (wordM (s.drop p)).2.2.2 ≠ 0 ∧ V = F k := by
        split at hb
        · rename_i h0
          obtain ⟨rfl, _⟩ := hb
          have h0' : (wordM (s.drop p)).2.2.2 = 0 := h0
          simp [h0'] at ht40
        · rename_i h0
          exact ⟨h0, hb.2⟩
      refine AW.ret ?_
      refine K.thR ?_
      refine K.blR ?_
      refine K.thR ?_
      refine K.lpR ?_
      exact K.fin .nores (hp := .inr ⟨k, _, lexAt_item hx hpl, hbe.1, hx.2.2, hbe.2⟩)
    · skip
      have hbe : (wordM (s.drop p)).2.2.2 = 0 ∧ V = U (k + 1) := by
        split at hb
        · rename_i h0
          exact ⟨h0, hb.2⟩
        · obtain ⟨rfl, _⟩ := hb
          simp at ht40
      obtain ⟨n, hn, hn1, hnl, hnx⟩ := lexAt_next hx hpl hbe.1
      unfold wAt at hn
      rw [hn]
      have hgl := gap_le (s.drop (p + n))
      rw [List.length_drop] at hgl
      refine AW.skip ?_
      refine K.thN ?_
      refine AW.region ?_
      refine R.move ?_
      refine R.move ?_
      refine R.add64 ?_
      refine R.assign ?_
      refine R.fin [0, 1, 3] ?_
      refine K.blN ?_
      refine K.thN ?_
      refine AW.region ?_
      refine R.move ?_
      refine R.loadRo Tryz.isAgg9 ?_
      refine R.move ?_
      refine R.scutL (p + n) Tryz.underlying9 hnl (Nat.le_refl _) ?_
      refine R.call Tryz.call104 (c104 (s.drop (p + n)) (by rw [List.length_drop]; omega) _) ?_
      refine R.add64 ?_
      refine R.assign ?_
      refine R.fin [0, 1, 3] ?_
      exact K.lpN (k + 1, p + n + gapM (s.drop (p + n))) hnx (by show s.length - _ < s.length - p; omega) (StCut.of_eq (by rw [hbe.2]; simp))
  · skip
    have hpl : s.length ≤ p := by simpa using ht13
    obtain ⟨hk, hz⟩ := lexAt_end hx hpl
    refine AW.exit ?_
    refine K.thE ?_
    refine K.lpE ?_
    exact K.finN .nores (hp := .inl ⟨hz, by rw [hk]⟩)

theorem c64 (s : Str) (Hp : List AObj) : AFun Tryz.prog 64 [strA s] Hp (.fn (.func 103) [] [.ro [strA s]]) := by
  refine ACall.body [.tmp 2] [0] Tryz.func64 Tryz.ntmps64 (fun d => ?_)
  refine AW.seqR ?_
  refine R.boxRo ?_
  refine R.assign ?_
  refine R.fin [1] ?_
  refine AW.seqR ?_
  refine R.makeFunc ?_
  refine R.assign ?_
  refine R.fin [2] ?_
  refine AW.ret ?_
  exact K.fin (V.one V.tmp)

def lexM (s : Str) : List Tok × Int × Nat := if 4000 < s.length then ([], 3, 0) else
  match (itemsT s).find? (fun it => it.2 != 0) with
  | some it => ([], it.2, it.1.at_)
  | none => ((itemsT s).map (·.1) ++ [⟨0, [], s.length⟩], 0, 0)
theorem lex_err {s : Str} {k : Nat} {it : Tok × Int} (hit : (itemsT s)[k]? = some it) (he : it.2 ≠ 0) (h0 : ∀ j, j < k → ∃ it', (itemsT s)[j]? = some it' ∧ it'.2 = 0) : (itemsT s).find? (fun it => it.2 != 0) = some it := by
  rw [List.find?_eq_some_iff_getElem]
  obtain ⟨hk, e⟩ := List.getElem?_eq_some_iff.1 hit
  refine ⟨by simpa using he, k, hk, e, fun j hj => ?_⟩
  obtain ⟨it', h1, h2⟩ := h0 j hj
  rw [List.getElem?_eq_getElem (by omega)] at h1
  injection h1 with h1
  rw [h1, h2]; rfl
theorem lex_none {s : Str} (h : ∀ it ∈ itemsT s, it.2 = 0) : (itemsT s).find? (fun it => it.2 != 0) = none := by
  rw [List.find?_eq_none]
  intro it hit
  simp [h it hit]
def errAt (s : Str) (k : Nat) : Int × Nat := match (itemsT s)[k]? with | some it => (it.2, it.1.at_) | none => (0, 0)
theorem itemsF_len : ∀ (f k : Nat) (s : Str), (itemsF f k s).length ≤ f
  | 0, _, _ => Nat.zero_le _
  | f + 1, k, s => by
    rw [itemsF]
    split
    · exact Nat.zero_le _
    · rw [List.length_cons]
      split
      · have := itemsF_len f (k + (wordM s).2.2.1.toNat + gapM (s.drop (wordM s).2.2.1.toNat)) ((s.drop (wordM s).2.2.1.toNat).drop (gapM (s.drop (wordM s).2.2.1.toNat)))
        omega
      · simp
theorem itemsT_len (s : Str) : (itemsT s).length ≤ s.length + 1 := itemsF_len _ _ _
def toksK (s : Str) (k : Nat) : List Tok := ((itemsT s).take k).map (·.1)
theorem toksK_len (s : Str) (k : Nat) : (toksK s k).length ≤ s.length + 1 := by
  have := itemsT_len s
  unfold toksK
  rw [List.length_map, List.length_take]
  omega
theorem toksK_succ {s : Str} {k : Nat} {it : Tok × Int} (hit : (itemsT s)[k]? = some it) : toksK s (k + 1) = toksK s k ++ [it.1] := by
  unfold toksK
  rw [List.take_succ, hit, List.map_append]
  rfl
theorem toksK_all (s : Str) : toksK s (itemsT s).length = (itemsT s).map (·.1) := by unfold toksK; rw [List.take_length]
theorem lex_ofErr {s : Str} {k : Nat} {it : Tok × Int} (hl4 : ¬ 4000 < s.length) (hit : (itemsT s)[k]? = some it) (he : it.2 ≠ 0) (h0 : ∀ j, j < k → ∃ it', (itemsT s)[j]? = some it' ∧ it'.2 = 0) : lexM s = ([], it.2, it.1.at_) := by
  unfold lexM
  rw [if_neg hl4, lex_err hit he h0]
theorem lex_ofOk {s : Str} (hl4 : ¬ 4000 < s.length) (hz : ∀ it ∈ itemsT s, it.2 = 0) : lexM s = (toksK s (itemsT s).length ++ [⟨0, [], s.length⟩], 0, 0) := by
  unfold lexM
  rw [if_neg hl4, lex_none hz, toksK_all]
theorem gsn {U : List AObj} {i j : Nat} {x y : AObj} (h : U[i]? = some x) (hne : j ≠ i) : (U.set j y)[i]? = some x := by rw [List.getElem?_set_ne hne]; exact h
theorem c15 (s : Str) (hs : s.length ≤ 1048576) (Hp : List AObj) : AFun Tryz.prog 15 [strA s] Hp (.tup [toksA (lexM s).1, .agg [intA (lexM s).2.1, intA (lexM s).2.2]]) := by
  refine ACall.body [.cell 2 24, .cell 3 27] [0, 5, 6] Tryz.func15 Tryz.ntmps15 (fun d => ?_)
  refine AW.seqR ?_
  refine R.alloc Tryz.zeroValue24 ?_
  refine R.alloc Tryz.zeroValue27 ?_
  refine R.fin [0, 2, 3, 5, 6] ?_
  refine W.seq ?_
  refine AW.seqR ?_
  refine R.move ?_
  refine R.slen Tryz.underlying9 ?_
  refine R.gtr ?_
  refine R.fin [0, 2, 3, 5, 6, 9] ?_
  refine W.cond (fun ht9 => ?_) (fun ht9 => ?_)
  · skip
    have hlm : lexM s = ([], 3, 0) := by unfold lexM; rw [if_pos (by simp at ht9; omega)]
    refine AW.seqR ?_
    refine R.build (places := #[(0, 1), (1, 1)]) Tryz.underlying27 (fun w => by simp) Tryz.zeroValue27 ?_
    refine R.storeOwn Tryz.sizeOf24 ?_
    refine R.nilOwn 0 3 ?_
    refine R.storeOwn Tryz.sizeOf27 ?_
    refine R.fin [2, 3] ?_
    refine AW.ret ?_
    refine K.thR ?_
    exact K.fin (V.two (V.cell Tryz.isAgg24) (V.cellN Tryz.isAgg27 Tryz.sizeOf27)) ⟨by rw [hlm]; rfl, rfl⟩
  · skip
    have hl4 : ¬ 4000 < s.length := by simp at ht9; omega
    refine AW.skip ?_
    refine K.thN ?_
    refine AW.seqR ?_
    skip
    refine R.alloc Tryz.zeroValue24 ?_
    refine R.fin [0, 2, 3, 4, 5, 6] ?_
    refine W.seq ?_
    refine AW.seqR ?_
    refine R.nilOwn 2 3 ?_
    refine R.move ?_
    refine R.call Tryz.call64 (c64 s _) ?_
    refine R.fin [0, 2, 3, 4, 5, 6, 12] ?_
    refine AW.block ?_
    refine W.rangeV (m := 3) Tryz.call103 (fun FR as' bd' hFR has hbd => ?_)
    refine ⟨_, c103 (oid Hp.length 4) s hs (fun k => Hp ++ [AObj.cells 24 [AV.nil], AObj.cells 27 [intA 0, intA 0], AObj.cells 24 [AV.slice true 3 ((toksK s k).map tokA)], AObj.defs, AObj.loop LoopState.ready none FR 32 #[13, 14] as' bd' (oid Hp.length 3)]) (fun k => Hp ++ [AObj.cells 24 [AV.nil], AObj.cells 27 [intA (errAt s k).1, intA (errAt s k).2], AObj.cells 24 [AV.slice true 3 ((toksK s k).map tokA)], AObj.defs, AObj.loop LoopState.done (some Code.ret) FR 32 #[13, 14] as' bd' (oid Hp.length 3)]) (fun k => by simp) (by simp [oid]) (fun k it hit => ?_), ?_⟩
    · skip
      generalize hV : Hp ++ [AObj.cells 24 [AV.nil], AObj.cells 27 [intA 0, intA 0], AObj.cells 24 [AV.slice true 3 ((toksK s k).map tokA)], AObj.defs, AObj.loop LoopState.ready none FR 32 #[13, 14] as' bd' (oid Hp.length 3)] = V
      have hL : V[oid Hp.length 4]? = some (AObj.loop LoopState.ready none FR 32 #[13, 14] as' bd' (oid Hp.length 3)) := by rw [← hV, get_oid]; rfl
      have hA0 : V[oid Hp.length 2]? = some (AObj.cells 24 [AV.slice true 3 ((toksK s k).map tokA)]) := by rw [← hV, get_oid]; rfl
      have hB0 : V[oid Hp.length 0]? = some (AObj.cells 24 [AV.nil]) := by rw [← hV, get_oid]; rfl
      have hC0 : V[oid Hp.length 1]? = some (AObj.cells 27 [intA 0, intA 0]) := by rw [← hV, get_oid]; rfl
      refine AYield.ofRound (pd := none) (fr := FR) (sz := 32) (ps := #[13, 14]) (df := oid Hp.length 3) (asg := as') (bd := bd') hL rfl (by decide) (fun d => ?_)
      subst hFR has hbd
      refine W.keep [2, 3, 4, 13, 14] ?_
      refine AW.seqR ?_
      refine R.alloc Tryz.zeroValue31 ?_
      refine R.storeOwn Tryz.sizeOf31 ?_
      refine R.fin [2, 3, 4, 5, 14] ?_
      refine AW.region ?_
      refine R.assign ?_
      refine R.fin [2, 3, 4, 5, 6] ?_
      refine ⟨rfl, none, hL, ?_⟩
      generalize hbz : (AObj.loop LoopState.busy _ _ _ _ _ _ _) = bz
      have hA : (V.set (oid Hp.length 4) bz)[oid Hp.length 2]? = some (AObj.cells 24 [AV.slice true 3 ((toksK s k).map tokA)]) := by rw [List.getElem?_set_ne (oid_ne (by decide))]; exact hA0
      have hB : (V.set (oid Hp.length 4) bz)[oid Hp.length 0]? = some (AObj.cells 24 [AV.nil]) := by rw [List.getElem?_set_ne (oid_ne (by decide))]; exact hB0
      have hC : (V.set (oid Hp.length 4) bz)[oid Hp.length 1]? = some (AObj.cells 27 [intA 0, intA 0]) := by rw [List.getElem?_set_ne (oid_ne (by decide))]; exact hC0
      refine AW.block ?_
      refine W.seq ?_
      refine AW.seqR ?_
      refine R.move ?_
      refine R.neq ?_
      refine R.fin [2, 3, 4, 5, 6, 16] ?_
      refine W.cond (fun ht16 => ?_) (fun ht16 => ?_)
      · skip
        have hne : it.2 ≠ 0 := by simpa using ht16
        apply W.drawXU [0, 0, 2, 7, 0, 31] 4 0 32 (.any) ((V.set (oid Hp.length 4) bz).set (oid Hp.length 0) (AObj.cells 24 [AV.nil])) Tryzmixed
        case hok => kernel_rfl
        case h1 =>
          intro b
          refine D.move ?_
          refine D.fieldAddrPtr (fo := 2) Tryz.underlying31 Tryz.sizeOf3 ?_
          have hbl : (bif b then (V.set (oid Hp.length 4) bz).set (oid Hp.length 0) (AObj.cells 24 [AV.nil]) else V.set (oid Hp.length 4) bz).length = V.length := by cases b <;> simp
          refine D.loadOwn (n := 0) Tryz.isAgg3 (hx := by rw [hbl]; simp only [go_sem, ↓reduceIte, Nat.reduceEqDiff, Nat.reduceAdd] <;> rfl) ?_
          refine D.build (places := #[(0, 1), (1, 1)]) Tryz.underlying27 (fun w => by simp) Tryz.zeroValue27 ?_
          exact D.end rfl rfl
        case h2 =>
          intro b
          exact D.end rfl rfl
        case hE =>
          intro f hf
          exact X.storeUp (o := oid Hp.length 0) (off := 0) (y := .nil) (ys := [.nil]) Tryz.sizeOf24 (by show (f 2).strip = _; rw [hf 2 (by rfl)]; rfl) rfl hB rfl rfl rfl (by decide) rfl (by simp)
        case hx => kernel_rfl
        case hlen => simp
        refine R.storeUp Tryz.sizeOf27 (gsn (j := oid Hp.length 0) hC (oid_ne (by decide))) ?_ ?_
        · simp
        refine R.fin [] ?_
        refine AW.ret ?_
        refine K.thR ?_
        refine K.blR ?_
        subst hbz
        refine K.rdR (keep2 hL (oid_ne (by decide)) (oid_ne (by decide))) ?_
        rw [if_neg hne]
        refine ⟨rfl, ?_⟩
        subst hV
        simp only [set_oid, List.set_cons_succ, List.set_cons_zero]
        rw [show errAt s k = (it.2, it.1.at_) by unfold errAt; rw [hit]]
      · skip
        have heq : it.2 = 0 := by simpa using ht16
        refine AW.skip ?_
        refine K.thN ?_
        refine AW.region ?_
        have hl3 := toksK_len s k
        refine R.loadUpT Tryz.isAgg24 hA ?_
        refine R.loadOwnN Tryz.isAgg31 Tryz.sizeOf31 ?_
        refine R.buildSlice Tryz.underlying24 Tryz.sizeOf31 Tryz.zeroValue31 ?_
        refine R.append Tryz.underlying24 Tryz.type31 ?_ ?_ ?_
        · simp [hl3, Tryz.t31]; omega
        · simp [hl3, Tryz.t31]; omega
        refine R.storeUpT Tryz.sizeOf24 (getset hA) ?_ ?_
        · simp [or_imp, forall_and]
        refine R.fin [] ?_
        refine K.blN ?_
        subst hbz
        refine K.rdN (keep2 hL (oid_ne (by decide)) (oid_ne (by decide))) ?_
        rw [if_pos heq]
        refine ⟨rfl, ?_⟩
        subst hV
        simp only [set_oid, List.set_cons_succ, List.set_cons_zero]
        rw [toksK_succ hit, List.map_append]
        rfl
    · skip
      rintro r H' (⟨hz, rfl⟩ | ⟨k, it, hit, hne, h0, rfl⟩)
      · skip
        refine ⟨Hp, _, _, _, rfl, rfl, fun h => h, ?_, rfl, by simp, ?_⟩
        · intro o ho
          have : o = oid Hp.length 3 := by simpa using ho
          subst this
          rw [get_oid]
          rfl
        refine K.blN ?_
        refine K.thN ?_
        refine AW.seqR ?_
        refine R.loadOwnT Tryz.isAgg24 ?_
        refine R.move ?_
        refine R.slen Tryz.underlying9 ?_
        refine R.build (places := #[(0, 1), (1, 1), (2, 1)]) Tryz.underlying31 (fun w => by simp) Tryz.zeroValue31 ?_
        refine R.buildSlice Tryz.underlying24 Tryz.sizeOf31 Tryz.zeroValue31 ?_
        refine R.append Tryz.underlying24 Tryz.type31 ?_ ?_ ?_
        · have := toksK_len s (itemsT s).length; simp [Tryz.t31]; omega
        · have := toksK_len s (itemsT s).length; simp [Tryz.t31]; omega
        refine R.build (places := #[(0, 1), (1, 1)]) Tryz.underlying27 (fun w => by simp) Tryz.zeroValue27 ?_
        refine R.storeOwnT Tryz.sizeOf24 ?_
        refine R.storeOwn Tryz.sizeOf27 ?_
        refine R.fin [2, 3] ?_
        refine AW.ret ?_
        exact K.fin (V.two (V.cell Tryz.isAgg24) (V.cellN Tryz.isAgg27 Tryz.sizeOf27)) ⟨by rw [lex_ofOk hl4 hz, toksA, List.map_append]; rfl, rfl⟩ (hlow := by simp [or_imp, forall_and])
      · skip
        refine ⟨Hp, _, _, _, rfl, rfl, fun h => h, ?_, rfl, by simp, ?_⟩
        · intro o ho
          have : o = oid Hp.length 3 := by simpa using ho
          subst this
          rw [get_oid]
          rfl
        refine W.nilOwn 0 3 ?_
        refine AW.ret ?_
        refine K.blR ?_
        refine K.thR ?_
        exact K.fin (V.two (V.cell Tryz.isAgg24) (V.cellN Tryz.isAgg27 Tryz.sizeOf27)) ⟨by rw [lex_ofErr hl4 hit hne h0, show errAt s k = (it.2, it.1.at_) by unfold errAt; rw [hit]]; rfl, rfl⟩

end Go.SX.Nb
namespace Go.SX.Nb
open Go Go.SX Go.Proofs
variable [ErrAt]
set_option maxRecDepth 4000
inductive Expr where
  | mk (op : Int) (text : Str) (val : Val) (kids : List Expr)
def Expr.op : Expr → Int | .mk o _ _ _ => o
def Expr.text : Expr → Str | .mk _ t _ _ => t
def Expr.val : Expr → Val | .mk _ _ v _ => v
def Expr.kids : Expr → List Expr | .mk _ _ _ k => k
mutual
def exprA : Expr → AV
  | .mk o t v k => .agg [.v (.int .i64 o), .v (sv t), .v (.int .i64 v.kind), .v (.int .i64 v.n), .v (sv v.s), .slice false 6 (exprsL k)]
def exprsL : List Expr → List AV
  | [] => []
  | e :: r => exprA e :: exprsL r
 end
theorem exprsL_map : ∀ l, exprsL l = l.map exprA
  | [] => rfl
  | e :: r => by rw [exprsL, exprsL_map r]; rfl
theorem exprA_eq (e : Expr) : exprA e = .agg [.v (.int .i64 e.op), .v (sv e.text), .v (.int .i64 e.val.kind), .v (.int .i64 e.val.n), .v (sv e.val.s), .slice false 6 (e.kids.map exprA)] := by
  cases e with
  | mk o t v k => rw [exprA, exprsL_map]; rfl
attribute [go_sem] exprA_eq
def marksText : Str := [32, 111, 114, 32, 32, 97, 110, 100, 32, 32, 61, 32, 33, 61, 32, 60, 32, 60, 61, 32, 62, 32, 62, 61, 32, 32, 43, 32, 45, 32, 38, 32, 32, 42, 32, 47, 32, 37, 32]
def bareM (v : Val) : Bool := v.kind == 0 && v.n == 0 && v.s == []
def nodeM (e : Expr) : Bool :=
  if e.op == 1 then ((plainM e.val && decide (0 ≤ e.val.n)) && (e.text == [])) && ((e.kids.length : Int) == 0)
  else if e.op == 2 then (bareM e.val && lexNameM e.text) && ((e.kids.length : Int) == 0)
  else if e.op == 3 || e.op == 4 then (bareM e.val && (e.text == [])) && ((e.kids.length : Int) == 1)
  else if e.op == 5 then (bareM e.val && isMarkM e.text marksText) && ((e.kids.length : Int) == 2)
  else if e.op == 6 then bareM e.val && (arityM e.text == (e.kids.length : Int))
  else false
theorem c90 (e : Expr) (hs : e.text.length ≤ 1048576) (Hp : List AObj) : AFun Tryz.prog 90 [exprA e] Hp (boolA (nodeM e)) := by
  refine ACall.body [.tmp 2] [0] Tryz.func90 Tryz.ntmps90 (fun d => ?_)
  refine AW.seqR ?_
  refine R.boxRo ?_
  refine R.assign ?_
  refine R.fin [1] ?_
  refine AW.seqR ?_
  refine R.fieldAddrRo (off := 2) Tryz.underlying69 Tryz.sizeOf36 ?_
  refine R.loadRoN Tryz.isAgg36 Tryz.sizeOf36 ?_
  refine R.build (places := #[(0, 1), (1, 1), (2, 1)]) Tryz.underlying36 (fun w => by simp) Tryz.zeroValue36 ?_
  refine R.eqlAgg eg36 (equal36 e.val.kind e.val.n 0 0 e.val.s []) ?_
  refine R.assign ?_
  refine R.fin [1, 3] ?_
  refine W.seq ?_
  refine AW.seqR ?_
  refine R.fieldAddrRo (off := 0) Tryz.underlying69 Tryz.sizeOf3 ?_
  refine R.loadRo Tryz.isAgg3 ?_
  refine R.fin [1, 3, 9] ?_
  refine AW.block ?_
  refine AW.seqR ?_
  refine R.eql ?_
  refine R.assign ?_
  refine R.fin [1, 3, 9, 10] ?_
  refine W.cond (fun ht10 => ?_) (fun ht10 => ?_)
  · skip
    refine AW.seqR ?_
    refine R.fieldAddrRo (off := 2) Tryz.underlying69 Tryz.sizeOf36 ?_
    refine R.loadRoN Tryz.isAgg36 Tryz.sizeOf36 ?_
    refine R.call Tryz.call124 (c124 e.val _) ?_
    refine R.move ?_
    refine G.fieldAddrRo (off := 2) Tryz.underlying69 Tryz.sizeOf36 ?_
    refine G.fieldAddrRo (off := 1) Tryz.underlying36 Tryz.sizeOf2 ?_
    refine G.loadRo Tryz.isAgg2 ?_
    refine G.geq ?_
    refine R.pickAnd ?_
    refine R.move ?_
    refine G.fieldAddrRo (off := 1) Tryz.underlying69 Tryz.sizeOf9 ?_
    refine G.loadRo Tryz.isAgg9 ?_
    refine G.seql ?_
    refine R.pickAnd ?_
    refine R.move ?_
    refine G.fieldAddrRo (off := 5) Tryz.underlying69 Tryz.sizeOf67 ?_
    refine G.loadRo Tryz.isAgg67 ?_
    refine G.len Tryz.underlying67 ?_
    refine G.eql ?_
    refine R.pickAnd ?_
    refine R.assign ?_
    refine R.fin [2] ?_
    refine AW.ret ?_
    refine K.blR ?_
    refine K.thR ?_
    exact K.fin (V.one V.tmp) ⟨by simp_all [nodeM, bareM], rfl⟩
  · skip
    refine AW.seqR ?_
    refine R.eql ?_
    refine R.assign ?_
    refine R.fin [1, 3, 9, 32] ?_
    refine W.cond (fun ht32 => ?_) (fun ht32 => ?_)
    · skip
      refine AW.seqR ?_
      refine R.move ?_
      refine R.move ?_
      refine G.fieldAddrRo (off := 1) Tryz.underlying69 Tryz.sizeOf9 ?_
      refine G.loadRo Tryz.isAgg9 ?_
      refine G.call Tryz.call14 (fun hB => c14 e.text hs _) ?_
      refine R.pickAnd ?_
      refine R.move ?_
      refine G.fieldAddrRo (off := 5) Tryz.underlying69 Tryz.sizeOf67 ?_
      refine G.loadRo Tryz.isAgg67 ?_
      refine G.len Tryz.underlying67 ?_
      refine G.eql ?_
      refine R.pickAnd ?_
      refine R.assign ?_
      refine R.fin [2] ?_
      refine AW.ret ?_
      refine K.blR ?_
      refine K.thR ?_
      exact K.fin (V.one V.tmp) ⟨by simp_all [nodeM, bareM], rfl⟩
    · skip
      refine W.seq ?_
      refine AW.seqR ?_
      refine R.eql ?_
      refine R.assign ?_
      refine R.fin [1, 3, 9, 46] ?_
      refine W.cond (fun ht46 => ?_) (fun ht46 => ?_)
      · skip
        refine AW.skip ?_
        refine K.thN ?_
        refine W.cond (fun ht46 => ?_) (fun ht46 => ?_)
        · skip
          refine AW.seqR ?_
          refine R.move ?_
          refine R.move ?_
          refine G.fieldAddrRo (off := 1) Tryz.underlying69 Tryz.sizeOf9 ?_
          refine G.loadRo Tryz.isAgg9 ?_
          refine G.seql ?_
          refine R.pickAnd ?_
          refine R.move ?_
          refine G.fieldAddrRo (off := 5) Tryz.underlying69 Tryz.sizeOf67 ?_
          refine G.loadRo Tryz.isAgg67 ?_
          refine G.len Tryz.underlying67 ?_
          refine G.eql ?_
          refine R.pickAnd ?_
          refine R.assign ?_
          refine R.fin [2] ?_
          refine AW.ret ?_
          refine K.blR ?_
          refine K.thR ?_
          exact K.fin (V.one V.tmp) ⟨by simp_all [nodeM, bareM], rfl⟩
        · skip
          refine AW.seqR ?_
          refine R.eql ?_
          refine R.assign ?_
          refine R.fin [1, 3, 9, 61] ?_
          refine W.cond (fun ht61 => ?_) (fun ht61 => ?_)
          · skip
            refine AW.seqR ?_
            refine R.move ?_
            refine R.move ?_
            refine G.fieldAddrRo (off := 1) Tryz.underlying69 Tryz.sizeOf9 ?_
            refine G.loadRo Tryz.isAgg9 ?_
            refine G.call Tryz.call125 (fun hB => c125 e.text marksText hs (by decide) _) ?_
            refine R.pickAnd ?_
            refine R.move ?_
            refine G.fieldAddrRo (off := 5) Tryz.underlying69 Tryz.sizeOf67 ?_
            refine G.loadRo Tryz.isAgg67 ?_
            refine G.len Tryz.underlying67 ?_
            refine G.eql ?_
            refine R.pickAnd ?_
            refine R.assign ?_
            refine R.fin [2] ?_
            refine AW.ret ?_
            refine K.blR ?_
            refine K.thR ?_
            exact K.fin (V.one V.tmp) ⟨by simp_all [nodeM, bareM], rfl⟩
          · skip
            refine AW.seqR ?_
            refine R.eql ?_
            refine R.assign ?_
            refine R.fin [1, 3, 75] ?_
            refine W.cond (fun ht75 => ?_) (fun ht75 => ?_)
            · skip
              refine W.draw [0, 1, 3, 7, 15, 3, 35, 99, 255, 511, 1023] 8 Tryzmixed (by kernel_rfl) ?_
              refine D.move ?_
              refine D.move ?_
              refine H.fieldAddrRo (off := 1) Tryz.underlying69 Tryz.sizeOf9 ?_
              refine H.loadRo Tryz.isAgg9 ?_
              refine H.call Tryz.call50 (fun hB => c50 e.text _) ?_
              refine H.fieldAddrRo (off := 5) Tryz.underlying69 Tryz.sizeOf67 ?_
              refine H.loadRo Tryz.isAgg67 ?_
              refine H.len Tryz.underlying67 ?_
              refine D.tail ?_
              refine G.eql ?_
              refine R.pickAnd ?_
              refine R.assign ?_
              refine R.fin [2] ?_
              refine AW.ret ?_
              refine K.blR ?_
              refine K.thR ?_
              exact K.fin (V.one V.tmp) ⟨by simp_all [nodeM, bareM], rfl⟩
            · skip
              refine AW.skip ?_
              refine K.blN ?_
              refine K.thN ?_
              refine AW.seqR ?_
              refine R.assign ?_
              refine R.fin [2] ?_
              refine AW.ret ?_
              exact K.fin (V.one V.tmp) ⟨by simp_all [nodeM, bareM], rfl⟩
      · skip
        refine AW.region ?_
        refine R.eql ?_
        refine R.assign ?_
        refine R.fin [1, 3, 9, 46] ?_
        refine K.thN ?_
        refine W.cond (fun ht46 => ?_) (fun ht46 => ?_)
        · skip
          refine AW.seqR ?_
          refine R.move ?_
          refine R.move ?_
          refine G.fieldAddrRo (off := 1) Tryz.underlying69 Tryz.sizeOf9 ?_
          refine G.loadRo Tryz.isAgg9 ?_
          refine G.seql ?_
          refine R.pickAnd ?_
          refine R.move ?_
          refine G.fieldAddrRo (off := 5) Tryz.underlying69 Tryz.sizeOf67 ?_
          refine G.loadRo Tryz.isAgg67 ?_
          refine G.len Tryz.underlying67 ?_
          refine G.eql ?_
          refine R.pickAnd ?_
          refine R.assign ?_
          refine R.fin [2] ?_
          refine AW.ret ?_
          refine K.blR ?_
          refine K.thR ?_
          exact K.fin (V.one V.tmp) ⟨by simp_all [nodeM, bareM], rfl⟩
        · skip
          refine AW.seqR ?_
          refine R.eql ?_
          refine R.assign ?_
          refine R.fin [1, 3, 9, 61] ?_
          refine W.cond (fun ht61 => ?_) (fun ht61 => ?_)
          · skip
            refine AW.seqR ?_
            refine R.move ?_
            refine R.move ?_
            refine G.fieldAddrRo (off := 1) Tryz.underlying69 Tryz.sizeOf9 ?_
            refine G.loadRo Tryz.isAgg9 ?_
            refine G.call Tryz.call125 (fun hB => c125 e.text marksText hs (by decide) _) ?_
            refine R.pickAnd ?_
            refine R.move ?_
            refine G.fieldAddrRo (off := 5) Tryz.underlying69 Tryz.sizeOf67 ?_
            refine G.loadRo Tryz.isAgg67 ?_
            refine G.len Tryz.underlying67 ?_
            refine G.eql ?_
            refine R.pickAnd ?_
            refine R.assign ?_
            refine R.fin [2] ?_
            refine AW.ret ?_
            refine K.blR ?_
            refine K.thR ?_
            exact K.fin (V.one V.tmp) ⟨by simp_all [nodeM, bareM], rfl⟩
          · skip
            refine AW.seqR ?_
            refine R.eql ?_
            refine R.assign ?_
            refine R.fin [1, 3, 75] ?_
            refine W.cond (fun ht75 => ?_) (fun ht75 => ?_)
            · skip
              refine W.draw [0, 1, 3, 7, 15, 3, 35, 99, 255, 511, 1023] 8 Tryzmixed (by kernel_rfl) ?_
              refine D.move ?_
              refine D.move ?_
              refine H.fieldAddrRo (off := 1) Tryz.underlying69 Tryz.sizeOf9 ?_
              refine H.loadRo Tryz.isAgg9 ?_
              refine H.call Tryz.call50 (fun hB => c50 e.text _) ?_
              refine H.fieldAddrRo (off := 5) Tryz.underlying69 Tryz.sizeOf67 ?_
              refine H.loadRo Tryz.isAgg67 ?_
              refine H.len Tryz.underlying67 ?_
              refine D.tail ?_
              refine G.eql ?_
              refine R.pickAnd ?_
              refine R.assign ?_
              refine R.fin [2] ?_
              refine AW.ret ?_
              refine K.blR ?_
              refine K.thR ?_
              exact K.fin (V.one V.tmp) ⟨by simp_all [nodeM, bareM], rfl⟩
            · skip
              refine AW.skip ?_
              refine K.blN ?_
              refine K.thN ?_
              refine AW.seqR ?_
              refine R.assign ?_
              refine R.fin [2] ?_
              refine AW.ret ?_
              exact K.fin (V.one V.tmp) ⟨by simp_all [nodeM, bareM], rfl⟩

end Go.SX.Nb
namespace Go.SX.Nb
open Go Go.SX Go.Proofs
variable [ErrAt]
set_option maxRecDepth 4000
mutual
def itemsE (d : Int) : Expr → List (Int × Expr)
  | .mk o t v k => (d, .mk o t v k) :: itemsL (d + 1) k
def itemsL (d : Int) : List Expr → List (Int × Expr)
  | [] => []
  | e :: r => itemsE d e ++ itemsL d r
 end
theorem itemsE_eq (d : Int) (e : Expr) : itemsE d e = (d, e) :: itemsL (d + 1) e.kids := by cases e; rfl
theorem itemsL_append (d : Int) : ∀ a b, itemsL d (a ++ b) = itemsL d a ++ itemsL d b
  | [], b => rfl
  | e :: r, b => by rw [List.cons_append, itemsL, itemsL, itemsL_append d r b, List.append_assoc]
theorem itemsL_take (d : Int) (l : List Expr) {x : Nat} (h : x < l.length) : itemsL d (l.take (x + 1)) = itemsL d (l.take x) ++ itemsE d l[x] := by
  rw [List.take_succ_eq_append_getElem h, itemsL_append]
  simp [itemsL]
theorem itemsL_split (d : Int) (l : List Expr) {x : Nat} (h : x < l.length) : itemsL d l = itemsL d (l.take x) ++ (itemsE d l[x] ++ itemsL d (l.drop (x + 1))) := by
  have e : l = l.take x ++ (l[x] :: l.drop (x + 1)) := by rw [← List.drop_eq_getElem_cons h, List.take_append_drop]
  conv => lhs; rw [e]
  rw [itemsL_append, itemsL]
mutual
def sizeE : Expr → Nat
  | .mk _ _ _ k => 1 + sizeL k
def sizeL : List Expr → Nat
  | [] => 0
  | e :: r => sizeE e + sizeL r
 end
theorem sizeE_eq (e : Expr) : sizeE e = 1 + sizeL e.kids := by cases e; rfl
theorem sizeL_get : ∀ (l : List Expr) {x : Nat} (h : x < l.length), sizeE l[x] ≤ sizeL l
  | e :: r, 0, _ => by simp only [List.getElem_cons_zero, sizeL]; omega
  | e :: r, x + 1, h => by
    have := sizeL_get r (x := x) (by simpa using h)
    simp only [List.getElem_cons_succ, sizeL]
    omega
theorem size_kid (e : Expr) {x : Nat} (h : x < e.kids.length) : sizeE e.kids[x] + 1 ≤ sizeE e := by
  have := sizeL_get e.kids h
  rw [sizeE_eq e]
  omega
/-- Each node has few kids. -/
def okE : Nat → Expr → Prop
  | 0, _ => False
  | n + 1, e => e.text.length ≤ 1048576 ∧ e.kids.length ≤ 1048576 ∧ ∀ y ∈ e.kids, okE n y
/-- Who takes what a tree yields: item k is taken at U k; it goes on (go k) to U (k + 1), or ends at F k. Behind U k there may stand others' objects. -/
structure Takes (P : Program) (l : Nat) (L : List (Int × Expr)) (go : Nat → Bool) (U F : Nat → List AObj) (n0 : Nat) : Prop where
  lenU : ∀ k, (U k).length = n0
  lenF : ∀ k, (F k).length = n0
  lowU : ∀ k, ∀ x ∈ U k, ObjLow n0 x
  lowF : ∀ k, ∀ x ∈ F k, ObjLow n0 x
  lt : l < n0
  y : ∀ (X : List AObj) (k : Nat) (it : Int × Expr), L[k]? = some it → (∀ j, j < k → go j = true) → AYield P l [intA it.1, exprA it.2] (U k ++ X) (fun b H' => b = go k ∧ H' = (if go k then U (k + 1) else F k) ++ X)
theorem ObjLow.le {m m' : Nat} (h : m ≤ m') {x : AObj} (hx : ObjLow m x) : ObjLow m' x := by
  cases x with
  | cells t cs => exact fun y hy => (hx y hy).mono h
  | loop s pd fr sz ps as' bd df => exact ⟨fun s => (hx.1 s).mono h, Nat.lt_of_lt_of_le hx.2 h⟩
  | defs => trivial
  | dead => trivial
/-- What the walk over n items from k0 on comes to. -/
def walkPost (go : Nat → Bool) (U F : Nat → List AObj) (k0 n : Nat) (X : List AObj) : AV → List AObj → Prop := fun r H' =>
  ((∀ j, j < n → go (k0 + j) = true) ∧ r = boolA true ∧ H' = U (k0 + n) ++ X) ∨ (∃ j, j < n ∧ (∀ i, i < j → go (k0 + i) = true) ∧ go (k0 + j) = false ∧ r = boolA false ∧ H' = F (k0 + j) ++ X)
mutual
theorem exprA_low (m : Nat) : ∀ e, Low m (exprA e)
  | .mk o t v k => by
    rw [exprA]
    refine .agg _ fun y hy => ?_
    simp only [List.mem_cons, List.mem_nil_iff, or_false] at hy
    rcases hy with rfl | rfl | rfl | rfl | rfl | rfl
    · exact .v _
    · exact .v _
    · exact .v _
    · exact .v _
    · exact .v _
    · exact low_slice.2 (exprsL_low m k)
theorem exprsL_low (m : Nat) : ∀ l, ∀ y ∈ exprsL l, Low m y
  | [], y, hy => by cases hy
  | e :: r, y, hy => by
    rw [exprsL] at hy
    rcases List.mem_cons.1 hy with rfl | h
    · exact exprA_low m e
    · exact exprsL_low m r y h
 end
theorem append_split {V O A B own : List AObj} (h : V ++ O = A ++ (B ++ own)) (hl : V.length = (A ++ B).length) : V = A ++ B ∧ O = own := by
  rw [← List.append_assoc] at h
  exact List.append_inj h hl
theorem low_app {m : Nat} {A X : List AObj} (hA : ∀ x ∈ A, ObjLow m x) (hX : ∀ x ∈ X, ObjLow m x) : ∀ x ∈ A ++ X, ObjLow m x := fun x hx => by
  rcases List.mem_append.1 hx with h | h
  · exact hA x h
  · exact hX x h
theorem walk_cases {P : Program} {l : Nat} {L : List (Int × Expr)} {go : Nat → Bool} {U F : Nat → List AObj} {n0 k n K : Nat} {X own V O : List AObj} {r : AV} (T : Takes P l L go U F n0) (hV : V.length = (U K ++ X).length) (hp : walkPost go U F k n (X ++ own) r (V ++ O)) :
    ∃ b, r = boolA b ∧ O = own ∧ (if b then (∀ j, j < n → go (k + j) = true) ∧ V = U (k + n) ++ X else ∃ j, j < n ∧ (∀ i, i < j → go (k + i) = true) ∧ go (k + j) = false ∧ V = F (k + j) ++ X) ∧ ((∀ x ∈ U K ++ X, ObjLow V.length x) → ∀ x ∈ V, ObjLow V.length x) := by
  have hn : n0 ≤ V.length := by rw [hV, List.length_append, T.lenU]; omega
  rcases hp with ⟨h1, h2, h3⟩ | ⟨j, hj, h1, h2, h3, h4⟩
  · obtain ⟨e1, e2⟩ := append_split h3 (by rw [hV]; simp [T.lenU])
    refine ⟨true, h2, e2, ⟨h1, e1⟩, fun h => ?_⟩
    rw [e1] at h ⊢
    exact low_app (fun x hx => ObjLow.le (by rw [List.length_append, T.lenU]; omega) (T.lowU _ x hx)) (fun x hx => h x (List.mem_append_right _ hx))
  · obtain ⟨e1, e2⟩ := append_split h4 (by rw [hV]; simp [T.lenU, T.lenF])
    refine ⟨false, h3, e2, ⟨j, hj, h1, h2, e1⟩, fun h => ?_⟩
    rw [e1] at h ⊢
    exact low_app (fun x hx => ObjLow.le (by rw [List.length_append, T.lenF]; omega) (T.lowF _ x hx)) (fun x hx => h x (List.mem_append_right _ hx))
theorem itemsL_len1 (d : Int) (l : List Expr) {x : Nat} (h : x < l.length) : (itemsL d (l.take (x + 1))).length = (itemsL d (l.take x)).length + (itemsE d l[x]).length := by rw [itemsL_take d l h, List.length_append]
theorem items_at {d0 : Int} {e : Expr} {x : Nat} (h : x < e.kids.length) {j : Nat} {it : Int × Expr} (hj : (itemsE (d0 + 1) e.kids[x])[j]? = some it) : (itemsE d0 e)[1 + (itemsL (d0 + 1) (e.kids.take x)).length + j]? = some it := by
  rw [itemsE_eq d0 e, show 1 + (itemsL (d0 + 1) (e.kids.take x)).length + j = ((itemsL (d0 + 1) (e.kids.take x)).length + j) + 1 by omega, List.getElem?_cons_succ, itemsL_split (d0 + 1) e.kids h, List.getElem?_append_right (by omega)]
  rw [show (itemsL (d0 + 1) (e.kids.take x)).length + j - (itemsL (d0 + 1) (e.kids.take x)).length = j by omega, List.getElem?_append_left (List.getElem?_eq_some_iff.1 hj).1]
  exact hj
theorem items_len (d0 : Int) (e : Expr) {x : Nat} (h : x < e.kids.length) : 1 + (itemsL (d0 + 1) (e.kids.take x)).length + (itemsE (d0 + 1) e.kids[x]).length ≤ (itemsE d0 e).length := by
  rw [itemsE_eq d0 e, List.length_cons, itemsL_split (d0 + 1) e.kids h]
  simp only [List.length_append]
  omega
theorem c123 {l : Nat} {L : List (Int × Expr)} {go : Nat → Bool} {U F : Nat → List AObj} {n0 : Nat} (T : Takes Tryz.prog l L go U F n0) : ∀ (n : Nat) (e : Expr), okE n e → ∀ (d0 : Int) (k0 : Nat) (X : List AObj), 0 ≤ d0 → d0 + n ≤ 1099511627776 → (∀ (j : Nat) (it : Int × Expr), (itemsE d0 e)[j]? = some it → L[k0 + j]? = some it) → (∀ j, j < k0 → go j = true) → ACall Tryz.prog 123 [exprA e, intA d0, .yield l] (U k0 ++ X) (walkPost go U F k0 (itemsE d0 e).length X) := by
  intro n
  induction n with
  | zero => exact fun e h => h.elim
  | succ n ih =>
  intro e hok d0 k0 X hd hdn hit hgo
  have hlen0 : (U k0 ++ X).length = n0 + X.length := by rw [List.length_append, T.lenU]
  refine ACall.body [.tmp 6] [0, 1, 2] Tryz.func123 Tryz.ntmps123 (fun d => ?_)
  refine AW.seqR ?_
  refine R.boxRo ?_
  refine R.assign ?_
  refine R.fin [1, 2, 3] ?_
  refine W.seq ?_
  refine AW.seqR ?_
  refine R.move ?_
  refine R.move ?_
  refine R.loadRoN Tryz.isAgg69 Tryz.sizeOf69 ?_
  refine R.yield0 (T.y X k0 (d0, e) (hit 0 _ (by rw [itemsE_eq]; rfl)) hgo) ?_
  intro b Vv hV hb
  refine R.not ?_
  refine R.fin [1, 2, 3, 13] ?_
  refine W.cond (fun ht13 => ?_) (fun ht13 => ?_)
  · skip
    have hb' : b = false := by simpa using ht13
    subst hb'
    refine AW.seqR ?_
    refine R.assign ?_
    refine R.fin [6] ?_
    refine AW.ret ?_
    refine K.thR ?_
    exact K.fin (V.one V.tmp) (Or.inr ⟨0, by rw [itemsE_eq]; simp, fun i hi => by omega, hb.1.symm, rfl, by have := hb.2; rw [show go k0 = false from hb.1.symm] at this; exact this⟩)
  · skip
    have hb' : b = true := by simpa using ht13
    subst hb'
    have hgo0 : go (k0 + 0) = true := hb.1.symm
    have hVe : Vv = U (k0 + 1) ++ X := by have := hb.2; rw [show go k0 = true from hb.1.symm] at this; exact this
    subst hVe
    have h0x : 0 ≤ e.kids.length ∧ ∀ j, j < 1 + (itemsL (d0 + 1) (e.kids.take 0)).length → go (k0 + j) = true := ⟨Nat.zero_le _, fun j hj => by
      have : j = 0 := by simp [itemsL] at hj; omega
      subst this
      exact hgo0⟩
    refine AW.skip ?_
    refine K.thN ?_
    refine W.seq ?_
    refine AW.seqR ?_
    refine R.fieldAddrRo (off := 5) Tryz.underlying69 Tryz.sizeOf67 ?_
    refine R.loadRo Tryz.isAgg67 ?_
    refine R.len Tryz.underlying67 ?_
    refine R.move ?_
    refine R.fin [1, 2, 15, 16, 17] ?_
    refine AW.loopC (α := Nat) (fun x => ⟨28, setF 1 (intA d0) (setF 2 (.yield l) (setF 15 (.slice false 6 (e.kids.map exprA)) (setF 16 (intA e.kids.length) (setF 17 (intA (x : Nat)) (fun _ => .any))))), U (k0 + (1 + (itemsL (d0 + 1) (e.kids.take x)).length)) ++ X, [], [], none⟩) (fun x => x ≤ e.kids.length ∧ ∀ j, j < 1 + (itemsL (d0 + 1) (e.kids.take x)).length → go (k0 + j) = true) (fun x => e.kids.length - x) (0) h0x (StLe.of_eq (by simp [itemsL])) rfl (fun x hx => ?_)
    refine AW.seqR ?_
    refine R.lss ?_
    refine R.fin [1, 2, 15, 16, 17, 18] ?_
    refine W.condX (fun ht18 => ?_) (fun ht18 => ?_)
    · skip
      have hlt : x < e.kids.length := by simpa using ht18
      have hkl := hok.2.1
      refine W.seq ?_
      refine AW.block ?_
      refine AW.seqR ?_
      refine R.indexAddr (x) (exprA e.kids[x]) Tryz.underlying67 Tryz.sizeOf69 (getMap hlt) ?_
      refine R.loadRoN Tryz.isAgg69 Tryz.sizeOf69 ?_
      refine R.alloc Tryz.zeroValue69 ?_
      refine R.storeOwn Tryz.sizeOf69 ?_
      refine R.fin [1, 2, 8, 15, 16, 17] ?_
      refine AW.seqR ?_
      refine R.loadOwnN Tryz.isAgg69 Tryz.sizeOf69 ?_
      refine R.move ?_
      refine R.add64 ?_
      refine R.move ?_
      refine R.callG Tryz.call123 (args := [exprA e.kids[x], intA (d0 + 1), .yield l]) (by rw [List.append_assoc]; exact ih e.kids[x] (hok.2.2 _ (List.getElem_mem hlt)) (d0 + 1) (k0 + (1 + (itemsL (d0 + 1) (e.kids.take x)).length)) (X ++ _) (by omega) (by omega) (fun j it hj => by have := hit _ it (items_at hlt hj); rwa [← Nat.add_assoc] at this) (fun j hj => by rcases Nat.lt_or_ge j k0 with h | h; exact hgo j h; have := hx.2 (j - k0) (by omega); rwa [show k0 + (j - k0) = j by omega] at this)) ?_
      intro r Vv O hV hp
      obtain ⟨b, rfl, rfl, hc, hlowV⟩ := walk_cases T hV hp
      refine ⟨hlowV, fun o ho => by simp at ho, ?_⟩
      refine R.not ?_
      refine R.fin [1, 2, 15, 16, 17, 26] ?_
      refine W.cond (fun ht26 => ?_) (fun ht26 => ?_)
      · skip
        have hb' : b = false := by simpa using ht26
        subst hb'
        obtain ⟨j, hj, h1, h2, h3⟩ := hc
        refine AW.seqR ?_
        refine R.assign ?_
        refine R.fin [6] ?_
        refine AW.ret ?_
        refine K.blR ?_
        refine K.thR ?_
        refine K.lpR ?_
        refine K.thR ?_
        have hil := items_len d0 e hlt
        refine K.fin (V.one V.tmp) (Or.inr ⟨1 + (itemsL (d0 + 1) (e.kids.take x)).length + j, by omega, fun i hi => ?_, by rwa [Nat.add_assoc] at h2, rfl, by rwa [Nat.add_assoc] at h3⟩)
        rcases Nat.lt_or_ge i (1 + (itemsL (d0 + 1) (e.kids.take x)).length) with h | h
        · exact hx.2 i h
        · have := h1 (i - (1 + (itemsL (d0 + 1) (e.kids.take x)).length)) (by omega)
          rwa [show k0 + (1 + (itemsL (d0 + 1) (e.kids.take x)).length) + (i - (1 + (itemsL (d0 + 1) (e.kids.take x)).length)) = k0 + i by omega] at this
      · skip
        have hb' : b = true := by simpa using ht26
        subst hb'
        obtain ⟨h1, h3⟩ := hc
        refine AW.skip ?_
        refine K.blN ?_
        refine K.thN ?_
        refine AW.region ?_
        refine R.add64 ?_
        refine R.move ?_
        refine R.fin [1, 2, 15, 16, 17] ?_
        subst h3
        have hll := itemsL_len1 (d0 + 1) e.kids hlt
        have e1 : k0 + (1 + (itemsL (d0 + 1) (e.kids.take (x + 1))).length) = k0 + (1 + (itemsL (d0 + 1) (e.kids.take x)).length) + (itemsE (d0 + 1) e.kids[x]).length := by omega
        refine K.lpN (x + 1) ⟨hlt, fun j hj => ?_⟩ (by omega) ?_
        · rcases Nat.lt_or_ge j (1 + (itemsL (d0 + 1) (e.kids.take x)).length) with h | h
          · exact hx.2 j h
          · have := h1 (j - (1 + (itemsL (d0 + 1) (e.kids.take x)).length)) (by omega)
            rwa [show k0 + (1 + (itemsL (d0 + 1) (e.kids.take x)).length) + (j - (1 + (itemsL (d0 + 1) (e.kids.take x)).length)) = k0 + j by omega] at this
        simp only [e1]
        exact StCut.take (own := []) (fun _ => .refl _) (by repeat (first | exact lowF_any | refine lowF_set (by first | (simp [exprA_low]; done) | (have := T.lt; simp [T.lenU]; omega)) ?_)) (by simp) (by simp)
    · skip
      have hxe : e.kids.take x = e.kids := List.take_of_length_le (by simp at ht18; omega)
      refine K.lpE ?_
      refine K.thN ?_
      refine AW.seqR ?_
      refine R.assign ?_
      refine R.fin [6] ?_
      refine AW.ret ?_
      have hl2 : (itemsE d0 e).length = 1 + (itemsL (d0 + 1) (e.kids.take x)).length := by rw [itemsE_eq, hxe, List.length_cons]; omega
      exact K.fin (V.one V.tmp) (Or.inl ⟨fun j hj => hx.2 j (by omega), rfl, by rw [hl2]⟩)

end Go.SX.Nb
namespace Go.SX.Nb
open Go Go.SX Go.Proofs
variable [ErrAt]
set_option maxRecDepth 4000
abbrev exprC (e : Expr) : List AV := [.v (.int .i64 e.op), .v (sv e.text), .v (.int .i64 e.val.kind), .v (.int .i64 e.val.n), .v (sv e.val.s), .slice false 6 (e.kids.map exprA)]
/-- What taking all of a tree comes to. -/
def takePost (go : Nat → Bool) (U F : Nat → List AObj) (n : Nat) (H' : List AObj) : Prop :=
  ((∀ j, j < n → go j = true) ∧ H' = U n) ∨ (∃ j, j < n ∧ (∀ i, i < j → go i = true) ∧ go j = false ∧ H' = F j)
theorem c122 {l : Nat} {e : Expr} {go : Nat → Bool} {U F : Nat → List AObj} {n0 : Nat} (T : Takes Tryz.prog l (itemsE 1 e) go U F n0) (n : Nat) (hok : okE n e) (hn : n ≤ 1048576) : ACall Tryz.prog 122 [.yield l, .ro (exprC e)] (U 0) (fun r H' => takePost go U F (itemsE 1 e).length H') := by
  refine ACall.body [] [0, 1] Tryz.func122 Tryz.ntmps122 (fun d => ?_)
  refine AW.region ?_
  refine R.loadRoN Tryz.isAgg69 Tryz.sizeOf69 ?_
  refine R.move ?_
  refine R.callG Tryz.call123 (args := [exprA e, intA 1, .yield l]) (c123 T n e hok 1 0 [] (by omega) (by omega) (fun j it hj => by rwa [Nat.zero_add]) (fun j hj => by omega)) ?_
  intro r Vv O hV hp
  have hO : O = [] := by
    have h1 : (Vv ++ O).length = n0 := by rcases hp with ⟨_, _, h⟩ | ⟨j, _, _, _, _, h⟩ <;> rw [h] <;> simp [T.lenU, T.lenF]
    have h2 := T.lenU 0
    rw [List.length_append, hV, h2] at h1
    exact List.eq_nil_of_length_eq_zero (by omega)
  subst hO
  rw [List.append_nil] at hp
  have hq : takePost go U F (itemsE 1 e).length Vv := by
    rcases hp with ⟨h1, _, h⟩ | ⟨j, h1, h2, h3, _, h⟩
    · exact .inl ⟨fun j hj => by have := h1 j hj; rwa [Nat.zero_add] at this, by rw [h]; simp⟩
    · exact .inr ⟨j, h1, fun i hi => by have := h2 i hi; rwa [Nat.zero_add] at this, by rwa [Nat.zero_add] at h3, by rw [h]; simp⟩
  refine ⟨fun h => ?_, fun o ho => by simp at ho, ?_⟩
  · rcases hq with ⟨_, h⟩ | ⟨j, _, _, _, h⟩ <;> rw [h]
    · rw [T.lenU]; exact T.lowU _
    · rw [T.lenF]; exact T.lowF _
  refine R.fin [] ?_
  exact K.finN .nores (hp := hq)

theorem c89 (e : Expr) (Hp : List AObj) : AFun Tryz.prog 89 [exprA e] Hp (.fn (.func 122) [] [.ro (exprC e)]) := by
  refine ACall.body [.tmp 2] [0] Tryz.func89 Tryz.ntmps89 (fun d => ?_)
  refine AW.seqR ?_
  refine R.boxRo ?_
  refine R.assign ?_
  refine R.fin [1] ?_
  refine AW.seqR ?_
  refine R.makeFunc ?_
  refine R.assign ?_
  refine R.fin [2] ?_
  refine AW.ret ?_
  exact K.fin (V.one V.tmp) (hlow := by have := exprA_low Hp.length e; rw [exprA_eq] at this; simpa using this)

end Go.SX.Nb
namespace Go.SX.Nb
open Go Go.SX Go.Proofs
variable [ErrAt]
set_option maxRecDepth 4000
def goM (e : Expr) (k : Nat) : Bool := match (itemsE 1 e)[k]? with
  | some it => !((!nodeM it.2 || decide ((30 : Int) < it.1)) || decide ((300 : Int) < (k : Int) + 1))
  | none => true
def exprRightM (e : Expr) : Bool := (List.range (itemsE 1 e).length).all (goM e)
mutual
theorem items_okE : ∀ (n : Nat) (e : Expr), okE n e → ∀ d, ∀ it ∈ itemsE d e, it.2.text.length ≤ 1048576
  | 0, _, h, _, _, _ => h.elim
  | n + 1, e, h, d, it, hit => by
    rw [itemsE_eq] at hit
    rcases List.mem_cons.1 hit with rfl | h'
    · exact h.1
    · exact items_okL n e.kids h.2.2 (d + 1) it h'
  termination_by n e => (n, 0)
theorem items_okL : ∀ (n : Nat) (l : List Expr), (∀ y ∈ l, okE n y) → ∀ d, ∀ it ∈ itemsL d l, it.2.text.length ≤ 1048576
  | n, [], _, _, _, h => by cases h
  | n, e :: r, h, d, it, hit => by
    rw [itemsL] at hit
    rcases List.mem_append.1 hit with h' | h'
    · exact items_okE n e (h e (by simp)) d it h'
    · exact items_okL n r (fun y hy => h y (by simp [hy])) d it h'
  termination_by n l => (n, l.length + 1)
 end
theorem get_set_ne {U : List AObj} {i j : Nat} {x y : AObj} (h : U[i]? = some x) (hne : j ≠ i) : (U.set j y)[i]? = some x := by rw [List.getElem?_set_ne hne]; exact h
theorem goM_le {e : Expr} {k : Nat} {it : Int × Expr} (hit : (itemsE 1 e)[k]? = some it) (h : ∀ j, j < k → goM e j = true) : (k : Int) ≤ 300 := by
  rcases Nat.eq_zero_or_pos k with h0 | h0
  · omega
  · have hl := (List.getElem?_eq_some_iff.1 hit).1
    have := h (k - 1) (by omega)
    unfold goM at this
    rw [List.getElem?_eq_getElem (by omega)] at this
    simp at this
    omega
theorem goM_at {e : Expr} {k : Nat} {it : Int × Expr} (hit : (itemsE 1 e)[k]? = some it) : goM e k = !((!nodeM it.2 || decide ((30 : Int) < it.1)) || decide ((300 : Int) < (k : Int) + 1)) := by
  unfold goM; rw [hit]
theorem c41 (n : Nat) (e : Expr) (hok : okE n e) (hn : n ≤ 1048576) (Hp : List AObj) : AFun Tryz.prog 41 [exprA e] Hp (boolA (exprRightM e)) := by
  refine ACall.body [.cell 2 4] [0, 4, 5] Tryz.func41 Tryz.ntmps41 (fun d => ?_)
  refine AW.seqR ?_
  refine R.boxRo ?_
  refine R.alloc Tryz.zeroValue4 ?_
  refine R.fin [1, 2, 4, 5] ?_
  refine AW.seqR ?_
  refine R.alloc Tryz.zeroValue3 ?_
  refine R.storeOwn Tryz.sizeOf3 ?_
  refine R.fin [1, 2, 3, 4, 5] ?_
  refine W.seq ?_
  refine AW.seqR ?_
  refine R.assumeLow (fun hlow => ?_)
  refine R.loadRoN Tryz.isAgg69 Tryz.sizeOf69 ?_
  refine R.call Tryz.call89 (c89 e _) ?_
  refine R.fin [2, 3, 4, 5, 7] ?_
  refine AW.block ?_
  refine W.rangeV (m := 2) Tryz.call122 (fun FR as' bd' hFR has hbd => ?_)
  have hFRl : ∀ s, Low (Hp.length + 4) (FR s) := by
    intro s
    rw [hFR]
    refine Low.strip ?_
    revert s
    repeat (first | exact lowF_any | refine lowF_set (by simp [oid, exprA_low] <;> try omega) ?_)
  have hOl : ∀ {k : Nat}, ∀ x ∈ [AObj.cells 4 [boolA false], AObj.cells 3 [intA (k : Nat)], AObj.defs, AObj.loop LoopState.ready none FR 23 #[8, 9] as' bd' (oid Hp.length 2)], ObjLow (Hp.length + 4) x := by
    intro k x hx
    simp only [List.mem_cons, List.mem_nil_iff, or_false] at hx
    rcases hx with rfl | rfl | rfl | rfl
    · exact low1
    · exact low1
    · trivial
    · exact ⟨hFRl, by simp [oid]⟩
  have hOf : ∀ {k : Nat}, ∀ x ∈ [AObj.cells 4 [boolA false], AObj.cells 3 [intA ((k : Nat) + 1)], AObj.defs, AObj.loop LoopState.done (some Code.ret) FR 23 #[8, 9] as' bd' (oid Hp.length 2)], ObjLow (Hp.length + 4) x := by
    intro k x hx
    simp only [List.mem_cons, List.mem_nil_iff, or_false] at hx
    rcases hx with rfl | rfl | rfl | rfl
    · exact low1
    · exact low1
    · trivial
    · exact ⟨hFRl, by simp [oid]⟩
  refine ⟨fun _ H' => takePost (goM e) (fun k => Hp ++ [AObj.cells 4 [boolA false], AObj.cells 3 [intA (k : Nat)], AObj.defs, AObj.loop LoopState.ready none FR 23 #[8, 9] as' bd' (oid Hp.length 2)]) (fun k => Hp ++ [AObj.cells 4 [boolA false], AObj.cells 3 [intA ((k : Nat) + 1)], AObj.defs, AObj.loop LoopState.done (some Code.ret) FR 23 #[8, 9] as' bd' (oid Hp.length 2)]) (itemsE 1 e).length H', c122 (l := oid Hp.length 3) (go := goM e) (U := fun k => Hp ++ [AObj.cells 4 [boolA false], AObj.cells 3 [intA (k : Nat)], AObj.defs, AObj.loop LoopState.ready none FR 23 #[8, 9] as' bd' (oid Hp.length 2)]) (F := fun k => Hp ++ [AObj.cells 4 [boolA false], AObj.cells 3 [intA ((k : Nat) + 1)], AObj.defs, AObj.loop LoopState.done (some Code.ret) FR 23 #[8, 9] as' bd' (oid Hp.length 2)]) (n0 := Hp.length + 4) ⟨fun k => by simp, fun k => by simp, fun k x hx => ?_, fun k x hx => ?_, by simp [oid], fun X k it hit hgo => ?_⟩ n hok hn, ?_⟩
  · exact low_app (fun x hx => ObjLow.le (by omega) (hlow x hx)) hOl x hx
  · exact low_app (fun x hx => ObjLow.le (by omega) (hlow x hx)) hOf x hx
  · skip
    skip
    have hk3 := goM_le hit hgo
    generalize hV : (Hp ++ [AObj.cells 4 [boolA false], AObj.cells 3 [intA (k : Nat)], AObj.defs, AObj.loop LoopState.ready none FR 23 #[8, 9] as' bd' (oid Hp.length 2)] ++ X) = V
    have hL : V[oid Hp.length 3]? = some (AObj.loop LoopState.ready none FR 23 #[8, 9] as' bd' (oid Hp.length 2)) := by rw [← hV, List.append_assoc, get_oid]; rfl
    have hA0 : V[oid Hp.length 1]? = some (AObj.cells 3 [intA (k : Nat)]) := by rw [← hV, List.append_assoc, get_oid]; rfl
    have hB0 : V[oid Hp.length 0]? = some (AObj.cells 4 [boolA false]) := by rw [← hV, List.append_assoc, get_oid]; rfl
    refine AYield.ofRound (pd := none) (fr := FR) (sz := 23) (ps := #[8, 9]) (df := oid Hp.length 2) (asg := as') (bd := bd') hL rfl (by decide) (fun d => ?_)
    subst hFR has hbd
    refine W.keep [2, 3, 8, 9] ?_
    refine AW.seqR ?_
    refine R.assign ?_
    refine R.fin [2, 3, 4, 9] ?_
    refine AW.region ?_
    refine R.alloc Tryz.zeroValue69 ?_
    refine R.storeOwn Tryz.sizeOf69 ?_
    refine R.fin [2, 3, 4, 5] ?_
    refine ⟨rfl, none, hL, ?_⟩
    generalize hbz : (AObj.loop LoopState.busy _ _ _ _ _ _ _) = bz
    have hA : (V.set (oid Hp.length 3) bz)[oid Hp.length 1]? = some (AObj.cells 3 [intA (k : Nat)]) := by rw [List.getElem?_set_ne (oid_ne (by decide))]; exact hA0
    have hB : (V.set (oid Hp.length 3) bz)[oid Hp.length 0]? = some (AObj.cells 4 [boolA false]) := by rw [List.getElem?_set_ne (oid_ne (by decide))]; exact hB0
    refine AW.block ?_
    refine AW.seqR ?_
    refine R.loadUp Tryz.isAgg3 hA ?_
    refine R.add64 ?_
    refine R.storeUp Tryz.sizeOf3 hA ?_ ?_
    · simp
    refine R.fin [2, 3, 4, 5] ?_
    refine AW.seqR ?_
    refine R.loadOwnN Tryz.isAgg69 Tryz.sizeOf69 ?_
    refine R.call Tryz.call90 (c90 it.2 (items_okE n e hok 1 it (List.mem_of_getElem? hit)) _) ?_
    refine R.not ?_
    refine R.move ?_
    refine G.move ?_
    refine G.gtr ?_
    refine R.pickOr ?_
    refine R.move ?_
    refine G.loadUp Tryz.isAgg3 (getset hA) ?_
    refine G.gtr ?_
    refine R.pickOr ?_
    refine R.fin [2, 22] ?_
    refine W.cond (fun ht22 => ?_) (fun ht22 => ?_)
    · skip
      have hgf : goM e k = false := by rw [goM_at hit, ht22]; rfl
      refine AW.seqR ?_
      refine R.storeUp Tryz.sizeOf4 (get_set_ne (j := oid Hp.length 1) hB (oid_ne (by decide))) ?_ ?_
      · simp
      refine R.fin [] ?_
      refine AW.ret ?_
      refine K.blR ?_
      subst hbz
      refine K.rdR (keep2 hL (oid_ne (by decide)) (oid_ne (by decide))) ?_
      refine ⟨hgf.symm, ?_⟩
      rw [if_neg (by rw [hgf]; simp)]
      subst hV
      simp only [List.append_assoc, set_oid, List.cons_append, List.nil_append, List.set_cons_succ, List.set_cons_zero]
      try rfl
    · skip
      have hgt : goM e k = true := by rw [goM_at hit, ht22]; rfl
      refine AW.skip ?_
      refine K.blN ?_
      subst hbz
      refine K.rdN (keep1 hL (oid_ne (by decide))) ?_
      refine ⟨hgt.symm, ?_⟩
      rw [if_pos hgt]
      subst hV
      simp only [List.append_assoc, set_oid, List.cons_append, List.nil_append, List.set_cons_succ, List.set_cons_zero]
      try rfl
  · skip
    rintro r H' (⟨h1, rfl⟩ | ⟨j, hj, h1, h2, rfl⟩)
    · skip
      refine ⟨Hp, _, _, _, rfl, rfl, fun h => h, ?_, rfl, by simp, ?_⟩
      · intro o ho
        have : o = oid Hp.length 2 := by simpa using ho
        subst this
        rw [get_oid]
        rfl
      refine K.blN ?_
      refine K.thN ?_
      refine AW.seqR ?_
      refine R.storeOwn Tryz.sizeOf4 ?_
      refine R.fin [2] ?_
      refine AW.ret ?_
      exact K.fin (V.one (V.cell Tryz.isAgg4)) ⟨by rw [show exprRightM e = true from List.all_eq_true.2 fun j hj => h1 j (List.mem_range.1 hj)], rfl⟩
    · skip
      refine ⟨Hp, _, _, _, rfl, rfl, fun h => h, ?_, rfl, by simp, ?_⟩
      · intro o ho
        have : o = oid Hp.length 2 := by simpa using ho
        subst this
        rw [get_oid]
        rfl
      refine AW.ret ?_
      refine K.blR ?_
      refine K.thR ?_
      exact K.fin (V.one (V.cell Tryz.isAgg4)) ⟨by rw [show exprRightM e = false from List.all_eq_false.2 ⟨j, List.mem_range.2 hj, by rw [h2]; simp⟩], rfl⟩

end Go.SX.Nb
namespace Go.SX.Nb
open Go Go.SX Go.Proofs
variable [ErrAt]
set_option maxRecDepth 4000
def nameE (s : Str) : Expr := .mk 2 s ⟨0, 0, []⟩ []
theorem nameE_le (s : Str) : Le (.agg [intA 2, strA s, intA 0, intA 0, strA [], .nil]) (exprA (nameE s)) := by
  rw [exprA_eq]
  refine .agg _ _ rfl (by simp [AV.one, Value.oneCell', sv]) fun i y y' h1 h2 => ?_
  match i with
  | 0 => simp at h1 h2; subst h1; subst h2; exact .inl rfl
  | 1 => simp at h1 h2; subst h1; subst h2; exact .inl rfl
  | 2 => simp at h1 h2; subst h1; subst h2; exact .inl rfl
  | 3 => simp at h1 h2; subst h1; subst h2; exact .inl rfl
  | 4 => simp at h1 h2; subst h1; subst h2; exact .inl rfl
  | 5 => simp at h1 h2; subst h1; subst h2; exact .inr ⟨rfl, 6, rfl⟩
  | i + 6 => simp at h1
theorem nameE_ok (s : Str) (h : s.length ≤ 1048576) : okE 1 (nameE s) := ⟨h, by simp [nameE, Expr.kids], fun y hy => by cases hy⟩
def colAtP (c : List Col) (x : Nat) (y : Col) : Bool := !(((!exprRightM (nameE y.name)) || (kindNameM y.kind == [])) || (findM y.name c != (x : Int)))
def colsP (c : List Col) : Bool := c.zipIdx.all fun x => colAtP c x.2 x.1
theorem colsP_true {c : List Col} : colsP c = true ↔ ∀ (j : Nat) (y : Col), c[j]? = some y → colAtP c j y = true := zipIdx_all
theorem c71 (c : List Col) (hc : OkCols c) (Hp : List AObj) : AFun Tryz.prog 71 [colsA c] Hp (boolA (colsP c)) := by
  refine ACall.body [.tmp 2] [0] Tryz.func71 Tryz.ntmps71 (fun d => ?_)
  refine AW.seqR ?_
  refine R.assign ?_
  refine R.fin [0] ?_
  refine W.seq ?_
  refine AW.seqR ?_
  refine R.move ?_
  refine R.len Tryz.underlying37 ?_
  refine R.move ?_
  refine R.fin [0, 5, 6, 7] ?_
  refine AW.loopC (α := Nat) (fun x => ⟨32, setF 0 (colsA c) (setF 5 (colsA c) (setF 6 (intA c.length) (setF 7 (intA (x : Nat)) (fun _ => .any)))), Hp, [], [], none⟩) (fun x => x ≤ c.length ∧ ∀ (j : Nat) (y : Col), j < x → c[j]? = some y → colAtP c j y = true) (fun x => c.length - x) (0) (by simp) (StLe.of_eq (by simp)) rfl (fun x hx => ?_)
  refine AW.seqR ?_
  refine R.lss ?_
  refine R.fin [0, 5, 6, 7, 8] ?_
  refine W.condX (fun ht8 => ?_) (fun ht8 => ?_)
  · skip
    have hlt : x < c.length := by simpa using ht8
    have hcl := hc.len
    refine W.seq ?_
    refine AW.block ?_
    refine AW.seqR ?_
    refine R.move ?_
    refine R.indexAddr (x) (colA c[x]) Tryz.underlying37 Tryz.sizeOf65 (getMap hlt) ?_
    refine R.loadRoN Tryz.isAgg65 Tryz.sizeOf65 ?_
    refine R.alloc Tryz.zeroValue65 ?_
    refine R.assign ?_
    refine R.storeOwn Tryz.sizeOf65 ?_
    refine R.fin [0, 3, 4, 5, 6, 7] ?_
    refine AW.seqR ?_
    refine R.fieldAddrPtr (fo := 0) Tryz.underlying65 Tryz.sizeOf9 ?_
    refine R.loadOwn Tryz.isAgg9 ?_
    refine R.build (places := #[(0, 1), (1, 1), (2, 3), (5, 1)]) Tryz.underlying69 (fun w => by simp) Tryz.zeroValue69 ?_
    refine R.wk 14 _ (nameE_le c[x].name) ?_
    refine R.call Tryz.call41 (c41 1 (nameE c[x].name) (nameE_ok _ (hc.names _ (List.getElem_mem hlt))) (by decide) _) ?_
    refine R.not ?_
    refine R.move ?_
    refine G.fieldAddrPtr (fo := 1) Tryz.underlying65 Tryz.sizeOf3 ?_
    refine G.loadOwn Tryz.isAgg3 ?_
    refine G.call Tryz.call69 (fun hB => c69 c[x].kind _) ?_
    refine G.seql ?_
    refine R.pickOr ?_
    refine R.move ?_
    refine G.move ?_
    refine G.fieldAddrPtr (fo := 0) Tryz.underlying65 Tryz.sizeOf9 ?_
    refine G.loadOwn Tryz.isAgg9 ?_
    refine G.call Tryz.call100 (fun hB => c100 c hc c[x].name _) ?_
    refine G.move ?_
    refine G.neq ?_
    refine R.pickOr ?_
    refine R.fin [0, 5, 6, 7, 30] ?_
    refine W.cond (fun ht30 => ?_) (fun ht30 => ?_)
    · skip
      refine AW.seqR ?_
      refine R.assign ?_
      refine R.fin [2] ?_
      refine AW.ret ?_
      refine K.blR ?_
      refine K.thR ?_
      refine K.lpR ?_
      refine K.thR ?_
      exact K.fin (V.one V.tmp) ⟨by rw [show colsP c = false from Bool.eq_false_iff.2 fun h => by have := colsP_true.1 h x c[x] (List.getElem?_eq_getElem hlt); unfold colAtP at this; rw [ht30] at this; cases this], rfl⟩
    · skip
      refine AW.skip ?_
      refine K.blN ?_
      refine K.thN ?_
      refine AW.region ?_
      refine R.add64 ?_
      refine R.move ?_
      refine R.fin [0, 5, 6, 7] ?_
      refine K.lpN (x + 1) ⟨hlt, uptoI_succ hlt hx.2 (by unfold colAtP; rw [ht30]; rfl)⟩ (by omega) ?_
      exact StCut.take (own := []) (fun _ => .refl _) (by repeat (first | exact lowF_any | refine lowF_set (by simp) ?_)) (by simp) (by simp)
  · skip
    refine K.lpE ?_
    refine K.thN ?_
    refine AW.seqR ?_
    refine R.assign ?_
    refine R.fin [2] ?_
    refine AW.ret ?_
    exact K.fin (V.one V.tmp) ⟨by rw [colsP_true.2 (uptoI_all (by simp at ht8; omega) hx.2)], rfl⟩

end Go.SX.Nb
namespace Go.SX.Nb
open Go Go.SX Go.Proofs
variable [ErrAt]
set_option maxRecDepth 4000
def rightP (c : List Col) : Bool := decide ((c.length : Int) ≤ 12) && colsP c
theorem c23 (c : List Col) (hc : OkCols c) (Hp : List AObj) : AFun Tryz.prog 23 [colsA c] Hp (boolA (rightP c)) := by
  refine ACall.body [.tmp 2] [0] Tryz.func23 Tryz.ntmps23 (fun d => ?_)
  refine AW.seqR ?_
  refine R.assign ?_
  refine R.fin [0] ?_
  refine AW.seqR ?_
  refine R.move ?_
  refine R.len Tryz.underlying37 ?_
  refine R.leq ?_
  refine R.move ?_
  refine G.move ?_
  refine G.call Tryz.call71 (fun hB => c71 c hc _) ?_
  refine R.pickAnd ?_
  refine R.assign ?_
  refine R.fin [2] ?_
  refine AW.ret ?_
  exact K.fin (V.one V.tmp) ⟨by unfold rightP; simp, rfl⟩

end Go.SX.Nb
namespace Go.SX.Nb
open Go Go.SX Go.Proofs
variable [ErrAt]
set_option maxRecDepth 4000
theorem contains_nil (s : Str) (h : s ≠ []) : Lib.contains [] s = false := by
  cases s with
  | nil => exact absurd rfl h
  | cons a r => rfl
theorem contains_cons (b : UInt8) (l s : Str) : Lib.contains (b :: l) s = (s.isPrefixOf (b :: l) || Lib.contains l s) := by
  unfold Lib.contains
  have hge := Lib.index_ge l s
  rw [Lib.index]
  by_cases hp : s.isPrefixOf (b :: l) = true
  · rw [if_pos hp, hp]; rfl
  · rw [if_neg hp]
    have hp' : s.isPrefixOf (b :: l) = false := Bool.eq_false_iff.2 hp
    rw [hp', Bool.false_or]
    by_cases hi : Lib.index l s = -1
    · rw [hi]; rfl
    · have : (Lib.index l s == -1) = false := by simpa using hi
      rw [this, if_neg (by simp)]
      rw [decide_eq_decide]
      omega
/-- Words between blanks. -/
def textOf : List Str → Str
  | [] => [32]
  | w :: r => 32 :: (w ++ textOf r)
theorem skip_word (sub : Str) : ∀ (w R : Str), (32 : UInt8) ∉ w → Lib.contains (w ++ R) (32 :: sub) = Lib.contains R (32 :: sub)
  | [], R, _ => rfl
  | b :: w, R, h => by
    have hb : b ≠ 32 := fun e => h (by simp [e])
    rw [List.cons_append, contains_cons, skip_word sub w R (fun hm => h (by simp [hm]))]
    have : (32 :: sub).isPrefixOf (b :: (w ++ R)) = false := by
      simp [List.isPrefixOf, Ne.symm hb]
    rw [this, Bool.false_or]
theorem prefix_word : ∀ (s w : Str) (R : Str), (32 : UInt8) ∉ s → (32 : UInt8) ∉ w → (s ++ [32]).isPrefixOf (w ++ 32 :: R) = (s == w)
  | [], [], R, _, _ => by simp [List.isPrefixOf]
  | [], b :: w, R, _, hw => by
    have hb : (32 : UInt8) ≠ b := fun e => hw (by simp [e])
    simp [List.isPrefixOf, hb]
  | a :: s, [], R, hs, _ => by
    have hb : a ≠ (32 : UInt8) := fun e => hs (by simp [e])
    simp [List.isPrefixOf, hb]
  | a :: s, b :: w, R, hs, hw => by
    have ih := prefix_word s w R (fun h => hs (by simp [h])) (fun h => hw (by simp [h]))
    rw [List.cons_append, List.cons_append, List.isPrefixOf, ih]
    rfl
theorem textOf_head : ∀ ws, ∃ R, textOf ws = 32 :: R
  | [] => ⟨[], rfl⟩
  | w :: r => ⟨_, rfl⟩
theorem contains_words (s : Str) (hs : (32 : UInt8) ∉ s) : ∀ (ws : List Str), (∀ w ∈ ws, (32 : UInt8) ∉ w) → Lib.contains (textOf ws) ([32] ++ s ++ [32]) = ws.any (· == s)
  | [], _ => by
    rw [textOf, contains_cons, contains_nil _ (by simp), Bool.or_false]
    cases s <;> simp [List.isPrefixOf]
  | w :: r, h => by
    have hw := h w (by simp)
    obtain ⟨R, hR⟩ := textOf_head r
    have ih := contains_words s hs r (fun x hx => h x (by simp [hx]))
    have e1 : ([32] ++ s ++ [32] : Str) = 32 :: (s ++ [32]) := rfl
    rw [textOf, contains_cons, e1, skip_word _ w _ hw, ← e1, ih, List.any_cons]
    congr 1
    rw [e1, hR]
    have := prefix_word s w R hs hw
    rw [List.isPrefixOf, this]
    simp only [beq_self_eq_true, Bool.true_and]
    by_cases hsw : s = w
    · subst hsw; rfl
    · rw [beq_eq_false_iff_ne.2 hsw, beq_eq_false_iff_ne.2 (Ne.symm hsw)]
theorem reserved_text : reservedText = textOf words := by kernel_rfl
theorem words_plain : ∀ w ∈ words, (32 : UInt8) ∉ w := by decide
theorem no_blank (s : Str) : Lib.contains s [32] = s.contains 32 := by
  induction s with
  | nil => rfl
  | cons b l ih =>
    rw [contains_cons, ih, List.contains_cons]
    congr 1
    simp [List.isPrefixOf]
theorem lexReserved_eq (s : Str) (h1 : s ≠ []) (h2 : (32 : UInt8) ∉ s) : lexReservedM s = reservedM s := by
  unfold lexReservedM
  rw [no_blank, reserved_text, contains_words s h2 words words_plain]
  have e1 : (s == []) = false := by simpa using h1
  have e2 : s.contains 32 = false := by simpa using h2
  rw [e1, e2]
  rfl
end Go.SX.Nb
namespace Go.SX.Nb
open Go Go.SX Go.Proofs
variable [ErrAt]
set_option maxRecDepth 8000
theorem u8_all {p : UInt8 → Bool} (h : ((List.range 256).all fun n => p (UInt8.ofNat n)) = true) (c : UInt8) : p c = true := by
  have := List.all_eq_true.1 h c.toNat (List.mem_range.2 c.toNat_lt)
  simpa using this
theorem tails_char (c : UInt8) : tails.contains c = charM c := by
  have := u8_all (p := fun c => tails.contains c == charM c) (by kernel_rfl) c
  simpa using this
theorem letters_char (c : UInt8) : letters.contains c = letterM c := by
  have := u8_all (p := fun c => letters.contains c == letterM c) (by kernel_rfl) c
  simpa using this
theorem blank_char : charM 32 = false := by kernel_rfl
theorem run_all (s of : Str) : (runM s of == (s.length : Int)) = s.all (of.contains ·) := by
  unfold runM Lib.trimLeftS
  induction s with
  | nil => rfl
  | cons c r ih =>
    rw [List.dropWhile_cons, List.all_cons]
    cases hc : of.contains c with
    | true =>
      simp only [if_true, Bool.true_and]
      rw [← ih, Bool.eq_iff_iff]
      have := (List.dropWhile_sublist (fun x => of.contains x) (l := r)).length_le
      simp only [beq_iff_eq, List.length_cons]
      omega
    | false =>
      simp only [Bool.false_eq_true, if_false, Bool.false_and]
      rw [beq_eq_false_iff_ne]
      simp only [List.length_cons]
      omega
theorem lexName_eq (s : Str) : lexNameM s = nameM s := by
  cases s with
  | nil => rfl
  | cons c r =>
    unfold lexNameM
    rw [run_all]
    have e1 : ((c :: r).all fun x => tails.contains x) = (c :: r).all charM := by
      congr 1
      funext x
      exact tails_char x
    have e2 : (runM ((c :: r).take 1) letters == 1) = letterM c := by
      have := run_all [c] letters
      rw [← letters_char c]
      simpa using this
    rw [e1, e2]
    have e3 : ((c :: r : Str) == []) = false := rfl
    have e4 : decide (((c :: r).length : Int) ≤ 16) = decide ((c :: r).length ≤ 16) := by
      rw [decide_eq_decide]; omega
    rw [e3, e4]
    show _ = (decide ((c :: r).length ≤ 16) && letterM c && !reservedM (c :: r) && (c :: r).all charM)
    cases ha : (c :: r).all charM with
    | false => simp
    | true =>
      have hb : (32 : UInt8) ∉ (c :: r) := fun hm => by
        have := List.all_eq_true.1 ha 32 hm
        rw [blank_char] at this
        cases this
      rw [lexReserved_eq _ (by simp) hb]
      simp
theorem right_name (s : Str) : exprRightM (nameE s) = nameM s := by
  have e : itemsE 1 (nameE s) = [(1, nameE s)] := by rw [itemsE_eq]; rfl
  unfold exprRightM
  rw [e]
  show ((List.range 1).all (goM (nameE s))) = _
  have g : goM (nameE s) 0 = nodeM (nameE s) := by
    unfold goM
    rw [e]
    simp
  simp only [List.range_succ, List.range_zero, List.nil_append, List.all_cons, List.all_nil, Bool.and_true]
  rw [g, ← lexName_eq]
  simp [nodeM, nameE, Expr.op, Expr.val, Expr.text, Expr.kids, bareM]
theorem kindName_nil (k : Int) : (kindNameM k == []) = (decide (k < 1) || decide ((3 : Int) < k)) := by
  unfold kindNameM
  by_cases h : k < 1 ∨ 3 < k
  · rw [if_pos h]
    have : (decide (k < 1) || decide ((3 : Int) < k)) = true := by simpa using h
    rw [this]; rfl
  · rw [if_neg h]
    have : (decide (k < 1) || decide ((3 : Int) < k)) = false := by simp; omega
    rw [this]
    have hk : k = 1 ∨ k = 2 ∨ k = 3 := by omega
    rcases hk with rfl | rfl | rfl <;> rfl
theorem cols_eq (c : List Col) : colsP c = colsM c := by
  unfold colsP colsM
  congr 1
  funext x
  unfold colAtP colAt
  rw [right_name, kindName_nil, ← Bool.or_assoc (!nameM x.1.name)]
theorem right_eq (c : List Col) : rightP c = rightM c := by unfold rightP rightM; rw [cols_eq]
end Go.SX.Nb
namespace Go.SX.Nb
open Go Go.SX Go.Proofs
variable [ErrAt]
set_option maxRecDepth 4000
def tokAt (l : List Tok) (i : Nat) : Tok := l.getD i ⟨0, [], 0⟩
theorem getTok {l : List Tok} {i : Nat} (h : i < l.length) : (l.map tokA)[i]? = some (tokA (tokAt l i)) := by
  rw [List.getElem?_map, List.getElem?_eq_getElem h]
  unfold tokAt
  rw [List.getD_eq_getElem?_getD, List.getElem?_eq_getElem h]
  rfl
def awakeS : Str := [97, 60, 61, 98]
def awakeL : List Tok := [⟨1, [97], 0⟩, ⟨5, [60, 61], 1⟩, ⟨1, [98], 3⟩, ⟨0, [], 4⟩]
theorem awake_lex : lexM awakeS = (awakeL, 0, 0) := by kernel_rfl
theorem c15a (Hp : List AObj) : AFun Tryz.prog 15 [strA awakeS] Hp (.tup [toksA awakeL, .agg [intA 0, intA 0]]) := by
  have := c15 awakeS (by decide) Hp
  rw [awake_lex] at this
  exact this
theorem c13 (Hp : List AObj) : AFun Tryz.prog 13 [] Hp (boolA true) := by
  refine ACall.body [.tmp 0] [] Tryz.func13 Tryz.ntmps13 (fun d => ?_)
  refine AW.seqR ?_
  refine R.assign ?_
  refine R.fin [] ?_
  refine AW.seqR ?_
  refine R.call Tryz.call15 (c15a _) ?_
  refine R.move ?_
  refine R.extract ?_
  refine R.extract ?_
  refine R.alloc Tryz.zeroValue27 ?_
  refine R.assign ?_
  refine R.storeOwn Tryz.sizeOf27 ?_
  refine R.fin [1, 2] ?_
  refine AW.seqR ?_
  refine R.fieldAddrPtr (fo := 0) Tryz.underlying27 Tryz.sizeOf25 ?_
  refine R.loadOwn Tryz.isAgg25 ?_
  refine R.eql ?_
  refine R.move ?_
  refine G.move ?_
  refine G.len Tryz.underlying24 ?_
  refine G.eql ?_
  refine R.pickAnd ?_
  refine R.move ?_
  refine G.move ?_
  refine G.indexAddr (1) (tokA (tokAt awakeL 1)) Tryz.underlying24 Tryz.sizeOf31 (fun _ => rfl) ?_
  refine G.fieldAddrRo (off := 1) Tryz.underlying31 Tryz.sizeOf9 ?_
  refine G.loadRo Tryz.isAgg9 ?_
  refine G.seql ?_
  refine R.pickAnd ?_
  refine R.move ?_
  refine G.move ?_
  refine G.indexAddr (3) (tokA (tokAt awakeL 3)) Tryz.underlying24 Tryz.sizeOf31 (fun _ => rfl) ?_
  refine G.fieldAddrRo (off := 2) Tryz.underlying31 Tryz.sizeOf3 ?_
  refine G.loadRo Tryz.isAgg3 ?_
  refine G.eql ?_
  refine R.pickAnd ?_
  refine R.assign ?_
  refine R.fin [0] ?_
  refine AW.ret ?_
  exact K.fin (V.one V.tmp) ⟨by kernel_rfl, rfl⟩

theorem one_g1 {l : List Tok} {a : Bool} (h : ((a && (((l.map tokA).length : Int) == 2)) == true) = true) : (l.map tokA)[0]? = some (tokA (tokAt l 0)) :=
  getTok (by simp only [beq_iff_eq, Bool.and_eq_true, List.length_map] at h; omega)
theorem one_g2 {l : List Tok} {a c : Bool} (h : (((a && (((l.map tokA).length : Int) == 2)) && c) == true) = true) : (l.map tokA)[0]? = some (tokA (tokAt l 0)) :=
  getTok (by simp only [beq_iff_eq, Bool.and_eq_true, List.length_map] at h; omega)
def oneM (s : Str) : Bool := ((((lexM s).2.1 == 0) && (((lexM s).1.length : Int) == 2)) && ((tokAt (lexM s).1 0).kind == 1)) && ((tokAt (lexM s).1 0).text == s)
def namesM (s : Str) : Bool := if 100 < s.length then true else ((lexNameM s == nameM s) && (lexNameM s == oneM s)) && (lexReservedM s == reservedM s)
theorem c3 (s : Str) (Hp : List AObj) : AFun Tryz.prog 3 [strA s] Hp (boolA (namesM s)) := by
  refine ACall.body [.tmp 2] [0] Tryz.func3 Tryz.ntmps3 (fun d => ?_)
  refine AW.seqR ?_
  refine R.assign ?_
  refine R.fin [0] ?_
  refine W.seq ?_
  refine AW.seqR ?_
  refine R.call Tryz.call13 (c13 _) ?_
  refine R.not ?_
  refine R.fin [0, 8] ?_
  refine W.cond (fun ht8 => ?_) (fun ht8 => ?_)
  · skip
    cases ht8
  · skip
    refine AW.skip ?_
    refine K.thN ?_
    refine W.seq ?_
    refine AW.seqR ?_
    refine R.move ?_
    refine R.slen Tryz.underlying9 ?_
    refine R.gtr ?_
    refine R.fin [0, 11] ?_
    refine W.cond (fun ht11 => ?_) (fun ht11 => ?_)
    · skip
      have hnm : namesM s = true := by unfold namesM; rw [if_pos (by simp at ht11; omega)]
      refine AW.seqR ?_
      refine R.assign ?_
      refine R.fin [2] ?_
      refine AW.ret ?_
      refine K.thR ?_
      exact K.fin (V.one V.tmp) ⟨by simp only [hnm, oneM, List.length_map], rfl⟩
    · skip
      have hl1 : ¬ 100 < s.length := by simp at ht11; omega
      have hnm : namesM s = (((lexNameM s == nameM s) && (lexNameM s == oneM s)) && (lexReservedM s == reservedM s)) := by unfold namesM; rw [if_neg hl1]
      refine AW.skip ?_
      refine K.thN ?_
      refine AW.seqR ?_
      refine R.move ?_
      refine R.call Tryz.call14 (c14 s (by omega) _) ?_
      refine R.assign ?_
      refine R.fin [0, 3] ?_
      refine AW.seqR ?_
      refine R.move ?_
      refine R.call Tryz.call15 (c15 s (by omega) _) ?_
      refine R.move ?_
      refine R.extract ?_
      refine R.extract ?_
      refine R.alloc Tryz.zeroValue27 ?_
      refine R.assign ?_
      refine R.storeOwn Tryz.sizeOf27 ?_
      refine R.fin [0, 3, 4, 5] ?_
      refine AW.seqR ?_
      refine R.fieldAddrPtr (fo := 0) Tryz.underlying27 Tryz.sizeOf25 ?_
      refine R.loadOwn Tryz.isAgg25 ?_
      refine R.eql ?_
      refine R.move ?_
      refine G.move ?_
      refine G.len Tryz.underlying24 ?_
      refine G.eql ?_
      refine R.pickAnd ?_
      refine R.move ?_
      refine G.move ?_
      refine G.indexAddr (0) (tokA (tokAt (lexM s).1 0)) Tryz.underlying24 Tryz.sizeOf31 (fun hC => one_g1 hC) ?_
      refine G.fieldAddrRo (off := 0) Tryz.underlying31 Tryz.sizeOf3 ?_
      refine G.loadRo Tryz.isAgg3 ?_
      refine G.eql ?_
      refine R.pickAnd ?_
      refine R.move ?_
      refine G.move ?_
      refine G.indexAddr (0) (tokA (tokAt (lexM s).1 0)) Tryz.underlying24 Tryz.sizeOf31 (fun hC => one_g2 hC) ?_
      refine G.fieldAddrRo (off := 1) Tryz.underlying31 Tryz.sizeOf9 ?_
      refine G.loadRo Tryz.isAgg9 ?_
      refine G.move ?_
      refine G.seql ?_
      refine R.pickAnd ?_
      refine R.assign ?_
      refine R.fin [0, 3, 6] ?_
      refine AW.seqR ?_
      refine R.move ?_
      refine R.move ?_
      refine R.call Tryz.call16 (c16 s (by omega) _) ?_
      refine R.beql Tryz.underlying4 ?_
      refine R.move ?_
      refine G.move ?_
      refine G.move ?_
      refine G.beql Tryz.underlying4 ?_
      refine R.pickAnd ?_
      refine R.move ?_
      refine G.move ?_
      refine G.call Tryz.call17 (fun hB => c17 s (by omega) _) ?_
      refine G.move ?_
      refine G.call Tryz.call18 (fun hB => c18 s _) ?_
      refine G.beql Tryz.underlying4 ?_
      refine R.pickAnd ?_
      refine R.assign ?_
      refine R.fin [2] ?_
      refine AW.ret ?_
      exact K.fin (V.one V.tmp) ⟨by simp only [hnm, oneM, List.length_map], rfl⟩

end Go.SX.Nb
namespace Go.SX.Nb
open Go Go.SX Go.Proofs
variable [ErrAt]
set_option maxRecDepth 4000
theorem itemsF_nil (f k : Nat) : itemsF f k [] = [] := by cases f <;> rfl
theorem gap_letter {c : UInt8} (h : letters.contains c = true) (r : Str) : gapM (c :: r) = 0 := by
  have hb : blanks.contains c = false ∧ (c == 35) = false := by
    have := u8_all (p := fun c => !letters.contains c || (!blanks.contains c && !(c == 35))) (by kernel_rfl) c
    rw [h] at this
    simpa using this
  unfold gapM
  rw [skipB, if_neg (by rw [hb.1]; simp), if_neg (by rw [hb.2]; simp)]
  omega
theorem takeWhile_all {p : UInt8 → Bool} : ∀ l : Str, l.all p = true → l.takeWhile p = l
  | [], _ => rfl
  | c :: r, h => by
    rw [List.all_cons, Bool.and_eq_true] at h
    rw [List.takeWhile_cons, if_pos h.1, takeWhile_all r h.2]
theorem name_word {s : Str} (h : lexNameM s = true) : wordM s = (1, s, (s.length : Int), 0) ∧ gapM s = 0 ∧ s ≠ [] ∧ s.length ≤ 16 := by
  have h' := h
  unfold lexNameM at h
  simp only [Bool.and_eq_true, Bool.not_eq_true', beq_eq_false_iff_ne, decide_eq_true_eq] at h
  obtain ⟨⟨⟨⟨h1, h2⟩, h3⟩, h4⟩, h5⟩ := h
  cases s with
  | nil => exact absurd rfl h1
  | cons c r =>
    have hl : letters.contains c = true := by
      have e := run_all [c] letters
      have h4' : (runM [c] letters == (([c] : Str).length : Int)) = true := h4
      rw [e] at h4'
      simpa using h4'
    have hr : runM ((c :: r).take 1) letters = 1 := by simpa using h4
    have hw : wordOf (c :: r) tails = c :: r := by
      rw [run_all] at h3
      unfold wordOf
      rw [take_run]
      exact takeWhile_all _ h3
    refine ⟨?_, gap_letter hl r, h1, by omega⟩
    unfold wordM
    rw [if_pos (by rw [hr]; decide)]
    unfold namedM
    rw [hw, if_neg (by rw [h5]; simp), if_neg (by rw [h']; simp)]
end Go.SX.Nb
