/- Texts on the way to this: ExprPuts answers true for whatever can be read: the card of the law. (part 6) -/
import Derived.Test.YtefgfjedonchdaaGreatDoorExprPutsCardSaidPart5
set_option linter.all false
namespace Go.SX.Nb
open Go Go.SX Go.Proofs Go.RowKit Go.Sort
variable [ErrAt]
set_option maxRecDepth 4000
theorem c70 (l : List Str) (sep : Str) (hn : l.length ≤ 140737488355328) (hl : (Lib.join l sep).length ≤ 140737488355328) (Hp : List AObj) : AFun Tryz.prog 70 [strsA l, strA sep] Hp (strA (Lib.join l sep)) := by
  have e : strsA l = .slice false 1 ((l.map sv).map .v) := by rw [List.map_map]; rfl
  rw [e]
  refine AFun.libSl (xs := [sv sep]) (v := sv (Lib.join l sep)) (fun G w => .v _ _) (fun w u hg hs => ?_)
  rcases hs with ⟨rfl, he⟩ | ⟨ad, c, rfl, hc, hsp, hcell⟩
  · have : l = [] := by simpa using he
    subst this
    refine (Any.strings_Join_none Tryz.lays156 xJoin none 0 ⟨sep.toArray⟩ w).mono ?_
    rintro e w' ⟨rfl, rfl⟩
    exact ⟨rfl, Below.refl _ _⟩
  · rw [List.length_map] at hc
    match l, hn, hl, hc, hsp, hcell with
    | [], _, _, _, _, _ =>
      refine (Any.strings_Join_none Tryz.lays156 xJoin (some ad) c ⟨sep.toArray⟩ w).mono ?_
      rintro e w' ⟨rfl, rfl⟩
      exact ⟨rfl, Below.refl _ _⟩
    | [x], _, _, hc, hsp, hcell =>
      obtain ⟨bk, o, spot⟩ := ad
      have hs0 : spot = none := hsp (by simp)
      subst hs0
      refine (Any.strings_Join_one Tryz.lays156 xJoin bk o c ⟨x.toArray⟩ ⟨sep.toArray⟩ w (by have := hcell 0 (sv x) rfl; simpa using this)).mono ?_
      rintro e w' ⟨rfl, rfl⟩
      exact ⟨by rw [Lib.join_one], Below.refl _ _⟩
    | x :: y :: r, hn, hl, hc, hsp, hcell =>
      obtain ⟨bk, o, spot⟩ := ad
      have hs0 : spot = none := hsp (by simp)
      subst hs0
      have h0 := hcell 0 (sv x) rfl
      have hb : bk < w.heap.size := World.block_lt_of_cell? _ _ h0
      have hd : ((x :: y :: r).map fun z => (⟨z.toArray⟩ : ByteArray)).map (·.data.toList) = x :: y :: r := by
        rw [List.map_map]
        exact List.map_id'' (fun z => by simp) _
      have := Any.strings_Join_many Tryz.lays156 xJoin bk o c ((x :: y :: r).map fun z => (⟨z.toArray⟩ : ByteArray)) ⟨sep.toArray⟩ w (fun j z hz => by
        rw [List.getElem?_map, Option.map_eq_some_iff] at hz
        obtain ⟨z', hz', rfl⟩ := hz
        exact hcell j _ (by rw [List.getElem?_map, hz']; rfl)) hb (by simp) (by simpa using hn) (by simpa using hc) (by rw [hd]; simpa using hl)
      rw [hd, List.length_map] at this
      rw [List.length_map]
      refine this.mono ?_
      rintro e w' ⟨rfl, hb'⟩
      exact ⟨by simp, hb'⟩
end Go.SX.Nb
namespace Go.SX.Nb
open Go Go.SX Go.Proofs
variable [ErrAt]
set_option maxRecDepth 4000
/-- The lexer from a place between two words on. -/
def lexG (f q : Nat) (s : Str) : List (Tok × Int) := itemsF f (q + gapM s) (s.drop (gapM s))
theorem itemsT_G (s : Str) : itemsT s = lexG (s.length + 1) 0 s := by unfold itemsT lexG; rw [Nat.zero_add]
theorem itemsF_step {f q : Nat} {s : Str} (h : s ≠ []) : ∃ (n : Nat), itemsF (f + 1) q s = (⟨(wordM s).1, (wordM s).2.1, q⟩, (wordM s).2.2.2) :: (if (wordM s).2.2.2 = 0 then lexG f (q + n) (s.drop n) else []) ∧ ((wordM s).2.2.2 = 0 → (wordM s).2.2.1 = (n : Int) ∧ 1 ≤ n ∧ n ≤ s.length) := by
  refine ⟨(wordM s).2.2.1.toNat, ?_, fun he => ?_⟩
  · rw [itemsF_cons h]
    simp only [beq_iff_eq]
    rfl
  · obtain ⟨n, h1, h2, h3⟩ := word_ok (s := s) (by cases s with | nil => exact absurd rfl h | cons c r => simp) he
    rw [h1]
    exact ⟨rfl, by simpa using h2, by simpa using h3⟩
theorem itemsF_fuel : ∀ (f f' q : Nat) (s : Str), s.length < f → s.length < f' → itemsF f q s = itemsF f' q s
  | 0, _, _, _, h, _ => by omega
  | _ + 1, 0, _, _, _, h => by omega
  | f + 1, g + 1, q, s, h1, h2 => by
    by_cases hs : s = []
    · subst hs; rfl
    · rw [itemsF_cons hs, itemsF_cons hs]
      congr 1
      by_cases he : (wordM s).2.2.2 = 0
      · obtain ⟨n, hn, k1, k2⟩ := word_ok (s := s) (by cases s with | nil => exact absurd rfl hs | cons c r => simp) he
        rw [he]
        simp only [beq_self_eq_true, if_true]
        rw [hn, Int.toNat_natCast]
        exact itemsF_fuel f g _ _ (by simp only [List.length_drop]; omega) (by simp only [List.length_drop]; omega)
      · rw [if_neg (by simpa using he), if_neg (by simpa using he)]
def shiftT (d : Nat) (it : Tok × Int) : Tok × Int := (⟨it.1.kind, it.1.text, it.1.at_ + d⟩, it.2)
theorem itemsF_shift (d : Nat) : ∀ (f q : Nat) (s : Str), itemsF f (q + d) s = (itemsF f q s).map (shiftT d)
  | 0, _, _ => rfl
  | f + 1, q, s => by
    by_cases hs : s = []
    · subst hs; rfl
    · rw [itemsF_cons hs, itemsF_cons hs, List.map_cons]
      congr 1
      split
      · have e : ∀ a b : Nat, q + d + a + b = q + a + b + d := fun a b => by omega
        rw [e, itemsF_shift d f]
      · rfl
theorem itemsF_ge : ∀ (f q : Nat) (s : Str), ∀ it ∈ itemsF f q s, q ≤ it.1.at_
  | 0, _, _, it, h => by cases h
  | f + 1, q, s, it, h => by
    by_cases hs : s = []
    · subst hs; cases h
    · rw [itemsF_cons hs] at h
      rcases List.mem_cons.1 h with rfl | h
      · exact Nat.le_refl _
      · split at h
        · have := itemsF_ge f _ _ it h
          omega
        · cases h

/-! ### Gaps -/
theorem skip_suffix : ∀ (s : Str) (b : Bool), s.drop (s.length - (skipB s b).length) = skipB s b
  | [], b => by cases b <;> rfl
  | c :: r, b => by
    have ih := skip_suffix r
    have hl := skip_le r
    have key : ∀ b', (c :: r).drop ((c :: r).length - (skipB r b').length) = skipB r b' := fun b' => by
      have := hl b'
      rw [List.length_cons, show r.length + 1 - (skipB r b').length = (r.length - (skipB r b').length) + 1 by omega, List.drop_succ_cons]
      exact ih b'
    cases b with
    | false =>
      rw [skipB]
      split
      · exact key _
      · split
        · exact key _
        · simp
    | true =>
      rw [skipB]
      split
      · exact key _
      · exact key _
theorem gap_drop (s : Str) : s.drop (gapM s) = skipB s false := skip_suffix s false
/-- Where a gap ends at a place, it does so whatever stands behind. -/
theorem skip_stop {B : Str} (hB : B ≠ []) (Z : Str) : ∀ (U : Str) (b : Bool), skipB (U ++ B) b = B → skipB (U ++ Z) b = skipB Z false
  | [], false, _ => rfl
  | [], true, h => by
    cases B with
    | nil => exact absurd rfl hB
    | cons c r =>
      rw [List.nil_append, skipB] at h
      have h1 := skip_le r
      split at h
      · have := congrArg List.length h; have := h1 false; simp at *; omega
      · have := congrArg List.length h; have := h1 true; simp at *; omega
  | c :: U, false, h => by
    rw [List.cons_append, skipB] at h ⊢
    split at h
    · rename_i hc; rw [if_pos hc]; exact skip_stop hB Z U false h
    · rename_i hc
      rw [if_neg hc]
      split at h
      · rename_i hc'; rw [if_pos hc']; exact skip_stop hB Z U true h
      · have := congrArg List.length h; simp at this; omega
  | c :: U, true, h => by
    rw [List.cons_append, skipB] at h ⊢
    split at h
    · rename_i hc; rw [if_pos hc]; exact skip_stop hB Z U false h
    · rename_i hc; rw [if_neg hc]; exact skip_stop hB Z U true h
theorem skip_before {B : Str} (Z : Str) {V : Str} (hV : V ≠ []) : ∀ (U : Str) (b : Bool), skipB (U ++ B) b = V ++ B → skipB (U ++ Z) b = V ++ Z
  | [], b, h => by
    have h1 := skip_le B b
    have := congrArg List.length h
    cases V with
    | nil => exact absurd rfl hV
    | cons v V => simp at this; omega
  | c :: U, false, h => by
    rw [List.cons_append, skipB] at h ⊢
    split at h
    · rename_i hc; rw [if_pos hc]; exact skip_before Z hV U false h
    · rename_i hc
      rw [if_neg hc]
      split at h
      · rename_i hc'; rw [if_pos hc']; exact skip_before Z hV U true h
      · rename_i hc'
        rw [if_neg hc']
        have : c :: U = V := by
          rw [← List.cons_append] at h
          exact List.append_cancel_right h
        rw [← this]; rfl
  | c :: U, true, h => by
    rw [List.cons_append, skipB] at h ⊢
    split at h
    · rename_i hc; rw [if_pos hc]; exact skip_before Z hV U false h
    · rename_i hc; rw [if_neg hc]; exact skip_before Z hV U true h
theorem gap_before {U B : Str} (Z : Str) {g : Nat} (hg : gapM (U ++ B) = g) (hl : g < U.length) : gapM (U ++ Z) = g := by
  have h1 := gap_drop (U ++ B)
  rw [hg, List.drop_append_of_le_length (by omega)] at h1
  have h2 := skip_before Z (V := U.drop g) (by rw [Ne, List.drop_eq_nil_iff]; omega) U false h1.symm
  unfold gapM
  rw [h2]
  simp only [List.length_append, List.length_drop]
  omega
theorem gap_stop {U B : Str} (Z : Str) (hB : B ≠ []) (hg : gapM (U ++ B) = U.length) : gapM (U ++ Z) = U.length + gapM Z := by
  have h1 := gap_drop (U ++ B)
  rw [hg, List.drop_left] at h1
  have h2 := skip_stop hB Z U false h1.symm
  have h3 := skip_le Z false
  unfold gapM
  rw [h2, List.length_append]
  omega

/-! ### Words -/
theorem run_pre {p : UInt8 → Bool} {V B : Str} (z : UInt8) (Z : Str) (hz : p z = false) (h : ((V ++ B).takeWhile p).length ≤ V.length) : (V ++ z :: Z).takeWhile p = (V ++ B).takeWhile p := by
  rw [List.takeWhile_append, List.takeWhile_append, List.takeWhile_cons, hz]
  rw [List.takeWhile_append] at h
  split
  · rename_i hv
    rw [if_pos hv] at h
    rw [List.length_append] at h
    have : B.takeWhile p = [] := List.eq_nil_of_length_eq_zero (by omega)
    rw [this]
    rfl
  · rfl
theorem wordOf_eq (s of : Str) : wordOf s of = s.takeWhile (of.contains ·) := take_run s of
theorem wordOf_pre {V B of : Str} (Z : Str) (hz : of.contains (32 : UInt8) = false) (h : (wordOf (V ++ B) of).length ≤ V.length) : wordOf (V ++ 32 :: Z) of = wordOf (V ++ B) of := by
  rw [wordOf_eq] at h ⊢
  rw [wordOf_eq]
  exact run_pre 32 Z hz h
theorem close_pre {B : Str} (Z : Str) : ∀ (V : Str) (m : Nat), closeQ (V ++ B) = some m → m ≤ V.length → closeQ (V ++ 32 :: Z) = some m
  | [], m, h, hm => by
    have := close_bd _ m h
    simp at hm; omega
  | c :: V, m, h, hm => by
    by_cases hc : (c == 39) = true
    · have e : c = 39 := by simpa using hc
      subst e
      rw [List.cons_append, close_mark] at h ⊢
      cases V with
      | nil =>
        simp only [List.nil_append] at h ⊢
        have e1 : ((32 : UInt8) == 39) = false := by decide
        rw [e1]
        cases B with
        | nil => simpa using h
        | cons d t =>
          simp only at h
          split at h
          · rw [Option.map_eq_some_iff] at h
            obtain ⟨m', hm', rfl⟩ := h
            simp at hm
          · simpa using h
      | cons d V =>
        simp only [List.cons_append] at h ⊢
        split at h
        · rename_i hd
          rw [if_pos hd]
          rw [Option.map_eq_some_iff] at h ⊢
          obtain ⟨m', hm', rfl⟩ := h
          exact ⟨m', close_pre Z V m' hm' (by simp at hm; omega), rfl⟩
        · rename_i hd
          rw [if_neg hd]
          exact h
    · rw [List.cons_append, close_other hc] at h ⊢
      rw [Option.map_eq_some_iff] at h ⊢
      obtain ⟨m', hm', rfl⟩ := h
      exact ⟨m', close_pre Z V m' hm' (by simp at hm; omega), rfl⟩
  termination_by V => V.length
/-- A word is what it is, whatever stands behind its end, where that begins with a blank. -/
theorem word_pre {V B : Str} (Z : Str) {n : Nat} (he : (wordM (V ++ B)).2.2.2 = 0) (hn : (wordM (V ++ B)).2.2.1 = (n : Int)) (h1 : 1 ≤ n) (hV : n ≤ V.length) : wordM (V ++ 32 :: Z) = wordM (V ++ B) := by
  cases V with
  | nil => simp at hV; omega
  | cons c V =>
    have e1 : ((c :: V) ++ 32 :: Z).take 1 = ((c :: V) ++ B).take 1 := rfl
    have e2 : ((c :: V) ++ 32 :: Z).getD 0 0 = ((c :: V) ++ B).getD 0 0 := rfl
    unfold wordM at he hn ⊢
    rw [e1, e2]
    by_cases c1 : decide (0 < runM (((c :: V) ++ B).take 1) letters) = true
    · rw [if_pos c1] at he hn ⊢
      rw [if_pos c1]
      have hw : wordOf ((c :: V) ++ 32 :: Z) tails = wordOf ((c :: V) ++ B) tails := by
        refine wordOf_pre Z (by decide) ?_
        unfold namedM at he hn
        split at hn
        · have : (((wordOf ((c :: V) ++ B) tails).length : Nat) : Int) = n := hn
          omega
        · rename_i h2
          rw [if_neg h2] at he
          split at hn
          · rename_i h3; rw [if_pos h3] at he; exact absurd he (show ¬ (3 : Int) = 0 by decide)
          · have : (((wordOf ((c :: V) ++ B) tails).length : Nat) : Int) = n := hn
            omega
      unfold namedM
      rw [hw]
    · rw [if_neg c1] at he hn ⊢
      rw [if_neg c1]
      by_cases c2 : decide (0 < runM (((c :: V) ++ B).take 1) digs) = true
      · rw [if_pos c2] at he hn ⊢
        rw [if_pos c2]
        have hw : wordOf ((c :: V) ++ 32 :: Z) digs = wordOf ((c :: V) ++ B) digs := by
          refine wordOf_pre Z (by decide) ?_
          have : (((wordOf ((c :: V) ++ B) digs).length : Nat) : Int) = n := hn
          omega
        unfold numberM
        rw [hw]
      · rw [if_neg c2] at he hn ⊢
        rw [if_neg c2]
        by_cases c3 : (((((c :: V) ++ B).getD 0 0).toNat : Int) == 39) = true
        · rw [if_pos c3] at he hn ⊢
          rw [if_pos c3]
          unfold quotedM at he hn ⊢
          have d1 : ((c :: V) ++ B).drop 1 = V ++ B := rfl
          have d2 : ((c :: V) ++ 32 :: Z).drop 1 = V ++ 32 :: Z := rfl
          rw [d1] at he hn ⊢
          rw [d2]
          cases hq : closeQ (V ++ B) with
          | none => rw [hq] at he; exact absurd he (show ¬ (7 : Int) = 0 by decide)
          | some m =>
            rw [hq] at he hn
            simp only at he hn
            split at he
            · exact absurd he (show ¬ (3 : Int) = 0 by decide)
            · rename_i hr
              rw [if_neg hr] at hn
              have hm' : (((m + 1 : Nat)) : Int) = n := hn
              have hm : m + 1 = n := by omega
              have hcl := close_pre Z V m hq (by simp at hV; omega)
              rw [hcl]
              have t1 : ((c :: V) ++ 32 :: Z).take (m + 1) = ((c :: V) ++ B).take (m + 1) := by
                rw [List.take_append_of_le_length (by omega), List.take_append_of_le_length (by omega)]
              simp only [t1]
        · rw [if_neg c3] at he hn ⊢
          rw [if_neg c3]
          unfold signM at he hn ⊢
          cases V with
          | nil =>
            have hn1 : n = 1 := by simp at hV; omega
            subst hn1
            have x1 : ¬ ((decide ((1 : Int) < (([c] ++ B).length : Nat)) && Lib.contains doubles (([c] ++ B).take 2)) && (((([c] ++ B).getD 1 0).toNat : Int) == 61)) = true := fun h => by
              rw [if_pos h] at hn
              exact absurd hn (show ¬ (2 : Int) = ((1 : Nat) : Int) by decide)
            have x2 : ¬ ((decide ((1 : Int) < (([c] ++ 32 :: Z).length : Nat)) && Lib.contains doubles (([c] ++ 32 :: Z).take 2)) && (((([c] ++ 32 :: Z).getD 1 0).toNat : Int) == 61)) = true := fun h => by
              simp only [Bool.and_eq_true] at h
              have h2 : ((((32 : UInt8)).toNat : Int) == 61) = true := h.2
              exact absurd h2 (by decide)
            rw [if_neg x1, if_neg x2]
            rfl
          | cons d V =>
            have y1 : decide ((1 : Int) < ((((c :: d :: V) ++ 32 :: Z)).length : Nat)) = decide ((1 : Int) < ((((c :: d :: V) ++ B)).length : Nat)) := by
              rw [decide_eq_decide]
              simp only [List.length_append, List.length_cons]
              omega
            have y2 : ((c :: d :: V) ++ 32 :: Z).take 2 = ((c :: d :: V) ++ B).take 2 := rfl
            have y3 : ((c :: d :: V) ++ 32 :: Z).getD 1 0 = ((c :: d :: V) ++ B).getD 1 0 := rfl
            rw [y1, y2, y3]
            rfl
end Go.SX.Nb
namespace Go.SX.Nb
open Go Go.SX Go.Proofs
variable [ErrAt]
set_option maxRecDepth 4000
def insX (note : Str) : Str := 32 :: 9 :: 35 :: (note ++ [10, 32])
theorem insX_len (note : Str) : (insX note).length = note.length + 5 := by simp [insX]
theorem skip_note_to : ∀ (note R : Str), (∀ b ∈ note, b ≠ 10) → skipB (note ++ 10 :: R) true = skipB R false
  | [], R, _ => by rw [List.nil_append, skipB]; rfl
  | c :: r, R, h => by
    have hc : ¬ (c == 10) = true := by simpa using h c (by simp)
    rw [List.cons_append, skipB, if_neg hc]
    exact skip_note_to r R (fun b hb => h b (by simp [hb]))
theorem gap_ins {note B : Str} (hn : ∀ b ∈ note, b ≠ 10) (hB : skipB B false = B) : gapM (insX note ++ B) = (insX note).length := by
  have e : insX note ++ B = 32 :: 9 :: 35 :: (note ++ 10 :: (32 :: B)) := by simp [insX]
  have h : skipB (insX note ++ B) false = B := by
    rw [e, skipB, if_pos (by decide), skipB, if_pos (by decide), skipB, if_neg (by decide), if_pos (by decide), skip_note_to note _ hn, skipB, if_pos (by decide), hB]
  unfold gapM
  rw [h, List.length_append]
  omega
theorem lex_ins {note : Str} (hn : ∀ b ∈ note, b ≠ 10) : ∀ (k f f' q : Nat) (U B : Str) (it : Tok × Int), (U ++ B).length < f → (U ++ (insX note ++ B)).length < f' → (∀ i ∈ lexG f q (U ++ B), i.2 = 0) → (lexG f q (U ++ B))[k]? = some it → it.1.at_ = q + U.length →
    lexG f' q (U ++ (insX note ++ B)) = (lexG f q (U ++ B)).take k ++ ((lexG f q (U ++ B)).drop k).map (shiftT (insX note).length)
  | 0, f, f', q, U, B, it, hf, hf', _, hit, hat => by
    unfold lexG at hit ⊢
    obtain ⟨f0, rfl⟩ : ∃ f0, f = f0 + 1 := ⟨f - 1, by omega⟩
    have hne : (U ++ B).drop (gapM (U ++ B)) ≠ [] := fun e => by rw [e, itemsF_nil] at hit; cases hit
    have hg : gapM (U ++ B) = U.length := by
      rw [itemsF_cons hne] at hit
      simp only [List.getElem?_cons_zero, Option.some.injEq] at hit
      rw [← hit] at hat
      simp only at hat
      omega
    rw [hg, List.drop_left] at hne ⊢
    have hs := gap_drop (U ++ B)
    rw [hg, List.drop_left] at hs
    have hB : skipB B false = B := (skip_stop hne B U false hs.symm).symm.trans hs.symm
    rw [gap_stop _ hne hg, gap_ins hn hB]
    have e1 : (U ++ (insX note ++ B)).drop (U.length + (insX note).length) = B := by
      rw [← List.append_assoc, ← List.length_append, List.drop_left]
    rw [e1, List.take_zero, List.nil_append, List.drop_zero, ← Nat.add_assoc]
    rw [itemsF_shift]
    congr 1
    simp only [List.length_append] at hf hf'
    exact itemsF_fuel _ _ _ _ (by omega) (by omega)
  | k + 1, f, f', q, U, B, it, hf, hf', hok, hit, hat => by
    obtain ⟨f0, rfl⟩ : ∃ f0, f = f0 + 1 := ⟨f - 1, by omega⟩
    obtain ⟨f0', rfl⟩ : ∃ f0, f' = f0 + 1 := ⟨f' - 1, by omega⟩
    obtain ⟨g, hg⟩ : ∃ g, gapM (U ++ B) = g := ⟨_, rfl⟩
    have hne : (U ++ B).drop g ≠ [] := fun e => by unfold lexG at hit; rw [hg, e, itemsF_nil] at hit; cases hit
    obtain ⟨n, hst, hw⟩ := itemsF_step (f := f0) (q := q + g) hne
    have hL : lexG (f0 + 1) q (U ++ B) = itemsF (f0 + 1) (q + g) ((U ++ B).drop g) := by unfold lexG; rw [hg]
    rw [hst] at hL
    rw [hL] at hok hit ⊢
    have h0 : (wordM ((U ++ B).drop g)).2.2.2 = 0 := hok _ List.mem_cons_self
    obtain ⟨hn1, hn2, hn3⟩ := hw h0
    rw [if_pos h0] at hok hit ⊢
    rw [List.getElem?_cons_succ] at hit
    have hge : q + g + n ≤ it.1.at_ := by
      unfold lexG at hit
      have := itemsF_ge _ _ _ it (List.mem_of_getElem? hit)
      omega
    have hUl : g + n ≤ U.length := by omega
    have d1 : (U ++ B).drop g = U.drop g ++ B := List.drop_append_of_le_length (by omega)
    have d2 : ((U ++ B).drop g).drop n = U.drop (g + n) ++ B := by rw [List.drop_drop, List.drop_append_of_le_length hUl]
    have d3 : (U ++ (insX note ++ B)).drop g = U.drop g ++ (insX note ++ B) := List.drop_append_of_le_length (by omega)
    have d4 : ((U ++ (insX note ++ B)).drop g).drop n = U.drop (g + n) ++ (insX note ++ B) := by rw [List.drop_drop, List.drop_append_of_le_length hUl]
    have hg' : gapM (U ++ (insX note ++ B)) = g := gap_before _ hg (by omega)
    have hwe : wordM (U.drop g ++ (insX note ++ B)) = wordM (U.drop g ++ B) := by
      rw [d1] at h0 hn1
      have eX : insX note ++ B = 32 :: (9 :: 35 :: (note ++ [10, 32]) ++ B) := rfl
      rw [eX]
      exact word_pre _ h0 hn1 hn2 (by rw [List.length_drop]; omega)
    have hne' : (U ++ (insX note ++ B)).drop g ≠ [] := by
      rw [d3]; simp [insX]
    have hL' : lexG (f0' + 1) q (U ++ (insX note ++ B)) = itemsF (f0' + 1) (q + g) ((U ++ (insX note ++ B)).drop g) := by unfold lexG; rw [hg']
    obtain ⟨n', hst', hw'⟩ := itemsF_step (f := f0') (q := q + g) hne'
    have hww : wordM ((U ++ (insX note ++ B)).drop g) = wordM ((U ++ B).drop g) := by rw [d3, d1, hwe]
    rw [hww] at hst' hw'
    have hnn : n' = n := by
      have := (hw' h0).1
      rw [hn1] at this
      omega
    subst hnn
    rw [hL', hst', if_pos h0, d4, d2, List.take_succ_cons, List.drop_succ_cons, List.cons_append]
    congr 1
    rw [d2] at hok hit
    have hlen : (U.drop (g + n')).length = U.length - (g + n') := List.length_drop
    refine lex_ins hn k f0 f0' (q + g + n') (U.drop (g + n')) B it ?_ ?_ (fun i hi => hok i (List.mem_cons_of_mem _ hi)) hit (by rw [hlen]; omega)
    · simp only [List.length_append] at hf ⊢; omega
    · simp only [List.length_append] at hf' ⊢; omega
theorem lexM_ok {s : Str} (h : (lexM s).2.1 = 0) : s.length ≤ 4000 ∧ (∀ it ∈ itemsT s, it.2 = 0) ∧ lexM s = ((itemsT s).map (·.1) ++ [⟨0, [], s.length⟩], 0, 0) := by
  unfold lexM at h ⊢
  split at h
  · exact absurd h (show ¬ (3 : Int) = 0 by decide)
  · rename_i hl
    rw [if_neg hl]
    cases hf : (itemsT s).find? (fun it => it.2 != 0) with
    | some it =>
      rw [hf] at h
      have := List.find?_some hf
      simp at this
      exact absurd h this
    | none =>
      rw [List.find?_eq_none] at hf
      refine ⟨by omega, fun it hit => by simpa using hf it hit, rfl⟩
theorem lexM_of {s : Str} (hl : s.length ≤ 4000) (h : ∀ it ∈ itemsT s, it.2 = 0) : lexM s = ((itemsT s).map (·.1) ++ [⟨0, [], s.length⟩], 0, 0) := by
  unfold lexM
  rw [if_neg (by omega), lex_none h]
def shiftTok (d : Nat) (t : Tok) : Tok := ⟨t.kind, t.text, t.at_ + d⟩
theorem itemsF_lt : ∀ (f q : Nat) (s : Str), ∀ it ∈ itemsF f q s, it.1.at_ ≤ q + s.length
  | 0, _, _, it, h => by cases h
  | f + 1, q, s, it, h => by
    by_cases hs : s = []
    · subst hs; cases h
    · obtain ⟨n, hst, hw⟩ := itemsF_step (f := f) (q := q) hs
      rw [hst] at h
      rcases List.mem_cons.1 h with rfl | h
      · exact Nat.le_add_right _ _
      · split at h
        · rename_i h0
          obtain ⟨_, _, h3⟩ := hw h0
          have := itemsF_lt f _ _ it h
          have hg := gap_le (s.drop n)
          simp only [List.length_drop] at this hg
          omega
        · cases h
theorem items_at_le {s : Str} {k : Nat} {it : Tok × Int} (h : (itemsT s)[k]? = some it) : it.1.at_ ≤ s.length := by
  unfold itemsT at h
  have := itemsF_lt _ _ _ it (List.mem_of_getElem? h)
  have hg := gap_le s
  rw [List.length_drop] at this
  omega
theorem lex_gaps {src note : Str} (hs : src.length ≤ 2000) (hn : note.length ≤ 1000) (hf : (lexM src).2.1 = 0) (hnl : ∀ b ∈ note, b ≠ 10) {k : Nat} (hk : k + 1 < (lexM src).1.length) :
    (tokAt (lexM src).1 k).at_ ≤ src.length ∧ lexM (src.take (tokAt (lexM src).1 k).at_ ++ (insX note ++ src.drop (tokAt (lexM src).1 k).at_)) = ((lexM src).1.take k ++ ((lexM src).1.drop k).map (shiftTok (note.length + 5)), 0, 0) := by
  obtain ⟨_, hok, hl⟩ := lexM_ok hf
  rw [hl] at hk ⊢
  simp only [List.length_append, List.length_map, List.length_cons, List.length_nil] at hk
  have hkl : k < (itemsT src).length := by omega
  obtain ⟨it, hit⟩ : ∃ it, (itemsT src)[k]? = some it := ⟨_, List.getElem?_eq_getElem hkl⟩
  have htk : tokAt ((itemsT src).map (·.1) ++ [⟨0, [], src.length⟩]) k = it.1 := by
    unfold tokAt
    rw [List.getD_eq_getElem?_getD, List.getElem?_append_left (by simpa using hkl), List.getElem?_map, hit]
    rfl
  simp only [htk]
  have hle : it.1.at_ ≤ src.length := items_at_le hit
  refine ⟨hle, ?_⟩
  have hX := insX_len note
  have hlen : (src.take it.1.at_ ++ (insX note ++ src.drop it.1.at_)).length = src.length + (insX note).length := by
    simp only [List.length_append, List.length_take, List.length_drop]; omega
  have e0 : src.take it.1.at_ ++ src.drop it.1.at_ = src := List.take_append_drop _ _
  have key := lex_ins hnl k (src.length + 1) ((src.take it.1.at_ ++ (insX note ++ src.drop it.1.at_)).length + 1) 0 (src.take it.1.at_) (src.drop it.1.at_) it (by rw [e0]; omega) (by omega) (by rw [e0, ← itemsT_G]; exact hok) (by rw [e0, ← itemsT_G]; exact hit) (by rw [List.length_take]; omega)
  rw [e0, ← itemsT_G, ← itemsT_G] at key
  rw [lexM_of (by rw [hlen, hX]; omega) (by
    rw [key]
    intro i hi
    rcases List.mem_append.1 hi with h | h
    · exact hok i (List.mem_of_mem_take h)
    · obtain ⟨j, hj, rfl⟩ := List.mem_map.1 h
      exact hok j (List.mem_of_mem_drop hj)), key, hlen, hX]
  congr 1
  rw [List.map_append, List.append_assoc]
  have t1 : ((itemsT src).map (·.1) ++ [(⟨0, [], src.length⟩ : Tok)]).take k = ((itemsT src).take k).map (·.1) := by
    rw [List.take_append_of_le_length (by simp; omega), List.map_take]
  have t2 : ((itemsT src).map (·.1) ++ [(⟨0, [], src.length⟩ : Tok)]).drop k = ((itemsT src).drop k).map (·.1) ++ [⟨0, [], src.length⟩] := by
    rw [List.drop_append_of_le_length (by simp; omega), List.map_drop]
  rw [t1, t2, List.map_append, List.map_map, List.map_map]
  rfl
end Go.SX.Nb
namespace Go.SX.Nb
open Go Go.SX Go.Proofs
variable [ErrAt]
set_option maxRecDepth 4000
theorem c75 (k : Int) (Hp : List AObj) : AFun Tryz.prog 75 [intA k] Hp (strA (kindNameM k)) := by
  refine ACall.body [.tmp 2] [0] Tryz.func75 Tryz.ntmps75 (fun d => ?_)
  refine AW.seqR ?_
  refine R.assign ?_
  refine R.fin [0] ?_
  refine W.seq ?_
  refine AW.seqR ?_
  refine R.move ?_
  refine R.lss ?_
  refine R.move ?_
  refine G.move ?_
  refine G.gtr ?_
  refine R.pickOr ?_
  refine R.fin [0, 9] ?_
  refine W.cond (fun ht9 => ?_) (fun ht9 => ?_)
  · skip
    refine AW.seqR ?_
    refine R.assign ?_
    refine R.fin [2] ?_
    refine AW.ret ?_
    refine K.thR ?_
    exact K.fin (V.one V.tmp) ⟨by rw [show kindNameM k = [] from if_pos (by simpa using ht9)], rfl⟩
  · skip
    refine AW.skip ?_
    refine K.thN ?_
    refine AW.seqR ?_
    refine R.buildSlice Tryz.underlying50 Tryz.sizeOf9 Tryz.zeroValue9 ?_
    refine R.assignT ?_
    refine R.fin [0, 3] ?_
    refine AW.seqR ?_
    have hk : 1 ≤ k ∧ k ≤ 3 := by simp at ht9; omega
    have hget : (kindNames.map strA)[k.toNat]? = some (strA (kindNames.getD k.toNat [])) := by
      have hlt : k.toNat < kindNames.length := by show k.toNat < 4; omega
      rw [List.getElem?_map, List.getElem?_eq_getElem hlt, List.getD_eq_getElem?_getD, List.getElem?_eq_getElem hlt]
      rfl
    refine R.move ?_
    refine R.move ?_
    refine R.indexAddr (k.toNat) (strA (kindNames.getD k.toNat [])) Tryz.underlying50 Tryz.sizeOf9 hget ?_
    refine R.loadRo Tryz.isAgg9 ?_
    refine R.assign ?_
    refine R.fin [2] ?_
    refine AW.ret ?_
    exact K.fin (V.one V.tmp) ⟨by rw [show kindNameM k = kindNames.getD k.toNat [] from if_neg (by omega)], rfl⟩

def colT (c : Col) : Str := c.name ++ [32] ++ kindNameM c.kind
def colsT (l : List Col) : Str := Lib.join (l.map colT) [44, 32]
theorem kindName_len (k : Int) : (kindNameM k).length ≤ 4 := by
  unfold kindNameM
  split
  · simp
  · rename_i h
    have hk : k = 1 ∨ k = 2 ∨ k = 3 := by omega
    rcases hk with rfl | rfl | rfl <;> decide
theorem join_snoc (sep : Str) : ∀ (l : List Str) (x : Str), l ≠ [] → Lib.join (l ++ [x]) sep = Lib.join l sep ++ sep ++ x
  | [], _, h => absurd rfl h
  | [a], x, _ => by simp [Lib.join, List.intercalate, List.intersperse]
  | a :: b :: r, x, _ => by
    have ih := join_snoc sep (b :: r) x (by simp)
    unfold Lib.join List.intercalate at ih ⊢
    rw [List.cons_append, List.cons_append, List.intersperse_cons₂, List.flatten_cons, List.flatten_cons, List.intersperse_cons₂, List.flatten_cons, List.flatten_cons]
    rw [List.cons_append] at ih
    rw [ih]
    simp
theorem colsT_succ {c : List Col} {x : Nat} (h : x < c.length) : colsT (c.take (x + 1)) = (if 0 < x then colsT (c.take x) ++ [44, 32] else []) ++ colT c[x] := by
  unfold colsT
  rw [List.take_succ, List.getElem?_eq_getElem h, List.map_append]
  cases x with
  | zero => simp [Lib.join_one]
  | succ x =>
    rw [if_pos (by omega)]
    exact join_snoc _ _ _ (by simp; intro e; rw [e] at h; simp at h)
theorem colsT_len {c : List Col} (hc : OkCols c) (x : Nat) : (colsT (c.take x)).length ≤ x * 1048600 := by
  induction x with
  | zero => simp [colsT, Lib.join_nil]
  | succ x ih =>
    rcases Nat.lt_or_ge x c.length with h | h
    · rw [colsT_succ h]
      have h1 := hc.2 c[x] (List.getElem_mem h)
      have h2 := kindName_len c[x].kind
      have h3 : (colT c[x]).length ≤ 1048581 := by unfold colT; simp only [List.length_append, List.length_cons, List.length_nil]; omega
      split
      · simp only [List.length_append, List.length_cons, List.length_nil]; omega
      · simp only [List.length_append, List.length_nil]; omega
    · rw [List.take_of_length_le (by omega)]
      rw [List.take_of_length_le h] at ih
      exact Nat.le_trans ih (Nat.mul_le_mul_right _ (Nat.le_succ x))
theorem eg65 : Tryz.prog.eqGuardType Tryz.prog.depth 65 = false := by kernel_rfl
theorem equal65 (k k' : Int) (s s' : List UInt8) (w : World) : (Op.equal 65 (.agg #[.string ⟨s.toArray⟩, .int .i64 k]) (.agg #[.string ⟨s'.toArray⟩, .int .i64 k'])).run Tryz.prog w = .ok (s == s' && k == k') w := by
  have h1 : Tryz.prog.stoodInHeld 65 = false := by kernel_rfl
  show (Op.equalIn (9999 + 1) _ _ _).run _ _ = _
  rw [Op.equalIn]
  generalize hd : (9999 : Nat) = d
  obtain ⟨d, rfl⟩ : ∃ e, d = e + 1 := ⟨9998, hd.symm⟩
  clear hd
  simp [run_underlying Tryz.underlying65, h1, part, eqInt _ _ _ _ _ _ Tryz.underlying3, eqStr _ _ _ _ _ Tryz.underlying9, Tryz.isAgg3, Tryz.isAgg9]
  by_cases e1 : k = k' <;> by_cases e3 : s = s' <;> simp [e1, e3]
end Go.SX.Nb
namespace Go.SX
variable [GI : GlobInv]
open Classical
section
variable {P : Program} {d : Nat}
variable {sz : Nat} {dfs : List Nat} {rnd : Option Nat}

/-! ### What is written -/
def setWs (ws : List (Nat × AV)) (f : Nat → AV) : Nat → AV := ws.foldl (fun f x => setF x.1 x.2 f) f
theorem setWs_cons (x : Nat × AV) (r : List (Nat × AV)) (f : Nat → AV) : setWs (x :: r) f = setWs r (setF x.1 x.2 f) := rfl
theorem setWs_none {t : Nat} : ∀ (ws : List (Nat × AV)) (f : Nat → AV), t ∉ ws.map (·.1) → setWs ws f t = f t
  | [], _, _ => rfl
  | x :: r, f, h => by
    rw [setWs_cons, setWs_none r _ (fun hm => h (by simp only [List.map_cons, List.mem_cons]; exact .inr hm))]
    unfold setF
    rw [if_neg (fun e => h (by simp [e]))]
theorem setWs_congr {t : Nat} : ∀ (ws : List (Nat × AV)) (f g : Nat → AV), (t ∈ ws.map (·.1) ∨ f t = g t) → setWs ws f t = setWs ws g t
  | [], f, g, h => by
    rcases h with h | h
    · cases h
    · exact h
  | x :: r, f, g, h => by
    rw [setWs_cons, setWs_cons]
    refine setWs_congr r _ _ ?_
    by_cases hx : t = x.1
    · right; unfold setF; rw [if_pos hx, if_pos hx]
    · rcases h with h | h
      · left
        simp only [List.map_cons, List.mem_cons] at h
        exact h.resolve_left hx
      · right; unfold setF; rw [if_neg hx, if_neg hx]; exact h

def frY (L : Nat → Bool) : Nat → List (List (Nat × AV)) → (Nat → AV) → (Nat → AV)
  | _, [], f => f
  | i, ws :: r, f => frY L (i + 1) r (if L i then setWs ws f else f)
theorem frY_at {L L' : Nat → Bool} {t : Nat} : ∀ (D : List (List (Nat × AV))) (i : Nat) (f g : Nat → AV), (∀ (j : Nat) (ws : List (Nat × AV)), D[j]? = some ws → t ∈ ws.map (·.1) → L (i + j) = L' (i + j)) → f t = g t → frY L i D f t = frY L' i D g t
  | [], _, _, _, _, h => h
  | x :: r, i, f, g, h, hf => by
    unfold frY
    refine frY_at r (i + 1) _ _ (fun j ws hj ht => by have := h (j + 1) ws (by simpa using hj) ht; rwa [show i + 1 + j = i + (j + 1) by omega]) ?_
    by_cases hm : t ∈ x.map (·.1)
    · have h0 := h 0 x (by simp) hm
      rw [Nat.add_zero] at h0
      rw [h0]
      split
      · exact setWs_congr x f g (.inl hm)
      · exact hf
    · have e : ∀ (b : Bool) (f : Nat → AV), (if b = true then setWs x f else f) t = f t := fun b f => by
        cases b
        · rfl
        · exact setWs_none x f hm
      rw [e, e]
      exact hf
theorem frY_none {L : Nat → Bool} {t : Nat} : ∀ (D : List (List (Nat × AV))) (i : Nat) (f : Nat → AV), (∀ (j : Nat) (ws : List (Nat × AV)), D[j]? = some ws → t ∈ ws.map (·.1) → L (i + j) = false) → frY L i D f t = f t
  | [], _, _, _ => rfl
  | x :: r, i, f, h => by
    unfold frY
    rw [frY_none r (i + 1) _ (fun j ws hj ht => by have := h (j + 1) ws (by simpa using hj) ht; rwa [show i + 1 + j = i + (j + 1) by omega])]
    by_cases hL : L i
    · rw [if_pos hL]
      refine setWs_none x f fun hm => ?_
      have := h 0 x (by simp) hm
      simp [hL] at this
    · rw [if_neg hL]
theorem frY_last {L : Nat → Bool} {t : Nat} {ws : List (Nat × AV)} : ∀ (D : List (List (Nat × AV))) (i j : Nat) (f : Nat → AV), D[j]? = some ws → t ∈ ws.map (·.1) → L (i + j) = true →
    (∀ (j' : Nat) (ws' : List (Nat × AV)), D[j']? = some ws' → t ∈ ws'.map (·.1) → j < j' → L (i + j') = false) → frY L i D f t = setWs ws f t
  | [], _, _, _, h, _, _, _ => by simp at h
  | x :: r, i, 0, f, h, hm, hL, hu => by
    unfold frY
    have hL' : L i = true := by simpa using hL
    rw [if_pos hL', frY_none r (i + 1) _ (fun j' y' hj' ht => by have := hu (j' + 1) y' (by simpa using hj') ht (by omega); rwa [show i + 1 + j' = i + (j' + 1) by omega])]
    have hx : x = ws := by simpa using h
    rw [hx]
  | x :: r, i, j + 1, f, h, hm, hL, hu => by
    unfold frY
    rw [frY_last r (i + 1) j _ (by simpa using h) hm (by rwa [show i + 1 + j = i + (j + 1) by omega]) (fun j' y' hj' ht hlt => by have := hu (j' + 1) y' (by simpa using hj') ht (by omega); rwa [show i + 1 + j' = i + (j' + 1) by omega])]
    exact setWs_congr ws _ _ (.inl hm)
theorem frY_take : ∀ (D : List (List (Nat × AV))) (i k : Nat) (f : Nat → AV), frY (fun _ => true) k (D.take i) f = frY (fun j => decide (j < k + i)) k D f
  | [], i, k, f => by simp [frY]
  | x :: r, 0, k, f => by
    rw [List.take_zero]
    funext t
    refine (frY_none (x :: r) k f fun j ws _ _ => ?_).symm
    simp
  | x :: r, i + 1, k, f => by
    rw [List.take_succ_cons]
    unfold frY
    rw [frY_take r i (k + 1)]
    have e1 : decide (k < k + (i + 1)) = true := by simp
    rw [e1, show k + 1 + i = k + (i + 1) by omega]
theorem frY_congr {L L' : Nat → Bool} : ∀ (D : List (List (Nat × AV))) (i : Nat) (f : Nat → AV), (∀ j, j < D.length → L (i + j) = L' (i + j)) → frY L i D f = frY L' i D f
  | [], _, _, _ => rfl
  | x :: r, i, f, h => by
    unfold frY
    have h0 := h 0 (by simp)
    rw [Nat.add_zero] at h0
    rw [h0]
    exact frY_congr r (i + 1) _ (fun j hj => by have := h (j + 1) (by simp; omega); rwa [show i + 1 + j = i + (j + 1) by omega])
theorem frY_shift : ∀ (D : List (List (Nat × AV))) (i j : Nat) (f : Nat → AV), frY (fun _ => true) i D f = frY (fun _ => true) j D f
  | [], _, _, _ => rfl
  | x :: r, i, j, f => by unfold frY; exact frY_shift r _ _ _
theorem frY_cons (L : Nat → Bool) (i : Nat) (x : List (Nat × AV)) (r : List (List (Nat × AV))) (f : Nat → AV) : frY L i (x :: r) f = frY L (i + 1) r (if L i then setWs x f else f) := rfl
theorem frY_app : ∀ (A B : List (List (Nat × AV))) (i : Nat) (f : Nat → AV), frY (fun _ => true) i (A ++ B) f = frY (fun _ => true) 0 B (frY (fun _ => true) i A f)
  | [], B, i, f => frY_shift B i 0 f
  | x :: r, B, i, f => by
    rw [List.cons_append, frY_cons, frY_cons]
    exact frY_app r B (i + 1) _
theorem frY_map (L : Nat → Bool) : ∀ (D : List (Nat × AV)) (i : Nat) (f : Nat → AV), frY L i (D.map fun x => [x]) f = frL L i D f
  | [], _, _ => rfl
  | x :: r, i, f => by
    rw [List.map_cons, frY_cons, frL_cons, frY_map L r]
    rfl

/-! ### What has turned the heap -/
def upd (B : Nat → Bool) (p : Nat) : Nat → Bool := fun q => if q = p then true else B q
def updO (t : Option Nat) (B : Nat → Bool) : Nat → Bool := match t with | some p => upd B p | none => B
/-- tn: the operations that turn the heap; of each, by its number among them, whether it has run. -/
def bits (tn : List Nat) (L : Nat → Bool) : Nat → Bool := fun p => match tn[p]? with | some e => L e | none => false
/-- What is told of one of the operations drawn: the slots that it writes (none: the one that its text names), its number among those that turn the heap, and which of these come before and behind it. -/
structure Inf where
  W : Option (List Nat)
  t : Option Nat
  T : List Nat
  F : List Nat
theorem bits_set {tn : List Nat} {L L' : Nat → Bool} {i : Nat} {t : Option Nat} (hL : ∀ q, L' q = if q = i then true else L q) (h1 : ∀ p, t = some p → tn[p]? = some i) (h0 : t = none → i ∉ tn) (hn : ∀ (p q e : Nat), tn[p]? = some e → tn[q]? = some e → p = q) : bits tn L' = updO t (bits tn L) := by
  funext q
  cases t with
  | none =>
    show bits tn L' q = bits tn L q
    unfold bits
    cases hq : tn[q]? with
    | none => rfl
    | some e =>
      show L' e = L e
      rw [hL, if_neg (fun he => h0 rfl (by rw [← he]; exact List.mem_of_getElem? hq))]
  | some p =>
    show bits tn L' q = upd (bits tn L) p q
    unfold upd
    by_cases hqp : q = p
    · subst hqp
      rw [if_pos rfl]
      unfold bits
      rw [h1 q rfl]
      show L' i = true
      rw [hL, if_pos rfl]
    · rw [if_neg hqp]
      unfold bits
      cases hq : tn[q]? with
      | none => rfl
      | some e =>
        show L' e = L e
        rw [hL, if_neg (fun he => by subst he; exact hqp (hn _ _ _ hq (h1 p rfl)))]
def slY (o : Oper) (x : Inf) : List Nat := match x.W with | some W => W | none => o.dst.toList

/-- What is asked of the region's text. -/
def okY (l : List Oper) (tn : List Nat) (I : List Inf) (M : List Nat) : Bool :=
  Nat.ble I.length l.length && (tn.zipIdx.all fun x => Nat.blt x.1 I.length && tn.zipIdx.all fun y => Nat.beq x.2 y.2 || !Nat.beq x.1 y.1) &&
  l.zipIdx.all fun x =>
    Nat.beq (M.getD x.2 0) (edgesM M x.1.after.toList) && (x.1.after.toList.all fun e => !Region.binds .any e || Nat.blt e.on x.2) &&
    match I[x.2]? with
    | some inf =>
      ((slY x.1 inf).all fun s => (l.zip I).zipIdx.all fun z => Nat.beq z.2 x.2 || !((slY z.1.1 z.1.2).elem s) || (!(inf.W.isNone && z.1.2.W.isNone) && (((M.getD x.2 0).testBit z.2 && Nat.blt z.2 x.2) || ((M.getD z.2 0).testBit x.2 && Nat.blt x.2 z.2)))) &&
      ((lk l x.1).all fun s => (l.zip I).zipIdx.all fun z => !((slY z.1.1 z.1.2).elem s) || Nat.beq z.2 x.2 || ((M.getD x.2 0).testBit z.2 && Nat.blt z.2 x.2) || ((M.getD z.2 0).testBit x.2 && Nat.blt x.2 z.2)) &&
      (inf.T.all fun p => match tn[p]? with | some e => (M.getD x.2 0).testBit e | none => false) && (inf.F.all fun p => match tn[p]? with | some e => (M.getD e 0).testBit x.2 | none => false) &&
      (match inf.t with | some p => (match tn[p]? with | some e => Nat.beq e x.2 | none => false) | none => !tn.elem x.2)
    | none => (List.range x.2).all fun j => (M.getD x.2 0).testBit j

structure OkY (l : List Oper) (tn : List Nat) (I : List Inf) (M : List Nat) : Prop extends EdgeOK l I.length M where
  len : I.length ≤ l.length
  uniq : ∀ (i j : Nat) (o z : Oper) (x y : Inf) (s : Nat), l[i]? = some o → l[j]? = some z → I[i]? = some x → I[j]? = some y → s ∈ slY o x → s ∈ slY z y → j = i ∨ (¬ (x.W = none ∧ y.W = none) ∧ (((M.getD i 0).testBit j = true ∧ j < i) ∨ ((M.getD j 0).testBit i = true ∧ i < j)))
  look : ∀ (i j : Nat) (o z : Oper) (x y : Inf) (s : Nat), l[i]? = some o → l[j]? = some z → I[i]? = some x → I[j]? = some y → s ∈ lk l o → s ∈ slY z y → j = i ∨ ((M.getD i 0).testBit j = true ∧ j < i) ∨ ((M.getD j 0).testBit i = true ∧ i < j)
  T : ∀ (i : Nat) (x : Inf) (p : Nat), I[i]? = some x → p ∈ x.T → ∃ e, tn[p]? = some e ∧ (M.getD i 0).testBit e = true
  F : ∀ (i : Nat) (x : Inf) (p : Nat), I[i]? = some x → p ∈ x.F → ∃ e, tn[p]? = some e ∧ (M.getD e 0).testBit i = true
  t1 : ∀ (i : Nat) (x : Inf) (p : Nat), I[i]? = some x → x.t = some p → tn[p]? = some i
  t0 : ∀ (i : Nat) (x : Inf), I[i]? = some x → x.t = none → i ∉ tn
  tl : ∀ (p e : Nat), tn[p]? = some e → e < I.length
  tu : ∀ (p q e : Nat), tn[p]? = some e → tn[q]? = some e → p = q

theorem okY_spec {l : List Oper} {tn : List Nat} {I : List Inf} {M : List Nat} (h : okY l tn I M = true) : OkY l tn I M := by
  have hx : ∀ (i : Nat) (o : Oper), l[i]? = some o → (o, i) ∈ l.zipIdx := fun i o ho => by
    rw [List.mem_zipIdx_iff_getElem?]; exact ho
  have hz : ∀ (j : Nat) (z : Oper) (y : Inf), l[j]? = some z → I[j]? = some y → ((z, y), j) ∈ (l.zip I).zipIdx := fun j z y h1 h2 => by
    rw [List.mem_zipIdx_iff_getElem?, List.getElem?_zip_eq_some]; exact ⟨h1, h2⟩
  unfold okY at h
  rw [Bool.and_eq_true, Bool.and_eq_true] at h
  have hlen : I.length ≤ l.length := Nat.le_of_ble_eq_true h.1.1
  have htn := List.all_eq_true.1 h.1.2
  have h := List.all_eq_true.1 h.2
  have htl : ∀ (p e : Nat), tn[p]? = some e → (e, p) ∈ tn.zipIdx := fun p e he => by rw [List.mem_zipIdx_iff_getElem?]; exact he
  have hl : ∀ (i : Nat) (x : Inf), I[i]? = some x → ∃ o, l[i]? = some o := fun i x hi => by
    have := (List.getElem?_eq_some_iff.1 hi).1
    exact ⟨l[i]'(by omega), List.getElem?_eq_getElem _⟩
  refine ⟨⟨fun i o ho m hm => ?_, fun i o ho e he hb => ?_, fun i j o ho hi hj => ?_⟩, hlen, fun i j o z x y s ho hz' hix hjy hs hs' => ?_, fun i j o z x y s ho hz' hix hjy hs hs' => ?_, fun i x p hi hp => ?_, fun i x p hi hp => ?_, fun i x p hi hp => ?_, fun i x hi hp => ?_, fun p e he => ?_, fun p q e hp hq => ?_⟩
  · have hio := h _ (hx i o ho); simp only [Bool.and_eq_true] at hio
    have e := Nat.eq_of_beq_eq_true hio.1.1
    rw [e] at hm
    obtain ⟨e', he', h1⟩ := edgesM_bit _ hm
    exact ⟨e', by simpa using he', h1⟩
  · have hio := h _ (hx i o ho); simp only [Bool.and_eq_true] at hio
    have := List.all_eq_true.1 hio.1.2 e (by simpa using he)
    simpa [hb] using this
  · have hio := h _ (hx i o ho); simp only [Bool.and_eq_true] at hio
    have h2 := hio.2
    rw [List.getElem?_eq_none hi] at h2
    exact List.all_eq_true.1 h2 j (by simpa using hj)
  · have hio := h _ (hx i o ho); simp only [Bool.and_eq_true] at hio
    have h2 := hio.2
    simp only [hix, Bool.and_eq_true] at h2
    have := List.all_eq_true.1 (List.all_eq_true.1 h2.1.1.1.1 s hs) _ (hz j z y hz' hjy)
    simp only [Bool.or_eq_true, Bool.not_eq_true'] at this
    rcases this with (h | h) | h
    · exact .inl (Nat.eq_of_beq_eq_true h)
    · rw [List.elem_iff.2 hs'] at h; cases h
    · rw [Bool.and_eq_true, Bool.or_eq_true, Bool.and_eq_true, Bool.and_eq_true] at h
      refine .inr ⟨?_, ?_⟩
      · rintro ⟨e1, e2⟩
        rw [e1, e2] at h
        exact absurd h.1 (by simp)
      · rcases h.2 with h | h
        · exact .inl ⟨h.1, by simpa using h.2⟩
        · exact .inr ⟨h.1, by simpa using h.2⟩
  · have hio := h _ (hx i o ho); simp only [Bool.and_eq_true] at hio
    have h2 := hio.2
    simp only [hix, Bool.and_eq_true] at h2
    have := List.all_eq_true.1 (List.all_eq_true.1 h2.1.1.1.2 s hs) _ (hz j z y hz' hjy)
    simp only [List.elem_iff.2 hs', Bool.not_true, Bool.false_or, Bool.or_eq_true, Bool.and_eq_true] at this
    rcases this with (h | h) | h
    · exact .inl (Nat.eq_of_beq_eq_true h)
    · exact .inr (.inl ⟨h.1, by simpa using h.2⟩)
    · exact .inr (.inr ⟨h.1, by simpa using h.2⟩)
  · obtain ⟨o, ho⟩ := hl i x hi
    have hio := h _ (hx i o ho); simp only [Bool.and_eq_true] at hio
    have h2 := hio.2
    simp only [hi, Bool.and_eq_true] at h2
    have := List.all_eq_true.1 h2.1.1.2 p hp
    cases he : tn[p]? with
    | none => rw [he] at this; cases this
    | some e => rw [he] at this; exact ⟨e, rfl, this⟩
  · obtain ⟨o, ho⟩ := hl i x hi
    have hio := h _ (hx i o ho); simp only [Bool.and_eq_true] at hio
    have h2 := hio.2
    simp only [hi, Bool.and_eq_true] at h2
    have := List.all_eq_true.1 h2.1.2 p hp
    cases he : tn[p]? with
    | none => rw [he] at this; cases this
    | some e => rw [he] at this; exact ⟨e, rfl, this⟩
  · obtain ⟨o, ho⟩ := hl i x hi
    have hio := h _ (hx i o ho); simp only [Bool.and_eq_true] at hio
    have h2 := hio.2
    simp only [hi, Bool.and_eq_true, hp] at h2
    have := h2.2
    cases he : tn[p]? with
    | none => rw [he] at this; cases this
    | some e => rw [he] at this; rw [Nat.eq_of_beq_eq_true this]
  · obtain ⟨o, ho⟩ := hl i x hi
    have hio := h _ (hx i o ho); simp only [Bool.and_eq_true] at hio
    have h2 := hio.2
    simp only [hi, Bool.and_eq_true, hp, Bool.not_eq_true'] at h2
    intro hm
    have := h2.2
    rw [List.elem_iff.2 hm] at this
    cases this
  · have := htn _ (htl p e he)
    rw [Bool.and_eq_true] at this
    simpa using this.1
  · have := htn _ (htl p e hp)
    rw [Bool.and_eq_true] at this
    have := List.all_eq_true.1 this.2 _ (htl q e hq)
    simpa using this

/-- What is to be shown of one of the operations drawn; f0: the frame in the text's order. -/
def OpY (P : Program) (d : Nat) (l : List Oper) (sz : Nat) (up own : (Nat → Bool) → List AObj) (dfs : List Nat) (rnd : Option Nat) (x : Inf) (o : Oper) (f0 : Nat → AV) (ws : List (Nat × AV)) : Prop :=
  match x.W with
  | none => x.t = none ∧ ∃ s y, ws = [(s, y)] ∧ o.dst = some s ∧ s < sz ∧ ∀ B, (∀ p ∈ x.T, B p = true) → (∀ p ∈ x.F, B p = false) → OpD P d l o sz f0 (up B) (own B) dfs rnd y
  | some W => ws.map (·.1) = W ∧ o.guard = none ∧ ∀ B f, (∀ p ∈ x.T, B p = true) → (∀ p ∈ x.F, B p = false) → (∀ p, x.t = some p → B p = false) → (∀ t ∈ lk l o, f t = f0 t) →
      AOp P d o ⟨sz, f, up B, own B, dfs, rnd⟩ (· = ⟨sz, setWs ws f, up (updO x.t B), own (updO x.t B), dfs, rnd⟩)
theorem OpY.slots {l : List Oper} {up own : (Nat → Bool) → List AObj} {x : Inf} {o : Oper} {f0 : Nat → AV} {ws : List (Nat × AV)} (h : OpY P d l sz up own dfs rnd x o f0 ws) : ws.map (·.1) = slY o x := by
  unfold OpY at h
  unfold slY
  cases hW : x.W with
  | none =>
    rw [hW] at h
    obtain ⟨_, s, y, rfl, h2, _⟩ := h
    simp [h2]
  | some W =>
    rw [hW] at h
    exact h.1

/-- **A region whose order is drawn, with several operations that turn the heap or write more slots than one.** -/
theorem AW.drawY {id : Nat} {l : List Oper} {tn : List Nat} {I : List Inf} {D : List (List (Nat × AV))} {up own : (Nat → Bool) → List AObj} {fr : Nat → AV} {K : Exit → St → Prop} (M : List Nat) (hm : P.follows .mixedOrders = true) (hok : okY l tn I M = true)
    (hD : D.length = I.length) (hlen : ∀ B, (up B).length = (up fun _ => false).length)
    (hops : ∀ (i : Nat) (o : Oper) (x : Inf), l[i]? = some o → I[i]? = some x → ∃ ws, D[i]? = some ws ∧ OpY P d l sz up own dfs rnd x o (frY (fun _ => true) 0 (D.take i) fr) ws)
    (hrest : ARun P d l.toArray (l.drop I.length) ⟨sz, frY (fun _ => true) 0 D fr, up (fun p => decide (p < tn.length)), own (fun p => decide (p < tn.length)), dfs, rnd⟩ (K .normal)) :
    AW P d (.region id l.toArray true) ⟨sz, fr, up fun _ => false, own fun _ => false, dfs, rnd⟩ K := by
  have ok := okY_spec hok
  obtain ⟨k, hk⟩ : ∃ k, k = I.length := ⟨_, rfl⟩
  have hkl : k ≤ l.length := by have := ok.len; omega
  have ed : EdgeOK l k M := by rw [hk]; exact ok.toEdgeOK
  rw [← hk] at hD hrest
  have gI : ∀ i, i < k → ∃ x, I[i]? = some x := fun i hi => ⟨I[i]'(by omega), List.getElem?_eq_getElem _⟩
  intro G0 a0 w0 hr0
  refine wpIn_region_any hm ?_
  generalize hF : Fr ((St.mk sz fr (up fun _ => false) (own fun _ => false) dfs rnd).rnd.map G0.blk) = F
  have hu : ∀ (i j : Nat) (t : Nat) (ws ws' : List (Nat × AV)), D[i]? = some ws → t ∈ ws.map (·.1) → D[j]? = some ws' → t ∈ ws'.map (·.1) → j = i ∨ ((M.getD i 0).testBit j = true ∧ j < i) ∨ ((M.getD j 0).testBit i = true ∧ i < j) := by
    intro i j t ws ws' h1 m1 h2 m2
    have hi : i < k := by rw [← hD]; exact (List.getElem?_eq_some_iff.1 h1).1
    have hj : j < k := by rw [← hD]; exact (List.getElem?_eq_some_iff.1 h2).1
    have e1 : l[i]? = some (l[i]'(by omega)) := List.getElem?_eq_getElem (by omega)
    have e2 : l[j]? = some (l[j]'(by omega)) := List.getElem?_eq_getElem (by omega)
    obtain ⟨x, hx⟩ := gI i hi
    obtain ⟨y, hy⟩ := gI j hj
    obtain ⟨w1, a1, a2⟩ := hops i _ x e1 hx
    obtain ⟨w2, b1, b2⟩ := hops j _ y e2 hy
    rw [h1] at a1; injection a1 with a1; subst a1
    rw [h2] at b1; injection b1 with b1; subst b1
    rw [a2.slots] at m1
    rw [b2.slots] at m2
    exact (ok.uniq i j _ _ x y t e1 e2 hx hy m1 m2).imp (fun h => h) (fun h => h.2)
  have hbe : ∀ L : Nat → Bool, (∀ j, j < k → L j = true) → bits tn L = (fun p => decide (p < tn.length)) := fun L hL => by
    funext p
    unfold bits
    cases hp : tn[p]? with
    | none =>
      have : ¬ p < tn.length := by rw [List.getElem?_eq_none_iff] at hp; omega
      show false = decide (p < tn.length)
      simp [this]
    | some e =>
      have h1 := (List.getElem?_eq_some_iff.1 hp).1
      show L e = decide (p < tn.length)
      rw [hL e (by rw [hk]; exact ok.tl p e hp)]
      simp [h1]
  have key : ∀ (fuel : Nat) (listed : Array Bool) (a : Act) (w : World) (G : Gh), listed.size = l.length → listed.toList.countP (fun b => !b) = fuel →
      (∀ j, k ≤ j → j < l.length → listed.getD j false = false) →
      (∀ (i : Nat) (o : Oper), listed.getD i false = true → l[i]? = some o → ∀ e ∈ o.after, Region.binds .any e = true → listed.getD e.on false = true) →
      StRel d G ⟨sz, frY (fun j => listed.getD j false) 0 D fr, up (bits tn fun j => listed.getD j false), own (bits tn fun j => listed.getD j false), dfs, rnd⟩ a w → Keep d G0 w0 G w →
      wpAnyIn F 0 P .any l.toArray (fun e => Post d ⟨sz, fr, up fun _ => false, own fun _ => false, dfs, rnd⟩ G0 w0 (K e)) fuel listed a w := by
    intro fuel
    induction fuel with
    | zero =>
      intro listed a w G hsz hcnt htl hcl hst hkp
      have hall : ∀ j, j < l.length → listed.getD j false = true := fun j hj => by
        have hz : listed.toList.all (fun b => b) = true := by
          rw [List.countP_eq_zero] at hcnt
          exact List.all_eq_true.2 fun b hb => by simpa using hcnt b hb
        have hj' : j < listed.size := by omega
        have := List.all_eq_true.1 hz (listed[j]) (by simp)
        simpa [hj'] using this
      have hkeq : k = l.length := by
        refine Classical.byContradiction fun hne => ?_
        have h1 := htl k (Nat.le_refl _) (by omega)
        rw [hall k (by omega)] at h1
        cases h1
      refine draw_tail ed 0 l.length listed a w (by omega) (by omega) hsz (fun j hj => by rw [hall j hj]; simpa using hj) ?_
      have hfe : frY (fun j => listed.getD j false) 0 D fr = frY (fun _ => true) 0 D fr := frY_congr D 0 fr (fun j hj => by rw [Nat.zero_add]; exact hall j (by omega))
      have hce : (bits tn fun j => listed.getD j false) = (fun p => decide (p < tn.length)) := hbe _ (fun j hj => hall j (by omega))
      rw [hfe, hce] at hst
      have hz := hrest G a w hst [] (by simp [hkeq])
      rw [fr_keep (st' := ⟨sz, frY (fun _ => true) 0 D fr, up (fun p => decide (p < tn.length)), own (fun p => decide (p < tn.length)), dfs, rnd⟩) hr0 hkp rfl, hF] at hz
      exact opsIn_mono (fun e a' w' ⟨he, hp⟩ => by subst he; exact hp.next hkp (hlen _) rfl rfl) _ _ _ hz
    | succ fuel ih =>
      intro listed a w G hsz hcnt htl hcl hst hkp
      by_cases hpre : ∀ j, j < k → listed.getD j false = true
      · -- the rest, in a row
        have hfe : frY (fun j => listed.getD j false) 0 D fr = frY (fun _ => true) 0 D fr := frY_congr D 0 fr (fun j hj => by rw [Nat.zero_add]; exact hpre j (by omega))
        have hce : (bits tn fun j => listed.getD j false) = (fun p => decide (p < tn.length)) := hbe _ hpre
        rw [hfe, hce] at hst
        have hle : ∀ j, j < l.length → listed.getD j false = decide (j < k) := fun j hj => by
          by_cases hjk : j < k
          · rw [hpre j hjk]; simpa using hjk
          · rw [htl j (by omega) hj]; simpa using hjk
        have hcnt' : fuel + 1 = l.length - k := by
          rw [← hcnt]
          have e1 : listed.toList = (List.range l.length).map (fun j => decide (j < k)) := by
            apply List.ext_getElem
            · simp [hsz]
            · intro j h1 h2
              have hj : j < l.length := by simpa [hsz] using h1
              have := hle j hj
              simp only [List.getElem_map, List.getElem_range, Array.getElem_toList]
              rw [← this]
              have hj' : j < listed.size := by omega
              simp [hj']
          rw [e1, List.countP_map]
          have e2 : ((fun b => !b) ∘ fun j => decide (j < k)) = fun j => decide (k ≤ j) := by
            funext j
            simp only [Function.comp_apply]
            by_cases hjk : j < k
            · have h2 : ¬ k ≤ j := by omega
              simp [hjk, h2]
            · have h2 : k ≤ j := by omega
              simp [hjk, h2]
          rw [e2]
          have : ∀ n, (List.range n).countP (fun j => decide (k ≤ j)) = n - k := by
            intro n
            induction n with
            | zero => simp
            | succ n ihn =>
              rw [List.range_succ, List.countP_append, ihn]
              by_cases hkn : k ≤ n
              · simp [hkn]; omega
              · simp [hkn]; omega
          rw [this]
        rw [hcnt']
        refine draw_tail ed (l.length - k) k listed a w (Nat.le_refl _) (by omega) hsz hle ?_
        have hz := hrest G a w hst (List.range' k (l.length - k)) (by
          apply List.ext_getElem?
          intro i
          simp only [List.getElem?_map, List.getElem?_drop]
          by_cases hi : i < l.length - k
          · rw [List.getElem?_range' (by omega), List.getElem?_eq_getElem (l := l) (by omega)]
            simp
          · rw [List.getElem?_eq_none (by simp; omega), List.getElem?_eq_none (by omega)]; rfl)
        rw [fr_keep (st' := ⟨sz, frY (fun _ => true) 0 D fr, up (fun p => decide (p < tn.length)), own (fun p => decide (p < tn.length)), dfs, rnd⟩) hr0 hkp rfl, hF] at hz
        exact opsIn_mono (fun e a' w' ⟨he, hp⟩ => by subst he; exact hp.next hkp (hlen _) rfl rfl) _ _ _ hz
      · obtain ⟨j0, hj0k, hj0⟩ : ∃ j, j < k ∧ listed.getD j false = false := by
          refine Classical.byContradiction fun hne => hpre fun j hj => ?_
          cases hv : listed.getD j false with
          | true => rfl
          | false => exact absurd ⟨j, hj, hv⟩ hne
        refine ⟨fun h0 => ?_, fun i hi => ?_⟩
        · -- the least that is not listed is ready
          obtain ⟨m, hm, hmin⟩ := exists_least (S := fun j => j < k ∧ listed.getD j false = false) ⟨j0, hj0k, hj0⟩
          have hml : m < l.length := by omega
          have : m ∈ Region.ready .any l.toArray listed := by
            refine mem_ready.2 ⟨?_, l[m], by simp [hml], fun e he hb => ?_⟩
            · have := hm.2; have hj' : m < listed.size := by omega
              simpa [hj'] using this
            · have hlt := ed.fwd m _ (List.getElem?_eq_getElem hml) e he hb
              cases hv : listed.getD e.on false with
              | true => rfl
              | false => have := hmin e.on ⟨by omega, hv⟩; omega
          rw [h0] at this
          cases this
        · obtain ⟨h1, o, ho, he⟩ := mem_ready.1 hi
          have ho' : l[i]? = some o := by simpa using ho
          have hil := (List.getElem?_eq_some_iff.1 ho').1
          have hLi : listed.getD i false = false := by
            have h3 : listed.getD i true = listed.getD i false := by simp [hsz, hil]
            rw [← h3]; exact h1
          have hbits := listed_bits ed (L := fun j => listed.getD j false) hcl i o ho' he
          have hik : i < k := by
            refine Classical.byContradiction fun hge => ?_
            have := hbits j0 (ed.tail i j0 o ho' (by omega) (by omega))
            simp only [hj0] at this
            cases this
          obtain ⟨x, hx⟩ := gI i hik
          obtain ⟨ws, hDi, hO⟩ := hops i o x ho' hx
          -- what it looks at is as in the text's order
          have hnl : ∀ j, (M.getD j 0).testBit i = true → j < k → listed.getD j false = false := fun j hb hjk => by
            cases hv : listed.getD j false with
            | false => rfl
            | true =>
              have ez : l[j]? = some (l[j]'(by omega)) := List.getElem?_eq_getElem (by omega)
              have := listed_bits ed (L := fun j => listed.getD j false) hcl j _ ez (hcl j _ hv ez) i hb
              simp only [hLi] at this
              cases this
          have hag : ∀ t ∈ lk l o, frY (fun j => listed.getD j false) 0 D fr t = frY (fun _ => true) 0 (D.take i) fr t := by
            intro t ht
            rw [frY_take]
            refine frY_at D 0 fr fr (fun j v hj htv => ?_) rfl
            have hjk : j < k := by rw [← hD]; exact (List.getElem?_eq_some_iff.1 hj).1
            have ez : l[j]? = some (l[j]'(by omega)) := List.getElem?_eq_getElem (by omega)
            obtain ⟨y, hy⟩ := gI j hjk
            obtain ⟨v', b1, b2⟩ := hops j _ y ez hy
            rw [hj] at b1
            injection b1 with b1
            subst b1
            rw [b2.slots] at htv
            rw [Nat.zero_add, Nat.zero_add]
            rcases ok.look i j o _ x y t ho' ez hx hy ht htv with rfl | ⟨hb, hlt⟩ | ⟨hb, hlt⟩
            · rw [hLi]; simp
            · rw [hbits j hb]; simpa using hlt
            · rw [hnl j hb hjk]
              have : ¬ j < i := by omega
              simp [this]
          -- on which heap
          have hTT : ∀ p ∈ x.T, bits tn (fun j => listed.getD j false) p = true := fun p hp => by
            obtain ⟨e, he, hb⟩ := ok.T i x p hx hp
            unfold bits
            rw [he]
            exact hbits e hb
          have hFF : ∀ p ∈ x.F, bits tn (fun j => listed.getD j false) p = false := fun p hp => by
            obtain ⟨e, he, hb⟩ := ok.F i x p hx hp
            unfold bits
            rw [he]
            exact hnl e hb (by rw [hk]; exact ok.tl p e he)
          have htt : ∀ p, x.t = some p → bits tn (fun j => listed.getD j false) p = false := fun p hp => by
            unfold bits
            rw [ok.t1 i x p hx hp]
            exact hLi
          -- on from there
          have hgd : ∀ j, (listed.setIfInBounds i true).getD j false = if j = i then true else listed.getD j false := fun j => by
            by_cases hj : j = i
            · subst hj; simp [hsz, hil]
            · rw [getD_set_ne false (Ne.symm hj), if_neg hj]
          have hfr : frY (fun j => (listed.setIfInBounds i true).getD j false) 0 D fr = setWs ws (frY (fun j => listed.getD j false) 0 D fr) := by
            funext t
            by_cases ht : t ∈ ws.map (·.1)
            · rw [frY_last D 0 i fr hDi ht (by rw [Nat.zero_add, hgd, if_pos rfl]) (fun q v hq hm hlt => by
                rw [Nat.zero_add, hgd, if_neg (by omega)]
                have hqk : q < k := by rw [← hD]; exact (List.getElem?_eq_some_iff.1 hq).1
                rcases hu i q t ws v hDi ht hq hm with h | ⟨_, h⟩ | ⟨h, _⟩
                · omega
                · omega
                · exact hnl q h hqk)]
              exact setWs_congr ws _ _ (.inl ht)
            · rw [setWs_none ws _ ht]
              refine frY_at D 0 fr fr (fun j v hj htv => ?_) rfl
              rw [Nat.zero_add, hgd, if_neg (fun e => by subst e; rw [hDi] at hj; injection hj with hj; subst hj; exact ht htv)]
          have hcn : (bits tn fun j => (listed.setIfInBounds i true).getD j false) = updO x.t (bits tn fun j => listed.getD j false) :=
            bits_set (fun q => hgd q) (fun p hp => ok.t1 i x p hx hp) (fun hp => ok.t0 i x hx hp) (fun p q e h1 h2 => ok.tu p q e h1 h2)
          have hnext : ∀ (G1 : Gh) (a1 : Act) (w1 : World), StRel d G1 ⟨sz, setWs ws (frY (fun j => listed.getD j false) 0 D fr), up (updO x.t (bits tn fun j => listed.getD j false)), own (updO x.t (bits tn fun j => listed.getD j false)), dfs, rnd⟩ a1 w1 → Keep d G w G1 w1 →
              wpAnyIn F 0 P .any l.toArray (fun e => Post d ⟨sz, fr, up fun _ => false, own fun _ => false, dfs, rnd⟩ G0 w0 (K e)) fuel (listed.setIfInBounds i true) a1 w1 := by
            intro G1 a1 w1 hr1 hk1
            refine ih _ _ w1 G1 (by simpa using hsz) ?_ (fun j hj hjl => by rw [hgd, if_neg (by omega)]; exact htl j hj hjl) (fun q oq hq hoq e hmem hb => ?_) ?_ (hkp.trans hk1)
            · rw [Array.toList_setIfInBounds, List.countP_set (by simpa [hsz] using hil), hcnt]
              have hil' : i < listed.size := by omega
              have : listed[i] = false := by simpa [hil'] using hLi
              simp [this]
            · rw [hgd] at hq ⊢
              split
              · rfl
              · by_cases hqi : q = i
                · subst hqi
                  rw [ho'] at hoq
                  injection hoq with hoq
                  subst hoq
                  exact he e hmem hb
                · rw [if_neg hqi] at hq
                  exact hcl q oq hq hoq e hmem hb
            · rw [hfr, hcn]
              exact hr1
          have hFe : Fr (rnd.map G.blk) = F := by
            rw [← hF]; exact fr_keep (st' := ⟨sz, frY (fun j => listed.getD j false) 0 D fr, up fun _ => false, own fun _ => false, dfs, rnd⟩) hr0 hkp rfl
          unfold wpOpIn
          rw [ho]
          simp only
          unfold OpY at hO
          cases hW : x.W with
          | some W =>
            rw [hW] at hO
            obtain ⟨_, hge, hO⟩ := hO
            have hw : Region.wanted o (yielded l.toArray a.tmps) = true := by simp [Region.wanted, hge]
            rw [if_pos hw]
            have := hO _ _ hTT hFF htt hag G a w hst (fun e => Post d ⟨sz, fr, up fun _ => false, own fun _ => false, dfs, rnd⟩ G0 w0 (K e))
            rw [show Fr ((St.mk sz (frY (fun j => listed.getD j false) 0 D fr) (up (bits tn fun j => listed.getD j false)) (own (bits tn fun j => listed.getD j false)) dfs rnd).rnd.map G.blk) = F from hFe] at this
            refine Oper.wpIn_mono ?_ this
            rintro a1 w1 ⟨G1, st1, hr1, hk1, _, _, _, rfl⟩
            exact hnext G1 a1 w1 hr1 hk1
          | none =>
            rw [hW] at hO
            obtain ⟨hxt, s, y, rfl, hdst, hssz, hO⟩ := hO
            replace hO := hO _ hTT hFF
            rw [hxt] at hnext
            have hput : ∀ (G1 : Gh) (v : Value) (w1 : World), StRel d G1 ⟨sz, frY (fun j => listed.getD j false) 0 D fr, up (bits tn fun j => listed.getD j false), own (bits tn fun j => listed.getD j false), dfs, rnd⟩ a w1 → Keep d G w G1 w1 → Rep G1 w1 none y v →
                wpAnyIn F 0 P .any l.toArray (fun e => Post d ⟨sz, fr, up fun _ => false, own fun _ => false, dfs, rnd⟩ G0 w0 (K e)) fuel (listed.setIfInBounds i true) (a.put o.dst v) w1 := by
              intro G1 v w1 hr1 hk1 hv
              refine hnext G1 _ w1 ?_ hk1
              rw [hdst]
              exact hr1.put (st := ⟨sz, frY (fun j => listed.getD j false) 0 D fr, up (bits tn fun j => listed.getD j false), own (bits tn fun j => listed.getD j false), dfs, rnd⟩) hssz hv.lift
            unfold OpD at hO
            cases hg : o.guard with
            | none =>
              rw [hg] at hO
              have hw : Region.wanted o (yielded l.toArray a.tmps) = true := by simp [Region.wanted, hg]
              rw [if_pos hw]
              have := hO _ hag G a w hst (fun e => Post d ⟨sz, fr, up fun _ => false, own fun _ => false, dfs, rnd⟩ G0 w0 (K e))
              rw [show Fr ((St.mk sz (frY (fun j => listed.getD j false) 0 D fr) (up (bits tn fun j => listed.getD j false)) (own (bits tn fun j => listed.getD j false)) dfs rnd).rnd.map G.blk) = F from hFe] at this
              refine Oper.wpIn_mono ?_ this
              rintro a1 w1 ⟨G1, v, rfl, hr1, hk1, hv⟩
              exact hput G1 v w1 hr1 hk1 hv
            | some jw =>
              obtain ⟨j, want⟩ := jw
              rw [hg] at hO
              obtain ⟨oj, g, C, y'', hj, hdj, hgB, rfl, hO⟩ := hO
              have hgf : GIs (frY (fun j => listed.getD j false) 0 D fr g) want C := by
                rw [hag g (by unfold lk; rw [hg]; simp [hj, hdj])]
                exact hgB
              have hw : Region.wanted o (yielded l.toArray a.tmps) = C := wanted_is hst hg (by simpa using hj) hdj hgf
              rw [hw]
              cases hBw : C with
              | true =>
                rw [if_pos rfl]
                have := hO hBw _ hag G a w hst (fun e => Post d ⟨sz, fr, up fun _ => false, own fun _ => false, dfs, rnd⟩ G0 w0 (K e))
                rw [show Fr ((St.mk sz (frY (fun j => listed.getD j false) 0 D fr) (up (bits tn fun j => listed.getD j false)) (own (bits tn fun j => listed.getD j false)) dfs rnd).rnd.map G.blk) = F from hFe] at this
                refine Oper.wpIn_mono ?_ this
                rintro a1 w1 ⟨G1, v, rfl, hr1, hk1, hv⟩
                exact hput G1 v w1 hr1 hk1 (by rw [hBw]; exact hv)
              | false =>
                rw [if_neg (by simp)]
                refine ⟨fun _ _ => by rw [← hFe]; trivial, ?_⟩
                exact hput G undef w hst (Keep.refl _ _ _) (by rw [hBw]; exact .v _ _)
  have hrf : ∀ j, (Array.replicate l.toArray.size false).getD j false = false := fun j => by
    rw [Array.getD_eq_getD_getElem?, Array.getElem?_replicate]
    split <;> rfl
  have hz : frY (fun j => (Array.replicate l.toArray.size false).getD j false) 0 D fr = fr := by
    funext t
    exact frY_none D 0 fr fun j v _ _ => hrf _
  have hz' : (bits tn fun j => (Array.replicate l.toArray.size false).getD j false) = fun _ => false := by
    funext p
    unfold bits
    cases tn[p]? with
    | none => rfl
    | some e => exact hrf e
  refine key _ _ _ _ G0 (by simp) ?_ (fun j hj hjl => hrf j) (fun i o hi => ?_) ?_ ?_
  · simp [List.countP_replicate]
  · rw [hrf] at hi; cases hi
  · rw [hz, hz']
    exact hr0.drew _
  · exact (drew_turn G0 w0 _).keep d

/-! ### In the text's order, segment by segment -/
inductive SegY where
  | q (n : Nat) (T F : List Nat)
  | s (W : List Nat) (t : Option Nat) (T F : List Nat)
def SegY.inf : SegY → List Inf
  | .q n T F => List.replicate n ⟨none, none, T, F⟩
  | .s W t T F => [⟨some W, t, T, F⟩]
def infsY : List SegY → List Inf
  | [] => []
  | x :: r => x.inf ++ infsY r

def ChainY (P : Program) (d : Nat) (l0 : List Oper) (sz : Nat) (up own : (Nat → Bool) → List AObj) (dfs : List Nat) (rnd : Option Nat) (E : List Oper → (Nat → AV) → Prop) : List SegY → List Oper → (Nat → AV) → Prop
  | [], l, fr => E l fr
  | .q n T F :: S, l, fr => (∀ p ∈ T, p ∉ F) ∧ ∃ l2 F2, (∀ B : Nat → Bool, (∀ p ∈ T, B p = true) → (∀ p ∈ F, B p = false) → ADraw P d l0 sz (up B) (own B) dfs rnd (fun l' f => l' = l2 ∧ f = F2) n l fr) ∧ ChainY P d l0 sz up own dfs rnd E S l2 F2
  | .s W t T F :: S, l, fr => ∃ o l2 ws, l = o :: l2 ∧ OpY P d l0 sz up own dfs rnd ⟨some W, t, T, F⟩ o fr ws ∧ ChainY P d l0 sz up own dfs rnd E S l2 (setWs ws fr)

theorem ChainY.data {l0 : List Oper} {up own : (Nat → Bool) → List AObj} {E : List Oper → (Nat → AV) → Prop} : ∀ (S : List SegY) (l : List Oper) (fr : Nat → AV),
    (∀ (i j : Nat) (o z : Oper) (x y : Inf) (s : Nat), l[i]? = some o → l[j]? = some z → (infsY S)[i]? = some x → (infsY S)[j]? = some y → x.W = none → y.W = none → s ∈ slY o x → s ∈ slY z y → j = i) →
    ChainY P d l0 sz up own dfs rnd E S l fr → ∃ D : List (List (Nat × AV)), D.length = (infsY S).length ∧ D.length ≤ l.length ∧
      (∀ (i : Nat) (o : Oper) (x : Inf), l[i]? = some o → (infsY S)[i]? = some x → ∃ ws, D[i]? = some ws ∧ OpY P d l0 sz up own dfs rnd x o (frY (fun _ => true) 0 (D.take i) fr) ws) ∧
      E (l.drop D.length) (frY (fun _ => true) 0 D fr)
  | [], l, fr, U, h => ⟨[], rfl, Nat.zero_le _, fun i o x _ hx => by simp [infsY] at hx, h⟩
  | .q n T F :: S, l, fr, U, ⟨hTF, l2, F2, hA, h⟩ => by
    obtain ⟨D1, hD1, hk1, ho1, hl1, hF1⟩ := ADraw.data n l fr (hA (fun p => T.elem p) (fun p hp => List.elem_iff.2 hp) (fun p hp => by
      cases hv : T.elem p with
      | false => rfl
      | true => exact absurd hp (hTF p (List.elem_iff.1 hv))))
    have hI : ∀ i, i < n → (infsY (.q n T F :: S))[i]? = some ⟨none, none, T, F⟩ := fun i hi' => by
      show (List.replicate n _ ++ infsY S)[i]? = _
      rw [List.getElem?_append_left (by simpa using hi'), List.getElem?_replicate, if_pos hi']
    have hI2 : ∀ i, (infsY (.q n T F :: S))[n + i]? = (infsY S)[i]? := fun i => by
      show (List.replicate n _ ++ infsY S)[n + i]? = _
      rw [List.getElem?_append_right (by simp)]
      simp
    have hl2 : ∀ i, l2[i]? = l[n + i]? := fun i => by rw [← hl1, List.getElem?_drop]
    have hq : ∀ (i : Nat) (o : Oper), i < n → l[i]? = some o → ∃ s y, D1[i]? = some (s, y) ∧ o.dst = some s ∧ s < sz ∧ ∀ B : Nat → Bool, (∀ p ∈ T, B p = true) → (∀ p ∈ F, B p = false) → OpD P d l0 o sz (frL (fun _ => true) 0 (D1.take i) fr) (up B) (own B) dfs rnd y := by
      intro i o hin ho
      obtain ⟨s, y, c1, c2, c3, _⟩ := ho1 i o hin ho
      refine ⟨s, y, c1, c2, c3, fun b hb1 hb2 => ?_⟩
      obtain ⟨D1', hD1', _, ho1', _, hF1'⟩ := ADraw.data n l fr (hA b hb1 hb2)
      have same : D1 = D1' := by
        refine draw_same (f := fr) (by omega) (fun i s s' y y' e1 e2 => ?_) (fun i j s y y' e1 e2 => ?_) (by rw [hF1, hF1'])
        · have hi := (List.getElem?_eq_some_iff.1 e1).1
          have hz : l[i]? = some (l[i]'(by omega)) := List.getElem?_eq_getElem (by omega)
          obtain ⟨a, b, c1, c2, _⟩ := ho1 i _ (by omega) hz
          obtain ⟨a', b', c1', c2', _⟩ := ho1' i _ (by omega) hz
          rw [e1] at c1; rw [e2] at c1'; rw [c2] at c2'
          simp only [Option.some.injEq, Prod.mk.injEq] at c1 c1' c2'
          omega
        · have hi := (List.getElem?_eq_some_iff.1 e1).1
          have hj := (List.getElem?_eq_some_iff.1 e2).1
          have hz : l[i]? = some (l[i]'(by omega)) := List.getElem?_eq_getElem (by omega)
          have hz' : l[j]? = some (l[j]'(by omega)) := List.getElem?_eq_getElem (by omega)
          obtain ⟨a, b, c1, c2, _⟩ := ho1 i _ (by omega) hz
          obtain ⟨a', b', c1', c2', _⟩ := ho1 j _ (by omega) hz'
          rw [e1] at c1; rw [e2] at c1'
          simp only [Option.some.injEq, Prod.mk.injEq] at c1 c1'
          refine (U i j _ _ _ _ s hz hz' (hI i (by omega)) (hI j (by omega)) rfl rfl ?_ ?_).symm
          · simp [slY, c2, c1.1]
          · simp [slY, c2', c1'.1]
      subst same
      obtain ⟨s', y', d1, _, _, d4⟩ := ho1' i o hin ho
      rw [c1] at d1
      simp only [Option.some.injEq, Prod.mk.injEq] at d1
      obtain ⟨rfl, rfl⟩ := d1
      exact d4
    obtain ⟨D2, hD2, hk2, ho2, hE⟩ := ChainY.data S l2 F2 (fun i j o z x y s h1 h2 h3 h4 n1 n2 h5 h6 => by
      have := U (n + i) (n + j) o z x y s (by rw [← hl2]; exact h1) (by rw [← hl2]; exact h2) (by rw [hI2]; exact h3) (by rw [hI2]; exact h4) n1 n2 h5 h6
      omega) h
    have hlen2 : l2.length = l.length - n := by rw [← hl1]; simp
    refine ⟨D1.map (fun x => [x]) ++ D2, ?_, ?_, fun i o x ho hx => ?_, ?_⟩
    · show _ = (List.replicate n _ ++ infsY S).length
      simp [hD1, hD2]
    · simp only [List.length_append, List.length_map]
      omega
    · by_cases hin : i < n
      · rw [hI i hin] at hx
        injection hx with hx
        subst hx
        obtain ⟨s, y, c1, c2, c3, c4⟩ := hq i o hin ho
        refine ⟨[(s, y)], ?_, rfl, s, y, rfl, c2, c3, fun b h1 h2 => ?_⟩
        · rw [List.getElem?_append_left (by simp; omega), List.getElem?_map, c1]; rfl
        · rw [List.take_append_of_le_length (by simp; omega), ← List.map_take, frY_map]
          exact c4 b h1 h2
      · obtain ⟨j, rfl⟩ : ∃ j, i = n + j := ⟨i - n, by omega⟩
        rw [hI2] at hx
        rw [← hl2] at ho
        obtain ⟨ws, c1, c2⟩ := ho2 j o x ho hx
        refine ⟨ws, ?_, ?_⟩
        · rw [List.getElem?_append_right (by simp; omega), List.length_map, hD1, show n + j - n = j by omega]; exact c1
        · have : (D1.map (fun x => [x]) ++ D2).take (n + j) = D1.map (fun x => [x]) ++ D2.take j := by
            rw [List.take_append, List.take_of_length_le (by simp; omega), List.length_map, hD1, show n + j - n = j by omega]
          rw [this, frY_app, frY_map, hF1]
          exact c2
    · rw [frY_app, frY_map, hF1, List.length_append, List.length_map, hD1, ← List.drop_drop, hl1]
      exact hE
  | .s W t T F :: S, l, fr, U, ⟨o, l2, ws, hl, hO, h⟩ => by
    subst hl
    obtain ⟨D2, hD2, hk2, ho2, hE⟩ := ChainY.data S l2 _ (fun i j o' z x y s h1 h2 h3 h4 n1 n2 h5 h6 => by
      have := U (i + 1) (j + 1) o' z x y s (by simpa using h1) (by simpa using h2) (by simpa [infsY, SegY.inf] using h3) (by simpa [infsY, SegY.inf] using h4) n1 n2 h5 h6
      omega) h
    refine ⟨ws :: D2, ?_, ?_, fun i o' x ho hx => ?_, ?_⟩
    · show _ = ([_] ++ infsY S).length
      simp [hD2]
    · simp; omega
    · cases i with
      | zero =>
        have e1 : o = o' := by simpa using ho
        have e2 : (⟨some W, t, T, F⟩ : Inf) = x := by simpa [infsY, SegY.inf] using hx
        subst e1; subst e2
        exact ⟨ws, rfl, hO⟩
      | succ i =>
        obtain ⟨v, c1, c2⟩ := ho2 i o' x (by simpa using ho) (by simpa [infsY, SegY.inf] using hx)
        refine ⟨v, by simpa using c1, ?_⟩
        rw [List.take_succ_cons, frY_cons, if_pos rfl, frY_shift _ _ 0]
        exact c2
    · rw [frY_cons, if_pos rfl, frY_shift _ _ 0]
      simpa using hE

theorem AW.chainY {id : Nat} {l : List Oper} {tn : List Nat} {S : List SegY} {up own : (Nat → Bool) → List AObj} {up0 own0 : List AObj} {fr : Nat → AV} {K : Exit → St → Prop} (M : List Nat) (hm : P.follows .mixedOrders = true) (hok : okY l tn (infsY S) M = true)
    (h0 : up (fun _ => false) = up0) (h0' : own (fun _ => false) = own0) (hlen : ∀ B, (up B).length = up0.length)
    (h : ChainY P d l sz up own dfs rnd (fun l' f => ARun P d l.toArray l' ⟨sz, f, up (fun p => decide (p < tn.length)), own (fun p => decide (p < tn.length)), dfs, rnd⟩ (K .normal)) S l fr) :
    AW P d (.region id l.toArray true) ⟨sz, fr, up0, own0, dfs, rnd⟩ K := by
  subst h0; subst h0'
  obtain ⟨D, h1, h2, h3, h4⟩ := ChainY.data S l fr (fun i j o z x y s h1 h2 h3 h4 n1 n2 h5 h6 => ((okY_spec hok).uniq i j o z x y s h1 h2 h3 h4 h5 h6).resolve_right (fun h => h.1 ⟨n1, n2⟩)) h
  refine AW.drawY M hm hok h1 hlen h3 ?_
  rw [← h1]
  exact h4
end

/-! ### In the form in which scripts apply them -/
section
variable {P : Program} {d : Nat} {sz : Nat} {dfs : List Nat} {rnd : Option Nat} {l0 : List Oper} {up own : (Nat → Bool) → List AObj} {E : List Oper → (Nat → AV) → Prop} {S : List SegY} {l : List Oper} {fr : Nat → AV} {ty : TypeId} {pos : String} {aft : Array Edge} {s : Nat} {T F : List Nat}

theorem W.drawY {id : Nat} {y : Code} {up0 own0 : List AObj} {K : Exit → St → Prop} (M : List Nat) (tn : List Nat) (S : List SegY) (up own : (Nat → Bool) → List AObj) (hm : P.follows .mixedOrders = true) (hok : okY l tn (infsY S) M = true)
    (h0 : up (fun _ => false) = up0) (h0' : own (fun _ => false) = own0) (hlen : ∀ B, (up B).length = up0.length)
    (h : ChainY P d l sz up own dfs rnd (fun l' f => ARun P d l.toArray l' ⟨sz, f, up (fun p => decide (p < tn.length)), own (fun p => decide (p < tn.length)), dfs, rnd⟩ (fun s => AW P d y s K)) S l fr) :
    AW P d (.seq (.region id l.toArray true) y) ⟨sz, fr, up0, own0, dfs, rnd⟩ K := AW.seq (AW.chainY M hm hok h0 h0' hlen h)
theorem W.drawY0 {id : Nat} {up0 own0 : List AObj} {K : Exit → St → Prop} (M : List Nat) (tn : List Nat) (S : List SegY) (up own : (Nat → Bool) → List AObj) (hm : P.follows .mixedOrders = true) (hok : okY l tn (infsY S) M = true)
    (h0 : up (fun _ => false) = up0) (h0' : own (fun _ => false) = own0) (hlen : ∀ B, (up B).length = up0.length)
    (h : ChainY P d l sz up own dfs rnd (fun l' f => ARun P d l.toArray l' ⟨sz, f, up (fun p => decide (p < tn.length)), own (fun p => decide (p < tn.length)), dfs, rnd⟩ (K .normal)) S l fr) :
    AW P d (.region id l.toArray true) ⟨sz, fr, up0, own0, dfs, rnd⟩ K := AW.chainY M hm hok h0 h0' hlen h
theorem Y.q {n : Nat} {l2 : List Oper} {F2 : Nat → AV} (h1 : ∀ B : Nat → Bool, (∀ p ∈ T, B p = true) → (∀ p ∈ F, B p = false) → ADraw P d l0 sz (up B) (own B) dfs rnd (fun l' f => l' = l2 ∧ f = F2) n l fr) (h2 : ChainY P d l0 sz up own dfs rnd E S l2 F2) (hTF : ∀ p ∈ T, p ∉ F := by decide) :
    ChainY P d l0 sz up own dfs rnd E (.q n T F :: S) l fr := ⟨hTF, l2, F2, h1, h2⟩
theorem Y.tail {tn : List Nat} {Q : St → Prop} {U O : List AObj} (h : ARun P d l0.toArray l ⟨sz, fr, U, O, dfs, rnd⟩ Q) (hU : up (fun p => decide (p < tn.length)) = U := by rfl) (hO : own (fun p => decide (p < tn.length)) = O := by rfl) : ChainY P d l0 sz up own dfs rnd (fun l' f => ARun P d l0.toArray l' ⟨sz, f, up (fun p => decide (p < tn.length)), own (fun p => decide (p < tn.length)), dfs, rnd⟩ Q) [] l fr := by
  subst hU; subst hO; exact h
theorem AOp.eqTo {o : Oper} {st s1 s2 : St} (h : AOp P d o st (· = s1)) (e : s1 = s2) : AOp P d o st (· = s2) := e ▸ h
theorem Y.moveT {r : Nat} {y z : AV} (h : ChainY P d l0 sz up own dfs rnd E S l (setF s y (setF r z fr))) (hx : fr r = y := by simp only [go_sem, ↓reduceIte, Nat.reduceEqDiff, Nat.reduceAdd] <;> rfl) (hz : y.strip = z := by simp only [go_sem, ↓reduceIte, Nat.reduceEqDiff, Nat.reduceAdd] <;> rfl) (hs : Nat.blt s sz = true := by rfl) :
    ChainY P d l0 sz up own dfs rnd E (.s [r, s] none T F :: S) (⟨some s, .move (.tmp r), ty, pos, aft, none⟩ :: l) fr := by
  subst hz
  subst hx
  refine ⟨_, l, [(r, (fr r).strip), (s, fr r)], rfl, ⟨rfl, rfl, fun B f _ _ _ hf => ?_⟩, h⟩
  have e : f r = fr r := hf r (by simp [lk, tmpsOf, Op.operands])
  have := AOp.moveT (P := P) (d := d) (ty := ty) (pos := pos) (aft := aft) (gd := none) (st := ⟨sz, f, up B, own B, dfs, rnd⟩) (r := r) (s := s) (by simpa using hs)
  refine AOp.eqTo this ?_
  simp only [St.set, e]
  rfl
/-- The p-th of those that turn the heap: it takes what a cell of an object of whoever waits owns. -/
theorem Y.loadUpT {t t' : TypeId} {p : Operand} {o off pn : Nat} {y z : AV} {cs cs' : List AV} (hagg : ∀ w, (isAgg t).run P w = .ok false w)
    (hU : ∀ B : Nat → Bool, B pn = false → (up B)[o]? = some (.cells t' cs) ∧ up (upd B pn) = (up B).set o (.cells t' cs') ∧ own (upd B pn) = own B)
    (h : ChainY P d l0 sz up own dfs rnd E S l (setF s y fr)) 
    (hp : frEv fr p = .ptr o off := by simp only [go_sem, ↓reduceIte, Nat.reduceEqDiff, Nat.reduceAdd] <;> rfl) (hy : cs[off]? = some y := by rfl) (hz : y.strip = z := by simp only [go_sem, ↓reduceIte, Nat.reduceEqDiff, Nat.reduceAdd] <;> rfl) (hcs : cs.set off z = cs' := by simp only [go_sem, ↓reduceIte, Nat.reduceEqDiff, Nat.reduceAdd] <;> rfl) (hs : Nat.blt s sz = true := by rfl) :
    ChainY P d l0 sz up own dfs rnd E (.s [s] (some pn) T F :: S) (⟨some s, .load t p, ty, pos, aft, none⟩ :: l) fr := by
  subst hz
  subst hcs
  refine ⟨_, l, [(s, y)], rfl, ⟨rfl, rfl, fun B f _ _ hB hf => ?_⟩, h⟩
  obtain ⟨a1, a2, a3⟩ := hU B (hB pn rfl)
  have e : frEv f p = .ptr o off := by rw [agr hf (by simp [Op.operands])]; exact hp
  refine AOp.eqTo (AOp.loadUpT (st := ⟨sz, f, up B, own B, dfs, rnd⟩) hagg e a1 hy (by simpa using hs)) ?_
  show _ = St.mk sz (setWs [(s, y)] f) (up (upd B pn)) (own (upd B pn)) dfs rnd
  rw [a2, a3]
  rfl
/-- The p-th of those that turn the heap: a call that turns one object. -/
theorem Y.callVUp {f0 : Operand} {g : FuncId} {xs : List Operand} {ats : Array TypeId} {first caps args : List AV} {r : AV} {o pn : Nat} {x x0 : AObj} (hcall : ∀ args w, (callFunc g args).run P w = .ok (.enter g args) w)
    (hU : ∀ B : Nat → Bool, (∀ p ∈ T, B p = true) → (∀ p ∈ F, B p = false) → B pn = false → (up B)[o]? = some x0 ∧ up (upd B pn) = (up B).set o x ∧ own (upd B pn) = own B ∧ ObjLow (up B).length x ∧ ACall P g args (up B ++ own B) (fun y H' => y = r ∧ H' = (up B ++ own B).set o x))
    (h : ChainY P d l0 sz up own dfs rnd E S l (setF s r fr)) (hx0' : x0 ≠ .defs := by simp)
    (hf0 : frEv fr f0 = .fn (.func g) first caps := by simp only [go_sem, ↓reduceIte, Nat.reduceEqDiff, Nat.reduceAdd] <;> rfl) (ha : first ++ xs.map (frEv fr) ++ caps = args := by simp only [go_sem, ↓reduceIte, Nat.reduceEqDiff, Nat.reduceAdd] <;> rfl) (hs : Nat.blt s sz = true := by rfl) :
    ChainY P d l0 sz up own dfs rnd E (.s [s] (some pn) T F :: S) (⟨some s, .call ⟨.value f0, xs.toArray, ats⟩, ty, pos, aft, none⟩ :: l) fr := by
  refine ⟨_, l, [(s, r)], rfl, ⟨rfl, rfl, fun B f hT hF hB hf => ?_⟩, h⟩
  obtain ⟨a1, a2, a3, a4, a5⟩ := hU B hT hF (hB pn rfl)
  have hlt := (List.getElem?_eq_some_iff.1 a1).1
  have e : first ++ xs.map (frEv f) ++ caps = args := by rw [agrL hf (fun x hx => by simp [Op.operands, Call.operands, hx])]; exact ha
  have e0 : frEv f f0 = .fn (.func g) first caps := by rw [agr hf (by simp [Op.operands, Call.operands])]; exact hf0
  refine AOp.callG (st := ⟨sz, f, up B, own B, dfs, rnd⟩) (first := first) (caps := caps) hcall e0 (by rw [← e] <;> rfl) a5 (by simpa using hs) (fun y H' _ hy => ?_)
  obtain ⟨rfl, rfl⟩ := hy
  refine ⟨(up B).set o x, own B, set_append_up hlt, by simp, fun h => by simp only [List.length_set] at h ⊢; exact objLow_set h a4, fun hd o' ho => ?_, ?_⟩
  · have := hd o' ho
    rw [← set_append_up hlt, List.getElem?_set]
    split
    · rename_i e
      subst e
      rw [get_up a1] at this
      injection this with this
      exact absurd this hx0'
    · exact this
  · show St.mk sz (setF s y f) ((up B).set o x) (own B) dfs rnd = St.mk sz (setWs [(s, y)] f) (up (upd B pn)) (own (upd B pn)) dfs rnd
    rw [a2, a3]
    rfl
theorem Y.callUp {g : FuncId} {xs : List Operand} {ats : Array TypeId} {args : List AV} {r : AV} {o pn : Nat} {x x0 : AObj} (hcall : ∀ args w, (callFunc g args).run P w = .ok (.enter g args) w)
    (hU : ∀ B : Nat → Bool, (∀ p ∈ T, B p = true) → (∀ p ∈ F, B p = false) → B pn = false → (up B)[o]? = some x0 ∧ up (upd B pn) = (up B).set o x ∧ own (upd B pn) = own B ∧ ObjLow (up B).length x ∧ ACall P g args (up B ++ own B) (fun y H' => y = r ∧ H' = (up B ++ own B).set o x))
    (h : ChainY P d l0 sz up own dfs rnd E S l (setF s r fr)) (hx0' : x0 ≠ .defs := by simp)
    (ha : xs.map (frEv fr) = args := by simp only [go_sem, ↓reduceIte, Nat.reduceEqDiff, Nat.reduceAdd] <;> rfl) (hs : Nat.blt s sz = true := by rfl) :
    ChainY P d l0 sz up own dfs rnd E (.s [s] (some pn) T F :: S) (⟨some s, .call ⟨.value (.func g), xs.toArray, ats⟩, ty, pos, aft, none⟩ :: l) fr :=
  Y.callVUp (f0 := .func g) (first := []) (caps := []) hcall hU h hx0' rfl (by rw [← ha]; simp) hs
theorem Y.append {t e : TypeId} {i : TypeInfo} {z : Value} {k r : Nat} {x : Operand} {o2 : Bool} {b z' y : AV} {xs ys zs : List AV} (hu : P.underlying t = some (.slice e)) (hi' : P.info? e = some i) (hl : (xs.length + ys.length) * i.bytes ≤ 140737488355328) (hl2 : xs.length + ys.length ≤ 4611686018427387904)
    (h : ChainY P d l0 sz up own dfs rnd E S l (setF s (.slice true k zs) (setF r z' fr)))
    (hz : i.zero = some z := by rfl) (hsz : i.size = k := by rfl) (hzk : z.cells.size = k := by rfl) (hk : 0 < k := by decide) (hb : fr r = b := by simp only [go_sem, ↓reduceIte, Nat.reduceEqDiff, Nat.reduceAdd] <;> rfl) (hb' : AsSl b true k xs := by first | exact .inl rfl | exact .inr ⟨rfl, rfl⟩)
    (hx : frEv fr x = y := by simp only [go_sem, ↓reduceIte, Nat.reduceEqDiff, Nat.reduceAdd] <;> rfl) (hx' : AsSl y o2 k ys := by first | exact .inl rfl | exact .inr ⟨rfl, rfl⟩) (hrs : s ≠ r := by decide) (hz' : b.strip = z' := by simp only [go_sem, ↓reduceIte, Nat.reduceEqDiff, Nat.reduceAdd] <;> rfl) (hzs : xs ++ ys = zs := by first | rfl | (simp only [go_sem, ↓reduceIte, Nat.reduceEqDiff, Nat.reduceAdd] <;> rfl)) (hs : Nat.blt s sz = true := by rfl) :
    ChainY P d l0 sz up own dfs rnd E (.s [r, s] none T F :: S) (⟨some s, .call ⟨.builtin .append, #[.tmp r, x], #[t, t]⟩, ty, pos, aft, none⟩ :: l) fr := by
  subst hzs
  subst hz'
  subst hb
  refine ⟨_, l, [(r, (fr r).strip), (s, .slice true k (xs ++ ys))], rfl, ⟨rfl, rfl, fun B f _ _ _ hf => ?_⟩, h⟩
  have e : f r = fr r := hf r (by simp [lk, tmpsOf, Op.operands, Call.operands])
  have ex : frEv f x = y := by rw [agr hf (by simp [Op.operands, Call.operands])]; exact hx
  refine AOp.eqTo (AOp.append (st := ⟨sz, f, up B, own B, dfs, rnd⟩) (r := r) hu hi' hz hsz rfl hzk hk (by show AsSl (f r) _ _ _; rw [e]; exact hb') (by show AsSl (frEv f x) _ _ _; rw [ex]; exact hx') hrs (by simpa using hs) hl hl2) ?_
  simp only [St.set, e]
  rfl
end
section
variable {P : Program} {d : Nat} {sz : Nat} {up own : List AObj} {dfs : List Nat} {rnd : Option Nat} {l0 rest : List Oper} {E : List Oper → (Nat → AV) → Prop} {fr : Nat → AV} {kd s : Nat} {ty : TypeId} {pos : String} {aft : Array Edge}
theorem D.buildSlice {t e : TypeId} {k len : Nat} {z : Value} {parts : List (Nat × Operand)} {ys : List AV} (hu : P.underlying t = some (.slice e)) (hsz : ∀ w, (Go.sizeOf e).run P w = .ok k w) (hz : ∀ w, (zeroValue e).run P w = .ok z w)
    (hr : ADraw P d l0 sz up own dfs rnd E kd rest (setF s (.slice false k ys) fr)) (hp : parts.toArray = (((parts.map Prod.snd).zipIdx).map fun x => (x.2, x.1)).toArray := by rfl) (hev : (parts.map Prod.snd).map (frEv fr) = ys := by simp only [go_sem, ↓reduceIte, Nat.reduceEqDiff, Nat.reduceAdd] <;> rfl)
    (hk : ys.all (fun y => decide (y.cells.length = k) && y.cells.all AV.one) = true := by simp [go_sem]) (hl : len = ys.length := by rfl) (hlen : ys.length * k ≤ 16777216 := by simp only [go_sem, ↓reduceIte, Nat.reduceEqDiff, Nat.reduceAdd] <;> omega) (hs : Nat.blt s sz = true := by rfl) :
    ADraw P d l0 sz up own dfs rnd E (kd + 1) (⟨some s, .buildSlice t len parts.toArray, ty, pos, aft, none⟩ :: rest) fr := by
  have h2 : ∀ y ∈ ys, y.cells.length = k ∧ y.cells.all AV.one = true := fun y hy => by simpa using List.all_eq_true.1 hk y hy
  refine ⟨s, _, rfl, by simpa using hs, fun f0 hag => ?_, hr⟩
  have e1 : (parts.map Prod.snd).map (frEv f0) = ys := by
    rw [agrL hag (fun x hx => by simp [Op.operands] at hx ⊢; exact hx)]; exact hev
  exact OpV.buildSlice (st := ⟨sz, f0, up, own, dfs, rnd⟩) hu hsz hz e1 (fun y hy => (h2 y hy).1) (fun y hy c hc => List.all_eq_true.1 (h2 y hy).2 c hc) hlen hl hp
variable {ops : Array Oper} {Q : St → Prop}
theorem G.build {t : TypeId} {fs : Array Field} {places : Array (Nat × Nat)} {parts : List (Nat × Operand)} {z : Value} {zs cs : List AV} {ys : List (Nat × AV)} {oj : Oper} {j g : Nat} {want C : Bool} (hu : P.underlying t = some (.struct fs))
    (hpl : ∀ w, (fs.mapM (m := Sem) fun f => do Pure.pure (f.offset, ← Go.sizeOf f.type)).run P w = .ok places w) (hz : ∀ w, (zeroValue t).run P w = .ok z w) (hr : ARun P d ops rest ⟨sz, setF s (gAV C (.agg cs)) fr, up, own, dfs, rnd⟩ Q)
    (hj : ops[j]? = some oj := by rfl) (hdj : oj.dst = some g := by rfl) (hgs : GIs (fr g) want C := by simp only [go_sem, ↓reduceIte, Nat.reduceEqDiff, Nat.reduceAdd] <;> first | exact GIs.v _ _ | exact GIs.g _ _ _)
    (hzs : z.cells.toList.map constAV = zs := by simp only [go_sem, ↓reduceIte, Nat.reduceEqDiff, Nat.reduceAdd] <;> rfl) (hone : zs.all AV.one = true := by simp only [go_sem, ↓reduceIte, Nat.reduceEqDiff, Nat.reduceAdd]) (hys : C = true → (parts.map fun p => (p.1, frEv fr p.2)) = ys := by intro hB; simp only [go_sem, hB, ↓reduceIte, Nat.reduceEqDiff, Nat.reduceAdd] <;> rfl)
    (hf : fillAV (fun i => places[i]?) zs ys = some cs := by simp [fillAV, go_sem] <;> rfl) (hs : Nat.blt s sz = true := by rfl) :
    ARun P d ops (⟨some s, .build t parts.toArray, ty, pos, aft, some (j, want)⟩ :: rest) ⟨sz, fr, up, own, dfs, rnd⟩ Q :=
  ARun.guardC rfl hj hdj hgs rfl hs (fun hB => by have e := hys hB; subst e; exact OpV.build hu hpl hz hzs.symm hone hf) hr
/-- A call of a function value that turns one object of whoever waits. -/
theorem R.callVUp {f : Operand} {g : FuncId} {xs : List Operand} {ats : Array TypeId} {first caps args : List AV} {r : AV} {i : Nat} {x x0 : AObj} (hcall : ∀ args w, (callFunc g args).run P w = .ok (.enter g args) w) (hi : up[i]? = some x0) (hx0' : x0 ≠ .defs) (hlow : ObjLow up.length x) (h : ACall P g args (up ++ own) (fun y H' => y = r ∧ H' = (up ++ own).set i x)) (hr : ARun P d ops rest ⟨sz, setF s r fr, up.set i x, own, dfs, rnd⟩ Q)
    (hf : frEv fr f = .fn (.func g) first caps := by simp only [go_sem, ↓reduceIte, Nat.reduceEqDiff, Nat.reduceAdd] <;> rfl) (ha : first ++ xs.map (frEv fr) ++ caps = args := by simp only [go_sem, ↓reduceIte, Nat.reduceEqDiff, Nat.reduceAdd] <;> rfl) (hs : Nat.blt s sz = true := by rfl) :
    ARun P d ops (⟨some s, .call ⟨.value f, xs.toArray, ats⟩, ty, pos, aft, none⟩ :: rest) ⟨sz, fr, up, own, dfs, rnd⟩ Q := by
  have hlt := (List.getElem?_eq_some_iff.1 hi).1
  refine ARun.op rfl (AOp.callG (st := ⟨sz, fr, up, own, dfs, rnd⟩) (Q := (· = ⟨sz, setF s r fr, up.set i x, own, dfs, rnd⟩)) (first := first) (caps := caps) hcall hf (by rw [← ha] <;> rfl) h (by simpa using hs) (fun y H' _ hy => ?_)) (fun s' e => by subst e; exact hr)
  obtain ⟨rfl, rfl⟩ := hy
  refine ⟨up.set i x, own, set_append_up hlt, by simp, fun h => by simp only [List.length_set] at h ⊢; exact objLow_set h hlow, fun hd o ho => ?_, rfl⟩
  have := hd o ho
  rw [← set_append_up hlt, List.getElem?_set]
  split
  · rename_i e
    subst e
    rw [get_up hi] at this
    injection this with this
    exact absurd this hx0'
  · exact this
end
end Go.SX
