/- Texts on the way to this: SchemaTurns answers true for whatever can be read: the card of the law. (part 8) -/
import Derived.Laws.BytesString
import Derived.Test.YtefgfjedonchdaaGreatDoorSchemaTurnsCardSaidPart7
set_option linter.all false
namespace Go.SX.Nb
open Go Go.SX Go.Proofs Go.RowKit Go.Sort
variable [ErrAt]
set_option maxRecDepth 4000
theorem c70 (l : List Str) (sep : Str) (hn : l.length ≤ 140737488355328) (hl : (Lib.join l sep).length ≤ 140737488355328) (Hp : List AObj) : AFun Tryz.prog 70 [strsA l, strA sep] Hp (strA (Lib.join l sep)) := by
  have e : strsA l = .slice false 1 ((l.map sv).map .v) := by rw [List.map_map]; rfl
  rw [e]
  refine AFun.libSl (xs := [sv sep]) (v := sv (Lib.join l sep)) (fun G w => .v _ _) (fun w u hg hs => ?_)
  rcases hs with ⟨rfl, he⟩ | ⟨ad, c, rfl, hc, hsp, hcell⟩
  · have : l = [] := by simpa using he
    subst this
    refine (Any.strings_Join_none Tryz.lays156 xJoin none 0 ⟨sep.toArray⟩ w).mono ?_
    rintro e w' ⟨rfl, rfl⟩
    exact ⟨rfl, Below.refl _ _⟩
  · rw [List.length_map] at hc
    match l, hn, hl, hc, hsp, hcell with
    | [], _, _, _, _, _ =>
      refine (Any.strings_Join_none Tryz.lays156 xJoin (some ad) c ⟨sep.toArray⟩ w).mono ?_
      rintro e w' ⟨rfl, rfl⟩
      exact ⟨rfl, Below.refl _ _⟩
    | [x], _, _, hc, hsp, hcell =>
      obtain ⟨bk, o, spot⟩ := ad
      have hs0 : spot = none := hsp (by simp)
      subst hs0
      refine (Any.strings_Join_one Tryz.lays156 xJoin bk o c ⟨x.toArray⟩ ⟨sep.toArray⟩ w (by have := hcell 0 (sv x) rfl; simpa using this)).mono ?_
      rintro e w' ⟨rfl, rfl⟩
      exact ⟨by rw [Lib.join_one], Below.refl _ _⟩
    | x :: y :: r, hn, hl, hc, hsp, hcell =>
      obtain ⟨bk, o, spot⟩ := ad
      have hs0 : spot = none := hsp (by simp)
      subst hs0
      have h0 := hcell 0 (sv x) rfl
      have hb : bk < w.heap.size := World.block_lt_of_cell? _ _ h0
      have hd : ((x :: y :: r).map fun z => (⟨z.toArray⟩ : ByteArray)).map (·.data.toList) = x :: y :: r := by
        rw [List.map_map]
        exact List.map_id'' (fun z => by simp) _
      have := Any.strings_Join_many Tryz.lays156 xJoin bk o c ((x :: y :: r).map fun z => (⟨z.toArray⟩ : ByteArray)) ⟨sep.toArray⟩ w (fun j z hz => by
        rw [List.getElem?_map, Option.map_eq_some_iff] at hz
        obtain ⟨z', hz', rfl⟩ := hz
        exact hcell j _ (by rw [List.getElem?_map, hz']; rfl)) hb (by simp) (by simpa using hn) (by simpa using hc) (by rw [hd]; simpa using hl)
      rw [hd, List.length_map] at this
      rw [List.length_map]
      refine this.mono ?_
      rintro e w' ⟨rfl, hb'⟩
      exact ⟨by simp, hb'⟩
end Go.SX.Nb
namespace Go.SX.Nb
open Go Go.SX Go.Proofs
variable [ErrAt]
set_option maxRecDepth 4000
/-- The lexer from a place between two words on. -/
def lexG (f q : Nat) (s : Str) : List (Tok × Int) := itemsF f (q + gapM s) (s.drop (gapM s))
theorem itemsT_G (s : Str) : itemsT s = lexG (s.length + 1) 0 s := by unfold itemsT lexG; rw [Nat.zero_add]
theorem itemsF_step {f q : Nat} {s : Str} (h : s ≠ []) : ∃ (n : Nat), itemsF (f + 1) q s = (⟨(wordM s).1, (wordM s).2.1, q⟩, (wordM s).2.2.2) :: (if (wordM s).2.2.2 = 0 then lexG f (q + n) (s.drop n) else []) ∧ ((wordM s).2.2.2 = 0 → (wordM s).2.2.1 = (n : Int) ∧ 1 ≤ n ∧ n ≤ s.length) := by
  refine ⟨(wordM s).2.2.1.toNat, ?_, fun he => ?_⟩
  · rw [itemsF_cons h]
    simp only [beq_iff_eq]
    rfl
  · obtain ⟨n, h1, h2, h3⟩ := word_ok (s := s) (by cases s with | nil => exact absurd rfl h | cons c r => simp) he
    rw [h1]
    exact ⟨rfl, by simpa using h2, by simpa using h3⟩
theorem itemsF_fuel : ∀ (f f' q : Nat) (s : Str), s.length < f → s.length < f' → itemsF f q s = itemsF f' q s
  | 0, _, _, _, h, _ => by omega
  | _ + 1, 0, _, _, _, h => by omega
  | f + 1, g + 1, q, s, h1, h2 => by
    by_cases hs : s = []
    · subst hs; rfl
    · rw [itemsF_cons hs, itemsF_cons hs]
      congr 1
      by_cases he : (wordM s).2.2.2 = 0
      · obtain ⟨n, hn, k1, k2⟩ := word_ok (s := s) (by cases s with | nil => exact absurd rfl hs | cons c r => simp) he
        rw [he]
        simp only [beq_self_eq_true, if_true]
        rw [hn, Int.toNat_natCast]
        exact itemsF_fuel f g _ _ (by simp only [List.length_drop]; omega) (by simp only [List.length_drop]; omega)
      · rw [if_neg (by simpa using he), if_neg (by simpa using he)]
def shiftT (d : Nat) (it : Tok × Int) : Tok × Int := (⟨it.1.kind, it.1.text, it.1.at_ + d⟩, it.2)
theorem itemsF_shift (d : Nat) : ∀ (f q : Nat) (s : Str), itemsF f (q + d) s = (itemsF f q s).map (shiftT d)
  | 0, _, _ => rfl
  | f + 1, q, s => by
    by_cases hs : s = []
    · subst hs; rfl
    · rw [itemsF_cons hs, itemsF_cons hs, List.map_cons]
      congr 1
      split
      · have e : ∀ a b : Nat, q + d + a + b = q + a + b + d := fun a b => by omega
        rw [e, itemsF_shift d f]
      · rfl
theorem itemsF_ge : ∀ (f q : Nat) (s : Str), ∀ it ∈ itemsF f q s, q ≤ it.1.at_
  | 0, _, _, it, h => by cases h
  | f + 1, q, s, it, h => by
    by_cases hs : s = []
    · subst hs; cases h
    · rw [itemsF_cons hs] at h
      rcases List.mem_cons.1 h with rfl | h
      · exact Nat.le_refl _
      · split at h
        · have := itemsF_ge f _ _ it h
          omega
        · cases h

/-! ### Gaps -/
theorem skip_suffix : ∀ (s : Str) (b : Bool), s.drop (s.length - (skipB s b).length) = skipB s b
  | [], b => by cases b <;> rfl
  | c :: r, b => by
    have ih := skip_suffix r
    have hl := skip_le r
    have key : ∀ b', (c :: r).drop ((c :: r).length - (skipB r b').length) = skipB r b' := fun b' => by
      have := hl b'
      rw [List.length_cons, show r.length + 1 - (skipB r b').length = (r.length - (skipB r b').length) + 1 by omega, List.drop_succ_cons]
      exact ih b'
    cases b with
    | false =>
      rw [skipB]
      split
      · exact key _
      · split
        · exact key _
        · simp
    | true =>
      rw [skipB]
      split
      · exact key _
      · exact key _
theorem gap_drop (s : Str) : s.drop (gapM s) = skipB s false := skip_suffix s false
/-- Where a gap ends at a place, it does so whatever stands behind. -/
theorem skip_stop {B : Str} (hB : B ≠ []) (Z : Str) : ∀ (U : Str) (b : Bool), skipB (U ++ B) b = B → skipB (U ++ Z) b = skipB Z false
  | [], false, _ => rfl
  | [], true, h => by
    cases B with
    | nil => exact absurd rfl hB
    | cons c r =>
      rw [List.nil_append, skipB] at h
      have h1 := skip_le r
      split at h
      · have := congrArg List.length h; have := h1 false; simp at *; omega
      · have := congrArg List.length h; have := h1 true; simp at *; omega
  | c :: U, false, h => by
    rw [List.cons_append, skipB] at h ⊢
    split at h
    · rename_i hc; rw [if_pos hc]; exact skip_stop hB Z U false h
    · rename_i hc
      rw [if_neg hc]
      split at h
      · rename_i hc'; rw [if_pos hc']; exact skip_stop hB Z U true h
      · have := congrArg List.length h; simp at this; omega
  | c :: U, true, h => by
    rw [List.cons_append, skipB] at h ⊢
    split at h
    · rename_i hc; rw [if_pos hc]; exact skip_stop hB Z U false h
    · rename_i hc; rw [if_neg hc]; exact skip_stop hB Z U true h
theorem skip_before {B : Str} (Z : Str) {V : Str} (hV : V ≠ []) : ∀ (U : Str) (b : Bool), skipB (U ++ B) b = V ++ B → skipB (U ++ Z) b = V ++ Z
  | [], b, h => by
    have h1 := skip_le B b
    have := congrArg List.length h
    cases V with
    | nil => exact absurd rfl hV
    | cons v V => simp at this; omega
  | c :: U, false, h => by
    rw [List.cons_append, skipB] at h ⊢
    split at h
    · rename_i hc; rw [if_pos hc]; exact skip_before Z hV U false h
    · rename_i hc
      rw [if_neg hc]
      split at h
      · rename_i hc'; rw [if_pos hc']; exact skip_before Z hV U true h
      · rename_i hc'
        rw [if_neg hc']
        have : c :: U = V := by
          rw [← List.cons_append] at h
          exact List.append_cancel_right h
        rw [← this]; rfl
  | c :: U, true, h => by
    rw [List.cons_append, skipB] at h ⊢
    split at h
    · rename_i hc; rw [if_pos hc]; exact skip_before Z hV U false h
    · rename_i hc; rw [if_neg hc]; exact skip_before Z hV U true h
theorem gap_before {U B : Str} (Z : Str) {g : Nat} (hg : gapM (U ++ B) = g) (hl : g < U.length) : gapM (U ++ Z) = g := by
  have h1 := gap_drop (U ++ B)
  rw [hg, List.drop_append_of_le_length (by omega)] at h1
  have h2 := skip_before Z (V := U.drop g) (by rw [Ne, List.drop_eq_nil_iff]; omega) U false h1.symm
  unfold gapM
  rw [h2]
  simp only [List.length_append, List.length_drop]
  omega
theorem gap_stop {U B : Str} (Z : Str) (hB : B ≠ []) (hg : gapM (U ++ B) = U.length) : gapM (U ++ Z) = U.length + gapM Z := by
  have h1 := gap_drop (U ++ B)
  rw [hg, List.drop_left] at h1
  have h2 := skip_stop hB Z U false h1.symm
  have h3 := skip_le Z false
  unfold gapM
  rw [h2, List.length_append]
  omega

/-! ### Words -/
theorem run_pre {p : UInt8 → Bool} {V B : Str} (z : UInt8) (Z : Str) (hz : p z = false) (h : ((V ++ B).takeWhile p).length ≤ V.length) : (V ++ z :: Z).takeWhile p = (V ++ B).takeWhile p := by
  rw [List.takeWhile_append, List.takeWhile_append, List.takeWhile_cons, hz]
  rw [List.takeWhile_append] at h
  split
  · rename_i hv
    rw [if_pos hv] at h
    rw [List.length_append] at h
    have : B.takeWhile p = [] := List.eq_nil_of_length_eq_zero (by omega)
    rw [this]
    rfl
  · rfl
theorem wordOf_eq (s of : Str) : wordOf s of = s.takeWhile (of.contains ·) := take_run s of
theorem wordOf_pre {V B of : Str} (Z : Str) (hz : of.contains (32 : UInt8) = false) (h : (wordOf (V ++ B) of).length ≤ V.length) : wordOf (V ++ 32 :: Z) of = wordOf (V ++ B) of := by
  rw [wordOf_eq] at h ⊢
  rw [wordOf_eq]
  exact run_pre 32 Z hz h
theorem close_pre {B : Str} (Z : Str) : ∀ (V : Str) (m : Nat), closeQ (V ++ B) = some m → m ≤ V.length → closeQ (V ++ 32 :: Z) = some m
  | [], m, h, hm => by
    have := close_bd _ m h
    simp at hm; omega
  | c :: V, m, h, hm => by
    by_cases hc : (c == 39) = true
    · have e : c = 39 := by simpa using hc
      subst e
      rw [List.cons_append, close_mark] at h ⊢
      cases V with
      | nil =>
        simp only [List.nil_append] at h ⊢
        have e1 : ((32 : UInt8) == 39) = false := by decide
        rw [e1]
        cases B with
        | nil => simpa using h
        | cons d t =>
          simp only at h
          split at h
          · rw [Option.map_eq_some_iff] at h
            obtain ⟨m', hm', rfl⟩ := h
            simp at hm
          · simpa using h
      | cons d V =>
        simp only [List.cons_append] at h ⊢
        split at h
        · rename_i hd
          rw [if_pos hd]
          rw [Option.map_eq_some_iff] at h ⊢
          obtain ⟨m', hm', rfl⟩ := h
          exact ⟨m', close_pre Z V m' hm' (by simp at hm; omega), rfl⟩
        · rename_i hd
          rw [if_neg hd]
          exact h
    · rw [List.cons_append, close_other hc] at h ⊢
      rw [Option.map_eq_some_iff] at h ⊢
      obtain ⟨m', hm', rfl⟩ := h
      exact ⟨m', close_pre Z V m' hm' (by simp at hm; omega), rfl⟩
  termination_by V => V.length
/-- A word is what it is, whatever stands behind its end, where that begins with a blank. -/
theorem word_pre {V B : Str} (Z : Str) {n : Nat} (he : (wordM (V ++ B)).2.2.2 = 0) (hn : (wordM (V ++ B)).2.2.1 = (n : Int)) (h1 : 1 ≤ n) (hV : n ≤ V.length) : wordM (V ++ 32 :: Z) = wordM (V ++ B) := by
  cases V with
  | nil => simp at hV; omega
  | cons c V =>
    have e1 : ((c :: V) ++ 32 :: Z).take 1 = ((c :: V) ++ B).take 1 := rfl
    have e2 : ((c :: V) ++ 32 :: Z).getD 0 0 = ((c :: V) ++ B).getD 0 0 := rfl
    unfold wordM at he hn ⊢
    rw [e1, e2]
    by_cases c1 : decide (0 < runM (((c :: V) ++ B).take 1) letters) = true
    · rw [if_pos c1] at he hn ⊢
      rw [if_pos c1]
      have hw : wordOf ((c :: V) ++ 32 :: Z) tails = wordOf ((c :: V) ++ B) tails := by
        refine wordOf_pre Z (by decide) ?_
        unfold namedM at he hn
        split at hn
        · have : (((wordOf ((c :: V) ++ B) tails).length : Nat) : Int) = n := hn
          omega
        · rename_i h2
          rw [if_neg h2] at he
          split at hn
          · rename_i h3; rw [if_pos h3] at he; exact absurd he (show ¬ (3 : Int) = 0 by decide)
          · have : (((wordOf ((c :: V) ++ B) tails).length : Nat) : Int) = n := hn
            omega
      unfold namedM
      rw [hw]
    · rw [if_neg c1] at he hn ⊢
      rw [if_neg c1]
      by_cases c2 : decide (0 < runM (((c :: V) ++ B).take 1) digs) = true
      · rw [if_pos c2] at he hn ⊢
        rw [if_pos c2]
        have hw : wordOf ((c :: V) ++ 32 :: Z) digs = wordOf ((c :: V) ++ B) digs := by
          refine wordOf_pre Z (by decide) ?_
          have : (((wordOf ((c :: V) ++ B) digs).length : Nat) : Int) = n := hn
          omega
        unfold numberM
        rw [hw]
      · rw [if_neg c2] at he hn ⊢
        rw [if_neg c2]
        by_cases c3 : (((((c :: V) ++ B).getD 0 0).toNat : Int) == 39) = true
        · rw [if_pos c3] at he hn ⊢
          rw [if_pos c3]
          unfold quotedM at he hn ⊢
          have d1 : ((c :: V) ++ B).drop 1 = V ++ B := rfl
          have d2 : ((c :: V) ++ 32 :: Z).drop 1 = V ++ 32 :: Z := rfl
          rw [d1] at he hn ⊢
          rw [d2]
          cases hq : closeQ (V ++ B) with
          | none => rw [hq] at he; exact absurd he (show ¬ (7 : Int) = 0 by decide)
          | some m =>
            rw [hq] at he hn
            simp only at he hn
            split at he
            · exact absurd he (show ¬ (3 : Int) = 0 by decide)
            · rename_i hr
              rw [if_neg hr] at hn
              have hm' : (((m + 1 : Nat)) : Int) = n := hn
              have hm : m + 1 = n := by omega
              have hcl := close_pre Z V m hq (by simp at hV; omega)
              rw [hcl]
              have t1 : ((c :: V) ++ 32 :: Z).take (m + 1) = ((c :: V) ++ B).take (m + 1) := by
                rw [List.take_append_of_le_length (by omega), List.take_append_of_le_length (by omega)]
              simp only [t1]
        · rw [if_neg c3] at he hn ⊢
          rw [if_neg c3]
          unfold signM at he hn ⊢
          cases V with
          | nil =>
            have hn1 : n = 1 := by simp at hV; omega
            subst hn1
            have x1 : ¬ ((decide ((1 : Int) < (([c] ++ B).length : Nat)) && Lib.contains doubles (([c] ++ B).take 2)) && (((([c] ++ B).getD 1 0).toNat : Int) == 61)) = true := fun h => by
              rw [if_pos h] at hn
              exact absurd hn (show ¬ (2 : Int) = ((1 : Nat) : Int) by decide)
            have x2 : ¬ ((decide ((1 : Int) < (([c] ++ 32 :: Z).length : Nat)) && Lib.contains doubles (([c] ++ 32 :: Z).take 2)) && (((([c] ++ 32 :: Z).getD 1 0).toNat : Int) == 61)) = true := fun h => by
              simp only [Bool.and_eq_true] at h
              have h2 : ((((32 : UInt8)).toNat : Int) == 61) = true := h.2
              exact absurd h2 (by decide)
            rw [if_neg x1, if_neg x2]
            rfl
          | cons d V =>
            have y1 : decide ((1 : Int) < ((((c :: d :: V) ++ 32 :: Z)).length : Nat)) = decide ((1 : Int) < ((((c :: d :: V) ++ B)).length : Nat)) := by
              rw [decide_eq_decide]
              simp only [List.length_append, List.length_cons]
              omega
            have y2 : ((c :: d :: V) ++ 32 :: Z).take 2 = ((c :: d :: V) ++ B).take 2 := rfl
            have y3 : ((c :: d :: V) ++ 32 :: Z).getD 1 0 = ((c :: d :: V) ++ B).getD 1 0 := rfl
            rw [y1, y2, y3]
            rfl
end Go.SX.Nb
namespace Go.SX.Nb
open Go Go.SX Go.Proofs
variable [ErrAt]
set_option maxRecDepth 4000
def insX (note : Str) : Str := 32 :: 9 :: 35 :: (note ++ [10, 32])
theorem insX_len (note : Str) : (insX note).length = note.length + 5 := by simp [insX]
theorem skip_note_to : ∀ (note R : Str), (∀ b ∈ note, b ≠ 10) → skipB (note ++ 10 :: R) true = skipB R false
  | [], R, _ => by rw [List.nil_append, skipB]; rfl
  | c :: r, R, h => by
    have hc : ¬ (c == 10) = true := by simpa using h c (by simp)
    rw [List.cons_append, skipB, if_neg hc]
    exact skip_note_to r R (fun b hb => h b (by simp [hb]))
theorem gap_ins {note B : Str} (hn : ∀ b ∈ note, b ≠ 10) (hB : skipB B false = B) : gapM (insX note ++ B) = (insX note).length := by
  have e : insX note ++ B = 32 :: 9 :: 35 :: (note ++ 10 :: (32 :: B)) := by simp [insX]
  have h : skipB (insX note ++ B) false = B := by
    rw [e, skipB, if_pos (by decide), skipB, if_pos (by decide), skipB, if_neg (by decide), if_pos (by decide), skip_note_to note _ hn, skipB, if_pos (by decide), hB]
  unfold gapM
  rw [h, List.length_append]
  omega
theorem lex_ins {note : Str} (hn : ∀ b ∈ note, b ≠ 10) : ∀ (k f f' q : Nat) (U B : Str) (it : Tok × Int), (U ++ B).length < f → (U ++ (insX note ++ B)).length < f' → (∀ i ∈ lexG f q (U ++ B), i.2 = 0) → (lexG f q (U ++ B))[k]? = some it → it.1.at_ = q + U.length →
    lexG f' q (U ++ (insX note ++ B)) = (lexG f q (U ++ B)).take k ++ ((lexG f q (U ++ B)).drop k).map (shiftT (insX note).length)
  | 0, f, f', q, U, B, it, hf, hf', _, hit, hat => by
    unfold lexG at hit ⊢
    obtain ⟨f0, rfl⟩ : ∃ f0, f = f0 + 1 := ⟨f - 1, by omega⟩
    have hne : (U ++ B).drop (gapM (U ++ B)) ≠ [] := fun e => by rw [e, itemsF_nil] at hit; cases hit
    have hg : gapM (U ++ B) = U.length := by
      rw [itemsF_cons hne] at hit
      simp only [List.getElem?_cons_zero, Option.some.injEq] at hit
      rw [← hit] at hat
      simp only at hat
      omega
    rw [hg, List.drop_left] at hne ⊢
    have hs := gap_drop (U ++ B)
    rw [hg, List.drop_left] at hs
    have hB : skipB B false = B := (skip_stop hne B U false hs.symm).symm.trans hs.symm
    rw [gap_stop _ hne hg, gap_ins hn hB]
    have e1 : (U ++ (insX note ++ B)).drop (U.length + (insX note).length) = B := by
      rw [← List.append_assoc, ← List.length_append, List.drop_left]
    rw [e1, List.take_zero, List.nil_append, List.drop_zero, ← Nat.add_assoc]
    rw [itemsF_shift]
    congr 1
    simp only [List.length_append] at hf hf'
    exact itemsF_fuel _ _ _ _ (by omega) (by omega)
  | k + 1, f, f', q, U, B, it, hf, hf', hok, hit, hat => by
    obtain ⟨f0, rfl⟩ : ∃ f0, f = f0 + 1 := ⟨f - 1, by omega⟩
    obtain ⟨f0', rfl⟩ : ∃ f0, f' = f0 + 1 := ⟨f' - 1, by omega⟩
    obtain ⟨g, hg⟩ : ∃ g, gapM (U ++ B) = g := ⟨_, rfl⟩
    have hne : (U ++ B).drop g ≠ [] := fun e => by unfold lexG at hit; rw [hg, e, itemsF_nil] at hit; cases hit
    obtain ⟨n, hst, hw⟩ := itemsF_step (f := f0) (q := q + g) hne
    have hL : lexG (f0 + 1) q (U ++ B) = itemsF (f0 + 1) (q + g) ((U ++ B).drop g) := by unfold lexG; rw [hg]
    rw [hst] at hL
    rw [hL] at hok hit ⊢
    have h0 : (wordM ((U ++ B).drop g)).2.2.2 = 0 := hok _ List.mem_cons_self
    obtain ⟨hn1, hn2, hn3⟩ := hw h0
    rw [if_pos h0] at hok hit ⊢
    rw [List.getElem?_cons_succ] at hit
    have hge : q + g + n ≤ it.1.at_ := by
      unfold lexG at hit
      have := itemsF_ge _ _ _ it (List.mem_of_getElem? hit)
      omega
    have hUl : g + n ≤ U.length := by omega
    have d1 : (U ++ B).drop g = U.drop g ++ B := List.drop_append_of_le_length (by omega)
    have d2 : ((U ++ B).drop g).drop n = U.drop (g + n) ++ B := by rw [List.drop_drop, List.drop_append_of_le_length hUl]
    have d3 : (U ++ (insX note ++ B)).drop g = U.drop g ++ (insX note ++ B) := List.drop_append_of_le_length (by omega)
    have d4 : ((U ++ (insX note ++ B)).drop g).drop n = U.drop (g + n) ++ (insX note ++ B) := by rw [List.drop_drop, List.drop_append_of_le_length hUl]
    have hg' : gapM (U ++ (insX note ++ B)) = g := gap_before _ hg (by omega)
    have hwe : wordM (U.drop g ++ (insX note ++ B)) = wordM (U.drop g ++ B) := by
      rw [d1] at h0 hn1
      have eX : insX note ++ B = 32 :: (9 :: 35 :: (note ++ [10, 32]) ++ B) := rfl
      rw [eX]
      exact word_pre _ h0 hn1 hn2 (by rw [List.length_drop]; omega)
    have hne' : (U ++ (insX note ++ B)).drop g ≠ [] := by
      rw [d3]; simp [insX]
    have hL' : lexG (f0' + 1) q (U ++ (insX note ++ B)) = itemsF (f0' + 1) (q + g) ((U ++ (insX note ++ B)).drop g) := by unfold lexG; rw [hg']
    obtain ⟨n', hst', hw'⟩ := itemsF_step (f := f0') (q := q + g) hne'
    have hww : wordM ((U ++ (insX note ++ B)).drop g) = wordM ((U ++ B).drop g) := by rw [d3, d1, hwe]
    rw [hww] at hst' hw'
    have hnn : n' = n := by
      have := (hw' h0).1
      rw [hn1] at this
      omega
    subst hnn
    rw [hL', hst', if_pos h0, d4, d2, List.take_succ_cons, List.drop_succ_cons, List.cons_append]
    congr 1
    rw [d2] at hok hit
    have hlen : (U.drop (g + n')).length = U.length - (g + n') := List.length_drop
    refine lex_ins hn k f0 f0' (q + g + n') (U.drop (g + n')) B it ?_ ?_ (fun i hi => hok i (List.mem_cons_of_mem _ hi)) hit (by rw [hlen]; omega)
    · simp only [List.length_append] at hf ⊢; omega
    · simp only [List.length_append] at hf' ⊢; omega
theorem lexM_ok {s : Str} (h : (lexM s).2.1 = 0) : s.length ≤ 4000 ∧ (∀ it ∈ itemsT s, it.2 = 0) ∧ lexM s = ((itemsT s).map (·.1) ++ [⟨0, [], s.length⟩], 0, 0) := by
  unfold lexM at h ⊢
  split at h
  · exact absurd h (show ¬ (3 : Int) = 0 by decide)
  · rename_i hl
    rw [if_neg hl]
    cases hf : (itemsT s).find? (fun it => it.2 != 0) with
    | some it =>
      rw [hf] at h
      have := List.find?_some hf
      simp at this
      exact absurd h this
    | none =>
      rw [List.find?_eq_none] at hf
      refine ⟨by omega, fun it hit => by simpa using hf it hit, rfl⟩
theorem lexM_of {s : Str} (hl : s.length ≤ 4000) (h : ∀ it ∈ itemsT s, it.2 = 0) : lexM s = ((itemsT s).map (·.1) ++ [⟨0, [], s.length⟩], 0, 0) := by
  unfold lexM
  rw [if_neg (by omega), lex_none h]
def shiftTok (d : Nat) (t : Tok) : Tok := ⟨t.kind, t.text, t.at_ + d⟩
theorem itemsF_lt : ∀ (f q : Nat) (s : Str), ∀ it ∈ itemsF f q s, it.1.at_ ≤ q + s.length
  | 0, _, _, it, h => by cases h
  | f + 1, q, s, it, h => by
    by_cases hs : s = []
    · subst hs; cases h
    · obtain ⟨n, hst, hw⟩ := itemsF_step (f := f) (q := q) hs
      rw [hst] at h
      rcases List.mem_cons.1 h with rfl | h
      · exact Nat.le_add_right _ _
      · split at h
        · rename_i h0
          obtain ⟨_, _, h3⟩ := hw h0
          have := itemsF_lt f _ _ it h
          have hg := gap_le (s.drop n)
          simp only [List.length_drop] at this hg
          omega
        · cases h
theorem items_at_le {s : Str} {k : Nat} {it : Tok × Int} (h : (itemsT s)[k]? = some it) : it.1.at_ ≤ s.length := by
  unfold itemsT at h
  have := itemsF_lt _ _ _ it (List.mem_of_getElem? h)
  have hg := gap_le s
  rw [List.length_drop] at this
  omega
theorem lex_gaps {src note : Str} (hs : src.length ≤ 2000) (hn : note.length ≤ 1000) (hf : (lexM src).2.1 = 0) (hnl : ∀ b ∈ note, b ≠ 10) {k : Nat} (hk : k + 1 < (lexM src).1.length) :
    (tokAt (lexM src).1 k).at_ ≤ src.length ∧ lexM (src.take (tokAt (lexM src).1 k).at_ ++ (insX note ++ src.drop (tokAt (lexM src).1 k).at_)) = ((lexM src).1.take k ++ ((lexM src).1.drop k).map (shiftTok (note.length + 5)), 0, 0) := by
  obtain ⟨_, hok, hl⟩ := lexM_ok hf
  rw [hl] at hk ⊢
  simp only [List.length_append, List.length_map, List.length_cons, List.length_nil] at hk
  have hkl : k < (itemsT src).length := by omega
  obtain ⟨it, hit⟩ : ∃ it, (itemsT src)[k]? = some it := ⟨_, List.getElem?_eq_getElem hkl⟩
  have htk : tokAt ((itemsT src).map (·.1) ++ [⟨0, [], src.length⟩]) k = it.1 := by
    unfold tokAt
    rw [List.getD_eq_getElem?_getD, List.getElem?_append_left (by simpa using hkl), List.getElem?_map, hit]
    rfl
  simp only [htk]
  have hle : it.1.at_ ≤ src.length := items_at_le hit
  refine ⟨hle, ?_⟩
  have hX := insX_len note
  have hlen : (src.take it.1.at_ ++ (insX note ++ src.drop it.1.at_)).length = src.length + (insX note).length := by
    simp only [List.length_append, List.length_take, List.length_drop]; omega
  have e0 : src.take it.1.at_ ++ src.drop it.1.at_ = src := List.take_append_drop _ _
  have key := lex_ins hnl k (src.length + 1) ((src.take it.1.at_ ++ (insX note ++ src.drop it.1.at_)).length + 1) 0 (src.take it.1.at_) (src.drop it.1.at_) it (by rw [e0]; omega) (by omega) (by rw [e0, ← itemsT_G]; exact hok) (by rw [e0, ← itemsT_G]; exact hit) (by rw [List.length_take]; omega)
  rw [e0, ← itemsT_G, ← itemsT_G] at key
  rw [lexM_of (by rw [hlen, hX]; omega) (by
    rw [key]
    intro i hi
    rcases List.mem_append.1 hi with h | h
    · exact hok i (List.mem_of_mem_take h)
    · obtain ⟨j, hj, rfl⟩ := List.mem_map.1 h
      exact hok j (List.mem_of_mem_drop hj)), key, hlen, hX]
  congr 1
  rw [List.map_append, List.append_assoc]
  have t1 : ((itemsT src).map (·.1) ++ [(⟨0, [], src.length⟩ : Tok)]).take k = ((itemsT src).take k).map (·.1) := by
    rw [List.take_append_of_le_length (by simp; omega), List.map_take]
  have t2 : ((itemsT src).map (·.1) ++ [(⟨0, [], src.length⟩ : Tok)]).drop k = ((itemsT src).drop k).map (·.1) ++ [⟨0, [], src.length⟩] := by
    rw [List.drop_append_of_le_length (by simp; omega), List.map_drop]
  rw [t1, t2, List.map_append, List.map_map, List.map_map]
  rfl
end Go.SX.Nb
namespace Go.SX.Nb
open Go Go.SX Go.Proofs
variable [ErrAt]
set_option maxRecDepth 4000
theorem c75 (k : Int) (Hp : List AObj) : AFun Tryz.prog 75 [intA k] Hp (strA (kindNameM k)) := by
  refine ACall.body [.tmp 2] [0] Tryz.func75 Tryz.ntmps75 (fun d => ?_)
  refine AW.seqR ?_
  refine R.assign ?_
  refine R.fin [0] ?_
  refine W.seq ?_
  refine AW.seqR ?_
  refine R.move ?_
  refine R.lss ?_
  refine R.move ?_
  refine G.move ?_
  refine G.gtr ?_
  refine R.pickOr ?_
  refine R.fin [0, 9] ?_
  refine W.cond (fun ht9 => ?_) (fun ht9 => ?_)
  · skip
    refine AW.seqR ?_
    refine R.assign ?_
    refine R.fin [2] ?_
    refine AW.ret ?_
    refine K.thR ?_
    exact K.fin (V.one V.tmp) ⟨by rw [show kindNameM k = [] from if_pos (by simpa using ht9)], rfl⟩
  · skip
    refine AW.skip ?_
    refine K.thN ?_
    refine AW.seqR ?_
    refine R.buildSlice Tryz.underlying50 Tryz.sizeOf9 Tryz.zeroValue9 ?_
    refine R.assignT ?_
    refine R.fin [0, 3] ?_
    refine AW.seqR ?_
    have hk : 1 ≤ k ∧ k ≤ 3 := by simp at ht9; omega
    have hget : (kindNames.map strA)[k.toNat]? = some (strA (kindNames.getD k.toNat [])) := by
      have hlt : k.toNat < kindNames.length := by show k.toNat < 4; omega
      rw [List.getElem?_map, List.getElem?_eq_getElem hlt, List.getD_eq_getElem?_getD, List.getElem?_eq_getElem hlt]
      rfl
    refine R.move ?_
    refine R.move ?_
    refine R.indexAddr (k.toNat) (strA (kindNames.getD k.toNat [])) Tryz.underlying50 Tryz.sizeOf9 hget ?_
    refine R.loadRo Tryz.isAgg9 ?_
    refine R.assign ?_
    refine R.fin [2] ?_
    refine AW.ret ?_
    exact K.fin (V.one V.tmp) ⟨by rw [show kindNameM k = kindNames.getD k.toNat [] from if_neg (by omega)], rfl⟩

def colT (c : Col) : Str := c.name ++ [32] ++ kindNameM c.kind
def colsT (l : List Col) : Str := Lib.join (l.map colT) [44, 32]
theorem kindName_len (k : Int) : (kindNameM k).length ≤ 4 := by
  unfold kindNameM
  split
  · simp
  · rename_i h
    have hk : k = 1 ∨ k = 2 ∨ k = 3 := by omega
    rcases hk with rfl | rfl | rfl <;> decide
theorem join_snoc (sep : Str) : ∀ (l : List Str) (x : Str), l ≠ [] → Lib.join (l ++ [x]) sep = Lib.join l sep ++ sep ++ x
  | [], _, h => absurd rfl h
  | [a], x, _ => by simp [Lib.join, List.intercalate, List.intersperse]
  | a :: b :: r, x, _ => by
    have ih := join_snoc sep (b :: r) x (by simp)
    unfold Lib.join List.intercalate at ih ⊢
    rw [List.cons_append, List.cons_append, List.intersperse_cons₂, List.flatten_cons, List.flatten_cons, List.intersperse_cons₂, List.flatten_cons, List.flatten_cons]
    rw [List.cons_append] at ih
    rw [ih]
    simp
theorem colsT_succ {c : List Col} {x : Nat} (h : x < c.length) : colsT (c.take (x + 1)) = (if 0 < x then colsT (c.take x) ++ [44, 32] else []) ++ colT c[x] := by
  unfold colsT
  rw [List.take_succ, List.getElem?_eq_getElem h, List.map_append]
  cases x with
  | zero => simp [Lib.join_one]
  | succ x =>
    rw [if_pos (by omega)]
    exact join_snoc _ _ _ (by simp; intro e; rw [e] at h; simp at h)
theorem colsT_len {c : List Col} (hc : OkCols c) (x : Nat) : (colsT (c.take x)).length ≤ x * 1048600 := by
  induction x with
  | zero => simp [colsT, Lib.join_nil]
  | succ x ih =>
    rcases Nat.lt_or_ge x c.length with h | h
    · rw [colsT_succ h]
      have h1 := hc.2 c[x] (List.getElem_mem h)
      have h2 := kindName_len c[x].kind
      have h3 : (colT c[x]).length ≤ 1048581 := by unfold colT; simp only [List.length_append, List.length_cons, List.length_nil]; omega
      split
      · simp only [List.length_append, List.length_cons, List.length_nil]; omega
      · simp only [List.length_append, List.length_nil]; omega
    · rw [List.take_of_length_le (by omega)]
      rw [List.take_of_length_le h] at ih
      exact Nat.le_trans ih (Nat.mul_le_mul_right _ (Nat.le_succ x))
theorem c26 (c : List Col) (hc : OkCols c) (Hp : List AObj) : AFun Tryz.prog 26 [colsA c] Hp (strA (colsT c)) := by
  refine ACall.body [.tmp 2] [0] Tryz.func26 Tryz.ntmps26 (fun d => ?_)
  refine AW.seqR ?_
  refine R.assign ?_
  refine R.fin [0] ?_
  refine AW.seqR ?_
  refine R.assign ?_
  refine R.fin [0, 3] ?_
  refine W.seq ?_
  refine AW.seqR ?_
  refine R.assign ?_
  refine R.fin [0, 3, 4] ?_
  refine AW.loopC (α := Nat) (fun x => ⟨31, setF 0 (colsA c) (setF 3 (strA (colsT (c.take x))) (setF 4 (intA (x : Nat)) (fun _ => .any))), Hp, [], [], none⟩) (fun x => x ≤ c.length) (fun x => c.length - x) (0) (Nat.zero_le _) (StLe.of_eq (by simp [colsT, Lib.join_nil])) rfl (fun x hx => ?_)
  refine W.seq ?_
  refine AW.seqR ?_
  refine R.move ?_
  refine R.move ?_
  refine R.len Tryz.underlying37 ?_
  refine R.lss ?_
  refine R.fin [0, 3, 4, 8] ?_
  refine W.cond (fun ht8 => ?_) (fun ht8 => ?_)
  · skip
    have hxl : x < c.length := by simp at ht8; omega
    have hb := colsT_len hc x
    have hb1 := hc.1
    have hb2 := hc.2 c[x] (List.getElem_mem hxl)
    have hb3 := kindName_len c[x].kind
    have hsu := colsT_succ hxl
    refine AW.skip ?_
    refine K.thN ?_
    refine W.seq ?_
    refine AW.block ?_
    refine W.seq ?_
    refine AW.seqR ?_
    refine R.move ?_
    refine R.gtr ?_
    refine R.fin [0, 3, 4, 12] ?_
    refine W.cond (fun ht12 => ?_) (fun ht12 => ?_)
    · skip
      have hx0 : 0 < x := by simp at ht12; omega
      rw [if_pos hx0] at hsu
      refine AW.region ?_
      refine R.move ?_
      refine R.sadd ?_
      refine R.assign ?_
      refine R.fin [0, 3, 4] ?_
      refine K.thN ?_
      refine W.draw0 [0, 0, 0, 6, 14, 30, 63, 127, 0, 0, 768, 1792, 3840, 7936, 16383, 32767] 14 Tryzmixed (by kernel_rfl) ?_
      refine D.move ?_
      refine D.move ?_
      refine D.move ?_
      refine D.indexAddr (x) (colA c[x]) Tryz.underlying37 Tryz.sizeOf65 (getMap hxl) ?_
      refine D.fieldAddrRo (off := 0) Tryz.underlying65 Tryz.sizeOf9 ?_
      refine D.loadRo Tryz.isAgg9 ?_
      refine D.sadd ?_
      refine D.sadd ?_
      refine D.move ?_
      refine D.move ?_
      refine D.indexAddr (x) (colA c[x]) Tryz.underlying37 Tryz.sizeOf65 (getMap hxl) ?_
      refine D.fieldAddrRo (off := 1) Tryz.underlying65 Tryz.sizeOf3 ?_
      refine D.loadRo Tryz.isAgg3 ?_
      refine D.call Tryz.call75 (c75 c[x].kind _) ?_
      refine D.tail ?_
      refine R.sadd ?_
      refine R.assign ?_
      refine R.fin [0, 3, 4] ?_
      refine K.blN ?_
      refine K.thN ?_
      refine AW.region ?_
      refine R.move ?_
      refine R.add64 ?_
      refine R.assign ?_
      refine R.fin [0, 3, 4] ?_
      exact K.lpN (x + 1) hxl (by omega) (StCut.of_eq (by rw [hsu, colT]; simp))
    · skip
      have hx0 : x = 0 := by simp at ht12; omega
      rw [if_neg (by omega)] at hsu
      have hz : colsT (c.take x) = [] := by rw [hx0]; rfl
      rw [hz]
      refine AW.skip ?_
      refine K.thN ?_
      refine W.draw0 [0, 0, 0, 6, 14, 30, 63, 127, 0, 0, 768, 1792, 3840, 7936, 16383, 32767] 14 Tryzmixed (by kernel_rfl) ?_
      refine D.move ?_
      refine D.move ?_
      refine D.move ?_
      refine D.indexAddr (x) (colA c[x]) Tryz.underlying37 Tryz.sizeOf65 (getMap hxl) ?_
      refine D.fieldAddrRo (off := 0) Tryz.underlying65 Tryz.sizeOf9 ?_
      refine D.loadRo Tryz.isAgg9 ?_
      refine D.sadd ?_
      refine D.sadd ?_
      refine D.move ?_
      refine D.move ?_
      refine D.indexAddr (x) (colA c[x]) Tryz.underlying37 Tryz.sizeOf65 (getMap hxl) ?_
      refine D.fieldAddrRo (off := 1) Tryz.underlying65 Tryz.sizeOf3 ?_
      refine D.loadRo Tryz.isAgg3 ?_
      refine D.call Tryz.call75 (c75 c[x].kind _) ?_
      refine D.tail ?_
      refine R.sadd ?_
      refine R.assign ?_
      refine R.fin [0, 3, 4] ?_
      refine K.blN ?_
      refine K.thN ?_
      refine AW.region ?_
      refine R.move ?_
      refine R.add64 ?_
      refine R.assign ?_
      refine R.fin [0, 3, 4] ?_
      exact K.lpN (x + 1) hxl (by omega) (StCut.of_eq (by rw [hsu, colT]; simp))
  · skip
    have hxe : x = c.length := by simp at ht8; omega
    refine AW.exit ?_
    refine K.thE ?_
    refine K.lpE ?_
    refine K.thN ?_
    refine AW.seqR ?_
    refine R.move ?_
    refine R.assign ?_
    refine R.fin [2] ?_
    refine AW.ret ?_
    exact K.fin (V.one V.tmp) ⟨by rw [hxe, List.take_length], rfl⟩

theorem eg65 : Tryz.prog.eqGuardType Tryz.prog.depth 65 = false := by kernel_rfl
theorem equal65 (k k' : Int) (s s' : List UInt8) (w : World) : (Op.equal 65 (.agg #[.string ⟨s.toArray⟩, .int .i64 k]) (.agg #[.string ⟨s'.toArray⟩, .int .i64 k'])).run Tryz.prog w = .ok (s == s' && k == k') w := by
  have h1 : Tryz.prog.stoodInHeld 65 = false := by kernel_rfl
  show (Op.equalIn (9999 + 1) _ _ _).run _ _ = _
  rw [Op.equalIn]
  generalize hd : (9999 : Nat) = d
  obtain ⟨d, rfl⟩ : ∃ e, d = e + 1 := ⟨9998, hd.symm⟩
  clear hd
  simp [run_underlying Tryz.underlying65, h1, part, eqInt _ _ _ _ _ _ Tryz.underlying3, eqStr _ _ _ _ _ Tryz.underlying9, Tryz.isAgg3, Tryz.isAgg9]
  by_cases e1 : k = k' <;> by_cases e3 : s = s' <;> simp [e1, e3]
theorem col_ext {a b : Col} : (a.name == b.name && a.kind == b.kind) = decide (a = b) := by
  rw [Bool.eq_iff_iff]
  cases a; cases b
  simp
theorem c27 (a b : List Col) (ha : a.length ≤ 1048576) (Hp : List AObj) : AFun Tryz.prog 27 [colsA a, colsA b] Hp (boolA (decide (a = b))) := by
  refine ACall.body [.tmp 4] [0, 1] Tryz.func27 Tryz.ntmps27 (fun d => ?_)
  refine AW.seqR ?_
  refine R.assign ?_
  refine R.fin [0, 1] ?_
  refine W.seq ?_
  refine AW.seqR ?_
  refine R.move ?_
  refine R.len Tryz.underlying37 ?_
  refine R.move ?_
  refine R.len Tryz.underlying37 ?_
  refine R.neq ?_
  refine R.fin [0, 1, 10] ?_
  refine W.cond (fun ht10 => ?_) (fun ht10 => ?_)
  · skip
    refine AW.seqR ?_
    refine R.assign ?_
    refine R.fin [4] ?_
    refine AW.ret ?_
    refine K.thR ?_
    exact K.fin (V.one V.tmp) ⟨by rw [lenNe (by simpa using ht10)], rfl⟩
  · skip
    refine AW.skip ?_
    refine K.thN ?_
    refine W.seq ?_
    refine AW.seqR ?_
    refine R.assign ?_
    refine R.fin [0, 1, 5] ?_
    refine AW.loopC (α := Nat) (fun x => ⟨26, setF 0 (colsA a) (setF 1 (colsA b) (setF 5 (intA (x : Nat)) (fun _ => .any))), Hp, [], [], none⟩) (fun x => x ≤ a.length ∧ ∀ (j : Nat) (y : Col), j < x → a[j]? = some y → b[j]? = some y) (fun x => a.length - x) (0) (by simp) (StLe.refl _) rfl (fun x hx => ?_)
    refine W.seq ?_
    refine AW.seqR ?_
    refine R.move ?_
    refine R.move ?_
    refine R.len Tryz.underlying37 ?_
    refine R.lss ?_
    refine R.fin [0, 1, 5, 14] ?_
    refine W.cond (fun ht14 => ?_) (fun ht14 => ?_)
    · skip
      have hlt : x < a.length := by simpa using ht14
      have hlb : x < b.length := by have := lenEqM ht10; omega
      refine AW.skip ?_
      refine K.thN ?_
      refine W.seq ?_
      refine AW.block ?_
      refine W.draw [0, 0, 3, 7, 0, 0, 48, 112, 255] 8 Tryzmixed (by kernel_rfl) ?_
      refine D.move ?_
      refine D.move ?_
      refine D.indexAddr (x) (colA a[x]) Tryz.underlying37 Tryz.sizeOf65 (getMap hlt) ?_
      refine D.loadRoN Tryz.isAgg65 Tryz.sizeOf65 ?_
      refine D.move ?_
      refine D.move ?_
      refine D.indexAddr (x) (colA b[x]) Tryz.underlying37 Tryz.sizeOf65 (getMap hlb) ?_
      refine D.loadRoN Tryz.isAgg65 Tryz.sizeOf65 ?_
      refine D.tail ?_
      refine R.neqAgg eg65 (equal65 a[x].kind b[x].kind a[x].name b[x].name) ?_
      refine R.fin [0, 1, 5, 25] ?_
      refine W.cond (fun ht25 => ?_) (fun ht25 => ?_)
      · skip
        rw [col_ext] at ht25
        refine AW.seqR ?_
        refine R.assign ?_
        refine R.fin [4] ?_
        refine AW.ret ?_
        refine K.blR ?_
        refine K.thR ?_
        refine K.lpR ?_
        refine K.thR ?_
        exact K.fin (V.one V.tmp) ⟨by rw [atNe hlt hlb (by simpa using ht25)], rfl⟩
      · skip
        rw [col_ext] at ht25
        refine AW.skip ?_
        refine K.blN ?_
        refine K.thN ?_
        refine AW.region ?_
        refine R.move ?_
        refine R.add64 ?_
        refine R.assign ?_
        refine R.fin [0, 1, 5] ?_
        exact K.lpN (x + 1) ⟨hlt, uptoI_succ (p := fun j y => b[j]? = some y) hlt hx.2 (by rw [List.getElem?_eq_getElem hlb]; simpa using (Eq.symm (by simpa using ht25) : b[x] = a[x]))⟩ (by omega) (StCut.of_eq rfl)
    · skip
      refine AW.exit ?_
      refine K.thE ?_
      refine K.lpE ?_
      refine K.thN ?_
      refine AW.seqR ?_
      refine R.assign ?_
      refine R.fin [4] ?_
      refine AW.ret ?_
      exact K.fin (V.one V.tmp) ⟨by rw [allEq (by simpa using ht10) (uptoI_all (by simp at ht14; omega) hx.2)], rfl⟩

end Go.SX.Nb
namespace Go.SX
variable [GI : GlobInv]
open Classical
section
variable {P : Program} {d : Nat} {st : St} {dst : Option Tmp} {ty : TypeId} {pos : String} {aft : Array Edge} {gd : Option (Nat × Bool)}
abbrev u8A (c : UInt8) : AV := .v (.int .u8 (c.toNat : Int))
theorem fold_bytes : ∀ (l : List UInt8) (r : ByteArray), (l.map fun c => (c.toNat : Int)).foldl (fun r n => r.push (UInt8.ofNat n.toNat)) r = ⟨r.data ++ l.toArray⟩
  | [], r => by simp
  | c :: l, r => by
    rw [List.map_cons, List.foldl_cons, fold_bytes l]
    have : UInt8.ofNat ((c.toNat : Int)).toNat = c := by simp
    rw [this]
    simp [ByteArray.push]
theorem OpV.bytesStr {a t e : TypeId} {x : Operand} {o : Bool} {l : List UInt8} (hs : P.underlying a = some (.slice e)) (he : P.underlying e = some (.int .u8)) (ht : P.underlying t = some .string) (hx : st.ev x = .slice o 1 (l.map u8A)) :
    OpV P d ⟨dst, .convert a t x, ty, pos, aft, gd⟩ st (.v (sv l)) :=
  OpV.pure (by intro c h; cases h) fun G ac w h => by
    have hr := hx ▸ h.eval x
    generalize hv : ac.eval x = u at hr
    refine ⟨.string ⟨l.toArray⟩, ?_, .v _ _⟩
    rcases asSl_cases (.inl rfl) hr with ⟨rfl, hl⟩ | ⟨ad, c, f, rfl, _, hF, _⟩
    · have : l = [] := by simpa using hl
      subst this
      simp [execOp, hv, run_convert_bytes_string w a t e none 0 0 hs he ht, Conv.bytesToString]
      rfl
    · have hvals := hF.vals (Nat.succ_pos 0)
      have e1 : flatVals 1 (l.map u8A).length f = (l.map fun c => (c.toNat : Int)).map (Value.int .u8) := by
        apply List.ext_getElem?
        intro i
        by_cases hi : i < l.length
        · have h1 : i < (l.map u8A).length * 1 := by simpa using hi
          rw [flatVals_get h1, Nat.div_one, Nat.mod_one]
          have hxi : (l.map u8A)[i]? = some (u8A l[i]) := by rw [List.getElem?_map, List.getElem?_eq_getElem hi]; rfl
          have hrep := hF.rep i _ 0 _ hxi rfl
          have := rep_v hrep
          rw [this, List.map_map, List.getElem?_map, List.getElem?_eq_getElem hi]
          rfl
        · rw [List.getElem?_eq_none (by rw [flatVals_length]; simp; omega), List.getElem?_eq_none (by simp; omega)]
      have e2 := run_loadCells_list (P := P) (w := w) ad _ hvals
      rw [flatVals_length, e1, Nat.mul_one] at e2
      have e3 := run_bytesToString w ad (l.map u8A).length c _ e2
      rw [fold_bytes] at e3
      rw [List.length_map] at e3 hv
      simp [execOp, hv, run_convert_bytes_string w a t e (some ad) l.length c hs he ht, e3]
end
variable {P : Program} {d : Nat} {ops : Array Oper} {rest : List Oper} {sz : Nat} {fr : Nat → AV} {up own : List AObj} {dfs : List Nat} {rnd : Option Nat} {Q : St → Prop} {s : Nat} {ty : TypeId} {pos : String} {aft : Array Edge}
theorem R.bytesStr {a t e : TypeId} {x : Operand} {o : Bool} (l : List UInt8) (hs' : P.underlying a = some (.slice e)) (he : P.underlying e = some (.int .u8)) (ht : P.underlying t = some .string) (hr : ARun P d ops rest ⟨sz, setF s (.v (sv l)) fr, up, own, dfs, rnd⟩ Q)
    (hx : frEv fr x = .slice o 1 (l.map u8A) := by simp only [go_sem, ↓reduceIte, Nat.reduceEqDiff, Nat.reduceAdd] <;> rfl) (hs : Nat.blt s sz = true := by rfl) :
    ARun P d ops (⟨some s, .convert a t x, ty, pos, aft, none⟩ :: rest) ⟨sz, fr, up, own, dfs, rnd⟩ Q :=
  ARun.vv rfl rfl hs (OpV.bytesStr hs' he ht hx) hr
end Go.SX
