/- The law LexTwice answers true for whatever can be read. -/
import Derived.Test.YtefgfjedonchdaaGreatDoorLexTwiceCardSaidPart7
set_option linter.all false
namespace Go.SX.Nb
open Go Go.SX Go.Proofs
variable [ErrAt]
set_option maxRecDepth 4000
def dblC (c : UInt8) : Str := if c = 39 then [39, 39] else [c]
def dblM (t : Str) : Str := t.flatMap dblC
theorem dblM_len : ∀ t : Str, (dblM t).length ≤ 2 * t.length
  | [] => Nat.le_refl _
  | c :: r => by
    have := dblM_len r
    unfold dblM at this ⊢
    rw [List.flatMap_cons, List.length_append, List.length_cons]
    have h : (dblC c).length ≤ 2 := by unfold dblC; split <;> simp
    omega
theorem dblM_succ {t : Str} {x : Nat} (h : x < t.length) : dblM (t.take (x + 1)) = dblM (t.take x) ++ dblC t[x] := by
  unfold dblM
  rw [List.take_succ, List.getElem?_eq_getElem h, List.flatMap_append]
  simp
abbrev bytesA (l : Str) : AV := .slice true 1 (l.map u8A)
theorem hlb {t : Str} (ht : t.length ≤ 1048576) (x : Nat) : (dblM (t.take x)).length ≤ 2097152 := by
  have := dblM_len (t.take x)
  have h2 : (t.take x).length ≤ t.length := by rw [List.length_take]; omega
  omega
theorem c19 (t : Str) (ht : t.length ≤ 1048576) (Hp : List AObj) : AFun Tryz.prog 19 [valA ⟨2, 0, t⟩] Hp (strA ([39] ++ dblM t ++ [39])) := by
  refine ACall.body [.tmp 2] [0] Tryz.func19 Tryz.ntmps19 (fun d => ?_)
  refine AW.seqR ?_
  refine R.boxRo ?_
  refine R.assign ?_
  refine R.fin [1] ?_
  refine W.seq ?_
  refine AW.seqR ?_
  refine R.fieldAddrRo (off := 0) Tryz.underlying36 Tryz.sizeOf3 ?_
  refine R.loadRo Tryz.isAgg3 ?_
  refine R.fin [1, 6] ?_
  refine AW.block ?_
  refine AW.seqR ?_
  refine R.eql ?_
  refine R.assign ?_
  refine R.fin [1, 6, 7] ?_
  refine W.cond (fun ht7 => ?_) (fun ht7 => ?_)
  · skip
    exact absurd ht7 (by decide)
  · skip
    refine AW.seqR ?_
    refine R.eql ?_
    refine R.assign ?_
    refine R.fin [1, 6, 9] ?_
    refine W.cond (fun ht9 => ?_) (fun ht9 => ?_)
    · skip
      exact absurd ht9 (by decide)
    · skip
      refine AW.seqR ?_
      refine R.eql ?_
      refine R.assign ?_
      refine R.fin [1, 14] ?_
      refine W.cond (fun ht14 => ?_) (fun ht14 => ?_)
      · skip
        exact absurd ht14 (by decide)
      · skip
        refine AW.skip ?_
        refine K.blN ?_
        refine K.thN ?_
        refine AW.seqR ?_
        refine R.buildSlice Tryz.underlying95 Tryz.sizeOf5 Tryz.zeroValue5 ?_
        refine R.assignT ?_
        refine R.fin [1, 3] ?_
        refine W.seq ?_
        refine AW.seqR ?_
        refine R.assign ?_
        refine R.fin [1, 3, 4] ?_
        refine AW.loopC (α := Nat) (fun x => ⟨46, setF 1 (.ro [.v (.int .i64 2), .v (.int .i64 0), .v (sv t)]) (setF 3 (bytesA ([39] ++ dblM (t.take x))) (setF 4 (intA (x : Nat)) (fun _ => .any))), Hp, [], [], none⟩) (fun x => x ≤ t.length) (fun x => t.length - x) (0) (Nat.zero_le _) (StLe.refl _) rfl (fun x hx => ?_)
        refine W.seq ?_
        refine AW.seqR ?_
        refine R.move ?_
        refine R.fieldAddrRo (off := 2) Tryz.underlying36 Tryz.sizeOf9 ?_
        refine R.loadRo Tryz.isAgg9 ?_
        refine R.slen Tryz.underlying9 ?_
        refine R.lss ?_
        refine R.fin [1, 3, 4, 24] ?_
        refine W.cond (fun ht24 => ?_) (fun ht24 => ?_)
        · skip
          have hxl : x < t.length := by simp at ht24; omega
          have hb0 := hlb ht x
          refine AW.skip ?_
          refine K.thN ?_
          refine W.seq ?_
          refine AW.block ?_
          refine W.seq ?_
          refine AW.seqR ?_
          refine R.fieldAddrRo (off := 2) Tryz.underlying36 Tryz.sizeOf9 ?_
          refine R.loadRo Tryz.isAgg9 ?_
          refine R.move ?_
          refine R.sindex x t[x] Tryz.underlying9 (List.getElem?_eq_getElem hxl) ?_
          refine R.eql ?_
          refine R.fin [1, 3, 4, 31] ?_
          refine W.cond (fun ht31 => ?_) (fun ht31 => ?_)
          · skip
            have hc : t[x] = 39 := by
              have h31 : ((t[x].toNat : Int) == 39) = true := ht31
              exact UInt8.toNat_inj.1 (by have : (39 : UInt8).toNat = 39 := rfl; simp at h31; omega)
            refine AW.region ?_
            refine R.moveT ?_
            refine R.buildSlice Tryz.underlying95 Tryz.sizeOf5 Tryz.zeroValue5 ?_
            refine R.append Tryz.underlying95 Tryz.type5 ?_ ?_ ?_
            · simp [Tryz.t5] <;> omega
            · simp [Tryz.t5] <;> omega
            refine R.assignT ?_
            refine R.fin [1, 3, 4] ?_
            refine K.thN ?_
            refine AW.region ?_
            refine R.moveT ?_
            refine R.fieldAddrRo (off := 2) Tryz.underlying36 Tryz.sizeOf9 ?_
            refine R.loadRo Tryz.isAgg9 ?_
            refine R.move ?_
            refine R.sindex x t[x] Tryz.underlying9 (List.getElem?_eq_getElem hxl) ?_
            refine R.buildSlice Tryz.underlying95 Tryz.sizeOf5 Tryz.zeroValue5 ?_
            refine R.append Tryz.underlying95 Tryz.type5 ?_ ?_ ?_
            · simp [Tryz.t5] <;> omega
            · simp [Tryz.t5] <;> omega
            refine R.assignT ?_
            refine R.fin [1, 3, 4] ?_
            refine K.blN ?_
            refine K.thN ?_
            refine AW.region ?_
            refine R.move ?_
            refine R.add64 ?_
            refine R.assign ?_
            refine R.fin [1, 3, 4] ?_
            exact K.lpN (x + 1) hxl (by omega) (StCut.of_eq (by
              rw [dblM_succ hxl, dblC]
              first | rw [if_pos hc] | rw [if_neg hc]
              simp only [bytesA, List.map_append, List.map_cons, List.map_nil, List.append_assoc, List.cons_append, List.nil_append]
              try rw [hc]
              rfl))
          · skip
            have hc : t[x] ≠ 39 := fun e => by
              rw [e] at ht31
              exact absurd ht31 (by decide)
            refine AW.skip ?_
            refine K.thN ?_
            refine AW.region ?_
            refine R.moveT ?_
            refine R.fieldAddrRo (off := 2) Tryz.underlying36 Tryz.sizeOf9 ?_
            refine R.loadRo Tryz.isAgg9 ?_
            refine R.move ?_
            refine R.sindex x t[x] Tryz.underlying9 (List.getElem?_eq_getElem hxl) ?_
            refine R.buildSlice Tryz.underlying95 Tryz.sizeOf5 Tryz.zeroValue5 ?_
            refine R.append Tryz.underlying95 Tryz.type5 ?_ ?_ ?_
            · simp [Tryz.t5] <;> omega
            · simp [Tryz.t5] <;> omega
            refine R.assignT ?_
            refine R.fin [1, 3, 4] ?_
            refine K.blN ?_
            refine K.thN ?_
            refine AW.region ?_
            refine R.move ?_
            refine R.add64 ?_
            refine R.assign ?_
            refine R.fin [1, 3, 4] ?_
            exact K.lpN (x + 1) hxl (by omega) (StCut.of_eq (by
              rw [dblM_succ hxl, dblC]
              first | rw [if_pos hc] | rw [if_neg hc]
              simp only [bytesA, List.map_append, List.map_cons, List.map_nil, List.append_assoc, List.cons_append, List.nil_append]
              try rw [hc]
              rfl))
        · skip
          have hxe : x = t.length := by simp at ht24; omega
          have hb0 := hlb ht x
          have hdt : dblM (t.take x) = dblM t := by rw [hxe, List.take_length]
          rw [hdt] at hb0 ⊢
          refine AW.exit ?_
          refine K.thE ?_
          refine K.lpE ?_
          refine K.thN ?_
          refine AW.seqR ?_
          refine R.moveT ?_
          refine R.buildSlice Tryz.underlying95 Tryz.sizeOf5 Tryz.zeroValue5 ?_
          refine R.append Tryz.underlying95 Tryz.type5 ?_ ?_ ?_
          · simp [Tryz.t5] <;> omega
          · simp [Tryz.t5] <;> omega
          refine R.bytesStr ([39] ++ dblM t ++ [39]) Tryz.underlying95 Tryz.underlying5 Tryz.underlying9 (hx := by simp only [go_sem, ↓reduceIte, Nat.reduceEqDiff, Nat.reduceAdd, List.map_append, List.map_cons, List.map_nil, List.cons_append, List.nil_append] <;> rfl) ?_
          refine R.assign ?_
          refine R.fin [2] ?_
          refine AW.ret ?_
          exact K.fin (V.one V.tmp)

end Go.SX.Nb
namespace Go.SX.Nb
open Go Go.SX Go.Proofs
variable [ErrAt]
set_option maxRecDepth 4000
theorem dblM_cons (c : UInt8) (r : Str) : dblM (c :: r) = dblC c ++ dblM r := by unfold dblM; rw [List.flatMap_cons]
theorem split39 : ∀ s : Str, (Lib.index s [39] = -1 ∧ dblM s = s) ∨ ∃ i : Nat, Lib.index s [39] = (i : Int) ∧ i < s.length ∧ dblM s = s.take i ++ [39, 39] ++ dblM (s.drop (i + 1))
  | [] => .inl ⟨rfl, rfl⟩
  | b :: l => by
    by_cases hb : b = 39
    · subst hb
      refine .inr ⟨0, by simp [Lib.index, List.isPrefixOf], by simp, ?_⟩
      rw [dblM_cons]
      simp [dblC]
    · have hp : ([39] : Str).isPrefixOf (b :: l) = false := by
        simp [List.isPrefixOf, Ne.symm hb]
      have hd : dblM (b :: l) = b :: dblM l := by
        rw [dblM_cons, dblC, if_neg hb]
        rfl
      rcases split39 l with ⟨h1, h2⟩ | ⟨i, h1, h2, h3⟩
      · refine .inl ⟨?_, by rw [hd, h2]⟩
        rw [Lib.index, hp, h1]; rfl
      · refine .inr ⟨i + 1, ?_, by simp; omega, ?_⟩
        · rw [Lib.index, hp, h1, if_neg (by simp), if_neg (by simp)]
          rfl
        · rw [hd, h3]
          simp
theorem replaceK_dbl : ∀ (n : Nat) (s : Str), s.length ≤ n → Lib.replaceK [39] [39, 39] (Lib.count s [39]) s = dblM s
  | n, s, hn => by
    rcases split39 s with ⟨h1, h2⟩ | ⟨i, h1, h2, h3⟩
    · rw [Lib.count_miss h1, h2]; rfl
    · cases n with
      | zero => omega
      | succ n =>
        rw [Lib.count_hit (by decide) h1, Nat.add_comm, Lib.replaceK_hit _ _ _ _ i h1]
        have e : i + ([39] : Str).length = i + 1 := rfl
        rw [e, replaceK_dbl n (s.drop (i + 1)) (by rw [List.length_drop]; omega), h3]
theorem replace_dbl (s : Str) : Lib.replaceAll s [39] [39, 39] = dblM s := by
  unfold Lib.replaceAll Lib.replace
  rw [if_neg (by decide)]
  have e : Lib.replaceNum s [39] (-1) = Lib.count s [39] := by unfold Lib.replaceNum; rw [if_pos (.inl (by decide))]
  rw [e]
  exact replaceK_dbl _ s (Nat.le_refl _)
def spell (t : Tok) : Str := if t.kind = 4 then [39] ++ dblM t.text ++ [39] else t.text
def joinT (l : List Tok) : Str := l.flatMap fun t => spell t ++ [32]
theorem joinT_cons (t : Tok) (l : List Tok) : joinT (t :: l) = spell t ++ 32 :: joinT l := by unfold joinT; rw [List.flatMap_cons]; simp
theorem text_spell {q : Str} (h0 : q.headD 0 = 39) (h1 : 1 ≤ q.length) (h : (readM q).2 = 0) : [39] ++ dblM (readM q).1.s ++ [39] = q := by
  cases q with
  | nil => simp at h1
  | cons c r =>
    have hc : c = 39 := h0
    subst hc
    unfold readM at h ⊢
    have n1 : ((39 :: r : Str) == [110, 117, 108, 108]) = false := by rw [beq_eq_false_iff_ne]; intro e; injection e with e; exact absurd e (by decide)
    have n2 : ((39 :: r : Str) == [116, 114, 117, 101]) = false := by rw [beq_eq_false_iff_ne]; intro e; injection e with e; exact absurd e (by decide)
    have n3 : ((39 :: r : Str) == [102, 97, 108, 115, 101]) = false := by rw [beq_eq_false_iff_ne]; intro e; injection e with e; exact absurd e (by decide)
    rw [n1, n2, n3] at h ⊢
    simp only [Bool.false_eq_true, if_false, Bool.or_self] at h ⊢
    by_cases hq : quotM (39 :: r) = true
    · rw [if_pos hq] at h ⊢
      unfold textR at h ⊢
      split at h
      · exact absurd h (show ¬ (7 : Int) = 0 by decide)
      · rename_i hp
        rw [if_neg hp]
        have hp' : printM (textV (39 :: r)) = 39 :: r := by simpa using hp
        have hk : (textV (39 :: r)).kind = 2 := rfl
        show [39] ++ dblM (textV (39 :: r)).s ++ [39] = 39 :: r
        generalize textV (39 :: r) = v at hp' hk
        have hne : printM v ≠ [] := by rw [hp']; simp
        rw [← hp']
        unfold printM at hne ⊢
        split at hne
        · exact absurd rfl hne
        · rename_i hpl
          rw [if_neg hpl, hk, if_neg (by decide), if_pos (by decide), replace_dbl]
    · rw [if_neg hq] at h
      have hd : numBad (39 :: r) = true := by
        unfold numBad
        have e : numDs (39 :: r) = 39 :: r := by
          rcases numDs_cases (39 :: r) with ⟨_, h4⟩ | ⟨r', h3, _⟩
          · exact h4
          · injection h3 with h3; exact absurd h3 (by decide)
        rw [e]
        have : (Lib.trimS (39 :: r) digs == []) = false := by
          rw [beq_eq_false_iff_ne]
          intro e
          rw [trimS_nil] at e
          exact absurd (e 39 (by simp)) (by decide)
        rw [this]
        simp
      have hn : numReadM (39 :: r) = (0, 6) := by unfold numReadM; rw [if_pos hd]
      rw [hn] at h
      simp at h
end Go.SX.Nb
namespace Go.SX.Nb
open Go Go.SX Go.Proofs
variable [ErrAt]
set_option maxRecDepth 4000
theorem take_len_take (s : Str) (m : Nat) : s.take (s.take m).length = s.take m := by
  rw [List.length_take]
  rcases Nat.le_total m s.length with h | h
  · rw [Nat.min_eq_left h]
  · rw [Nat.min_eq_right h, List.take_of_length_le (Nat.le_refl _), List.take_of_length_le h]
theorem wordOf_take (s of : Str) : s.take (wordOf s of).length = wordOf s of := by
  unfold wordOf
  exact take_len_take s _
/-- What a word's print spells is what was read. -/
theorem word_spell {s : Str} {n p : Nat} (h0 : 1 ≤ s.length) (he : (wordM s).2.2.2 = 0) (hn : (wordM s).2.2.1 = (n : Int)) : spell ⟨(wordM s).1, (wordM s).2.1, p⟩ = s.take n := by
  cases s with
  | nil => simp at h0
  | cons c r =>
    unfold wordM at he hn ⊢
    by_cases c1 : decide (0 < runM ((c :: r).take 1) letters) = true
    · rw [if_pos c1] at he hn
      simp only [if_pos c1]
      unfold namedM at he hn ⊢
      by_cases r1 : lexReservedM (wordOf (c :: r) tails) = true
      · rw [if_pos r1] at hn
        simp only [if_pos r1]
        have hn' : (((wordOf (c :: r) tails).length : Nat) : Int) = n := hn
        have e : n = (wordOf (c :: r) tails).length := by omega
        rw [e, wordOf_take]
        rfl
      · rw [if_neg r1] at he hn
        simp only [if_neg r1]
        by_cases r2 : (!lexNameM (wordOf (c :: r) tails)) = true
        · rw [if_pos r2] at he; exact absurd he (show ¬ (3 : Int) = 0 by decide)
        · rw [if_neg r2] at hn
          simp only [if_neg r2]
          have hn' : (((wordOf (c :: r) tails).length : Nat) : Int) = n := hn
          have e : n = (wordOf (c :: r) tails).length := by omega
          rw [e, wordOf_take]
          rfl
    · rw [if_neg c1] at he hn
      simp only [if_neg c1]
      by_cases c2 : decide (0 < runM ((c :: r).take 1) digs) = true
      · rw [if_pos c2] at he hn
        simp only [if_pos c2]
        have hn' : (((wordOf (c :: r) digs).length : Nat) : Int) = n := hn
        have e : n = (wordOf (c :: r) digs).length := by omega
        rw [e, wordOf_take]
        rfl
      · rw [if_neg c2] at he hn
        simp only [if_neg c2]
        by_cases c3 : (((((c :: r)).getD 0 0).toNat : Int) == 39) = true
        · rw [if_pos c3] at he hn
          simp only [if_pos c3]
          have hc : c = 39 := by
            have c3' : ((c.toNat : Int) == 39) = true := c3
            exact UInt8.toNat_inj.1 (by have : (39 : UInt8).toNat = 39 := rfl; simp at c3'; omega)
          unfold quotedM at he hn ⊢
          cases hq : closeQ ((c :: r).drop 1) with
          | none => rw [hq] at he; exact absurd he (show ¬ (7 : Int) = 0 by decide)
          | some m =>
            rw [hq] at he hn
            simp only at he hn ⊢
            split at he
            · exact absurd he (show ¬ (3 : Int) = 0 by decide)
            · rename_i hr
              rw [if_neg hr] at hn
              simp only [if_neg hr]
              have hm' : (((m + 1 : Nat)) : Int) = n := hn
              have hm : n = m + 1 := by omega
              subst hm
              have hr' : (readM ((c :: r).take (m + 1))).2 = 0 := by simpa using hr
              have := text_spell (q := (c :: r).take (m + 1)) (by rw [hc]; rfl) (by simp) hr'
              unfold spell
              rw [if_pos rfl]
              exact this
        · rw [if_neg c3] at he hn
          simp only [if_neg c3]
          unfold signM at he hn ⊢
          split at hn
          · rename_i h2
            simp only [if_pos h2]
            have hn' : (2 : Int) = n := hn
            have : n = 2 := by omega
            subst this
            rfl
          · rename_i h2
            rw [if_neg h2] at he
            simp only [if_neg h2]
            split at hn
            · rename_i h3
              simp only [if_pos h3]
              have hn' : (1 : Int) = n := hn
              have : n = 1 := by omega
              subst this
              rfl
            · rename_i h3
              rw [if_neg h3] at he
              exact absurd he (show ¬ (7 : Int) = 0 by decide)
theorem lexG_blank (f q : Nat) (J : Str) : lexG f q (32 :: J) = lexG f (q + 1) J := by
  have h : gapM (32 :: J) = gapM J + 1 := by
    have := skip_le J false
    unfold gapM
    rw [skipB, if_pos (by decide), List.length_cons]
    omega
  unfold lexG
  rw [h, List.drop_succ_cons, show q + (gapM J + 1) = q + 1 + gapM J by omega]
def sameT (it : Tok × Int) : Int × Str × Int := (it.1.kind, it.1.text, it.2)
theorem lex_twice : ∀ (f q : Nat) (s : Str), s.length < f → (∀ it ∈ lexG f q s, it.2 = 0) → (joinT ((lexG f q s).map (·.1))).length ≤ 2 * s.length ∧
    ∀ (f' q' : Nat), (joinT ((lexG f q s).map (·.1))).length < f' → (lexG f' q' (joinT ((lexG f q s).map (·.1)))).map sameT = (lexG f q s).map sameT
  | 0, q, s, h, _ => by omega
  | f + 1, q, s, hf, hok => by
    obtain ⟨g, hg⟩ : ∃ g, gapM s = g := ⟨_, rfl⟩
    have hgl := gap_le s
    have hL : lexG (f + 1) q s = itemsF (f + 1) (q + g) (s.drop g) := by unfold lexG; rw [hg]
    by_cases hne : s.drop g = []
    · rw [hL, hne]
      refine ⟨Nat.zero_le _, fun f' q' _ => ?_⟩
      show (lexG f' q' []).map sameT = []
      unfold lexG
      rw [List.drop_nil, itemsF_nil]
      rfl
    · obtain ⟨n, hst, hw⟩ := itemsF_step (f := f) (q := q + g) hne
      rw [hst] at hL
      rw [hL] at hok ⊢
      have h0 : (wordM (s.drop g)).2.2.2 = 0 := hok _ List.mem_cons_self
      obtain ⟨hn1, hn2, hn3⟩ := hw h0
      rw [List.length_drop] at hn3
      rw [if_pos h0] at hok ⊢
      have hsp : ∀ p, spell ⟨(wordM (s.drop g)).1, (wordM (s.drop g)).2.1, p⟩ = (s.drop g).take n := fun p => word_spell (by rw [List.length_drop]; omega) h0 hn1
      obtain ⟨ih1, ih2⟩ := lex_twice f (q + g + n) ((s.drop g).drop n) (by simp only [List.length_drop]; omega) (fun i hi => hok i (List.mem_cons_of_mem _ hi))
      rw [List.map_cons, joinT_cons, hsp]
      obtain ⟨R, hR⟩ : ∃ R, lexG f (q + g + n) ((s.drop g).drop n) = R := ⟨_, rfl⟩
      rw [hR] at ih1 ih2 ⊢
      obtain ⟨J, hJ⟩ : ∃ J, joinT (R.map (·.1)) = J := ⟨_, rfl⟩
      rw [hJ] at ih1 ih2 ⊢
      have hwl : ((s.drop g).take n).length = n := by rw [List.length_take, List.length_drop]; omega
      simp only [List.length_append, List.length_cons, hwl]
      simp only [List.length_drop] at ih1
      refine ⟨by omega, fun f' q' hf' => ?_⟩
      obtain ⟨f0, rfl⟩ : ∃ f0, f' = f0 + 1 := ⟨f' - 1, by omega⟩
      have hs0 : (s.drop g).take n ++ (s.drop g).drop n = s.drop g := List.take_append_drop _ _
      have hz : skipB (s.drop g) false = s.drop g := by
        have h1 : skipB (s.take g ++ s.drop g) false = s.drop g := by rw [List.take_append_drop, ← gap_drop, hg]
        exact (skip_stop hne (s.drop g) (s.take g) false h1).symm.trans h1
      have hg0 : gapM ((s.drop g).take n ++ (s.drop g).drop n) = 0 := by
        rw [hs0]
        unfold gapM
        rw [hz]
        omega
      have hg1 : gapM ((s.drop g).take n ++ 32 :: J) = 0 := gap_before _ hg0 (by rw [hwl]; omega)
      have hwe : wordM ((s.drop g).take n ++ 32 :: J) = wordM (s.drop g) := by
        have := word_pre (V := (s.drop g).take n) (B := (s.drop g).drop n) (n := n) J (by rw [hs0]; exact h0) (by rw [hs0]; exact hn1) hn2 (by rw [hwl]; omega)
        rw [this, hs0]
      have hne' : (s.drop g).take n ++ 32 :: J ≠ [] := by simp
      obtain ⟨n', hst', hw'⟩ := itemsF_step (f := f0) (q := q') hne'
      rw [hwe] at hst' hw'
      have hnn : n' = n := by
        have := (hw' h0).1
        rw [hn1] at this
        omega
      subst hnn
      have hL' : lexG (f0 + 1) q' ((s.drop g).take n' ++ 32 :: J) = itemsF (f0 + 1) q' ((s.drop g).take n' ++ 32 :: J) := by unfold lexG; rw [hg1]; rfl
      have hdr : ((s.drop g).take n' ++ 32 :: J).drop n' = 32 :: J := by
        have e := List.drop_left (l₁ := (s.drop g).take n') (l₂ := 32 :: J)
        rwa [hwl] at e
      rw [hL', hst', if_pos h0, hdr, lexG_blank, List.map_cons, List.map_cons, ih2 f0 _ (by omega)]
      rfl
end Go.SX.Nb
namespace Go.SX.Nb
open Go Go.SX Go.Proofs
variable [ErrAt]
set_option maxRecDepth 4000
theorem wrap_u64 {n : Int} (h1 : 0 ≤ n) (h2 : n < 18446744073709551616) : IntKind.u64.wrap n = n := by
  have e1 : (2 ^ IntKind.u64.bits : Int) = 18446744073709551616 := rfl
  have e3 : IntKind.u64.signed = false := rfl
  unfold IntKind.wrap
  simp only [e1, e3, Bool.false_and]
  simp
  omega
theorem u64_range (n : Int) : 0 ≤ IntKind.u64.wrap n ∧ IntKind.u64.wrap n < 18446744073709551616 := by
  have e1 : (2 ^ IntKind.u64.bits : Int) = 18446744073709551616 := rfl
  have e3 : IntKind.u64.signed = false := rfl
  unfold IntKind.wrap
  simp only [e1, e3, Bool.false_and]
  simp
  omega
theorem k_mod (m : Int) (N : Nat) (h1 : 1 ≤ N) (hN : N ≤ 100000) : ∃ K : Nat, K < N ∧ IntKind.i64.wrap ((IntKind.u64.wrap m).tmod (IntKind.u64.wrap (N : Int))) = (K : Int) := by
  have hr := u64_range m
  rw [wrap_u64 (n := (N : Int)) (by omega) (by omega), Int.tmod_eq_emod_of_nonneg hr.1]
  have g1 := Int.emod_nonneg (IntKind.u64.wrap m) (b := (N : Int)) (by omega)
  have g2 := Int.emod_lt_of_pos (IntKind.u64.wrap m) (b := (N : Int)) (by omega)
  refine ⟨((IntKind.u64.wrap m) % (N : Int)).toNat, by omega, ?_⟩
  rw [wrap_i64 (by omega) (by omega)]
  omega
theorem lexM_len {s : Str} (h : (lexM s).2.1 = 0) : 1 ≤ (lexM s).1.length ∧ (lexM s).1.length ≤ s.length + 2 := by
  obtain ⟨_, _, hl⟩ := lexM_ok h
  rw [hl]
  have := itemsT_len s
  simp
  omega
theorem tok_at_le {s : Str} {i : Nat} (h : (lexM s).2.1 = 0) (hi : i < (lexM s).1.length) : (tokAt (lexM s).1 i).at_ ≤ s.length := by
  obtain ⟨_, _, hl⟩ := lexM_ok h
  rw [hl] at hi ⊢
  simp only [List.length_append, List.length_map, List.length_cons, List.length_nil] at hi
  unfold tokAt
  rw [List.getD_eq_getElem?_getD]
  rcases Nat.lt_or_ge i (itemsT s).length with hlt | hge
  · have hit : (itemsT s)[i]? = some (itemsT s)[i] := List.getElem?_eq_getElem hlt
    simp only
    rw [List.getElem?_append_left (by simpa using hlt), List.getElem?_map, hit]
    exact items_at_le hit
  · simp only
    rw [List.getElem?_append_right (by simpa using hge), show i - ((itemsT s).map (·.1)).length = 0 by simp; omega]
    exact Nat.le_refl _
def gapL (k d : Nat) (L : List Tok) : List Tok := L.take k ++ (L.drop k).map (shiftTok d)
theorem gapL_len {k d : Nat} {L : List Tok} (hk : k < L.length) : (gapL k d L).length = L.length := by unfold gapL; simp; omega
theorem gapL_at {k d i : Nat} {L : List Tok} (hk : k < L.length) (hi : i < L.length) : tokAt (gapL k d L) i = if i < k then tokAt L i else shiftTok d (tokAt L i) := by
  unfold gapL tokAt
  simp only [List.getD_eq_getElem?_getD]
  split
  · rename_i h
    rw [List.getElem?_append_left (by simp; omega), List.getElem?_take, if_pos h]
  · rename_i h
    rw [List.getElem?_append_right (by simp; omega), List.getElem?_map, List.getElem?_drop, List.length_take, show k + (i - min k L.length) = i by omega, List.getElem?_eq_getElem hi]
    rfl
theorem gap_far0 {a : Tok} : ((((a.kind != a.kind) || !(a.text == a.text)) || (((a.at_ : Nat) : Int) != (a.at_ : Nat) + 0))) = false := by simp
theorem gap_far {a : Tok} {d : Nat} {n : Int} (h : n = (d : Nat)) : (((((shiftTok d a).kind != a.kind) || !((shiftTok d a).text == a.text)) || ((((shiftTok d a).at_ : Nat) : Int) != (a.at_ : Nat) + n))) = false := by
  subst h
  simp [shiftTok]
theorem new_eq (src note : Str) (p : Nat) : (((src.take p ++ [32, 9, 35]) ++ note) ++ [10, 32]) ++ src.drop p = src.take p ++ (insX note ++ src.drop p) := by simp [insX]
theorem c4 (src : Str) (at_ : Int) (note : Str) (Hp : List AObj) : AFun Tryz.prog 4 [strA src, intA at_, strA note] Hp (boolA true) := by
  refine ACall.body [.tmp 6] [0, 1, 2] Tryz.func4 Tryz.ntmps4 (fun d => ?_)
  refine AW.seqR ?_
  refine R.assign ?_
  refine R.fin [0, 1, 2] ?_
  refine W.seq ?_
  refine AW.seqR ?_
  refine R.call Tryz.call13 (c13 _) ?_
  refine R.not ?_
  refine R.fin [0, 1, 2, 17] ?_
  refine W.cond (fun ht17 => ?_) (fun ht17 => ?_)
  · skip
    cases ht17
  · skip
    refine AW.skip ?_
    refine K.thN ?_
    refine W.seq ?_
    refine AW.seqR ?_
    refine R.move ?_
    refine R.slen Tryz.underlying9 ?_
    refine R.gtr ?_
    refine R.move ?_
    refine G.move ?_
    refine G.slen Tryz.underlying9 ?_
    refine G.gtr ?_
    refine R.pickOr ?_
    refine R.fin [0, 1, 2, 25] ?_
    refine W.cond (fun ht25 => ?_) (fun ht25 => ?_)
    · skip
      refine AW.seqR ?_
      refine R.assign ?_
      refine R.fin [6] ?_
      refine AW.ret ?_
      refine K.thR ?_
      exact K.fin (V.one V.tmp)
    · skip
      have hls : src.length ≤ 2000 ∧ note.length ≤ 1000 := by simp at ht25; omega
      refine AW.skip ?_
      refine K.thN ?_
      refine AW.seqR ?_
      refine R.move ?_
      refine R.call Tryz.call15 (c15 src (by omega) _) ?_
      refine R.move ?_
      refine R.extract ?_
      refine R.extract ?_
      refine R.alloc Tryz.zeroValue27 ?_
      refine R.assign ?_
      refine R.storeOwn Tryz.sizeOf27 ?_
      refine R.fin [0, 1, 2, 7, 8] ?_
      refine W.seq ?_
      refine AW.seqR ?_
      refine R.fieldAddrPtr (fo := 0) Tryz.underlying27 Tryz.sizeOf25 ?_
      refine R.loadOwn Tryz.isAgg25 ?_
      refine R.neq ?_
      refine R.fin [0, 1, 2, 7, 33] ?_
      refine W.cond (fun ht33 => ?_) (fun ht33 => ?_)
      · skip
        refine AW.seqR ?_
        refine R.assign ?_
        refine R.fin [6] ?_
        refine AW.ret ?_
        refine K.thR ?_
        exact K.fin (V.one V.tmp)
      · skip
        have hf0 : (lexM src).2.1 = 0 := by simpa using ht33
        have hLm : (List.map tokA (lexM src).1).length = (lexM src).1.length := List.length_map _
        refine AW.skip ?_
        refine K.thN ?_
        refine W.seq ?_
        refine AW.seqR ?_
        refine R.assign ?_
        refine R.fin [0, 1, 2, 7, 9] ?_
        refine AW.loopC (α := Nat) (fun x => ⟨137, setF 0 (strA src) (setF 1 (intA at_) (setF 2 (strA note) (setF 7 (toksA (lexM src).1) (setF 9 (intA (x : Nat)) (fun _ => .any))))), Hp, [AObj.cells 27 [intA (lexM src).2.1, intA (lexM src).2.2]], [], none⟩) (fun x => x ≤ note.length ∧ ∀ (j : Nat) (b : UInt8), j < x → note[j]? = some b → b ≠ 10) (fun x => note.length - x) (0) ⟨Nat.zero_le _, fun j b h => by omega⟩ (StLe.refl _) rfl (fun x hx => ?_)
        refine W.seq ?_
        refine AW.seqR ?_
        refine R.move ?_
        refine R.move ?_
        refine R.slen Tryz.underlying9 ?_
        refine R.lss ?_
        refine R.fin [0, 1, 2, 7, 9, 37] ?_
        refine W.cond (fun ht37 => ?_) (fun ht37 => ?_)
        · skip
          have hxl : x < note.length := by simp at ht37; omega
          refine AW.skip ?_
          refine K.thN ?_
          refine W.seq ?_
          refine AW.block ?_
          refine AW.seqR ?_
          refine R.move ?_
          refine R.move ?_
          refine R.sindex x note[x] Tryz.underlying9 (List.getElem?_eq_getElem hxl) ?_
          refine R.eql ?_
          refine R.fin [0, 1, 2, 7, 9, 43] ?_
          refine W.cond (fun ht43 => ?_) (fun ht43 => ?_)
          · skip
            refine AW.seqR ?_
            refine R.assign ?_
            refine R.fin [6] ?_
            refine AW.ret ?_
            refine K.blR ?_
            refine K.thR ?_
            refine K.lpR ?_
            refine K.thR ?_
            exact K.fin (V.one V.tmp)
          · skip
            have hx10 : note[x] ≠ 10 := fun e => by rw [e] at ht43; simp at ht43
            refine AW.skip ?_
            refine K.blN ?_
            refine K.thN ?_
            refine AW.region ?_
            refine R.move ?_
            refine R.add64 ?_
            refine R.assign ?_
            refine R.fin [0, 1, 2, 7, 9] ?_
            exact K.lpN (x + 1) ⟨by omega, fun j b hj hjb => (by
              rcases Nat.lt_or_ge j x with h | h
              · exact hx.2 j b h hjb
              · have : j = x := by omega
                subst this
                rw [List.getElem?_eq_getElem hxl] at hjb
                injection hjb with hjb
                rw [← hjb]; exact hx10)⟩ (by omega) (StCut.of_eq rfl)
        · skip
          have hxe : note.length ≤ x := by simp at ht37; omega
          refine AW.exit ?_
          refine K.thE ?_
          refine K.lpE ?_
          refine K.thN ?_
          refine AW.seqR ?_
          have hnl : ∀ b ∈ note, b ≠ 10 := fun b hb => by
            obtain ⟨j, hj, e⟩ := List.mem_iff_getElem.1 hb
            exact hx.2 j b (by simp at ht37; omega) (by rw [List.getElem?_eq_getElem hj, e])
          have hLl := lexM_len hf0
          refine R.move ?_
          refine R.iconv Tryz.underlying3 Tryz.underlying32 ?_
          refine R.move ?_
          refine R.len Tryz.underlying24 ?_
          refine R.iconv Tryz.underlying3 Tryz.underlying32 ?_
          refine R.rem (h0 := by rw [List.length_map, wrap_u64 (by omega) (by omega)]; omega) ?_
          refine R.iconv Tryz.underlying32 Tryz.underlying3 ?_
          obtain ⟨k, hkl, hke⟩ := k_mod at_ (lexM src).1.length hLl.1 (by omega)
          rw [hLm, hke]
          refine R.assign ?_
          refine R.fin [0, 2, 7, 10] ?_
          refine W.seq ?_
          refine AW.seqR ?_
          refine R.move ?_
          refine R.move ?_
          refine R.len Tryz.underlying24 ?_
          refine R.sub64 ?_
          refine R.eql ?_
          refine R.fin [0, 2, 7, 10, 55] ?_
          refine W.cond (fun ht55 => ?_) (fun ht55 => ?_)
          · skip
            refine AW.seqR ?_
            refine R.assign ?_
            refine R.fin [6] ?_
            refine AW.ret ?_
            refine K.thR ?_
            exact K.fin (V.one V.tmp)
          · skip
            have hk1 : k + 1 < (lexM src).1.length := by simp at ht55; omega
            obtain ⟨hpl, hM⟩ := lex_gaps hls.1 hls.2 hf0 hnl hk1
            obtain ⟨p, hp⟩ : ∃ p, (tokAt (lexM src).1 k).at_ = p := ⟨_, rfl⟩
            rw [hp] at hpl hM
            have htp : (src.take p).length ≤ src.length := by rw [List.length_take]; omega
            have hdp : (src.drop p).length ≤ src.length := by rw [List.length_drop]; omega
            have hcall : ∀ Hp, AFun Tryz.prog 15 [strA ((((src.take p ++ [32, 9, 35]) ++ note) ++ [10, 32]) ++ src.drop p)] Hp (.tup [toksA (gapL k (note.length + 5) (lexM src).1), .agg [intA 0, intA 0]]) := fun Hp => by
              have := c15 ((((src.take p ++ [32, 9, 35]) ++ note) ++ [10, 32]) ++ src.drop p) (by simp; omega) Hp
              rw [new_eq, hM] at this
              rw [new_eq]
              exact this
            refine AW.skip ?_
            refine K.thN ?_
            refine AW.seqR ?_
            refine R.move ?_
            refine R.move ?_
            refine R.indexAddr (k) (tokA (tokAt (lexM src).1 k)) Tryz.underlying24 Tryz.sizeOf31 (getTok hkl) ?_
            refine R.fieldAddrRo (off := 2) Tryz.underlying31 Tryz.sizeOf3 ?_
            refine R.loadRo Tryz.isAgg3 ?_
            rw [hp]
            refine R.assign ?_
            refine R.fin [0, 2, 7, 10, 11] ?_
            apply W.drawXO [0, 0, 3, 7, 0, 31, 63, 0, 0, 384, 1023, 2047, 4095, 8191, 8191, 0, 49151, 131071] 15 1 13 (.ptr (oid Hp.length 1) 0) ([AObj.cells 27 [intA (lexM src).2.1, intA (lexM src).2.2], AObj.cells 27 [intA 0, intA 0]]) Tryzmixed
            case hok => kernel_rfl
            case h1 =>
              intro b
              refine D.move ?_
              refine D.move ?_
              refine D.scutH p Tryz.underlying9 (Nat.zero_le _) hpl ?_
              refine D.sadd ?_
              refine D.move ?_
              refine D.sadd ?_
              refine D.sadd ?_
              refine D.move ?_
              refine D.move ?_
              refine D.scutL p Tryz.underlying9 hpl (Nat.le_refl _) ?_
              refine D.sadd ?_
              refine D.call Tryz.call15 (hcall _) ?_
              refine D.move ?_
              refine D.extract ?_
              refine D.extract ?_
              exact D.end rfl rfl
            case h2 =>
              intro b
              refine D.assign ?_
              exact D.end rfl rfl
            case hE =>
              intro f hf
              exact X.alloc Tryz.zeroValue27 rfl rfl (by decide)
            case hx => kernel_rfl
            case hlen => simp
            refine R.storeOwn Tryz.sizeOf27 ?_
            refine R.fin [2, 7, 10, 12, 13] ?_
            refine W.seq ?_
            refine AW.seqR ?_
            refine R.fieldAddrPtr (fo := 0) Tryz.underlying27 Tryz.sizeOf25 ?_
            refine R.loadOwn Tryz.isAgg25 ?_
            refine R.neq ?_
            refine R.move ?_
            refine G.move ?_
            refine G.len Tryz.underlying24 ?_
            refine G.move ?_
            refine G.len Tryz.underlying24 ?_
            refine G.neq ?_
            refine R.pickOr ?_
            refine R.fin [2, 7, 10, 12, 85] ?_
            refine W.cond (fun ht85 => ?_) (fun ht85 => ?_)
            · skip
              exact absurd ht85 (by simp [gapL_len hkl])
            · skip
              refine AW.skip ?_
              refine K.thN ?_
              refine W.seq ?_
              refine AW.seqR ?_
              refine R.assign ?_
              refine R.fin [2, 7, 10, 12, 14] ?_
              refine AW.loopC (α := Nat) (fun x => ⟨137, setF 2 (strA note) (setF 7 (toksA (lexM src).1) (setF 10 (intA (k : Nat)) (setF 12 (toksA (gapL k (note.length + 5) (lexM src).1)) (setF 14 (intA (x : Nat)) (fun _ => .any))))), Hp, [AObj.cells 27 [intA (lexM src).2.1, intA (lexM src).2.2], AObj.cells 27 [intA 0, intA 0]], [], none⟩) (fun x => x ≤ (lexM src).1.length) (fun x => (lexM src).1.length - x) (0) (Nat.zero_le _) (StLe.refl _) rfl (fun x hx => ?_)
              refine W.seq ?_
              refine AW.seqR ?_
              refine R.move ?_
              refine R.move ?_
              refine R.len Tryz.underlying24 ?_
              refine R.lss ?_
              refine R.fin [2, 7, 10, 12, 14, 89] ?_
              refine W.cond (fun ht89 => ?_) (fun ht89 => ?_)
              · skip
                have hxl : x < (lexM src).1.length := by simp at ht89; omega
                have hat := tok_at_le hf0 hxl
                have hxm : x < (gapL k (note.length + 5) (lexM src).1).length := by rw [gapL_len hkl]; exact hxl
                refine AW.skip ?_
                refine K.thN ?_
                refine W.seq ?_
                refine AW.block ?_
                refine AW.seqR ?_
                refine R.assign ?_
                refine R.fin [2, 7, 10, 12, 14, 15] ?_
                refine W.seq ?_
                refine AW.seqR ?_
                refine R.move ?_
                refine R.move ?_
                refine R.geq ?_
                refine R.fin [2, 7, 10, 12, 14, 15, 94] ?_
                refine W.cond (fun ht94 => ?_) (fun ht94 => ?_)
                · skip
                  have hkx : k ≤ x := by simp at ht94; omega
                  have hmx : tokAt (gapL k (note.length + 5) (lexM src).1) x = shiftTok (note.length + 5) (tokAt (lexM src).1 x) := by rw [gapL_at hkl hxl, if_neg (by omega)]
                  refine AW.region ?_
                  refine R.move ?_
                  refine R.slen Tryz.underlying9 ?_
                  refine R.add64 ?_
                  refine R.assign ?_
                  refine R.fin [2, 7, 10, 12, 14, 15] ?_
                  refine K.thN ?_
                  refine W.draw [0, 0, 3, 7, 15, 0, 0, 96, 224, 480, 1023, 2047, 4095, 4095, 16383, 32767, 65535, 4095, 4095, 397311, 921599, 1970175, 4194303, 8388607, 16777215, 33554431, 33554431, 134217727, 268435455, 536870911, 33554431, 33554431, 3254779903, 7549747199, 16139681791, 33554431, 67679289343, 137438953471, 274877906943] 37 Tryzmixed (by kernel_rfl) ?_
                  refine D.move ?_
                  refine D.move ?_
                  refine D.indexAddr (x) (tokA (tokAt (gapL k (note.length + 5) (lexM src).1) x)) Tryz.underlying24 Tryz.sizeOf31 (getTok hxm) ?_
                  refine D.fieldAddrRo (off := 0) Tryz.underlying31 Tryz.sizeOf3 ?_
                  refine D.loadRo Tryz.isAgg3 ?_
                  refine D.move ?_
                  refine D.move ?_
                  refine D.indexAddr (x) (tokA (tokAt (lexM src).1 x)) Tryz.underlying24 Tryz.sizeOf31 (getTok hxl) ?_
                  refine D.fieldAddrRo (off := 0) Tryz.underlying31 Tryz.sizeOf3 ?_
                  refine D.loadRo Tryz.isAgg3 ?_
                  refine D.neq ?_
                  refine D.move ?_
                  refine H.move ?_
                  refine H.move ?_
                  refine H.indexAddr (x) (tokA (tokAt (gapL k (note.length + 5) (lexM src).1) x)) Tryz.underlying24 Tryz.sizeOf31 (fun _ => getTok hxm) ?_
                  refine H.fieldAddrRo (off := 1) Tryz.underlying31 Tryz.sizeOf9 ?_
                  refine H.loadRo Tryz.isAgg9 ?_
                  refine H.move ?_
                  refine H.move ?_
                  refine H.indexAddr (x) (tokA (tokAt (lexM src).1 x)) Tryz.underlying24 Tryz.sizeOf31 (fun _ => getTok hxl) ?_
                  refine H.fieldAddrRo (off := 1) Tryz.underlying31 Tryz.sizeOf9 ?_
                  refine H.loadRo Tryz.isAgg9 ?_
                  refine H.sneq ?_
                  refine D.pickOr ?_
                  refine D.move ?_
                  refine H.move ?_
                  refine H.move ?_
                  refine H.indexAddr (x) (tokA (tokAt (gapL k (note.length + 5) (lexM src).1) x)) Tryz.underlying24 Tryz.sizeOf31 (fun _ => getTok hxm) ?_
                  refine H.fieldAddrRo (off := 2) Tryz.underlying31 Tryz.sizeOf3 ?_
                  refine H.loadRo Tryz.isAgg3 ?_
                  refine H.move ?_
                  refine H.move ?_
                  refine H.indexAddr (x) (tokA (tokAt (lexM src).1 x)) Tryz.underlying24 Tryz.sizeOf31 (fun _ => getTok hxl) ?_
                  refine H.fieldAddrRo (off := 2) Tryz.underlying31 Tryz.sizeOf3 ?_
                  refine H.loadRo Tryz.isAgg3 ?_
                  refine H.move ?_
                  refine H.add64 ?_
                  refine D.tail ?_
                  refine G.neq ?_
                  refine R.pickOr ?_
                  refine R.fin [2, 7, 10, 12, 14, 136] ?_
                  refine W.cond (fun ht136 => ?_) (fun ht136 => ?_)
                  · skip
                    first | exact absurd ht136 (by rw [hmx, gap_far0]; simp) | exact absurd ht136 (by rw [hmx, gap_far (by simp)]; simp)
                  · skip
                    refine AW.skip ?_
                    refine K.blN ?_
                    refine K.thN ?_
                    refine AW.region ?_
                    refine R.move ?_
                    refine R.add64 ?_
                    refine R.assign ?_
                    refine R.fin [2, 7, 10, 12, 14] ?_
                    exact K.lpN (x + 1) hxl (by omega) (StCut.of_eq rfl)
                · skip
                  have hkx : x < k := by simp at ht94; omega
                  have hmx : tokAt (gapL k (note.length + 5) (lexM src).1) x = tokAt (lexM src).1 x := by rw [gapL_at hkl hxl, if_pos hkx]
                  refine AW.skip ?_
                  refine K.thN ?_
                  refine W.draw [0, 0, 3, 7, 15, 0, 0, 96, 224, 480, 1023, 2047, 4095, 4095, 16383, 32767, 65535, 4095, 4095, 397311, 921599, 1970175, 4194303, 8388607, 16777215, 33554431, 33554431, 134217727, 268435455, 536870911, 33554431, 33554431, 3254779903, 7549747199, 16139681791, 33554431, 67679289343, 137438953471, 274877906943] 37 Tryzmixed (by kernel_rfl) ?_
                  refine D.move ?_
                  refine D.move ?_
                  refine D.indexAddr (x) (tokA (tokAt (gapL k (note.length + 5) (lexM src).1) x)) Tryz.underlying24 Tryz.sizeOf31 (getTok hxm) ?_
                  refine D.fieldAddrRo (off := 0) Tryz.underlying31 Tryz.sizeOf3 ?_
                  refine D.loadRo Tryz.isAgg3 ?_
                  refine D.move ?_
                  refine D.move ?_
                  refine D.indexAddr (x) (tokA (tokAt (lexM src).1 x)) Tryz.underlying24 Tryz.sizeOf31 (getTok hxl) ?_
                  refine D.fieldAddrRo (off := 0) Tryz.underlying31 Tryz.sizeOf3 ?_
                  refine D.loadRo Tryz.isAgg3 ?_
                  refine D.neq ?_
                  refine D.move ?_
                  refine H.move ?_
                  refine H.move ?_
                  refine H.indexAddr (x) (tokA (tokAt (gapL k (note.length + 5) (lexM src).1) x)) Tryz.underlying24 Tryz.sizeOf31 (fun _ => getTok hxm) ?_
                  refine H.fieldAddrRo (off := 1) Tryz.underlying31 Tryz.sizeOf9 ?_
                  refine H.loadRo Tryz.isAgg9 ?_
                  refine H.move ?_
                  refine H.move ?_
                  refine H.indexAddr (x) (tokA (tokAt (lexM src).1 x)) Tryz.underlying24 Tryz.sizeOf31 (fun _ => getTok hxl) ?_
                  refine H.fieldAddrRo (off := 1) Tryz.underlying31 Tryz.sizeOf9 ?_
                  refine H.loadRo Tryz.isAgg9 ?_
                  refine H.sneq ?_
                  refine D.pickOr ?_
                  refine D.move ?_
                  refine H.move ?_
                  refine H.move ?_
                  refine H.indexAddr (x) (tokA (tokAt (gapL k (note.length + 5) (lexM src).1) x)) Tryz.underlying24 Tryz.sizeOf31 (fun _ => getTok hxm) ?_
                  refine H.fieldAddrRo (off := 2) Tryz.underlying31 Tryz.sizeOf3 ?_
                  refine H.loadRo Tryz.isAgg3 ?_
                  refine H.move ?_
                  refine H.move ?_
                  refine H.indexAddr (x) (tokA (tokAt (lexM src).1 x)) Tryz.underlying24 Tryz.sizeOf31 (fun _ => getTok hxl) ?_
                  refine H.fieldAddrRo (off := 2) Tryz.underlying31 Tryz.sizeOf3 ?_
                  refine H.loadRo Tryz.isAgg3 ?_
                  refine H.move ?_
                  refine H.add64 ?_
                  refine D.tail ?_
                  refine G.neq ?_
                  refine R.pickOr ?_
                  refine R.fin [2, 7, 10, 12, 14, 136] ?_
                  refine W.cond (fun ht136 => ?_) (fun ht136 => ?_)
                  · skip
                    first | exact absurd ht136 (by rw [hmx, gap_far0]; simp) | exact absurd ht136 (by rw [hmx, gap_far (by simp)]; simp)
                  · skip
                    refine AW.skip ?_
                    refine K.blN ?_
                    refine K.thN ?_
                    refine AW.region ?_
                    refine R.move ?_
                    refine R.add64 ?_
                    refine R.assign ?_
                    refine R.fin [2, 7, 10, 12, 14] ?_
                    exact K.lpN (x + 1) hxl (by omega) (StCut.of_eq rfl)
              · skip
                refine AW.exit ?_
                refine K.thE ?_
                refine K.lpE ?_
                refine K.thN ?_
                refine AW.seqR ?_
                refine R.assign ?_
                refine R.fin [6] ?_
                refine AW.ret ?_
                exact K.fin (V.one V.tmp)

end Go.SX.Nb
namespace Go.SX.Nb
open Go Go.SX Go.Proofs
variable [ErrAt]
set_option maxRecDepth 4000
theorem dblM_ge : ∀ t : Str, t.length ≤ (dblM t).length
  | [] => Nat.le_refl _
  | c :: r => by
    have := dblM_ge r
    rw [dblM_cons, List.length_append, List.length_cons]
    have h : 1 ≤ (dblC c).length := by unfold dblC; split <;> simp
    omega
theorem text_le (t : Tok) : t.text.length ≤ (spell t).length := by
  unfold spell
  split
  · have := dblM_ge t.text
    simp only [List.length_append, List.length_cons, List.length_nil]
    omega
  · exact Nat.le_refl _
theorem joinT_take (l : List Tok) (x : Nat) : (joinT (l.take x)).length ≤ (joinT l).length := by
  unfold joinT
  conv => rhs; rw [← List.take_append_drop x l, List.flatMap_append, List.length_append]
  omega
theorem joinT_succ {l : List Tok} {x : Nat} (h : x < l.length) : joinT (l.take (x + 1)) = joinT (l.take x) ++ spell (tokAt l x) ++ [32] := by
  unfold joinT tokAt
  rw [List.take_succ, List.getElem?_eq_getElem h, List.flatMap_append, List.getD_eq_getElem?_getD, List.getElem?_eq_getElem h]
  simp
theorem lex_again {s : Str} (hs : s.length ≤ 2000) (hf : (lexM s).2.1 = 0) : (joinT ((lexM s).1.take ((lexM s).1.length - 1))).length ≤ 4000 ∧ ∃ M, lexM (joinT ((lexM s).1.take ((lexM s).1.length - 1))) = (M, 0, 0) ∧ M.length = (lexM s).1.length ∧ ∀ i, i < (lexM s).1.length → (tokAt M i).kind = (tokAt (lexM s).1 i).kind ∧ (tokAt M i).text = (tokAt (lexM s).1 i).text := by
  obtain ⟨_, hok, hl⟩ := lexM_ok hf
  rw [hl]
  simp only
  have hT : ((itemsT s).map (·.1) ++ [(⟨0, [], s.length⟩ : Tok)]).take (((itemsT s).map (·.1) ++ [(⟨0, [], s.length⟩ : Tok)]).length - 1) = (itemsT s).map (·.1) := by
    rw [List.length_append, List.length_singleton, Nat.add_sub_cancel, List.take_left]
  rw [hT]
  have hG := itemsT_G s
  obtain ⟨h1, h2⟩ := lex_twice (s.length + 1) 0 s (by omega) (by rw [← hG]; exact hok)
  rw [← hG] at h1 h2
  refine ⟨by omega, ?_⟩
  obtain ⟨S, hS⟩ : ∃ S, joinT ((itemsT s).map (·.1)) = S := ⟨_, rfl⟩
  rw [hS] at h1 h2 ⊢
  have h3 := h2 (S.length + 1) 0 (by omega)
  rw [← itemsT_G] at h3
  have hlen : (itemsT S).length = (itemsT s).length := by have := congrArg List.length h3; simpa using this
  have hat : ∀ i (h : i < (itemsT s).length), sameT ((itemsT S)[i]'(by omega)) = sameT (itemsT s)[i] := fun i h => by
    have := congrArg (·[i]?) h3
    simp only [List.getElem?_map, List.getElem?_eq_getElem h, List.getElem?_eq_getElem (show i < (itemsT S).length by omega), Option.map_some] at this
    exact Option.some.inj this
  refine ⟨_, lexM_of (by omega) (fun it hit => ?_), by simp [hlen], fun i hi => ?_⟩
  · obtain ⟨i, hi, rfl⟩ := List.mem_iff_getElem.1 hit
    have := congrArg (·.2.2) (hat i (by omega))
    have e : ((itemsT S)[i]).2 = ((itemsT s)[i]'(by omega)).2 := this
    rw [e]
    exact hok _ (List.getElem_mem _)
  · simp only [List.length_append, List.length_map, List.length_singleton] at hi
    unfold tokAt
    rw [List.getD_eq_getElem?_getD, List.getD_eq_getElem?_getD]
    rcases Nat.lt_or_ge i (itemsT s).length with hlt | hge
    · rw [List.getElem?_append_left (by simp; omega), List.getElem?_append_left (by simpa using hlt), List.getElem?_map, List.getElem?_map, List.getElem?_eq_getElem hlt, List.getElem?_eq_getElem (show i < (itemsT S).length by omega)]
      have := hat i hlt
      exact ⟨congrArg (·.1) this, congrArg (·.2.1) this⟩
    · have e : i = (itemsT s).length := by omega
      subst e
      rw [List.getElem?_append_right (by simp [hlen]), List.getElem?_append_right (by simp)]
      simp [hlen]
theorem lex_bad {s : Str} (h : (lexM s).2.1 ≠ 0) : (lexM s).1 = [] := by
  unfold lexM at h ⊢
  split
  · rfl
  · rename_i hl
    rw [if_neg hl] at h
    split
    · rfl
    · rename_i hf
      rw [hf] at h
      exact absurd rfl h
theorem c5 (src : Str) (Hp : List AObj) : AFun Tryz.prog 5 [strA src] Hp (boolA true) := by
  refine ACall.body [.tmp 2] [0] Tryz.func5 Tryz.ntmps5 (fun d => ?_)
  refine AW.seqR ?_
  refine R.assign ?_
  refine R.fin [0] ?_
  refine W.seq ?_
  refine AW.seqR ?_
  refine R.call Tryz.call13 (c13 _) ?_
  refine R.not ?_
  refine R.fin [0, 12] ?_
  refine W.cond (fun ht12 => ?_) (fun ht12 => ?_)
  · skip
    cases ht12
  · skip
    refine AW.skip ?_
    refine K.thN ?_
    refine W.seq ?_
    refine AW.seqR ?_
    refine R.move ?_
    refine R.slen Tryz.underlying9 ?_
    refine R.gtr ?_
    refine R.fin [0, 15] ?_
    refine W.cond (fun ht15 => ?_) (fun ht15 => ?_)
    · skip
      refine AW.seqR ?_
      refine R.assign ?_
      refine R.fin [2] ?_
      refine AW.ret ?_
      refine K.thR ?_
      exact K.fin (V.one V.tmp) ⟨by first | rfl | (rw [hbad]; rfl), rfl⟩
    · skip
      have hls : src.length ≤ 2000 := by simp at ht15; omega
      refine AW.skip ?_
      refine K.thN ?_
      refine AW.seqR ?_
      refine R.move ?_
      refine R.call Tryz.call15 (c15 src (by omega) _) ?_
      refine R.move ?_
      refine R.extract ?_
      refine R.extract ?_
      refine R.alloc Tryz.zeroValue27 ?_
      refine R.assign ?_
      refine R.storeOwn Tryz.sizeOf27 ?_
      refine R.fin [3, 4] ?_
      refine W.seq ?_
      refine AW.seqR ?_
      refine R.fieldAddrPtr (fo := 0) Tryz.underlying27 Tryz.sizeOf25 ?_
      refine R.loadOwn Tryz.isAgg25 ?_
      refine R.neq ?_
      refine R.fin [3, 23] ?_
      refine W.cond (fun ht23 => ?_) (fun ht23 => ?_)
      · skip
        have hbad := lex_bad (s := src) (by simpa using ht23)
        refine AW.seqR ?_
        refine R.move ?_
        refine R.len Tryz.underlying24 ?_
        refine R.eql ?_
        refine R.assign ?_
        refine R.fin [2] ?_
        refine AW.ret ?_
        refine K.thR ?_
        exact K.fin (V.one V.tmp) ⟨by first | rfl | (rw [hbad]; rfl), rfl⟩
      · skip
        have hf0 : (lexM src).2.1 = 0 := by simpa using ht23
        have hLm : (List.map tokA (lexM src).1).length = (lexM src).1.length := List.length_map _
        have hLl := lexM_len hf0
        obtain ⟨hj4, M, hM, hMl, hMt⟩ := lex_again hls hf0
        refine AW.skip ?_
        refine K.thN ?_
        refine AW.seqR ?_
        refine R.assign ?_
        refine R.fin [3, 5] ?_
        refine W.seq ?_
        refine AW.seqR ?_
        refine R.assign ?_
        refine R.fin [3, 5, 6] ?_
        refine AW.loopC (α := Nat) (fun x => ⟨97, setF 3 (toksA (lexM src).1) (setF 5 (strA (joinT ((lexM src).1.take x))) (setF 6 (intA (x : Nat)) (fun _ => .any))), Hp, [AObj.cells 27 [intA (lexM src).2.1, intA (lexM src).2.2]], [], none⟩) (fun x => x ≤ (lexM src).1.length - 1) (fun x => (lexM src).1.length - x) (0) (Nat.zero_le _) (StLe.refl _) rfl (fun x hx => ?_)
        refine W.seq ?_
        refine AW.seqR ?_
        refine R.move ?_
        refine R.move ?_
        refine R.len Tryz.underlying24 ?_
        refine R.sub64 ?_
        refine R.lss ?_
        refine R.fin [3, 5, 6, 31] ?_
        refine W.cond (fun ht31 => ?_) (fun ht31 => ?_)
        · skip
          have hxl : x < (lexM src).1.length := by simp at ht31; omega
          have hx1 : x + 1 ≤ (lexM src).1.length - 1 := by simp at ht31; omega
          have hjs := joinT_succ hxl
          have hj5 : (joinT ((lexM src).1.take (x + 1))).length ≤ 4000 := by
            have e : (lexM src).1.take (x + 1) = ((lexM src).1.take ((lexM src).1.length - 1)).take (x + 1) := by rw [List.take_take, Nat.min_eq_left hx1]
            rw [e]
            exact Nat.le_trans (joinT_take _ _) hj4
          rw [hjs, List.length_append, List.length_append] at hj5
          have htx : (tokAt (lexM src).1 x).text.length ≤ 1048576 := by have := text_le (tokAt (lexM src).1 x); omega
          have htl := text_le (tokAt (lexM src).1 x)
          refine AW.skip ?_
          refine K.thN ?_
          refine W.seq ?_
          refine AW.block ?_
          refine AW.seqR ?_
          refine R.move ?_
          refine R.move ?_
          refine R.indexAddr (x) (tokA (tokAt (lexM src).1 x)) Tryz.underlying24 Tryz.sizeOf31 (getTok hxl) ?_
          refine R.fieldAddrRo (off := 1) Tryz.underlying31 Tryz.sizeOf9 ?_
          refine R.loadRo Tryz.isAgg9 ?_
          refine R.assign ?_
          refine R.fin [3, 5, 6, 7] ?_
          refine W.seq ?_
          refine AW.seqR ?_
          refine R.move ?_
          refine R.move ?_
          refine R.indexAddr (x) (tokA (tokAt (lexM src).1 x)) Tryz.underlying24 Tryz.sizeOf31 (getTok hxl) ?_
          refine R.fieldAddrRo (off := 0) Tryz.underlying31 Tryz.sizeOf3 ?_
          refine R.loadRo Tryz.isAgg3 ?_
          refine R.eql ?_
          refine R.fin [3, 5, 6, 7, 44] ?_
          refine W.cond (fun ht44 => ?_) (fun ht44 => ?_)
          · skip
            have hk4 : (tokAt (lexM src).1 x).kind = 4 := by simpa using ht44
            have hsp : spell (tokAt (lexM src).1 x) = [39] ++ dblM (tokAt (lexM src).1 x).text ++ [39] := by unfold spell; rw [if_pos hk4]
            rw [hsp] at hjs hj5
            simp only [List.length_append, List.length_cons, List.length_nil] at hj5
            refine AW.region ?_
            refine R.move ?_
            refine R.build (places := #[(0, 1), (1, 1), (2, 1)]) Tryz.underlying36 (fun w => by simp) Tryz.zeroValue36 ?_
            refine R.call Tryz.call19 (c19 (tokAt (lexM src).1 x).text htx _) ?_
            refine R.assign ?_
            refine R.fin [3, 5, 6, 7] ?_
            refine K.thN ?_
            refine AW.region ?_
            refine R.move ?_
            refine R.move ?_
            refine R.sadd (hl := by first | (simp only [List.length_append, List.length_cons, List.length_nil]; omega) | omega) ?_
            refine R.sadd ?_
            refine R.assign ?_
            refine R.fin [3, 5, 6] ?_
            refine K.blN ?_
            refine K.thN ?_
            refine AW.region ?_
            refine R.move ?_
            refine R.add64 ?_
            refine R.assign ?_
            refine R.fin [3, 5, 6] ?_
            exact K.lpN (x + 1) hx1 (by omega) (StCut.of_eq (by rw [hjs]; rfl))
          · skip
            have hk4 : (tokAt (lexM src).1 x).kind ≠ 4 := by simpa using ht44
            have hsp : spell (tokAt (lexM src).1 x) = (tokAt (lexM src).1 x).text := by unfold spell; rw [if_neg hk4]
            rw [hsp] at hjs hj5
            refine AW.skip ?_
            refine K.thN ?_
            refine AW.region ?_
            refine R.move ?_
            refine R.move ?_
            refine R.sadd (hl := by first | (simp only [List.length_append, List.length_cons, List.length_nil]; omega) | omega) ?_
            refine R.sadd ?_
            refine R.assign ?_
            refine R.fin [3, 5, 6] ?_
            refine K.blN ?_
            refine K.thN ?_
            refine AW.region ?_
            refine R.move ?_
            refine R.add64 ?_
            refine R.assign ?_
            refine R.fin [3, 5, 6] ?_
            exact K.lpN (x + 1) hx1 (by omega) (StCut.of_eq (by rw [hjs]; rfl))
        · skip
          have hxe : x = (lexM src).1.length - 1 := by simp at ht31; omega
          have hcall : ∀ Hp, AFun Tryz.prog 15 [strA (joinT ((lexM src).1.take x))] Hp (.tup [toksA M, .agg [intA 0, intA 0]]) := fun Hp => by
            have := c15 (joinT ((lexM src).1.take ((lexM src).1.length - 1))) (by omega) Hp
            rw [hM] at this
            rw [hxe]
            exact this
          refine AW.exit ?_
          refine K.thE ?_
          refine K.lpE ?_
          refine K.thN ?_
          refine AW.seqR ?_
          refine R.move ?_
          refine R.call Tryz.call15 (hcall _) ?_
          refine R.move ?_
          refine R.extract ?_
          refine R.extract ?_
          refine R.alloc Tryz.zeroValue27 ?_
          refine R.assign ?_
          refine R.storeOwn Tryz.sizeOf27 ?_
          refine R.fin [3, 8, 9] ?_
          refine W.seq ?_
          refine AW.seqR ?_
          refine R.fieldAddrPtr (fo := 0) Tryz.underlying27 Tryz.sizeOf25 ?_
          refine R.loadOwn Tryz.isAgg25 ?_
          refine R.neq ?_
          refine R.move ?_
          refine G.move ?_
          refine G.len Tryz.underlying24 ?_
          refine G.move ?_
          refine G.len Tryz.underlying24 ?_
          refine G.neq ?_
          refine R.pickOr ?_
          refine R.fin [3, 8, 66] ?_
          refine W.cond (fun ht66 => ?_) (fun ht66 => ?_)
          · skip
            exact absurd ht66 (by simp [hMl])
          · skip
            refine AW.skip ?_
            refine K.thN ?_
            refine W.seq ?_
            refine AW.seqR ?_
            refine R.assign ?_
            refine R.fin [3, 8, 10] ?_
            refine AW.loopC (α := Nat) (fun x => ⟨97, setF 3 (toksA (lexM src).1) (setF 8 (toksA M) (setF 10 (intA (x : Nat)) (fun _ => .any))), Hp, [AObj.cells 27 [intA (lexM src).2.1, intA (lexM src).2.2], AObj.cells 27 [intA 0, intA 0]], [], none⟩) (fun x => x ≤ (lexM src).1.length) (fun x => (lexM src).1.length - x) (0) (Nat.zero_le _) (StLe.refl _) rfl (fun x hx => ?_)
            refine W.seq ?_
            refine AW.seqR ?_
            refine R.move ?_
            refine R.move ?_
            refine R.len Tryz.underlying24 ?_
            refine R.lss ?_
            refine R.fin [3, 8, 10, 70] ?_
            refine W.cond (fun ht70 => ?_) (fun ht70 => ?_)
            · skip
              have hxl : x < (lexM src).1.length := by simp at ht70; omega
              have hxm : x < M.length := by omega
              obtain ⟨hmk, hmt⟩ := hMt x hxl
              refine AW.skip ?_
              refine K.thN ?_
              refine W.seq ?_
              refine AW.block ?_
              refine W.draw [0, 0, 3, 7, 15, 0, 0, 96, 224, 480, 1023, 2047, 4095, 4095, 16383, 32767, 65535, 4095, 4095, 397311, 921599, 1970175, 4194303, 8388607] 22 Tryzmixed (by kernel_rfl) ?_
              refine D.move ?_
              refine D.move ?_
              refine D.indexAddr (x) (tokA (tokAt M x)) Tryz.underlying24 Tryz.sizeOf31 (getTok hxm) ?_
              refine D.fieldAddrRo (off := 0) Tryz.underlying31 Tryz.sizeOf3 ?_
              refine D.loadRo Tryz.isAgg3 ?_
              refine D.move ?_
              refine D.move ?_
              refine D.indexAddr (x) (tokA (tokAt (lexM src).1 x)) Tryz.underlying24 Tryz.sizeOf31 (getTok hxl) ?_
              refine D.fieldAddrRo (off := 0) Tryz.underlying31 Tryz.sizeOf3 ?_
              refine D.loadRo Tryz.isAgg3 ?_
              refine D.neq ?_
              refine D.move ?_
              refine H.move ?_
              refine H.move ?_
              refine H.indexAddr (x) (tokA (tokAt M x)) Tryz.underlying24 Tryz.sizeOf31 (fun _ => getTok hxm) ?_
              refine H.fieldAddrRo (off := 1) Tryz.underlying31 Tryz.sizeOf9 ?_
              refine H.loadRo Tryz.isAgg9 ?_
              refine H.move ?_
              refine H.move ?_
              refine H.indexAddr (x) (tokA (tokAt (lexM src).1 x)) Tryz.underlying24 Tryz.sizeOf31 (fun _ => getTok hxl) ?_
              refine H.fieldAddrRo (off := 1) Tryz.underlying31 Tryz.sizeOf9 ?_
              refine H.loadRo Tryz.isAgg9 ?_
              refine D.tail ?_
              refine G.sneq ?_
              refine R.pickOr ?_
              refine R.fin [3, 8, 10, 96] ?_
              refine W.cond (fun ht96 => ?_) (fun ht96 => ?_)
              · skip
                exact absurd ht96 (by rw [hmk, hmt]; simp)
              · skip
                refine AW.skip ?_
                refine K.blN ?_
                refine K.thN ?_
                refine AW.region ?_
                refine R.move ?_
                refine R.add64 ?_
                refine R.assign ?_
                refine R.fin [3, 8, 10] ?_
                exact K.lpN (x + 1) hxl (by omega) (StCut.of_eq rfl)
            · skip
              refine AW.exit ?_
              refine K.thE ?_
              refine K.lpE ?_
              refine K.thN ?_
              refine AW.seqR ?_
              refine R.assign ?_
              refine R.fin [2] ?_
              refine AW.ret ?_
              exact K.fin (V.one V.tmp) ⟨by first | rfl | (rw [hbad]; rfl), rfl⟩

end Go.SX.Nb
namespace Go.Proofs.YtefgfjedonchdaaGreatDoor
open Go Go.SX Go.SX.Nb Go.ChangeShapes Go.RowKit
set_option maxRecDepth 100000
theorem plain : PlainT Tryz.prog (· ∈ [9]) := ⟨fun t ht => by
  simp only [List.mem_cons, List.mem_nil_iff, or_false] at ht
  subst ht
  exact .inl ⟨by kernel_rfl, .inr (.inr (.inl Tryz.underlying9))⟩⟩

theorem main {H : Type} [ErrAt] (ds : List (DataW H)) (ys : List AV) (h : DReps Tryz.prog Tryz.f5.params.toList ds ys) : AFun Tryz.prog 5 ys [] (boolA true) := by
  rw [Tryz.params5] at h
  obtain ⟨d0, ds, y0, ys, rfl, rfl, h0, h⟩ := h.cons'
  obtain ⟨rfl, rfl⟩ := h.nil'
  obtain ⟨s, rfl, rfl⟩ := h0.str' Tryz.underlying9
  exact c5 s []
theorem laid_met (os : Os) : laidMet Tryz.prog Rows.lexTwiceRow.laid ((World.laidAll Tryz.prog os Rows.lexTwiceRow.laid).forCall (fun _ _ => 0) ⟨#[], #[.string ⟨#[]⟩], []⟩).memory :=
  laidMet_laidAll _ (by kernel_rfl) (by kernel_rfl)
theorem reads (os : Os) {H : Type} (enc : TypeId × Value → H) : DataW.whole enc Tryz.prog ((World.laidAll Tryz.prog os Rows.lexTwiceRow.laid).forCall (fun _ _ => 0) ⟨#[], #[.string ⟨#[]⟩], []⟩).memory Tryz.f5.params.toList Rows.lexTwiceSpec.vars false
    #[.string ⟨#[]⟩].toList 8 = some ([.lit (.string [])], [], []) := by kernel_rfl
theorem witness (os : Os) {H : Type} (enc : TypeId × Value → H) : ∃ (w : World) (tape : Tape) (i : Input), w.os = os ∧ (w.forCall tape i).Shaped Tryz.prog ∧ i.vars = [] ∧ Input.okWide Tryz.prog (w.forCall tape i) .any w.heap.size 5 i ∧
      (OpenSpec.ofChange Rows.lexTwiceSpec).preRow enc Tryz.prog Tryz.f5 Rows.lexTwiceRow.domain false Rows.lexTwiceRow.laid (w.forCall tape i).memory i.args ∧ ({ modest := false } : Assume).holds Tryz.prog (lone (Frame.enter Tryz.prog 5 i.args .normal) [] (w.forCall tape i)) := by
  refine ⟨World.laidAll Tryz.prog os Rows.lexTwiceRow.laid, fun _ _ => 0, ⟨#[], #[.string ⟨#[]⟩], []⟩, World.laidAll_os _ _ _, World.shaped_of_ZipB (by kernel_rfl) (by kernel_rfl), rfl, (Input.okWide_of_okWideB (by kernel_rfl)).2,
    OpenSpec.preRow_of_cond 8 (reads os enc) (by kernel_rfl) (fun k hk => by cases hk) (by kernel_rfl) ?_, ?_⟩
  · rw [MakeChecks.laidMetH_plain _ _ _ (by kernel_rfl)]
    exact laid_met os
  · simp only [Assume.holds]
    exact ⟨by simp, by simp, fun h => (by cases h), by simp, by simp⟩
theorem lifted (os : Os) (started : os.Started) (H : Type) (enc : TypeId × Value → H) (F : Stop.Interp) :
    ReturnsInHanded {} Tryz.checked os 5 .any ((OpenSpec.ofChange Rows.lexTwiceSpec).preRow enc Tryz.prog Tryz.f5 Rows.lexTwiceRow.domain false Rows.lexTwiceRow.laid) (((OpenSpec.ofChange Rows.lexTwiceSpec).at F).post enc Tryz.prog Tryz.f5 false true false false) := by
  refine returnsInHanded_of_row (C := Tryz.checked) (s := (OpenSpec.ofChange Rows.lexTwiceSpec)) own started (by kernel_rfl) Tryz.func5 (witness os enc) ?_
  intro W base args ds gs before hval hW _ hcond _ hL hsh _
  rw [MakeChecks.laidMetH_plain _ _ _ (by kernel_rfl)] at hL
  obtain ⟨b, hbv⟩ := err_var hL
  letI E : ErrAt := ⟨b⟩
  have hgs : gs = [] := by
    obtain ⟨p, q, _, hV, _⟩ := hW
    exact (trodVars_none hV).1
  subst hgs
  refine card_true (fn := Tryz.f5) (tb := 4) kids full plain (fun t ht => ?_) Tryz.underlying4 (by kernel_rfl) rfl (fun ds hd => ?_) hval hW (glob hsh hL hbv) (fun ys hy => main ds ys hy)
  · rw [Tryz.params5] at ht
    refine ⟨?_, ?_⟩
    · have : ∀ t ∈ [9], t ∈ [9] := by decide
      exact this t ht
    · have : ([9].all fun t => decide (t < Tryz.prog.types.size)) = true := by kernel_rfl
      exact of_decide_eq_true (List.all_eq_true.1 this t ht)
  · have e : Tryz.f5.params.size = 1 := by rw [Tryz.params5]; rfl
    rw [e] at hd
    match ds, hd with
    | [_], _ => rfl
theorem fact_name : Tryz.pinned.checked.prog.funcNamed Rows.lexTwiceRow.func = some 5 := by kernel_rfl
theorem fact_cells : joinedFacts Tryz.pinned.checked.prog 5 Tryz.f5 (OpenSpec.ofChange Rows.lexTwiceSpec).bare Rows.lexTwiceRow = true := by kernel_rfl
theorem fact_inst : Tryz.f5.isInstance Tryz.pinned.checked.prog Rows.lexTwiceRow.origin Rows.lexTwiceRow.targs := of_decide_eq_true (by kernel_rfl)
theorem fact_wrap : Tryz.f5.isWrapper Tryz.pinned.checked.prog Rows.lexTwiceRow.wrapper Rows.lexTwiceRow.mainSum := by
  unfold Func.isWrapper
  first | (rw [if_pos (by decide +kernel)]; kernel_rfl) | (rw [if_neg (by decide +kernel)]; exact ⟨rfl, rfl⟩)
theorem said : Rows.LexTwiceSaid :=
  OpenClaim.holds_of_cond 5 Tryz.f5 rfl rfl rfl rfl rfl rfl rfl ⟨rfl, rfl, rfl, rfl, rfl⟩ rfl rfl rfl rfl rfl fact_name Tryz.func5 fact_cells
    fact_inst fact_wrap
    (fun os started H enc _ F => by rw [OpenClaim.pre_eq_preRow]; exact lifted os started H enc F)
theorem noStand (f : FuncId) (fn : Func) (hf : Tryz.pinned.checked.prog.funcNamed "needlebeam/needlebeamlaw12.LexTwice" = some f) (hfn : Tryz.pinned.checked.prog.funcs[f]? = some fn) :
    true = Tryz.pinned.checked.prog.looks [] ∧ ∀ (j : Nat) t, fn.params[j]? = some t → Tryz.pinned.checked.prog.wantsStandIn t = false := by
  obtain rfl : f = 5 := Option.some.inj ((show Tryz.prog.funcNamed "needlebeam/needlebeamlaw12.LexTwice" = some 5 by kernel_rfl).symm.trans hf) |>.symm
  obtain rfl : fn = Tryz.f5 := (Option.some.inj (Tryz.func5.symm.trans hfn)).symm
  refine ⟨by kernel_rfl, fun j t ht => ?_⟩
  rw [Tryz.params5] at ht
  have hm : t ∈ [9] := by simpa using Array.mem_of_getElem? ht
  have hall : ([9].all fun u => !Tryz.prog.wantsStandIn u) = true := by kernel_rfl
  exact (show Tryz.prog.wantsStandIn t = false by simpa using List.all_eq_true.1 hall t hm)
theorem lex_twice_card : Rows.LexTwiceCardSaid :=
  Claim7.holds_tied_plain_at .later [] _ _ _ _ said (fun _ h => by cases h) (by kernel_rfl) (fun _ h => by cases h) lexTwice_row_tie rfl ⟨rfl, rfl⟩ (by kernel_rfl) rfl noStand (by kernel_rfl)
end Go.Proofs.YtefgfjedonchdaaGreatDoor
