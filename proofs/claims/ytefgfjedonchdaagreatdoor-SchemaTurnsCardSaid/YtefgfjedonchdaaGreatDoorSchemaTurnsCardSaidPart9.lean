/- Texts on the way to this: SchemaTurns answers true for whatever can be read: the card of the law. (part 9) -/
import Derived.Test.YtefgfjedonchdaaGreatDoorSchemaTurnsCardSaidPart8
set_option linter.all false
namespace Go.SX.Nb
open Go Go.SX Go.Proofs
variable [ErrAt]
set_option maxRecDepth 4000
def dblC (c : UInt8) : Str := if c = 39 then [39, 39] else [c]
def dblM (t : Str) : Str := t.flatMap dblC
theorem dblM_len : ∀ t : Str, (dblM t).length ≤ 2 * t.length
  | [] => Nat.le_refl _
  | c :: r => by
    have := dblM_len r
    unfold dblM at this ⊢
    rw [List.flatMap_cons, List.length_append, List.length_cons]
    have h : (dblC c).length ≤ 2 := by unfold dblC; split <;> simp
    omega
theorem dblM_succ {t : Str} {x : Nat} (h : x < t.length) : dblM (t.take (x + 1)) = dblM (t.take x) ++ dblC t[x] := by
  unfold dblM
  rw [List.take_succ, List.getElem?_eq_getElem h, List.flatMap_append]
  simp
abbrev bytesA (l : Str) : AV := .slice true 1 (l.map u8A)
theorem hlb {t : Str} (ht : t.length ≤ 1048576) (x : Nat) : (dblM (t.take x)).length ≤ 2097152 := by
  have := dblM_len (t.take x)
  have h2 : (t.take x).length ≤ t.length := by rw [List.length_take]; omega
  omega
theorem c19 (t : Str) (ht : t.length ≤ 1048576) (Hp : List AObj) : AFun Tryz.prog 19 [valA ⟨2, 0, t⟩] Hp (strA ([39] ++ dblM t ++ [39])) := by
  refine ACall.body [.tmp 2] [0] Tryz.func19 Tryz.ntmps19 (fun d => ?_)
  refine AW.seqR ?_
  refine R.boxRo ?_
  refine R.assign ?_
  refine R.fin [1] ?_
  refine W.seq ?_
  refine AW.seqR ?_
  refine R.fieldAddrRo (off := 0) Tryz.underlying36 Tryz.sizeOf3 ?_
  refine R.loadRo Tryz.isAgg3 ?_
  refine R.fin [1, 6] ?_
  refine AW.block ?_
  refine AW.seqR ?_
  refine R.eql ?_
  refine R.assign ?_
  refine R.fin [1, 6, 7] ?_
  refine W.cond (fun ht7 => ?_) (fun ht7 => ?_)
  · skip
    exact absurd ht7 (by decide)
  · skip
    refine AW.seqR ?_
    refine R.eql ?_
    refine R.assign ?_
    refine R.fin [1, 6, 9] ?_
    refine W.cond (fun ht9 => ?_) (fun ht9 => ?_)
    · skip
      exact absurd ht9 (by decide)
    · skip
      refine AW.seqR ?_
      refine R.eql ?_
      refine R.assign ?_
      refine R.fin [1, 14] ?_
      refine W.cond (fun ht14 => ?_) (fun ht14 => ?_)
      · skip
        exact absurd ht14 (by decide)
      · skip
        refine AW.skip ?_
        refine K.blN ?_
        refine K.thN ?_
        refine AW.seqR ?_
        refine R.buildSlice Tryz.underlying95 Tryz.sizeOf5 Tryz.zeroValue5 ?_
        refine R.assignT ?_
        refine R.fin [1, 3] ?_
        refine W.seq ?_
        refine AW.seqR ?_
        refine R.assign ?_
        refine R.fin [1, 3, 4] ?_
        refine AW.loopC (α := Nat) (fun x => ⟨46, setF 1 (.ro [.v (.int .i64 2), .v (.int .i64 0), .v (sv t)]) (setF 3 (bytesA ([39] ++ dblM (t.take x))) (setF 4 (intA (x : Nat)) (fun _ => .any))), Hp, [], [], none⟩) (fun x => x ≤ t.length) (fun x => t.length - x) (0) (Nat.zero_le _) (StLe.refl _) rfl (fun x hx => ?_)
        refine W.seq ?_
        refine AW.seqR ?_
        refine R.move ?_
        refine R.fieldAddrRo (off := 2) Tryz.underlying36 Tryz.sizeOf9 ?_
        refine R.loadRo Tryz.isAgg9 ?_
        refine R.slen Tryz.underlying9 ?_
        refine R.lss ?_
        refine R.fin [1, 3, 4, 24] ?_
        refine W.cond (fun ht24 => ?_) (fun ht24 => ?_)
        · skip
          have hxl : x < t.length := by simp at ht24; omega
          have hb0 := hlb ht x
          refine AW.skip ?_
          refine K.thN ?_
          refine W.seq ?_
          refine AW.block ?_
          refine W.seq ?_
          refine AW.seqR ?_
          refine R.fieldAddrRo (off := 2) Tryz.underlying36 Tryz.sizeOf9 ?_
          refine R.loadRo Tryz.isAgg9 ?_
          refine R.move ?_
          refine R.sindex x t[x] Tryz.underlying9 (List.getElem?_eq_getElem hxl) ?_
          refine R.eql ?_
          refine R.fin [1, 3, 4, 31] ?_
          refine W.cond (fun ht31 => ?_) (fun ht31 => ?_)
          · skip
            have hc : t[x] = 39 := by
              have h31 : ((t[x].toNat : Int) == 39) = true := ht31
              exact UInt8.toNat_inj.1 (by have : (39 : UInt8).toNat = 39 := rfl; simp at h31; omega)
            refine AW.region ?_
            refine R.moveT ?_
            refine R.buildSlice Tryz.underlying95 Tryz.sizeOf5 Tryz.zeroValue5 ?_
            refine R.append Tryz.underlying95 Tryz.type5 ?_ ?_ ?_
            · simp [Tryz.t5] <;> omega
            · simp [Tryz.t5] <;> omega
            refine R.assignT ?_
            refine R.fin [1, 3, 4] ?_
            refine K.thN ?_
            refine AW.region ?_
            refine R.moveT ?_
            refine R.fieldAddrRo (off := 2) Tryz.underlying36 Tryz.sizeOf9 ?_
            refine R.loadRo Tryz.isAgg9 ?_
            refine R.move ?_
            refine R.sindex x t[x] Tryz.underlying9 (List.getElem?_eq_getElem hxl) ?_
            refine R.buildSlice Tryz.underlying95 Tryz.sizeOf5 Tryz.zeroValue5 ?_
            refine R.append Tryz.underlying95 Tryz.type5 ?_ ?_ ?_
            · simp [Tryz.t5] <;> omega
            · simp [Tryz.t5] <;> omega
            refine R.assignT ?_
            refine R.fin [1, 3, 4] ?_
            refine K.blN ?_
            refine K.thN ?_
            refine AW.region ?_
            refine R.move ?_
            refine R.add64 ?_
            refine R.assign ?_
            refine R.fin [1, 3, 4] ?_
            exact K.lpN (x + 1) hxl (by omega) (StCut.of_eq (by
              rw [dblM_succ hxl, dblC]
              first | rw [if_pos hc] | rw [if_neg hc]
              simp only [bytesA, List.map_append, List.map_cons, List.map_nil, List.append_assoc, List.cons_append, List.nil_append]
              try rw [hc]
              rfl))
          · skip
            have hc : t[x] ≠ 39 := fun e => by
              rw [e] at ht31
              exact absurd ht31 (by decide)
            refine AW.skip ?_
            refine K.thN ?_
            refine AW.region ?_
            refine R.moveT ?_
            refine R.fieldAddrRo (off := 2) Tryz.underlying36 Tryz.sizeOf9 ?_
            refine R.loadRo Tryz.isAgg9 ?_
            refine R.move ?_
            refine R.sindex x t[x] Tryz.underlying9 (List.getElem?_eq_getElem hxl) ?_
            refine R.buildSlice Tryz.underlying95 Tryz.sizeOf5 Tryz.zeroValue5 ?_
            refine R.append Tryz.underlying95 Tryz.type5 ?_ ?_ ?_
            · simp [Tryz.t5] <;> omega
            · simp [Tryz.t5] <;> omega
            refine R.assignT ?_
            refine R.fin [1, 3, 4] ?_
            refine K.blN ?_
            refine K.thN ?_
            refine AW.region ?_
            refine R.move ?_
            refine R.add64 ?_
            refine R.assign ?_
            refine R.fin [1, 3, 4] ?_
            exact K.lpN (x + 1) hxl (by omega) (StCut.of_eq (by
              rw [dblM_succ hxl, dblC]
              first | rw [if_pos hc] | rw [if_neg hc]
              simp only [bytesA, List.map_append, List.map_cons, List.map_nil, List.append_assoc, List.cons_append, List.nil_append]
              try rw [hc]
              rfl))
        · skip
          have hxe : x = t.length := by simp at ht24; omega
          have hb0 := hlb ht x
          have hdt : dblM (t.take x) = dblM t := by rw [hxe, List.take_length]
          rw [hdt] at hb0 ⊢
          refine AW.exit ?_
          refine K.thE ?_
          refine K.lpE ?_
          refine K.thN ?_
          refine AW.seqR ?_
          refine R.moveT ?_
          refine R.buildSlice Tryz.underlying95 Tryz.sizeOf5 Tryz.zeroValue5 ?_
          refine R.append Tryz.underlying95 Tryz.type5 ?_ ?_ ?_
          · simp [Tryz.t5] <;> omega
          · simp [Tryz.t5] <;> omega
          refine R.bytesStr ([39] ++ dblM t ++ [39]) Tryz.underlying95 Tryz.underlying5 Tryz.underlying9 (hx := by simp only [go_sem, ↓reduceIte, Nat.reduceEqDiff, Nat.reduceAdd, List.map_append, List.map_cons, List.map_nil, List.cons_append, List.nil_append] <;> rfl) ?_
          refine R.assign ?_
          refine R.fin [2] ?_
          refine AW.ret ?_
          exact K.fin (V.one V.tmp)

end Go.SX.Nb
namespace Go.SX.Nb
open Go Go.SX Go.Proofs
variable [ErrAt]
set_option maxRecDepth 4000
theorem dblM_cons (c : UInt8) (r : Str) : dblM (c :: r) = dblC c ++ dblM r := by unfold dblM; rw [List.flatMap_cons]
theorem split39 : ∀ s : Str, (Lib.index s [39] = -1 ∧ dblM s = s) ∨ ∃ i : Nat, Lib.index s [39] = (i : Int) ∧ i < s.length ∧ dblM s = s.take i ++ [39, 39] ++ dblM (s.drop (i + 1))
  | [] => .inl ⟨rfl, rfl⟩
  | b :: l => by
    by_cases hb : b = 39
    · subst hb
      refine .inr ⟨0, by simp [Lib.index, List.isPrefixOf], by simp, ?_⟩
      rw [dblM_cons]
      simp [dblC]
    · have hp : ([39] : Str).isPrefixOf (b :: l) = false := by
        simp [List.isPrefixOf, Ne.symm hb]
      have hd : dblM (b :: l) = b :: dblM l := by
        rw [dblM_cons, dblC, if_neg hb]
        rfl
      rcases split39 l with ⟨h1, h2⟩ | ⟨i, h1, h2, h3⟩
      · refine .inl ⟨?_, by rw [hd, h2]⟩
        rw [Lib.index, hp, h1]; rfl
      · refine .inr ⟨i + 1, ?_, by simp; omega, ?_⟩
        · rw [Lib.index, hp, h1, if_neg (by simp), if_neg (by simp)]
          rfl
        · rw [hd, h3]
          simp
theorem replaceK_dbl : ∀ (n : Nat) (s : Str), s.length ≤ n → Lib.replaceK [39] [39, 39] (Lib.count s [39]) s = dblM s
  | n, s, hn => by
    rcases split39 s with ⟨h1, h2⟩ | ⟨i, h1, h2, h3⟩
    · rw [Lib.count_miss h1, h2]; rfl
    · cases n with
      | zero => omega
      | succ n =>
        rw [Lib.count_hit (by decide) h1, Nat.add_comm, Lib.replaceK_hit _ _ _ _ i h1]
        have e : i + ([39] : Str).length = i + 1 := rfl
        rw [e, replaceK_dbl n (s.drop (i + 1)) (by rw [List.length_drop]; omega), h3]
theorem replace_dbl (s : Str) : Lib.replaceAll s [39] [39, 39] = dblM s := by
  unfold Lib.replaceAll Lib.replace
  rw [if_neg (by decide)]
  have e : Lib.replaceNum s [39] (-1) = Lib.count s [39] := by unfold Lib.replaceNum; rw [if_pos (.inl (by decide))]
  rw [e]
  exact replaceK_dbl _ s (Nat.le_refl _)
def spell (t : Tok) : Str := if t.kind = 4 then [39] ++ dblM t.text ++ [39] else t.text
def joinT (l : List Tok) : Str := l.flatMap fun t => spell t ++ [32]
theorem joinT_cons (t : Tok) (l : List Tok) : joinT (t :: l) = spell t ++ 32 :: joinT l := by unfold joinT; rw [List.flatMap_cons]; simp
theorem text_spell {q : Str} (h0 : q.headD 0 = 39) (h1 : 1 ≤ q.length) (h : (readM q).2 = 0) : [39] ++ dblM (readM q).1.s ++ [39] = q := by
  cases q with
  | nil => simp at h1
  | cons c r =>
    have hc : c = 39 := h0
    subst hc
    unfold readM at h ⊢
    have n1 : ((39 :: r : Str) == [110, 117, 108, 108]) = false := by rw [beq_eq_false_iff_ne]; intro e; injection e with e; exact absurd e (by decide)
    have n2 : ((39 :: r : Str) == [116, 114, 117, 101]) = false := by rw [beq_eq_false_iff_ne]; intro e; injection e with e; exact absurd e (by decide)
    have n3 : ((39 :: r : Str) == [102, 97, 108, 115, 101]) = false := by rw [beq_eq_false_iff_ne]; intro e; injection e with e; exact absurd e (by decide)
    rw [n1, n2, n3] at h ⊢
    simp only [Bool.false_eq_true, if_false, Bool.or_self] at h ⊢
    by_cases hq : quotM (39 :: r) = true
    · rw [if_pos hq] at h ⊢
      unfold textR at h ⊢
      split at h
      · exact absurd h (show ¬ (7 : Int) = 0 by decide)
      · rename_i hp
        rw [if_neg hp]
        have hp' : printM (textV (39 :: r)) = 39 :: r := by simpa using hp
        have hk : (textV (39 :: r)).kind = 2 := rfl
        show [39] ++ dblM (textV (39 :: r)).s ++ [39] = 39 :: r
        generalize textV (39 :: r) = v at hp' hk
        have hne : printM v ≠ [] := by rw [hp']; simp
        rw [← hp']
        unfold printM at hne ⊢
        split at hne
        · exact absurd rfl hne
        · rename_i hpl
          rw [if_neg hpl, hk, if_neg (by decide), if_pos (by decide), replace_dbl]
    · rw [if_neg hq] at h
      have hd : numBad (39 :: r) = true := by
        unfold numBad
        have e : numDs (39 :: r) = 39 :: r := by
          rcases numDs_cases (39 :: r) with ⟨_, h4⟩ | ⟨r', h3, _⟩
          · exact h4
          · injection h3 with h3; exact absurd h3 (by decide)
        rw [e]
        have : (Lib.trimS (39 :: r) digs == []) = false := by
          rw [beq_eq_false_iff_ne]
          intro e
          rw [trimS_nil] at e
          exact absurd (e 39 (by simp)) (by decide)
        rw [this]
        simp
      have hn : numReadM (39 :: r) = (0, 6) := by unfold numReadM; rw [if_pos hd]
      rw [hn] at h
      simp at h
end Go.SX.Nb
namespace Go.SX.Nb
open Go Go.SX Go.Proofs
variable [ErrAt]
set_option maxRecDepth 4000
theorem take_len_take (s : Str) (m : Nat) : s.take (s.take m).length = s.take m := by
  rw [List.length_take]
  rcases Nat.le_total m s.length with h | h
  · rw [Nat.min_eq_left h]
  · rw [Nat.min_eq_right h, List.take_of_length_le (Nat.le_refl _), List.take_of_length_le h]
theorem wordOf_take (s of : Str) : s.take (wordOf s of).length = wordOf s of := by
  unfold wordOf
  exact take_len_take s _
/-- What a word's print spells is what was read. -/
theorem word_spell {s : Str} {n p : Nat} (h0 : 1 ≤ s.length) (he : (wordM s).2.2.2 = 0) (hn : (wordM s).2.2.1 = (n : Int)) : spell ⟨(wordM s).1, (wordM s).2.1, p⟩ = s.take n := by
  cases s with
  | nil => simp at h0
  | cons c r =>
    unfold wordM at he hn ⊢
    by_cases c1 : decide (0 < runM ((c :: r).take 1) letters) = true
    · rw [if_pos c1] at he hn
      simp only [if_pos c1]
      unfold namedM at he hn ⊢
      by_cases r1 : lexReservedM (wordOf (c :: r) tails) = true
      · rw [if_pos r1] at hn
        simp only [if_pos r1]
        have hn' : (((wordOf (c :: r) tails).length : Nat) : Int) = n := hn
        have e : n = (wordOf (c :: r) tails).length := by omega
        rw [e, wordOf_take]
        rfl
      · rw [if_neg r1] at he hn
        simp only [if_neg r1]
        by_cases r2 : (!lexNameM (wordOf (c :: r) tails)) = true
        · rw [if_pos r2] at he; exact absurd he (show ¬ (3 : Int) = 0 by decide)
        · rw [if_neg r2] at hn
          simp only [if_neg r2]
          have hn' : (((wordOf (c :: r) tails).length : Nat) : Int) = n := hn
          have e : n = (wordOf (c :: r) tails).length := by omega
          rw [e, wordOf_take]
          rfl
    · rw [if_neg c1] at he hn
      simp only [if_neg c1]
      by_cases c2 : decide (0 < runM ((c :: r).take 1) digs) = true
      · rw [if_pos c2] at he hn
        simp only [if_pos c2]
        have hn' : (((wordOf (c :: r) digs).length : Nat) : Int) = n := hn
        have e : n = (wordOf (c :: r) digs).length := by omega
        rw [e, wordOf_take]
        rfl
      · rw [if_neg c2] at he hn
        simp only [if_neg c2]
        by_cases c3 : (((((c :: r)).getD 0 0).toNat : Int) == 39) = true
        · rw [if_pos c3] at he hn
          simp only [if_pos c3]
          have hc : c = 39 := by
            have c3' : ((c.toNat : Int) == 39) = true := c3
            exact UInt8.toNat_inj.1 (by have : (39 : UInt8).toNat = 39 := rfl; simp at c3'; omega)
          unfold quotedM at he hn ⊢
          cases hq : closeQ ((c :: r).drop 1) with
          | none => rw [hq] at he; exact absurd he (show ¬ (7 : Int) = 0 by decide)
          | some m =>
            rw [hq] at he hn
            simp only at he hn ⊢
            split at he
            · exact absurd he (show ¬ (3 : Int) = 0 by decide)
            · rename_i hr
              rw [if_neg hr] at hn
              simp only [if_neg hr]
              have hm' : (((m + 1 : Nat)) : Int) = n := hn
              have hm : n = m + 1 := by omega
              subst hm
              have hr' : (readM ((c :: r).take (m + 1))).2 = 0 := by simpa using hr
              have := text_spell (q := (c :: r).take (m + 1)) (by rw [hc]; rfl) (by simp) hr'
              unfold spell
              rw [if_pos rfl]
              exact this
        · rw [if_neg c3] at he hn
          simp only [if_neg c3]
          unfold signM at he hn ⊢
          split at hn
          · rename_i h2
            simp only [if_pos h2]
            have hn' : (2 : Int) = n := hn
            have : n = 2 := by omega
            subst this
            rfl
          · rename_i h2
            rw [if_neg h2] at he
            simp only [if_neg h2]
            split at hn
            · rename_i h3
              simp only [if_pos h3]
              have hn' : (1 : Int) = n := hn
              have : n = 1 := by omega
              subst this
              rfl
            · rename_i h3
              rw [if_neg h3] at he
              exact absurd he (show ¬ (7 : Int) = 0 by decide)
theorem lexG_blank (f q : Nat) (J : Str) : lexG f q (32 :: J) = lexG f (q + 1) J := by
  have h : gapM (32 :: J) = gapM J + 1 := by
    have := skip_le J false
    unfold gapM
    rw [skipB, if_pos (by decide), List.length_cons]
    omega
  unfold lexG
  rw [h, List.drop_succ_cons, show q + (gapM J + 1) = q + 1 + gapM J by omega]
def sameT (it : Tok × Int) : Int × Str × Int := (it.1.kind, it.1.text, it.2)
theorem lex_twice : ∀ (f q : Nat) (s : Str), s.length < f → (∀ it ∈ lexG f q s, it.2 = 0) → (joinT ((lexG f q s).map (·.1))).length ≤ 2 * s.length ∧
    ∀ (f' q' : Nat), (joinT ((lexG f q s).map (·.1))).length < f' → (lexG f' q' (joinT ((lexG f q s).map (·.1)))).map sameT = (lexG f q s).map sameT
  | 0, q, s, h, _ => by omega
  | f + 1, q, s, hf, hok => by
    obtain ⟨g, hg⟩ : ∃ g, gapM s = g := ⟨_, rfl⟩
    have hgl := gap_le s
    have hL : lexG (f + 1) q s = itemsF (f + 1) (q + g) (s.drop g) := by unfold lexG; rw [hg]
    by_cases hne : s.drop g = []
    · rw [hL, hne]
      refine ⟨Nat.zero_le _, fun f' q' _ => ?_⟩
      show (lexG f' q' []).map sameT = []
      unfold lexG
      rw [List.drop_nil, itemsF_nil]
      rfl
    · obtain ⟨n, hst, hw⟩ := itemsF_step (f := f) (q := q + g) hne
      rw [hst] at hL
      rw [hL] at hok ⊢
      have h0 : (wordM (s.drop g)).2.2.2 = 0 := hok _ List.mem_cons_self
      obtain ⟨hn1, hn2, hn3⟩ := hw h0
      rw [List.length_drop] at hn3
      rw [if_pos h0] at hok ⊢
      have hsp : ∀ p, spell ⟨(wordM (s.drop g)).1, (wordM (s.drop g)).2.1, p⟩ = (s.drop g).take n := fun p => word_spell (by rw [List.length_drop]; omega) h0 hn1
      obtain ⟨ih1, ih2⟩ := lex_twice f (q + g + n) ((s.drop g).drop n) (by simp only [List.length_drop]; omega) (fun i hi => hok i (List.mem_cons_of_mem _ hi))
      rw [List.map_cons, joinT_cons, hsp]
      obtain ⟨R, hR⟩ : ∃ R, lexG f (q + g + n) ((s.drop g).drop n) = R := ⟨_, rfl⟩
      rw [hR] at ih1 ih2 ⊢
      obtain ⟨J, hJ⟩ : ∃ J, joinT (R.map (·.1)) = J := ⟨_, rfl⟩
      rw [hJ] at ih1 ih2 ⊢
      have hwl : ((s.drop g).take n).length = n := by rw [List.length_take, List.length_drop]; omega
      simp only [List.length_append, List.length_cons, hwl]
      simp only [List.length_drop] at ih1
      refine ⟨by omega, fun f' q' hf' => ?_⟩
      obtain ⟨f0, rfl⟩ : ∃ f0, f' = f0 + 1 := ⟨f' - 1, by omega⟩
      have hs0 : (s.drop g).take n ++ (s.drop g).drop n = s.drop g := List.take_append_drop _ _
      have hz : skipB (s.drop g) false = s.drop g := by
        have h1 : skipB (s.take g ++ s.drop g) false = s.drop g := by rw [List.take_append_drop, ← gap_drop, hg]
        exact (skip_stop hne (s.drop g) (s.take g) false h1).symm.trans h1
      have hg0 : gapM ((s.drop g).take n ++ (s.drop g).drop n) = 0 := by
        rw [hs0]
        unfold gapM
        rw [hz]
        omega
      have hg1 : gapM ((s.drop g).take n ++ 32 :: J) = 0 := gap_before _ hg0 (by rw [hwl]; omega)
      have hwe : wordM ((s.drop g).take n ++ 32 :: J) = wordM (s.drop g) := by
        have := word_pre (V := (s.drop g).take n) (B := (s.drop g).drop n) (n := n) J (by rw [hs0]; exact h0) (by rw [hs0]; exact hn1) hn2 (by rw [hwl]; omega)
        rw [this, hs0]
      have hne' : (s.drop g).take n ++ 32 :: J ≠ [] := by simp
      obtain ⟨n', hst', hw'⟩ := itemsF_step (f := f0) (q := q') hne'
      rw [hwe] at hst' hw'
      have hnn : n' = n := by
        have := (hw' h0).1
        rw [hn1] at this
        omega
      subst hnn
      have hL' : lexG (f0 + 1) q' ((s.drop g).take n' ++ 32 :: J) = itemsF (f0 + 1) q' ((s.drop g).take n' ++ 32 :: J) := by unfold lexG; rw [hg1]; rfl
      have hdr : ((s.drop g).take n' ++ 32 :: J).drop n' = 32 :: J := by
        have e := List.drop_left (l₁ := (s.drop g).take n') (l₂ := 32 :: J)
        rwa [hwl] at e
      rw [hL', hst', if_pos h0, hdr, lexG_blank, List.map_cons, List.map_cons, ih2 f0 _ (by omega)]
      rfl
end Go.SX.Nb
namespace Go.SX.Nb
open Go Go.SX Go.Proofs
variable [ErrAt]
set_option maxRecDepth 4000
/-! What is printed of columns, word by word. -/
theorem wordOf_stop {V R : Str} (h : V.all (tails.contains ·) = true) (hR : R = [] ∨ ∃ z Z, R = z :: Z ∧ tails.contains z = false) : wordOf (V ++ R) tails = V := by
  rw [wordOf_eq, List.takeWhile_append_of_pos (fun x hx => List.all_eq_true.1 h x hx)]
  rcases hR with rfl | ⟨z, Z, rfl, hz⟩
  · simp
  · rw [List.takeWhile_cons, hz]; simp
theorem run_letter {c : UInt8} (h : letters.contains c = true) : decide (0 < runM ([c] : Str) letters) = true := by
  have e : runM ([c] : Str) letters = 1 := by
    unfold runM Lib.trimLeftS
    rw [List.dropWhile_cons, h]
    rfl
  rw [e]; rfl
theorem word_behind {c : UInt8} {r R : Str} (hc : letters.contains c = true) (h : (c :: r).all (tails.contains ·) = true) (hR : R = [] ∨ ∃ z Z, R = z :: Z ∧ tails.contains z = false) : wordM ((c :: r) ++ R) = wordM (c :: r) := by
  unfold wordM
  have e1 : ((c :: r) ++ R).take 1 = [c] := rfl
  have e2 : (c :: r).take 1 = [c] := rfl
  rw [e1, e2, if_pos (run_letter hc), if_pos (run_letter hc)]
  unfold namedM
  have e3 : wordOf (c :: r) tails = c :: r := by simpa using wordOf_stop (R := []) h (.inl rfl)
  rw [wordOf_stop h hR, e3]
theorem name_chars {s : Str} (h : lexNameM s = true) : ∃ c r, s = c :: r ∧ letters.contains c = true ∧ s.all (tails.contains ·) = true := by
  unfold lexNameM at h
  simp only [Bool.and_eq_true, Bool.not_eq_true', beq_eq_false_iff_ne, decide_eq_true_eq] at h
  obtain ⟨⟨⟨⟨h1, h2⟩, h3⟩, h4⟩, h5⟩ := h
  cases s with
  | nil => exact absurd rfl h1
  | cons c r =>
    have hl : letters.contains c = true := by
      have e := run_all [c] letters
      have h4' : (runM [c] letters == (([c] : Str).length : Int)) = true := h4
      rw [e] at h4'
      simpa using h4'
    rw [run_all] at h3
    exact ⟨c, r, rfl, hl, h3⟩
theorem kind_cases {k : Int} (h1 : 1 ≤ k) (h3 : k ≤ 3) : k = 1 ∨ k = 2 ∨ k = 3 := by omega
theorem kind_chars {k : Int} (h1 : 1 ≤ k) (h3 : k ≤ 3) : ∃ c r, kindNameM k = c :: r ∧ letters.contains c = true ∧ (kindNameM k).all (tails.contains ·) = true ∧ wordM (kindNameM k) = (2, kindNameM k, ((kindNameM k).length : Int), 0) := by
  rcases kind_cases h1 h3 with rfl | rfl | rfl
  · exact ⟨105, [110, 116], by kernel_rfl, by kernel_rfl, by kernel_rfl, by kernel_rfl⟩
  · exact ⟨116, [101, 120, 116], by kernel_rfl, by kernel_rfl, by kernel_rfl, by kernel_rfl⟩
  · exact ⟨98, [111, 111, 108], by kernel_rfl, by kernel_rfl, by kernel_rfl, by kernel_rfl⟩
theorem items_word {f q n : Nat} {s t : Str} {k : Int} (hs : s ≠ []) (hw : wordM s = (k, t, (n : Int), 0)) : itemsF (f + 1) q s = (⟨k, t, q⟩, 0) :: lexG f (q + n) (s.drop n) := by
  obtain ⟨m, h1, h2⟩ := itemsF_step (f := f) (q := q) hs
  rw [hw] at h1 h2
  obtain ⟨hm, _⟩ := h2 rfl
  have : m = n := by simp only at hm; omega
  subst this
  simpa using h1
theorem gap_comma (r : Str) : gapM (44 :: r) = 0 := by
  unfold gapM
  rw [skipB, if_neg (by decide), if_neg (by decide)]
  omega
theorem word_comma (r : Str) : wordM (44 :: 32 :: r) = (5, [44], ((1 : Nat) : Int), 0) := by
  unfold wordM
  have e1 : ((44 : UInt8) :: 32 :: r).take 1 = [44] := rfl
  have e2 : ((44 : UInt8) :: 32 :: r).getD 0 0 = 44 := rfl
  rw [e1, e2, if_neg (by decide), if_neg (by decide), if_neg (by decide)]
  unfold signM
  have e3 : ((44 : UInt8) :: 32 :: r).getD 1 0 = 32 := rfl
  rw [e1, e3, if_neg (by simp), if_pos (by decide)]
  rfl
theorem lexG_at {f q : Nat} {s : Str} (h : gapM s = 0) : lexG f q s = itemsF f q s := by
  unfold lexG
  rw [h, Nat.add_zero, List.drop_zero]
structure ColOk (x : Col) : Prop where
  name : lexNameM x.name = true
  lo : 1 ≤ x.kind
  hi : x.kind ≤ 3
def schR : List Col → Str
  | [] => []
  | x :: r => 44 :: 32 :: (colT x ++ schR r)
def expR : List Col → List (Int × Str × Int)
  | [] => []
  | x :: r => (5, [44], 0) :: (1, x.name, 0) :: (2, kindNameM x.kind, 0) :: expR r
theorem schR_stop (r : List Col) : schR r = [] ∨ ∃ z Z, schR r = z :: Z ∧ tails.contains z = false := by
  cases r with
  | nil => exact .inl rfl
  | cons x r => exact .inr ⟨44, _, rfl, by decide⟩
theorem colT_cons {x : Col} (h : ColOk x) (R : Str) : ∃ c r, colT x ++ R = c :: r ∧ letters.contains c = true := by
  obtain ⟨c, r, e, hc, _⟩ := name_chars h.name
  exact ⟨c, r ++ [32] ++ kindNameM x.kind ++ R, by unfold colT; rw [e]; simp, hc⟩
theorem sch_items : ∀ (r : List Col) (x : Col) (f q : Nat), ColOk x → (∀ y ∈ r, ColOk y) → (colT x ++ schR r).length < f → (itemsF f q (colT x ++ schR r)).map sameT = (1, x.name, 0) :: (2, kindNameM x.kind, 0) :: expR r := by
  intro r
  induction r with
  | nil =>
    intro x f q hx _ hf
    obtain ⟨f, rfl⟩ : ∃ g, f = g + 1 + 1 := ⟨f - 2, by
      obtain ⟨c, t, e, _⟩ := colT_cons hx (schR [])
      rw [e] at hf
      simp at hf
      omega⟩
    obtain ⟨c, t, e, hc, ha⟩ := name_chars hx.name
    obtain ⟨kc, kt, ke, hkc, hka, hkw⟩ := kind_chars hx.lo hx.hi
    obtain ⟨hw, _⟩ := name_word hx.name
    have es : colT x ++ schR [] = (c :: t) ++ (32 :: (kindNameM x.kind ++ schR [])) := by unfold colT; rw [e]; simp
    have hw1 : wordM (colT x ++ schR []) = (1, x.name, ((c :: t).length : Int), 0) := by
      rw [es, word_behind hc (by rw [← e]; exact ha) (.inr ⟨32, _, rfl, by decide⟩), ← e]; exact hw
    rw [items_word (n := (c :: t).length) (by rw [es]; simp) hw1]
    have hd : (colT x ++ schR []).drop (c :: t).length = 32 :: (kindNameM x.kind ++ schR []) := by rw [es, List.drop_left]
    have hne : kindNameM x.kind ++ schR [] ≠ [] := by rw [ke]; simp
    rw [hd, lexG_blank, lexG_at (by rw [ke]; exact gap_letter hkc _)]
    have hw2 : wordM (kindNameM x.kind ++ schR []) = (2, kindNameM x.kind, ((kindNameM x.kind).length : Int), 0) := by
      have := word_behind (R := schR []) hkc (by rw [← ke]; exact hka) (schR_stop [])
      rw [← ke] at this
      rw [this, hkw]
    rw [items_word hne hw2, List.drop_left, show schR [] = [] from rfl]
    rw [show lexG f (q + (c :: t).length + 1 + (kindNameM x.kind).length) [] = [] from by unfold lexG; exact itemsF_nil _ _]
    rfl
  | cons y r ih =>
    intro x f q hx hr hf
    have hy := hr y (by simp)
    obtain ⟨c, t, e, hc, ha⟩ := name_chars hx.name
    obtain ⟨kc, kt, ke, hkc, hka, hkw⟩ := kind_chars hx.lo hx.hi
    obtain ⟨hw, _⟩ := name_word hx.name
    have es : colT x ++ schR (y :: r) = (c :: t) ++ (32 :: (kindNameM x.kind ++ schR (y :: r))) := by unfold colT; rw [e]; simp
    have hl := congrArg List.length es
    have hl2 : (schR (y :: r)).length = (colT y ++ schR r).length + 2 := by simp [schR]
    obtain ⟨f, rfl⟩ : ∃ g, f = g + 1 + 1 + 1 := ⟨f - 3, by
      rw [es] at hf
      simp only [List.length_append, List.length_cons] at hf hl2
      omega⟩
    have hw1 : wordM (colT x ++ schR (y :: r)) = (1, x.name, ((c :: t).length : Int), 0) := by
      rw [es, word_behind hc (by rw [← e]; exact ha) (.inr ⟨32, _, rfl, by decide⟩), ← e]; exact hw
    rw [items_word (n := (c :: t).length) (by rw [es]; simp) hw1]
    have hd : (colT x ++ schR (y :: r)).drop (c :: t).length = 32 :: (kindNameM x.kind ++ schR (y :: r)) := by rw [es, List.drop_left]
    have hne : kindNameM x.kind ++ schR (y :: r) ≠ [] := by rw [ke]; simp
    rw [hd, lexG_blank, lexG_at (by rw [ke]; exact gap_letter hkc _)]
    have hw2 : wordM (kindNameM x.kind ++ schR (y :: r)) = (2, kindNameM x.kind, ((kindNameM x.kind).length : Int), 0) := by
      have := word_behind (R := schR (y :: r)) hkc (by rw [← ke]; exact hka) (schR_stop (y :: r))
      rw [← ke] at this
      rw [this, hkw]
    rw [items_word hne hw2, List.drop_left, show schR (y :: r) = 44 :: 32 :: (colT y ++ schR r) from rfl, lexG_at (gap_comma _), items_word (by simp) (word_comma _), List.drop_succ_cons, List.drop_zero, lexG_blank]
    obtain ⟨d, u, eu, hdl⟩ := colT_cons hy (schR r)
    rw [lexG_at (by rw [eu]; exact gap_letter hdl _), List.map_cons, List.map_cons, List.map_cons, ih y f _ hy (fun z hz => hr z (by simp [hz])) (by
      rw [es] at hf
      simp only [List.length_append, List.length_cons] at hf hl2 ⊢
      omega)]
    rfl
theorem colsT_cons (x : Col) : ∀ r : List Col, colsT (x :: r) = colT x ++ schR r := by
  intro r
  induction r generalizing x with
  | nil => unfold colsT Lib.join; simp [List.intercalate, schR]
  | cons y r ih =>
    have := ih y
    unfold colsT Lib.join at this ⊢
    rw [List.map_cons, List.map_cons]
    rw [List.map_cons] at this
    have e : ∀ (a b : Str) (l : List Str), List.intercalate ([44, 32] : Str) (a :: b :: l) = a ++ [44, 32] ++ List.intercalate [44, 32] (b :: l) := by
      intro a b l
      simp [List.intercalate, List.intersperse]
    rw [e, this]
    simp [schR]
theorem sch_len : ∀ (r : List Col), (∀ y ∈ r, ColOk y) → (schR r).length ≤ 23 * r.length
  | [], _ => by simp [schR]
  | x :: r, h => by
    have := sch_len r (fun y hy => h y (by simp [hy]))
    obtain ⟨_, _, _, h16⟩ := name_word (h x (by simp)).name
    have h4 := kindName_len x.kind
    simp only [schR, colT, List.length_cons, List.length_append, List.length_nil]
    omega
def ktT (t : Tok) : Int × Str := (t.kind, t.text)
def expT : List Col → List (Int × Str)
  | [] => []
  | x :: r => (1, x.name) :: (2, kindNameM x.kind) :: ((expR r).map fun y => (y.1, y.2.1))
/-- The words of what is printed. -/
theorem sch_lex {c : List Col} (h : ∀ y ∈ c, ColOk y) (hl : c.length ≤ 12) : ∃ L n, lexM (colsT c) = (L ++ [⟨0, [], n⟩], 0, 0) ∧ L.map ktT = expT c := by
  cases c with
  | nil => exact ⟨[], 0, by kernel_rfl, rfl⟩
  | cons x r =>
    have hx := h x (by simp)
    have hr : ∀ y ∈ r, ColOk y := fun y hy => h y (by simp [hy])
    have h1 := sch_len r hr
    obtain ⟨_, _, _, h16⟩ := name_word hx.name
    have h4 := kindName_len x.kind
    obtain ⟨d, u, eu, hdl⟩ := colT_cons hx (schR r)
    have hg : gapM (colT x ++ schR r) = 0 := by rw [eu]; exact gap_letter hdl _
    have hit : (itemsT (colsT (x :: r))).map sameT = (1, x.name, 0) :: (2, kindNameM x.kind, 0) :: expR r := by
      rw [colsT_cons]
      unfold itemsT
      rw [hg, List.drop_zero]
      exact sch_items r x _ _ hx hr (by omega)
    have hz : ∀ it ∈ itemsT (colsT (x :: r)), it.2 = 0 := by
      intro it hm
      have : sameT it ∈ (1, x.name, (0 : Int)) :: (2, kindNameM x.kind, 0) :: expR r := by rw [← hit]; exact List.mem_map_of_mem hm
      have hz' : ∀ y ∈ (1, x.name, (0 : Int)) :: (2, kindNameM x.kind, 0) :: expR r, y.2.2 = 0 := by
        have he : ∀ r : List Col, ∀ y ∈ expR r, y.2.2 = 0 := by
          intro r
          induction r with
          | nil => intro y hy; cases hy
          | cons z r ih =>
            intro y hy
            simp only [expR, List.mem_cons] at hy
            rcases hy with rfl | rfl | rfl | hy
            · rfl
            · rfl
            · rfl
            · exact ih y hy
        intro y hy
        simp only [List.mem_cons] at hy
        rcases hy with rfl | rfl | hy
        · rfl
        · rfl
        · exact he r y hy
      exact hz' _ this
    have hlen : ¬ 4000 < (colsT (x :: r)).length := by
      rw [colsT_cons]
      simp only [List.length_append, colT, List.length_cons, List.length_nil] at h1 hl ⊢
      omega
    refine ⟨(itemsT (colsT (x :: r))).map (·.1), (colsT (x :: r)).length, ?_, ?_⟩
    · unfold lexM
      rw [if_neg hlen, lex_none hz]
    · have := congrArg (List.map fun y : Int × Str × Int => (y.1, y.2.1)) hit
      rw [List.map_map] at this ⊢
      exact this
end Go.SX.Nb
namespace Go.SX
variable [GI : GlobInv]
open Classical
section
variable {P : Program} {d : Nat}
variable {sz : Nat} {dfs : List Nat} {rnd : Option Nat}

/-! ### What is written -/
def setWs (ws : List (Nat × AV)) (f : Nat → AV) : Nat → AV := ws.foldl (fun f x => setF x.1 x.2 f) f
theorem setWs_nil (f : Nat → AV) : setWs [] f = f := rfl
theorem setWs_cons (x : Nat × AV) (r : List (Nat × AV)) (f : Nat → AV) : setWs (x :: r) f = setWs r (setF x.1 x.2 f) := rfl
theorem setWs_none {t : Nat} : ∀ (ws : List (Nat × AV)) (f : Nat → AV), t ∉ ws.map (·.1) → setWs ws f t = f t
  | [], _, _ => rfl
  | x :: r, f, h => by
    rw [setWs_cons, setWs_none r _ (fun hm => h (by simp only [List.map_cons, List.mem_cons]; exact .inr hm))]
    unfold setF
    rw [if_neg (fun e => h (by simp [e]))]
theorem setWs_congr {t : Nat} : ∀ (ws : List (Nat × AV)) (f g : Nat → AV), (t ∈ ws.map (·.1) ∨ f t = g t) → setWs ws f t = setWs ws g t
  | [], f, g, h => by
    rcases h with h | h
    · cases h
    · exact h
  | x :: r, f, g, h => by
    rw [setWs_cons, setWs_cons]
    refine setWs_congr r _ _ ?_
    by_cases hx : t = x.1
    · right; unfold setF; rw [if_pos hx, if_pos hx]
    · rcases h with h | h
      · left
        simp only [List.map_cons, List.mem_cons] at h
        exact h.resolve_left hx
      · right; unfold setF; rw [if_neg hx, if_neg hx]; exact h

def frY (L : Nat → Bool) : Nat → List (List (Nat × AV)) → (Nat → AV) → (Nat → AV)
  | _, [], f => f
  | i, ws :: r, f => frY L (i + 1) r (if L i then setWs ws f else f)
theorem frY_at {L L' : Nat → Bool} {t : Nat} : ∀ (D : List (List (Nat × AV))) (i : Nat) (f g : Nat → AV), (∀ (j : Nat) (ws : List (Nat × AV)), D[j]? = some ws → t ∈ ws.map (·.1) → L (i + j) = L' (i + j)) → f t = g t → frY L i D f t = frY L' i D g t
  | [], _, _, _, _, h => h
  | x :: r, i, f, g, h, hf => by
    unfold frY
    refine frY_at r (i + 1) _ _ (fun j ws hj ht => by have := h (j + 1) ws (by simpa using hj) ht; rwa [show i + 1 + j = i + (j + 1) by omega]) ?_
    by_cases hm : t ∈ x.map (·.1)
    · have h0 := h 0 x (by simp) hm
      rw [Nat.add_zero] at h0
      rw [h0]
      split
      · exact setWs_congr x f g (.inl hm)
      · exact hf
    · have e : ∀ (b : Bool) (f : Nat → AV), (if b = true then setWs x f else f) t = f t := fun b f => by
        cases b
        · rfl
        · exact setWs_none x f hm
      rw [e, e]
      exact hf
theorem frY_none {L : Nat → Bool} {t : Nat} : ∀ (D : List (List (Nat × AV))) (i : Nat) (f : Nat → AV), (∀ (j : Nat) (ws : List (Nat × AV)), D[j]? = some ws → t ∈ ws.map (·.1) → L (i + j) = false) → frY L i D f t = f t
  | [], _, _, _ => rfl
  | x :: r, i, f, h => by
    unfold frY
    rw [frY_none r (i + 1) _ (fun j ws hj ht => by have := h (j + 1) ws (by simpa using hj) ht; rwa [show i + 1 + j = i + (j + 1) by omega])]
    by_cases hL : L i
    · rw [if_pos hL]
      refine setWs_none x f fun hm => ?_
      have := h 0 x (by simp) hm
      simp [hL] at this
    · rw [if_neg hL]
theorem frY_last {L : Nat → Bool} {t : Nat} {ws : List (Nat × AV)} : ∀ (D : List (List (Nat × AV))) (i j : Nat) (f : Nat → AV), D[j]? = some ws → t ∈ ws.map (·.1) → L (i + j) = true →
    (∀ (j' : Nat) (ws' : List (Nat × AV)), D[j']? = some ws' → t ∈ ws'.map (·.1) → j < j' → L (i + j') = false) → frY L i D f t = setWs ws f t
  | [], _, _, _, h, _, _, _ => by simp at h
  | x :: r, i, 0, f, h, hm, hL, hu => by
    unfold frY
    have hL' : L i = true := by simpa using hL
    rw [if_pos hL', frY_none r (i + 1) _ (fun j' y' hj' ht => by have := hu (j' + 1) y' (by simpa using hj') ht (by omega); rwa [show i + 1 + j' = i + (j' + 1) by omega])]
    have hx : x = ws := by simpa using h
    rw [hx]
  | x :: r, i, j + 1, f, h, hm, hL, hu => by
    unfold frY
    rw [frY_last r (i + 1) j _ (by simpa using h) hm (by rwa [show i + 1 + j = i + (j + 1) by omega]) (fun j' y' hj' ht hlt => by have := hu (j' + 1) y' (by simpa using hj') ht (by omega); rwa [show i + 1 + j' = i + (j' + 1) by omega])]
    exact setWs_congr ws _ _ (.inl hm)
theorem frY_take : ∀ (D : List (List (Nat × AV))) (i k : Nat) (f : Nat → AV), frY (fun _ => true) k (D.take i) f = frY (fun j => decide (j < k + i)) k D f
  | [], i, k, f => by simp [frY]
  | x :: r, 0, k, f => by
    rw [List.take_zero]
    funext t
    refine (frY_none (x :: r) k f fun j ws _ _ => ?_).symm
    simp
  | x :: r, i + 1, k, f => by
    rw [List.take_succ_cons]
    unfold frY
    rw [frY_take r i (k + 1)]
    have e1 : decide (k < k + (i + 1)) = true := by simp
    rw [e1, show k + 1 + i = k + (i + 1) by omega]
theorem frY_congr {L L' : Nat → Bool} : ∀ (D : List (List (Nat × AV))) (i : Nat) (f : Nat → AV), (∀ j, j < D.length → L (i + j) = L' (i + j)) → frY L i D f = frY L' i D f
  | [], _, _, _ => rfl
  | x :: r, i, f, h => by
    unfold frY
    have h0 := h 0 (by simp)
    rw [Nat.add_zero] at h0
    rw [h0]
    exact frY_congr r (i + 1) _ (fun j hj => by have := h (j + 1) (by simp; omega); rwa [show i + 1 + j = i + (j + 1) by omega])
theorem frY_shift : ∀ (D : List (List (Nat × AV))) (i j : Nat) (f : Nat → AV), frY (fun _ => true) i D f = frY (fun _ => true) j D f
  | [], _, _, _ => rfl
  | x :: r, i, j, f => by unfold frY; exact frY_shift r _ _ _
theorem frY_cons (L : Nat → Bool) (i : Nat) (x : List (Nat × AV)) (r : List (List (Nat × AV))) (f : Nat → AV) : frY L i (x :: r) f = frY L (i + 1) r (if L i then setWs x f else f) := rfl
theorem frY_app : ∀ (A B : List (List (Nat × AV))) (i : Nat) (f : Nat → AV), frY (fun _ => true) i (A ++ B) f = frY (fun _ => true) 0 B (frY (fun _ => true) i A f)
  | [], B, i, f => frY_shift B i 0 f
  | x :: r, B, i, f => by
    rw [List.cons_append, frY_cons, frY_cons]
    exact frY_app r B (i + 1) _
theorem frY_map (L : Nat → Bool) : ∀ (D : List (Nat × AV)) (i : Nat) (f : Nat → AV), frY L i (D.map fun x => [x]) f = frL L i D f
  | [], _, _ => rfl
  | x :: r, i, f => by
    rw [List.map_cons, frY_cons, frL_cons, frY_map L r]
    rfl

/-! ### What has turned the heap -/
def upd (B : Nat → Bool) (p : Nat) : Nat → Bool := fun q => if q = p then true else B q
def updO (t : Option Nat) (B : Nat → Bool) : Nat → Bool := match t with | some p => upd B p | none => B
/-- tn: the operations that turn the heap; of each, by its number among them, whether it has run. -/
def bits (tn : List Nat) (L : Nat → Bool) : Nat → Bool := fun p => match tn[p]? with | some e => L e | none => false
/-- What is told of one of the operations drawn: the slots that it writes (none: the one that its text names), its number among those that turn the heap, and which of these come before and behind it. -/
structure Inf where
  W : Option (List Nat)
  t : Option Nat
  T : List Nat
  F : List Nat
theorem bits_set {tn : List Nat} {L L' : Nat → Bool} {i : Nat} {t : Option Nat} (hL : ∀ q, L' q = if q = i then true else L q) (h1 : ∀ p, t = some p → tn[p]? = some i) (h0 : t = none → i ∉ tn) (hn : ∀ (p q e : Nat), tn[p]? = some e → tn[q]? = some e → p = q) : bits tn L' = updO t (bits tn L) := by
  funext q
  cases t with
  | none =>
    show bits tn L' q = bits tn L q
    unfold bits
    cases hq : tn[q]? with
    | none => rfl
    | some e =>
      show L' e = L e
      rw [hL, if_neg (fun he => h0 rfl (by rw [← he]; exact List.mem_of_getElem? hq))]
  | some p =>
    show bits tn L' q = upd (bits tn L) p q
    unfold upd
    by_cases hqp : q = p
    · subst hqp
      rw [if_pos rfl]
      unfold bits
      rw [h1 q rfl]
      show L' i = true
      rw [hL, if_pos rfl]
    · rw [if_neg hqp]
      unfold bits
      cases hq : tn[q]? with
      | none => rfl
      | some e =>
        show L' e = L e
        rw [hL, if_neg (fun he => by subst he; exact hqp (hn _ _ _ hq (h1 p rfl)))]
def slY (o : Oper) (x : Inf) : List Nat := match x.W with | some W => W | none => o.dst.toList

/-- What is asked of the region's text. -/
def okY (l : List Oper) (tn : List Nat) (I : List Inf) (M : List Nat) : Bool :=
  Nat.ble I.length l.length && (tn.zipIdx.all fun x => Nat.blt x.1 I.length && tn.zipIdx.all fun y => Nat.beq x.2 y.2 || !Nat.beq x.1 y.1) &&
  l.zipIdx.all fun x =>
    Nat.beq (M.getD x.2 0) (edgesM M x.1.after.toList) && (x.1.after.toList.all fun e => !Region.binds .any e || Nat.blt e.on x.2) &&
    match I[x.2]? with
    | some inf =>
      ((slY x.1 inf).all fun s => (l.zip I).zipIdx.all fun z => Nat.beq z.2 x.2 || !((slY z.1.1 z.1.2).elem s) || (!(inf.W.isNone && z.1.2.W.isNone) && (((M.getD x.2 0).testBit z.2 && Nat.blt z.2 x.2) || ((M.getD z.2 0).testBit x.2 && Nat.blt x.2 z.2)))) &&
      ((lk l x.1).all fun s => (l.zip I).zipIdx.all fun z => !((slY z.1.1 z.1.2).elem s) || Nat.beq z.2 x.2 || ((M.getD x.2 0).testBit z.2 && Nat.blt z.2 x.2) || ((M.getD z.2 0).testBit x.2 && Nat.blt x.2 z.2)) &&
      (inf.T.all fun p => match tn[p]? with | some e => (M.getD x.2 0).testBit e | none => false) && (inf.F.all fun p => match tn[p]? with | some e => (M.getD e 0).testBit x.2 | none => false) &&
      (match inf.t with | some p => (match tn[p]? with | some e => Nat.beq e x.2 | none => false) | none => !tn.elem x.2)
    | none => (List.range x.2).all fun j => (M.getD x.2 0).testBit j

structure OkY (l : List Oper) (tn : List Nat) (I : List Inf) (M : List Nat) : Prop extends EdgeOK l I.length M where
  len : I.length ≤ l.length
  uniq : ∀ (i j : Nat) (o z : Oper) (x y : Inf) (s : Nat), l[i]? = some o → l[j]? = some z → I[i]? = some x → I[j]? = some y → s ∈ slY o x → s ∈ slY z y → j = i ∨ (¬ (x.W = none ∧ y.W = none) ∧ (((M.getD i 0).testBit j = true ∧ j < i) ∨ ((M.getD j 0).testBit i = true ∧ i < j)))
  look : ∀ (i j : Nat) (o z : Oper) (x y : Inf) (s : Nat), l[i]? = some o → l[j]? = some z → I[i]? = some x → I[j]? = some y → s ∈ lk l o → s ∈ slY z y → j = i ∨ ((M.getD i 0).testBit j = true ∧ j < i) ∨ ((M.getD j 0).testBit i = true ∧ i < j)
  T : ∀ (i : Nat) (x : Inf) (p : Nat), I[i]? = some x → p ∈ x.T → ∃ e, tn[p]? = some e ∧ (M.getD i 0).testBit e = true
  F : ∀ (i : Nat) (x : Inf) (p : Nat), I[i]? = some x → p ∈ x.F → ∃ e, tn[p]? = some e ∧ (M.getD e 0).testBit i = true
  t1 : ∀ (i : Nat) (x : Inf) (p : Nat), I[i]? = some x → x.t = some p → tn[p]? = some i
  t0 : ∀ (i : Nat) (x : Inf), I[i]? = some x → x.t = none → i ∉ tn
  tl : ∀ (p e : Nat), tn[p]? = some e → e < I.length
  tu : ∀ (p q e : Nat), tn[p]? = some e → tn[q]? = some e → p = q

theorem okY_spec {l : List Oper} {tn : List Nat} {I : List Inf} {M : List Nat} (h : okY l tn I M = true) : OkY l tn I M := by
  have hx : ∀ (i : Nat) (o : Oper), l[i]? = some o → (o, i) ∈ l.zipIdx := fun i o ho => by
    rw [List.mem_zipIdx_iff_getElem?]; exact ho
  have hz : ∀ (j : Nat) (z : Oper) (y : Inf), l[j]? = some z → I[j]? = some y → ((z, y), j) ∈ (l.zip I).zipIdx := fun j z y h1 h2 => by
    rw [List.mem_zipIdx_iff_getElem?, List.getElem?_zip_eq_some]; exact ⟨h1, h2⟩
  unfold okY at h
  rw [Bool.and_eq_true, Bool.and_eq_true] at h
  have hlen : I.length ≤ l.length := Nat.le_of_ble_eq_true h.1.1
  have htn := List.all_eq_true.1 h.1.2
  have h := List.all_eq_true.1 h.2
  have htl : ∀ (p e : Nat), tn[p]? = some e → (e, p) ∈ tn.zipIdx := fun p e he => by rw [List.mem_zipIdx_iff_getElem?]; exact he
  have hl : ∀ (i : Nat) (x : Inf), I[i]? = some x → ∃ o, l[i]? = some o := fun i x hi => by
    have := (List.getElem?_eq_some_iff.1 hi).1
    exact ⟨l[i]'(by omega), List.getElem?_eq_getElem _⟩
  refine ⟨⟨fun i o ho m hm => ?_, fun i o ho e he hb => ?_, fun i j o ho hi hj => ?_⟩, hlen, fun i j o z x y s ho hz' hix hjy hs hs' => ?_, fun i j o z x y s ho hz' hix hjy hs hs' => ?_, fun i x p hi hp => ?_, fun i x p hi hp => ?_, fun i x p hi hp => ?_, fun i x hi hp => ?_, fun p e he => ?_, fun p q e hp hq => ?_⟩
  · have hio := h _ (hx i o ho); simp only [Bool.and_eq_true] at hio
    have e := Nat.eq_of_beq_eq_true hio.1.1
    rw [e] at hm
    obtain ⟨e', he', h1⟩ := edgesM_bit _ hm
    exact ⟨e', by simpa using he', h1⟩
  · have hio := h _ (hx i o ho); simp only [Bool.and_eq_true] at hio
    have := List.all_eq_true.1 hio.1.2 e (by simpa using he)
    simpa [hb] using this
  · have hio := h _ (hx i o ho); simp only [Bool.and_eq_true] at hio
    have h2 := hio.2
    rw [List.getElem?_eq_none hi] at h2
    exact List.all_eq_true.1 h2 j (by simpa using hj)
  · have hio := h _ (hx i o ho); simp only [Bool.and_eq_true] at hio
    have h2 := hio.2
    simp only [hix, Bool.and_eq_true] at h2
    have := List.all_eq_true.1 (List.all_eq_true.1 h2.1.1.1.1 s hs) _ (hz j z y hz' hjy)
    simp only [Bool.or_eq_true, Bool.not_eq_true'] at this
    rcases this with (h | h) | h
    · exact .inl (Nat.eq_of_beq_eq_true h)
    · rw [List.elem_iff.2 hs'] at h; cases h
    · rw [Bool.and_eq_true, Bool.or_eq_true, Bool.and_eq_true, Bool.and_eq_true] at h
      refine .inr ⟨?_, ?_⟩
      · rintro ⟨e1, e2⟩
        rw [e1, e2] at h
        exact absurd h.1 (by simp)
      · rcases h.2 with h | h
        · exact .inl ⟨h.1, by simpa using h.2⟩
        · exact .inr ⟨h.1, by simpa using h.2⟩
  · have hio := h _ (hx i o ho); simp only [Bool.and_eq_true] at hio
    have h2 := hio.2
    simp only [hix, Bool.and_eq_true] at h2
    have := List.all_eq_true.1 (List.all_eq_true.1 h2.1.1.1.2 s hs) _ (hz j z y hz' hjy)
    simp only [List.elem_iff.2 hs', Bool.not_true, Bool.false_or, Bool.or_eq_true, Bool.and_eq_true] at this
    rcases this with (h | h) | h
    · exact .inl (Nat.eq_of_beq_eq_true h)
    · exact .inr (.inl ⟨h.1, by simpa using h.2⟩)
    · exact .inr (.inr ⟨h.1, by simpa using h.2⟩)
  · obtain ⟨o, ho⟩ := hl i x hi
    have hio := h _ (hx i o ho); simp only [Bool.and_eq_true] at hio
    have h2 := hio.2
    simp only [hi, Bool.and_eq_true] at h2
    have := List.all_eq_true.1 h2.1.1.2 p hp
    cases he : tn[p]? with
    | none => rw [he] at this; cases this
    | some e => rw [he] at this; exact ⟨e, rfl, this⟩
  · obtain ⟨o, ho⟩ := hl i x hi
    have hio := h _ (hx i o ho); simp only [Bool.and_eq_true] at hio
    have h2 := hio.2
    simp only [hi, Bool.and_eq_true] at h2
    have := List.all_eq_true.1 h2.1.2 p hp
    cases he : tn[p]? with
    | none => rw [he] at this; cases this
    | some e => rw [he] at this; exact ⟨e, rfl, this⟩
  · obtain ⟨o, ho⟩ := hl i x hi
    have hio := h _ (hx i o ho); simp only [Bool.and_eq_true] at hio
    have h2 := hio.2
    simp only [hi, Bool.and_eq_true, hp] at h2
    have := h2.2
    cases he : tn[p]? with
    | none => rw [he] at this; cases this
    | some e => rw [he] at this; rw [Nat.eq_of_beq_eq_true this]
  · obtain ⟨o, ho⟩ := hl i x hi
    have hio := h _ (hx i o ho); simp only [Bool.and_eq_true] at hio
    have h2 := hio.2
    simp only [hi, Bool.and_eq_true, hp, Bool.not_eq_true'] at h2
    intro hm
    have := h2.2
    rw [List.elem_iff.2 hm] at this
    cases this
  · have := htn _ (htl p e he)
    rw [Bool.and_eq_true] at this
    simpa using this.1
  · have := htn _ (htl p e hp)
    rw [Bool.and_eq_true] at this
    have := List.all_eq_true.1 this.2 _ (htl q e hq)
    simpa using this

/-- What is to be shown of one of the operations drawn; f0: the frame in the text's order. -/
def OpY (P : Program) (d : Nat) (l : List Oper) (sz : Nat) (up own : (Nat → Bool) → List AObj) (dfs : List Nat) (rnd : Option Nat) (x : Inf) (o : Oper) (f0 : Nat → AV) (ws : List (Nat × AV)) : Prop :=
  match x.W with
  | none => x.t = none ∧ ∃ s y, ws = [(s, y)] ∧ o.dst = some s ∧ s < sz ∧ ∀ B, (∀ p ∈ x.T, B p = true) → (∀ p ∈ x.F, B p = false) → OpD P d l o sz f0 (up B) (own B) dfs rnd y
  | some W => ws.map (·.1) = W ∧ o.guard = none ∧ ∀ B f, (∀ p ∈ x.T, B p = true) → (∀ p ∈ x.F, B p = false) → (∀ p, x.t = some p → B p = false) → (∀ t ∈ lk l o, f t = f0 t) →
      AOp P d o ⟨sz, f, up B, own B, dfs, rnd⟩ (· = ⟨sz, setWs ws f, up (updO x.t B), own (updO x.t B), dfs, rnd⟩)
theorem OpY.slots {l : List Oper} {up own : (Nat → Bool) → List AObj} {x : Inf} {o : Oper} {f0 : Nat → AV} {ws : List (Nat × AV)} (h : OpY P d l sz up own dfs rnd x o f0 ws) : ws.map (·.1) = slY o x := by
  unfold OpY at h
  unfold slY
  cases hW : x.W with
  | none =>
    rw [hW] at h
    obtain ⟨_, s, y, rfl, h2, _⟩ := h
    simp [h2]
  | some W =>
    rw [hW] at h
    exact h.1

/-- **A region whose order is drawn, with several operations that turn the heap or write more slots than one.** -/
theorem AW.drawY {id : Nat} {l : List Oper} {tn : List Nat} {I : List Inf} {D : List (List (Nat × AV))} {up own : (Nat → Bool) → List AObj} {fr : Nat → AV} {K : Exit → St → Prop} (M : List Nat) (hm : P.follows .mixedOrders = true) (hok : okY l tn I M = true)
    (hD : D.length = I.length) (hlen : ∀ B, (up B).length = (up fun _ => false).length)
    (hops : ∀ (i : Nat) (o : Oper) (x : Inf), l[i]? = some o → I[i]? = some x → ∃ ws, D[i]? = some ws ∧ OpY P d l sz up own dfs rnd x o (frY (fun _ => true) 0 (D.take i) fr) ws)
    (hrest : ARun P d l.toArray (l.drop I.length) ⟨sz, frY (fun _ => true) 0 D fr, up (fun p => decide (p < tn.length)), own (fun p => decide (p < tn.length)), dfs, rnd⟩ (K .normal)) :
    AW P d (.region id l.toArray true) ⟨sz, fr, up fun _ => false, own fun _ => false, dfs, rnd⟩ K := by
  have ok := okY_spec hok
  obtain ⟨k, hk⟩ : ∃ k, k = I.length := ⟨_, rfl⟩
  have hkl : k ≤ l.length := by have := ok.len; omega
  have ed : EdgeOK l k M := by rw [hk]; exact ok.toEdgeOK
  rw [← hk] at hD hrest
  have gI : ∀ i, i < k → ∃ x, I[i]? = some x := fun i hi => ⟨I[i]'(by omega), List.getElem?_eq_getElem _⟩
  intro G0 a0 w0 hr0
  refine wpIn_region_any hm ?_
  generalize hF : Fr ((St.mk sz fr (up fun _ => false) (own fun _ => false) dfs rnd).rnd.map G0.blk) = F
  have hu : ∀ (i j : Nat) (t : Nat) (ws ws' : List (Nat × AV)), D[i]? = some ws → t ∈ ws.map (·.1) → D[j]? = some ws' → t ∈ ws'.map (·.1) → j = i ∨ ((M.getD i 0).testBit j = true ∧ j < i) ∨ ((M.getD j 0).testBit i = true ∧ i < j) := by
    intro i j t ws ws' h1 m1 h2 m2
    have hi : i < k := by rw [← hD]; exact (List.getElem?_eq_some_iff.1 h1).1
    have hj : j < k := by rw [← hD]; exact (List.getElem?_eq_some_iff.1 h2).1
    have e1 : l[i]? = some (l[i]'(by omega)) := List.getElem?_eq_getElem (by omega)
    have e2 : l[j]? = some (l[j]'(by omega)) := List.getElem?_eq_getElem (by omega)
    obtain ⟨x, hx⟩ := gI i hi
    obtain ⟨y, hy⟩ := gI j hj
    obtain ⟨w1, a1, a2⟩ := hops i _ x e1 hx
    obtain ⟨w2, b1, b2⟩ := hops j _ y e2 hy
    rw [h1] at a1; injection a1 with a1; subst a1
    rw [h2] at b1; injection b1 with b1; subst b1
    rw [a2.slots] at m1
    rw [b2.slots] at m2
    exact (ok.uniq i j _ _ x y t e1 e2 hx hy m1 m2).imp (fun h => h) (fun h => h.2)
  have hbe : ∀ L : Nat → Bool, (∀ j, j < k → L j = true) → bits tn L = (fun p => decide (p < tn.length)) := fun L hL => by
    funext p
    unfold bits
    cases hp : tn[p]? with
    | none =>
      have : ¬ p < tn.length := by rw [List.getElem?_eq_none_iff] at hp; omega
      show false = decide (p < tn.length)
      simp [this]
    | some e =>
      have h1 := (List.getElem?_eq_some_iff.1 hp).1
      show L e = decide (p < tn.length)
      rw [hL e (by rw [hk]; exact ok.tl p e hp)]
      simp [h1]
  have key : ∀ (fuel : Nat) (listed : Array Bool) (a : Act) (w : World) (G : Gh), listed.size = l.length → listed.toList.countP (fun b => !b) = fuel →
      (∀ j, k ≤ j → j < l.length → listed.getD j false = false) →
      (∀ (i : Nat) (o : Oper), listed.getD i false = true → l[i]? = some o → ∀ e ∈ o.after, Region.binds .any e = true → listed.getD e.on false = true) →
      StRel d G ⟨sz, frY (fun j => listed.getD j false) 0 D fr, up (bits tn fun j => listed.getD j false), own (bits tn fun j => listed.getD j false), dfs, rnd⟩ a w → Keep d G0 w0 G w →
      wpAnyIn F 0 P .any l.toArray (fun e => Post d ⟨sz, fr, up fun _ => false, own fun _ => false, dfs, rnd⟩ G0 w0 (K e)) fuel listed a w := by
    intro fuel
    induction fuel with
    | zero =>
      intro listed a w G hsz hcnt htl hcl hst hkp
      have hall : ∀ j, j < l.length → listed.getD j false = true := fun j hj => by
        have hz : listed.toList.all (fun b => b) = true := by
          rw [List.countP_eq_zero] at hcnt
          exact List.all_eq_true.2 fun b hb => by simpa using hcnt b hb
        have hj' : j < listed.size := by omega
        have := List.all_eq_true.1 hz (listed[j]) (by simp)
        simpa [hj'] using this
      have hkeq : k = l.length := by
        refine Classical.byContradiction fun hne => ?_
        have h1 := htl k (Nat.le_refl _) (by omega)
        rw [hall k (by omega)] at h1
        cases h1
      refine draw_tail ed 0 l.length listed a w (by omega) (by omega) hsz (fun j hj => by rw [hall j hj]; simpa using hj) ?_
      have hfe : frY (fun j => listed.getD j false) 0 D fr = frY (fun _ => true) 0 D fr := frY_congr D 0 fr (fun j hj => by rw [Nat.zero_add]; exact hall j (by omega))
      have hce : (bits tn fun j => listed.getD j false) = (fun p => decide (p < tn.length)) := hbe _ (fun j hj => hall j (by omega))
      rw [hfe, hce] at hst
      have hz := hrest G a w hst [] (by simp [hkeq])
      rw [fr_keep (st' := ⟨sz, frY (fun _ => true) 0 D fr, up (fun p => decide (p < tn.length)), own (fun p => decide (p < tn.length)), dfs, rnd⟩) hr0 hkp rfl, hF] at hz
      exact opsIn_mono (fun e a' w' ⟨he, hp⟩ => by subst he; exact hp.next hkp (hlen _) rfl rfl) _ _ _ hz
    | succ fuel ih =>
      intro listed a w G hsz hcnt htl hcl hst hkp
      by_cases hpre : ∀ j, j < k → listed.getD j false = true
      · -- the rest, in a row
        have hfe : frY (fun j => listed.getD j false) 0 D fr = frY (fun _ => true) 0 D fr := frY_congr D 0 fr (fun j hj => by rw [Nat.zero_add]; exact hpre j (by omega))
        have hce : (bits tn fun j => listed.getD j false) = (fun p => decide (p < tn.length)) := hbe _ hpre
        rw [hfe, hce] at hst
        have hle : ∀ j, j < l.length → listed.getD j false = decide (j < k) := fun j hj => by
          by_cases hjk : j < k
          · rw [hpre j hjk]; simpa using hjk
          · rw [htl j (by omega) hj]; simpa using hjk
        have hcnt' : fuel + 1 = l.length - k := by
          rw [← hcnt]
          have e1 : listed.toList = (List.range l.length).map (fun j => decide (j < k)) := by
            apply List.ext_getElem
            · simp [hsz]
            · intro j h1 h2
              have hj : j < l.length := by simpa [hsz] using h1
              have := hle j hj
              simp only [List.getElem_map, List.getElem_range, Array.getElem_toList]
              rw [← this]
              have hj' : j < listed.size := by omega
              simp [hj']
          rw [e1, List.countP_map]
          have e2 : ((fun b => !b) ∘ fun j => decide (j < k)) = fun j => decide (k ≤ j) := by
            funext j
            simp only [Function.comp_apply]
            by_cases hjk : j < k
            · have h2 : ¬ k ≤ j := by omega
              simp [hjk, h2]
            · have h2 : k ≤ j := by omega
              simp [hjk, h2]
          rw [e2]
          have : ∀ n, (List.range n).countP (fun j => decide (k ≤ j)) = n - k := by
            intro n
            induction n with
            | zero => simp
            | succ n ihn =>
              rw [List.range_succ, List.countP_append, ihn]
              by_cases hkn : k ≤ n
              · simp [hkn]; omega
              · simp [hkn]; omega
          rw [this]
        rw [hcnt']
        refine draw_tail ed (l.length - k) k listed a w (Nat.le_refl _) (by omega) hsz hle ?_
        have hz := hrest G a w hst (List.range' k (l.length - k)) (by
          apply List.ext_getElem?
          intro i
          simp only [List.getElem?_map, List.getElem?_drop]
          by_cases hi : i < l.length - k
          · rw [List.getElem?_range' (by omega), List.getElem?_eq_getElem (l := l) (by omega)]
            simp
          · rw [List.getElem?_eq_none (by simp; omega), List.getElem?_eq_none (by omega)]; rfl)
        rw [fr_keep (st' := ⟨sz, frY (fun _ => true) 0 D fr, up (fun p => decide (p < tn.length)), own (fun p => decide (p < tn.length)), dfs, rnd⟩) hr0 hkp rfl, hF] at hz
        exact opsIn_mono (fun e a' w' ⟨he, hp⟩ => by subst he; exact hp.next hkp (hlen _) rfl rfl) _ _ _ hz
      · obtain ⟨j0, hj0k, hj0⟩ : ∃ j, j < k ∧ listed.getD j false = false := by
          refine Classical.byContradiction fun hne => hpre fun j hj => ?_
          cases hv : listed.getD j false with
          | true => rfl
          | false => exact absurd ⟨j, hj, hv⟩ hne
        refine ⟨fun h0 => ?_, fun i hi => ?_⟩
        · -- the least that is not listed is ready
          obtain ⟨m, hm, hmin⟩ := exists_least (S := fun j => j < k ∧ listed.getD j false = false) ⟨j0, hj0k, hj0⟩
          have hml : m < l.length := by omega
          have : m ∈ Region.ready .any l.toArray listed := by
            refine mem_ready.2 ⟨?_, l[m], by simp [hml], fun e he hb => ?_⟩
            · have := hm.2; have hj' : m < listed.size := by omega
              simpa [hj'] using this
            · have hlt := ed.fwd m _ (List.getElem?_eq_getElem hml) e he hb
              cases hv : listed.getD e.on false with
              | true => rfl
              | false => have := hmin e.on ⟨by omega, hv⟩; omega
          rw [h0] at this
          cases this
        · obtain ⟨h1, o, ho, he⟩ := mem_ready.1 hi
          have ho' : l[i]? = some o := by simpa using ho
          have hil := (List.getElem?_eq_some_iff.1 ho').1
          have hLi : listed.getD i false = false := by
            have h3 : listed.getD i true = listed.getD i false := by simp [hsz, hil]
            rw [← h3]; exact h1
          have hbits := listed_bits ed (L := fun j => listed.getD j false) hcl i o ho' he
          have hik : i < k := by
            refine Classical.byContradiction fun hge => ?_
            have := hbits j0 (ed.tail i j0 o ho' (by omega) (by omega))
            simp only [hj0] at this
            cases this
          obtain ⟨x, hx⟩ := gI i hik
          obtain ⟨ws, hDi, hO⟩ := hops i o x ho' hx
          -- what it looks at is as in the text's order
          have hnl : ∀ j, (M.getD j 0).testBit i = true → j < k → listed.getD j false = false := fun j hb hjk => by
            cases hv : listed.getD j false with
            | false => rfl
            | true =>
              have ez : l[j]? = some (l[j]'(by omega)) := List.getElem?_eq_getElem (by omega)
              have := listed_bits ed (L := fun j => listed.getD j false) hcl j _ ez (hcl j _ hv ez) i hb
              simp only [hLi] at this
              cases this
          have hag : ∀ t ∈ lk l o, frY (fun j => listed.getD j false) 0 D fr t = frY (fun _ => true) 0 (D.take i) fr t := by
            intro t ht
            rw [frY_take]
            refine frY_at D 0 fr fr (fun j v hj htv => ?_) rfl
            have hjk : j < k := by rw [← hD]; exact (List.getElem?_eq_some_iff.1 hj).1
            have ez : l[j]? = some (l[j]'(by omega)) := List.getElem?_eq_getElem (by omega)
            obtain ⟨y, hy⟩ := gI j hjk
            obtain ⟨v', b1, b2⟩ := hops j _ y ez hy
            rw [hj] at b1
            injection b1 with b1
            subst b1
            rw [b2.slots] at htv
            rw [Nat.zero_add, Nat.zero_add]
            rcases ok.look i j o _ x y t ho' ez hx hy ht htv with rfl | ⟨hb, hlt⟩ | ⟨hb, hlt⟩
            · rw [hLi]; simp
            · rw [hbits j hb]; simpa using hlt
            · rw [hnl j hb hjk]
              have : ¬ j < i := by omega
              simp [this]
          -- on which heap
          have hTT : ∀ p ∈ x.T, bits tn (fun j => listed.getD j false) p = true := fun p hp => by
            obtain ⟨e, he, hb⟩ := ok.T i x p hx hp
            unfold bits
            rw [he]
            exact hbits e hb
          have hFF : ∀ p ∈ x.F, bits tn (fun j => listed.getD j false) p = false := fun p hp => by
            obtain ⟨e, he, hb⟩ := ok.F i x p hx hp
            unfold bits
            rw [he]
            exact hnl e hb (by rw [hk]; exact ok.tl p e he)
          have htt : ∀ p, x.t = some p → bits tn (fun j => listed.getD j false) p = false := fun p hp => by
            unfold bits
            rw [ok.t1 i x p hx hp]
            exact hLi
          -- on from there
          have hgd : ∀ j, (listed.setIfInBounds i true).getD j false = if j = i then true else listed.getD j false := fun j => by
            by_cases hj : j = i
            · subst hj; simp [hsz, hil]
            · rw [getD_set_ne false (Ne.symm hj), if_neg hj]
          have hfr : frY (fun j => (listed.setIfInBounds i true).getD j false) 0 D fr = setWs ws (frY (fun j => listed.getD j false) 0 D fr) := by
            funext t
            by_cases ht : t ∈ ws.map (·.1)
            · rw [frY_last D 0 i fr hDi ht (by rw [Nat.zero_add, hgd, if_pos rfl]) (fun q v hq hm hlt => by
                rw [Nat.zero_add, hgd, if_neg (by omega)]
                have hqk : q < k := by rw [← hD]; exact (List.getElem?_eq_some_iff.1 hq).1
                rcases hu i q t ws v hDi ht hq hm with h | ⟨_, h⟩ | ⟨h, _⟩
                · omega
                · omega
                · exact hnl q h hqk)]
              exact setWs_congr ws _ _ (.inl ht)
            · rw [setWs_none ws _ ht]
              refine frY_at D 0 fr fr (fun j v hj htv => ?_) rfl
              rw [Nat.zero_add, hgd, if_neg (fun e => by subst e; rw [hDi] at hj; injection hj with hj; subst hj; exact ht htv)]
          have hcn : (bits tn fun j => (listed.setIfInBounds i true).getD j false) = updO x.t (bits tn fun j => listed.getD j false) :=
            bits_set (fun q => hgd q) (fun p hp => ok.t1 i x p hx hp) (fun hp => ok.t0 i x hx hp) (fun p q e h1 h2 => ok.tu p q e h1 h2)
          have hnext : ∀ (G1 : Gh) (a1 : Act) (w1 : World), StRel d G1 ⟨sz, setWs ws (frY (fun j => listed.getD j false) 0 D fr), up (updO x.t (bits tn fun j => listed.getD j false)), own (updO x.t (bits tn fun j => listed.getD j false)), dfs, rnd⟩ a1 w1 → Keep d G w G1 w1 →
              wpAnyIn F 0 P .any l.toArray (fun e => Post d ⟨sz, fr, up fun _ => false, own fun _ => false, dfs, rnd⟩ G0 w0 (K e)) fuel (listed.setIfInBounds i true) a1 w1 := by
            intro G1 a1 w1 hr1 hk1
            refine ih _ _ w1 G1 (by simpa using hsz) ?_ (fun j hj hjl => by rw [hgd, if_neg (by omega)]; exact htl j hj hjl) (fun q oq hq hoq e hmem hb => ?_) ?_ (hkp.trans hk1)
            · rw [Array.toList_setIfInBounds, List.countP_set (by simpa [hsz] using hil), hcnt]
              have hil' : i < listed.size := by omega
              have : listed[i] = false := by simpa [hil'] using hLi
              simp [this]
            · rw [hgd] at hq ⊢
              split
              · rfl
              · by_cases hqi : q = i
                · subst hqi
                  rw [ho'] at hoq
                  injection hoq with hoq
                  subst hoq
                  exact he e hmem hb
                · rw [if_neg hqi] at hq
                  exact hcl q oq hq hoq e hmem hb
            · rw [hfr, hcn]
              exact hr1
          have hFe : Fr (rnd.map G.blk) = F := by
            rw [← hF]; exact fr_keep (st' := ⟨sz, frY (fun j => listed.getD j false) 0 D fr, up fun _ => false, own fun _ => false, dfs, rnd⟩) hr0 hkp rfl
          unfold wpOpIn
          rw [ho]
          simp only
          unfold OpY at hO
          cases hW : x.W with
          | some W =>
            rw [hW] at hO
            obtain ⟨_, hge, hO⟩ := hO
            have hw : Region.wanted o (yielded l.toArray a.tmps) = true := by simp [Region.wanted, hge]
            rw [if_pos hw]
            have := hO _ _ hTT hFF htt hag G a w hst (fun e => Post d ⟨sz, fr, up fun _ => false, own fun _ => false, dfs, rnd⟩ G0 w0 (K e))
            rw [show Fr ((St.mk sz (frY (fun j => listed.getD j false) 0 D fr) (up (bits tn fun j => listed.getD j false)) (own (bits tn fun j => listed.getD j false)) dfs rnd).rnd.map G.blk) = F from hFe] at this
            refine Oper.wpIn_mono ?_ this
            rintro a1 w1 ⟨G1, st1, hr1, hk1, _, _, _, rfl⟩
            exact hnext G1 a1 w1 hr1 hk1
          | none =>
            rw [hW] at hO
            obtain ⟨hxt, s, y, rfl, hdst, hssz, hO⟩ := hO
            replace hO := hO _ hTT hFF
            rw [hxt] at hnext
            have hput : ∀ (G1 : Gh) (v : Value) (w1 : World), StRel d G1 ⟨sz, frY (fun j => listed.getD j false) 0 D fr, up (bits tn fun j => listed.getD j false), own (bits tn fun j => listed.getD j false), dfs, rnd⟩ a w1 → Keep d G w G1 w1 → Rep G1 w1 none y v →
                wpAnyIn F 0 P .any l.toArray (fun e => Post d ⟨sz, fr, up fun _ => false, own fun _ => false, dfs, rnd⟩ G0 w0 (K e)) fuel (listed.setIfInBounds i true) (a.put o.dst v) w1 := by
              intro G1 v w1 hr1 hk1 hv
              refine hnext G1 _ w1 ?_ hk1
              rw [hdst]
              exact hr1.put (st := ⟨sz, frY (fun j => listed.getD j false) 0 D fr, up (bits tn fun j => listed.getD j false), own (bits tn fun j => listed.getD j false), dfs, rnd⟩) hssz hv.lift
            unfold OpD at hO
            cases hg : o.guard with
            | none =>
              rw [hg] at hO
              have hw : Region.wanted o (yielded l.toArray a.tmps) = true := by simp [Region.wanted, hg]
              rw [if_pos hw]
              have := hO _ hag G a w hst (fun e => Post d ⟨sz, fr, up fun _ => false, own fun _ => false, dfs, rnd⟩ G0 w0 (K e))
              rw [show Fr ((St.mk sz (frY (fun j => listed.getD j false) 0 D fr) (up (bits tn fun j => listed.getD j false)) (own (bits tn fun j => listed.getD j false)) dfs rnd).rnd.map G.blk) = F from hFe] at this
              refine Oper.wpIn_mono ?_ this
              rintro a1 w1 ⟨G1, v, rfl, hr1, hk1, hv⟩
              exact hput G1 v w1 hr1 hk1 hv
            | some jw =>
              obtain ⟨j, want⟩ := jw
              rw [hg] at hO
              obtain ⟨oj, g, C, y'', hj, hdj, hgB, rfl, hO⟩ := hO
              have hgf : GIs (frY (fun j => listed.getD j false) 0 D fr g) want C := by
                rw [hag g (by unfold lk; rw [hg]; simp [hj, hdj])]
                exact hgB
              have hw : Region.wanted o (yielded l.toArray a.tmps) = C := wanted_is hst hg (by simpa using hj) hdj hgf
              rw [hw]
              cases hBw : C with
              | true =>
                rw [if_pos rfl]
                have := hO hBw _ hag G a w hst (fun e => Post d ⟨sz, fr, up fun _ => false, own fun _ => false, dfs, rnd⟩ G0 w0 (K e))
                rw [show Fr ((St.mk sz (frY (fun j => listed.getD j false) 0 D fr) (up (bits tn fun j => listed.getD j false)) (own (bits tn fun j => listed.getD j false)) dfs rnd).rnd.map G.blk) = F from hFe] at this
                refine Oper.wpIn_mono ?_ this
                rintro a1 w1 ⟨G1, v, rfl, hr1, hk1, hv⟩
                exact hput G1 v w1 hr1 hk1 (by rw [hBw]; exact hv)
              | false =>
                rw [if_neg (by simp)]
                refine ⟨fun _ _ => by rw [← hFe]; trivial, ?_⟩
                exact hput G undef w hst (Keep.refl _ _ _) (by rw [hBw]; exact .v _ _)
  have hrf : ∀ j, (Array.replicate l.toArray.size false).getD j false = false := fun j => by
    rw [Array.getD_eq_getD_getElem?, Array.getElem?_replicate]
    split <;> rfl
  have hz : frY (fun j => (Array.replicate l.toArray.size false).getD j false) 0 D fr = fr := by
    funext t
    exact frY_none D 0 fr fun j v _ _ => hrf _
  have hz' : (bits tn fun j => (Array.replicate l.toArray.size false).getD j false) = fun _ => false := by
    funext p
    unfold bits
    cases tn[p]? with
    | none => rfl
    | some e => exact hrf e
  refine key _ _ _ _ G0 (by simp) ?_ (fun j hj hjl => hrf j) (fun i o hi => ?_) ?_ ?_
  · simp [List.countP_replicate]
  · rw [hrf] at hi; cases hi
  · rw [hz, hz']
    exact hr0.drew _
  · exact (drew_turn G0 w0 _).keep d

/-! ### In the text's order, segment by segment -/
inductive SegY where
  | q (n : Nat) (T F : List Nat)
  | s (W : List Nat) (t : Option Nat) (T F : List Nat)
def SegY.inf : SegY → List Inf
  | .q n T F => List.replicate n ⟨none, none, T, F⟩
  | .s W t T F => [⟨some W, t, T, F⟩]
def infsY : List SegY → List Inf
  | [] => []
  | x :: r => x.inf ++ infsY r

def ChainY (P : Program) (d : Nat) (l0 : List Oper) (sz : Nat) (up own : (Nat → Bool) → List AObj) (dfs : List Nat) (rnd : Option Nat) (E : List Oper → (Nat → AV) → Prop) : List SegY → List Oper → (Nat → AV) → Prop
  | [], l, fr => E l fr
  | .q n T F :: S, l, fr => (∀ p ∈ T, p ∉ F) ∧ ∃ l2 F2, (∀ B : Nat → Bool, (∀ p ∈ T, B p = true) → (∀ p ∈ F, B p = false) → ADraw P d l0 sz (up B) (own B) dfs rnd (fun l' f => l' = l2 ∧ f = F2) n l fr) ∧ ChainY P d l0 sz up own dfs rnd E S l2 F2
  | .s W t T F :: S, l, fr => ∃ o l2 ws, l = o :: l2 ∧ OpY P d l0 sz up own dfs rnd ⟨some W, t, T, F⟩ o fr ws ∧ ChainY P d l0 sz up own dfs rnd E S l2 (setWs ws fr)

theorem ChainY.data {l0 : List Oper} {up own : (Nat → Bool) → List AObj} {E : List Oper → (Nat → AV) → Prop} : ∀ (S : List SegY) (l : List Oper) (fr : Nat → AV),
    (∀ (i j : Nat) (o z : Oper) (x y : Inf) (s : Nat), l[i]? = some o → l[j]? = some z → (infsY S)[i]? = some x → (infsY S)[j]? = some y → x.W = none → y.W = none → s ∈ slY o x → s ∈ slY z y → j = i) →
    ChainY P d l0 sz up own dfs rnd E S l fr → ∃ D : List (List (Nat × AV)), D.length = (infsY S).length ∧ D.length ≤ l.length ∧
      (∀ (i : Nat) (o : Oper) (x : Inf), l[i]? = some o → (infsY S)[i]? = some x → ∃ ws, D[i]? = some ws ∧ OpY P d l0 sz up own dfs rnd x o (frY (fun _ => true) 0 (D.take i) fr) ws) ∧
      E (l.drop D.length) (frY (fun _ => true) 0 D fr)
  | [], l, fr, U, h => ⟨[], rfl, Nat.zero_le _, fun i o x _ hx => by simp [infsY] at hx, h⟩
  | .q n T F :: S, l, fr, U, ⟨hTF, l2, F2, hA, h⟩ => by
    obtain ⟨D1, hD1, hk1, ho1, hl1, hF1⟩ := ADraw.data n l fr (hA (fun p => T.elem p) (fun p hp => List.elem_iff.2 hp) (fun p hp => by
      cases hv : T.elem p with
      | false => rfl
      | true => exact absurd hp (hTF p (List.elem_iff.1 hv))))
    have hI : ∀ i, i < n → (infsY (.q n T F :: S))[i]? = some ⟨none, none, T, F⟩ := fun i hi' => by
      show (List.replicate n _ ++ infsY S)[i]? = _
      rw [List.getElem?_append_left (by simpa using hi'), List.getElem?_replicate, if_pos hi']
    have hI2 : ∀ i, (infsY (.q n T F :: S))[n + i]? = (infsY S)[i]? := fun i => by
      show (List.replicate n _ ++ infsY S)[n + i]? = _
      rw [List.getElem?_append_right (by simp)]
      simp
    have hl2 : ∀ i, l2[i]? = l[n + i]? := fun i => by rw [← hl1, List.getElem?_drop]
    have hq : ∀ (i : Nat) (o : Oper), i < n → l[i]? = some o → ∃ s y, D1[i]? = some (s, y) ∧ o.dst = some s ∧ s < sz ∧ ∀ B : Nat → Bool, (∀ p ∈ T, B p = true) → (∀ p ∈ F, B p = false) → OpD P d l0 o sz (frL (fun _ => true) 0 (D1.take i) fr) (up B) (own B) dfs rnd y := by
      intro i o hin ho
      obtain ⟨s, y, c1, c2, c3, _⟩ := ho1 i o hin ho
      refine ⟨s, y, c1, c2, c3, fun b hb1 hb2 => ?_⟩
      obtain ⟨D1', hD1', _, ho1', _, hF1'⟩ := ADraw.data n l fr (hA b hb1 hb2)
      have same : D1 = D1' := by
        refine draw_same (f := fr) (by omega) (fun i s s' y y' e1 e2 => ?_) (fun i j s y y' e1 e2 => ?_) (by rw [hF1, hF1'])
        · have hi := (List.getElem?_eq_some_iff.1 e1).1
          have hz : l[i]? = some (l[i]'(by omega)) := List.getElem?_eq_getElem (by omega)
          obtain ⟨a, b, c1, c2, _⟩ := ho1 i _ (by omega) hz
          obtain ⟨a', b', c1', c2', _⟩ := ho1' i _ (by omega) hz
          rw [e1] at c1; rw [e2] at c1'; rw [c2] at c2'
          simp only [Option.some.injEq, Prod.mk.injEq] at c1 c1' c2'
          omega
        · have hi := (List.getElem?_eq_some_iff.1 e1).1
          have hj := (List.getElem?_eq_some_iff.1 e2).1
          have hz : l[i]? = some (l[i]'(by omega)) := List.getElem?_eq_getElem (by omega)
          have hz' : l[j]? = some (l[j]'(by omega)) := List.getElem?_eq_getElem (by omega)
          obtain ⟨a, b, c1, c2, _⟩ := ho1 i _ (by omega) hz
          obtain ⟨a', b', c1', c2', _⟩ := ho1 j _ (by omega) hz'
          rw [e1] at c1; rw [e2] at c1'
          simp only [Option.some.injEq, Prod.mk.injEq] at c1 c1'
          refine (U i j _ _ _ _ s hz hz' (hI i (by omega)) (hI j (by omega)) rfl rfl ?_ ?_).symm
          · simp [slY, c2, c1.1]
          · simp [slY, c2', c1'.1]
      subst same
      obtain ⟨s', y', d1, _, _, d4⟩ := ho1' i o hin ho
      rw [c1] at d1
      simp only [Option.some.injEq, Prod.mk.injEq] at d1
      obtain ⟨rfl, rfl⟩ := d1
      exact d4
    obtain ⟨D2, hD2, hk2, ho2, hE⟩ := ChainY.data S l2 F2 (fun i j o z x y s h1 h2 h3 h4 n1 n2 h5 h6 => by
      have := U (n + i) (n + j) o z x y s (by rw [← hl2]; exact h1) (by rw [← hl2]; exact h2) (by rw [hI2]; exact h3) (by rw [hI2]; exact h4) n1 n2 h5 h6
      omega) h
    have hlen2 : l2.length = l.length - n := by rw [← hl1]; simp
    refine ⟨D1.map (fun x => [x]) ++ D2, ?_, ?_, fun i o x ho hx => ?_, ?_⟩
    · show _ = (List.replicate n _ ++ infsY S).length
      simp [hD1, hD2]
    · simp only [List.length_append, List.length_map]
      omega
    · by_cases hin : i < n
      · rw [hI i hin] at hx
        injection hx with hx
        subst hx
        obtain ⟨s, y, c1, c2, c3, c4⟩ := hq i o hin ho
        refine ⟨[(s, y)], ?_, rfl, s, y, rfl, c2, c3, fun b h1 h2 => ?_⟩
        · rw [List.getElem?_append_left (by simp; omega), List.getElem?_map, c1]; rfl
        · rw [List.take_append_of_le_length (by simp; omega), ← List.map_take, frY_map]
          exact c4 b h1 h2
      · obtain ⟨j, rfl⟩ : ∃ j, i = n + j := ⟨i - n, by omega⟩
        rw [hI2] at hx
        rw [← hl2] at ho
        obtain ⟨ws, c1, c2⟩ := ho2 j o x ho hx
        refine ⟨ws, ?_, ?_⟩
        · rw [List.getElem?_append_right (by simp; omega), List.length_map, hD1, show n + j - n = j by omega]; exact c1
        · have : (D1.map (fun x => [x]) ++ D2).take (n + j) = D1.map (fun x => [x]) ++ D2.take j := by
            rw [List.take_append, List.take_of_length_le (by simp; omega), List.length_map, hD1, show n + j - n = j by omega]
          rw [this, frY_app, frY_map, hF1]
          exact c2
    · rw [frY_app, frY_map, hF1, List.length_append, List.length_map, hD1, ← List.drop_drop, hl1]
      exact hE
  | .s W t T F :: S, l, fr, U, ⟨o, l2, ws, hl, hO, h⟩ => by
    subst hl
    obtain ⟨D2, hD2, hk2, ho2, hE⟩ := ChainY.data S l2 _ (fun i j o' z x y s h1 h2 h3 h4 n1 n2 h5 h6 => by
      have := U (i + 1) (j + 1) o' z x y s (by simpa using h1) (by simpa using h2) (by simpa [infsY, SegY.inf] using h3) (by simpa [infsY, SegY.inf] using h4) n1 n2 h5 h6
      omega) h
    refine ⟨ws :: D2, ?_, ?_, fun i o' x ho hx => ?_, ?_⟩
    · show _ = ([_] ++ infsY S).length
      simp [hD2]
    · simp; omega
    · cases i with
      | zero =>
        have e1 : o = o' := by simpa using ho
        have e2 : (⟨some W, t, T, F⟩ : Inf) = x := by simpa [infsY, SegY.inf] using hx
        subst e1; subst e2
        exact ⟨ws, rfl, hO⟩
      | succ i =>
        obtain ⟨v, c1, c2⟩ := ho2 i o' x (by simpa using ho) (by simpa [infsY, SegY.inf] using hx)
        refine ⟨v, by simpa using c1, ?_⟩
        rw [List.take_succ_cons, frY_cons, if_pos rfl, frY_shift _ _ 0]
        exact c2
    · rw [frY_cons, if_pos rfl, frY_shift _ _ 0]
      simpa using hE

theorem AW.chainY {id : Nat} {l : List Oper} {tn : List Nat} {S : List SegY} {up own : (Nat → Bool) → List AObj} {up0 own0 : List AObj} {fr : Nat → AV} {K : Exit → St → Prop} (M : List Nat) (hm : P.follows .mixedOrders = true) (hok : okY l tn (infsY S) M = true)
    (h0 : up (fun _ => false) = up0) (h0' : own (fun _ => false) = own0) (hlen : ∀ B, (up B).length = up0.length)
    (h : ChainY P d l sz up own dfs rnd (fun l' f => ARun P d l.toArray l' ⟨sz, f, up (fun p => decide (p < tn.length)), own (fun p => decide (p < tn.length)), dfs, rnd⟩ (K .normal)) S l fr) :
    AW P d (.region id l.toArray true) ⟨sz, fr, up0, own0, dfs, rnd⟩ K := by
  subst h0; subst h0'
  obtain ⟨D, h1, h2, h3, h4⟩ := ChainY.data S l fr (fun i j o z x y s h1 h2 h3 h4 n1 n2 h5 h6 => ((okY_spec hok).uniq i j o z x y s h1 h2 h3 h4 h5 h6).resolve_right (fun h => h.1 ⟨n1, n2⟩)) h
  refine AW.drawY M hm hok h1 hlen h3 ?_
  rw [← h1]
  exact h4
end

/-! ### In the form in which scripts apply them -/
section
variable {P : Program} {d : Nat} {sz : Nat} {dfs : List Nat} {rnd : Option Nat} {l0 : List Oper} {up own : (Nat → Bool) → List AObj} {E : List Oper → (Nat → AV) → Prop} {S : List SegY} {l : List Oper} {fr : Nat → AV} {ty : TypeId} {pos : String} {aft : Array Edge} {s : Nat} {T F : List Nat}

theorem W.drawY {id : Nat} {y : Code} {up0 own0 : List AObj} {K : Exit → St → Prop} (M : List Nat) (tn : List Nat) (S : List SegY) (up own : (Nat → Bool) → List AObj) (hm : P.follows .mixedOrders = true) (hok : okY l tn (infsY S) M = true)
    (h0 : up (fun _ => false) = up0) (h0' : own (fun _ => false) = own0) (hlen : ∀ B, (up B).length = up0.length)
    (h : ChainY P d l sz up own dfs rnd (fun l' f => ARun P d l.toArray l' ⟨sz, f, up (fun p => decide (p < tn.length)), own (fun p => decide (p < tn.length)), dfs, rnd⟩ (fun s => AW P d y s K)) S l fr) :
    AW P d (.seq (.region id l.toArray true) y) ⟨sz, fr, up0, own0, dfs, rnd⟩ K := AW.seq (AW.chainY M hm hok h0 h0' hlen h)
theorem W.drawY0 {id : Nat} {up0 own0 : List AObj} {K : Exit → St → Prop} (M : List Nat) (tn : List Nat) (S : List SegY) (up own : (Nat → Bool) → List AObj) (hm : P.follows .mixedOrders = true) (hok : okY l tn (infsY S) M = true)
    (h0 : up (fun _ => false) = up0) (h0' : own (fun _ => false) = own0) (hlen : ∀ B, (up B).length = up0.length)
    (h : ChainY P d l sz up own dfs rnd (fun l' f => ARun P d l.toArray l' ⟨sz, f, up (fun p => decide (p < tn.length)), own (fun p => decide (p < tn.length)), dfs, rnd⟩ (K .normal)) S l fr) :
    AW P d (.region id l.toArray true) ⟨sz, fr, up0, own0, dfs, rnd⟩ K := AW.chainY M hm hok h0 h0' hlen h
theorem Y.q {n : Nat} {l2 : List Oper} {F2 : Nat → AV} (h1 : ∀ B : Nat → Bool, (∀ p ∈ T, B p = true) → (∀ p ∈ F, B p = false) → ADraw P d l0 sz (up B) (own B) dfs rnd (fun l' f => l' = l2 ∧ f = F2) n l fr) (h2 : ChainY P d l0 sz up own dfs rnd E S l2 F2) (hTF : ∀ p ∈ T, p ∉ F := by decide) :
    ChainY P d l0 sz up own dfs rnd E (.q n T F :: S) l fr := ⟨hTF, l2, F2, h1, h2⟩
theorem Y.tail {tn : List Nat} {Q : St → Prop} {U O : List AObj} (h : ARun P d l0.toArray l ⟨sz, fr, U, O, dfs, rnd⟩ Q) (hU : up (fun p => decide (p < tn.length)) = U := by rfl) (hO : own (fun p => decide (p < tn.length)) = O := by rfl) : ChainY P d l0 sz up own dfs rnd (fun l' f => ARun P d l0.toArray l' ⟨sz, f, up (fun p => decide (p < tn.length)), own (fun p => decide (p < tn.length)), dfs, rnd⟩ Q) [] l fr := by
  subst hU; subst hO; exact h
theorem AOp.eqTo {o : Oper} {st s1 s2 : St} (h : AOp P d o st (· = s1)) (e : s1 = s2) : AOp P d o st (· = s2) := e ▸ h
theorem Y.moveT {r : Nat} {y z : AV} (h : ChainY P d l0 sz up own dfs rnd E S l (setF s y (setF r z fr))) (hx : fr r = y := by simp only [go_sem, ↓reduceIte, Nat.reduceEqDiff, Nat.reduceAdd] <;> rfl) (hz : y.strip = z := by simp only [go_sem, ↓reduceIte, Nat.reduceEqDiff, Nat.reduceAdd] <;> rfl) (hs : Nat.blt s sz = true := by rfl) :
    ChainY P d l0 sz up own dfs rnd E (.s [r, s] none T F :: S) (⟨some s, .move (.tmp r), ty, pos, aft, none⟩ :: l) fr := by
  subst hz
  subst hx
  refine ⟨_, l, [(r, (fr r).strip), (s, fr r)], rfl, ⟨rfl, rfl, fun B f _ _ _ hf => ?_⟩, h⟩
  have e : f r = fr r := hf r (by simp [lk, tmpsOf, Op.operands])
  have := AOp.moveT (P := P) (d := d) (ty := ty) (pos := pos) (aft := aft) (gd := none) (st := ⟨sz, f, up B, own B, dfs, rnd⟩) (r := r) (s := s) (by simpa using hs)
  refine AOp.eqTo this ?_
  simp only [St.set, e]
  rfl
theorem Y.assignT {r : Nat} {y z : AV} (h : ChainY P d l0 sz up own dfs rnd E S l (setF s y (setF r z fr))) (hx : fr r = y := by simp only [go_sem, ↓reduceIte, Nat.reduceEqDiff, Nat.reduceAdd] <;> rfl) (hz : y.strip = z := by simp only [go_sem, ↓reduceIte, Nat.reduceEqDiff, Nat.reduceAdd] <;> rfl) (hs : Nat.blt s sz = true := by rfl) :
    ChainY P d l0 sz up own dfs rnd E (.s [r, s] none T F :: S) (⟨some s, .assign (.tmp r), ty, pos, aft, none⟩ :: l) fr := by
  subst hz
  subst hx
  refine ⟨_, l, [(r, (fr r).strip), (s, fr r)], rfl, ⟨rfl, rfl, fun B f _ _ _ hf => ?_⟩, h⟩
  have e : f r = fr r := hf r (by simp [lk, tmpsOf, Op.operands])
  have := AOp.assignT (P := P) (d := d) (ty := ty) (pos := pos) (aft := aft) (gd := none) (st := ⟨sz, f, up B, own B, dfs, rnd⟩) (r := r) (s := s) (by simpa using hs)
  refine AOp.eqTo this ?_
  simp only [St.set, e]
  rfl
/-- The p-th of those that turn the heap: it takes what a cell of an object of whoever waits owns. -/
theorem Y.loadUpT {t t' : TypeId} {p : Operand} {o off pn : Nat} {y z : AV} {cs cs' : List AV} (hagg : ∀ w, (isAgg t).run P w = .ok false w)
    (hU : ∀ B : Nat → Bool, B pn = false → (up B)[o]? = some (.cells t' cs) ∧ up (upd B pn) = (up B).set o (.cells t' cs') ∧ own (upd B pn) = own B)
    (h : ChainY P d l0 sz up own dfs rnd E S l (setF s y fr)) 
    (hp : frEv fr p = .ptr o off := by simp only [go_sem, ↓reduceIte, Nat.reduceEqDiff, Nat.reduceAdd] <;> rfl) (hy : cs[off]? = some y := by rfl) (hz : y.strip = z := by simp only [go_sem, ↓reduceIte, Nat.reduceEqDiff, Nat.reduceAdd] <;> rfl) (hcs : cs.set off z = cs' := by simp only [go_sem, ↓reduceIte, Nat.reduceEqDiff, Nat.reduceAdd] <;> rfl) (hs : Nat.blt s sz = true := by rfl) :
    ChainY P d l0 sz up own dfs rnd E (.s [s] (some pn) T F :: S) (⟨some s, .load t p, ty, pos, aft, none⟩ :: l) fr := by
  subst hz
  subst hcs
  refine ⟨_, l, [(s, y)], rfl, ⟨rfl, rfl, fun B f _ _ hB hf => ?_⟩, h⟩
  obtain ⟨a1, a2, a3⟩ := hU B (hB pn rfl)
  have e : frEv f p = .ptr o off := by rw [agr hf (by simp [Op.operands])]; exact hp
  refine AOp.eqTo (AOp.loadUpT (st := ⟨sz, f, up B, own B, dfs, rnd⟩) hagg e a1 hy (by simpa using hs)) ?_
  show _ = St.mk sz (setWs [(s, y)] f) (up (upd B pn)) (own (upd B pn)) dfs rnd
  rw [a2, a3]
  rfl
/-- The p-th of those that turn the heap: a call that turns one object. -/
theorem Y.callVUp {f0 : Operand} {g : FuncId} {xs : List Operand} {ats : Array TypeId} {first caps args : List AV} {r : AV} {o pn : Nat} {x x0 : AObj} (hcall : ∀ args w, (callFunc g args).run P w = .ok (.enter g args) w)
    (hU : ∀ B : Nat → Bool, (∀ p ∈ T, B p = true) → (∀ p ∈ F, B p = false) → B pn = false → (up B)[o]? = some x0 ∧ up (upd B pn) = (up B).set o x ∧ own (upd B pn) = own B ∧ ObjLow (up B).length x ∧ ACall P g args (up B ++ own B) (fun y H' => y = r ∧ H' = (up B ++ own B).set o x))
    (h : ChainY P d l0 sz up own dfs rnd E S l (setF s r fr)) (hx0' : x0 ≠ .defs := by simp)
    (hf0 : frEv fr f0 = .fn (.func g) first caps := by simp only [go_sem, ↓reduceIte, Nat.reduceEqDiff, Nat.reduceAdd] <;> rfl) (ha : first ++ xs.map (frEv fr) ++ caps = args := by simp only [go_sem, ↓reduceIte, Nat.reduceEqDiff, Nat.reduceAdd] <;> rfl) (hs : Nat.blt s sz = true := by rfl) :
    ChainY P d l0 sz up own dfs rnd E (.s [s] (some pn) T F :: S) (⟨some s, .call ⟨.value f0, xs.toArray, ats⟩, ty, pos, aft, none⟩ :: l) fr := by
  refine ⟨_, l, [(s, r)], rfl, ⟨rfl, rfl, fun B f hT hF hB hf => ?_⟩, h⟩
  obtain ⟨a1, a2, a3, a4, a5⟩ := hU B hT hF (hB pn rfl)
  have hlt := (List.getElem?_eq_some_iff.1 a1).1
  have e : first ++ xs.map (frEv f) ++ caps = args := by rw [agrL hf (fun x hx => by simp [Op.operands, Call.operands, hx])]; exact ha
  have e0 : frEv f f0 = .fn (.func g) first caps := by rw [agr hf (by simp [Op.operands, Call.operands])]; exact hf0
  refine AOp.callG (st := ⟨sz, f, up B, own B, dfs, rnd⟩) (first := first) (caps := caps) hcall e0 (by rw [← e] <;> rfl) a5 (by simpa using hs) (fun y H' _ hy => ?_)
  obtain ⟨rfl, rfl⟩ := hy
  refine ⟨(up B).set o x, own B, set_append_up hlt, by simp, fun h => by simp only [List.length_set] at h ⊢; exact objLow_set h a4, fun hd o' ho => ?_, ?_⟩
  · have := hd o' ho
    rw [← set_append_up hlt, List.getElem?_set]
    split
    · rename_i e
      subst e
      rw [get_up a1] at this
      injection this with this
      exact absurd this hx0'
    · exact this
  · show St.mk sz (setF s y f) ((up B).set o x) (own B) dfs rnd = St.mk sz (setWs [(s, y)] f) (up (upd B pn)) (own (upd B pn)) dfs rnd
    rw [a2, a3]
    rfl
theorem Y.callUp {g : FuncId} {xs : List Operand} {ats : Array TypeId} {args : List AV} {r : AV} {o pn : Nat} {x x0 : AObj} (hcall : ∀ args w, (callFunc g args).run P w = .ok (.enter g args) w)
    (hU : ∀ B : Nat → Bool, (∀ p ∈ T, B p = true) → (∀ p ∈ F, B p = false) → B pn = false → (up B)[o]? = some x0 ∧ up (upd B pn) = (up B).set o x ∧ own (upd B pn) = own B ∧ ObjLow (up B).length x ∧ ACall P g args (up B ++ own B) (fun y H' => y = r ∧ H' = (up B ++ own B).set o x))
    (h : ChainY P d l0 sz up own dfs rnd E S l (setF s r fr)) (hx0' : x0 ≠ .defs := by simp)
    (ha : xs.map (frEv fr) = args := by simp only [go_sem, ↓reduceIte, Nat.reduceEqDiff, Nat.reduceAdd] <;> rfl) (hs : Nat.blt s sz = true := by rfl) :
    ChainY P d l0 sz up own dfs rnd E (.s [s] (some pn) T F :: S) (⟨some s, .call ⟨.value (.func g), xs.toArray, ats⟩, ty, pos, aft, none⟩ :: l) fr :=
  Y.callVUp (f0 := .func g) (first := []) (caps := []) hcall hU h hx0' rfl (by rw [← ha]; simp) hs
theorem Y.append {t e : TypeId} {i : TypeInfo} {z : Value} {k r : Nat} {x : Operand} {o2 : Bool} {b z' y : AV} {xs ys zs : List AV} (hu : P.underlying t = some (.slice e)) (hi' : P.info? e = some i) (hl : (xs.length + ys.length) * i.bytes ≤ 140737488355328) (hl2 : xs.length + ys.length ≤ 4611686018427387904)
    (h : ChainY P d l0 sz up own dfs rnd E S l (setF s (.slice true k zs) (setF r z' fr)))
    (hz : i.zero = some z := by rfl) (hsz : i.size = k := by rfl) (hzk : z.cells.size = k := by rfl) (hk : 0 < k := by decide) (hb : fr r = b := by simp only [go_sem, ↓reduceIte, Nat.reduceEqDiff, Nat.reduceAdd] <;> rfl) (hb' : AsSl b true k xs := by first | exact .inl rfl | exact .inr ⟨rfl, rfl⟩)
    (hx : frEv fr x = y := by simp only [go_sem, ↓reduceIte, Nat.reduceEqDiff, Nat.reduceAdd] <;> rfl) (hx' : AsSl y o2 k ys := by first | exact .inl rfl | exact .inr ⟨rfl, rfl⟩) (hrs : s ≠ r := by decide) (hz' : b.strip = z' := by simp only [go_sem, ↓reduceIte, Nat.reduceEqDiff, Nat.reduceAdd] <;> rfl) (hzs : xs ++ ys = zs := by first | rfl | (simp only [go_sem, ↓reduceIte, Nat.reduceEqDiff, Nat.reduceAdd] <;> rfl)) (hs : Nat.blt s sz = true := by rfl) :
    ChainY P d l0 sz up own dfs rnd E (.s [r, s] none T F :: S) (⟨some s, .call ⟨.builtin .append, #[.tmp r, x], #[t, t]⟩, ty, pos, aft, none⟩ :: l) fr := by
  subst hzs
  subst hz'
  subst hb
  refine ⟨_, l, [(r, (fr r).strip), (s, .slice true k (xs ++ ys))], rfl, ⟨rfl, rfl, fun B f _ _ _ hf => ?_⟩, h⟩
  have e : f r = fr r := hf r (by simp [lk, tmpsOf, Op.operands, Call.operands])
  have ex : frEv f x = y := by rw [agr hf (by simp [Op.operands, Call.operands])]; exact hx
  refine AOp.eqTo (AOp.append (st := ⟨sz, f, up B, own B, dfs, rnd⟩) (r := r) hu hi' hz hsz rfl hzk hk (by show AsSl (f r) _ _ _; rw [e]; exact hb') (by show AsSl (frEv f x) _ _ _; rw [ex]; exact hx') hrs (by simpa using hs) hl hl2) ?_
  simp only [St.set, e]
  rfl
end
section
variable {P : Program} {d : Nat} {sz : Nat} {up own : List AObj} {dfs : List Nat} {rnd : Option Nat} {l0 rest : List Oper} {E : List Oper → (Nat → AV) → Prop} {fr : Nat → AV} {kd s : Nat} {ty : TypeId} {pos : String} {aft : Array Edge}
theorem D.buildSlice {t e : TypeId} {k len : Nat} {z : Value} {parts : List (Nat × Operand)} {ys : List AV} (hu : P.underlying t = some (.slice e)) (hsz : ∀ w, (Go.sizeOf e).run P w = .ok k w) (hz : ∀ w, (zeroValue e).run P w = .ok z w)
    (hr : ADraw P d l0 sz up own dfs rnd E kd rest (setF s (.slice false k ys) fr)) (hp : parts.toArray = (((parts.map Prod.snd).zipIdx).map fun x => (x.2, x.1)).toArray := by rfl) (hev : (parts.map Prod.snd).map (frEv fr) = ys := by simp only [go_sem, ↓reduceIte, Nat.reduceEqDiff, Nat.reduceAdd] <;> rfl)
    (hk : ys.all (fun y => decide (y.cells.length = k) && y.cells.all AV.one) = true := by simp [go_sem]) (hl : len = ys.length := by rfl) (hlen : ys.length * k ≤ 16777216 := by simp only [go_sem, ↓reduceIte, Nat.reduceEqDiff, Nat.reduceAdd] <;> omega) (hs : Nat.blt s sz = true := by rfl) :
    ADraw P d l0 sz up own dfs rnd E (kd + 1) (⟨some s, .buildSlice t len parts.toArray, ty, pos, aft, none⟩ :: rest) fr := by
  have h2 : ∀ y ∈ ys, y.cells.length = k ∧ y.cells.all AV.one = true := fun y hy => by simpa using List.all_eq_true.1 hk y hy
  refine ⟨s, _, rfl, by simpa using hs, fun f0 hag => ?_, hr⟩
  have e1 : (parts.map Prod.snd).map (frEv f0) = ys := by
    rw [agrL hag (fun x hx => by simp [Op.operands] at hx ⊢; exact hx)]; exact hev
  exact OpV.buildSlice (st := ⟨sz, f0, up, own, dfs, rnd⟩) hu hsz hz e1 (fun y hy => (h2 y hy).1) (fun y hy c hc => List.all_eq_true.1 (h2 y hy).2 c hc) hlen hl hp
variable {ops : Array Oper} {Q : St → Prop}
theorem G.build {t : TypeId} {fs : Array Field} {places : Array (Nat × Nat)} {parts : List (Nat × Operand)} {z : Value} {zs cs : List AV} {ys : List (Nat × AV)} {oj : Oper} {j g : Nat} {want C : Bool} (hu : P.underlying t = some (.struct fs))
    (hpl : ∀ w, (fs.mapM (m := Sem) fun f => do Pure.pure (f.offset, ← Go.sizeOf f.type)).run P w = .ok places w) (hz : ∀ w, (zeroValue t).run P w = .ok z w) (hr : ARun P d ops rest ⟨sz, setF s (gAV C (.agg cs)) fr, up, own, dfs, rnd⟩ Q)
    (hj : ops[j]? = some oj := by rfl) (hdj : oj.dst = some g := by rfl) (hgs : GIs (fr g) want C := by simp only [go_sem, ↓reduceIte, Nat.reduceEqDiff, Nat.reduceAdd] <;> first | exact GIs.v _ _ | exact GIs.g _ _ _)
    (hzs : z.cells.toList.map constAV = zs := by simp only [go_sem, ↓reduceIte, Nat.reduceEqDiff, Nat.reduceAdd] <;> rfl) (hone : zs.all AV.one = true := by simp only [go_sem, ↓reduceIte, Nat.reduceEqDiff, Nat.reduceAdd]) (hys : C = true → (parts.map fun p => (p.1, frEv fr p.2)) = ys := by intro hB; simp only [go_sem, hB, ↓reduceIte, Nat.reduceEqDiff, Nat.reduceAdd] <;> rfl)
    (hf : fillAV (fun i => places[i]?) zs ys = some cs := by simp [fillAV, go_sem] <;> rfl) (hs : Nat.blt s sz = true := by rfl) :
    ARun P d ops (⟨some s, .build t parts.toArray, ty, pos, aft, some (j, want)⟩ :: rest) ⟨sz, fr, up, own, dfs, rnd⟩ Q :=
  ARun.guardC rfl hj hdj hgs rfl hs (fun hB => by have e := hys hB; subst e; exact OpV.build hu hpl hz hzs.symm hone hf) hr
/-- A guarded operation that turns the heap, whatever the guard says. -/
theorem ARun.guardA {o oj : Oper} {j g s : Nat} {want C : Bool} {rest : List Oper} {Q Q1 : St → Prop} (hg : o.guard = some (j, want)) (hj : ops[j]? = some oj) (hdj : oj.dst = some g)
    (hgs : GIs (fr g) want C) (hd : o.dst = some s) (hs : Nat.blt s sz = true) (h : C = true → AOp P d o ⟨sz, fr, up, own, dfs, rnd⟩ Q1) (hr : C = true → ∀ s', Q1 s' → ARun P d ops rest s' Q) (h0 : C = false → ARun P d ops rest ⟨sz, setF s (.v undef) fr, up, own, dfs, rnd⟩ Q) :
    ARun P d ops (o :: rest) ⟨sz, fr, up, own, dfs, rnd⟩ Q := by
  have hs : s < sz := by simpa using hs
  intro G a w hrel idx hidx
  cases idx with
  | nil => simp at hidx
  | cons i r =>
    simp only [List.map_cons, List.cons.injEq] at hidx
    simp only [wpOpsIn, hidx.1]
    have hw : Region.wanted o (yielded ops a.tmps) = C := wanted_is hrel hg hj hdj hgs
    rw [hw]
    cases C with
    | true =>
      rw [if_pos rfl]
      refine wpIn_kmono ?_ (h rfl G a w hrel _)
      rintro a1 w1 ⟨G1, s1, h1, k1, e1, e2, e3, hk⟩
      have := hr rfl s1 hk G1 a1 w1 h1 r hidx.2
      rw [fr_keep h1 (Keep.refl d _ _) rfl, fr_keep hrel k1 e2] at this
      exact opsIn_mono (fun e a' w' hp => ⟨hp.1, hp.2.next k1 e1 e2 e3⟩) r a1 w1 this
    | false =>
      rw [if_neg (by simp)]
      refine ⟨fun _ _ => trivial, ?_⟩
      rw [hd]
      exact h0 rfl G _ w (hrel.put (st := ⟨sz, fr, up, own, dfs, rnd⟩) hs (.v _ _)) r hidx.2
theorem G.yield {f : Operand} {xs : List Operand} {ats : Array TypeId} {l : Nat} {args : List AV} {post : Bool → List AObj → Prop} {oj : Oper} {j g : Nat} {want C : Bool} (h : C = true → AYield P l args (up ++ own) post)
    (hp : ∀ b U O, U.length = up.length → (C = true → post b (U ++ O)) → (C = false → U = up ∧ O = own) → ((∀ x ∈ up, ObjLow U.length x) → ∀ x ∈ U, ObjLow U.length x) ∧ (∀ o ∈ dfs, (up ++ own)[o]? = some .defs → (U ++ O)[o]? = some .defs) ∧ ARun P d ops rest ⟨sz, setF s (gAV C (.v (.bool b))) fr, U, O, dfs, rnd⟩ Q)
    (hj : ops[j]? = some oj := by rfl) (hdj : oj.dst = some g := by rfl) (hgs : GIs (fr g) want C := by simp only [go_sem, ↓reduceIte, Nat.reduceEqDiff, Nat.reduceAdd] <;> first | exact GIs.v _ _ | exact GIs.g _ _ _)
    (hf : C = true → frEv fr f = .yield l := by intro hB; simp only [go_sem, hB, ↓reduceIte, Nat.reduceEqDiff, Nat.reduceAdd] <;> rfl) (ha : C = true → xs.map (frEv fr) = args := by intro hB; simp only [go_sem, hB, ↓reduceIte, Nat.reduceEqDiff, Nat.reduceAdd] <;> rfl) (hs : Nat.blt s sz = true := by rfl) :
    ARun P d ops (⟨some s, .call ⟨.value f, xs.toArray, ats⟩, ty, pos, aft, some (j, want)⟩ :: rest) ⟨sz, fr, up, own, dfs, rnd⟩ Q := by
  refine ARun.guardA (Q1 := fun s' => ARun P d ops rest s' Q) rfl hj hdj hgs rfl hs (fun hB => AOp.yield (st := ⟨sz, fr, up, own, dfs, rnd⟩) (hf hB) (ha hB) (h hB) (by simpa using hs) (fun b H' hl hy => ?_)) (fun _ s' e => e) (fun hB => ?_)
  · have hl' : up.length ≤ H'.length := by rw [hl]; simp
    have e : H' = H'.take up.length ++ H'.drop up.length := (List.take_append_drop _ _).symm
    rw [e] at hy
    obtain ⟨h1, h2, h3⟩ := hp b _ _ (by simp; omega) (fun _ => hy) (fun e => by rw [hB] at e; cases e)
    refine ⟨_, _, e, by simp; omega, h1, fun hd o ho => h2 o ho (hd o ho), ?_⟩
    rw [hB] at h3
    exact h3
  · obtain ⟨_, _, h3⟩ := hp true up own rfl (fun e => by rw [hB] at e; cases e) (fun _ => ⟨rfl, rfl⟩)
    rw [hB] at h3
    exact h3
/-- A call of a function value that turns one object of whoever waits. -/
theorem R.callVUp {f : Operand} {g : FuncId} {xs : List Operand} {ats : Array TypeId} {first caps args : List AV} {r : AV} {i : Nat} {x x0 : AObj} (hcall : ∀ args w, (callFunc g args).run P w = .ok (.enter g args) w) (hi : up[i]? = some x0) (hx0' : x0 ≠ .defs) (hlow : ObjLow up.length x) (h : ACall P g args (up ++ own) (fun y H' => y = r ∧ H' = (up ++ own).set i x)) (hr : ARun P d ops rest ⟨sz, setF s r fr, up.set i x, own, dfs, rnd⟩ Q)
    (hf : frEv fr f = .fn (.func g) first caps := by simp only [go_sem, ↓reduceIte, Nat.reduceEqDiff, Nat.reduceAdd] <;> rfl) (ha : first ++ xs.map (frEv fr) ++ caps = args := by simp only [go_sem, ↓reduceIte, Nat.reduceEqDiff, Nat.reduceAdd] <;> rfl) (hs : Nat.blt s sz = true := by rfl) :
    ARun P d ops (⟨some s, .call ⟨.value f, xs.toArray, ats⟩, ty, pos, aft, none⟩ :: rest) ⟨sz, fr, up, own, dfs, rnd⟩ Q := by
  have hlt := (List.getElem?_eq_some_iff.1 hi).1
  refine ARun.op rfl (AOp.callG (st := ⟨sz, fr, up, own, dfs, rnd⟩) (Q := (· = ⟨sz, setF s r fr, up.set i x, own, dfs, rnd⟩)) (first := first) (caps := caps) hcall hf (by rw [← ha] <;> rfl) h (by simpa using hs) (fun y H' _ hy => ?_)) (fun s' e => by subst e; exact hr)
  obtain ⟨rfl, rfl⟩ := hy
  refine ⟨up.set i x, own, set_append_up hlt, by simp, fun h => by simp only [List.length_set] at h ⊢; exact objLow_set h hlow, fun hd o ho => ?_, rfl⟩
  have := hd o ho
  rw [← set_append_up hlt, List.getElem?_set]
  split
  · rename_i e
    subst e
    rw [get_up hi] at this
    injection this with this
    exact absurd this hx0'
  · exact this
end
end Go.SX
