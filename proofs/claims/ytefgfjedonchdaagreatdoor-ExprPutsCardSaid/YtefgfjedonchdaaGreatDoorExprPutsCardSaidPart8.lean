/- Texts on the way to this: ExprPuts answers true for whatever can be read: the card of the law. (part 8) -/
import Derived.Test.YtefgfjedonchdaaGreatDoorExprPutsCardSaidPart7
set_option linter.all false
namespace Go.SX.Nb
open Go Go.SX Go.Proofs
variable [ErrAt]
set_option maxRecDepth 4000
def dblC (c : UInt8) : Str := if c = 39 then [39, 39] else [c]
def dblM (t : Str) : Str := t.flatMap dblC
theorem dblM_len : ∀ t : Str, (dblM t).length ≤ 2 * t.length
  | [] => Nat.le_refl _
  | c :: r => by
    have := dblM_len r
    unfold dblM at this ⊢
    rw [List.flatMap_cons, List.length_append, List.length_cons]
    have h : (dblC c).length ≤ 2 := by unfold dblC; split <;> simp
    omega
theorem dblM_succ {t : Str} {x : Nat} (h : x < t.length) : dblM (t.take (x + 1)) = dblM (t.take x) ++ dblC t[x] := by
  unfold dblM
  rw [List.take_succ, List.getElem?_eq_getElem h, List.flatMap_append]
  simp
abbrev bytesA (l : Str) : AV := .slice true 1 (l.map u8A)
theorem hlb {t : Str} (ht : t.length ≤ 1048576) (x : Nat) : (dblM (t.take x)).length ≤ 2097152 := by
  have := dblM_len (t.take x)
  have h2 : (t.take x).length ≤ t.length := by rw [List.length_take]; omega
  omega
theorem c19 (t : Str) (ht : t.length ≤ 1048576) (Hp : List AObj) : AFun Tryz.prog 19 [valA ⟨2, 0, t⟩] Hp (strA ([39] ++ dblM t ++ [39])) := by
  refine ACall.body [.tmp 2] [0] Tryz.func19 Tryz.ntmps19 (fun d => ?_)
  refine AW.seqR ?_
  refine R.boxRo ?_
  refine R.assign ?_
  refine R.fin [1] ?_
  refine W.seq ?_
  refine AW.seqR ?_
  refine R.fieldAddrRo (off := 0) Tryz.underlying36 Tryz.sizeOf3 ?_
  refine R.loadRo Tryz.isAgg3 ?_
  refine R.fin [1, 6] ?_
  refine AW.block ?_
  refine AW.seqR ?_
  refine R.eql ?_
  refine R.assign ?_
  refine R.fin [1, 6, 7] ?_
  refine W.cond (fun ht7 => ?_) (fun ht7 => ?_)
  · skip
    exact absurd ht7 (by decide)
  · skip
    refine AW.seqR ?_
    refine R.eql ?_
    refine R.assign ?_
    refine R.fin [1, 6, 9] ?_
    refine W.cond (fun ht9 => ?_) (fun ht9 => ?_)
    · skip
      exact absurd ht9 (by decide)
    · skip
      refine AW.seqR ?_
      refine R.eql ?_
      refine R.assign ?_
      refine R.fin [1, 14] ?_
      refine W.cond (fun ht14 => ?_) (fun ht14 => ?_)
      · skip
        exact absurd ht14 (by decide)
      · skip
        refine AW.skip ?_
        refine K.blN ?_
        refine K.thN ?_
        refine AW.seqR ?_
        refine R.buildSlice Tryz.underlying95 Tryz.sizeOf5 Tryz.zeroValue5 ?_
        refine R.assignT ?_
        refine R.fin [1, 3] ?_
        refine W.seq ?_
        refine AW.seqR ?_
        refine R.assign ?_
        refine R.fin [1, 3, 4] ?_
        refine AW.loopC (α := Nat) (fun x => ⟨46, setF 1 (.ro [.v (.int .i64 2), .v (.int .i64 0), .v (sv t)]) (setF 3 (bytesA ([39] ++ dblM (t.take x))) (setF 4 (intA (x : Nat)) (fun _ => .any))), Hp, [], [], none⟩) (fun x => x ≤ t.length) (fun x => t.length - x) (0) (Nat.zero_le _) (StLe.refl _) rfl (fun x hx => ?_)
        refine W.seq ?_
        refine AW.seqR ?_
        refine R.move ?_
        refine R.fieldAddrRo (off := 2) Tryz.underlying36 Tryz.sizeOf9 ?_
        refine R.loadRo Tryz.isAgg9 ?_
        refine R.slen Tryz.underlying9 ?_
        refine R.lss ?_
        refine R.fin [1, 3, 4, 24] ?_
        refine W.cond (fun ht24 => ?_) (fun ht24 => ?_)
        · skip
          have hxl : x < t.length := by simp at ht24; omega
          have hb0 := hlb ht x
          refine AW.skip ?_
          refine K.thN ?_
          refine W.seq ?_
          refine AW.block ?_
          refine W.seq ?_
          refine AW.seqR ?_
          refine R.fieldAddrRo (off := 2) Tryz.underlying36 Tryz.sizeOf9 ?_
          refine R.loadRo Tryz.isAgg9 ?_
          refine R.move ?_
          refine R.sindex x t[x] Tryz.underlying9 (List.getElem?_eq_getElem hxl) ?_
          refine R.eql ?_
          refine R.fin [1, 3, 4, 31] ?_
          refine W.cond (fun ht31 => ?_) (fun ht31 => ?_)
          · skip
            have hc : t[x] = 39 := by
              have h31 : ((t[x].toNat : Int) == 39) = true := ht31
              exact UInt8.toNat_inj.1 (by have : (39 : UInt8).toNat = 39 := rfl; simp at h31; omega)
            refine AW.region ?_
            refine R.moveT ?_
            refine R.buildSlice Tryz.underlying95 Tryz.sizeOf5 Tryz.zeroValue5 ?_
            refine R.append Tryz.underlying95 Tryz.type5 ?_ ?_ ?_
            · simp [Tryz.t5] <;> omega
            · simp [Tryz.t5] <;> omega
            refine R.assignT ?_
            refine R.fin [1, 3, 4] ?_
            refine K.thN ?_
            refine AW.region ?_
            refine R.moveT ?_
            refine R.fieldAddrRo (off := 2) Tryz.underlying36 Tryz.sizeOf9 ?_
            refine R.loadRo Tryz.isAgg9 ?_
            refine R.move ?_
            refine R.sindex x t[x] Tryz.underlying9 (List.getElem?_eq_getElem hxl) ?_
            refine R.buildSlice Tryz.underlying95 Tryz.sizeOf5 Tryz.zeroValue5 ?_
            refine R.append Tryz.underlying95 Tryz.type5 ?_ ?_ ?_
            · simp [Tryz.t5] <;> omega
            · simp [Tryz.t5] <;> omega
            refine R.assignT ?_
            refine R.fin [1, 3, 4] ?_
            refine K.blN ?_
            refine K.thN ?_
            refine AW.region ?_
            refine R.move ?_
            refine R.add64 ?_
            refine R.assign ?_
            refine R.fin [1, 3, 4] ?_
            exact K.lpN (x + 1) hxl (by omega) (StCut.of_eq (by
              rw [dblM_succ hxl, dblC]
              first | rw [if_pos hc] | rw [if_neg hc]
              simp only [bytesA, List.map_append, List.map_cons, List.map_nil, List.append_assoc, List.cons_append, List.nil_append]
              try rw [hc]
              rfl))
          · skip
            have hc : t[x] ≠ 39 := fun e => by
              rw [e] at ht31
              exact absurd ht31 (by decide)
            refine AW.skip ?_
            refine K.thN ?_
            refine AW.region ?_
            refine R.moveT ?_
            refine R.fieldAddrRo (off := 2) Tryz.underlying36 Tryz.sizeOf9 ?_
            refine R.loadRo Tryz.isAgg9 ?_
            refine R.move ?_
            refine R.sindex x t[x] Tryz.underlying9 (List.getElem?_eq_getElem hxl) ?_
            refine R.buildSlice Tryz.underlying95 Tryz.sizeOf5 Tryz.zeroValue5 ?_
            refine R.append Tryz.underlying95 Tryz.type5 ?_ ?_ ?_
            · simp [Tryz.t5] <;> omega
            · simp [Tryz.t5] <;> omega
            refine R.assignT ?_
            refine R.fin [1, 3, 4] ?_
            refine K.blN ?_
            refine K.thN ?_
            refine AW.region ?_
            refine R.move ?_
            refine R.add64 ?_
            refine R.assign ?_
            refine R.fin [1, 3, 4] ?_
            exact K.lpN (x + 1) hxl (by omega) (StCut.of_eq (by
              rw [dblM_succ hxl, dblC]
              first | rw [if_pos hc] | rw [if_neg hc]
              simp only [bytesA, List.map_append, List.map_cons, List.map_nil, List.append_assoc, List.cons_append, List.nil_append]
              try rw [hc]
              rfl))
        · skip
          have hxe : x = t.length := by simp at ht24; omega
          have hb0 := hlb ht x
          have hdt : dblM (t.take x) = dblM t := by rw [hxe, List.take_length]
          rw [hdt] at hb0 ⊢
          refine AW.exit ?_
          refine K.thE ?_
          refine K.lpE ?_
          refine K.thN ?_
          refine AW.seqR ?_
          refine R.moveT ?_
          refine R.buildSlice Tryz.underlying95 Tryz.sizeOf5 Tryz.zeroValue5 ?_
          refine R.append Tryz.underlying95 Tryz.type5 ?_ ?_ ?_
          · simp [Tryz.t5] <;> omega
          · simp [Tryz.t5] <;> omega
          refine R.bytesStr ([39] ++ dblM t ++ [39]) Tryz.underlying95 Tryz.underlying5 Tryz.underlying9 (hx := by simp only [go_sem, ↓reduceIte, Nat.reduceEqDiff, Nat.reduceAdd, List.map_append, List.map_cons, List.map_nil, List.cons_append, List.nil_append] <;> rfl) ?_
          refine R.assign ?_
          refine R.fin [2] ?_
          refine AW.ret ?_
          exact K.fin (V.one V.tmp)

end Go.SX.Nb
namespace Go.SX.Nb
open Go Go.SX Go.Proofs
variable [ErrAt]
set_option maxRecDepth 4000
theorem dblM_cons (c : UInt8) (r : Str) : dblM (c :: r) = dblC c ++ dblM r := by unfold dblM; rw [List.flatMap_cons]
theorem split39 : ∀ s : Str, (Lib.index s [39] = -1 ∧ dblM s = s) ∨ ∃ i : Nat, Lib.index s [39] = (i : Int) ∧ i < s.length ∧ dblM s = s.take i ++ [39, 39] ++ dblM (s.drop (i + 1))
  | [] => .inl ⟨rfl, rfl⟩
  | b :: l => by
    by_cases hb : b = 39
    · subst hb
      refine .inr ⟨0, by simp [Lib.index, List.isPrefixOf], by simp, ?_⟩
      rw [dblM_cons]
      simp [dblC]
    · have hp : ([39] : Str).isPrefixOf (b :: l) = false := by
        simp [List.isPrefixOf, Ne.symm hb]
      have hd : dblM (b :: l) = b :: dblM l := by
        rw [dblM_cons, dblC, if_neg hb]
        rfl
      rcases split39 l with ⟨h1, h2⟩ | ⟨i, h1, h2, h3⟩
      · refine .inl ⟨?_, by rw [hd, h2]⟩
        rw [Lib.index, hp, h1]; rfl
      · refine .inr ⟨i + 1, ?_, by simp; omega, ?_⟩
        · rw [Lib.index, hp, h1, if_neg (by simp), if_neg (by simp)]
          rfl
        · rw [hd, h3]
          simp
theorem replaceK_dbl : ∀ (n : Nat) (s : Str), s.length ≤ n → Lib.replaceK [39] [39, 39] (Lib.count s [39]) s = dblM s
  | n, s, hn => by
    rcases split39 s with ⟨h1, h2⟩ | ⟨i, h1, h2, h3⟩
    · rw [Lib.count_miss h1, h2]; rfl
    · cases n with
      | zero => omega
      | succ n =>
        rw [Lib.count_hit (by decide) h1, Nat.add_comm, Lib.replaceK_hit _ _ _ _ i h1]
        have e : i + ([39] : Str).length = i + 1 := rfl
        rw [e, replaceK_dbl n (s.drop (i + 1)) (by rw [List.length_drop]; omega), h3]
theorem replace_dbl (s : Str) : Lib.replaceAll s [39] [39, 39] = dblM s := by
  unfold Lib.replaceAll Lib.replace
  rw [if_neg (by decide)]
  have e : Lib.replaceNum s [39] (-1) = Lib.count s [39] := by unfold Lib.replaceNum; rw [if_pos (.inl (by decide))]
  rw [e]
  exact replaceK_dbl _ s (Nat.le_refl _)
def spell (t : Tok) : Str := if t.kind = 4 then [39] ++ dblM t.text ++ [39] else t.text
def joinT (l : List Tok) : Str := l.flatMap fun t => spell t ++ [32]
theorem joinT_cons (t : Tok) (l : List Tok) : joinT (t :: l) = spell t ++ 32 :: joinT l := by unfold joinT; rw [List.flatMap_cons]; simp
theorem text_spell {q : Str} (h0 : q.headD 0 = 39) (h1 : 1 ≤ q.length) (h : (readM q).2 = 0) : [39] ++ dblM (readM q).1.s ++ [39] = q := by
  cases q with
  | nil => simp at h1
  | cons c r =>
    have hc : c = 39 := h0
    subst hc
    unfold readM at h ⊢
    have n1 : ((39 :: r : Str) == [110, 117, 108, 108]) = false := by rw [beq_eq_false_iff_ne]; intro e; injection e with e; exact absurd e (by decide)
    have n2 : ((39 :: r : Str) == [116, 114, 117, 101]) = false := by rw [beq_eq_false_iff_ne]; intro e; injection e with e; exact absurd e (by decide)
    have n3 : ((39 :: r : Str) == [102, 97, 108, 115, 101]) = false := by rw [beq_eq_false_iff_ne]; intro e; injection e with e; exact absurd e (by decide)
    rw [n1, n2, n3] at h ⊢
    simp only [Bool.false_eq_true, if_false, Bool.or_self] at h ⊢
    by_cases hq : quotM (39 :: r) = true
    · rw [if_pos hq] at h ⊢
      unfold textR at h ⊢
      split at h
      · exact absurd h (show ¬ (7 : Int) = 0 by decide)
      · rename_i hp
        rw [if_neg hp]
        have hp' : printM (textV (39 :: r)) = 39 :: r := by simpa using hp
        have hk : (textV (39 :: r)).kind = 2 := rfl
        show [39] ++ dblM (textV (39 :: r)).s ++ [39] = 39 :: r
        generalize textV (39 :: r) = v at hp' hk
        have hne : printM v ≠ [] := by rw [hp']; simp
        rw [← hp']
        unfold printM at hne ⊢
        split at hne
        · exact absurd rfl hne
        · rename_i hpl
          rw [if_neg hpl, hk, if_neg (by decide), if_pos (by decide), replace_dbl]
    · rw [if_neg hq] at h
      have hd : numBad (39 :: r) = true := by
        unfold numBad
        have e : numDs (39 :: r) = 39 :: r := by
          rcases numDs_cases (39 :: r) with ⟨_, h4⟩ | ⟨r', h3, _⟩
          · exact h4
          · injection h3 with h3; exact absurd h3 (by decide)
        rw [e]
        have : (Lib.trimS (39 :: r) digs == []) = false := by
          rw [beq_eq_false_iff_ne]
          intro e
          rw [trimS_nil] at e
          exact absurd (e 39 (by simp)) (by decide)
        rw [this]
        simp
      have hn : numReadM (39 :: r) = (0, 6) := by unfold numReadM; rw [if_pos hd]
      rw [hn] at h
      simp at h
end Go.SX.Nb
namespace Go.SX.Nb
open Go Go.SX Go.Proofs
variable [ErrAt]
set_option maxRecDepth 4000
theorem take_len_take (s : Str) (m : Nat) : s.take (s.take m).length = s.take m := by
  rw [List.length_take]
  rcases Nat.le_total m s.length with h | h
  · rw [Nat.min_eq_left h]
  · rw [Nat.min_eq_right h, List.take_of_length_le (Nat.le_refl _), List.take_of_length_le h]
theorem wordOf_take (s of : Str) : s.take (wordOf s of).length = wordOf s of := by
  unfold wordOf
  exact take_len_take s _
/-- What a word's print spells is what was read. -/
theorem word_spell {s : Str} {n p : Nat} (h0 : 1 ≤ s.length) (he : (wordM s).2.2.2 = 0) (hn : (wordM s).2.2.1 = (n : Int)) : spell ⟨(wordM s).1, (wordM s).2.1, p⟩ = s.take n := by
  cases s with
  | nil => simp at h0
  | cons c r =>
    unfold wordM at he hn ⊢
    by_cases c1 : decide (0 < runM ((c :: r).take 1) letters) = true
    · rw [if_pos c1] at he hn
      simp only [if_pos c1]
      unfold namedM at he hn ⊢
      by_cases r1 : lexReservedM (wordOf (c :: r) tails) = true
      · rw [if_pos r1] at hn
        simp only [if_pos r1]
        have hn' : (((wordOf (c :: r) tails).length : Nat) : Int) = n := hn
        have e : n = (wordOf (c :: r) tails).length := by omega
        rw [e, wordOf_take]
        rfl
      · rw [if_neg r1] at he hn
        simp only [if_neg r1]
        by_cases r2 : (!lexNameM (wordOf (c :: r) tails)) = true
        · rw [if_pos r2] at he; exact absurd he (show ¬ (3 : Int) = 0 by decide)
        · rw [if_neg r2] at hn
          simp only [if_neg r2]
          have hn' : (((wordOf (c :: r) tails).length : Nat) : Int) = n := hn
          have e : n = (wordOf (c :: r) tails).length := by omega
          rw [e, wordOf_take]
          rfl
    · rw [if_neg c1] at he hn
      simp only [if_neg c1]
      by_cases c2 : decide (0 < runM ((c :: r).take 1) digs) = true
      · rw [if_pos c2] at he hn
        simp only [if_pos c2]
        have hn' : (((wordOf (c :: r) digs).length : Nat) : Int) = n := hn
        have e : n = (wordOf (c :: r) digs).length := by omega
        rw [e, wordOf_take]
        rfl
      · rw [if_neg c2] at he hn
        simp only [if_neg c2]
        by_cases c3 : (((((c :: r)).getD 0 0).toNat : Int) == 39) = true
        · rw [if_pos c3] at he hn
          simp only [if_pos c3]
          have hc : c = 39 := by
            have c3' : ((c.toNat : Int) == 39) = true := c3
            exact UInt8.toNat_inj.1 (by have : (39 : UInt8).toNat = 39 := rfl; simp at c3'; omega)
          unfold quotedM at he hn ⊢
          cases hq : closeQ ((c :: r).drop 1) with
          | none => rw [hq] at he; exact absurd he (show ¬ (7 : Int) = 0 by decide)
          | some m =>
            rw [hq] at he hn
            simp only at he hn ⊢
            split at he
            · exact absurd he (show ¬ (3 : Int) = 0 by decide)
            · rename_i hr
              rw [if_neg hr] at hn
              simp only [if_neg hr]
              have hm' : (((m + 1 : Nat)) : Int) = n := hn
              have hm : n = m + 1 := by omega
              subst hm
              have hr' : (readM ((c :: r).take (m + 1))).2 = 0 := by simpa using hr
              have := text_spell (q := (c :: r).take (m + 1)) (by rw [hc]; rfl) (by simp) hr'
              unfold spell
              rw [if_pos rfl]
              exact this
        · rw [if_neg c3] at he hn
          simp only [if_neg c3]
          unfold signM at he hn ⊢
          split at hn
          · rename_i h2
            simp only [if_pos h2]
            have hn' : (2 : Int) = n := hn
            have : n = 2 := by omega
            subst this
            rfl
          · rename_i h2
            rw [if_neg h2] at he
            simp only [if_neg h2]
            split at hn
            · rename_i h3
              simp only [if_pos h3]
              have hn' : (1 : Int) = n := hn
              have : n = 1 := by omega
              subst this
              rfl
            · rename_i h3
              rw [if_neg h3] at he
              exact absurd he (show ¬ (7 : Int) = 0 by decide)
theorem lexG_blank (f q : Nat) (J : Str) : lexG f q (32 :: J) = lexG f (q + 1) J := by
  have h : gapM (32 :: J) = gapM J + 1 := by
    have := skip_le J false
    unfold gapM
    rw [skipB, if_pos (by decide), List.length_cons]
    omega
  unfold lexG
  rw [h, List.drop_succ_cons, show q + (gapM J + 1) = q + 1 + gapM J by omega]
def sameT (it : Tok × Int) : Int × Str × Int := (it.1.kind, it.1.text, it.2)
theorem lex_twice : ∀ (f q : Nat) (s : Str), s.length < f → (∀ it ∈ lexG f q s, it.2 = 0) → (joinT ((lexG f q s).map (·.1))).length ≤ 2 * s.length ∧
    ∀ (f' q' : Nat), (joinT ((lexG f q s).map (·.1))).length < f' → (lexG f' q' (joinT ((lexG f q s).map (·.1)))).map sameT = (lexG f q s).map sameT
  | 0, q, s, h, _ => by omega
  | f + 1, q, s, hf, hok => by
    obtain ⟨g, hg⟩ : ∃ g, gapM s = g := ⟨_, rfl⟩
    have hgl := gap_le s
    have hL : lexG (f + 1) q s = itemsF (f + 1) (q + g) (s.drop g) := by unfold lexG; rw [hg]
    by_cases hne : s.drop g = []
    · rw [hL, hne]
      refine ⟨Nat.zero_le _, fun f' q' _ => ?_⟩
      show (lexG f' q' []).map sameT = []
      unfold lexG
      rw [List.drop_nil, itemsF_nil]
      rfl
    · obtain ⟨n, hst, hw⟩ := itemsF_step (f := f) (q := q + g) hne
      rw [hst] at hL
      rw [hL] at hok ⊢
      have h0 : (wordM (s.drop g)).2.2.2 = 0 := hok _ List.mem_cons_self
      obtain ⟨hn1, hn2, hn3⟩ := hw h0
      rw [List.length_drop] at hn3
      rw [if_pos h0] at hok ⊢
      have hsp : ∀ p, spell ⟨(wordM (s.drop g)).1, (wordM (s.drop g)).2.1, p⟩ = (s.drop g).take n := fun p => word_spell (by rw [List.length_drop]; omega) h0 hn1
      obtain ⟨ih1, ih2⟩ := lex_twice f (q + g + n) ((s.drop g).drop n) (by simp only [List.length_drop]; omega) (fun i hi => hok i (List.mem_cons_of_mem _ hi))
      rw [List.map_cons, joinT_cons, hsp]
      obtain ⟨R, hR⟩ : ∃ R, lexG f (q + g + n) ((s.drop g).drop n) = R := ⟨_, rfl⟩
      rw [hR] at ih1 ih2 ⊢
      obtain ⟨J, hJ⟩ : ∃ J, joinT (R.map (·.1)) = J := ⟨_, rfl⟩
      rw [hJ] at ih1 ih2 ⊢
      have hwl : ((s.drop g).take n).length = n := by rw [List.length_take, List.length_drop]; omega
      simp only [List.length_append, List.length_cons, hwl]
      simp only [List.length_drop] at ih1
      refine ⟨by omega, fun f' q' hf' => ?_⟩
      obtain ⟨f0, rfl⟩ : ∃ f0, f' = f0 + 1 := ⟨f' - 1, by omega⟩
      have hs0 : (s.drop g).take n ++ (s.drop g).drop n = s.drop g := List.take_append_drop _ _
      have hz : skipB (s.drop g) false = s.drop g := by
        have h1 : skipB (s.take g ++ s.drop g) false = s.drop g := by rw [List.take_append_drop, ← gap_drop, hg]
        exact (skip_stop hne (s.drop g) (s.take g) false h1).symm.trans h1
      have hg0 : gapM ((s.drop g).take n ++ (s.drop g).drop n) = 0 := by
        rw [hs0]
        unfold gapM
        rw [hz]
        omega
      have hg1 : gapM ((s.drop g).take n ++ 32 :: J) = 0 := gap_before _ hg0 (by rw [hwl]; omega)
      have hwe : wordM ((s.drop g).take n ++ 32 :: J) = wordM (s.drop g) := by
        have := word_pre (V := (s.drop g).take n) (B := (s.drop g).drop n) (n := n) J (by rw [hs0]; exact h0) (by rw [hs0]; exact hn1) hn2 (by rw [hwl]; omega)
        rw [this, hs0]
      have hne' : (s.drop g).take n ++ 32 :: J ≠ [] := by simp
      obtain ⟨n', hst', hw'⟩ := itemsF_step (f := f0) (q := q') hne'
      rw [hwe] at hst' hw'
      have hnn : n' = n := by
        have := (hw' h0).1
        rw [hn1] at this
        omega
      subst hnn
      have hL' : lexG (f0 + 1) q' ((s.drop g).take n' ++ 32 :: J) = itemsF (f0 + 1) q' ((s.drop g).take n' ++ 32 :: J) := by unfold lexG; rw [hg1]; rfl
      have hdr : ((s.drop g).take n' ++ 32 :: J).drop n' = 32 :: J := by
        have e := List.drop_left (l₁ := (s.drop g).take n') (l₂ := 32 :: J)
        rwa [hwl] at e
      rw [hL', hst', if_pos h0, hdr, lexG_blank, List.map_cons, List.map_cons, ih2 f0 _ (by omega)]
      rfl
end Go.SX.Nb
namespace Go.SX.Nb
open Go Go.SX Go.Proofs
variable [ErrAt]
set_option maxRecDepth 4000
theorem wrap_u64 {n : Int} (h1 : 0 ≤ n) (h2 : n < 18446744073709551616) : IntKind.u64.wrap n = n := by
  have e1 : (2 ^ IntKind.u64.bits : Int) = 18446744073709551616 := rfl
  have e3 : IntKind.u64.signed = false := rfl
  unfold IntKind.wrap
  simp only [e1, e3, Bool.false_and]
  simp
  omega
theorem u64_range (n : Int) : 0 ≤ IntKind.u64.wrap n ∧ IntKind.u64.wrap n < 18446744073709551616 := by
  have e1 : (2 ^ IntKind.u64.bits : Int) = 18446744073709551616 := rfl
  have e3 : IntKind.u64.signed = false := rfl
  unfold IntKind.wrap
  simp only [e1, e3, Bool.false_and]
  simp
  omega
theorem k_mod (m : Int) (N : Nat) (h1 : 1 ≤ N) (hN : N ≤ 100000) : ∃ K : Nat, K < N ∧ IntKind.i64.wrap ((IntKind.u64.wrap m).tmod (IntKind.u64.wrap (N : Int))) = (K : Int) := by
  have hr := u64_range m
  rw [wrap_u64 (n := (N : Int)) (by omega) (by omega), Int.tmod_eq_emod_of_nonneg hr.1]
  have g1 := Int.emod_nonneg (IntKind.u64.wrap m) (b := (N : Int)) (by omega)
  have g2 := Int.emod_lt_of_pos (IntKind.u64.wrap m) (b := (N : Int)) (by omega)
  refine ⟨((IntKind.u64.wrap m) % (N : Int)).toNat, by omega, ?_⟩
  rw [wrap_i64 (by omega) (by omega)]
  omega
theorem lexM_len {s : Str} (h : (lexM s).2.1 = 0) : 1 ≤ (lexM s).1.length ∧ (lexM s).1.length ≤ s.length + 2 := by
  obtain ⟨_, _, hl⟩ := lexM_ok h
  rw [hl]
  have := itemsT_len s
  simp
  omega
theorem tok_at_le {s : Str} {i : Nat} (h : (lexM s).2.1 = 0) (hi : i < (lexM s).1.length) : (tokAt (lexM s).1 i).at_ ≤ s.length := by
  obtain ⟨_, _, hl⟩ := lexM_ok h
  rw [hl] at hi ⊢
  simp only [List.length_append, List.length_map, List.length_cons, List.length_nil] at hi
  unfold tokAt
  rw [List.getD_eq_getElem?_getD]
  rcases Nat.lt_or_ge i (itemsT s).length with hlt | hge
  · have hit : (itemsT s)[i]? = some (itemsT s)[i] := List.getElem?_eq_getElem hlt
    simp only
    rw [List.getElem?_append_left (by simpa using hlt), List.getElem?_map, hit]
    exact items_at_le hit
  · simp only
    rw [List.getElem?_append_right (by simpa using hge), show i - ((itemsT s).map (·.1)).length = 0 by simp; omega]
    exact Nat.le_refl _
def gapL (k d : Nat) (L : List Tok) : List Tok := L.take k ++ (L.drop k).map (shiftTok d)
theorem gapL_len {k d : Nat} {L : List Tok} (hk : k < L.length) : (gapL k d L).length = L.length := by unfold gapL; simp; omega
theorem gapL_at {k d i : Nat} {L : List Tok} (hk : k < L.length) (hi : i < L.length) : tokAt (gapL k d L) i = if i < k then tokAt L i else shiftTok d (tokAt L i) := by
  unfold gapL tokAt
  simp only [List.getD_eq_getElem?_getD]
  split
  · rename_i h
    rw [List.getElem?_append_left (by simp; omega), List.getElem?_take, if_pos h]
  · rename_i h
    rw [List.getElem?_append_right (by simp; omega), List.getElem?_map, List.getElem?_drop, List.length_take, show k + (i - min k L.length) = i by omega, List.getElem?_eq_getElem hi]
    rfl
theorem gap_far0 {a : Tok} : ((((a.kind != a.kind) || !(a.text == a.text)) || (((a.at_ : Nat) : Int) != (a.at_ : Nat) + 0))) = false := by simp
theorem gap_far {a : Tok} {d : Nat} {n : Int} (h : n = (d : Nat)) : (((((shiftTok d a).kind != a.kind) || !((shiftTok d a).text == a.text)) || ((((shiftTok d a).at_ : Nat) : Int) != (a.at_ : Nat) + n))) = false := by
  subst h
  simp [shiftTok]
theorem new_eq (src note : Str) (p : Nat) : (((src.take p ++ [32, 9, 35]) ++ note) ++ [10, 32]) ++ src.drop p = src.take p ++ (insX note ++ src.drop p) := by simp [insX]
theorem c4 (src : Str) (at_ : Int) (note : Str) (Hp : List AObj) : AFun Tryz.prog 4 [strA src, intA at_, strA note] Hp (boolA true) := by
  refine ACall.body [.tmp 6] [0, 1, 2] Tryz.func4 Tryz.ntmps4 (fun d => ?_)
  refine AW.seqR ?_
  refine R.assign ?_
  refine R.fin [0, 1, 2] ?_
  refine W.seq ?_
  refine AW.seqR ?_
  refine R.call Tryz.call13 (c13 _) ?_
  refine R.not ?_
  refine R.fin [0, 1, 2, 17] ?_
  refine W.cond (fun ht17 => ?_) (fun ht17 => ?_)
  · skip
    cases ht17
  · skip
    refine AW.skip ?_
    refine K.thN ?_
    refine W.seq ?_
    refine AW.seqR ?_
    refine R.move ?_
    refine R.slen Tryz.underlying9 ?_
    refine R.gtr ?_
    refine R.move ?_
    refine G.move ?_
    refine G.slen Tryz.underlying9 ?_
    refine G.gtr ?_
    refine R.pickOr ?_
    refine R.fin [0, 1, 2, 25] ?_
    refine W.cond (fun ht25 => ?_) (fun ht25 => ?_)
    · skip
      refine AW.seqR ?_
      refine R.assign ?_
      refine R.fin [6] ?_
      refine AW.ret ?_
      refine K.thR ?_
      exact K.fin (V.one V.tmp)
    · skip
      have hls : src.length ≤ 2000 ∧ note.length ≤ 1000 := by simp at ht25; omega
      refine AW.skip ?_
      refine K.thN ?_
      refine AW.seqR ?_
      refine R.move ?_
      refine R.call Tryz.call15 (c15 src (by omega) _) ?_
      refine R.move ?_
      refine R.extract ?_
      refine R.extract ?_
      refine R.alloc Tryz.zeroValue27 ?_
      refine R.assign ?_
      refine R.storeOwn Tryz.sizeOf27 ?_
      refine R.fin [0, 1, 2, 7, 8] ?_
      refine W.seq ?_
      refine AW.seqR ?_
      refine R.fieldAddrPtr (fo := 0) Tryz.underlying27 Tryz.sizeOf25 ?_
      refine R.loadOwn Tryz.isAgg25 ?_
      refine R.neq ?_
      refine R.fin [0, 1, 2, 7, 33] ?_
      refine W.cond (fun ht33 => ?_) (fun ht33 => ?_)
      · skip
        refine AW.seqR ?_
        refine R.assign ?_
        refine R.fin [6] ?_
        refine AW.ret ?_
        refine K.thR ?_
        exact K.fin (V.one V.tmp)
      · skip
        have hf0 : (lexM src).2.1 = 0 := by simpa using ht33
        have hLm : (List.map tokA (lexM src).1).length = (lexM src).1.length := List.length_map _
        refine AW.skip ?_
        refine K.thN ?_
        refine W.seq ?_
        refine AW.seqR ?_
        refine R.assign ?_
        refine R.fin [0, 1, 2, 7, 9] ?_
        refine AW.loopC (α := Nat) (fun x => ⟨137, setF 0 (strA src) (setF 1 (intA at_) (setF 2 (strA note) (setF 7 (toksA (lexM src).1) (setF 9 (intA (x : Nat)) (fun _ => .any))))), Hp, [AObj.cells 27 [intA (lexM src).2.1, intA (lexM src).2.2]], [], none⟩) (fun x => x ≤ note.length ∧ ∀ (j : Nat) (b : UInt8), j < x → note[j]? = some b → b ≠ 10) (fun x => note.length - x) (0) ⟨Nat.zero_le _, fun j b h => by omega⟩ (StLe.refl _) rfl (fun x hx => ?_)
        refine W.seq ?_
        refine AW.seqR ?_
        refine R.move ?_
        refine R.move ?_
        refine R.slen Tryz.underlying9 ?_
        refine R.lss ?_
        refine R.fin [0, 1, 2, 7, 9, 37] ?_
        refine W.cond (fun ht37 => ?_) (fun ht37 => ?_)
        · skip
          have hxl : x < note.length := by simp at ht37; omega
          refine AW.skip ?_
          refine K.thN ?_
          refine W.seq ?_
          refine AW.block ?_
          refine AW.seqR ?_
          refine R.move ?_
          refine R.move ?_
          refine R.sindex x note[x] Tryz.underlying9 (List.getElem?_eq_getElem hxl) ?_
          refine R.eql ?_
          refine R.fin [0, 1, 2, 7, 9, 43] ?_
          refine W.cond (fun ht43 => ?_) (fun ht43 => ?_)
          · skip
            refine AW.seqR ?_
            refine R.assign ?_
            refine R.fin [6] ?_
            refine AW.ret ?_
            refine K.blR ?_
            refine K.thR ?_
            refine K.lpR ?_
            refine K.thR ?_
            exact K.fin (V.one V.tmp)
          · skip
            have hx10 : note[x] ≠ 10 := fun e => by rw [e] at ht43; simp at ht43
            refine AW.skip ?_
            refine K.blN ?_
            refine K.thN ?_
            refine AW.region ?_
            refine R.move ?_
            refine R.add64 ?_
            refine R.assign ?_
            refine R.fin [0, 1, 2, 7, 9] ?_
            exact K.lpN (x + 1) ⟨by omega, fun j b hj hjb => (by
              rcases Nat.lt_or_ge j x with h | h
              · exact hx.2 j b h hjb
              · have : j = x := by omega
                subst this
                rw [List.getElem?_eq_getElem hxl] at hjb
                injection hjb with hjb
                rw [← hjb]; exact hx10)⟩ (by omega) (StCut.of_eq rfl)
        · skip
          have hxe : note.length ≤ x := by simp at ht37; omega
          refine AW.exit ?_
          refine K.thE ?_
          refine K.lpE ?_
          refine K.thN ?_
          refine AW.seqR ?_
          have hnl : ∀ b ∈ note, b ≠ 10 := fun b hb => by
            obtain ⟨j, hj, e⟩ := List.mem_iff_getElem.1 hb
            exact hx.2 j b (by simp at ht37; omega) (by rw [List.getElem?_eq_getElem hj, e])
          have hLl := lexM_len hf0
          refine R.move ?_
          refine R.iconv Tryz.underlying3 Tryz.underlying32 ?_
          refine R.move ?_
          refine R.len Tryz.underlying24 ?_
          refine R.iconv Tryz.underlying3 Tryz.underlying32 ?_
          refine R.rem (h0 := by rw [List.length_map, wrap_u64 (by omega) (by omega)]; omega) ?_
          refine R.iconv Tryz.underlying32 Tryz.underlying3 ?_
          obtain ⟨k, hkl, hke⟩ := k_mod at_ (lexM src).1.length hLl.1 (by omega)
          rw [hLm, hke]
          refine R.assign ?_
          refine R.fin [0, 2, 7, 10] ?_
          refine W.seq ?_
          refine AW.seqR ?_
          refine R.move ?_
          refine R.move ?_
          refine R.len Tryz.underlying24 ?_
          refine R.sub64 ?_
          refine R.eql ?_
          refine R.fin [0, 2, 7, 10, 55] ?_
          refine W.cond (fun ht55 => ?_) (fun ht55 => ?_)
          · skip
            refine AW.seqR ?_
            refine R.assign ?_
            refine R.fin [6] ?_
            refine AW.ret ?_
            refine K.thR ?_
            exact K.fin (V.one V.tmp)
          · skip
            have hk1 : k + 1 < (lexM src).1.length := by simp at ht55; omega
            obtain ⟨hpl, hM⟩ := lex_gaps hls.1 hls.2 hf0 hnl hk1
            obtain ⟨p, hp⟩ : ∃ p, (tokAt (lexM src).1 k).at_ = p := ⟨_, rfl⟩
            rw [hp] at hpl hM
            have htp : (src.take p).length ≤ src.length := by rw [List.length_take]; omega
            have hdp : (src.drop p).length ≤ src.length := by rw [List.length_drop]; omega
            have hcall : ∀ Hp, AFun Tryz.prog 15 [strA ((((src.take p ++ [32, 9, 35]) ++ note) ++ [10, 32]) ++ src.drop p)] Hp (.tup [toksA (gapL k (note.length + 5) (lexM src).1), .agg [intA 0, intA 0]]) := fun Hp => by
              have := c15 ((((src.take p ++ [32, 9, 35]) ++ note) ++ [10, 32]) ++ src.drop p) (by simp; omega) Hp
              rw [new_eq, hM] at this
              rw [new_eq]
              exact this
            refine AW.skip ?_
            refine K.thN ?_
            refine AW.seqR ?_
            refine R.move ?_
            refine R.move ?_
            refine R.indexAddr (k) (tokA (tokAt (lexM src).1 k)) Tryz.underlying24 Tryz.sizeOf31 (getTok hkl) ?_
            refine R.fieldAddrRo (off := 2) Tryz.underlying31 Tryz.sizeOf3 ?_
            refine R.loadRo Tryz.isAgg3 ?_
            rw [hp]
            refine R.assign ?_
            refine R.fin [0, 2, 7, 10, 11] ?_
            apply W.drawXO [0, 0, 3, 7, 0, 31, 63, 0, 0, 384, 1023, 2047, 4095, 8191, 8191, 0, 49151, 131071] 15 1 13 (.ptr (oid Hp.length 1) 0) ([AObj.cells 27 [intA (lexM src).2.1, intA (lexM src).2.2], AObj.cells 27 [intA 0, intA 0]]) Tryzmixed
            case hok => kernel_rfl
            case h1 =>
              intro b
              refine D.move ?_
              refine D.move ?_
              refine D.scutH p Tryz.underlying9 (Nat.zero_le _) hpl ?_
              refine D.sadd ?_
              refine D.move ?_
              refine D.sadd ?_
              refine D.sadd ?_
              refine D.move ?_
              refine D.move ?_
              refine D.scutL p Tryz.underlying9 hpl (Nat.le_refl _) ?_
              refine D.sadd ?_
              refine D.call Tryz.call15 (hcall _) ?_
              refine D.move ?_
              refine D.extract ?_
              refine D.extract ?_
              exact D.end rfl rfl
            case h2 =>
              intro b
              refine D.assign ?_
              exact D.end rfl rfl
            case hE =>
              intro f hf
              exact X.alloc Tryz.zeroValue27 rfl rfl (by decide)
            case hx => kernel_rfl
            case hlen => simp
            refine R.storeOwn Tryz.sizeOf27 ?_
            refine R.fin [2, 7, 10, 12, 13] ?_
            refine W.seq ?_
            refine AW.seqR ?_
            refine R.fieldAddrPtr (fo := 0) Tryz.underlying27 Tryz.sizeOf25 ?_
            refine R.loadOwn Tryz.isAgg25 ?_
            refine R.neq ?_
            refine R.move ?_
            refine G.move ?_
            refine G.len Tryz.underlying24 ?_
            refine G.move ?_
            refine G.len Tryz.underlying24 ?_
            refine G.neq ?_
            refine R.pickOr ?_
            refine R.fin [2, 7, 10, 12, 85] ?_
            refine W.cond (fun ht85 => ?_) (fun ht85 => ?_)
            · skip
              exact absurd ht85 (by simp [gapL_len hkl])
            · skip
              refine AW.skip ?_
              refine K.thN ?_
              refine W.seq ?_
              refine AW.seqR ?_
              refine R.assign ?_
              refine R.fin [2, 7, 10, 12, 14] ?_
              refine AW.loopC (α := Nat) (fun x => ⟨137, setF 2 (strA note) (setF 7 (toksA (lexM src).1) (setF 10 (intA (k : Nat)) (setF 12 (toksA (gapL k (note.length + 5) (lexM src).1)) (setF 14 (intA (x : Nat)) (fun _ => .any))))), Hp, [AObj.cells 27 [intA (lexM src).2.1, intA (lexM src).2.2], AObj.cells 27 [intA 0, intA 0]], [], none⟩) (fun x => x ≤ (lexM src).1.length) (fun x => (lexM src).1.length - x) (0) (Nat.zero_le _) (StLe.refl _) rfl (fun x hx => ?_)
              refine W.seq ?_
              refine AW.seqR ?_
              refine R.move ?_
              refine R.move ?_
              refine R.len Tryz.underlying24 ?_
              refine R.lss ?_
              refine R.fin [2, 7, 10, 12, 14, 89] ?_
              refine W.cond (fun ht89 => ?_) (fun ht89 => ?_)
              · skip
                have hxl : x < (lexM src).1.length := by simp at ht89; omega
                have hat := tok_at_le hf0 hxl
                have hxm : x < (gapL k (note.length + 5) (lexM src).1).length := by rw [gapL_len hkl]; exact hxl
                refine AW.skip ?_
                refine K.thN ?_
                refine W.seq ?_
                refine AW.block ?_
                refine AW.seqR ?_
                refine R.assign ?_
                refine R.fin [2, 7, 10, 12, 14, 15] ?_
                refine W.seq ?_
                refine AW.seqR ?_
                refine R.move ?_
                refine R.move ?_
                refine R.geq ?_
                refine R.fin [2, 7, 10, 12, 14, 15, 94] ?_
                refine W.cond (fun ht94 => ?_) (fun ht94 => ?_)
                · skip
                  have hkx : k ≤ x := by simp at ht94; omega
                  have hmx : tokAt (gapL k (note.length + 5) (lexM src).1) x = shiftTok (note.length + 5) (tokAt (lexM src).1 x) := by rw [gapL_at hkl hxl, if_neg (by omega)]
                  refine AW.region ?_
                  refine R.move ?_
                  refine R.slen Tryz.underlying9 ?_
                  refine R.add64 ?_
                  refine R.assign ?_
                  refine R.fin [2, 7, 10, 12, 14, 15] ?_
                  refine K.thN ?_
                  refine W.draw [0, 0, 3, 7, 15, 0, 0, 96, 224, 480, 1023, 2047, 4095, 4095, 16383, 32767, 65535, 4095, 4095, 397311, 921599, 1970175, 4194303, 8388607, 16777215, 33554431, 33554431, 134217727, 268435455, 536870911, 33554431, 33554431, 3254779903, 7549747199, 16139681791, 33554431, 67679289343, 137438953471, 274877906943] 37 Tryzmixed (by kernel_rfl) ?_
                  refine D.move ?_
                  refine D.move ?_
                  refine D.indexAddr (x) (tokA (tokAt (gapL k (note.length + 5) (lexM src).1) x)) Tryz.underlying24 Tryz.sizeOf31 (getTok hxm) ?_
                  refine D.fieldAddrRo (off := 0) Tryz.underlying31 Tryz.sizeOf3 ?_
                  refine D.loadRo Tryz.isAgg3 ?_
                  refine D.move ?_
                  refine D.move ?_
                  refine D.indexAddr (x) (tokA (tokAt (lexM src).1 x)) Tryz.underlying24 Tryz.sizeOf31 (getTok hxl) ?_
                  refine D.fieldAddrRo (off := 0) Tryz.underlying31 Tryz.sizeOf3 ?_
                  refine D.loadRo Tryz.isAgg3 ?_
                  refine D.neq ?_
                  refine D.move ?_
                  refine H.move ?_
                  refine H.move ?_
                  refine H.indexAddr (x) (tokA (tokAt (gapL k (note.length + 5) (lexM src).1) x)) Tryz.underlying24 Tryz.sizeOf31 (fun _ => getTok hxm) ?_
                  refine H.fieldAddrRo (off := 1) Tryz.underlying31 Tryz.sizeOf9 ?_
                  refine H.loadRo Tryz.isAgg9 ?_
                  refine H.move ?_
                  refine H.move ?_
                  refine H.indexAddr (x) (tokA (tokAt (lexM src).1 x)) Tryz.underlying24 Tryz.sizeOf31 (fun _ => getTok hxl) ?_
                  refine H.fieldAddrRo (off := 1) Tryz.underlying31 Tryz.sizeOf9 ?_
                  refine H.loadRo Tryz.isAgg9 ?_
                  refine H.sneq ?_
                  refine D.pickOr ?_
                  refine D.move ?_
                  refine H.move ?_
                  refine H.move ?_
                  refine H.indexAddr (x) (tokA (tokAt (gapL k (note.length + 5) (lexM src).1) x)) Tryz.underlying24 Tryz.sizeOf31 (fun _ => getTok hxm) ?_
                  refine H.fieldAddrRo (off := 2) Tryz.underlying31 Tryz.sizeOf3 ?_
                  refine H.loadRo Tryz.isAgg3 ?_
                  refine H.move ?_
                  refine H.move ?_
                  refine H.indexAddr (x) (tokA (tokAt (lexM src).1 x)) Tryz.underlying24 Tryz.sizeOf31 (fun _ => getTok hxl) ?_
                  refine H.fieldAddrRo (off := 2) Tryz.underlying31 Tryz.sizeOf3 ?_
                  refine H.loadRo Tryz.isAgg3 ?_
                  refine H.move ?_
                  refine H.add64 ?_
                  refine D.tail ?_
                  refine G.neq ?_
                  refine R.pickOr ?_
                  refine R.fin [2, 7, 10, 12, 14, 136] ?_
                  refine W.cond (fun ht136 => ?_) (fun ht136 => ?_)
                  · skip
                    first | exact absurd ht136 (by rw [hmx, gap_far0]; simp) | exact absurd ht136 (by rw [hmx, gap_far (by simp)]; simp)
                  · skip
                    refine AW.skip ?_
                    refine K.blN ?_
                    refine K.thN ?_
                    refine AW.region ?_
                    refine R.move ?_
                    refine R.add64 ?_
                    refine R.assign ?_
                    refine R.fin [2, 7, 10, 12, 14] ?_
                    exact K.lpN (x + 1) hxl (by omega) (StCut.of_eq rfl)
                · skip
                  have hkx : x < k := by simp at ht94; omega
                  have hmx : tokAt (gapL k (note.length + 5) (lexM src).1) x = tokAt (lexM src).1 x := by rw [gapL_at hkl hxl, if_pos hkx]
                  refine AW.skip ?_
                  refine K.thN ?_
                  refine W.draw [0, 0, 3, 7, 15, 0, 0, 96, 224, 480, 1023, 2047, 4095, 4095, 16383, 32767, 65535, 4095, 4095, 397311, 921599, 1970175, 4194303, 8388607, 16777215, 33554431, 33554431, 134217727, 268435455, 536870911, 33554431, 33554431, 3254779903, 7549747199, 16139681791, 33554431, 67679289343, 137438953471, 274877906943] 37 Tryzmixed (by kernel_rfl) ?_
                  refine D.move ?_
                  refine D.move ?_
                  refine D.indexAddr (x) (tokA (tokAt (gapL k (note.length + 5) (lexM src).1) x)) Tryz.underlying24 Tryz.sizeOf31 (getTok hxm) ?_
                  refine D.fieldAddrRo (off := 0) Tryz.underlying31 Tryz.sizeOf3 ?_
                  refine D.loadRo Tryz.isAgg3 ?_
                  refine D.move ?_
                  refine D.move ?_
                  refine D.indexAddr (x) (tokA (tokAt (lexM src).1 x)) Tryz.underlying24 Tryz.sizeOf31 (getTok hxl) ?_
                  refine D.fieldAddrRo (off := 0) Tryz.underlying31 Tryz.sizeOf3 ?_
                  refine D.loadRo Tryz.isAgg3 ?_
                  refine D.neq ?_
                  refine D.move ?_
                  refine H.move ?_
                  refine H.move ?_
                  refine H.indexAddr (x) (tokA (tokAt (gapL k (note.length + 5) (lexM src).1) x)) Tryz.underlying24 Tryz.sizeOf31 (fun _ => getTok hxm) ?_
                  refine H.fieldAddrRo (off := 1) Tryz.underlying31 Tryz.sizeOf9 ?_
                  refine H.loadRo Tryz.isAgg9 ?_
                  refine H.move ?_
                  refine H.move ?_
                  refine H.indexAddr (x) (tokA (tokAt (lexM src).1 x)) Tryz.underlying24 Tryz.sizeOf31 (fun _ => getTok hxl) ?_
                  refine H.fieldAddrRo (off := 1) Tryz.underlying31 Tryz.sizeOf9 ?_
                  refine H.loadRo Tryz.isAgg9 ?_
                  refine H.sneq ?_
                  refine D.pickOr ?_
                  refine D.move ?_
                  refine H.move ?_
                  refine H.move ?_
                  refine H.indexAddr (x) (tokA (tokAt (gapL k (note.length + 5) (lexM src).1) x)) Tryz.underlying24 Tryz.sizeOf31 (fun _ => getTok hxm) ?_
                  refine H.fieldAddrRo (off := 2) Tryz.underlying31 Tryz.sizeOf3 ?_
                  refine H.loadRo Tryz.isAgg3 ?_
                  refine H.move ?_
                  refine H.move ?_
                  refine H.indexAddr (x) (tokA (tokAt (lexM src).1 x)) Tryz.underlying24 Tryz.sizeOf31 (fun _ => getTok hxl) ?_
                  refine H.fieldAddrRo (off := 2) Tryz.underlying31 Tryz.sizeOf3 ?_
                  refine H.loadRo Tryz.isAgg3 ?_
                  refine H.move ?_
                  refine H.add64 ?_
                  refine D.tail ?_
                  refine G.neq ?_
                  refine R.pickOr ?_
                  refine R.fin [2, 7, 10, 12, 14, 136] ?_
                  refine W.cond (fun ht136 => ?_) (fun ht136 => ?_)
                  · skip
                    first | exact absurd ht136 (by rw [hmx, gap_far0]; simp) | exact absurd ht136 (by rw [hmx, gap_far (by simp)]; simp)
                  · skip
                    refine AW.skip ?_
                    refine K.blN ?_
                    refine K.thN ?_
                    refine AW.region ?_
                    refine R.move ?_
                    refine R.add64 ?_
                    refine R.assign ?_
                    refine R.fin [2, 7, 10, 12, 14] ?_
                    exact K.lpN (x + 1) hxl (by omega) (StCut.of_eq rfl)
              · skip
                refine AW.exit ?_
                refine K.thE ?_
                refine K.lpE ?_
                refine K.thN ?_
                refine AW.seqR ?_
                refine R.assign ?_
                refine R.fin [6] ?_
                refine AW.ret ?_
                exact K.fin (V.one V.tmp)

end Go.SX.Nb
namespace Go.SX.Nb
open Go Go.SX Go.Proofs
variable [ErrAt]
set_option maxRecDepth 4000
theorem dblM_ge : ∀ t : Str, t.length ≤ (dblM t).length
  | [] => Nat.le_refl _
  | c :: r => by
    have := dblM_ge r
    rw [dblM_cons, List.length_append, List.length_cons]
    have h : 1 ≤ (dblC c).length := by unfold dblC; split <;> simp
    omega
theorem text_le (t : Tok) : t.text.length ≤ (spell t).length := by
  unfold spell
  split
  · have := dblM_ge t.text
    simp only [List.length_append, List.length_cons, List.length_nil]
    omega
  · exact Nat.le_refl _
theorem joinT_take (l : List Tok) (x : Nat) : (joinT (l.take x)).length ≤ (joinT l).length := by
  unfold joinT
  conv => rhs; rw [← List.take_append_drop x l, List.flatMap_append, List.length_append]
  omega
theorem joinT_succ {l : List Tok} {x : Nat} (h : x < l.length) : joinT (l.take (x + 1)) = joinT (l.take x) ++ spell (tokAt l x) ++ [32] := by
  unfold joinT tokAt
  rw [List.take_succ, List.getElem?_eq_getElem h, List.flatMap_append, List.getD_eq_getElem?_getD, List.getElem?_eq_getElem h]
  simp
theorem lex_again {s : Str} (hs : s.length ≤ 2000) (hf : (lexM s).2.1 = 0) : (joinT ((lexM s).1.take ((lexM s).1.length - 1))).length ≤ 4000 ∧ ∃ M, lexM (joinT ((lexM s).1.take ((lexM s).1.length - 1))) = (M, 0, 0) ∧ M.length = (lexM s).1.length ∧ ∀ i, i < (lexM s).1.length → (tokAt M i).kind = (tokAt (lexM s).1 i).kind ∧ (tokAt M i).text = (tokAt (lexM s).1 i).text := by
  obtain ⟨_, hok, hl⟩ := lexM_ok hf
  rw [hl]
  simp only
  have hT : ((itemsT s).map (·.1) ++ [(⟨0, [], s.length⟩ : Tok)]).take (((itemsT s).map (·.1) ++ [(⟨0, [], s.length⟩ : Tok)]).length - 1) = (itemsT s).map (·.1) := by
    rw [List.length_append, List.length_singleton, Nat.add_sub_cancel, List.take_left]
  rw [hT]
  have hG := itemsT_G s
  obtain ⟨h1, h2⟩ := lex_twice (s.length + 1) 0 s (by omega) (by rw [← hG]; exact hok)
  rw [← hG] at h1 h2
  refine ⟨by omega, ?_⟩
  obtain ⟨S, hS⟩ : ∃ S, joinT ((itemsT s).map (·.1)) = S := ⟨_, rfl⟩
  rw [hS] at h1 h2 ⊢
  have h3 := h2 (S.length + 1) 0 (by omega)
  rw [← itemsT_G] at h3
  have hlen : (itemsT S).length = (itemsT s).length := by have := congrArg List.length h3; simpa using this
  have hat : ∀ i (h : i < (itemsT s).length), sameT ((itemsT S)[i]'(by omega)) = sameT (itemsT s)[i] := fun i h => by
    have := congrArg (·[i]?) h3
    simp only [List.getElem?_map, List.getElem?_eq_getElem h, List.getElem?_eq_getElem (show i < (itemsT S).length by omega), Option.map_some] at this
    exact Option.some.inj this
  refine ⟨_, lexM_of (by omega) (fun it hit => ?_), by simp [hlen], fun i hi => ?_⟩
  · obtain ⟨i, hi, rfl⟩ := List.mem_iff_getElem.1 hit
    have := congrArg (·.2.2) (hat i (by omega))
    have e : ((itemsT S)[i]).2 = ((itemsT s)[i]'(by omega)).2 := this
    rw [e]
    exact hok _ (List.getElem_mem _)
  · simp only [List.length_append, List.length_map, List.length_singleton] at hi
    unfold tokAt
    rw [List.getD_eq_getElem?_getD, List.getD_eq_getElem?_getD]
    rcases Nat.lt_or_ge i (itemsT s).length with hlt | hge
    · rw [List.getElem?_append_left (by simp; omega), List.getElem?_append_left (by simpa using hlt), List.getElem?_map, List.getElem?_map, List.getElem?_eq_getElem hlt, List.getElem?_eq_getElem (show i < (itemsT S).length by omega)]
      have := hat i hlt
      exact ⟨congrArg (·.1) this, congrArg (·.2.1) this⟩
    · have e : i = (itemsT s).length := by omega
      subst e
      rw [List.getElem?_append_right (by simp [hlen]), List.getElem?_append_right (by simp)]
      simp [hlen]
theorem lex_bad {s : Str} (h : (lexM s).2.1 ≠ 0) : (lexM s).1 = [] := by
  unfold lexM at h ⊢
  split
  · rfl
  · rename_i hl
    rw [if_neg hl] at h
    split
    · rfl
    · rename_i hf
      rw [hf] at h
      exact absurd rfl h
theorem c5 (src : Str) (Hp : List AObj) : AFun Tryz.prog 5 [strA src] Hp (boolA true) := by
  refine ACall.body [.tmp 2] [0] Tryz.func5 Tryz.ntmps5 (fun d => ?_)
  refine AW.seqR ?_
  refine R.assign ?_
  refine R.fin [0] ?_
  refine W.seq ?_
  refine AW.seqR ?_
  refine R.call Tryz.call13 (c13 _) ?_
  refine R.not ?_
  refine R.fin [0, 12] ?_
  refine W.cond (fun ht12 => ?_) (fun ht12 => ?_)
  · skip
    cases ht12
  · skip
    refine AW.skip ?_
    refine K.thN ?_
    refine W.seq ?_
    refine AW.seqR ?_
    refine R.move ?_
    refine R.slen Tryz.underlying9 ?_
    refine R.gtr ?_
    refine R.fin [0, 15] ?_
    refine W.cond (fun ht15 => ?_) (fun ht15 => ?_)
    · skip
      refine AW.seqR ?_
      refine R.assign ?_
      refine R.fin [2] ?_
      refine AW.ret ?_
      refine K.thR ?_
      exact K.fin (V.one V.tmp) ⟨by first | rfl | (rw [hbad]; rfl), rfl⟩
    · skip
      have hls : src.length ≤ 2000 := by simp at ht15; omega
      refine AW.skip ?_
      refine K.thN ?_
      refine AW.seqR ?_
      refine R.move ?_
      refine R.call Tryz.call15 (c15 src (by omega) _) ?_
      refine R.move ?_
      refine R.extract ?_
      refine R.extract ?_
      refine R.alloc Tryz.zeroValue27 ?_
      refine R.assign ?_
      refine R.storeOwn Tryz.sizeOf27 ?_
      refine R.fin [3, 4] ?_
      refine W.seq ?_
      refine AW.seqR ?_
      refine R.fieldAddrPtr (fo := 0) Tryz.underlying27 Tryz.sizeOf25 ?_
      refine R.loadOwn Tryz.isAgg25 ?_
      refine R.neq ?_
      refine R.fin [3, 23] ?_
      refine W.cond (fun ht23 => ?_) (fun ht23 => ?_)
      · skip
        have hbad := lex_bad (s := src) (by simpa using ht23)
        refine AW.seqR ?_
        refine R.move ?_
        refine R.len Tryz.underlying24 ?_
        refine R.eql ?_
        refine R.assign ?_
        refine R.fin [2] ?_
        refine AW.ret ?_
        refine K.thR ?_
        exact K.fin (V.one V.tmp) ⟨by first | rfl | (rw [hbad]; rfl), rfl⟩
      · skip
        have hf0 : (lexM src).2.1 = 0 := by simpa using ht23
        have hLm : (List.map tokA (lexM src).1).length = (lexM src).1.length := List.length_map _
        have hLl := lexM_len hf0
        obtain ⟨hj4, M, hM, hMl, hMt⟩ := lex_again hls hf0
        refine AW.skip ?_
        refine K.thN ?_
        refine AW.seqR ?_
        refine R.assign ?_
        refine R.fin [3, 5] ?_
        refine W.seq ?_
        refine AW.seqR ?_
        refine R.assign ?_
        refine R.fin [3, 5, 6] ?_
        refine AW.loopC (α := Nat) (fun x => ⟨97, setF 3 (toksA (lexM src).1) (setF 5 (strA (joinT ((lexM src).1.take x))) (setF 6 (intA (x : Nat)) (fun _ => .any))), Hp, [AObj.cells 27 [intA (lexM src).2.1, intA (lexM src).2.2]], [], none⟩) (fun x => x ≤ (lexM src).1.length - 1) (fun x => (lexM src).1.length - x) (0) (Nat.zero_le _) (StLe.refl _) rfl (fun x hx => ?_)
        refine W.seq ?_
        refine AW.seqR ?_
        refine R.move ?_
        refine R.move ?_
        refine R.len Tryz.underlying24 ?_
        refine R.sub64 ?_
        refine R.lss ?_
        refine R.fin [3, 5, 6, 31] ?_
        refine W.cond (fun ht31 => ?_) (fun ht31 => ?_)
        · skip
          have hxl : x < (lexM src).1.length := by simp at ht31; omega
          have hx1 : x + 1 ≤ (lexM src).1.length - 1 := by simp at ht31; omega
          have hjs := joinT_succ hxl
          have hj5 : (joinT ((lexM src).1.take (x + 1))).length ≤ 4000 := by
            have e : (lexM src).1.take (x + 1) = ((lexM src).1.take ((lexM src).1.length - 1)).take (x + 1) := by rw [List.take_take, Nat.min_eq_left hx1]
            rw [e]
            exact Nat.le_trans (joinT_take _ _) hj4
          rw [hjs, List.length_append, List.length_append] at hj5
          have htx : (tokAt (lexM src).1 x).text.length ≤ 1048576 := by have := text_le (tokAt (lexM src).1 x); omega
          have htl := text_le (tokAt (lexM src).1 x)
          refine AW.skip ?_
          refine K.thN ?_
          refine W.seq ?_
          refine AW.block ?_
          refine AW.seqR ?_
          refine R.move ?_
          refine R.move ?_
          refine R.indexAddr (x) (tokA (tokAt (lexM src).1 x)) Tryz.underlying24 Tryz.sizeOf31 (getTok hxl) ?_
          refine R.fieldAddrRo (off := 1) Tryz.underlying31 Tryz.sizeOf9 ?_
          refine R.loadRo Tryz.isAgg9 ?_
          refine R.assign ?_
          refine R.fin [3, 5, 6, 7] ?_
          refine W.seq ?_
          refine AW.seqR ?_
          refine R.move ?_
          refine R.move ?_
          refine R.indexAddr (x) (tokA (tokAt (lexM src).1 x)) Tryz.underlying24 Tryz.sizeOf31 (getTok hxl) ?_
          refine R.fieldAddrRo (off := 0) Tryz.underlying31 Tryz.sizeOf3 ?_
          refine R.loadRo Tryz.isAgg3 ?_
          refine R.eql ?_
          refine R.fin [3, 5, 6, 7, 44] ?_
          refine W.cond (fun ht44 => ?_) (fun ht44 => ?_)
          · skip
            have hk4 : (tokAt (lexM src).1 x).kind = 4 := by simpa using ht44
            have hsp : spell (tokAt (lexM src).1 x) = [39] ++ dblM (tokAt (lexM src).1 x).text ++ [39] := by unfold spell; rw [if_pos hk4]
            rw [hsp] at hjs hj5
            simp only [List.length_append, List.length_cons, List.length_nil] at hj5
            refine AW.region ?_
            refine R.move ?_
            refine R.build (places := #[(0, 1), (1, 1), (2, 1)]) Tryz.underlying36 (fun w => by simp) Tryz.zeroValue36 ?_
            refine R.call Tryz.call19 (c19 (tokAt (lexM src).1 x).text htx _) ?_
            refine R.assign ?_
            refine R.fin [3, 5, 6, 7] ?_
            refine K.thN ?_
            refine AW.region ?_
            refine R.move ?_
            refine R.move ?_
            refine R.sadd (hl := by first | (simp only [List.length_append, List.length_cons, List.length_nil]; omega) | omega) ?_
            refine R.sadd ?_
            refine R.assign ?_
            refine R.fin [3, 5, 6] ?_
            refine K.blN ?_
            refine K.thN ?_
            refine AW.region ?_
            refine R.move ?_
            refine R.add64 ?_
            refine R.assign ?_
            refine R.fin [3, 5, 6] ?_
            exact K.lpN (x + 1) hx1 (by omega) (StCut.of_eq (by rw [hjs]; rfl))
          · skip
            have hk4 : (tokAt (lexM src).1 x).kind ≠ 4 := by simpa using ht44
            have hsp : spell (tokAt (lexM src).1 x) = (tokAt (lexM src).1 x).text := by unfold spell; rw [if_neg hk4]
            rw [hsp] at hjs hj5
            refine AW.skip ?_
            refine K.thN ?_
            refine AW.region ?_
            refine R.move ?_
            refine R.move ?_
            refine R.sadd (hl := by first | (simp only [List.length_append, List.length_cons, List.length_nil]; omega) | omega) ?_
            refine R.sadd ?_
            refine R.assign ?_
            refine R.fin [3, 5, 6] ?_
            refine K.blN ?_
            refine K.thN ?_
            refine AW.region ?_
            refine R.move ?_
            refine R.add64 ?_
            refine R.assign ?_
            refine R.fin [3, 5, 6] ?_
            exact K.lpN (x + 1) hx1 (by omega) (StCut.of_eq (by rw [hjs]; rfl))
        · skip
          have hxe : x = (lexM src).1.length - 1 := by simp at ht31; omega
          have hcall : ∀ Hp, AFun Tryz.prog 15 [strA (joinT ((lexM src).1.take x))] Hp (.tup [toksA M, .agg [intA 0, intA 0]]) := fun Hp => by
            have := c15 (joinT ((lexM src).1.take ((lexM src).1.length - 1))) (by omega) Hp
            rw [hM] at this
            rw [hxe]
            exact this
          refine AW.exit ?_
          refine K.thE ?_
          refine K.lpE ?_
          refine K.thN ?_
          refine AW.seqR ?_
          refine R.move ?_
          refine R.call Tryz.call15 (hcall _) ?_
          refine R.move ?_
          refine R.extract ?_
          refine R.extract ?_
          refine R.alloc Tryz.zeroValue27 ?_
          refine R.assign ?_
          refine R.storeOwn Tryz.sizeOf27 ?_
          refine R.fin [3, 8, 9] ?_
          refine W.seq ?_
          refine AW.seqR ?_
          refine R.fieldAddrPtr (fo := 0) Tryz.underlying27 Tryz.sizeOf25 ?_
          refine R.loadOwn Tryz.isAgg25 ?_
          refine R.neq ?_
          refine R.move ?_
          refine G.move ?_
          refine G.len Tryz.underlying24 ?_
          refine G.move ?_
          refine G.len Tryz.underlying24 ?_
          refine G.neq ?_
          refine R.pickOr ?_
          refine R.fin [3, 8, 66] ?_
          refine W.cond (fun ht66 => ?_) (fun ht66 => ?_)
          · skip
            exact absurd ht66 (by simp [hMl])
          · skip
            refine AW.skip ?_
            refine K.thN ?_
            refine W.seq ?_
            refine AW.seqR ?_
            refine R.assign ?_
            refine R.fin [3, 8, 10] ?_
            refine AW.loopC (α := Nat) (fun x => ⟨97, setF 3 (toksA (lexM src).1) (setF 8 (toksA M) (setF 10 (intA (x : Nat)) (fun _ => .any))), Hp, [AObj.cells 27 [intA (lexM src).2.1, intA (lexM src).2.2], AObj.cells 27 [intA 0, intA 0]], [], none⟩) (fun x => x ≤ (lexM src).1.length) (fun x => (lexM src).1.length - x) (0) (Nat.zero_le _) (StLe.refl _) rfl (fun x hx => ?_)
            refine W.seq ?_
            refine AW.seqR ?_
            refine R.move ?_
            refine R.move ?_
            refine R.len Tryz.underlying24 ?_
            refine R.lss ?_
            refine R.fin [3, 8, 10, 70] ?_
            refine W.cond (fun ht70 => ?_) (fun ht70 => ?_)
            · skip
              have hxl : x < (lexM src).1.length := by simp at ht70; omega
              have hxm : x < M.length := by omega
              obtain ⟨hmk, hmt⟩ := hMt x hxl
              refine AW.skip ?_
              refine K.thN ?_
              refine W.seq ?_
              refine AW.block ?_
              refine W.draw [0, 0, 3, 7, 15, 0, 0, 96, 224, 480, 1023, 2047, 4095, 4095, 16383, 32767, 65535, 4095, 4095, 397311, 921599, 1970175, 4194303, 8388607] 22 Tryzmixed (by kernel_rfl) ?_
              refine D.move ?_
              refine D.move ?_
              refine D.indexAddr (x) (tokA (tokAt M x)) Tryz.underlying24 Tryz.sizeOf31 (getTok hxm) ?_
              refine D.fieldAddrRo (off := 0) Tryz.underlying31 Tryz.sizeOf3 ?_
              refine D.loadRo Tryz.isAgg3 ?_
              refine D.move ?_
              refine D.move ?_
              refine D.indexAddr (x) (tokA (tokAt (lexM src).1 x)) Tryz.underlying24 Tryz.sizeOf31 (getTok hxl) ?_
              refine D.fieldAddrRo (off := 0) Tryz.underlying31 Tryz.sizeOf3 ?_
              refine D.loadRo Tryz.isAgg3 ?_
              refine D.neq ?_
              refine D.move ?_
              refine H.move ?_
              refine H.move ?_
              refine H.indexAddr (x) (tokA (tokAt M x)) Tryz.underlying24 Tryz.sizeOf31 (fun _ => getTok hxm) ?_
              refine H.fieldAddrRo (off := 1) Tryz.underlying31 Tryz.sizeOf9 ?_
              refine H.loadRo Tryz.isAgg9 ?_
              refine H.move ?_
              refine H.move ?_
              refine H.indexAddr (x) (tokA (tokAt (lexM src).1 x)) Tryz.underlying24 Tryz.sizeOf31 (fun _ => getTok hxl) ?_
              refine H.fieldAddrRo (off := 1) Tryz.underlying31 Tryz.sizeOf9 ?_
              refine H.loadRo Tryz.isAgg9 ?_
              refine D.tail ?_
              refine G.sneq ?_
              refine R.pickOr ?_
              refine R.fin [3, 8, 10, 96] ?_
              refine W.cond (fun ht96 => ?_) (fun ht96 => ?_)
              · skip
                exact absurd ht96 (by rw [hmk, hmt]; simp)
              · skip
                refine AW.skip ?_
                refine K.blN ?_
                refine K.thN ?_
                refine AW.region ?_
                refine R.move ?_
                refine R.add64 ?_
                refine R.assign ?_
                refine R.fin [3, 8, 10] ?_
                exact K.lpN (x + 1) hxl (by omega) (StCut.of_eq rfl)
            · skip
              refine AW.exit ?_
              refine K.thE ?_
              refine K.lpE ?_
              refine K.thN ?_
              refine AW.seqR ?_
              refine R.assign ?_
              refine R.fin [2] ?_
              refine AW.ret ?_
              exact K.fin (V.one V.tmp) ⟨by first | rfl | (rw [hbad]; rfl), rfl⟩

end Go.SX.Nb
namespace Go.SX.Nb
open Go Go.SX Go.Proofs
variable [ErrAt]
set_option maxRecDepth 4000
theorem low_strs1 {n k : Nat} {o : Bool} {l : List Str} {z : Str} : Low n (.slice o k (l.map strA ++ [strA z])) := by
  refine .slice _ _ _ (fun y hy => ?_)
  rcases List.mem_append.1 hy with hy | hy
  · obtain ⟨a, _, rfl⟩ := List.mem_map.1 hy
    intro z hz
    rw [List.mem_singleton.1 (show z ∈ [strA a] from hz)]
    exact .v _
  · rw [List.mem_singleton.1 hy]
    intro z' hz
    rw [List.mem_singleton.1 (show z' ∈ [strA z] from hz)]
    exact .v _
theorem low_rdr {n : Nat} {l : List Tok} {acc : List Col} : ObjLow n (rdr l acc) := by
  show ∀ y ∈ [AV.slice false 3 (l.map tokA), AV.slice true 2 (acc.map colA)], Low n y
  intro y hy
  simp only [List.mem_cons, List.not_mem_nil, or_false] at hy
  rcases hy with rfl | rfl
  · simp [or_imp, forall_and]
  · simp [or_imp, forall_and]
theorem low_ints {n : Nat} {t : TypeId} {a b : Int} : ObjLow n (.cells t [intA a, intA b]) := by
  show ∀ y ∈ [intA a, intA b], Low n y
  simp
theorem mem3 {α : Type} {P : α → Prop} {a b c : α} (h1 : P a) (h2 : P b) (h3 : P c) : ∀ x ∈ [a, b, c], P x := by
  intro x hx
  simp only [List.mem_cons, List.not_mem_nil, or_false] at hx
  rcases hx with rfl | rfl | rfl
  · exact h1
  · exact h2
  · exact h3
def schPrintM (c : List Col) : Str := if rightP c then colsT c else []
theorem c22 (c : List Col) (hc : OkCols c) (Hp : List AObj) : AFun Tryz.prog 22 [colsA c] Hp (strA (schPrintM c)) := by
  refine ACall.body [.tmp 2] [0] Tryz.func22 Tryz.ntmps22 (fun d => ?_)
  refine AW.seqR ?_
  refine R.assign ?_
  refine R.fin [0] ?_
  refine W.seq ?_
  refine AW.seqR ?_
  refine R.move ?_
  refine R.call Tryz.call23 (c23 c hc _) ?_
  refine R.not ?_
  refine R.fin [0, 8] ?_
  refine W.cond (fun ht8 => ?_) (fun ht8 => ?_)
  · skip
    have hr : rightP c = false := by simpa using ht8
    refine AW.seqR ?_
    refine R.assign ?_
    refine R.fin [2] ?_
    refine AW.ret ?_
    refine K.thR ?_
    exact K.fin (V.one V.tmp) ⟨by rw [schPrintM, if_neg (by rw [hr]; simp)], rfl⟩
  · skip
    have hr : rightP c = true := by simpa using ht8
    have h12 : c.length ≤ 12 := by unfold rightP at hr; simp at hr; omega
    refine AW.skip ?_
    refine K.thN ?_
    refine AW.seqR ?_
    refine R.assign ?_
    refine R.fin [0, 3] ?_
    refine W.seq ?_
    refine AW.seqR ?_
    refine R.nilSl 3 1 ?_
    refine R.move ?_
    refine R.len Tryz.underlying37 ?_
    refine R.move ?_
    refine R.fin [3, 9, 10, 11] ?_
    refine AW.loopC (α := Nat) (fun x => ⟨28, setF 3 (.slice true 1 (((c.take x).map colT).map strA)) (setF 9 (colsA c) (setF 10 (intA c.length) (setF 11 (intA (x : Nat)) (fun _ => .any)))), Hp, [], [], none⟩) (fun x => x ≤ c.length) (fun x => c.length - x) (0) (Nat.zero_le _) (StLe.of_eq (by simp)) rfl (fun x hx => ?_)
    refine AW.seqR ?_
    refine R.lss ?_
    refine R.fin [3, 9, 10, 11, 12] ?_
    refine W.condX (fun ht12 => ?_) (fun ht12 => ?_)
    · skip
      have hlt : x < c.length := by simpa using ht12
      have hcl := hc.len
      have hb2 := hc.2 c[x] (List.getElem_mem hlt)
      have hb3 := kindName_len c[x].kind
      have htk : c.take (x + 1) = c.take x ++ [c[x]] := by rw [List.take_succ, List.getElem?_eq_getElem hlt]; rfl
      refine W.seq ?_
      refine AW.block ?_
      refine AW.seqR ?_
      refine R.indexAddr (x) (colA c[x]) Tryz.underlying37 Tryz.sizeOf65 (getMap hlt) ?_
      refine R.loadRoN Tryz.isAgg65 Tryz.sizeOf65 ?_
      refine R.alloc Tryz.zeroValue65 ?_
      refine R.storeOwn Tryz.sizeOf65 ?_
      refine R.fin [3, 5, 9, 10, 11] ?_
      refine W.drawY0 [0, 0, 2, 6, 0, 16, 48, 126, 254, 511, 1023] [] [.s [3, 15] none [] [], .q 8 [] []] (fun _ => Hp) (fun _ => [.cells 65 [strA c[x].name, intA c[x].kind]]) Tryzmixed (by kernel_rfl) rfl rfl (fun _ => rfl) ?_
      refine Y.moveT ?_
      apply Y.q
      case h1 =>
        intro B hT hF
        refine D.fieldAddrPtr (fo := 0) Tryz.underlying65 Tryz.sizeOf9 ?_
        refine D.loadOwn Tryz.isAgg9 ?_
        refine D.sadd ?_
        refine D.fieldAddrPtr (fo := 1) Tryz.underlying65 Tryz.sizeOf3 ?_
        refine D.loadOwn Tryz.isAgg3 ?_
        refine D.call Tryz.call69 (c69 _ _) ?_
        refine D.sadd ?_
        refine D.buildSlice Tryz.underlying50 Tryz.sizeOf9 Tryz.zeroValue9 ?_
        exact D.end rfl rfl
      case hTF => decide
      refine Y.tail (tn := [])  ?_
      refine R.append Tryz.underlying50 Tryz.type9 ?_ ?_ ?_
      · have := hc.len; simp [Tryz.t9]; omega
      · have := hc.len; simp [Tryz.t9]; omega
      refine R.assignT ?_
      refine R.fin [3, 9, 10, 11] ?_
      refine K.blN ?_
      refine K.thN ?_
      refine AW.region ?_
      refine R.add64 ?_
      refine R.move ?_
      refine R.fin [3, 9, 10, 11] ?_
      refine K.lpN (x + 1) hlt (by omega) ?_
      simp only [htk, List.map_append, List.map_cons, List.map_nil, colT]
      exact StCut.take (own := []) (fun _ => .refl _) (by repeat (first | exact lowF_any | refine lowF_set (by first | (simp [or_imp, forall_and]; done) | exact low_strs1) ?_)) (by simp) (by simp)
    · skip
      have hx12 : x ≤ 12 := by omega
      have hxe : c.take x = c := List.take_of_length_le (by simp at ht12; omega)
      refine K.lpE ?_
      refine K.thN ?_
      refine AW.seqR ?_
      refine R.move ?_
      refine R.call Tryz.call70 (c70 ((c.take x).map colT) [44, 32] (by have := hc.len; simp; omega) (Nat.le_trans (colsT_len hc x) (by omega)) _) ?_
      refine R.assign ?_
      refine R.fin [2] ?_
      refine AW.ret ?_
      exact K.fin (V.one V.tmp) ⟨by rw [schPrintM, if_pos hr, hxe]; rfl, rfl⟩

/-- Words with an end. -/
structure TokEnd (l : List Tok) : Prop where
  split : ∃ L z, l = L ++ [z] ∧ z.kind = 0 ∧ ∀ t ∈ L, t.kind ≠ 0
  texts : ∀ t ∈ l, t.text.length ≤ 1048576
theorem TokEnd.pos {l : List Tok} (h : TokEnd l) : 1 ≤ l.length := by
  obtain ⟨L, z, rfl, _, _⟩ := h.split
  simp
theorem TokEnd.next {l : List Tok} (h : TokEnd l) (h0 : (tokAt l 0).kind ≠ 0) : TokEnd (l.drop 1) ∧ 2 ≤ l.length := by
  obtain ⟨L, z, rfl, hz, hL⟩ := h.split
  cases L with
  | nil => exact absurd hz h0
  | cons t L => exact ⟨⟨⟨L, z, rfl, hz, fun u hu => hL u (by simp [hu])⟩, fun u hu => h.texts u (by simp at hu ⊢; exact .inr hu)⟩, by simp⟩
theorem tokAt_drop (l : List Tok) (k i : Nat) : tokAt (l.drop k) i = tokAt l (k + i) := by
  unfold tokAt
  rw [List.getD_eq_getElem?_getD, List.getElem?_drop, List.getD_eq_getElem?_getD]
theorem TokEnd.text {l : List Tok} (h : TokEnd l) (i : Nat) : (tokAt l i).text.length ≤ 1048576 := by
  unfold tokAt
  rcases Nat.lt_or_ge i l.length with hi | hi
  · rw [List.getD_eq_getElem?_getD, List.getElem?_eq_getElem hi]
    exact h.texts _ (List.getElem_mem hi)
  · rw [List.getD_eq_getElem?_getD, List.getElem?_eq_none hi]
    exact Nat.zero_le _
def nextR (l : List Tok) (acc : List Col) : AObj := if (colF l acc).1 = 0 then rdr (l.drop 2) (acc ++ [colN l]) else rdr l acc
theorem c73' (l : List Tok) (acc : List Col) (o : Nat) (Hp : List AObj) (ho : Hp[o]? = some (rdr l acc)) (hl : TokEnd l) (hc : OkCols acc) : ACall Tryz.prog 73 [.ptr o 0] Hp (fun r H' => r = .agg [intA (colF l acc).1, intA (colF l acc).2] ∧ H' = Hp.set o (nextR l acc)) := by
  have h := c73 l acc o Hp ho hl.pos (fun h => (hl.next (by rw [h]; decide)).2) hc
  have e : (if (colF l acc).1 = 0 then Hp.set o (rdr (l.drop 2) (acc ++ [colN l])) else Hp) = Hp.set o (nextR l acc) := by
    unfold nextR
    split
    · rfl
    · exact (set_same ho).symm
  rw [e] at h
  exact h
theorem colF_ok {l : List Tok} {acc : List Col} (h : (colF l acc).1 = 0) : (tokAt l 0).kind = 1 ∧ (tokAt l 1).kind = 2 ∧ acc.length ≠ 12 := by
  unfold colF at h
  split at h
  · exact absurd (show (8 : Int) = 0 from h) (by decide)
  · rename_i h1
    split at h
    · exact absurd (show (8 : Int) = 0 from h) (by decide)
    · rename_i h2
      split at h
      · exact absurd (show (9 : Int) = 0 from h) (by decide)
      · split at h
        · exact absurd (show (3 : Int) = 0 from h) (by decide)
        · rename_i h4
          simp only [bne_iff_ne, ne_eq, Classical.not_not, Bool.or_eq_true, not_or, beq_iff_eq] at h1 h2 h4
          exact ⟨h1, h2.1, fun e => h4 (by omega)⟩
theorem TokEnd.three {l : List Tok} {acc : List Col} (hl : TokEnd l) (h : (colF l acc).1 = 0) : TokEnd (l.drop 2) ∧ 3 ≤ l.length := by
  obtain ⟨h1, h2, _⟩ := colF_ok h
  obtain ⟨a1, a2⟩ := hl.next (by rw [h1]; decide)
  obtain ⟨b1, b2⟩ := a1.next (by rw [tokAt_drop]; show (tokAt l 1).kind ≠ 0; rw [h2]; decide)
  rw [List.drop_drop] at b1
  rw [List.length_drop] at b2
  exact ⟨b1, by omega⟩
def readF : Nat → List Tok → List Col → List Col × Int × Int
  | 0, _, _ => ([], 0, 0)
  | f + 1, l, acc => if (colF l acc).1 != 0 then ([], (colF l acc).1, (colF l acc).2)
    else if (tokAt l 2).kind == 0 then (acc ++ [colN l], 0, 0)
    else if ((tokAt l 2).kind != 5) || !((tokAt l 2).text == [44]) then ([], 8, (tokAt l 2).at_)
    else readF f (l.drop 3) (acc ++ [colN l])
def schReadM (s : Str) : List Col × Int × Int :=
  if ((lexM s).2.1 != 0) || (((lexM s).1.length : Int) == 1) then ([], (lexM s).2.1, (lexM s).2.2) else readF ((lexM s).1.length + 1) (lexM s).1 []
theorem word_nz (s : Str) (he : (wordM s).2.2.2 = 0) : (wordM s).1 ≠ 0 := by
  revert he
  unfold wordM namedM numberM quotedM signM
  repeat' split
  all_goals simp
theorem items_nz : ∀ (f q : Nat) (s : Str), (∀ it ∈ itemsF f q s, it.2 = 0) → ∀ it ∈ itemsF f q s, it.1.kind ≠ 0 ∧ it.1.text.length ≤ s.length
  | 0, _, _, _, it, hm => by cases hm
  | f + 1, q, s, h, it, hm => by
    by_cases hs : s = []
    · subst hs; cases hm
    · obtain ⟨n, h1, h2⟩ := itemsF_step (f := f) (q := q) hs
      rw [h1] at hm h
      have h0 : (wordM s).2.2.2 = 0 := h (⟨(wordM s).1, (wordM s).2.1, q⟩, (wordM s).2.2.2) (List.mem_cons_self ..)
      obtain ⟨hn, hn1, hn2⟩ := h2 h0
      rw [if_pos h0] at hm h
      rcases List.mem_cons.1 hm with rfl | hm
      · refine ⟨word_nz s h0, ?_⟩
        have hs1 : 1 ≤ s.length := by cases s with | nil => exact absurd rfl hs | cons c r => simp
        have := word_spell (p := q) hs1 h0 hn
        have h3 := text_le ⟨(wordM s).1, (wordM s).2.1, q⟩
        rw [this] at h3
        simp only [List.length_take] at h3
        show (wordM s).2.1.length ≤ s.length
        omega
      · have := items_nz f _ _ (fun it hit => h it (List.mem_cons_of_mem _ hit)) it hm
        simp only [List.length_drop] at this
        exact ⟨this.1, by omega⟩
theorem lex_end {s : Str} (h : (lexM s).2.1 = 0) : TokEnd (lexM s).1 := by
  by_cases h4 : 4000 < s.length
  · unfold lexM at h
    rw [if_pos h4] at h
    exact absurd h (by decide)
  · have e : lexM s = ((itemsT s).map (·.1) ++ [⟨0, [], s.length⟩], 0, 0) ∧ ∀ it ∈ itemsT s, it.2 = 0 := by
      unfold lexM at h ⊢
      rw [if_neg h4] at h ⊢
      cases hf : (itemsT s).find? (fun it => it.2 != 0) with
      | none =>
        rw [List.find?_eq_none] at hf
        exact ⟨rfl, fun it hit => by simpa using hf it hit⟩
      | some it =>
        rw [hf] at h
        have := List.find?_some hf
        simp only [bne_iff_ne] at this
        exact absurd h this
    obtain ⟨e, hz⟩ := e
    have hnz := items_nz _ _ _ hz
    rw [e]
    refine ⟨⟨_, _, rfl, rfl, fun t ht => ?_⟩, fun t ht => ?_⟩
    · obtain ⟨it, hit, rfl⟩ := List.mem_map.1 ht
      exact (hnz it hit).1
    · rcases List.mem_append.1 ht with ht | ht
      · obtain ⟨it, hit, rfl⟩ := List.mem_map.1 ht
        have := (hnz it hit).2
        simp only [List.length_drop] at this
        omega
      · have e : t = ⟨0, [], s.length⟩ := by simpa using ht
        subst e
        exact Nat.zero_le _
structure ReadAt (s : Str) (x : List Tok × List Col) : Prop where
  toks : TokEnd x.1
  cols : OkCols x.2
  n12 : x.2.length ≤ 12
  eq : ∃ f, x.1.length < f ∧ schReadM s = readF f x.1 x.2
theorem ReadAt.on {s : Str} {x : List Tok × List Col} (h : ReadAt s x) (h0 : (colF x.1 x.2).1 = 0) (h1 : ((tokAt x.1 2).kind == 0) = false) (h2 : (((tokAt x.1 2).kind != 5) || !((tokAt x.1 2).text == [44])) = false) : ReadAt s (x.1.drop 3, x.2 ++ [colN x.1]) ∧ 3 ≤ x.1.length := by
  obtain ⟨f, hf, e⟩ := h.eq
  obtain ⟨a1, a2⟩ := h.toks.three h0
  obtain ⟨b1, b2⟩ := a1.next (by rw [tokAt_drop]; simpa using h1)
  rw [List.drop_drop] at b1
  obtain ⟨_, _, hn⟩ := colF_ok h0
  refine ⟨⟨b1, ⟨?_, ?_⟩, ?_, ?_⟩, a2⟩
  · have := h.n12; simp only [List.length_append, List.length_cons, List.length_nil]; omega
  · intro y hy
    rcases List.mem_append.1 hy with hy | hy
    · exact h.cols.2 y hy
    · have e : y = colN x.1 := by simpa using hy
      subst e
      exact h.toks.text 0
  · have := h.n12; simp only [List.length_append, List.length_cons, List.length_nil]; omega
  · obtain ⟨g, rfl⟩ : ∃ g, f = g + 1 := ⟨f - 1, by omega⟩
    refine ⟨g, by simp only [List.length_drop]; omega, ?_⟩
    rw [e, readF, if_neg (by rw [h0]; decide), if_neg (by rw [h1]; simp), if_neg (by rw [h2]; simp)]
theorem ReadAt.out {s : Str} {x : List Tok × List Col} (h : ReadAt s x) : ∃ f, schReadM s = readF (f + 1) x.1 x.2 := by
  obtain ⟨f, hf, e⟩ := h.eq
  exact ⟨f - 1, by rw [e, show f - 1 + 1 = f by omega]⟩
theorem c25 (s : Str) (hs : s.length ≤ 1048576) (Hp : List AObj) : AFun Tryz.prog 25 [strA s] Hp (.tup [colsA (schReadM s).1, .agg [intA (schReadM s).2.1, intA (schReadM s).2.2]]) := by
  refine ACall.body [.tmp 2, .cell 3 27] [0] Tryz.func25 Tryz.ntmps25 (fun d => ?_)
  refine AW.seqR ?_
  refine R.assign ?_
  refine R.alloc Tryz.zeroValue27 ?_
  refine R.fin [0, 3] ?_
  refine AW.seqR ?_
  refine R.move ?_
  refine R.call Tryz.call15 (c15 s hs _) ?_
  refine R.move ?_
  refine R.extract ?_
  refine R.extract ?_
  refine R.alloc Tryz.zeroValue27 ?_
  refine R.assign ?_
  refine R.storeOwn Tryz.sizeOf27 ?_
  refine R.fin [3, 4, 5] ?_
  refine W.seq ?_
  refine AW.seqR ?_
  refine R.fieldAddrPtr (fo := 0) Tryz.underlying27 Tryz.sizeOf25 ?_
  refine R.loadOwn Tryz.isAgg25 ?_
  refine R.neq ?_
  refine R.move ?_
  refine G.move ?_
  refine G.len Tryz.underlying24 ?_
  refine G.eql ?_
  refine R.pickOr ?_
  refine R.fin [3, 4, 5, 21] ?_
  refine W.cond (fun ht21 => ?_) (fun ht21 => ?_)
  · skip
    have hm : schReadM s = ([], (lexM s).2.1, ((lexM s).2.2 : Int)) := by unfold schReadM; rw [if_pos (by simpa using ht21)]
    refine W.draw [0, 0, 3] 2 Tryzmixed (by kernel_rfl) ?_
    refine D.loadOwnN Tryz.isAgg27 Tryz.sizeOf27 ?_
    refine D.assign ?_
    refine D.tail ?_
    refine R.nilSl 2 2 ?_
    refine R.storeOwn Tryz.sizeOf27 ?_
    refine R.fin [2, 3] ?_
    refine AW.ret ?_
    refine K.thR ?_
    exact K.fin (V.two V.tmp (V.cellN Tryz.isAgg27 Tryz.sizeOf27)) ⟨by rw [hm]; try rfl, rfl⟩
  · skip
    have hb : (((lexM s).2.1 != 0) || (((lexM s).1.length : Int) == 1)) = false := by simpa using ht21
    have hm : schReadM s = readF ((lexM s).1.length + 1) (lexM s).1 [] := by unfold schReadM; rw [if_neg (by rw [hb]; simp)]
    have hle := lex_end (s := s) (by have := hb; simp at this; exact this.1)
    refine AW.skip ?_
    refine K.thN ?_
    refine AW.seqR ?_
    refine R.move ?_
    refine R.build (places := #[(0, 1), (1, 1)]) Tryz.underlying100 (fun w => by simp) Tryz.zeroValue100 ?_
    refine R.box ?_
    refine R.nilCell 2 1 2 ?_
    refine R.assign ?_
    refine R.fin [3, 6] ?_
    refine AW.loopC (α := List Tok × List Col) (fun x => ⟨66, setF 3 (.ptr (oid Hp.length 0) 0) (setF 6 (.ptr (oid Hp.length 2) 0) (fun _ => .any)), Hp, [.cells 27 [intA 0, intA 0], .cells 27 [intA (lexM s).2.1, intA ((lexM s).2.2 : Nat)], rdr x.1 x.2], [], none⟩) (fun x => ReadAt s x) (fun x => x.1.length) (((lexM s).1, [])) ⟨hle, ⟨by simp, by simp⟩, by simp, _, by simp, hm⟩ (StLe.refl _) rfl (fun x hx => ?_)
    refine AW.block ?_
    refine W.seq ?_
    refine AW.seqR ?_
    refine R.move ?_
    refine R.callOwn (n := 2) (x := nextR x.1 x.2) Tryz.call73 (c73' x.1 x.2 (oid Hp.length 2) _ (by rw [get_oid]; rfl) hx.toks hx.cols) ?_
    refine R.alloc Tryz.zeroValue27 ?_
    refine R.storeOwn Tryz.sizeOf27 ?_
    refine R.fin [3, 6, 7] ?_
    refine AW.seqR ?_
    refine R.fieldAddrPtr (fo := 0) Tryz.underlying27 Tryz.sizeOf25 ?_
    refine R.loadOwn Tryz.isAgg25 ?_
    refine R.neq ?_
    refine R.fin [3, 6, 7, 30] ?_
    refine W.cond (fun ht30 => ?_) (fun ht30 => ?_)
    · skip
      refine W.draw [0, 0, 3] 2 Tryzmixed (by kernel_rfl) ?_
      refine D.loadOwnN Tryz.isAgg27 Tryz.sizeOf27 ?_
      refine D.assign ?_
      refine D.tail ?_
      refine R.nilSl 2 2 ?_
      refine R.storeOwn Tryz.sizeOf27 ?_
      refine R.fin [2, 3] ?_
      refine AW.ret ?_
      refine K.thR ?_
      refine K.blR ?_
      refine K.lpR ?_
      obtain ⟨f, e⟩ := hx.out
      have e2 : schReadM s = ([], (colF x.1 x.2).1, (colF x.1 x.2).2) := by rw [e, readF, if_pos ht30]
      exact K.fin (V.two V.tmp (V.cellN Tryz.isAgg27 Tryz.sizeOf27)) ⟨by rw [e2]; try rfl, rfl⟩
    · skip
      have h0 : (colF x.1 x.2).1 = 0 := by simpa using ht30
      have h3 := hx.toks.three h0
      have hnx : nextR x.1 x.2 = rdr (x.1.drop 2) (x.2 ++ [colN x.1]) := if_pos h0
      rw [hnx]
      refine AW.skip ?_
      refine K.thN ?_
      refine AW.seqR ?_
      refine R.move ?_
      refine R.nilPtr ?_
      refine R.fieldAddrPtr (fo := 0) Tryz.underlying100 Tryz.sizeOf24 ?_
      refine R.loadOwn Tryz.isAgg24 ?_
      refine R.indexAddr (0) (tokA (tokAt (x.1.drop 2) 0)) Tryz.underlying24 Tryz.sizeOf31 (getTok h3.1.pos) ?_
      refine R.loadRoN Tryz.isAgg31 Tryz.sizeOf31 ?_
      refine R.alloc Tryz.zeroValue31 ?_
      refine R.storeOwn Tryz.sizeOf31 ?_
      refine R.fin [3, 6, 8] ?_
      refine W.seq ?_
      refine AW.block ?_
      refine AW.seqR ?_
      refine R.fieldAddrPtr (fo := 0) Tryz.underlying31 Tryz.sizeOf3 ?_
      refine R.loadOwn Tryz.isAgg3 ?_
      refine R.eql ?_
      refine R.assign ?_
      refine R.fin [3, 6, 8, 38] ?_
      refine W.cond (fun ht38 => ?_) (fun ht38 => ?_)
      · skip
        have hk0 : ((tokAt x.1 2).kind == 0) = true := by rw [tokAt_drop] at ht38; simpa using ht38
        refine AW.seqR ?_
        refine R.move ?_
        refine R.nilPtr ?_
        refine R.fieldAddrPtr (fo := 1) Tryz.underlying100 Tryz.sizeOf37 ?_
        refine R.loadOwn Tryz.isAgg37 ?_
        refine R.build (places := #[(0, 1), (1, 1)]) Tryz.underlying27 (fun w => by simp) Tryz.zeroValue27 ?_
        refine R.assign ?_
        refine R.storeOwn Tryz.sizeOf27 ?_
        refine R.fin [2, 3] ?_
        refine AW.ret ?_
        refine K.blR ?_
        refine K.thR ?_
        refine K.blR ?_
        refine K.lpR ?_
        obtain ⟨f, e⟩ := hx.out
        have e2 : schReadM s = (x.2 ++ [colN x.1], 0, 0) := by rw [e, readF, if_neg (by rw [h0]; decide), if_pos hk0]
        exact K.fin (V.two V.tmp (V.cellN Tryz.isAgg27 Tryz.sizeOf27)) ⟨by rw [e2, colsA]; try rfl, rfl⟩ (hlow := by simp [or_imp, forall_and])
      · skip
        have hk0 : ((tokAt x.1 2).kind == 0) = false := by rw [tokAt_drop] at ht38; simpa using ht38
        refine AW.seqR ?_
        refine R.fieldAddrPtr (fo := 0) Tryz.underlying31 Tryz.sizeOf3 ?_
        refine R.loadOwn Tryz.isAgg3 ?_
        refine R.neq ?_
        refine R.move ?_
        refine G.fieldAddrPtr (fo := 1) Tryz.underlying31 Tryz.sizeOf9 ?_
        refine G.loadOwn Tryz.isAgg9 ?_
        refine G.sneq ?_
        refine R.pickOr ?_
        refine R.assign ?_
        refine R.fin [3, 6, 8, 47] ?_
        refine W.cond (fun ht47 => ?_) (fun ht47 => ?_)
        · skip
          have hk5 : (((tokAt x.1 2).kind != 5) || !((tokAt x.1 2).text == [44])) = true := by rw [tokAt_drop] at ht47; exact ht47
          refine AW.seqR ?_
          refine R.loadOwnN Tryz.isAgg31 Tryz.sizeOf31 ?_
          refine R.call Tryz.call74 (c74 _ _ _) ?_
          refine R.assign ?_
          refine R.nilSl 2 2 ?_
          refine R.storeOwn Tryz.sizeOf27 ?_
          refine R.fin [2, 3] ?_
          refine AW.ret ?_
          refine K.blR ?_
          refine K.thR ?_
          refine K.blR ?_
          refine K.lpR ?_
          obtain ⟨f, e⟩ := hx.out
          have e2 : schReadM s = ([], 8, ((tokAt x.1 2).at_ : Int)) := by rw [e, readF, if_neg (by rw [h0]; decide), if_neg (by rw [hk0]; simp), if_pos hk5]
          exact K.fin (V.two V.tmp (V.cellN Tryz.isAgg27 Tryz.sizeOf27)) ⟨by rw [e2, tokAt_drop]; try rfl, rfl⟩
        · skip
          have hk5 : (((tokAt x.1 2).kind != 5) || !((tokAt x.1 2).text == [44])) = false := by rw [tokAt_drop] at ht47; exact ht47
          refine AW.skip ?_
          refine K.blN ?_
          refine K.thN ?_
          refine AW.region ?_
          refine R.move ?_
          refine R.move ?_
          refine R.nilPtr ?_
          refine R.fieldAddrPtr (fo := 0) Tryz.underlying100 Tryz.sizeOf24 ?_
          refine R.loadOwn Tryz.isAgg24 ?_
          refine R.cutL 1 Tryz.underlying24 Tryz.sizeOf31 (show 1 ≤ ((x.1.drop 2).map tokA).length by have := h3.1.pos; simpa using this) (Nat.le_refl _) ?_
          refine R.nilPtr ?_
          refine R.fieldAddrPtr (fo := 0) Tryz.underlying100 Tryz.sizeOf24 ?_
          refine R.storeOwn Tryz.sizeOf24 ?_
          refine R.fin [3, 6] ?_
          refine K.blN ?_
          have hon := hx.on h0 hk0 hk5
          refine K.lpN (x.1.drop 3, x.2 ++ [colN x.1]) hon.1 (by have := hon.2; simp only [List.length_drop]; omega) ?_
          have e3 : ((x.1.drop 2).map tokA).drop 1 = (x.1.drop 3).map tokA := by rw [← List.map_drop, List.drop_drop]
          rw [e3]
          exact StCut.take (own := [.cells 27 [intA 0, intA 0], .cells 27 [intA (lexM s).2.1, intA ((lexM s).2.2 : Nat)], rdr (x.1.drop 3) (x.2 ++ [colN x.1])]) (fun _ => .refl _) (by repeat (first | exact lowF_any | refine lowF_set (by simp [oid] <;> omega) ?_)) (mem3 low_ints low_ints low_rdr) (by simp)

end Go.SX.Nb
namespace Go.SX.Nb
open Go Go.SX Go.Proofs
variable [ErrAt]
set_option maxRecDepth 4000
/-- Where a parser of expressions stands: its word, its nest, its fault. -/
structure PS where
  i : Nat
  nest : Nat
  code : Int
  at_ : Int
def noV : Val := ⟨0, 0, []⟩
def nullX : Expr := .mk 0 [] noV []
def failM (e a : Int) (S : PS) : PS := if S.code == 0 then ⟨S.i, S.nest, e, a⟩ else S
def isM (l : List Tok) (of : Str) (S : PS) : Bool := (((tokAt l S.i).kind == 5) || ((tokAt l S.i).kind == 2)) && isMarkM (tokAt l S.i).text of
def nextM (S : PS) : PS := ⟨S.i + 1, S.nest, S.code, S.at_⟩
def deepM (S : PS) : PS := ⟨S.i, S.nest + 1, S.code, S.at_⟩
def riseM (S : PS) : PS := ⟨S.i, S.nest - 1, S.code, S.at_⟩
def wantM (l : List Tok) (s : Str) (S : PS) : PS := if S.code != 0 then S else if ((tokAt l S.i).kind != 5) || !((tokAt l S.i).text == s) then failM 8 (tokAt l S.i).at_ S else nextM S
/-- What stands one nest deeper. -/
structure Fam where
  ei : PS → Expr × PS
  no : PS → Expr × PS
  ne : PS → Expr × PS
def withinM (a : Int) (f : PS → Expr × PS) (S : PS) : Expr × PS := if (S.nest : Int) == 30 then (nullX, failM 18 a S) else ((f (deepM S)).1, riseM (f (deepM S)).2)
def binX (t : Str) (x y : Expr) : Expr := .mk 5 t noV [x, y]
def leftF (l : List Tok) (of : Str) (f : PS → Expr × PS) : Nat → Expr × PS → Expr × PS
  | 0, r => r
  | n + 1, r => if (r.2.code == 0) && isM l of r.2 then leftF l of f n (binX (tokAt l r.2.i).text r.1 (f (nextM r.2)).1, (f (nextM r.2)).2) else r
def leftM (l : List Tok) (of : Str) (f : PS → Expr × PS) (S : PS) : Expr × PS := leftF l of f l.length (f S)
def commaT : Str := [32, 44, 32]
def argsF (l : List Tok) (f : PS → Expr × PS) : Nat → List Expr × PS → List Expr × PS
  | 0, r => r
  | n + 1, r => if (r.2.code == 0) && isM l commaT r.2 then argsF l f n (r.1 ++ [(f (nextM r.2)).1], (f (nextM r.2)).2) else r
def argsM (l : List Tok) (f : PS → Expr × PS) (S : PS) : List Expr × PS := argsF l f l.length ([(f S).1], (f S).2)
def kidsM (l : List Tok) (a : Int) (f : PS → Expr × PS) (S : PS) : List Expr × PS := if (S.nest : Int) == 30 then ([], failM 18 a S) else ((argsM l f (deepM S)).1, riseM (argsM l f (deepM S)).2)
def closeT : Str := [41]
def callKM (l : List Tok) (D : Fam) (S : PS) : List Expr × PS := kidsM l (tokAt l S.i).at_ D.ei (nextM S)
def callM (l : List Tok) (D : Fam) (t : Tok) (S : PS) : Expr × PS :=
  if arityM t.text < 0 then (nullX, failM 9 t.at_ S)
  else if ((wantM l closeT (callKM l D S).2).code == 0) && !(((callKM l D S).1.length : Int) == arityM t.text) then (nullX, failM 8 t.at_ (wantM l closeT (callKM l D S).2))
  else (.mk 6 t.text noV (callKM l D S).1, wantM l closeT (callKM l D S).2)
def orT : Str := [32, 111, 114, 32]
def andT : Str := [32, 97, 110, 100, 32]
def notT : Str := [32, 110, 111, 116, 32]
def cmpT : Str := [32, 61, 32, 33, 61, 32, 60, 32, 60, 61, 32, 62, 32, 62, 61, 32]
def sumT : Str := [32, 43, 32, 45, 32, 38, 32]
def prodT : Str := [32, 42, 32, 47, 32, 37, 32]
def negT : Str := [32, 45, 32]
def opT : Str := [32, 40, 32]
def litT : Str := [32, 116, 114, 117, 101, 32, 102, 97, 108, 115, 101, 32, 110, 117, 108, 108, 32]
def valX (v : Val) : Expr := .mk 1 [] v []
def atomM (l : List Tok) (D : Fam) (S : PS) : Expr × PS :=
  if S.code != 0 then (nullX, S)
  else if ((tokAt l S.i).kind == 3) || isM l litT S then (valX (readM (tokAt l S.i).text).1, nextM S)
  else if (tokAt l S.i).kind == 4 then (valX ⟨2, 0, (tokAt l S.i).text.take 200⟩, nextM S)
  else if (tokAt l S.i).kind == 1 then (if isM l opT (nextM S) then callM l D (tokAt l S.i) (nextM S) else (nameE (tokAt l S.i).text, nextM S))
  else if isM l opT S then ((withinM (tokAt l S.i).at_ D.ei (nextM S)).1, wantM l closeT (withinM (tokAt l S.i).at_ D.ei (nextM S)).2)
  else (nullX, failM 8 (tokAt l S.i).at_ S)
def oneX (op : Int) (x : Expr) : Expr := .mk op [] noV [x]
def negM (l : List Tok) (D : Fam) (S : PS) : Expr × PS := if !isM l negT S then atomM l D S else (oneX 3 (withinM (tokAt l S.i).at_ D.ne (nextM S)).1, (withinM (tokAt l S.i).at_ D.ne (nextM S)).2)
def prodM (l : List Tok) (D : Fam) : PS → Expr × PS := leftM l prodT (negM l D)
def sumM (l : List Tok) (D : Fam) : PS → Expr × PS := leftM l sumT (prodM l D)
def compareM (l : List Tok) (D : Fam) (S : PS) : Expr × PS :=
  if ((sumM l D S).2.code != 0) || !isM l cmpT (sumM l D S).2 then sumM l D S
  else (binX (tokAt l (sumM l D S).2.i).text (sumM l D S).1 (sumM l D (nextM (sumM l D S).2)).1, (sumM l D (nextM (sumM l D S).2)).2)
def notM (l : List Tok) (D : Fam) (S : PS) : Expr × PS := if !isM l notT S then compareM l D S else (oneX 4 (withinM (tokAt l S.i).at_ D.no (nextM S)).1, (withinM (tokAt l S.i).at_ D.no (nextM S)).2)
def bothM (l : List Tok) (D : Fam) : PS → Expr × PS := leftM l andT (notM l D)
def eitherM (l : List Tok) (D : Fam) : PS → Expr × PS := leftM l orT (bothM l D)
def famM (l : List Tok) : Nat → Fam
  | 0 => ⟨fun S => (nullX, S), fun S => (nullX, S), fun S => (nullX, S)⟩
  | d + 1 => ⟨eitherM l (famM l d), notM l (famM l d), negM l (famM l d)⟩

/-! What is so of them. -/
theorem okE_le : ∀ {n m : Nat}, n ≤ m → ∀ {e : Expr}, okE n e → okE m e
  | 0, _, _, _, h => h.elim
  | n + 1, 0, h, _, _ => by omega
  | n + 1, m + 1, h, _, ho => ⟨ho.1, ho.2.1, fun y hy => okE_le (by omega) (ho.2.2 y hy)⟩
theorem nullX_size : sizeE nullX = 1 := rfl
theorem binX_size (t : Str) (a b : Expr) : sizeE (binX t a b) = 1 + (sizeE a + (sizeE b + 0)) := by rw [binX, sizeE, sizeL, sizeL, sizeL]
theorem oneX_size (o : Int) (a : Expr) : sizeE (oneX o a) = 1 + (sizeE a + 0) := by rw [oneX, sizeE, sizeL, sizeL]
theorem sizeL_app : ∀ a b : List Expr, sizeL (a ++ b) = sizeL a + sizeL b
  | [], b => by rw [List.nil_append, sizeL, Nat.zero_add]
  | e :: r, b => by rw [List.cons_append, sizeL, sizeL, sizeL_app r b, Nat.add_assoc]
theorem nullX_ok {n : Nat} (h : 1 ≤ n) : okE n nullX := okE_le h ⟨by decide, by decide, fun y hy => by cases hy⟩
theorem valX_ok {n : Nat} (h : 1 ≤ n) (v : Val) : okE n (valX v) := okE_le h ⟨by simp [valX, Expr.text], by simp [valX, Expr.kids], fun y hy => by cases hy⟩
structure Fact (l : List Tok) (S : PS) (r : Expr × PS) : Prop where
  le : S.i ≤ r.2.i
  lt : r.2.i < l.length
  nest : r.2.nest = S.nest
  ok : okE (2 * (r.2.i - S.i) + 1) r.1
  sz : sizeE r.1 ≤ 2 * (r.2.i - S.i) + 1
def Good (l : List Tok) (n : Nat) (f : PS → Expr × PS) : Prop := ∀ S, S.i < l.length → S.nest = n → Fact l S (f S)
theorem TokEnd.step {l : List Tok} (h : TokEnd l) {i : Nat} (hi : i < l.length) (hk : (tokAt l i).kind ≠ 0) : i + 1 < l.length := by
  obtain ⟨L, z, rfl, hz, _⟩ := h.split
  rcases Nat.lt_or_ge i L.length with h1 | h1
  · simp only [List.length_append, List.length_cons, List.length_nil]; omega
  · have : i = L.length := by simp only [List.length_append, List.length_cons, List.length_nil] at hi; omega
    subst this
    exact absurd (by unfold tokAt; simpa using hz) hk
theorem isM_nz {l : List Tok} {of : Str} {S : PS} (h : isM l of S = true) : (tokAt l S.i).kind ≠ 0 := by
  unfold isM at h
  simp only [Bool.and_eq_true, Bool.or_eq_true, beq_iff_eq] at h
  omega
theorem TokEnd.stepIs {l : List Tok} (h : TokEnd l) {of : Str} {S : PS} (hi : S.i < l.length) (hk : isM l of S = true) : (nextM S).i < l.length := h.step hi (isM_nz hk)
theorem failM_i {e a : Int} {S : PS} : (failM e a S).i = S.i ∧ (failM e a S).nest = S.nest := by unfold failM; split <;> exact ⟨rfl, rfl⟩
theorem wantM_i {l : List Tok} (hl : TokEnd l) {s : Str} {S : PS} (hi : S.i < l.length) : S.i ≤ (wantM l s S).i ∧ (wantM l s S).i < l.length ∧ (wantM l s S).nest = S.nest := by
  unfold wantM
  split
  · exact ⟨Nat.le_refl _, hi, rfl⟩
  · split
    · rw [failM_i.1, failM_i.2]; exact ⟨Nat.le_refl _, hi, rfl⟩
    · rename_i h
      simp only [Bool.or_eq_true, bne_iff_ne, ne_eq, not_or, Classical.not_not] at h
      have := hl.step hi (by rw [h.1]; decide)
      exact ⟨Nat.le_succ _, this, rfl⟩
theorem failFact {l : List Tok} {S S0 : PS} (h0 : S0.i ≤ S.i) (h1 : S.i < l.length) (h2 : S.nest = S0.nest) (e a : Int) : Fact l S0 (nullX, failM e a S) := by
  refine ⟨?_, ?_, ?_, nullX_ok (by omega), by rw [nullX_size]; omega⟩
  · show _ ≤ (failM e a S).i; rw [failM_i.1]; exact h0
  · show (failM e a S).i < _; rw [failM_i.1]; exact h1
  · show (failM e a S).nest = _; rw [failM_i.2]; exact h2
/-- A state of a loop of marks. -/
structure LeftAt (l : List Tok) (of : Str) (f : PS → Expr × PS) (S : PS) (r : Expr × PS) : Prop where
  fact : Fact l S r
  eq : ∃ n, l.length ≤ r.2.i + n ∧ leftM l of f S = leftF l of f n r
theorem LeftAt.start {l : List Tok} {of : Str} {f : PS → Expr × PS} {S : PS} (h : Fact l S (f S)) : LeftAt l of f S (f S) := ⟨h, l.length, by omega, rfl⟩
theorem binFact {l : List Tok} {S : PS} {r q : Expr × PS} (h : Fact l S r) (hq : Fact l (nextM r.2) q) (hl : TokEnd l) : Fact l S (binX (tokAt l r.2.i).text r.1 q.1, q.2) := by
  have h1 := h.le
  have h2 : r.2.i + 1 ≤ q.2.i := hq.le
  refine ⟨by show S.i ≤ q.2.i; omega, hq.lt, by show q.2.nest = S.nest; rw [hq.nest]; exact h.nest, ?_, ?_⟩
  rotate_left
  · have s1 := h.sz
    have s2 : sizeE q.1 ≤ 2 * (q.2.i - (r.2.i + 1)) + 1 := hq.sz
    show sizeE (binX _ r.1 q.1) ≤ 2 * (q.2.i - S.i) + 1
    rw [binX_size]
    omega
  show okE (2 * (q.2.i - S.i) + 1) _
  refine ⟨hl.text _, by simp [binX, Expr.kids], fun y hy => ?_⟩
  have hy' : y = r.1 ∨ y = q.1 := by simpa [binX, Expr.kids] using hy
  rcases hy' with rfl | rfl
  · exact okE_le (by omega) h.ok
  · exact okE_le (by show 2 * (q.2.i - (r.2.i + 1)) + 1 ≤ _; omega) hq.ok
theorem LeftAt.on {l : List Tok} {of : Str} {f : PS → Expr × PS} {S : PS} {r : Expr × PS} (hl : TokEnd l) (h : LeftAt l of f S r) (hc : ((r.2.code == 0) && isM l of r.2) = true) (hf : Good l S.nest f) : (nextM r.2).i < l.length ∧ Fact l (nextM r.2) (f (nextM r.2)) ∧ LeftAt l of f S (binX (tokAt l r.2.i).text r.1 (f (nextM r.2)).1, (f (nextM r.2)).2) := by
  have hi := hl.stepIs h.fact.lt (Bool.and_eq_true_iff.1 hc).2
  have hq := hf (nextM r.2) hi h.fact.nest
  obtain ⟨n, hn, e⟩ := h.eq
  have h1 := h.fact.lt
  have h2 : r.2.i + 1 ≤ (f (nextM r.2)).2.i := hq.le
  obtain ⟨m, rfl⟩ : ∃ m, n = m + 1 := ⟨n - 1, by omega⟩
  refine ⟨hi, hq, binFact h.fact hq hl, m, by show l.length ≤ (f (nextM r.2)).2.i + m; omega, ?_⟩
  rw [e, leftF, if_pos hc]
theorem LeftAt.out {l : List Tok} {of : Str} {f : PS → Expr × PS} {S : PS} {r : Expr × PS} (h : LeftAt l of f S r) (hc : ¬ ((r.2.code == 0) && isM l of r.2) = true) : leftM l of f S = r := by
  obtain ⟨n, hn, e⟩ := h.eq
  have h1 := h.fact.lt
  obtain ⟨m, rfl⟩ : ∃ m, n = m + 1 := ⟨n - 1, by omega⟩
  rw [e, leftF, if_neg hc]
theorem leftF_at {l : List Tok} {of : Str} {f : PS → Expr × PS} {S : PS} (hl : TokEnd l) (hf : Good l S.nest f) : ∀ (k : Nat) (r : Expr × PS), l.length - r.2.i ≤ k → LeftAt l of f S r → Fact l S (leftM l of f S)
  | 0, r, hk, h => by have := h.fact.lt; omega
  | k + 1, r, hk, h => by
    by_cases hc : ((r.2.code == 0) && isM l of r.2) = true
    · obtain ⟨h1, h2, h3⟩ := h.on hl hc hf
      have h4 : r.2.i + 1 ≤ (f (nextM r.2)).2.i := h2.le
      exact leftF_at hl hf k _ (by show l.length - (f (nextM r.2)).2.i ≤ k; have := h.fact.lt; omega) h3
    · rw [h.out hc]; exact h.fact
theorem leftM_good {l : List Tok} {of : Str} {f : PS → Expr × PS} {n : Nat} (hl : TokEnd l) (hf : Good l n f) : Good l n (leftM l of f) := fun S hi hn => leftF_at hl (hn ▸ hf) l.length (f S) (by omega) (.start (hf S hi hn))
theorem withinM_fact {l : List Tok} {f : PS → Expr × PS} {S : PS} (a : Int) (hi : S.i < l.length) (hf : S.nest ≠ 30 → Good l (S.nest + 1) f) : Fact l S (withinM a f S) := by
  unfold withinM
  split
  · exact failFact (Nat.le_refl _) hi rfl _ _
  · rename_i h
    have h30 : S.nest ≠ 30 := fun e => h (by rw [e]; rfl)
    have := hf h30 (deepM S) hi rfl
    refine ⟨this.le, this.lt, ?_, this.ok, this.sz⟩
    show (f (deepM S)).2.nest - 1 = S.nest
    rw [this.nest]
    rfl
/-- What is so of some kids. -/
structure KFact (l : List Tok) (S : PS) (r : List Expr × PS) : Prop where
  le : S.i ≤ r.2.i
  lt : r.2.i < l.length
  nest : r.2.nest = S.nest
  len : r.1.length ≤ r.2.i - S.i + 1
  ok : ∀ y ∈ r.1, okE (2 * (r.2.i - S.i) + 1) y
  sz : sizeL r.1 ≤ 2 * (r.2.i - S.i) + 1
structure ArgsAt (l : List Tok) (f : PS → Expr × PS) (S : PS) (r : List Expr × PS) : Prop where
  fact : KFact l S r
  eq : ∃ n, l.length ≤ r.2.i + n ∧ argsM l f S = argsF l f n r
theorem ArgsAt.start {l : List Tok} {f : PS → Expr × PS} {S : PS} (h : Fact l S (f S)) : ArgsAt l f S ([(f S).1], (f S).2) := ⟨⟨h.le, h.lt, h.nest, by simp, fun y hy => by rw [List.mem_singleton.1 hy]; exact h.ok, by have := h.sz; show sizeE (f S).1 + 0 ≤ _; exact this⟩, l.length, by omega, rfl⟩
theorem ArgsAt.on {l : List Tok} {f : PS → Expr × PS} {S : PS} {r : List Expr × PS} (hl : TokEnd l) (h : ArgsAt l f S r) (hc : ((r.2.code == 0) && isM l commaT r.2) = true) (hf : Good l S.nest f) : (nextM r.2).i < l.length ∧ Fact l (nextM r.2) (f (nextM r.2)) ∧ ArgsAt l f S (r.1 ++ [(f (nextM r.2)).1], (f (nextM r.2)).2) := by
  have hi := hl.stepIs h.fact.lt (Bool.and_eq_true_iff.1 hc).2
  have hq := hf (nextM r.2) hi h.fact.nest
  obtain ⟨n, hn, e⟩ := h.eq
  have h1 := h.fact.lt
  have h0 := h.fact.le
  have h2 : r.2.i + 1 ≤ (f (nextM r.2)).2.i := hq.le
  obtain ⟨m, rfl⟩ : ∃ m, n = m + 1 := ⟨n - 1, by omega⟩
  refine ⟨hi, hq, ⟨by show S.i ≤ (f (nextM r.2)).2.i; omega, hq.lt, by show (f (nextM r.2)).2.nest = _; rw [hq.nest]; exact h.fact.nest, ?_, fun y hy => ?_, ?_⟩, m, by show l.length ≤ (f (nextM r.2)).2.i + m; omega, ?_⟩
  · have := h.fact.len
    show (r.1 ++ _).length ≤ (f (nextM r.2)).2.i - S.i + 1
    simp only [List.length_append, List.length_cons, List.length_nil]
    omega
  · show okE (2 * ((f (nextM r.2)).2.i - S.i) + 1) y
    rcases List.mem_append.1 hy with hy | hy
    · exact okE_le (by omega) (h.fact.ok y hy)
    · rw [List.mem_singleton.1 hy]
      exact okE_le (by show 2 * ((f (nextM r.2)).2.i - (r.2.i + 1)) + 1 ≤ _; omega) hq.ok
  · have s1 := h.fact.sz
    have s2 : sizeE (f (nextM r.2)).1 ≤ 2 * ((f (nextM r.2)).2.i - (r.2.i + 1)) + 1 := hq.sz
    show sizeL (r.1 ++ [(f (nextM r.2)).1]) ≤ 2 * ((f (nextM r.2)).2.i - S.i) + 1
    rw [sizeL_app, sizeL, sizeL]
    omega
  · rw [e, argsF, if_pos hc]
theorem ArgsAt.out {l : List Tok} {f : PS → Expr × PS} {S : PS} {r : List Expr × PS} (h : ArgsAt l f S r) (hc : ¬ ((r.2.code == 0) && isM l commaT r.2) = true) : argsM l f S = r := by
  obtain ⟨n, hn, e⟩ := h.eq
  have h1 := h.fact.lt
  obtain ⟨m, rfl⟩ : ∃ m, n = m + 1 := ⟨n - 1, by omega⟩
  rw [e, argsF, if_neg hc]
theorem argsF_at {l : List Tok} {f : PS → Expr × PS} {S : PS} (hl : TokEnd l) (hf : Good l S.nest f) : ∀ (k : Nat) (r : List Expr × PS), l.length - r.2.i ≤ k → ArgsAt l f S r → KFact l S (argsM l f S)
  | 0, r, hk, h => by have := h.fact.lt; omega
  | k + 1, r, hk, h => by
    by_cases hc : ((r.2.code == 0) && isM l commaT r.2) = true
    · obtain ⟨h1, h2, h3⟩ := h.on hl hc hf
      have h4 : r.2.i + 1 ≤ (f (nextM r.2)).2.i := h2.le
      exact argsF_at hl hf k _ (by show l.length - (f (nextM r.2)).2.i ≤ k; have := h.fact.lt; omega) h3
    · rw [h.out hc]; exact h.fact
theorem argsM_fact {l : List Tok} {f : PS → Expr × PS} {S : PS} (hl : TokEnd l) (hi : S.i < l.length) (hf : Good l S.nest f) : KFact l S (argsM l f S) := argsF_at hl hf l.length _ (by show l.length - (f S).2.i ≤ _; omega) (.start (hf S hi rfl))
theorem kidsM_fact {l : List Tok} {f : PS → Expr × PS} {S : PS} (hl : TokEnd l) (a : Int) (hi : S.i < l.length) (hf : S.nest ≠ 30 → Good l (S.nest + 1) f) : KFact l S (kidsM l a f S) := by
  unfold kidsM
  split
  · refine ⟨?_, ?_, ?_, by simp, fun y hy => (by cases hy), by simp [sizeL]⟩
    · show _ ≤ (failM _ _ S).i; rw [failM_i.1]; exact Nat.le_refl _
    · show (failM _ _ S).i < _; rw [failM_i.1]; exact hi
    · show (failM _ _ S).nest = _; rw [failM_i.2]
  · rename_i h
    have h30 : S.nest ≠ 30 := fun e => h (by rw [e]; rfl)
    have := argsM_fact (S := deepM S) hl hi (hf h30)
    refine ⟨this.le, this.lt, ?_, this.len, this.ok, this.sz⟩
    show (argsM l f (deepM S)).2.nest - 1 = S.nest
    rw [this.nest]
    rfl
theorem callM_fact {l : List Tok} {D : Fam} {S : PS} (hl : TokEnd l) (hll : l.length ≤ 1048576) {t : Tok} (ht : t.text.length ≤ 1048576) (hi : (nextM S).i < l.length) (hf : S.nest ≠ 30 → Good l (S.nest + 1) D.ei) : Fact l S (callM l D t S) := by
  have hk : KFact l (nextM S) (callKM l D S) := kidsM_fact hl _ hi hf
  have h1 : S.i + 1 ≤ (callKM l D S).2.i := hk.le
  obtain ⟨w1, w2, w3⟩ := wantM_i (s := closeT) hl hk.lt
  unfold callM
  split
  · exact failFact (Nat.le_refl _) (by show S.i < _; have : S.i + 1 < l.length := hi; omega) rfl _ _
  · split
    · exact failFact (show S.i ≤ (wantM l closeT (callKM l D S).2).i by omega) w2 (w3.trans hk.nest) 8 t.at_
    · refine ⟨by show S.i ≤ (wantM l closeT (callKM l D S).2).i; omega, w2, w3.trans hk.nest, ?_, ?_⟩
      rotate_left
      · have s1 : sizeL (callKM l D S).1 ≤ 2 * ((callKM l D S).2.i - (S.i + 1)) + 1 := hk.sz
        show sizeE (.mk 6 t.text noV (callKM l D S).1) ≤ 2 * ((wantM l closeT (callKM l D S).2).i - S.i) + 1
        rw [sizeE]
        omega
      show okE (2 * ((wantM l closeT (callKM l D S).2).i - S.i) + 1) _
      refine ⟨ht, ?_, fun y hy => ?_⟩
      · have h5 : (callKM l D S).1.length ≤ (callKM l D S).2.i - (nextM S).i + 1 := hk.len
        have h6 := hk.lt
        show (callKM l D S).1.length ≤ 1048576
        omega
      · exact okE_le (by show 2 * ((callKM l D S).2.i - (S.i + 1)) + 1 ≤ _; omega) (hk.ok y hy)
theorem atomM_good {l : List Tok} {D : Fam} {n : Nat} (hl : TokEnd l) (hll : l.length ≤ 1048576) (hf : n ≠ 30 → Good l (n + 1) D.ei) : Good l n (atomM l D) := by
  intro S hi hn
  subst hn
  unfold atomM
  have leaf : ∀ e : Expr, okE 1 e → sizeE e = 1 → (tokAt l S.i).kind ≠ 0 → Fact l S (e, nextM S) := fun e he hs hk => ⟨Nat.le_succ _, hl.step hi hk, rfl, okE_le (by omega) he, by show sizeE e ≤ _; omega⟩
  split
  · exact ⟨Nat.le_refl _, hi, rfl, nullX_ok (by omega), by show sizeE nullX ≤ _; rw [nullX_size]; omega⟩
  · split
    · rename_i h
      refine leaf _ (valX_ok (Nat.le_refl _) _) rfl ?_
      rcases Bool.or_eq_true_iff.1 h with h | h
      · rw [beq_iff_eq] at h; rw [h]; decide
      · exact isM_nz h
    · split
      · rename_i h
        rw [beq_iff_eq] at h
        exact leaf _ (valX_ok (Nat.le_refl _) _) rfl (by rw [h]; decide)
      · split
        · rename_i h
          rw [beq_iff_eq] at h
          have hk : (tokAt l S.i).kind ≠ 0 := by rw [h]; decide
          split
          · rename_i h2
            have hi1 : (nextM S).i < l.length := hl.step hi hk
            have := callM_fact (S := nextM S) (D := D) hl hll (hl.text S.i) (hl.stepIs hi1 h2) hf
            have h3 : S.i + 1 ≤ (callM l D (tokAt l S.i) (nextM S)).2.i := this.le
            have h4 : sizeE (callM l D (tokAt l S.i) (nextM S)).1 ≤ 2 * ((callM l D (tokAt l S.i) (nextM S)).2.i - (S.i + 1)) + 1 := this.sz
            exact ⟨by omega, this.lt, this.nest, okE_le (by show 2 * ((callM l D (tokAt l S.i) (nextM S)).2.i - (S.i + 1)) + 1 ≤ _; omega) this.ok, by omega⟩
          · exact leaf _ (nameE_ok _ (hl.text _)) rfl hk
        · split
          · rename_i h
            have hi1 : (nextM S).i < l.length := hl.stepIs hi h
            have := withinM_fact (S := nextM S) (l := l) (f := D.ei) (tokAt l S.i).at_ hi1 hf
            obtain ⟨w1, w2, w3⟩ := wantM_i (s := closeT) hl this.lt
            have h3 : S.i + 1 ≤ (withinM (tokAt l S.i).at_ D.ei (nextM S)).2.i := this.le
            have h4 : sizeE (withinM (tokAt l S.i).at_ D.ei (nextM S)).1 ≤ 2 * ((withinM (tokAt l S.i).at_ D.ei (nextM S)).2.i - (S.i + 1)) + 1 := this.sz
            refine ⟨by show S.i ≤ (wantM l closeT _).i; omega, w2, w3.trans this.nest, okE_le ?_ this.ok, by show sizeE (withinM (tokAt l S.i).at_ D.ei (nextM S)).1 ≤ 2 * ((wantM l closeT (withinM (tokAt l S.i).at_ D.ei (nextM S)).2).i - S.i) + 1; omega⟩
            show 2 * ((withinM (tokAt l S.i).at_ D.ei (nextM S)).2.i - (S.i + 1)) + 1 ≤ 2 * ((wantM l closeT (withinM (tokAt l S.i).at_ D.ei (nextM S)).2).i - S.i) + 1
            omega
          · exact failFact (Nat.le_refl _) hi rfl _ _
theorem oneFact {l : List Tok} {S : PS} {r : Expr × PS} (h : Fact l (nextM S) r) (op : Int) : Fact l S (oneX op r.1, r.2) := by
  have h1 : S.i + 1 ≤ r.2.i := h.le
  refine ⟨by show S.i ≤ r.2.i; omega, h.lt, h.nest, ?_, ?_⟩
  rotate_left
  · have s1 : sizeE r.1 ≤ 2 * (r.2.i - (S.i + 1)) + 1 := h.sz
    show sizeE (oneX op r.1) ≤ 2 * (r.2.i - S.i) + 1
    rw [oneX_size]
    omega
  show okE (2 * (r.2.i - S.i) + 1) _
  refine ⟨by simp [oneX, Expr.text], by simp [oneX, Expr.kids], fun y hy => ?_⟩
  have hy' : y = r.1 := by simpa [oneX, Expr.kids] using hy
  subst hy'
  exact okE_le (by show 2 * (r.2.i - (S.i + 1)) + 1 ≤ _; omega) h.ok
theorem negM_good {l : List Tok} {D : Fam} {n : Nat} (hl : TokEnd l) (hll : l.length ≤ 1048576) (hf : n ≠ 30 → Good l (n + 1) D.ei) (hg : n ≠ 30 → Good l (n + 1) D.ne) : Good l n (negM l D) := by
  intro S hi hn
  unfold negM
  split
  · exact atomM_good hl hll hf S hi hn
  · rename_i h
    subst hn
    exact oneFact (withinM_fact (S := nextM S) _ (hl.stepIs hi (by simpa using h)) hg) 3
theorem sumM_good {l : List Tok} {D : Fam} {n : Nat} (hl : TokEnd l) (hll : l.length ≤ 1048576) (hf : n ≠ 30 → Good l (n + 1) D.ei) (hg : n ≠ 30 → Good l (n + 1) D.ne) : Good l n (sumM l D) := leftM_good hl (leftM_good hl (negM_good hl hll hf hg))
theorem compareM_good {l : List Tok} {D : Fam} {n : Nat} (hl : TokEnd l) (hll : l.length ≤ 1048576) (hf : n ≠ 30 → Good l (n + 1) D.ei) (hg : n ≠ 30 → Good l (n + 1) D.ne) : Good l n (compareM l D) := by
  intro S hi hn
  have h1 := sumM_good hl hll hf hg S hi hn
  unfold compareM
  split
  · exact h1
  · rename_i h
    simp only [Bool.or_eq_true, not_or, Bool.not_eq_true, Bool.not_eq_false'] at h
    exact binFact h1 (sumM_good hl hll hf hg _ (hl.stepIs h1.lt h.2) (h1.nest.trans hn)) hl
theorem notM_good {l : List Tok} {D : Fam} {n : Nat} (hl : TokEnd l) (hll : l.length ≤ 1048576) (hf : n ≠ 30 → Good l (n + 1) D.ei) (hg : n ≠ 30 → Good l (n + 1) D.ne) (hh : n ≠ 30 → Good l (n + 1) D.no) : Good l n (notM l D) := by
  intro S hi hn
  unfold notM
  split
  · exact compareM_good hl hll hf hg S hi hn
  · rename_i h
    subst hn
    exact oneFact (withinM_fact (S := nextM S) _ (hl.stepIs hi (by simpa using h)) hh) 4
theorem famM_good {l : List Tok} (hl : TokEnd l) (hll : l.length ≤ 1048576) : ∀ (d n : Nat), n + d = 31 → n ≠ 31 → Good l n (famM l d).ei ∧ Good l n (famM l d).no ∧ Good l n (famM l d).ne
  | 0, n, h, h2 => by omega
  | d + 1, n, h, _ => by
    have ih : n ≠ 30 → _ := fun h30 => famM_good hl hll d (n + 1) (by omega) (by omega)
    have hn := notM_good (D := famM l d) (n := n) hl hll (fun h => (ih h).1) (fun h => (ih h).2.2) (fun h => (ih h).2.1)
    exact ⟨leftM_good hl (leftM_good hl hn), hn, negM_good hl hll (fun h => (ih h).1) (fun h => (ih h).2.2)⟩
end Go.SX.Nb
namespace Go.SX
variable [GI : GlobInv]
open Classical
section
variable {P : Program} {d : Nat}

end
end Go.SX
