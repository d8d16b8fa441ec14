/- Texts on the way to this: QueryPrints answers true for whatever it is handed: what is printed of a query is parsed as the same, unless brackets nest too deep, any query that is right has the text that the reference says, and any other one has none. (part 6) -/
import Derived.Lib.ParseIntBTie
import Derived.Lib.AtoiAllCases
import Derived.Lib.AtoiTie
import Derived.Test.YtldolkjhlcpidaaGreatDoorQueryPrintsCardSaidPart5
set_option linter.all false
namespace Go.SX.Nb
open Go Go.SX Go.Proofs Go.RowKit Go.Sort
variable [ErrAt]
set_option maxRecDepth 4000
theorem c30 (l : List Str) (sep : Str) (hn : l.length ≤ 140737488355328) (hl : (Lib.join l sep).length ≤ 140737488355328) (Hp : List AObj) : AFun Tryz.prog 30 [strsA l, strA sep] Hp (strA (Lib.join l sep)) := by
 have e : strsA l = .slice false 1 ((l.map sv).map .v) := by rw [List.map_map]; rfl
 rw [e]
 refine AFun.libSl (xs := [sv sep]) (v := sv (Lib.join l sep)) (fun G w => .v _ _) (fun w u hg hs => ?_)
 rcases hs with ⟨rfl, he⟩ | ⟨ad, c, rfl, hc, hsp, hcell⟩
 ·have : l = [] := by simpa using he
  subst this
  refine (Any.strings_Join_none Tryz.lays156 xJoin none 0 ⟨sep.toArray⟩ w).mono ?_
  rintro e w' ⟨rfl, rfl⟩
  exact Z251
 rw [List.length_map] at hc
 match l, hn, hl, hc, hsp, hcell with
 | [], _, _, _, _, _ =>
  refine (Any.strings_Join_none Tryz.lays156 xJoin (some ad) c ⟨sep.toArray⟩ w).mono ?_
  rintro e w' ⟨rfl, rfl⟩
  exact Z251
 | [x], _, _, hc, hsp, hcell =>
  obtain ⟨bk, o, spot⟩ := ad
  have hs0 : spot = none := hsp (by simp)
  subst hs0
  refine (Any.strings_Join_one Tryz.lays156 xJoin bk o c ⟨x.toArray⟩ ⟨sep.toArray⟩ w (by have := hcell 0 (sv x) rfl; simpa using this)).mono ?_
  rintro e w' ⟨rfl, rfl⟩
  exact ⟨by rw [Lib.join_one], Below.refl _ _⟩
 | x :: y :: r, hn, hl, hc, hsp, hcell =>
  obtain ⟨bk, o, spot⟩ := ad
  have hs0 : spot = none := hsp (by simp)
  subst hs0
  have h0 := hcell 0 (sv x) rfl
  have hb : bk < w.heap.size := World.block_lt_of_cell? _ _ h0
  have hd : ((x :: y :: r).map fun z => (⟨z.toArray⟩ : ByteArray)).map (·.data.toList) = x :: y :: r := by
   rw [List.map_map]
   exact List.map_id'' (fun z => by simp) _
  have := Any.strings_Join_many Tryz.lays156 xJoin bk o c ((x :: y :: r).map fun z => (⟨z.toArray⟩ : ByteArray)) ⟨sep.toArray⟩ w (fun j z hz => by
   rw [List.getElem?_map, Option.map_eq_some_iff] at hz
   obtain ⟨z', hz', rfl⟩ := hz
   exact hcell j _ (by rw [List.getElem?_map, hz']; rfl)) hb (by simp) (by simpa using hn) (by simpa using hc) (by rw [hd]; simpa using hl)
  rw [hd, List.length_map] at this
  rw [List.length_map]
  refine this.mono ?_
  rintro e w' ⟨rfl, hb'⟩
  exact ⟨by simp, hb'⟩
end Go.SX.Nb
namespace Go.SX.Nb
open Go Go.SX Go.Proofs
variable [ErrAt]
set_option maxRecDepth 4000
/-- The lexer from a place between two words on. -/
def lexG (f q : Nat) (s : Str) : List (Tok × Int) := itemsF f (q + gapM s) (s.drop (gapM s))
theorem itemsT_G (s : Str) : itemsT s = lexG (s.length + 1) 0 s := by unfold itemsT lexG; rw [Nat.zero_add]
theorem itemsF_step {f q : Nat} {s : Str} (h : s ≠ []) : ∃ (n : Nat), itemsF (f + 1) q s = (⟨(wordM s).1, (wordM s).2.1, q⟩, (wordM s).2.2.2) :: (if (wordM s).2.2.2 = 0 then lexG f (q + n) (s.drop n) else []) ∧ ((wordM s).2.2.2 = 0 → (wordM s).2.2.1 = (n : Int) ∧ 1 ≤ n ∧ n ≤ s.length) := by
 refine ⟨(wordM s).2.2.1.toNat, ?_, fun he => ?_⟩
 ·rw [itemsF_cons h]
  simp only [beq_iff_eq]
  rfl
 obtain ⟨n, h1, h2, h3⟩ := word_ok (s := s) (by cases s with | nil => exact absurd rfl h | cons c r => simp) he
 rw [h1]
 exact ⟨rfl, by simpa using h2, by simpa using h3⟩
theorem itemsF_fuel : ∀ (f f' q : Nat) (s : Str), s.length < f → s.length < f' → itemsF f q s = itemsF f' q s
 | 0, _, _, _, h, _ => by omega
 | _ + 1, 0, _, _, _, h => by omega
 | f + 1, g + 1, q, s, h1, h2 => by
  by_cases hs : s = []
  ·subst hs; rfl
  rw [itemsF_cons hs, itemsF_cons hs]
  congr 1
  by_cases he : (wordM s).2.2.2 = 0
  ·obtain ⟨n, hn, k1, k2⟩ := word_ok (s := s) (by cases s with | nil => exact absurd rfl hs | cons c r => simp) he
   rw [he]
   simp only [beq_self_eq_true, if_true]
   rw [hn, Int.toNat_natCast]
   exact itemsF_fuel f g _ _ (by simp only [List.length_drop]; omega) (by simp only [List.length_drop]; omega)
  rw [if_neg (by simpa using he), if_neg (by simpa using he)]
def shiftT (d : Nat) (it : Tok × Int) : Tok × Int := (⟨it.1.kind, it.1.text, it.1.at_ + d⟩, it.2)
/-! ### Gaps -/
/-! ### Words -/
theorem wordOf_eq (s of : Str) : wordOf s of = s.takeWhile (of.contains ·) := take_run s of
def insX (note : Str) : Str := 32 :: 9 :: 35 :: (note ++ [10, 32])
theorem lexM_ok {s : Str} (h : (lexM s).2.1 = 0) : s.length ≤ 4000 ∧ (∀ it ∈ itemsT s, it.2 = 0) ∧ lexM s = ((itemsT s).map (·.1) ++ [⟨0, [], s.length⟩], 0, 0) := by
 unfold lexM at h ⊢
 split at h
 ·exact absurd h (show ¬ (3 : Int) = 0 by decide)
 rename_i hl
 rw [if_neg hl]
 cases hf : (itemsT s).find? (fun it => it.2 != 0) with
 | some it =>
  rw [hf] at h
  have := List.find?_some hf
  simp at this
  exact absurd h this
 | none =>
  rw [List.find?_eq_none] at hf
  refine ⟨by omega, fun it hit => by simpa using hf it hit, rfl⟩
theorem lexM_of {s : Str} (hl : s.length ≤ 4000) (h : ∀ it ∈ itemsT s, it.2 = 0) : lexM s = ((itemsT s).map (·.1) ++ [⟨0, [], s.length⟩], 0, 0) := by
 unfold lexM
 rw [if_neg (by omega), lex_none h]
def shiftTok (d : Nat) (t : Tok) : Tok := ⟨t.kind, t.text, t.at_ + d⟩
def colT (c : Col) : Str := c.name ++ [32] ++ kindNameM c.kind
def colsT (l : List Col) : Str := Lib.join (l.map colT) [44, 32]
def kindM (s : Str) : Int := if kindNameM 1 == s then 1 else if kindNameM 2 == s then 2 else if kindNameM 3 == s then 3 else 0
structure KindUpto (s : Str) (x : Nat) : Prop where
 le : x ≤ 3
 a : 1 ≤ x → (kindNameM 1 == s) = false
 b : 2 ≤ x → (kindNameM 2 == s) = false
 c : 3 ≤ x → (kindNameM 3 == s) = false
def colF (l : List Tok) (acc : List Col) : Int × Int :=
 if (tokAt l 0).kind != 1 then (8, (tokAt l 0).at_) else if ((tokAt l 1).kind != 2) || (kindM (tokAt l 1).text == 0) then (8, (tokAt l 1).at_)
 else if decide (0 ≤ findM (tokAt l 0).text acc) then (9, (tokAt l 0).at_) else if (acc.length : Int) == 12 then (3, (tokAt l 0).at_) else (0, 0)
def colN (l : List Tok) : Col := ⟨(tokAt l 0).text, kindM (tokAt l 1).text⟩
def dblC (c : UInt8) : Str := if c = 39 then [39, 39] else [c]
def dblM (t : Str) : Str := t.flatMap dblC
theorem dblM_len : ∀ t : Str, (dblM t).length ≤ 2 * t.length
 | [] => Nat.le_refl _
 | c :: r => by
  have := dblM_len r
  unfold dblM at this ⊢
  rw [List.flatMap_cons, List.length_append, List.length_cons]
  have h : (dblC c).length ≤ 2 := by unfold dblC; split <;> simp
  omega
theorem dblM_succ {t : Str} {x : Nat} (h : x < t.length) : dblM (t.take (x + 1)) = dblM (t.take x) ++ dblC t[x] := by
 unfold dblM
 rw [List.take_succ, List.getElem?_eq_getElem h, List.flatMap_append]
 simp
abbrev bytesA (l : Str) : AV := .slice true 1 (l.map u8A)
theorem hlb {t : Str} (ht : t.length ≤ 1048576) (x : Nat) : (dblM (t.take x)).length ≤ 2097152 := by
 have := dblM_len (t.take x)
 have h2 : (t.take x).length ≤ t.length := by rw [List.length_take]; omega
 omega
theorem c75 (t : Str) (ht : t.length ≤ 1048576) (Hp : List AObj) : AFun Tryz.prog 75 [valA ⟨2, 0, t⟩] Hp (strA ([39] ++ dblM t ++ [39])) := by
 refine ACall.body [.tmp 2] [0] Tryz.func75 Tryz.ntmps75 (fun d => ?_)
 refine Z70 ?_;refine Z158 ?_;refine R.fin [1, 6] ?_;refine Z145 ?_;refine R.fin [1, 6, 7] ?_
 refine W.cond (fun ht7 => ?_) (fun ht7 => ?_)
 ·exact absurd ht7 (by decide)
 refine Z29 ?_;refine R.fin [1, 6, 9] ?_
 refine W.cond (fun ht9 => ?_) (fun ht9 => ?_)
 ·exact absurd ht9 (by decide)
 refine Z29 ?_;refine R.fin [1, 14] ?_
 refine W.cond (fun ht14 => ?_) (fun ht14 => ?_)
 ·exact absurd ht14 (by decide)
 refine Z22 ?_;refine Z252 ?_;refine Z174 ?_;refine Z276 ?_;refine Z239 ?_
 refine AW.loopC (α := Nat) (fun x => ⟨46, setF 1 (.ro [.v (.int .i64 2), .v (.int .i64 0), .v (sv t)]) (setF 3 (bytesA ([39] ++ dblM (t.take x))) (setF 4 (intA (x : Nat)) (fun _ => .any))), Hp, [], [], none⟩) (fun x => x ≤ t.length) (fun x => t.length - x) (0) (Nat.zero_le _) (StLe.refl _) rfl (fun x hx => ?_)
 refine Z10 ?_;refine Z89 ?_;refine R.slen jU ?_;refine R.lss ?_;refine R.fin [1, 3, 4, 24] ?_
 refine W.cond (fun ht24 => ?_) (fun ht24 => ?_)
 ·have hxl : x < t.length := by simp at ht24; omega
  have hb0 := hlb ht x
  refine Z90 ?_;refine Z16 ?_;refine Z89 ?_;refine Z257 ?_
  refine R.sindex x t[x] jU (List.getElem?_eq_getElem hxl) ?_
  refine R.eql ?_;refine R.fin [1, 3, 4, 31] ?_
  refine W.cond (fun ht31 => ?_) (fun ht31 => ?_)
  ·have hc : t[x] = 39 := by
    have h31 : ((t[x].toNat : Int) == 39) = true := ht31
    exact UInt8.toNat_inj.1 (by have : (39 : UInt8).toNat = 39 := rfl; simp at h31; omega)
   refine Z242 ?_;refine Z270 ?_
   refine R.append jU Tryz.type5 ?_ ?_ ?_
   ·simp [Tryz.t5] <;> omega
   ·simp [Tryz.t5] <;> omega
   refine R.assignT ?_;refine R.fin [1, 3, 4] ?_;refine K.thN ?_;refine Z242 ?_;refine Z89 ?_;refine Z257 ?_
   refine R.sindex x t[x] jU (List.getElem?_eq_getElem hxl) ?_
   refine Z270 ?_
   refine R.append jU Tryz.type5 ?_ ?_ ?_
   ·simp [Tryz.t5] <;> omega
   ·simp [Tryz.t5] <;> omega
   refine R.assignT ?_;refine Z155 ?_;refine Z133 ?_
   exact K.lpN (x + 1) hxl (by omega) (StCut.of_eq (by
    rw [dblM_succ hxl, dblC]
    first | rw [if_pos hc] | rw [if_neg hc]
    simp only [bytesA, List.map_append, List.map_cons, List.map_nil, List.append_assoc, List.cons_append, List.nil_append]
    try rw [hc]
    rfl))
  have hc : t[x] ≠ 39 := fun e => by
   rw [e] at ht31
   exact absurd ht31 (by decide)
  refine Z3 ?_;refine Z242 ?_;refine Z89 ?_;refine Z257 ?_
  refine R.sindex x t[x] jU (List.getElem?_eq_getElem hxl) ?_
  refine Z270 ?_
  refine R.append jU Tryz.type5 ?_ ?_ ?_
  ·simp [Tryz.t5] <;> omega
  ·simp [Tryz.t5] <;> omega
  refine R.assignT ?_;refine Z155 ?_;refine Z133 ?_
  exact K.lpN (x + 1) hxl (by omega) (StCut.of_eq (by
   rw [dblM_succ hxl, dblC]
   first | rw [if_pos hc] | rw [if_neg hc]
   simp only [bytesA, List.map_append, List.map_cons, List.map_nil, List.append_assoc, List.cons_append, List.nil_append]
   try rw [hc]
   rfl))
 have hxe : x = t.length := by simp at ht24; omega
 have hb0 := hlb ht x
 have hdt : dblM (t.take x) = dblM t := by rw [hxe, List.take_length]
 rw [hdt] at hb0 ⊢
 refine Z87 ?_;refine Z252 ?_;refine R.moveT ?_;refine Z270 ?_
 refine R.append jU Tryz.type5 ?_ ?_ ?_
 ·simp [Tryz.t5] <;> omega
 ·simp [Tryz.t5] <;> omega
 refine R.bytesStr ([39] ++ dblM t ++ [39]) jU jU jU (hx := by simp only [go_sem, ↓reduceIte, Nat.reduceEqDiff, Nat.reduceAdd, List.map_append, List.map_cons, List.map_nil, List.cons_append, List.nil_append] <;> rfl) ?_
 exact Z66

theorem dblM_cons (c : UInt8) (r : Str) : dblM (c :: r) = dblC c ++ dblM r := by unfold dblM; rw [List.flatMap_cons]
theorem split39 : ∀ s : Str, (Lib.index s [39] = -1 ∧ dblM s = s) ∨ ∃ i : Nat, Lib.index s [39] = (i : Int) ∧ i < s.length ∧ dblM s = s.take i ++ [39, 39] ++ dblM (s.drop (i + 1))
 | [] => .inl ⟨rfl, rfl⟩
 | b :: l => by
  by_cases hb : b = 39
  ·subst hb
   refine .inr ⟨0, by simp [Lib.index, List.isPrefixOf], by simp, ?_⟩
   rw [dblM_cons]
   simp [dblC]
  have hp : ([39] : Str).isPrefixOf (b :: l) = false := by
   simp [List.isPrefixOf, Ne.symm hb]
  have hd : dblM (b :: l) = b :: dblM l := by
   rw [dblM_cons, dblC, if_neg hb]
   rfl
  rcases split39 l with ⟨h1, h2⟩ | ⟨i, h1, h2, h3⟩
  ·refine .inl ⟨?_, by rw [hd, h2]⟩
   rw [Lib.index, hp, h1]; rfl
  refine .inr ⟨i + 1, ?_, by simp; omega, ?_⟩
  ·rw [Lib.index, hp, h1, if_neg (by simp), if_neg (by simp)]
   rfl
  rw [hd, h3]
  simp
theorem replaceK_dbl : ∀ (n : Nat) (s : Str), s.length ≤ n → Lib.replaceK [39] [39, 39] (Lib.count s [39]) s = dblM s
 | n, s, hn => by
  rcases split39 s with ⟨h1, h2⟩ | ⟨i, h1, h2, h3⟩
  ·rw [Lib.count_miss h1, h2]; rfl
  cases n with
  | zero => omega
  | succ n =>
   rw [Lib.count_hit (by decide) h1, Nat.add_comm, Lib.replaceK_hit _ _ _ _ i h1]
   have e : i + ([39] : Str).length = i + 1 := rfl
   rw [e, replaceK_dbl n (s.drop (i + 1)) (by rw [List.length_drop]; omega), h3]
theorem replace_dbl (s : Str) : Lib.replaceAll s [39] [39, 39] = dblM s := by
 unfold Lib.replaceAll Lib.replace
 rw [if_neg (by decide)]
 have e : Lib.replaceNum s [39] (-1) = Lib.count s [39] := by unfold Lib.replaceNum; rw [if_pos (.inl (by decide))]
 rw [e]
 exact replaceK_dbl _ s (Nat.le_refl _)
def spell (t : Tok) : Str := if t.kind = 4 then [39] ++ dblM t.text ++ [39] else t.text
def joinT (l : List Tok) : Str := l.flatMap fun t => spell t ++ [32]
theorem text_spell {q : Str} (h0 : q.headD 0 = 39) (h1 : 1 ≤ q.length) (h : (readM q).2 = 0) : [39] ++ dblM (readM q).1.s ++ [39] = q := by
 cases q with
 | nil => simp at h1
 | cons c r =>
  have hc : c = 39 := h0
  subst hc
  unfold readM at h ⊢
  have n1 : ((39 :: r : Str) == [110, 117, 108, 108]) = false := by rw [beq_eq_false_iff_ne]; intro e; injection e with e; exact absurd e (by decide)
  have n2 : ((39 :: r : Str) == [116, 114, 117, 101]) = false := by rw [beq_eq_false_iff_ne]; intro e; injection e with e; exact absurd e (by decide)
  have n3 : ((39 :: r : Str) == [102, 97, 108, 115, 101]) = false := by rw [beq_eq_false_iff_ne]; intro e; injection e with e; exact absurd e (by decide)
  rw [n1, n2, n3] at h ⊢
  simp only [Bool.false_eq_true, if_false, Bool.or_self] at h ⊢
  by_cases hq : quotM (39 :: r) = true
  ·rw [if_pos hq] at h ⊢
   unfold textR at h ⊢
   split at h
   ·exact absurd h (show ¬ (7 : Int) = 0 by decide)
   rename_i hp
   rw [if_neg hp]
   have hp' : printM (textV (39 :: r)) = 39 :: r := by simpa using hp
   have hk : (textV (39 :: r)).kind = 2 := rfl
   show [39] ++ dblM (textV (39 :: r)).s ++ [39] = 39 :: r
   generalize textV (39 :: r) = v at hp' hk
   have hne : printM v ≠ [] := by rw [hp']; simp
   rw [← hp']
   unfold printM at hne ⊢
   split at hne
   ·exact absurd rfl hne
   rename_i hpl
   rw [if_neg hpl, hk, if_neg (by decide), if_pos (by decide), replace_dbl]
  rw [if_neg hq] at h
  have hd : numBad (39 :: r) = true := by
   unfold numBad
   have e : numDs (39 :: r) = 39 :: r := by
    rcases numDs_cases (39 :: r) with ⟨_, h4⟩ | ⟨r', h3, _⟩
    ·exact h4
    injection h3 with h3; exact absurd h3 (by decide)
   rw [e]
   have : (Lib.trimS (39 :: r) digs == []) = false := by
    rw [beq_eq_false_iff_ne]
    intro e
    rw [trimS_nil] at e
    exact absurd (e 39 (by simp)) (by decide)
   rw [this]
   simp
  have hn : numReadM (39 :: r) = (0, 6) := by unfold numReadM; rw [if_pos hd]
  rw [hn] at h
  simp at h
theorem take_len_take (s : Str) (m : Nat) : s.take (s.take m).length = s.take m := by
 rw [List.length_take]
 rcases Nat.le_total m s.length with h | h
 ·rw [Nat.min_eq_left h]
 rw [Nat.min_eq_right h, List.take_of_length_le (Nat.le_refl _), List.take_of_length_le h]
theorem wordOf_take (s of : Str) : s.take (wordOf s of).length = wordOf s of := by
 unfold wordOf
 exact take_len_take s _
/-- What a word's print spells is what was read. -/
theorem word_spell {s : Str} {n p : Nat} (h0 : 1 ≤ s.length) (he : (wordM s).2.2.2 = 0) (hn : (wordM s).2.2.1 = (n : Int)) : spell ⟨(wordM s).1, (wordM s).2.1, p⟩ = s.take n := by
 cases s with
 | nil => simp at h0
 | cons c r =>
  unfold wordM at he hn ⊢
  by_cases c1 : decide (0 < runM ((c :: r).take 1) letters) = true
  ·rw [if_pos c1] at he hn
   simp only [if_pos c1]
   unfold namedM at he hn ⊢
   by_cases r1 : lexReservedM (wordOf (c :: r) tails) = true
   ·rw [if_pos r1] at hn
    simp only [if_pos r1]
    have hn' : (((wordOf (c :: r) tails).length : Nat) : Int) = n := hn
    have e : n = (wordOf (c :: r) tails).length := by omega
    rw [e, wordOf_take]
    rfl
   rw [if_neg r1] at he hn
   simp only [if_neg r1]
   by_cases r2 : (!lexNameM (wordOf (c :: r) tails)) = true
   ·rw [if_pos r2] at he; exact absurd he (show ¬ (3 : Int) = 0 by decide)
   rw [if_neg r2] at hn
   simp only [if_neg r2]
   have hn' : (((wordOf (c :: r) tails).length : Nat) : Int) = n := hn
   have e : n = (wordOf (c :: r) tails).length := by omega
   rw [e, wordOf_take]
   rfl
  rw [if_neg c1] at he hn
  simp only [if_neg c1]
  by_cases c2 : decide (0 < runM ((c :: r).take 1) digs) = true
  ·rw [if_pos c2] at he hn
   simp only [if_pos c2]
   have hn' : (((wordOf (c :: r) digs).length : Nat) : Int) = n := hn
   have e : n = (wordOf (c :: r) digs).length := by omega
   rw [e, wordOf_take]
   rfl
  rw [if_neg c2] at he hn
  simp only [if_neg c2]
  by_cases c3 : (((((c :: r)).getD 0 0).toNat : Int) == 39) = true
  ·rw [if_pos c3] at he hn
   simp only [if_pos c3]
   have hc : c = 39 := by
    have c3' : ((c.toNat : Int) == 39) = true := c3
    exact UInt8.toNat_inj.1 (by have : (39 : UInt8).toNat = 39 := rfl; simp at c3'; omega)
   unfold quotedM at he hn ⊢
   cases hq : closeQ ((c :: r).drop 1) with
   | none => rw [hq] at he; exact absurd he (show ¬ (7 : Int) = 0 by decide)
   | some m =>
    rw [hq] at he hn
    simp only at he hn ⊢
    split at he
    ·exact absurd he (show ¬ (3 : Int) = 0 by decide)
    rename_i hr
    rw [if_neg hr] at hn
    simp only [if_neg hr]
    have hm' : (((m + 1 : Nat)) : Int) = n := hn
    have hm : n = m + 1 := by omega
    subst hm
    have hr' : (readM ((c :: r).take (m + 1))).2 = 0 := by simpa using hr
    have := text_spell (q := (c :: r).take (m + 1)) (by rw [hc]; rfl) (by simp) hr'
    unfold spell
    rw [if_pos rfl]
    exact this
  rw [if_neg c3] at he hn
  simp only [if_neg c3]
  unfold signM at he hn ⊢
  split at hn
  ·rename_i h2
   simp only [if_pos h2]
   have hn' : (2 : Int) = n := hn
   have : n = 2 := by omega
   subst this
   rfl
  rename_i h2
  rw [if_neg h2] at he
  simp only [if_neg h2]
  split at hn
  ·rename_i h3
   simp only [if_pos h3]
   have hn' : (1 : Int) = n := hn
   have : n = 1 := by omega
   subst this
   rfl
  rename_i h3
  rw [if_neg h3] at he
  exact absurd he (show ¬ (7 : Int) = 0 by decide)
theorem lexG_blank (f q : Nat) (J : Str) : lexG f q (32 :: J) = lexG f (q + 1) J := by
 have h : gapM (32 :: J) = gapM J + 1 := by
  have := skip_le J false
  unfold gapM
  rw [skipB, if_pos (by decide), List.length_cons]
  omega
 unfold lexG
 rw [h, List.drop_succ_cons, show q + (gapM J + 1) = q + 1 + gapM J by omega]
def sameT (it : Tok × Int) : Int × Str × Int := (it.1.kind, it.1.text, it.2)
theorem wrap_u64 {n : Int} (h1 : 0 ≤ n) (h2 : n < 18446744073709551616) : IntKind.u64.wrap n = n := by
 have e1 : (2 ^ IntKind.u64.bits : Int) = 18446744073709551616 := rfl
 have e3 : IntKind.u64.signed = false := rfl
 unfold IntKind.wrap
 simp only [e1, e3, Bool.false_and]
 simp
 omega
def gapL (k d : Nat) (L : List Tok) : List Tok := L.take k ++ (L.drop k).map (shiftTok d)
theorem dblM_ge : ∀ t : Str, t.length ≤ (dblM t).length
 | [] => Nat.le_refl _
 | c :: r => by
  have := dblM_ge r
  rw [dblM_cons, List.length_append, List.length_cons]
  have h : 1 ≤ (dblC c).length := by unfold dblC; split <;> simp
  omega
theorem text_le (t : Tok) : t.text.length ≤ (spell t).length := by
 unfold spell
 split
 ·have := dblM_ge t.text
  simp only [List.length_append, List.length_cons, List.length_nil]
  omega
 exact Nat.le_refl _
def schPrintM (c : List Col) : Str := if rightP c then colsT c else []
/-- Words with an end. -/
structure TokEnd (l : List Tok) : Prop where
 split : ∃ L z, l = L ++ [z] ∧ z.kind = 0 ∧ ∀ t ∈ L, t.kind ≠ 0
 texts : ∀ t ∈ l, t.text.length ≤ 1048576
theorem TokEnd.pos {l : List Tok} (h : TokEnd l) : 1 ≤ l.length := by
 obtain ⟨L, z, rfl, _, _⟩ := h.split
 simp
theorem TokEnd.next {l : List Tok} (h : TokEnd l) (h0 : (tokAt l 0).kind ≠ 0) : TokEnd (l.drop 1) ∧ 2 ≤ l.length := by
 obtain ⟨L, z, rfl, hz, hL⟩ := h.split
 cases L with
 | nil => exact absurd hz h0
 | cons t L => exact ⟨⟨⟨L, z, rfl, hz, fun u hu => hL u (by simp [hu])⟩, fun u hu => h.texts u (by simp at hu ⊢; exact .inr hu)⟩, by simp⟩
theorem tokAt_drop (l : List Tok) (k i : Nat) : tokAt (l.drop k) i = tokAt l (k + i) := by
 unfold tokAt
 rw [List.getD_eq_getElem?_getD, List.getElem?_drop, List.getD_eq_getElem?_getD]
theorem TokEnd.text {l : List Tok} (h : TokEnd l) (i : Nat) : (tokAt l i).text.length ≤ 1048576 := by
 unfold tokAt
 rcases Nat.lt_or_ge i l.length with hi | hi
 ·rw [List.getD_eq_getElem?_getD, List.getElem?_eq_getElem hi]
  exact h.texts _ (List.getElem_mem hi)
 rw [List.getD_eq_getElem?_getD, List.getElem?_eq_none hi]
 exact Nat.zero_le _
theorem colF_ok {l : List Tok} {acc : List Col} (h : (colF l acc).1 = 0) : (tokAt l 0).kind = 1 ∧ (tokAt l 1).kind = 2 ∧ acc.length ≠ 12 := by
 unfold colF at h
 split at h
 ·exact absurd (show (8 : Int) = 0 from h) (by decide)
 rename_i h1
 split at h
 ·exact absurd (show (8 : Int) = 0 from h) (by decide)
 rename_i h2
 split at h
 ·exact absurd (show (9 : Int) = 0 from h) (by decide)
 split at h
 ·exact absurd (show (3 : Int) = 0 from h) (by decide)
 rename_i h4
 simp only [bne_iff_ne, ne_eq, Classical.not_not, Bool.or_eq_true, not_or, beq_iff_eq] at h1 h2 h4
 exact ⟨h1, h2.1, fun e => h4 (by omega)⟩
theorem TokEnd.three {l : List Tok} {acc : List Col} (hl : TokEnd l) (h : (colF l acc).1 = 0) : TokEnd (l.drop 2) ∧ 3 ≤ l.length := by
 obtain ⟨h1, h2, _⟩ := colF_ok h
 obtain ⟨a1, a2⟩ := hl.next (by rw [h1]; decide)
 obtain ⟨b1, b2⟩ := a1.next (by rw [tokAt_drop]; show (tokAt l 1).kind ≠ 0; rw [h2]; decide)
 rw [List.drop_drop] at b1
 rw [List.length_drop] at b2
 exact ⟨b1, by omega⟩
def readF : Nat → List Tok → List Col → List Col × Int × Int
 | 0, _, _ => ([], 0, 0)
 | f + 1, l, acc => if (colF l acc).1 != 0 then ([], (colF l acc).1, (colF l acc).2)
  else if (tokAt l 2).kind == 0 then (acc ++ [colN l], 0, 0)
  else if ((tokAt l 2).kind != 5) || !((tokAt l 2).text == [44]) then ([], 8, (tokAt l 2).at_)
  else readF f (l.drop 3) (acc ++ [colN l])
def schReadM (s : Str) : List Col × Int × Int :=
 if ((lexM s).2.1 != 0) || (((lexM s).1.length : Int) == 1) then ([], (lexM s).2.1, (lexM s).2.2) else readF ((lexM s).1.length + 1) (lexM s).1 []
theorem word_nz (s : Str) (he : (wordM s).2.2.2 = 0) : (wordM s).1 ≠ 0 := by
 revert he
 unfold wordM namedM numberM quotedM signM
 repeat' split
 all_goals simp
theorem items_nz : ∀ (f q : Nat) (s : Str), (∀ it ∈ itemsF f q s, it.2 = 0) → ∀ it ∈ itemsF f q s, it.1.kind ≠ 0 ∧ it.1.text.length ≤ s.length
 | 0, _, _, _, it, hm => by cases hm
 | f + 1, q, s, h, it, hm => by
  by_cases hs : s = []
  ·subst hs; cases hm
  obtain ⟨n, h1, h2⟩ := itemsF_step (f := f) (q := q) hs
  rw [h1] at hm h
  have h0 : (wordM s).2.2.2 = 0 := h (⟨(wordM s).1, (wordM s).2.1, q⟩, (wordM s).2.2.2) (List.mem_cons_self ..)
  obtain ⟨hn, hn1, hn2⟩ := h2 h0
  rw [if_pos h0] at hm h
  rcases List.mem_cons.1 hm with rfl | hm
  ·refine ⟨word_nz s h0, ?_⟩
   have hs1 : 1 ≤ s.length := by cases s with | nil => exact absurd rfl hs | cons c r => simp
   have := word_spell (p := q) hs1 h0 hn
   have h3 := text_le ⟨(wordM s).1, (wordM s).2.1, q⟩
   rw [this] at h3
   simp only [List.length_take] at h3
   show (wordM s).2.1.length ≤ s.length
   omega
  have := items_nz f _ _ (fun it hit => h it (List.mem_cons_of_mem _ hit)) it hm
  simp only [List.length_drop] at this
  exact ⟨this.1, by omega⟩
theorem lex_end {s : Str} (h : (lexM s).2.1 = 0) : TokEnd (lexM s).1 := by
 by_cases h4 : 4000 < s.length
 ·unfold lexM at h
  rw [if_pos h4] at h
  exact Z268
 have e : lexM s = ((itemsT s).map (·.1) ++ [⟨0, [], s.length⟩], 0, 0) ∧ ∀ it ∈ itemsT s, it.2 = 0 := by
  unfold lexM at h ⊢
  rw [if_neg h4] at h ⊢
  cases hf : (itemsT s).find? (fun it => it.2 != 0) with
  | none =>
   rw [List.find?_eq_none] at hf
   exact ⟨rfl, fun it hit => by simpa using hf it hit⟩
  | some it =>
   rw [hf] at h
   have := List.find?_some hf
   simp only [bne_iff_ne] at this
   exact absurd h this
 obtain ⟨e, hz⟩ := e
 have hnz := items_nz _ _ _ hz
 rw [e]
 refine ⟨⟨_, _, rfl, rfl, fun t ht => ?_⟩, fun t ht => ?_⟩
 ·obtain ⟨it, hit, rfl⟩ := List.mem_map.1 ht
  exact (hnz it hit).1
 rcases List.mem_append.1 ht with ht | ht
 ·obtain ⟨it, hit, rfl⟩ := List.mem_map.1 ht
  have := (hnz it hit).2
  simp only [List.length_drop] at this
  omega
 have e : t = ⟨0, [], s.length⟩ := by simpa using ht
 subst e
 exact Nat.zero_le _
structure ReadAt (s : Str) (x : List Tok × List Col) : Prop where
 toks : TokEnd x.1
 cols : OkCols x.2
 n12 : x.2.length ≤ 12
 eq : ∃ f, x.1.length < f ∧ schReadM s = readF f x.1 x.2
theorem ReadAt.on {s : Str} {x : List Tok × List Col} (h : ReadAt s x) (h0 : (colF x.1 x.2).1 = 0) (h1 : ((tokAt x.1 2).kind == 0) = false) (h2 : (((tokAt x.1 2).kind != 5) || !((tokAt x.1 2).text == [44])) = false) : ReadAt s (x.1.drop 3, x.2 ++ [colN x.1]) ∧ 3 ≤ x.1.length := by
 obtain ⟨f, hf, e⟩ := h.eq
 obtain ⟨a1, a2⟩ := h.toks.three h0
 obtain ⟨b1, b2⟩ := a1.next (by rw [tokAt_drop]; simpa using h1)
 rw [List.drop_drop] at b1
 obtain ⟨_, _, hn⟩ := colF_ok h0
 refine ⟨⟨b1, ⟨?_, ?_⟩, ?_, ?_⟩, a2⟩
 ·have := h.n12; simp only [List.length_append, List.length_cons, List.length_nil]; omega
 ·intro y hy
  rcases List.mem_append.1 hy with hy | hy
  ·exact h.cols.2 y hy
  have e : y = colN x.1 := by simpa using hy
  subst e
  exact h.toks.text 0
 ·have := h.n12; simp only [List.length_append, List.length_cons, List.length_nil]; omega
 obtain ⟨g, rfl⟩ : ∃ g, f = g + 1 := ⟨f - 1, by omega⟩
 refine ⟨g, by simp only [List.length_drop]; omega, ?_⟩
 rw [e, readF, if_neg (by rw [h0]; decide), if_neg (by rw [h1]; simp), if_neg (by rw [h2]; simp)]
theorem ReadAt.out {s : Str} {x : List Tok × List Col} (h : ReadAt s x) : ∃ f, schReadM s = readF (f + 1) x.1 x.2 := by
 obtain ⟨f, hf, e⟩ := h.eq
 exact ⟨f - 1, by rw [e, show f - 1 + 1 = f by omega]⟩
/-- Where a parser of expressions stands: its word, its nest, its fault. -/
structure PS where
 i : Nat
 nest : Nat
 code : Int
 at_ : Int
def noV : Val := ⟨0, 0, []⟩
def nullX : Expr := .mk 0 [] noV []
def failM (e a : Int) (S : PS) : PS := if S.code == 0 then ⟨S.i, S.nest, e, a⟩ else S
def isM (l : List Tok) (of : Str) (S : PS) : Bool := (((tokAt l S.i).kind == 5) || ((tokAt l S.i).kind == 2)) && isMarkM (tokAt l S.i).text of
def nextM (S : PS) : PS := ⟨S.i + 1, S.nest, S.code, S.at_⟩
def deepM (S : PS) : PS := ⟨S.i, S.nest + 1, S.code, S.at_⟩
def riseM (S : PS) : PS := ⟨S.i, S.nest - 1, S.code, S.at_⟩
def wantM (l : List Tok) (s : Str) (S : PS) : PS := if S.code != 0 then S else if ((tokAt l S.i).kind != 5) || !((tokAt l S.i).text == s) then failM 8 (tokAt l S.i).at_ S else nextM S
/-- What stands one nest deeper. -/
structure Fam where
 ei : PS → Expr × PS
 no : PS → Expr × PS
 ne : PS → Expr × PS
def withinM (a : Int) (f : PS → Expr × PS) (S : PS) : Expr × PS := if (S.nest : Int) == 30 then (nullX, failM 18 a S) else ((f (deepM S)).1, riseM (f (deepM S)).2)
def binX (t : Str) (x y : Expr) : Expr := .mk 5 t noV [x, y]
def leftF (l : List Tok) (of : Str) (f : PS → Expr × PS) : Nat → Expr × PS → Expr × PS
 | 0, r => r
 | n + 1, r => if (r.2.code == 0) && isM l of r.2 then leftF l of f n (binX (tokAt l r.2.i).text r.1 (f (nextM r.2)).1, (f (nextM r.2)).2) else r
def leftM (l : List Tok) (of : Str) (f : PS → Expr × PS) (S : PS) : Expr × PS := leftF l of f l.length (f S)
def commaT : Str := [32, 44, 32]
def argsF (l : List Tok) (f : PS → Expr × PS) : Nat → List Expr × PS → List Expr × PS
 | 0, r => r
 | n + 1, r => if (r.2.code == 0) && isM l commaT r.2 then argsF l f n (r.1 ++ [(f (nextM r.2)).1], (f (nextM r.2)).2) else r
def argsM (l : List Tok) (f : PS → Expr × PS) (S : PS) : List Expr × PS := argsF l f l.length ([(f S).1], (f S).2)
def kidsM (l : List Tok) (a : Int) (f : PS → Expr × PS) (S : PS) : List Expr × PS := if (S.nest : Int) == 30 then ([], failM 18 a S) else ((argsM l f (deepM S)).1, riseM (argsM l f (deepM S)).2)
def closeT : Str := [41]
def callKM (l : List Tok) (D : Fam) (S : PS) : List Expr × PS := kidsM l (tokAt l S.i).at_ D.ei (nextM S)
def callM (l : List Tok) (D : Fam) (t : Tok) (S : PS) : Expr × PS :=
 if arityM t.text < 0 then (nullX, failM 9 t.at_ S)
 else if ((wantM l closeT (callKM l D S).2).code == 0) && !(((callKM l D S).1.length : Int) == arityM t.text) then (nullX, failM 8 t.at_ (wantM l closeT (callKM l D S).2))
 else (.mk 6 t.text noV (callKM l D S).1, wantM l closeT (callKM l D S).2)
def orT : Str := [32, 111, 114, 32]
def andT : Str := [32, 97, 110, 100, 32]
def notT : Str := [32, 110, 111, 116, 32]
def cmpT : Str := [32, 61, 32, 33, 61, 32, 60, 32, 60, 61, 32, 62, 32, 62, 61, 32]
def sumT : Str := [32, 43, 32, 45, 32, 38, 32]
def prodT : Str := [32, 42, 32, 47, 32, 37, 32]
def negT : Str := [32, 45, 32]
def opT : Str := [32, 40, 32]
def litT : Str := [32, 116, 114, 117, 101, 32, 102, 97, 108, 115, 101, 32, 110, 117, 108, 108, 32]
def valX (v : Val) : Expr := .mk 1 [] v []
def atomM (l : List Tok) (D : Fam) (S : PS) : Expr × PS :=
 if S.code != 0 then (nullX, S)
 else if ((tokAt l S.i).kind == 3) || isM l litT S then (valX (readM (tokAt l S.i).text).1, nextM S)
 else if (tokAt l S.i).kind == 4 then (valX ⟨2, 0, (tokAt l S.i).text.take 200⟩, nextM S)
 else if (tokAt l S.i).kind == 1 then (if isM l opT (nextM S) then callM l D (tokAt l S.i) (nextM S) else (nameE (tokAt l S.i).text, nextM S))
 else if isM l opT S then ((withinM (tokAt l S.i).at_ D.ei (nextM S)).1, wantM l closeT (withinM (tokAt l S.i).at_ D.ei (nextM S)).2)
 else (nullX, failM 8 (tokAt l S.i).at_ S)
def oneX (op : Int) (x : Expr) : Expr := .mk op [] noV [x]
def negM (l : List Tok) (D : Fam) (S : PS) : Expr × PS := if !isM l negT S then atomM l D S else (oneX 3 (withinM (tokAt l S.i).at_ D.ne (nextM S)).1, (withinM (tokAt l S.i).at_ D.ne (nextM S)).2)
def prodM (l : List Tok) (D : Fam) : PS → Expr × PS := leftM l prodT (negM l D)
def sumM (l : List Tok) (D : Fam) : PS → Expr × PS := leftM l sumT (prodM l D)
def compareM (l : List Tok) (D : Fam) (S : PS) : Expr × PS :=
 if ((sumM l D S).2.code != 0) || !isM l cmpT (sumM l D S).2 then sumM l D S
 else (binX (tokAt l (sumM l D S).2.i).text (sumM l D S).1 (sumM l D (nextM (sumM l D S).2)).1, (sumM l D (nextM (sumM l D S).2)).2)
def notM (l : List Tok) (D : Fam) (S : PS) : Expr × PS := if !isM l notT S then compareM l D S else (oneX 4 (withinM (tokAt l S.i).at_ D.no (nextM S)).1, (withinM (tokAt l S.i).at_ D.no (nextM S)).2)
def bothM (l : List Tok) (D : Fam) : PS → Expr × PS := leftM l andT (notM l D)
def eitherM (l : List Tok) (D : Fam) : PS → Expr × PS := leftM l orT (bothM l D)
def famM (l : List Tok) : Nat → Fam
 | 0 => ⟨fun S => (nullX, S), fun S => (nullX, S), fun S => (nullX, S)⟩
 | d + 1 => ⟨eitherM l (famM l d), notM l (famM l d), negM l (famM l d)⟩

/-! What is so of them. -/
theorem okE_le : ∀ {n m : Nat}, n ≤ m → ∀ {e : Expr}, okE n e → okE m e
 | 0, _, _, _, h => h.elim
 | n + 1, 0, h, _, _ => by omega
 | n + 1, m + 1, h, _, ho => ⟨ho.1, ho.2.1, fun y hy => okE_le (by omega) (ho.2.2 y hy)⟩
theorem nullX_size : sizeE nullX = 1 := rfl
theorem binX_size (t : Str) (a b : Expr) : sizeE (binX t a b) = 1 + (sizeE a + (sizeE b + 0)) := by rw [binX, sizeE, sizeL, sizeL, sizeL]
theorem oneX_size (o : Int) (a : Expr) : sizeE (oneX o a) = 1 + (sizeE a + 0) := by rw [oneX, sizeE, sizeL, sizeL]
theorem sizeL_app : ∀ a b : List Expr, sizeL (a ++ b) = sizeL a + sizeL b
 | [], b => by rw [List.nil_append, sizeL, Nat.zero_add]
 | e :: r, b => by rw [List.cons_append, sizeL, sizeL, sizeL_app r b, Nat.add_assoc]
theorem nullX_ok {n : Nat} (h : 1 ≤ n) : okE n nullX := okE_le h ⟨by decide, by decide, fun y hy => by cases hy⟩
theorem valX_ok {n : Nat} (h : 1 ≤ n) (v : Val) : okE n (valX v) := okE_le h ⟨by simp [valX, Expr.text], by simp [valX, Expr.kids], fun y hy => by cases hy⟩
structure Fact (l : List Tok) (S : PS) (r : Expr × PS) : Prop where
 le : S.i ≤ r.2.i
 lt : r.2.i < l.length
 nest : r.2.nest = S.nest
 ok : okE (2 * (r.2.i - S.i) + 1) r.1
 sz : sizeE r.1 ≤ 2 * (r.2.i - S.i) + 1
def Good (l : List Tok) (n : Nat) (f : PS → Expr × PS) : Prop := ∀ S, S.i < l.length → S.nest = n → Fact l S (f S)
theorem TokEnd.step {l : List Tok} (h : TokEnd l) {i : Nat} (hi : i < l.length) (hk : (tokAt l i).kind ≠ 0) : i + 1 < l.length := by
 obtain ⟨L, z, rfl, hz, _⟩ := h.split
 rcases Nat.lt_or_ge i L.length with h1 | h1
 ·simp only [List.length_append, List.length_cons, List.length_nil]; omega
 have : i = L.length := by simp only [List.length_append, List.length_cons, List.length_nil] at hi; omega
 subst this
 exact absurd (by unfold tokAt; simpa using hz) hk
theorem isM_nz {l : List Tok} {of : Str} {S : PS} (h : isM l of S = true) : (tokAt l S.i).kind ≠ 0 := by
 unfold isM at h
 simp only [Bool.and_eq_true, Bool.or_eq_true, beq_iff_eq] at h
 omega
theorem TokEnd.stepIs {l : List Tok} (h : TokEnd l) {of : Str} {S : PS} (hi : S.i < l.length) (hk : isM l of S = true) : (nextM S).i < l.length := h.step hi (isM_nz hk)
theorem failM_i {e a : Int} {S : PS} : (failM e a S).i = S.i ∧ (failM e a S).nest = S.nest := by unfold failM; split <;> exact ⟨rfl, rfl⟩
theorem wantM_i {l : List Tok} (hl : TokEnd l) {s : Str} {S : PS} (hi : S.i < l.length) : S.i ≤ (wantM l s S).i ∧ (wantM l s S).i < l.length ∧ (wantM l s S).nest = S.nest := by
 unfold wantM
 split
 ·exact ⟨Nat.le_refl _, hi, rfl⟩
 split
 ·rw [failM_i.1, failM_i.2]; exact ⟨Nat.le_refl _, hi, rfl⟩
 rename_i h
 simp only [Bool.or_eq_true, bne_iff_ne, ne_eq, not_or, Classical.not_not] at h
 have := hl.step hi (by rw [h.1]; decide)
 exact ⟨Nat.le_succ _, this, rfl⟩
theorem failFact {l : List Tok} {S S0 : PS} (h0 : S0.i ≤ S.i) (h1 : S.i < l.length) (h2 : S.nest = S0.nest) (e a : Int) : Fact l S0 (nullX, failM e a S) := by
 refine ⟨?_, ?_, ?_, nullX_ok (by omega), by rw [nullX_size]; omega⟩
 ·show _ ≤ (failM e a S).i; rw [failM_i.1]; exact h0
 ·show (failM e a S).i < _; rw [failM_i.1]; exact h1
 show (failM e a S).nest = _; rw [failM_i.2]; exact h2
/-- A state of a loop of marks. -/
structure LeftAt (l : List Tok) (of : Str) (f : PS → Expr × PS) (S : PS) (r : Expr × PS) : Prop where
 fact : Fact l S r
 eq : ∃ n, l.length ≤ r.2.i + n ∧ leftM l of f S = leftF l of f n r
theorem LeftAt.start {l : List Tok} {of : Str} {f : PS → Expr × PS} {S : PS} (h : Fact l S (f S)) : LeftAt l of f S (f S) := ⟨h, l.length, by omega, rfl⟩
theorem binFact {l : List Tok} {S : PS} {r q : Expr × PS} (h : Fact l S r) (hq : Fact l (nextM r.2) q) (hl : TokEnd l) : Fact l S (binX (tokAt l r.2.i).text r.1 q.1, q.2) := by
 have h1 := h.le
 have h2 : r.2.i + 1 ≤ q.2.i := hq.le
 refine ⟨by show S.i ≤ q.2.i; omega, hq.lt, by show q.2.nest = S.nest; rw [hq.nest]; exact h.nest, ?_, ?_⟩
 rotate_left
 ·have s1 := h.sz
  have s2 : sizeE q.1 ≤ 2 * (q.2.i - (r.2.i + 1)) + 1 := hq.sz
  show sizeE (binX _ r.1 q.1) ≤ 2 * (q.2.i - S.i) + 1
  rw [binX_size]
  omega
 show okE (2 * (q.2.i - S.i) + 1) _
 refine ⟨hl.text _, by simp [binX, Expr.kids], fun y hy => ?_⟩
 have hy' : y = r.1 ∨ y = q.1 := by simpa [binX, Expr.kids] using hy
 rcases hy' with rfl | rfl
 ·exact okE_le (by omega) h.ok
 exact okE_le (by show 2 * (q.2.i - (r.2.i + 1)) + 1 ≤ _; omega) hq.ok
theorem LeftAt.on {l : List Tok} {of : Str} {f : PS → Expr × PS} {S : PS} {r : Expr × PS} (hl : TokEnd l) (h : LeftAt l of f S r) (hc : ((r.2.code == 0) && isM l of r.2) = true) (hf : Good l S.nest f) : (nextM r.2).i < l.length ∧ Fact l (nextM r.2) (f (nextM r.2)) ∧ LeftAt l of f S (binX (tokAt l r.2.i).text r.1 (f (nextM r.2)).1, (f (nextM r.2)).2) := by
 have hi := hl.stepIs h.fact.lt (Bool.and_eq_true_iff.1 hc).2
 have hq := hf (nextM r.2) hi h.fact.nest
 obtain ⟨n, hn, e⟩ := h.eq
 have h1 := h.fact.lt
 have h2 : r.2.i + 1 ≤ (f (nextM r.2)).2.i := hq.le
 obtain ⟨m, rfl⟩ : ∃ m, n = m + 1 := ⟨n - 1, by omega⟩
 refine ⟨hi, hq, binFact h.fact hq hl, m, by show l.length ≤ (f (nextM r.2)).2.i + m; omega, ?_⟩
 rw [e, leftF, if_pos hc]
theorem LeftAt.out {l : List Tok} {of : Str} {f : PS → Expr × PS} {S : PS} {r : Expr × PS} (h : LeftAt l of f S r) (hc : ¬ ((r.2.code == 0) && isM l of r.2) = true) : leftM l of f S = r := by
 obtain ⟨n, hn, e⟩ := h.eq
 have h1 := h.fact.lt
 obtain ⟨m, rfl⟩ : ∃ m, n = m + 1 := ⟨n - 1, by omega⟩
 rw [e, leftF, if_neg hc]
theorem leftF_at {l : List Tok} {of : Str} {f : PS → Expr × PS} {S : PS} (hl : TokEnd l) (hf : Good l S.nest f) : ∀ (k : Nat) (r : Expr × PS), l.length - r.2.i ≤ k → LeftAt l of f S r → Fact l S (leftM l of f S)
 | 0, r, hk, h => by have := h.fact.lt; omega
 | k + 1, r, hk, h => by
  by_cases hc : ((r.2.code == 0) && isM l of r.2) = true
  ·obtain ⟨h1, h2, h3⟩ := h.on hl hc hf
   have h4 : r.2.i + 1 ≤ (f (nextM r.2)).2.i := h2.le
   exact leftF_at hl hf k _ (by show l.length - (f (nextM r.2)).2.i ≤ k; have := h.fact.lt; omega) h3
  rw [h.out hc]; exact h.fact
theorem leftM_good {l : List Tok} {of : Str} {f : PS → Expr × PS} {n : Nat} (hl : TokEnd l) (hf : Good l n f) : Good l n (leftM l of f) := fun S hi hn => leftF_at hl (hn ▸ hf) l.length (f S) (by omega) (.start (hf S hi hn))
theorem withinM_fact {l : List Tok} {f : PS → Expr × PS} {S : PS} (a : Int) (hi : S.i < l.length) (hf : S.nest ≠ 30 → Good l (S.nest + 1) f) : Fact l S (withinM a f S) := by
 unfold withinM
 split
 ·exact failFact (Nat.le_refl _) hi rfl _ _
 rename_i h
 have h30 : S.nest ≠ 30 := fun e => h (by rw [e]; rfl)
 have := hf h30 (deepM S) hi rfl
 refine ⟨this.le, this.lt, ?_, this.ok, this.sz⟩
 show (f (deepM S)).2.nest - 1 = S.nest
 rw [this.nest]
 rfl
/-- What is so of some kids. -/
structure KFact (l : List Tok) (S : PS) (r : List Expr × PS) : Prop where
 le : S.i ≤ r.2.i
 lt : r.2.i < l.length
 nest : r.2.nest = S.nest
 len : r.1.length ≤ r.2.i - S.i + 1
 ok : ∀ y ∈ r.1, okE (2 * (r.2.i - S.i) + 1) y
 sz : sizeL r.1 ≤ 2 * (r.2.i - S.i) + 1
structure ArgsAt (l : List Tok) (f : PS → Expr × PS) (S : PS) (r : List Expr × PS) : Prop where
 fact : KFact l S r
 eq : ∃ n, l.length ≤ r.2.i + n ∧ argsM l f S = argsF l f n r
theorem ArgsAt.start {l : List Tok} {f : PS → Expr × PS} {S : PS} (h : Fact l S (f S)) : ArgsAt l f S ([(f S).1], (f S).2) := ⟨⟨h.le, h.lt, h.nest, by simp, fun y hy => by rw [List.mem_singleton.1 hy]; exact h.ok, by have := h.sz; show sizeE (f S).1 + 0 ≤ _; exact this⟩, l.length, by omega, rfl⟩
theorem ArgsAt.on {l : List Tok} {f : PS → Expr × PS} {S : PS} {r : List Expr × PS} (hl : TokEnd l) (h : ArgsAt l f S r) (hc : ((r.2.code == 0) && isM l commaT r.2) = true) (hf : Good l S.nest f) : (nextM r.2).i < l.length ∧ Fact l (nextM r.2) (f (nextM r.2)) ∧ ArgsAt l f S (r.1 ++ [(f (nextM r.2)).1], (f (nextM r.2)).2) := by
 have hi := hl.stepIs h.fact.lt (Bool.and_eq_true_iff.1 hc).2
 have hq := hf (nextM r.2) hi h.fact.nest
 obtain ⟨n, hn, e⟩ := h.eq
 have h1 := h.fact.lt
 have h0 := h.fact.le
 have h2 : r.2.i + 1 ≤ (f (nextM r.2)).2.i := hq.le
 obtain ⟨m, rfl⟩ : ∃ m, n = m + 1 := ⟨n - 1, by omega⟩
 refine ⟨hi, hq, ⟨by show S.i ≤ (f (nextM r.2)).2.i; omega, hq.lt, by show (f (nextM r.2)).2.nest = _; rw [hq.nest]; exact h.fact.nest, ?_, fun y hy => ?_, ?_⟩, m, by show l.length ≤ (f (nextM r.2)).2.i + m; omega, ?_⟩
 ·have := h.fact.len
  show (r.1 ++ _).length ≤ (f (nextM r.2)).2.i - S.i + 1
  simp only [List.length_append, List.length_cons, List.length_nil]
  omega
 ·show okE (2 * ((f (nextM r.2)).2.i - S.i) + 1) y
  rcases List.mem_append.1 hy with hy | hy
  ·exact okE_le (by omega) (h.fact.ok y hy)
  rw [List.mem_singleton.1 hy]
  exact okE_le (by show 2 * ((f (nextM r.2)).2.i - (r.2.i + 1)) + 1 ≤ _; omega) hq.ok
 ·have s1 := h.fact.sz
  have s2 : sizeE (f (nextM r.2)).1 ≤ 2 * ((f (nextM r.2)).2.i - (r.2.i + 1)) + 1 := hq.sz
  show sizeL (r.1 ++ [(f (nextM r.2)).1]) ≤ 2 * ((f (nextM r.2)).2.i - S.i) + 1
  rw [sizeL_app, sizeL, sizeL]
  omega
 rw [e, argsF, if_pos hc]
theorem ArgsAt.out {l : List Tok} {f : PS → Expr × PS} {S : PS} {r : List Expr × PS} (h : ArgsAt l f S r) (hc : ¬ ((r.2.code == 0) && isM l commaT r.2) = true) : argsM l f S = r := by
 obtain ⟨n, hn, e⟩ := h.eq
 have h1 := h.fact.lt
 obtain ⟨m, rfl⟩ : ∃ m, n = m + 1 := ⟨n - 1, by omega⟩
 rw [e, argsF, if_neg hc]
theorem argsF_at {l : List Tok} {f : PS → Expr × PS} {S : PS} (hl : TokEnd l) (hf : Good l S.nest f) : ∀ (k : Nat) (r : List Expr × PS), l.length - r.2.i ≤ k → ArgsAt l f S r → KFact l S (argsM l f S)
 | 0, r, hk, h => by have := h.fact.lt; omega
 | k + 1, r, hk, h => by
  by_cases hc : ((r.2.code == 0) && isM l commaT r.2) = true
  ·obtain ⟨h1, h2, h3⟩ := h.on hl hc hf
   have h4 : r.2.i + 1 ≤ (f (nextM r.2)).2.i := h2.le
   exact argsF_at hl hf k _ (by show l.length - (f (nextM r.2)).2.i ≤ k; have := h.fact.lt; omega) h3
  rw [h.out hc]; exact h.fact
theorem argsM_fact {l : List Tok} {f : PS → Expr × PS} {S : PS} (hl : TokEnd l) (hi : S.i < l.length) (hf : Good l S.nest f) : KFact l S (argsM l f S) := argsF_at hl hf l.length _ (by show l.length - (f S).2.i ≤ _; omega) (.start (hf S hi rfl))
theorem kidsM_fact {l : List Tok} {f : PS → Expr × PS} {S : PS} (hl : TokEnd l) (a : Int) (hi : S.i < l.length) (hf : S.nest ≠ 30 → Good l (S.nest + 1) f) : KFact l S (kidsM l a f S) := by
 unfold kidsM
 split
 ·refine ⟨?_, ?_, ?_, by simp, fun y hy => (by cases hy), by simp [sizeL]⟩
  ·show _ ≤ (failM _ _ S).i; rw [failM_i.1]; exact Nat.le_refl _
  ·show (failM _ _ S).i < _; rw [failM_i.1]; exact hi
  show (failM _ _ S).nest = _; rw [failM_i.2]
 rename_i h
 have h30 : S.nest ≠ 30 := fun e => h (by rw [e]; rfl)
 have := argsM_fact (S := deepM S) hl hi (hf h30)
 refine ⟨this.le, this.lt, ?_, this.len, this.ok, this.sz⟩
 show (argsM l f (deepM S)).2.nest - 1 = S.nest
 rw [this.nest]
 rfl
theorem callM_fact {l : List Tok} {D : Fam} {S : PS} (hl : TokEnd l) (hll : l.length ≤ 1048576) {t : Tok} (ht : t.text.length ≤ 1048576) (hi : (nextM S).i < l.length) (hf : S.nest ≠ 30 → Good l (S.nest + 1) D.ei) : Fact l S (callM l D t S) := by
 have hk : KFact l (nextM S) (callKM l D S) := kidsM_fact hl _ hi hf
 have h1 : S.i + 1 ≤ (callKM l D S).2.i := hk.le
 obtain ⟨w1, w2, w3⟩ := wantM_i (s := closeT) hl hk.lt
 unfold callM
 split
 ·exact failFact (Nat.le_refl _) (by show S.i < _; have : S.i + 1 < l.length := hi; omega) rfl _ _
 split
 ·exact failFact (show S.i ≤ (wantM l closeT (callKM l D S).2).i by omega) w2 (w3.trans hk.nest) 8 t.at_
 refine ⟨by show S.i ≤ (wantM l closeT (callKM l D S).2).i; omega, w2, w3.trans hk.nest, ?_, ?_⟩
 rotate_left
 ·have s1 : sizeL (callKM l D S).1 ≤ 2 * ((callKM l D S).2.i - (S.i + 1)) + 1 := hk.sz
  show sizeE (.mk 6 t.text noV (callKM l D S).1) ≤ 2 * ((wantM l closeT (callKM l D S).2).i - S.i) + 1
  rw [sizeE]
  omega
 show okE (2 * ((wantM l closeT (callKM l D S).2).i - S.i) + 1) _
 refine ⟨ht, ?_, fun y hy => ?_⟩
 ·have h5 : (callKM l D S).1.length ≤ (callKM l D S).2.i - (nextM S).i + 1 := hk.len
  have h6 := hk.lt
  show (callKM l D S).1.length ≤ 1048576
  omega
 exact okE_le (by show 2 * ((callKM l D S).2.i - (S.i + 1)) + 1 ≤ _; omega) (hk.ok y hy)
theorem atomM_good {l : List Tok} {D : Fam} {n : Nat} (hl : TokEnd l) (hll : l.length ≤ 1048576) (hf : n ≠ 30 → Good l (n + 1) D.ei) : Good l n (atomM l D) := by
 intro S hi hn
 subst hn
 unfold atomM
 have leaf : ∀ e : Expr, okE 1 e → sizeE e = 1 → (tokAt l S.i).kind ≠ 0 → Fact l S (e, nextM S) := fun e he hs hk => ⟨Nat.le_succ _, hl.step hi hk, rfl, okE_le (by omega) he, by show sizeE e ≤ _; omega⟩
 split
 ·exact ⟨Nat.le_refl _, hi, rfl, nullX_ok (by omega), by show sizeE nullX ≤ _; rw [nullX_size]; omega⟩
 split
 ·rename_i h
  refine leaf _ (valX_ok (Nat.le_refl _) _) rfl ?_
  rcases Bool.or_eq_true_iff.1 h with h | h
  ·rw [beq_iff_eq] at h; rw [h]; decide
  exact isM_nz h
 split
 ·rename_i h
  rw [beq_iff_eq] at h
  exact leaf _ (valX_ok (Nat.le_refl _) _) rfl (by rw [h]; decide)
 split
 ·rename_i h
  rw [beq_iff_eq] at h
  have hk : (tokAt l S.i).kind ≠ 0 := by rw [h]; decide
  split
  ·rename_i h2
   have hi1 : (nextM S).i < l.length := hl.step hi hk
   have := callM_fact (S := nextM S) (D := D) hl hll (hl.text S.i) (hl.stepIs hi1 h2) hf
   have h3 : S.i + 1 ≤ (callM l D (tokAt l S.i) (nextM S)).2.i := this.le
   have h4 : sizeE (callM l D (tokAt l S.i) (nextM S)).1 ≤ 2 * ((callM l D (tokAt l S.i) (nextM S)).2.i - (S.i + 1)) + 1 := this.sz
   exact ⟨by omega, this.lt, this.nest, okE_le (by show 2 * ((callM l D (tokAt l S.i) (nextM S)).2.i - (S.i + 1)) + 1 ≤ _; omega) this.ok, by omega⟩
  exact leaf _ (nameE_ok _ (hl.text _)) rfl hk
 split
 ·rename_i h
  have hi1 : (nextM S).i < l.length := hl.stepIs hi h
  have := withinM_fact (S := nextM S) (l := l) (f := D.ei) (tokAt l S.i).at_ hi1 hf
  obtain ⟨w1, w2, w3⟩ := wantM_i (s := closeT) hl this.lt
  have h3 : S.i + 1 ≤ (withinM (tokAt l S.i).at_ D.ei (nextM S)).2.i := this.le
  have h4 : sizeE (withinM (tokAt l S.i).at_ D.ei (nextM S)).1 ≤ 2 * ((withinM (tokAt l S.i).at_ D.ei (nextM S)).2.i - (S.i + 1)) + 1 := this.sz
  refine ⟨by show S.i ≤ (wantM l closeT _).i; omega, w2, w3.trans this.nest, okE_le ?_ this.ok, by show sizeE (withinM (tokAt l S.i).at_ D.ei (nextM S)).1 ≤ 2 * ((wantM l closeT (withinM (tokAt l S.i).at_ D.ei (nextM S)).2).i - S.i) + 1; omega⟩
  show 2 * ((withinM (tokAt l S.i).at_ D.ei (nextM S)).2.i - (S.i + 1)) + 1 ≤ 2 * ((wantM l closeT (withinM (tokAt l S.i).at_ D.ei (nextM S)).2).i - S.i) + 1
  omega
 exact failFact (Nat.le_refl _) hi rfl _ _
theorem oneFact {l : List Tok} {S : PS} {r : Expr × PS} (h : Fact l (nextM S) r) (op : Int) : Fact l S (oneX op r.1, r.2) := by
 have h1 : S.i + 1 ≤ r.2.i := h.le
 refine ⟨by show S.i ≤ r.2.i; omega, h.lt, h.nest, ?_, ?_⟩
 rotate_left
 ·have s1 : sizeE r.1 ≤ 2 * (r.2.i - (S.i + 1)) + 1 := h.sz
  show sizeE (oneX op r.1) ≤ 2 * (r.2.i - S.i) + 1
  rw [oneX_size]
  omega
 show okE (2 * (r.2.i - S.i) + 1) _
 refine ⟨by simp [oneX, Expr.text], by simp [oneX, Expr.kids], fun y hy => ?_⟩
 have hy' : y = r.1 := by simpa [oneX, Expr.kids] using hy
 subst hy'
 exact okE_le (by show 2 * (r.2.i - (S.i + 1)) + 1 ≤ _; omega) h.ok
theorem negM_good {l : List Tok} {D : Fam} {n : Nat} (hl : TokEnd l) (hll : l.length ≤ 1048576) (hf : n ≠ 30 → Good l (n + 1) D.ei) (hg : n ≠ 30 → Good l (n + 1) D.ne) : Good l n (negM l D) := by
 intro S hi hn
 unfold negM
 split
 ·exact atomM_good hl hll hf S hi hn
 rename_i h
 subst hn
 exact oneFact (withinM_fact (S := nextM S) _ (hl.stepIs hi (by simpa using h)) hg) 3
theorem sumM_good {l : List Tok} {D : Fam} {n : Nat} (hl : TokEnd l) (hll : l.length ≤ 1048576) (hf : n ≠ 30 → Good l (n + 1) D.ei) (hg : n ≠ 30 → Good l (n + 1) D.ne) : Good l n (sumM l D) := leftM_good hl (leftM_good hl (negM_good hl hll hf hg))
theorem compareM_good {l : List Tok} {D : Fam} {n : Nat} (hl : TokEnd l) (hll : l.length ≤ 1048576) (hf : n ≠ 30 → Good l (n + 1) D.ei) (hg : n ≠ 30 → Good l (n + 1) D.ne) : Good l n (compareM l D) := by
 intro S hi hn
 have h1 := sumM_good hl hll hf hg S hi hn
 unfold compareM
 split
 ·exact h1
 rename_i h
 simp only [Bool.or_eq_true, not_or, Bool.not_eq_true, Bool.not_eq_false'] at h
 exact binFact h1 (sumM_good hl hll hf hg _ (hl.stepIs h1.lt h.2) (h1.nest.trans hn)) hl
theorem notM_good {l : List Tok} {D : Fam} {n : Nat} (hl : TokEnd l) (hll : l.length ≤ 1048576) (hf : n ≠ 30 → Good l (n + 1) D.ei) (hg : n ≠ 30 → Good l (n + 1) D.ne) (hh : n ≠ 30 → Good l (n + 1) D.no) : Good l n (notM l D) := by
 intro S hi hn
 unfold notM
 split
 ·exact compareM_good hl hll hf hg S hi hn
 rename_i h
 subst hn
 exact oneFact (withinM_fact (S := nextM S) _ (hl.stepIs hi (by simpa using h)) hh) 4
theorem famM_good {l : List Tok} (hl : TokEnd l) (hll : l.length ≤ 1048576) : ∀ (d n : Nat), n + d = 31 → n ≠ 31 → Good l n (famM l d).ei ∧ Good l n (famM l d).no ∧ Good l n (famM l d).ne
 | 0, n, h, h2 => by omega
 | d + 1, n, h, _ => by
  have ih : n ≠ 30 → _ := fun h30 => famM_good hl hll d (n + 1) (by omega) (by omega)
  have hn := notM_good (D := famM l d) (n := n) hl hll (fun h => (ih h).1) (fun h => (ih h).2.2) (fun h => (ih h).2.1)
  exact ⟨leftM_good hl (leftM_good hl hn), hn, negM_good hl hll (fun h => (ih h).1) (fun h => (ih h).2.2)⟩
/-! What is printed of columns, word by word. -/
structure ColOk (x : Col) : Prop where
 name : lexNameM x.name = true
 lo : 1 ≤ x.kind
 hi : x.kind ≤ 3
def schR : List Col → Str
 | [] => []
 | x :: r => 44 :: 32 :: (colT x ++ schR r)
def expR : List Col → List (Int × Str × Int)
 | [] => []
 | x :: r => (5, [44], 0) :: (1, x.name, 0) :: (2, kindNameM x.kind, 0) :: expR r
def ktT (t : Tok) : Int × Str := (t.kind, t.text)
def expT : List Col → List (Int × Str)
 | [] => []
 | x :: r => (1, x.name) :: (2, kindNameM x.kind) :: ((expR r).map fun y => (y.1, y.2.1))
set_option maxRecDepth 8000
abbrev TK := Int × Str
/-- What stands from word i on. -/
def seg (l : List Tok) (i : Nat) : List TK := (l.drop i).map ktT
theorem seg_cons {l : List Tok} {i : Nat} {k : Int} {t : Str} {r : List TK} (h : seg l i = (k, t) :: r) : (tokAt l i).kind = k ∧ (tokAt l i).text = t ∧ seg l (i + 1) = r ∧ i < l.length := by
 unfold seg at h ⊢
 rcases Nat.lt_or_ge i l.length with hi | hi
 ·rw [List.drop_eq_getElem_cons hi, List.map_cons, List.cons.injEq] at h
  have e : tokAt l i = l[i] := by unfold tokAt; rw [List.getD_eq_getElem?_getD, List.getElem?_eq_getElem hi]; rfl
  rw [e]
  have h1 := h.1
  unfold ktT at h1
  rw [Prod.mk.injEq] at h1
  exact ⟨h1.1, h1.2, h.2, hi⟩
 rw [List.drop_of_length_le hi] at h; cases h
theorem seg_skip {l : List Tok} {i : Nat} {ts rest : List TK} (h : seg l i = ts ++ rest) : seg l (i + ts.length) = rest := by
 unfold seg at h ⊢
 have := congrArg (List.drop ts.length) h
 rw [List.drop_left, ← List.map_drop, List.drop_drop] at this
 exact this
theorem isM_seg {l : List Tok} {S : PS} {of : Str} {k : Int} {t : Str} {r : List TK} (h : seg l S.i = (k, t) :: r) : isM l of S = (((k == 5) || (k == 2)) && isMarkM t of) := by
 unfold isM
 rw [(seg_cons h).1, (seg_cons h).2.1]
theorem isM_nil {l : List Tok} {S : PS} {of : Str} (h : seg l S.i = []) : isM l of S = false := by
 unfold seg at h
 have hi : l.length ≤ S.i := by simpa using h
 unfold isM tokAt
 rw [List.getD_eq_getElem?_getD, List.getElem?_eq_none hi]
 rfl
theorem mark_one {w : Str} (hw : (32 : UInt8) ∉ w) (h0 : w ≠ []) (s : Str) : isMarkM s (32 :: (w ++ [32])) = (s == w) := by
 have e : (32 :: (w ++ [32]) : Str) = textOf [w] := rfl
 rw [isMark_words e (fun x hx => by rw [List.mem_singleton.1 hx]; exact hw) s]
 by_cases hs : s = []
 ·subst hs
  cases w with
  | nil => exact absurd rfl h0
  | cons a r => rfl
 have : (s == []) = false := by simpa using hs
 rw [this, Bool.eq_iff_iff]
 simp
theorem level_cases (s : Str) : s ∈ levels.flatten ∨ (levelM s = -1 ∧ ∀ l ∈ levels, l.contains s = false) := by
 by_cases h : s ∈ levels.flatten
 ·exact .inl h
 have h2 : ∀ l ∈ levels, l.contains s = false := fun l hl => by
  rw [Bool.eq_false_iff]
  intro h3
  exact h (List.mem_flatten.2 ⟨l, hl, by simpa using h3⟩)
 refine .inr ⟨?_, h2⟩
 unfold levelM
 rw [List.findIdx?_eq_none_iff.2 fun l hl => h2 l hl]
/-- The texts of levels of marks. -/
def ofL (k : Nat) : Str := if k = 0 then orT else if k = 1 then andT else if k = 3 then cmpT else if k = 4 then sumT else prodT
theorem mark_level {k : Nat} (hk : k = 0 ∨ k = 1 ∨ k = 3 ∨ k = 4 ∨ k = 5) (s : Str) : isMarkM s (ofL k) = (levelM s == (k : Int)) := by
 have e : ofL k = textOf (levels.getD k []) := by rcases hk with rfl | rfl | rfl | rfl | rfl <;> kernel_rfl
 have hp : ∀ w ∈ levels.getD k [], (32 : UInt8) ∉ w := by rcases hk with rfl | rfl | rfl | rfl | rfl <;> decide
 have hm : levels.getD k [] ∈ levels := by rcases hk with rfl | rfl | rfl | rfl | rfl <;> decide
 rw [isMark_words e hp s]
 rcases level_cases s with h | ⟨h1, h2⟩
 ·have h3 : (levels.flatten.all fun s => decide ((!(s == []) && (levels.getD k []).contains s) = (levelM s == (k : Int)))) = true := by rcases hk with rfl | rfl | rfl | rfl | rfl <;> kernel_rfl
  exact of_decide_eq_true (List.all_eq_true.1 h3 s h)
 rw [h2 _ hm, h1, Bool.and_false]
 symm
 rw [beq_eq_false_iff_ne]
 omega
theorem level_le (s : Str) : -1 ≤ levelM s ∧ levelM s ≤ 5 ∧ levelM s ≠ 2 := by
 rcases level_cases s with h | ⟨h, _⟩
 ·have h3 : (levels.flatten.all fun s => decide (-1 ≤ levelM s ∧ levelM s ≤ 5 ∧ levelM s ≠ 2)) = true := by kernel_rfl
  exact of_decide_eq_true (List.all_eq_true.1 h3 s h)
 omega
/-- A row of words behind which no mark of a level, or of a tighter one, stands. -/
def stops (k : Nat) (rest : List TK) : Prop := ∀ h r, rest = h :: r → ((h.1 == 5) || (h.1 == 2)) = true → levelM h.2 < (k : Int) ∧ h.2 ≠ [40]
theorem stops.mono {k k' : Nat} {rest : List TK} (h : stops k rest) (hk : k ≤ k') : stops k' rest := fun a r e hm => ⟨by have := (h a r e hm).1; omega, (h a r e hm).2⟩
theorem stops_isM {l : List Tok} {S : PS} {k : Nat} {rest : List TK} (h : stops k rest) (hs : seg l S.i = rest) (hk : k = 0 ∨ k = 1 ∨ k = 3 ∨ k = 4 ∨ k = 5) : isM l (ofL k) S = false := by
 cases rest with
 | nil => exact isM_nil hs
 | cons a r =>
  obtain ⟨ka, ta⟩ := a
  rw [isM_seg hs, mark_level hk]
  cases hb : ((ka == 5) || (ka == 2)) with
  | false => rfl
  | true =>
   have := (h _ _ rfl hb).1
   rw [Bool.true_and, beq_eq_false_iff_ne]
   show levelM ta ≠ _
   have : levelM ta < (k : Int) := this
   omega
def notW : Str := [110, 111, 116]
def levE (e : Expr) : Nat := if e.op == 4 then 2 else if e.op == 3 then 6 else if e.op == 5 then (levelM e.text).toNat else 7
theorem levE_le (e : Expr) : levE e ≤ 7 := by
 have := level_le e.text
 unfold levE
 repeat' split
 all_goals omega
def brkT (least : Nat) (x : Expr) (T : List TK) : List TK := if least ≤ levE x then T else (5, [40]) :: (T ++ [(5, [41])])
def brkN (least : Nat) (x : Expr) (n : Nat) : Nat := if least ≤ levE x then n else n + 1
def firstL (own : Nat) : Nat := if own = 3 then 4 else own
def valTok (v : Val) : TK := if v.kind == 1 then (3, printM v) else if v.kind == 2 then (4, v.s) else (2, printM v)
def opTok (t : Str) : TK := (if letterM (t.headD 0) then 2 else 5, t)
def sepT : List (List TK) → List TK
 | [] => []
 | T :: r => (5, [44]) :: (T ++ sepT r)
def nodeT (o : Int) (t : Str) (v : Val) (k : List Expr) (ts : List (List TK)) : List TK :=
 if o == 1 then [valTok v] else if o == 2 then [(1, t)]
 else if o == 3 then (5, [45]) :: brkT 6 (k.getD 0 nullX) (ts.getD 0 [])
 else if o == 4 then (2, notW) :: brkT 2 (k.getD 0 nullX) (ts.getD 0 [])
 else if o == 5 then brkT (firstL (levelM t).toNat) (k.getD 0 nullX) (ts.getD 0 []) ++ opTok t :: brkT ((levelM t).toNat + 1) (k.getD 1 nullX) (ts.getD 1 [])
 else (1, t) :: (5, [40]) :: ((sepT ts).drop 1 ++ [(5, [41])])
mutual
def toksE : Expr → List TK
 | .mk o t v k => nodeT o t v k (toksL k)
def toksL : List Expr → List (List TK)
  | [] => []
  | e :: r => toksE e :: toksL r
 end
def maxN : List Nat → Nat
 | [] => 0
 | n :: r => max n (maxN r)
def nodeN (o : Int) (t : Str) (k : List Expr) (ns : List Nat) : Nat :=
 if o == 1 then 0 else if o == 2 then 0
 else if o == 3 then 1 + brkN 6 (k.getD 0 nullX) (ns.getD 0 0)
 else if o == 4 then 1 + brkN 2 (k.getD 0 nullX) (ns.getD 0 0)
 else if o == 5 then max (brkN (firstL (levelM t).toNat) (k.getD 0 nullX) (ns.getD 0 0)) (brkN ((levelM t).toNat + 1) (k.getD 1 nullX) (ns.getD 1 0))
 else 1 + maxN ns
mutual
def needE : Expr → Nat
 | .mk o t v k => nodeN o t k (needL k)
def needL : List Expr → List Nat
  | [] => []
  | e :: r => needE e :: needL r
 end
theorem toksL_map : ∀ l, toksL l = l.map toksE
 | [] => rfl
 | e :: r => by rw [toksL, toksL_map r]; rfl
theorem maxN_ge : ∀ (l : List Expr), ∀ y ∈ l, needE y ≤ maxN (needL l)
 | [], y, h => by cases h
 | e :: r, y, h => by
  rw [needL, maxN]
  rcases List.mem_cons.1 h with rfl | h
  ·omega
  have := maxN_ge r y h; omega
theorem bare_no {v : Val} (h : bareM v = true) : v = noV := by
 unfold bareM at h
 simp only [Bool.and_eq_true, beq_iff_eq] at h
 cases v
 simp_all [noV]
/-- What a right node is. -/
inductive NodeC : Expr → Prop
 | val (v : Val) (h : plainM v = true) (h0 : 0 ≤ v.n) : NodeC (valX v)
 | name (t : Str) (h : nameM t = true) : NodeC (nameE t)
 | neg (a : Expr) : NodeC (oneX 3 a)
 | no (a : Expr) : NodeC (oneX 4 a)
 | bin (t : Str) (a b : Expr) (h : 0 ≤ levelM t) : NodeC (binX t a b)
 | call (t : Str) (k : List Expr) (h : arityM t = (k.length : Int)) : NodeC (.mk 6 t noV k)
theorem nodeOne_mk (o : Int) (t : Str) (v : Val) (k : List Expr) : nodeOneM (.mk o t v k) =
 if o == 1 then ((plainM v && decide (0 ≤ v.n)) && (t == [])) && ((k.length : Int) == 0)
 else if !(bareM v) then false
 else if o == 2 then nameM t && ((k.length : Int) == 0)
 else if o == 3 || o == 4 then (t == []) && ((k.length : Int) == 1)
 else if o == 5 then decide (0 ≤ levelM t) && ((k.length : Int) == 2)
 else if o == 6 then arityM t == (k.length : Int)
 else false := rfl
theorem node_cases {e : Expr} (h : nodeM e = true) : NodeC e := by
 rw [node_one] at h
 cases e with
 | mk o t v k =>
 rw [nodeOne_mk] at h
 by_cases h1 : (o == 1) = true
 ·rw [if_pos h1] at h
  simp only [Bool.and_eq_true, beq_iff_eq, decide_eq_true_eq] at h h1
  obtain ⟨⟨⟨a1, a2⟩, a3⟩, a4⟩ := h
  subst h1
  subst a3
  have : k = [] := by cases k with | nil => rfl | cons x r => simp at a4; omega
  subst this
  exact .val v a1 a2
 rw [if_neg h1] at h
 by_cases hb : (!(bareM v)) = true
 ·rw [if_pos hb] at h; cases h
 rw [if_neg hb] at h
 have hv : v = noV := bare_no (by simpa using hb)
 subst hv
 by_cases h2 : (o == 2) = true
 ·rw [if_pos h2] at h
  simp only [Bool.and_eq_true, beq_iff_eq] at h h2
  subst h2
  have : k = [] := by cases k with | nil => rfl | cons x r => have := h.2; simp at this; omega
  subst this
  exact .name t h.1
 rw [if_neg h2] at h
 by_cases h3 : (o == 3 || o == 4) = true
 ·rw [if_pos h3] at h
  simp only [Bool.and_eq_true, Bool.or_eq_true, beq_iff_eq] at h h3
  obtain ⟨rfl, h4⟩ := h
  match k, h4 with
  | [a], _ =>
   rcases h3 with rfl | rfl
   ·exact .neg a
   exact .no a
  | [], h4 => simp at h4
  | _ :: _ :: _, h4 => simp at h4; omega
 rw [if_neg h3] at h
 by_cases h5 : (o == 5) = true
 ·rw [if_pos h5] at h
  simp only [Bool.and_eq_true, beq_iff_eq, decide_eq_true_eq] at h h5
  subst h5
  match k, h.2 with
  | [a, b], _ => exact .bin t a b h.1
  | [], h4 => simp at h4
  | [_], h4 => simp at h4
  | _ :: _ :: _ :: _, h4 => simp at h4; omega
 rw [if_neg h5] at h
 by_cases h6 : (o == 6) = true
 ·rw [if_pos h6] at h
  simp only [beq_iff_eq] at h h6
  subst h6
  exact .call t k h
 rw [if_neg h6] at h; cases h
/-- The functions of the levels. -/
def pf (l : List Tok) (D : Fam) : Nat → PS → Expr × PS
 | 0 => eitherM l D
 | 1 => bothM l D
 | 2 => notM l D
 | 3 => compareM l D
 | 4 => sumM l D
 | 5 => prodM l D
 | 6 => negM l D
 | _ => atomM l D
abbrev fam (l : List Tok) (n : Nat) : Fam := famM l (30 - n)
theorem fam_deep {l : List Tok} {n : Nat} (h : n < 30) : fam l n = ⟨pf l (fam l (n + 1)) 0, pf l (fam l (n + 1)) 2, pf l (fam l (n + 1)) 6⟩ := by
 unfold fam
 rw [show 30 - n = (30 - (n + 1)) + 1 by omega]
 rfl
def adv (S : PS) (n : Nat) : PS := ⟨S.i + n, S.nest, S.code, S.at_⟩
theorem adv_adv (S : PS) (a b : Nat) : adv (adv S a) b = adv S (a + b) := by unfold adv; simp [Nat.add_assoc]
theorem adv_next (S : PS) : nextM S = adv S 1 := rfl
/-- A level is as the tighter one, where nothing of it stands. -/
theorem pf_step {l : List Tok} {D : Fam} {k : Nat} (hk : k ≤ 6) {S : PS} {x : Expr} {n : Nat} {rest : List TK} (h : pf l D (k + 1) S = (x, adv S n)) (h0 : S.code = 0) (hs : seg l (S.i + n) = rest) (hst : stops k rest) (hnot : k = 2 → isM l notT S = false) (hneg : k = 6 → isM l negT S = false) : pf l D k S = (x, adv S n) := by
 have hl : ∀ of : Str, isM l of (adv S n) = false → ∀ m, leftF l of (pf l D (k + 1)) m (x, adv S n) = (x, adv S n) := fun of ho m => by
  cases m with
  | zero => rfl
  | succ m => rw [leftF, if_neg (by rw [ho]; simp)]
 have left : ∀ of : Str, isM l of (adv S n) = false → leftM l of (pf l D (k + 1)) S = (x, adv S n) := fun of ho => by
  unfold leftM
  rw [h]
  exact hl of ho _
 match k, hk with
 | 0, _ => exact left orT (stops_isM (k := 0) hst hs (by omega))
 | 1, _ => exact left andT (stops_isM (k := 1) hst hs (by omega))
 | 2, _ =>
  show notM l D S = _
  unfold notM
  rw [hnot rfl]
  exact h
 | 3, _ =>
  show compareM l D S = _
  have h' : sumM l D S = (x, adv S n) := h
  unfold compareM
  rw [h', if_pos (by rw [show isM l cmpT (adv S n) = false from stops_isM (k := 3) hst hs (by omega)]; simp)]
 | 4, _ => exact left sumT (stops_isM (k := 4) hst hs (by omega))
 | 5, _ => exact left prodT (stops_isM (k := 5) hst hs (by omega))
 | 6, _ =>
  show negM l D S = _
  unfold negM
  rw [hneg rfl]
  exact h
theorem pf_down {l : List Tok} {D : Fam} {S : PS} {x : Expr} {n : Nat} {rest : List TK} (h0 : S.code = 0) (hs : seg l (S.i + n) = rest) : ∀ (m k j : Nat), k + m = j → j ≤ 7 → pf l D j S = (x, adv S n) → stops k rest → (3 ≤ j → isM l notT S = false) → (7 ≤ j → isM l negT S = false) → pf l D k S = (x, adv S n)
 | 0, k, j, e, _, h, _, _, _ => by rw [show k = j by omega]; exact h
 | m + 1, k, j, e, hj, h, hst, h1, h2 => pf_step (by omega) (pf_down h0 hs m (k + 1) j (by omega) hj h (hst.mono (by omega)) h1 h2) h0 hs hst (fun _ => h1 (by omega)) (fun _ => h2 (by omega))
def T1 (l : List Tok) (x : Expr) : Prop := ∀ (k : Nat) (S : PS) (rest : List TK), k ≤ levE x → S.code = 0 → S.nest + needE x ≤ 30 → seg l S.i = toksE x ++ rest → stops k rest → pf l (fam l S.nest) k S = (x, adv S (toksE x).length)
def T2 (l : List Tok) (x : Expr) : Prop := ∀ (k : Nat) (S : PS) (rest : List TK), (k = 0 ∨ k = 1 ∨ k = 4 ∨ k = 5) → k ≤ levE x → S.code = 0 → S.nest + needE x ≤ 30 → seg l S.i = toksE x ++ rest → stops (k + 1) rest →
 ∃ n, l.length ≤ S.i + (toksE x).length + n ∧ leftM l (ofL k) (pf l (fam l S.nest) (k + 1)) S = leftF l (ofL k) (pf l (fam l S.nest) (k + 1)) n (x, adv S (toksE x).length)
theorem one_mark (s w : Str) (h1 : (32 : UInt8) ∉ w) (h2 : w ≠ []) {of : Str} (h : of = 32 :: (w ++ [32])) : isMarkM s of = (s == w) := by rw [h]; exact mark_one h1 h2 s
theorem is_not (s : Str) : isMarkM s notT = (s == notW) := one_mark s notW (by decide) (by decide) rfl
theorem is_neg (s : Str) : isMarkM s negT = (s == [45]) := one_mark s [45] (by decide) (by decide) rfl
theorem is_op (s : Str) : isMarkM s opT = (s == [40]) := one_mark s [40] (by decide) (by decide) rfl
theorem is_comma (s : Str) : isMarkM s commaT = (s == [44]) := one_mark s [44] (by decide) (by decide) rfl
def litWords : List Str := [[116, 114, 117, 101], [102, 97, 108, 115, 101], [110, 117, 108, 108]]
theorem is_lit (s : Str) : isMarkM s litT = (!(s == []) && litWords.contains s) := isMark_words (show litT = textOf litWords by kernel_rfl) (by decide) s
/-- In brackets. -/
theorem brk_atom {l : List Tok} {y : Expr} (hy : T1 l y) {S : PS} {rest : List TK} (h0 : S.code = 0) (hn : S.nest + (needE y + 1) ≤ 30) (hs : seg l S.i = ((5, [40]) :: (toksE y ++ [(5, [41])])) ++ rest) :
  pf l (fam l S.nest) 7 S = (y, adv S ((5, [40]) :: (toksE y ++ [((5, [41]) : TK)])).length) := by
 have hs' : seg l S.i = (5, [40]) :: (toksE y ++ (5, [41]) :: rest) := by rw [hs]; simp
 obtain ⟨k1, t1, r1, i1⟩ := seg_cons hs'
 have e1 : isM l litT S = false := by rw [isM_seg hs', is_lit]; decide
 have e2 : isM l opT S = true := by rw [isM_seg hs', is_op]; decide
 show atomM l (fam l S.nest) S = _
 unfold atomM
 rw [if_neg (by rw [h0]; decide), k1, e1, if_neg (by decide), if_neg (by decide), if_neg (by decide), if_pos e2]
 have hw : withinM (tokAt l S.i).at_ (fam l S.nest).ei (nextM S) = (y, adv (nextM S) (toksE y).length) := by
  unfold withinM
  rw [if_neg (by show ¬ (((S.nest : Int) == 30) = true); simp; omega), fam_deep (by omega)]
  have := hy 0 (deepM (nextM S)) ((5, [41]) :: rest) (Nat.zero_le _) h0 (by show S.nest + 1 + needE y ≤ 30; omega) r1 (fun h r e hm => by
   injection e with e _
   subst e
   exact ⟨by decide, by decide⟩)
  show ((pf l (fam l (S.nest + 1)) 0 (deepM (nextM S))).1, riseM (pf l (fam l (S.nest + 1)) 0 (deepM (nextM S))).2) = _
  have this' : pf l (fam l (S.nest + 1)) 0 (deepM (nextM S)) = (y, adv (deepM (nextM S)) (toksE y).length) := this
  rw [this']
  rfl
 rw [hw]
 have r2 := seg_skip r1
 have hc : wantM l closeT (adv (nextM S) (toksE y).length) = adv (nextM S) ((toksE y).length + 1) := by
  obtain ⟨k2, t2, _, _⟩ := seg_cons r2
  unfold wantM
  rw [if_neg (by show ¬ ((S.code != 0) = true); rw [h0]; decide)]
  have k2' : (tokAt l (adv (nextM S) (toksE y).length).i).kind = 5 := k2
  have t2' : (tokAt l (adv (nextM S) (toksE y).length).i).text = [41] := t2
  rw [k2', t2', if_neg (by decide)]
  rfl
 show (y, wantM l closeT (adv (nextM S) (toksE y).length)) = _
 rw [hc, adv_next, adv_adv]
 congr 2
 simp
 omega
/-- A kid at a level. -/
theorem kid_at {l : List Tok} {y : Expr} (hy : T1 l y) {k : Nat} (hk : k ≤ 7) {S : PS} {rest : List TK} (h0 : S.code = 0) (hn : S.nest + brkN k y (needE y) ≤ 30) (hs : seg l S.i = brkT k y (toksE y) ++ rest) (hst : stops k rest) :
  pf l (fam l S.nest) k S = (y, adv S (brkT k y (toksE y)).length) := by
 unfold brkT at hs ⊢
 unfold brkN at hn
 by_cases hl : k ≤ levE y
 ·rw [if_pos hl] at hs hn ⊢
  exact hy k S rest hl h0 hn hs hst
 rw [if_neg hl] at hs hn ⊢
 have hs' : seg l S.i = (5, [40]) :: (toksE y ++ (5, [41]) :: rest) := by rw [hs]; simp
 exact pf_down h0 (seg_skip hs) (7 - k) k 7 (by omega) (Nat.le_refl _) (brk_atom hy h0 (by omega) hs) hst (fun _ => by rw [isM_seg hs', is_not]; decide) (fun _ => by rw [isM_seg hs', is_neg]; decide)
theorem toks_val (v : Val) : toksE (valX v) = [valTok v] := by simp [valX, toksE, nodeT]
theorem toks_name (t : Str) : toksE (nameE t) = [(1, t)] := by simp [nameE, toksE, nodeT]
theorem toks_neg (a : Expr) : toksE (oneX 3 a) = (5, [45]) :: brkT 6 a (toksE a) := by simp [oneX, toksE, toksL, nodeT]
theorem toks_no (a : Expr) : toksE (oneX 4 a) = (2, notW) :: brkT 2 a (toksE a) := by simp [oneX, toksE, toksL, nodeT]
theorem toks_bin (t : Str) (a b : Expr) : toksE (binX t a b) = brkT (firstL (levelM t).toNat) a (toksE a) ++ opTok t :: brkT ((levelM t).toNat + 1) b (toksE b) := by simp [binX, toksE, toksL, nodeT]
theorem toks_call (t : Str) (k : List Expr) : toksE (.mk 6 t noV k) = (1, t) :: (5, [40]) :: ((sepT (toksL k)).drop 1 ++ [(5, [41])]) := by simp [toksE, nodeT]
theorem need_val (v : Val) : needE (valX v) = 0 := by simp [valX, needE, nodeN]
theorem need_name (t : Str) : needE (nameE t) = 0 := by simp [nameE, needE, nodeN]
theorem need_neg (a : Expr) : needE (oneX 3 a) = 1 + brkN 6 a (needE a) := by simp [oneX, needE, needL, nodeN]
theorem need_no (a : Expr) : needE (oneX 4 a) = 1 + brkN 2 a (needE a) := by simp [oneX, needE, needL, nodeN]
theorem need_bin (t : Str) (a b : Expr) : needE (binX t a b) = max (brkN (firstL (levelM t).toNat) a (needE a)) (brkN ((levelM t).toNat + 1) b (needE b)) := by simp [binX, needE, needL, nodeN]
theorem need_call (t : Str) (k : List Expr) : needE (.mk 6 t noV k) = 1 + maxN (needL k) := by simp [needE, nodeN]
theorem lev_val (v : Val) : levE (valX v) = 7 := by simp [levE, valX, Expr.op]
theorem lev_name (t : Str) : levE (nameE t) = 7 := by simp [levE, nameE, Expr.op]
theorem lev_neg (a : Expr) : levE (oneX 3 a) = 6 := by simp [levE, oneX, Expr.op]
theorem lev_no (a : Expr) : levE (oneX 4 a) = 2 := by simp [levE, oneX, Expr.op]
theorem lev_bin (t : Str) (a b : Expr) : levE (binX t a b) = (levelM t).toNat := by simp [levE, binX, Expr.op, Expr.text]
theorem lev_call (t : Str) (k : List Expr) : levE (.mk 6 t noV k) = 7 := by simp [levE, Expr.op]
/-- What a right value is. -/
theorem plain_cases {v : Val} (h : plainM v = true) : v = ⟨0, 0, []⟩ ∨ v = ⟨1, v.n, []⟩ ∨ (v = ⟨2, 0, v.s⟩ ∧ v.s.length ≤ 200) ∨ v = ⟨3, 0, []⟩ ∨ v = ⟨3, 1, []⟩ := by
 obtain ⟨k, n, s⟩ := v
 unfold plainM at h
 simp only at h
 split at h
 ·rename_i h1
  simp only [Bool.and_eq_true, beq_iff_eq] at h h1
  obtain ⟨rfl, rfl⟩ := h
  subst h1
  exact .inl rfl
 split at h
 ·rename_i h1
  simp only [beq_iff_eq] at h h1
  subst h h1
  exact .inr (.inl rfl)
 split at h
 ·rename_i h1
  simp only [Bool.and_eq_true, beq_iff_eq, decide_eq_true_eq] at h h1
  obtain ⟨rfl, h3⟩ := h
  subst h1
  exact .inr (.inr (.inl ⟨rfl, by show s.length ≤ 200; omega⟩))
 simp only [Bool.and_eq_true, beq_iff_eq, decide_eq_true_eq] at h
 obtain ⟨⟨⟨rfl, rfl⟩, h3⟩, h4⟩ := h
 have : n = 0 ∨ n = 1 := by omega
 rcases this with rfl | rfl
 ·exact .inr (.inr (.inr (.inl rfl)))
 exact .inr (.inr (.inr (.inr rfl)))
def isWord (h : TK) (w : Str) : Bool := ((h.1 == 5) || (h.1 == 2)) && (h.2 == w)
theorem head_tok : ∀ (n : Nat) (x : Expr), sizeE x ≤ n → allE nodeM x = true → ∃ h r, toksE x = h :: r ∧ (3 ≤ levE x → isWord h notW = false) ∧ (7 ≤ levE x → isWord h [45] = false)
 | 0, x, hn, _ => by rw [sizeE_eq] at hn; omega
 | n + 1, x, hn, hx => by
  rw [allE_eq, Bool.and_eq_true] at hx
  obtain ⟨h1, h2⟩ := hx
  cases node_cases h1 with
  | val v hv h0 =>
   rw [toks_val]
   refine ⟨_, _, rfl, fun _ => ?_, fun _ => ?_⟩ <;> rcases plain_cases hv with e | e | ⟨e, _⟩ | e | e <;> rw [e] <;> first | rfl | kernel_rfl
  | name t ht => rw [toks_name]; exact ⟨_, _, rfl, fun _ => rfl, fun _ => rfl⟩
  | neg a => rw [toks_neg, lev_neg]; exact ⟨_, _, rfl, fun _ => by decide, fun h => by omega⟩
  | no a => rw [toks_no, lev_no]; exact ⟨_, _, rfl, fun h => by omega, fun h => by omega⟩
  | call t k hk => rw [toks_call]; exact ⟨_, _, rfl, fun _ => rfl, fun _ => rfl⟩
  | bin t a b ht =>
   rw [toks_bin, lev_bin]
   have hlv := level_le t
   have ha : sizeE a ≤ n := by
    rw [sizeE_eq] at hn
    have : sizeL [a, b] ≤ n := by have : (binX t a b).kids = [a, b] := rfl; rw [this] at hn; omega
    simp [sizeL] at this
    omega
   have hxa : allE nodeM a = true := (allL_iff _ _).1 h2 a (by simp [binX, Expr.kids])
   obtain ⟨h, r, e, g1, g2⟩ := head_tok n a ha hxa
   unfold brkT
   split
   ·rename_i hl
    rw [e]
    refine ⟨h, _, rfl, fun h3 => g1 ?_, fun h7 => by omega⟩
    unfold firstL at hl
    split at hl <;> omega
   exact ⟨_, _, rfl, fun _ => by decide, fun h7 => by omega⟩
theorem head_is {l : List Tok} {S : PS} {x : Expr} {rest : List TK} (hx : allE nodeM x = true) (hs : seg l S.i = toksE x ++ rest) : (3 ≤ levE x → isM l notT S = false) ∧ (7 ≤ levE x → isM l negT S = false) := by
 obtain ⟨⟨k, t⟩, r, e, g1, g2⟩ := head_tok _ x (Nat.le_refl _) hx
 rw [e] at hs
 refine ⟨fun h => ?_, fun h => ?_⟩
 ·rw [isM_seg (r := r ++ rest) hs, is_not]; exact g1 h
 rw [isM_seg (r := r ++ rest) hs, is_neg]; exact g2 h
/-- From a tree's own level to all. -/
theorem T_of {l : List Tok} {x : Expr} (hx : allE nodeM x = true) (hA : ∀ (S : PS) (rest : List TK), S.code = 0 → S.nest + needE x ≤ 30 → seg l S.i = toksE x ++ rest → stops (levE x) rest → pf l (fam l S.nest) (levE x) S = (x, adv S (toksE x).length))
  (hB : ∀ (S : PS) (rest : List TK), (levE x = 0 ∨ levE x = 1 ∨ levE x = 4 ∨ levE x = 5) → S.code = 0 → S.nest + needE x ≤ 30 → seg l S.i = toksE x ++ rest → stops (levE x + 1) rest →
   ∃ n, l.length ≤ S.i + (toksE x).length + n ∧ leftM l (ofL (levE x)) (pf l (fam l S.nest) (levE x + 1)) S = leftF l (ofL (levE x)) (pf l (fam l S.nest) (levE x + 1)) n (x, adv S (toksE x).length)) : T1 l x ∧ T2 l x := by
 have h1 : T1 l x := fun k S rest hk h0 hn hs hst => by
  obtain ⟨g1, g2⟩ := head_is hx hs
  exact pf_down h0 (seg_skip hs) (levE x - k) k (levE x) (by omega) (levE_le x) (hA S rest h0 hn hs (hst.mono hk)) hst g1 g2
 refine ⟨h1, fun k S rest hk hkl h0 hn hs hst => ?_⟩
 rcases Nat.lt_or_ge k (levE x) with h | h
 ·refine ⟨l.length, by omega, ?_⟩
  unfold leftM
  rw [h1 (k + 1) S rest h h0 hn hs hst]
 obtain rfl : k = levE x := by omega
 exact hB S rest hk h0 hn hs hst
theorem ofL_left {k : Nat} (hk : k = 0 ∨ k = 1 ∨ k = 4 ∨ k = 5) : k = 0 ∨ k = 1 ∨ k = 3 ∨ k = 4 ∨ k = 5 := by omega
theorem pf_left {l : List Tok} {D : Fam} {k : Nat} (hk : k = 0 ∨ k = 1 ∨ k = 4 ∨ k = 5) : pf l D k = leftM l (ofL k) (pf l D (k + 1)) := by rcases hk with rfl | rfl | rfl | rfl <;> rfl
theorem stops_op {t : Str} {k : Nat} {r : List TK} (h0 : 0 ≤ levelM t) (hk : levelM t < (k : Int)) : stops k (opTok t :: r) := fun h r' e _ => by
 injection e with e _
 subst e
 exact ⟨hk, fun e => by have : t = [40] := e; subst this; revert h0; decide⟩
theorem op_is {l : List Tok} {S : PS} {t : Str} {r : List TK} {of : Str} (hs : seg l S.i = opTok t :: r) : isM l of S = isMarkM t of := by
 have := isM_seg (of := of) (k := if letterM (t.headD 0) then 2 else 5) (t := t) hs
 rw [this]
 split <;> simp
theorem size_kids {e : Expr} {n : Nat} (h : sizeE e ≤ n + 1) {y : Expr} (hy : y ∈ e.kids) : sizeE y ≤ n := by
 rw [sizeE_eq] at h
 obtain ⟨i, hi, rfl⟩ := List.getElem_of_mem hy
 have := sizeL_get e.kids hi
 omega
theorem bin_T {l : List Tok} {t : Str} {a b : Expr} (ht : 0 ≤ levelM t) (hx : allE nodeM (binX t a b) = true) (ha : T1 l a ∧ T2 l a) (hb : T1 l b) : T1 l (binX t a b) ∧ T2 l (binX t a b) := by
 have hlv := level_le t
 obtain ⟨own, hown⟩ : ∃ own, own = (levelM t).toNat := ⟨_, rfl⟩
 have hoi : levelM t = (own : Int) := by omega
 have hB : ∀ (S : PS) (rest : List TK), (own = 0 ∨ own = 1 ∨ own = 4 ∨ own = 5) → S.code = 0 → S.nest + needE (binX t a b) ≤ 30 → seg l S.i = toksE (binX t a b) ++ rest → stops (own + 1) rest →
   ∃ n, l.length ≤ S.i + (toksE (binX t a b)).length + n ∧ leftM l (ofL own) (pf l (fam l S.nest) (own + 1)) S = leftF l (ofL own) (pf l (fam l S.nest) (own + 1)) n (binX t a b, adv S (toksE (binX t a b)).length) := by
  intro S rest hl h0 hn hs hst
  rw [toks_bin, ← hown, show firstL own = own by unfold firstL; split <;> omega] at hs ⊢
  rw [need_bin, ← hown, show firstL own = own by unfold firstL; split <;> omega] at hn
  have hs' : seg l S.i = brkT own a (toksE a) ++ (opTok t :: (brkT (own + 1) b (toksE b) ++ rest)) := by rw [hs]; simp
  have hna : S.nest + brkN own a (needE a) ≤ 30 := by omega
  have hRA : ∃ n, l.length ≤ S.i + (brkT own a (toksE a)).length + n ∧ leftM l (ofL own) (pf l (fam l S.nest) (own + 1)) S = leftF l (ofL own) (pf l (fam l S.nest) (own + 1)) n (a, adv S (brkT own a (toksE a)).length) := by
   by_cases hla : own ≤ levE a
   ·have e1 : brkT own a (toksE a) = toksE a := if_pos hla
    have e2 : brkN own a (needE a) = needE a := if_pos hla
    rw [e1] at hs' ⊢
    rw [e2] at hna
    exact Z277
   have e1 : brkT own a (toksE a) = brkT (own + 1) a (toksE a) := by unfold brkT; rw [if_neg hla, if_neg (by omega)]
   have e2 : brkN own a (needE a) = brkN (own + 1) a (needE a) := by unfold brkN; rw [if_neg hla, if_neg (by omega)]
   rw [e1] at hs' ⊢
   rw [e2] at hna
   refine ⟨l.length, by omega, ?_⟩
   unfold leftM
   rw [kid_at ha.1 (by omega) h0 hna hs' (stops_op ht (by omega))]
  obtain ⟨n, hn1, hn2⟩ := hRA
  have s1 := seg_skip hs'
  have s1' : seg l (adv S (brkT own a (toksE a)).length).i = opTok t :: (brkT (own + 1) b (toksE b) ++ rest) := s1
  obtain ⟨_, tx, s2, i1⟩ := seg_cons s1'
  obtain ⟨m, rfl⟩ : ∃ m, n = m + 1 := ⟨n - 1, by have : S.i + (brkT own a (toksE a)).length < l.length := i1; omega⟩
  refine ⟨m, by simp only [List.length_append, List.length_cons]; omega, ?_⟩
  rw [hn2, leftF, if_pos (by
   show (((adv S (brkT own a (toksE a)).length).code == 0) && isM l (ofL own) (adv S (brkT own a (toksE a)).length)) = true
   rw [op_is s1', mark_level (ofL_left hl), hoi]
   show ((S.code == 0) && _) = true
   rw [h0]
   simp)]
  have hk := kid_at (l := l) (S := adv S ((brkT own a (toksE a)).length + 1)) hb (k := own + 1) (by omega) h0 (show S.nest + brkN (own + 1) b (needE b) ≤ 30 by omega) s2 hst
  have e3 : nextM (adv S (brkT own a (toksE a)).length) = adv S ((brkT own a (toksE a)).length + 1) := by rw [adv_next, adv_adv]
  show leftF l (ofL own) _ m (binX (tokAt l (adv S (brkT own a (toksE a)).length).i).text a (pf l (fam l S.nest) (own + 1) (nextM (adv S (brkT own a (toksE a)).length))).1, (pf l (fam l S.nest) (own + 1) (nextM (adv S (brkT own a (toksE a)).length))).2) = _
  rw [e3, tx, show pf l (fam l S.nest) (own + 1) (adv S ((brkT own a (toksE a)).length + 1)) = _ from hk, adv_adv]
  exact congrArg (fun n => leftF l (ofL own) (pf l (fam l S.nest) (own + 1)) m (binX t a b, adv S n)) (by simp only [List.length_append, List.length_cons]; omega)
 refine T_of hx ?_ ?_
 ·rw [lev_bin, ← hown]
  intro S rest h0 hn hs hst
  by_cases h3 : own = 3
  ·subst h3
   rw [toks_bin, ← hown] at hs ⊢
   rw [need_bin, ← hown] at hn
   have e4 : firstL 3 = 4 := rfl
   rw [e4] at hs hn ⊢
   have hn4 : S.nest + max (brkN 4 a (needE a)) (brkN 4 b (needE b)) ≤ 30 := hn
   have hs' : seg l S.i = brkT 4 a (toksE a) ++ (opTok t :: (brkT 4 b (toksE b) ++ rest)) := by rw [hs]; simp
   have h1 : sumM l (fam l S.nest) S = (a, adv S (brkT 4 a (toksE a)).length) := kid_at (k := 4) ha.1 (by omega) h0 (by omega) hs' (stops_op ht (by omega))
   have s1 : seg l (adv S (brkT 4 a (toksE a)).length).i = opTok t :: (brkT 4 b (toksE b) ++ rest) := seg_skip hs'
   obtain ⟨_, tx, s2, i1⟩ := seg_cons s1
   have h2 : isM l cmpT (adv S (brkT 4 a (toksE a)).length) = true := by
    rw [op_is s1, show cmpT = ofL 3 from rfl, mark_level (by omega), hoi]
    rfl
   have h4 : sumM l (fam l S.nest) (adv S ((brkT 4 a (toksE a)).length + 1)) = _ := kid_at (l := l) (S := adv S ((brkT 4 a (toksE a)).length + 1)) hb (k := 4) (by omega) h0 (show S.nest + brkN 4 b (needE b) ≤ 30 by omega) s2 (hst.mono (by omega))
   show compareM l (fam l S.nest) S = _
   unfold compareM
   rw [h1, if_neg (by rw [h2]; show ¬ (((S.code != 0) || _) = true); rw [h0]; decide), adv_next, adv_adv, h4, tx, adv_adv]
   refine Prod.ext rfl ?_
   show adv S _ = adv S (brkT 4 a (toksE a) ++ opTok t :: brkT 4 b (toksE b)).length
   congr 1
   simp only [List.length_append, List.length_cons]
   omega
  have hl : own = 0 ∨ own = 1 ∨ own = 4 ∨ own = 5 := by omega
  obtain ⟨n, _, h⟩ := hB S rest hl h0 hn hs (hst.mono (by omega))
  rw [pf_left hl, h]
  have hf : isM l (ofL own) (adv S (toksE (binX t a b)).length) = false := stops_isM hst (seg_skip hs) (ofL_left hl)
  cases n with
  | zero => rfl
  | succ n => rw [leftF, if_neg (by rw [hf]; simp)]
 rw [lev_bin, ← hown]
 exact hB
theorem neg_T {l : List Tok} {a : Expr} (hx : allE nodeM (oneX 3 a) = true) (ha : T1 l a) : T1 l (oneX 3 a) ∧ T2 l (oneX 3 a) := by
 refine T_of hx ?_ (fun S rest h => by rw [lev_neg] at h; omega)
 rw [lev_neg, toks_neg, need_neg]
 intro S rest h0 hn hs hst
 obtain ⟨_, _, s1, _⟩ := seg_cons hs
 show negM l (fam l S.nest) S = _
 unfold negM
 rw [if_neg (by rw [isM_seg hs, is_neg]; decide)]
 have hk := kid_at (l := l) (S := deepM (nextM S)) ha (k := 6) (by omega) h0 (show S.nest + 1 + brkN 6 a (needE a) ≤ 30 by omega) s1 hst
 have hw : withinM (tokAt l S.i).at_ (fam l S.nest).ne (nextM S) = (a, adv (nextM S) (brkT 6 a (toksE a)).length) := by
  unfold withinM
  rw [if_neg (by show ¬ (((S.nest : Int) == 30) = true); simp; omega), fam_deep (by omega)]
  show ((pf l (fam l (S.nest + 1)) 6 (deepM (nextM S))).1, riseM (pf l (fam l (S.nest + 1)) 6 (deepM (nextM S))).2) = _
  rw [show pf l (fam l (S.nest + 1)) 6 (deepM (nextM S)) = _ from hk]
  rfl
 rw [hw, adv_next, adv_adv]
 exact congrArg (fun n => (oneX 3 a, adv S n)) (by simp only [List.length_cons]; omega)
theorem no_T {l : List Tok} {a : Expr} (hx : allE nodeM (oneX 4 a) = true) (ha : T1 l a) : T1 l (oneX 4 a) ∧ T2 l (oneX 4 a) := by
 refine T_of hx ?_ (fun S rest h => by rw [lev_no] at h; omega)
 rw [lev_no, toks_no, need_no]
 intro S rest h0 hn hs hst
 obtain ⟨_, _, s1, _⟩ := seg_cons hs
 show notM l (fam l S.nest) S = _
 unfold notM
 rw [if_neg (by rw [isM_seg hs, is_not]; decide)]
 have hk := kid_at (l := l) (S := deepM (nextM S)) ha (k := 2) (by omega) h0 (show S.nest + 1 + brkN 2 a (needE a) ≤ 30 by omega) s1 hst
 have hw : withinM (tokAt l S.i).at_ (fam l S.nest).no (nextM S) = (a, adv (nextM S) (brkT 2 a (toksE a)).length) := by
  unfold withinM
  rw [if_neg (by show ¬ (((S.nest : Int) == 30) = true); simp; omega), fam_deep (by omega)]
  show ((pf l (fam l (S.nest + 1)) 2 (deepM (nextM S))).1, riseM (pf l (fam l (S.nest + 1)) 2 (deepM (nextM S))).2) = _
  rw [show pf l (fam l (S.nest + 1)) 2 (deepM (nextM S)) = _ from hk]
  rfl
 rw [hw, adv_next, adv_adv]
 exact congrArg (fun n => (oneX 4 a, adv S n)) (by simp only [List.length_cons]; omega)
theorem name_T {l : List Tok} {t : Str} (hx : allE nodeM (nameE t) = true) : T1 l (nameE t) ∧ T2 l (nameE t) := by
 refine T_of hx ?_ (fun S rest h => by rw [lev_name] at h; omega)
 rw [lev_name, toks_name]
 intro S rest h0 hn hs hst
 obtain ⟨k1, t1, s1, _⟩ := seg_cons (show seg l S.i = (1, t) :: rest from hs)
 show atomM l (fam l S.nest) S = _
 have e1 : isM l litT S = false := by rw [isM_seg (show seg l S.i = (1, t) :: rest from hs)]; rfl
 have e2 : isM l opT (nextM S) = false := by
  cases rest with
  | nil => exact isM_nil s1
  | cons h r =>
   obtain ⟨k2, t2⟩ := h
   rw [isM_seg (show seg l (nextM S).i = (k2, t2) :: r from s1), is_op]
   cases hb : ((k2 == 5) || (k2 == 2)) with
   | false => rfl
   | true =>
    have : t2 ≠ [40] := (hst _ _ rfl hb).2
    rw [Bool.true_and, beq_eq_false_iff_ne]
    exact this
 unfold atomM
 rw [if_neg (by rw [h0]; decide), k1, e1, if_neg (by decide), if_neg (by decide), if_pos (by decide), e2, if_neg (by decide), t1]
 rfl
/-- Kids behind commas. -/
theorem args_T {l : List Tok} {nst : Nat} {rest : List TK} (hst : stops 0 rest) (hc : ∀ h r, rest = h :: r → isWord h [44] = false) : ∀ (ks : List Expr), (∀ y ∈ ks, T1 l y) → ∀ (acc : List Expr) (S : PS) (n : Nat), S.nest = nst → S.code = 0 → (∀ y ∈ ks, nst + needE y ≤ 30) → seg l S.i = sepT (toksL ks) ++ rest → l.length ≤ S.i + n →
  argsF l (pf l (fam l nst) 0) n (acc, S) = (acc ++ ks, adv S (sepT (toksL ks)).length)
 | [], _, acc, S, n, hN, h0, _, hs, _ => by
  have hf : isM l commaT S = false := by
   have hs' : seg l S.i = rest := hs
   cases rest with
   | nil => exact isM_nil hs'
   | cons h r => obtain ⟨k2, t2⟩ := h; rw [isM_seg hs', is_comma]; exact hc _ _ rfl
  cases n with
  | zero => rw [argsF, List.append_nil]; rfl
  | succ n => rw [argsF, if_neg (by rw [hf]; simp), List.append_nil]; rfl
 | y :: ks, hT, acc, S, n, hN, h0, hnd, hs, hn => by
  have hs' : seg l S.i = (5, [44]) :: (toksE y ++ (sepT (toksL ks) ++ rest)) := by rw [hs]; simp [toksL, sepT]
  obtain ⟨_, _, s1, i1⟩ := seg_cons hs'
  obtain ⟨m, rfl⟩ : ∃ m, n = m + 1 := ⟨n - 1, by omega⟩
  have hy := hT y (by simp) 0 (nextM S) (sepT (toksL ks) ++ rest) (Nat.zero_le _) h0 (by have := hnd y (by simp); show S.nest + _ ≤ 30; omega) s1 (by
   cases ks with
   | nil => exact hst
   | cons z ks =>
    intro h r e _
    injection e with e _
    subst e
    exact ⟨by decide, by decide⟩)
  have hy' : pf l (fam l nst) 0 (nextM S) = (y, adv (nextM S) (toksE y).length) := by rw [← hN]; exact hy
  rw [argsF, if_pos (by
   show ((S.code == 0) && isM l commaT S) = true
   rw [h0, isM_seg hs', is_comma]
   decide)]
  show argsF l (pf l (fam l nst) 0) m (acc ++ [(pf l (fam l nst) 0 (nextM S)).1], (pf l (fam l nst) 0 (nextM S)).2) = _
  rw [hy']
  show argsF l (pf l (fam l nst) 0) m (acc ++ [y], adv (nextM S) (toksE y).length) = _
  rw [args_T hst hc ks (fun z hz => hT z (by simp [hz])) (acc ++ [y]) (adv (nextM S) (toksE y).length) m hN h0 (fun z hz => hnd z (by simp [hz])) (seg_skip s1) (by show l.length ≤ S.i + 1 + (toksE y).length + m; omega)]
  rw [adv_next, adv_adv, adv_adv, show acc ++ [y] ++ ks = acc ++ y :: ks by simp]
  exact congrArg (fun n => (acc ++ y :: ks, adv S n)) (by simp only [toksL, sepT, List.length_cons, List.length_append]; omega)
theorem sep_drop (T : List TK) (r : List (List TK)) : (sepT (T :: r)).drop 1 = T ++ sepT r := rfl
theorem call_T {l : List Tok} {t : Str} {k : List Expr} (hx : allE nodeM (.mk 6 t noV k) = true) (ha : arityM t = (k.length : Int)) (h1 : 1 ≤ k.length) (hT : ∀ y ∈ k, T1 l y) : T1 l (.mk 6 t noV k) ∧ T2 l (.mk 6 t noV k) := by
 refine T_of hx ?_ (fun S rest h => by rw [lev_call] at h; omega)
 rw [lev_call, toks_call, need_call]
 intro S rest h0 hn hs hst
 match k, h1, ha, hT, hn, hs with
 | y :: ks, _, ha, hT, hn, hs =>
 rw [toksL, sep_drop] at hs ⊢
 have hs' : seg l S.i = (1, t) :: ((5, [40]) :: (toksE y ++ (sepT (toksL ks) ++ ((5, [41]) :: rest)))) := by rw [hs]; simp
 obtain ⟨k1, t1, s1, i1⟩ := seg_cons hs'
 have s1' : seg l (nextM S).i = (5, [40]) :: (toksE y ++ (sepT (toksL ks) ++ ((5, [41]) :: rest))) := s1
 obtain ⟨k2, t2, s2, i2⟩ := seg_cons s1'
 have hmax := maxN_ge (y :: ks)
 have hz : stops 0 (((5, [41]) : TK) :: rest) := fun h r e _ => by
  injection e with e _
  subst e
  exact ⟨by decide, by decide⟩
 have hy := hT y (by simp) 0 (deepM (nextM (nextM S))) (sepT (toksL ks) ++ ((5, [41]) :: rest)) (Nat.zero_le _) h0 (by have := hmax y (by simp); show S.nest + 1 + _ ≤ 30; omega) s2 (by
  cases ks with
  | nil => exact hz
  | cons z ks =>
   intro h r e _
   injection e with e _
   subst e
   exact ⟨by decide, by decide⟩)
 have hy' : pf l (fam l (S.nest + 1)) 0 (deepM (nextM (nextM S))) = (y, adv (deepM (nextM (nextM S))) (toksE y).length) := hy
 have hargs := args_T (l := l) (nst := S.nest + 1) hz (fun h r e => by
  injection e with e _
  subst e
  decide) ks (fun z hz => hT z (by simp [hz])) [y] (adv (deepM (nextM (nextM S))) (toksE y).length) l.length rfl h0 (fun z hz => by have := hmax z (by simp [hz]); omega) (seg_skip s2) (by omega)
 have hk : callKM l (fam l S.nest) (nextM S) = (y :: ks, adv (nextM (nextM S)) ((toksE y).length + (sepT (toksL ks)).length)) := by
  unfold callKM kidsM
  rw [if_neg (by show ¬ (((S.nest : Int) == 30) = true); simp; omega), fam_deep (by omega)]
  unfold argsM
  show ((argsF l (pf l (fam l (S.nest + 1)) 0) l.length ([(pf l (fam l (S.nest + 1)) 0 (deepM (nextM (nextM S)))).1], (pf l (fam l (S.nest + 1)) 0 (deepM (nextM (nextM S)))).2)).1, riseM (argsF l (pf l (fam l (S.nest + 1)) 0) l.length ([(pf l (fam l (S.nest + 1)) 0 (deepM (nextM (nextM S)))).1], (pf l (fam l (S.nest + 1)) 0 (deepM (nextM (nextM S)))).2)).2) = _
  rw [hy', hargs, adv_adv]
  rfl
 have s3 := seg_skip (seg_skip s2)
 have hw : wantM l closeT (callKM l (fam l S.nest) (nextM S)).2 = adv (nextM (nextM S)) ((toksE y).length + (sepT (toksL ks)).length + 1) := by
  rw [hk]
  have s3' : seg l (adv (nextM (nextM S)) ((toksE y).length + (sepT (toksL ks)).length)).i = (5, [41]) :: rest := by
   show seg l ((nextM S).i + 1 + ((toksE y).length + (sepT (toksL ks)).length)) = _
   rw [← Nat.add_assoc]
   exact s3
  obtain ⟨k3, t3, _, _⟩ := seg_cons s3'
  show wantM l closeT (adv (nextM (nextM S)) ((toksE y).length + (sepT (toksL ks)).length)) = _
  unfold wantM
  rw [if_neg (by show ¬ ((S.code != 0) = true); rw [h0]; decide), k3, t3, if_neg (by decide)]
  rfl
 have e1 : isM l litT S = false := by rw [isM_seg hs']; rfl
 have e2 : isM l opT (nextM S) = true := by rw [isM_seg s1', is_op]; decide
 show atomM l (fam l S.nest) S = _
 unfold atomM
 rw [if_neg (by rw [h0]; decide), k1, e1, if_neg (by decide), if_neg (by decide), if_pos (by decide), if_pos e2]
 unfold callM
 rw [t1, if_neg (by rw [ha]; omega), if_neg (by rw [hk, ha]; simp), hw, hk]
 refine Prod.ext rfl ?_
 show adv (nextM (nextM S)) ((toksE y).length + (sepT (toksL ks)).length + 1) = adv S _
 rw [adv_next, adv_next, adv_adv, adv_adv]
 congr 1
 simp only [List.length_cons, List.length_append, List.length_nil]
 omega
theorem dig_mem : ∀ d, d < 10 → digs.contains (UInt8.ofNat (48 + d)) = true := by decide
theorem dig_nat : ∀ d, d < 10 → (UInt8.ofNat (48 + d)).toNat = 48 + d := by decide
theorem dig_nz : ∀ d, d < 10 → 1 ≤ d → UInt8.ofNat (48 + d) ≠ 48 := by decide
theorem dec_step {u : Nat} (h : ¬ u < 10) : Lib.decDigits u = Lib.decDigits (u / 10) ++ [UInt8.ofNat (48 + u % 10)] := by rw [Lib.decDigits, dif_neg h]
theorem dec_all : ∀ (u : Nat), ∀ c ∈ Lib.decDigits u, digs.contains c = true := by
 intro u
 induction u using Nat.strongRecOn with
 | _ u ih =>
  intro c hc
  by_cases h : u < 10
  ·rw [Lib.decDigits_one h, List.mem_singleton] at hc
   subst hc
   exact dig_mem u h
  rw [dec_step h] at hc
  rcases List.mem_append.1 hc with hc | hc
  ·exact ih (u / 10) (by omega) c hc
  rw [List.mem_singleton.1 hc]
  exact dig_mem _ (Nat.mod_lt _ (by decide))
theorem dec_head : ∀ (u : Nat), ∃ c r, Lib.decDigits u = c :: r ∧ (1 ≤ u → c ≠ 48) := by
 intro u
 induction u using Nat.strongRecOn with
 | _ u ih =>
  by_cases h : u < 10
  ·exact ⟨_, _, Lib.decDigits_one h, fun h1 => dig_nz u h h1⟩
  obtain ⟨c, r, e, h1⟩ := ih (u / 10) (by omega)
  exact ⟨c, r ++ [UInt8.ofNat (48 + u % 10)], by rw [dec_step h, e]; rfl, fun _ => h1 (by omega)⟩
theorem parseM_append (M : Nat) : ∀ (a : Str) (acc v : Nat) (b : Str), Lib.parseUintM M acc a = .ok v → Lib.parseUintM M acc (a ++ b) = Lib.parseUintM M v b
 | [], acc, v, b, h => by
  rw [Lib.parseUintM] at h
  injection h with h
  subst h
  rfl
 | c :: r, acc, v, b, h => by
  rw [List.cons_append, Lib.parseUintM]
  rw [Lib.parseUintM] at h
  split at h
  ·rename_i h1
   rw [if_pos h1]
   split at h
   ·cases h
   rename_i h2
   rw [if_neg h2]
   split at h
   ·cases h
   rename_i h3
   rw [if_neg h3]
   exact parseM_append M r _ v b h
  cases h
theorem parseM_dec {M : Nat} (hM : M ≤ 18446744073709551615) : ∀ (u : Nat), u ≤ M → Lib.parseUintM M 0 (Lib.decDigits u) = .ok u := by
 intro u
 induction u using Nat.strongRecOn with
 | _ u ih =>
  intro hu
  have one : ∀ acc d, d < 10 → acc ≤ 1844674407370955161 → acc * 10 + d ≤ M → Lib.parseUintM M acc [UInt8.ofNat (48 + d)] = .ok (acc * 10 + d) := fun acc d hd ha hm => by
   have e := dig_nat d hd
   rw [Lib.parseUintM, e, if_pos (by omega), if_neg (by omega), if_neg (by omega), Lib.parseUintM]
   congr 1
   omega
  by_cases h : u < 10
  ·rw [Lib.decDigits_one h, one 0 u h (by omega) (by omega)]
   congr 1
   omega
  rw [dec_step h, parseM_append M _ 0 (u / 10) _ (ih (u / 10) (by omega) (by omega)), one (u / 10) (u % 10) (Nat.mod_lt _ (by decide)) (by omega) (by omega)]
  congr 1
  omega
theorem digs_not : ∀ c : UInt8, digs.contains c = true → c ≠ 45 ∧ c ≠ 43 ∧ c ≠ 39 ∧ c ≠ 110 ∧ c ≠ 116 ∧ c ≠ 102 := by
 have h : ((List.range 256).all fun n => !digs.contains (UInt8.ofNat n) || decide (UInt8.ofNat n ≠ 45 ∧ UInt8.ofNat n ≠ 43 ∧ UInt8.ofNat n ≠ 39 ∧ UInt8.ofNat n ≠ 110 ∧ UInt8.ofNat n ≠ 116 ∧ UInt8.ofNat n ≠ 102)) = true := by kernel_rfl
 intro c hc
 have := List.all_eq_true.1 h c.toNat (List.mem_range.2 c.toNat_lt)
 rw [show UInt8.ofNat c.toNat = c by simp, hc] at this
 simpa using this
theorem num_dec (u : Nat) (h1 : u ≤ 9223372036854775807) : numReadM (Lib.decDigits u) = ((u : Int), 0) := by
  obtain ⟨c, r, e, h0⟩ := dec_head u
  have hc : digs.contains c = true := dec_all u c (by rw [e]; simp)
  obtain ⟨n45, n43, _⟩ := digs_not c hc
  have hds : numDs (Lib.decDigits u) = Lib.decDigits u := by
    unfold numDs Lib.trimPrefix
    rw [if_neg]
    rw [e]
    unfold Lib.hasPrefix
    simp [Ne.symm n45]
  have hb : numBad (Lib.decDigits u) = false := by
    unfold numBad
    rw [hds]
    have a1 : (Lib.decDigits u == []) = false := by rw [e]; rfl
    have a2 : Lib.trimS (Lib.decDigits u) digs = [] := by
      unfold Lib.trimS Lib.trimRightS
      have : (Lib.decDigits u).reverse.dropWhile (fun x => digs.contains x) = [] := by
        rw [dw_nil]
        intro b hb
        exact dec_all u b (by simpa using hb)
      rw [this]
      rfl
    have a3 : (((Lib.decDigits u).headD 0 == 48) && decide (1 < (Lib.decDigits u).length)) = false := by
      by_cases hu : u < 10
      · rw [Lib.decDigits_one hu]; simp
      rw [e]
      have : (c == 48) = false := by simpa using h0 (by omega)
      simp [this]
    rw [a1, a2, a3]
    rfl
  have hp : Lib.parseIntB 64 (Lib.decDigits u) = .ok (u : Int) := by
    have hu : Lib.parseUintB 64 (Lib.decDigits u) = .ok u := by
      unfold Lib.parseUintB
      rw [if_neg (by rw [e]; simp)]
      exact parseM_dec (by decide) u (by have : (2 : Nat) ^ 64 - 1 = 18446744073709551615 := by decide
                                         omega)
    have n45' : c.toNat ≠ 45 := fun h => n45 (UInt8.toNat_inj.1 (by rw [h]; rfl))
    have n43' : c.toNat ≠ 43 := fun h => n43 (UInt8.toNat_inj.1 (by rw [h]; rfl))
    have e63 : (2 : Nat) ^ (64 - 1) = 9223372036854775808 := by decide
    rw [e] at hu ⊢
    simp only [Lib.parseIntB, n43', n45', or_self, if_false, hu, e63]
    simp
    omega
  unfold numReadM
  rw [hb, hp]
  rfl
theorem read_num {n : Int} (h0 : 0 ≤ n) (h1 : n ≤ 9223372036854775807) : readM (Lib.itoa n) = (⟨1, n, []⟩, 0) := by
 obtain ⟨u, rfl⟩ : ∃ u : Nat, n = (u : Int) := ⟨n.toNat, by omega⟩
 have e0 : Lib.itoa (u : Int) = Lib.decDigits u := by unfold Lib.itoa; rw [if_neg (by omega)]; simp
 rw [e0]
 obtain ⟨c, r, e, _⟩ := dec_head u
 have hc : digs.contains c = true := dec_all u c (by rw [e]; simp)
 obtain ⟨_, _, n39, n110, n116, n102⟩ := digs_not c hc
 unfold readM
 have b1 : (Lib.decDigits u == [110, 117, 108, 108]) = false := by rw [e]; simp [n110]
 have b2 : (Lib.decDigits u == [116, 114, 117, 101]) = false := by rw [e]; simp [n116]
 have b3 : (Lib.decDigits u == [102, 97, 108, 115, 101]) = false := by rw [e]; simp [n102]
 have b4 : quotM (Lib.decDigits u) = false := by
  unfold quotM Lib.hasPrefix
  rw [e]
  simp [Ne.symm n39]
 rw [b1, b2, b3, b4, num_dec u (by omega)]
 rfl
/-- What is printed is read: of values. -/
theorem read_print {v : Val} (h : plainM v = true) (h2 : (v.kind == 2) = false) (h0 : 0 ≤ v.n) (h1 : v.n ≤ 9223372036854775807) : readM (printM v) = (v, 0) := by
 obtain ⟨k, n, s⟩ := v
 unfold printM
 rw [h]
 unfold plainM at h
 simp only at h h2 h0 h1 ⊢
 by_cases e0 : k = 0
 ·subst e0
  simp at h
  obtain ⟨rfl, rfl⟩ := h
  kernel_rfl
 by_cases e1 : k = 1
 ·subst e1
  simp at h
  subst h
  simpa using read_num h0 h1
 have e2 : k ≠ 2 := by simpa using h2
 simp [e0, e1, e2] at h
 obtain ⟨⟨⟨rfl, rfl⟩, _⟩, h4⟩ := h
 have : n = 0 ∨ n = 1 := by omega
 rcases this with rfl | rfl
 ·rfl
 rfl
theorem val_T {l : List Tok} {v : Val} (hx : allE nodeM (valX v) = true) (hp : plainM v = true) (hv0 : 0 ≤ v.n) (hv1 : v.n ≤ 9223372036854775807) : T1 l (valX v) ∧ T2 l (valX v) := by
 refine T_of hx ?_ (fun S rest h => by rw [lev_val] at h; omega)
 rw [lev_val, toks_val]
 intro S rest h0 hn hs hst
 show atomM l (fam l S.nest) S = _
 unfold atomM
 rw [if_neg (by rw [h0]; decide)]
 cases hk1 : v.kind == 1 with
 | true =>
  have e : valTok v = (3, printM v) := by unfold valTok; rw [hk1]; rfl
  rw [e] at hs
  obtain ⟨k1, t1, _, _⟩ := seg_cons (show seg l S.i = (3, printM v) :: rest from hs)
  have hk2 : (v.kind == 2) = false := by
   have : v.kind = 1 := by simpa using hk1
   rw [this]; rfl
  rw [k1, if_pos (by simp), t1, read_print hp hk2 hv0 hv1]
  rfl
 | false =>
  cases hk2 : v.kind == 2 with
  | true =>
   have e : valTok v = (4, v.s) := by unfold valTok; rw [hk1, hk2]; rfl
   rw [e] at hs
   have hs' : seg l S.i = (4, v.s) :: rest := hs
   obtain ⟨k1, t1, _, _⟩ := seg_cons hs'
   have e1 : isM l litT S = false := by rw [isM_seg hs']; rfl
   rw [k1, e1, if_neg (by decide), if_pos (by decide), t1]
   have hv : v = ⟨2, 0, v.s⟩ ∧ v.s.length ≤ 200 := by
    rcases plain_cases hp with e | e | e | e | e
    ·rw [e] at hk2; cases hk2
    ·rw [e] at hk2; cases hk2
    ·exact e
    ·rw [e] at hk2; cases hk2
    rw [e] at hk2; cases hk2
   rw [List.take_of_length_le hv.2, ← hv.1]
   rfl
  | false =>
   have e : valTok v = (2, printM v) := by unfold valTok; rw [hk1, hk2]; rfl
   rw [e] at hs
   have hs' : seg l S.i = (2, printM v) :: rest := hs
   obtain ⟨k1, t1, _, _⟩ := seg_cons hs'
   have hw : isMarkM (printM v) litT = true := by
    rw [is_lit]
    rcases plain_cases hp with e | e | e | e | e
    ·rw [e]; kernel_rfl
    ·rw [e] at hk1; cases hk1
    ·rw [e.1] at hk2; cases hk2
    ·rw [e]; kernel_rfl
    rw [e]; kernel_rfl
   have e1 : isM l litT S = true := by rw [isM_seg hs', hw]; rfl
   rw [e1, if_pos (by simp), t1, read_print hp hk2 hv0 hv1]
   rfl
theorem arity_pos (t : Str) : arityM t = -1 ∨ 1 ≤ arityM t := by
 unfold arityM
 cases h : arityList.find? (fun p => p.1 == t) with
 | none => exact .inl rfl
 | some p =>
  have hm := List.mem_of_find?_eq_some h
  have ha : (arityList.all fun p => decide (1 ≤ arityV p)) = true := by kernel_rfl
  exact .inr (of_decide_eq_true (List.all_eq_true.1 ha p hm))
theorem parse_main (l : List Tok) : ∀ (n : Nat) (x : Expr), sizeE x ≤ n → allE nodeM x = true → allE rngN x = true → T1 l x ∧ T2 l x
 | 0, x, hn, _, _ => by rw [sizeE_eq] at hn; omega
 | n + 1, x, hn, hx, hr => by
  have hx0 := hx
  have hr0 := hr
  rw [allE_eq, Bool.and_eq_true] at hx0 hr0
  have ih : ∀ y ∈ x.kids, T1 l y ∧ T2 l y := fun y hy => parse_main l n y (size_kids hn hy) ((allL_iff _ _).1 hx0.2 y hy) ((allL_iff _ _).1 hr0.2 y hy)
  cases node_cases hx0.1 with
  | val v hv h0 =>
   have := hr0.1
   unfold rngN at this
   simp only [Bool.and_eq_true, decide_eq_true_eq] at this
   exact val_T hx hv h0 this.2
  | name t ht => exact name_T hx
  | neg a => exact neg_T hx (ih a (by simp [oneX, Expr.kids])).1
  | no a => exact no_T hx (ih a (by simp [oneX, Expr.kids])).1
  | bin t a b ht => exact bin_T ht hx (ih a (by simp [binX, Expr.kids])) (ih b (by simp [binX, Expr.kids])).1
  | call t k hk =>
   refine call_T hx hk ?_ (fun y hy => (ih y hy).1)
   have := arity_pos t
   omega
/-! The parser from a word on, and of a source. -/
def atS (l : List Tok) (i : Nat) (r : Expr × PS) : PS := if r.2.code != 0 then r.2 else if decide ((30 : Int) < depthE r.1) then failM 18 (tokAt l i).at_ r.2 else if decide ((300 : Int) < sizeE r.1) then failM 3 (tokAt l i).at_ r.2 else r.2
def atR (l : List Tok) (i : Nat) : Expr × PS := eitherM l (famM l 30) ⟨i, 0, 0, 0⟩
/-- The tree, the word behind it, the fault. -/
def atM (l : List Tok) (i : Nat) : Expr × Int × Int × Int := if (atS l i (atR l i)).code != 0 then (nullX, 0, (atS l i (atR l i)).code, (atS l i (atR l i)).at_) else ((atR l i).1, ((atS l i (atR l i)).i : Int), 0, 0)
def parseL (l : List Tok) (c a : Int) : Expr × Int × Int :=
 if c != 0 then (nullX, c, a) else if (atM l 0).2.2.1 != 0 then (nullX, (atM l 0).2.2.1, (atM l 0).2.2.2)
 else if (tokAt l (atM l 0).2.1.toNat).kind != 0 then (nullX, 8, ((tokAt l (atM l 0).2.1.toNat).at_ : Int)) else ((atM l 0).1, 0, 0)
def parseM (s : Str) : Expr × Int × Int := parseL (lexM s).1 (lexM s).2.1 ((lexM s).2.2 : Int)
set_option maxRecDepth 4000
/-! What is printed of a schema is read. -/
def awakeC : List Col := [⟨[97], 1⟩, ⟨[116], 2⟩]
def awakeT : Str := [97, 32, 105, 110, 116, 44, 32, 116, 32, 116, 101, 120, 116]
def schPrintsM (c : List Col) : Bool := if manyM c then true else if rightP c != rightM c then false else if !rightM c then schPrintM c == [] else
 ((schPrintM c == colsT c) && ((schReadM (schPrintM c)).2.1 == 0)) && decide (c = (schReadM (schPrintM c)).1)
def idxM {α : Type} [BEq α] (v : α) (l : List α) : Int := match l.findIdx? (· == v) with | some i => i | none => -1
def lessM (a b : List Col) : List Col := a.filter fun y => !b.contains y
def orderM (a b : List Col) : List Int := a.map fun y => findM y.name b
def takenAt (c : List Col) (take : List Str) (j : Nat) (nm : Str) : Bool := !(decide (findM nm c < 0) || (idxM nm take != (j : Int)))
def takenM (c : List Col) (take : List Str) : Bool := take.zipIdx.all fun x => takenAt c take x.2 x.1
def namedAt (c : List Col) (x : Nat) (y : Col) : Bool := !((!nameM y.name) || (findM y.name c != (x : Int)))
def namedC (c : List Col) : Bool := c.zipIdx.all fun x => namedAt c x.2 x.1
def stayM (c : List Col) (take : List Str) : List Col := c.filter fun y => !take.contains y.name
def turnM (c : List Col) (take : List Str) (give : List Col) : List Col × Int :=
 if rightM c = false then ([], 1) else if takenM c take = false then ([], 9) else if namedC (stayM c take ++ give) = false then ([], 9)
 else if colsM (stayM c take ++ give) = false then ([], 10) else if 12 < (stayM c take ++ give).length then ([], 3) else (stayM c take ++ give, 0)
def kindOk (y : Col) : Bool := !(decide (y.kind < 1) || decide ((3 : Int) < y.kind))
/-! What went and came, taken back: the same columns. -/
def lookM (c : List Col) (t : Str) : Col := c.getD (findM t c).toNat ⟨[], 0⟩
set_option maxRecDepth 8000
/-! The words of a print. -/
/-- This text, before that one, is these words. -/
def Lx (u : Str) (T : List TK) (R : Str) : Prop := ∀ f q, (u ++ R).length < f → ∃ M : List Tok, M.map ktT = T ∧ lexG f q (u ++ R) = M.map (fun t => (t, 0)) ++ lexG f (q + u.length) R
theorem Lx.nil (R : Str) : Lx [] [] R := fun f q _ => ⟨[], rfl, by simp⟩
theorem Lx.app {u v : Str} {T V : List TK} {R : Str} (h1 : Lx u T (v ++ R)) (h2 : Lx v V R) : Lx (u ++ v) (T ++ V) R := fun f q hf => by
 obtain ⟨M, hM, e1⟩ := h1 f q (by simpa using hf)
 obtain ⟨N, hN, e2⟩ := h2 f (q + u.length) (by simp at hf ⊢; omega)
 refine ⟨M ++ N, by rw [List.map_append, hM, hN], ?_⟩
 rw [List.append_assoc, e1, e2, List.map_append, List.append_assoc, List.length_append, Nat.add_assoc]
theorem lexG_fuel {f f' q : Nat} {s : Str} (h1 : s.length < f) (h2 : s.length < f') : lexG f q s = lexG f' q s := by
 have := gap_le s
 unfold lexG
 exact itemsF_fuel f f' _ _ (by rw [List.length_drop]; omega) (by rw [List.length_drop]; omega)
theorem Lx.blank (R : Str) : Lx [32] [] R := fun f q _ => ⟨[], rfl, by simpa using lexG_blank f q R⟩
/-- One word, that starts at once. -/
theorem Lx.word {u R : Str} {k : Int} {t : Str} (hu : u ≠ []) (hb : blanks.contains (u.headD 0) = false) (h35 : u.headD 0 ≠ 35) (hw : wordM (u ++ R) = (k, t, (u.length : Int), 0)) : Lx u [(k, t)] R := fun f q hf => by
 cases u with
 | nil => exact absurd rfl hu
 | cons c v =>
  have hg : gapM (c :: v ++ R) = 0 := by
   unfold gapM
   rw [List.cons_append, skipB, if_neg (by rw [show (c :: v).headD 0 = c from rfl] at hb; rw [hb]; simp), if_neg (by rw [show (c :: v).headD 0 = c from rfl] at h35; simpa using h35)]
   simp
  cases f with
  | zero => omega
  | succ f =>
   refine ⟨[⟨k, t, q⟩], rfl, ?_⟩
   have hne : (c :: v ++ R == []) = false := rfl
   have e : lexG (f + 1) q (c :: v ++ R) = (⟨k, t, q⟩, 0) :: lexG f (q + (c :: v).length) R := by
    have hd : (c :: v ++ R).drop (c :: v).length = R := List.drop_left
    unfold lexG
    rw [hg, List.drop_zero, Nat.add_zero, itemsF, hne, if_neg (by simp), hw]
    simp only [beq_self_eq_true, if_true, Int.toNat_natCast, hd, Nat.add_zero]
   rw [e]
   show _ = [((⟨k, t, q⟩ : Tok), (0 : Int))] ++ _
   have hl : R.length < f := by simp at hf; omega
   rw [List.singleton_append, lexG_fuel hl (show R.length < f + 1 by omega)]
/-- What may stand behind a tree, or a name. -/
def stopC (R : Str) : Prop := ∀ c r, R = c :: r → c = 32 ∨ c = 40 ∨ c = 41 ∨ c = 44 ∨ c = 59
theorem run_stop {p : UInt8 → Bool} {u R : Str} (h : ∀ c ∈ u, p c = true) (hR : ∀ c r, R = c :: r → p c = false) : (u ++ R).takeWhile p = u := by
 induction u with
 | nil =>
  cases R with
  | nil => rfl
  | cons c r => rw [List.nil_append, List.takeWhile_cons, hR c r rfl]; rfl
 | cons a u ih =>
  rw [List.cons_append, List.takeWhile_cons, h a List.mem_cons_self, if_pos rfl, ih (fun c hc => h c (List.mem_cons_of_mem _ hc))]
theorem stop_tails {R : Str} (h : stopC R) : ∀ c r, R = c :: r → tails.contains c = false := fun c r e => by
 rcases h c r e with rfl | rfl | rfl | rfl | rfl <;> kernel_rfl
theorem stop_digs {R : Str} (h : stopC R) : ∀ c r, R = c :: r → digs.contains c = false := fun c r e => by
 rcases h c r e with rfl | rfl | rfl | rfl | rfl <;> kernel_rfl
/-- A word of letters. -/
theorem word_named {u R : Str} (hl : letters.contains (u.headD 0) = true) (hu : u ≠ []) (ha : ∀ c ∈ u, tails.contains c = true) (hR : stopC R) : wordM (u ++ R) = if lexReservedM u then (2, u, (u.length : Int), 0) else if !lexNameM u then (0, [], 0, 3) else (1, u, (u.length : Int), 0) := by
 have hw : wordOf (u ++ R) tails = u := by rw [wordOf_eq]; exact run_stop ha (stop_tails hR)
 cases u with
 | nil => exact absurd rfl hu
 | cons c v =>
  have h1 : decide (0 < runM ((c :: v ++ R).take 1) letters) = true := by
   have e : (c :: v ++ R).take 1 = [c] := rfl
   have e2 : wordOf [c] letters = [c] := by rw [wordOf_eq, List.takeWhile_cons, show letters.contains c = true from hl]; rfl
   have e3 := runM_eq [c] letters
   have e4 : runN [c] letters = 1 := by
    have : (wordOf [c] letters).length = 1 := by rw [e2]; rfl
    unfold wordOf at this
    rw [List.length_take] at this
    have hle : runN [c] letters ≤ 1 := Nat.sub_le _ _
    simp at this
    omega
   rw [e, e3, e4]
   rfl
  unfold wordM
  rw [if_pos h1]
  unfold namedM
  rw [hw]
theorem letter_all : (letters.all fun c => !(blanks.contains c) && !(c == 35) && !(c == 39) && !(c == 61)) = true := by kernel_rfl
theorem letter_blank {c : UInt8} (h : letters.contains c = true) : blanks.contains c = false := by
 have := List.all_eq_true.1 letter_all c (by simpa using h)
 simp only [Bool.and_eq_true, Bool.not_eq_true'] at this
 exact this.1.1.1
theorem name_L {t R : Str} (h : nameM t = true) (hR : stopC R) : Lx t [(1, t)] R := by
 have h0 := h
 rw [nameM_eq] at h
 simp only [Bool.and_eq_true, Bool.not_eq_true', Bool.or_eq_false_iff, beq_eq_false_iff_ne, decide_eq_false_iff_not, Bool.not_eq_false] at h
 obtain ⟨⟨⟨⟨h1, h2⟩, h3⟩, h4⟩, h5⟩ := h
 have hu : t ≠ [] := by rintro rfl; simp at h1
 have hl : letters.contains (t.headD 0) = true := by rw [letters_char]; simpa using h3
 have hr : lexReservedM t = false := by
  have := lexName_eq t
  rw [h0] at this
  unfold lexNameM at this
  simp only [Bool.and_eq_true, Bool.not_eq_true'] at this
  exact this.2
 refine Lx.word hu ?_ ?_ ?_
 ·exact letter_blank hl
 ·intro e; rw [e] at hl; revert hl; decide
 rw [word_named hl hu (fun c hc => by rw [tails_char]; exact List.all_eq_true.1 h5 c hc) hR, hr, lexName_eq, h0]
 rfl
theorem run_one (c : UInt8) (of : Str) : runM [c] of = if of.contains c then 1 else 0 := by
 have e2 := wordOf_eq [c] of
 have e3 := runM_eq [c] of
 have hle : runN [c] of ≤ 1 := Nat.sub_le _ _
 have hlen : (wordOf [c] of).length = runN [c] of := by unfold wordOf; rw [List.length_take]; simp; omega
 rw [e3, ← hlen, e2, List.takeWhile_cons]
 cases of.contains c <;> rfl
/-- A word that no letter begins, and no digit. -/
theorem word_sign {c : UInt8} {R : Str} (hl : letters.contains c = false) (hd : digs.contains c = false) (h39 : c ≠ 39) : wordM (c :: R) = signM (c :: R) := by
 have h1 : ¬ (decide (0 < runM ((c :: R).take 1) letters) = true) := by
  rw [show (c :: R).take 1 = [c] from rfl, run_one, hl]; simp
 have h2 : ¬ (decide (0 < runM ((c :: R).take 1) digs) = true) := by
  rw [show (c :: R).take 1 = [c] from rfl, run_one, hd]; simp
 have h3 : ¬ (((((c :: R).getD 0 0).toNat : Int) == 39) = true) := by
  rw [show (c :: R).getD 0 0 = c from rfl, beq_iff_eq]
  intro h
  exact h39 (UInt8.toNat_inj.1 (by rw [show (39 : UInt8).toNat = 39 from rfl]; omega))
 unfold wordM
 rw [if_neg h1, if_neg h2, if_neg h3]
/-- A mark of one sign. -/
theorem mark1_L {c : UInt8} {R : Str} (hc : (!(letters.contains c) && !(digs.contains c) && !(c == 39) && !(blanks.contains c) && !(c == 35) && Lib.contains singles [c]) = true) (hR : ∀ d r, R = d :: r → d ≠ 61) : Lx [c] [(5, [c])] R := by
 simp only [Bool.and_eq_true, Bool.not_eq_true', beq_eq_false_iff_ne] at hc
 obtain ⟨⟨⟨⟨⟨h1, h2⟩, h3⟩, h4⟩, h5⟩, h6⟩ := hc
 refine Lx.word (by simp) h4 h5 ?_
 rw [List.singleton_append, word_sign h1 h2 h3]
 have hx : (((((c :: R).getD 1 0).toNat : Int) == 61)) = false := by
  cases R with
  | nil => rfl
  | cons d r =>
   rw [show (c :: d :: r).getD 1 0 = d from rfl, beq_eq_false_iff_ne]
   intro h
   exact hR d r rfl (UInt8.toNat_inj.1 (by rw [show (61 : UInt8).toNat = 61 from rfl]; omega))
 unfold signM
 rw [hx, Bool.and_false, if_neg (by simp), if_pos (by rw [show (c :: R).take 1 = [c] from rfl]; exact h6)]
 rfl
/-- A mark of two signs. -/
theorem mark2_L {c : UInt8} {R : Str} (hc : (!(letters.contains c) && !(digs.contains c) && !(c == 39) && !(blanks.contains c) && !(c == 35) && Lib.contains doubles [c, 61]) = true) : Lx [c, 61] [(5, [c, 61])] R := by
 simp only [Bool.and_eq_true, Bool.not_eq_true', beq_eq_false_iff_ne] at hc
 obtain ⟨⟨⟨⟨⟨h1, h2⟩, h3⟩, h4⟩, h5⟩, h6⟩ := hc
 refine Lx.word (by simp) h4 h5 ?_
 rw [show [c, 61] ++ R = c :: 61 :: R from rfl, word_sign h1 h2 h3]
 unfold signM
 have hl : decide ((1 : Int) < ((c :: 61 :: R).length : Int)) = true := by simp; omega
 rw [if_pos (by rw [hl, show (c :: 61 :: R).take 2 = [c, 61] from rfl, h6]; rfl)]
 rfl
/-- A reserved word. -/
theorem kw_L {u R : Str} (hu : (!(u == []) && letters.contains (u.headD 0) && (u.all fun c => tails.contains c) && lexReservedM u) = true) (hR : stopC R) : Lx u [(2, u)] R := by
 simp only [Bool.and_eq_true, Bool.not_eq_true', beq_eq_false_iff_ne] at hu
 obtain ⟨⟨⟨h1, h2⟩, h3⟩, h4⟩ := hu
 refine Lx.word h1 (letter_blank h2) (fun e => by rw [e] at h2; revert h2; decide) ?_
 rw [word_named h2 h1 (fun c hc => List.all_eq_true.1 h3 c hc) hR, h4]
 rfl
/-- A number. -/
theorem num_L {n : Int} (h0 : 0 ≤ n) (h1 : n ≤ 9223372036854775807) {R : Str} (hR : stopC R) : Lx (Lib.itoa n) [(3, Lib.itoa n)] R := by
 obtain ⟨u, rfl⟩ : ∃ u : Nat, n = (u : Int) := ⟨n.toNat, by omega⟩
 have e0 : Lib.itoa (u : Int) = Lib.decDigits u := by unfold Lib.itoa; rw [if_neg (by omega)]; simp
 have hr := read_num h0 h1
 rw [e0] at hr ⊢
 obtain ⟨c, r, hcr, _⟩ := dec_head u
 have hall := dec_all u
 have hcd : digs.contains c = true := hall c (by rw [hcr]; exact List.mem_cons_self)
 have hda : (digs.all fun c => !(letters.contains c) && !(blanks.contains c) && !(c == 35)) = true := by kernel_rfl
 have hc := List.all_eq_true.1 hda c (by simpa using hcd)
 simp only [Bool.and_eq_true, Bool.not_eq_true', beq_eq_false_iff_ne] at hc
 have hw : wordOf (Lib.decDigits u ++ R) digs = Lib.decDigits u := by rw [wordOf_eq]; exact run_stop hall (stop_digs hR)
 refine Lx.word (by rw [hcr]; simp) (by rw [hcr]; exact hc.1.2) (by rw [hcr]; exact hc.2) ?_
 have h1' : ¬ (decide (0 < runM ((Lib.decDigits u ++ R).take 1) letters) = true) := by
  rw [hcr, show (c :: r ++ R).take 1 = [c] from rfl, run_one, hc.1.1]; simp
 have h2' : decide (0 < runM ((Lib.decDigits u ++ R).take 1) digs) = true := by
  rw [hcr, show (c :: r ++ R).take 1 = [c] from rfl, run_one, hcd]; simp
 unfold wordM
 rw [if_neg h1', if_pos h2']
 unfold numberM
 rw [hw, hr]
/-- What a node asks of its kids, and what it is. -/
structure Sign where
 kids : List Int
 own : Int
def markedM (s : Str) : Sign := if (s == [111, 114]) || (s == [97, 110, 100]) then ⟨[3, 3], 3⟩ else if (((((s == [61]) || (s == [33, 61])) || (s == [60])) || (s == [60, 61])) || (s == [62])) || (s == [62, 61]) then ⟨[-1, -1], 3⟩ else if s == [38] then ⟨[2, 2], 2⟩ else ⟨[1, 1], 1⟩
def calledM (s : Str) : Sign := if (s == [108, 101, 110]) || (s == [110, 117, 109]) then ⟨[2], 1⟩ else if s == [115, 116, 114] then ⟨[1], 2⟩ else if (s == [108, 101, 102, 116]) || (s == [114, 105, 103, 104, 116]) then ⟨[2, 1], 2⟩ else if s == [105, 115, 110, 117, 108, 108] then ⟨[-2], 3⟩ else if s == [110, 118, 108] then ⟨[-1, -1], -1⟩ else ⟨[3, -1, -1], -1⟩
def signN (o : Int) (t : Str) : Sign := if o == 3 then ⟨[1], 1⟩ else if o == 4 then ⟨[3], 3⟩ else if o == 5 then markedM t else calledM t
def meetM (a b : Int) : Int × Bool := if a == 0 then (b, true) else if (b == 0) || (a == b) then (a, true) else (0, false)
def fitK : List Int → List Int → Int → Option Int
 | _, [], c => some c
 | [], _ :: _, _ => none
 | w :: ws, k :: ks, c => if w == -2 then fitK ws ks c else if w == -1 then (if (meetM c k).2 then fitK ws ks (meetM c k).1 else none) else if (meetM w k).2 then fitK ws ks c else none
def fitM (s : Sign) (ks : List Int) : Int × Int := match fitK s.kids ks 0 with | none => (0, 10) | some c => if s.own == -1 then (c, 0) else (s.own, 0)
def nameK (c : List Col) (t : Str) : Int × Int := if findM t c < 0 then (0, 9) else ((c.getD (findM t c).toNat ⟨[], 0⟩).kind, 0)
def kindN (c : List Col) (o : Int) (t : Str) (v : Val) (ks : List (Int × Int)) : Int × Int :=
 if o == 1 then (v.kind, 0) else if o == 2 then nameK c t else match ks.find? (fun q => q.2 != 0) with | some q => (0, q.2) | none => fitM (signN o t) (ks.map (·.1))
mutual
def kindE (c : List Col) : Expr → Int × Int
 | .mk o t v k => kindN c o t v (kindL c k)
def kindL (c : List Col) : List Expr → List (Int × Int)
  | [] => []
  | e :: r => kindE c e :: kindL c r
 end
/-- infer.Kind. -/
def kindR (e : Expr) (c : List Col) : Int × Int := if (!(exprRightM e)) || !(colsP c) then (0, 1) else kindE c e
/-! The signs have as many as the nodes have kids. -/
/-! More columns. -/
/-- Columns that know more. -/
def Knows (c c' : List Col) : Prop := ∀ t, (nameK c t).2 = 0 → nameK c' t = nameK c t
/-! A tree in a column's place. -/
set_option maxRecDepth 4000
abbrev pr (l : List Tok) (S : PS) : AObj := .cells 112 [.slice false 3 (l.map tokA), intA (S.i : Int), intA (S.nest : Int), intA S.code, intA S.at_]
theorem low_pr {n : Nat} {l : List Tok} {S : PS} : ObjLow n (pr l S) := by
 show ∀ y ∈ [AV.slice false 3 (l.map tokA), intA (S.i : Int), intA (S.nest : Int), intA S.code, intA S.at_], Low n y
 intro y hy
 simp only [List.mem_cons, List.not_mem_nil, or_false] at hy
 rcases hy with rfl | rfl | rfl | rfl | rfl
 ·simp [or_imp, forall_and]
 all_goals simp
theorem leafX_le (o : Int) (t : Str) (v : Val) : Le (.agg [intA o, strA t, intA v.kind, intA v.n, strA v.s, .nil]) (exprA (.mk o t v [])) := by
 rw [exprA_eq]
 refine .agg _ _ rfl (by simp [AV.one, Value.oneCell', sv]) fun i y y' h1 h2 => ?_
 match i with
 | 0 => simp at h1 h2; subst h1; subst h2; exact .inl rfl
 | 1 => simp at h1 h2; subst h1; subst h2; exact .inl rfl
 | 2 => simp at h1 h2; subst h1; subst h2; exact .inl rfl
 | 3 => simp at h1 h2; subst h1; subst h2; exact .inl rfl
 | 4 => simp at h1 h2; subst h1; subst h2; exact .inl rfl
 | 5 => simp at h1 h2; subst h1; subst h2; exact .inr ⟨rfl, 6, rfl⟩
 | i + 6 => simp at h1
theorem nullX_le : Le (.agg [intA 0, strA [], intA 0, intA 0, strA [], .nil]) (exprA nullX) := leafX_le 0 [] noV
theorem c167 (l : List Tok) (S : PS) (o : Nat) (Hp : List AObj) (ho : Hp[o]? = some (pr l S)) (hi : S.i < l.length) : AFun Tryz.prog 167 [.ptr o 0] Hp (tokA (tokAt l S.i)) := by
 refine ACall.body [.cell 2 52] [0] Tryz.func167 Tryz.ntmps167 (fun d => ?_)
 refine Z71 ?_;refine W.draw [0, 1, 3, 7, 0, 16, 48, 112, 255, 511, 1023] 8 Tryzmixed (by kernel_rfl) ?_;refine Z245 ?_;refine Z62 ?_;refine D.loadUp jA ho ?_;refine D.tail ?_;refine R.indexAddr (S.i) (tokA (tokAt l S.i)) jU jS (getTok hi) ?_;refine Z272 ?_;exact Z176

theorem c140 (l : List Tok) (S : PS) (of : Str) (o : Nat) (Hp : List AObj) (ho : Hp[o]? = some (pr l S)) (hi : S.i < l.length) (hl : TokEnd l) (hof : of.length ≤ 1048576) : AFun Tryz.prog 140 [.ptr o 0, strA of] Hp (boolA (isM l of S)) := by
 refine ACall.body [.tmp 4] [0, 1] Tryz.func140 Tryz.ntmps140 (fun d => ?_)
 refine Z123 ?_;refine Z0 ?_;refine Z125 ?_;refine R.fin [1, 5] ?_;refine Z219 ?_;refine Z98 ?_;refine G.fieldAddrPtr (fo := 0) jU Tryz.sizeOf3 ?_;refine G.loadOwn jA ?_;refine G.eql ?_;refine Z227 ?_;refine G.fieldAddrPtr (fo := 1) jU Tryz.sizeOf9 ?_;refine G.loadOwn jA ?_;refine G.move ?_;refine G.call Tryz.call100 (fun hB => c100 (tokAt l S.i).text of (hl.text _) hof _) ?_;exact Z237

theorem c141 (l : List Tok) (S : PS) (o : Nat) (Hp : List AObj) (ho : Hp[o]? = some (pr l S)) (hi : S.i < l.length) (hll : l.length ≤ 1048576) : ACall Tryz.prog 141 [.ptr o 0] Hp (fun r H' => r = tokA (tokAt l S.i) ∧ H' = Hp.set o (pr l (nextM S))) := by
 refine ACall.body [.cell 2 52] [0] Tryz.func141 Tryz.ntmps141 (fun d => ?_)
 refine Z71 ?_;refine Z0 ?_;refine Z125 ?_;refine Z162 ?_;refine Z39 ?_;refine Z229 ?_;refine Z39 ?_
 refine R.storeUp jS ho ?_ ?_
 ·simp
 refine R.fin [2, 3] ?_;refine Z36 ?_;exact Z176

theorem c82 (l : List Tok) (S : PS) (e a : Int) (o : Nat) (Hp : List AObj) (ho : Hp[o]? = some (pr l S)) : ACall Tryz.prog 82 [.ptr o 0, intA e, intA a] Hp (fun r H' => r = exprA nullX ∧ H' = Hp.set o (pr l (failM e a S))) := by
 refine ACall.body [.cell 6 28] [0, 1, 2] Tryz.func82 Tryz.ntmps82 (fun d => ?_)
 refine Z35 ?_;refine R.fin [0, 1, 2, 6] ?_;refine Z10 ?_;refine Z142 ?_;refine R.loadUp jA ho ?_;refine R.eql ?_;refine R.fin [0, 1, 2, 6, 12] ?_
 refine W.cond (fun ht12 => ?_) (fun ht12 => ?_)
 ·have e : failM e a S = ⟨S.i, S.nest, e, a⟩ := if_pos ht12
  refine Z6 ?_;refine Z91 ?_;refine Z271 ?_;refine R.nilPtr ?_;refine R.fieldAddrPtr (fo := 3) jU Tryz.sizeOf33 ?_
  refine R.storeUp jS ho ?_ ?_
  ·simp
  refine R.fin [6] ?_;refine K.thN ?_;refine Z116 ?_;refine R.wk 19 _ nullX_le ?_;refine Z249 ?_;exact K.fin (V.one (V.cellN jA jS)) ⟨rfl, by rw [e]⟩ (hlow := exprA_low _ nullX)
 have e : failM e a S = S := if_neg (by rw [ht12]; simp)
 refine Z3 ?_;refine Z116 ?_;refine R.wk 19 _ nullX_le ?_;refine Z249 ?_;exact K.fin (V.one (V.cellN jA jS)) ⟨rfl, by rw [e]; exact (set_same ho).symm⟩ (hlow := exprA_low _ nullX)

theorem c205 (v : Val) (Hp : List AObj) : AFun Tryz.prog 205 [valA v] Hp (exprA (valX v)) := by
 refine ACall.body [.cell 2 28] [0] Tryz.func205 Tryz.ntmps205 (fun d => ?_)
 refine Z25 ?_;refine R.alloc jZ ?_;refine R.fin [1, 2] ?_;refine Z72 ?_;refine Z278 ?_;refine R.wk 4 _ (leafX_le 1 [] v) ?_;refine Z32 ?_;exact K.fin (V.one (V.cellN jA jS)) ⟨rfl, rfl⟩ (hlow := exprA_low _ (valX v))

theorem c207 (l : List Tok) (S : PS) (s : Str) (o : Nat) (Hp : List AObj) (ho : Hp[o]? = some (pr l S)) (hi : S.i < l.length) (hll : l.length ≤ 1048576) : ACall Tryz.prog 207 [.ptr o 0, strA s] Hp (fun r H' => r = .v (.tuple #[]) ∧ H' = Hp.set o (pr l (wantM l s S))) := by
 refine ACall.body [] [0, 1] Tryz.func207 Tryz.ntmps207 (fun d => ?_)
 refine Z10 ?_;refine Z142 ?_;refine R.loadUp jA ho ?_;refine R.neq ?_;refine R.fin [0, 1, 10] ?_
 refine W.cond (fun ht10 => ?_) (fun ht10 => ?_)
 ·have e : wantM l s S = S := if_pos ht10
  refine Z23 ?_;exact K.fin .nores (hp := ⟨rfl, by rw [e]; exact (set_same ho).symm⟩)
 have e0 : ¬ (S.code != 0) = true := by rw [ht10]; simp
 refine Z3 ?_;refine Z10 ?_;refine Z125 ?_;refine R.fin [0, 1, 4] ?_;refine Z219 ?_;refine R.neq ?_;refine Z257 ?_;refine G.fieldAddrPtr (fo := 1) jU Tryz.sizeOf9 ?_;refine G.loadOwn jA ?_;refine G.move ?_;refine G.sneq ?_;refine Z253 ?_;refine R.fin [0, 4, 21] ?_
 refine W.cond (fun ht21 => ?_) (fun ht21 => ?_)
 ·have e : wantM l s S = failM 8 (tokAt l S.i).at_ S := by unfold wantM; rw [if_neg e0, if_pos ht21]
  refine Z0 ?_;refine Z205 ?_;refine R.fin [] ?_;refine Z23 ?_;exact K.fin .nores (hp := ⟨rfl, by rw [e]⟩)
 have e : wantM l s S = nextM S := by unfold wantM; rw [if_neg e0, if_neg (by rw [ht21]; simp)]
 refine Z210 ?_;refine Z39 ?_;refine Z229 ?_;refine Z39 ?_
 refine R.storeUp jS ho ?_ ?_
 ·simp
 refine R.fin [] ?_;exact K.finN .nores (hp := ⟨rfl, by rw [e]; rfl⟩)

/-- The contract of one of the parser's functions. -/
def PC (g : FuncId) (l : List Tok) (f : PS → Expr × PS) (n : Nat) : Prop := ∀ (o : Nat) (Hp : List AObj) (S : PS), Hp[o]? = some (pr l S) → S.i < l.length → S.nest = n → ACall Tryz.prog g [.ptr o 0] Hp (fun r H' => r = exprA (f S).1 ∧ H' = Hp.set o (pr l (f S).2))
abbrev zero69 : AObj := .cells 28 [intA 0, strA [], intA 0, intA 0, strA [], .nil]
theorem low_z69 {n : Nat} : ObjLow n zero69 := by
 show ∀ y ∈ [intA 0, strA [], intA 0, intA 0, strA [], AV.nil], Low n y
 simp
theorem low_e69 {n : Nat} (e : Expr) : ObjLow n (.cells 28 (exprC e)) := by
 have h := exprA_low n e
 rw [exprA_eq] at h
 show ∀ y ∈ exprC e, Low n y
 intro y hy
 cases h with
 | agg _ h => exact h y hy
theorem c169 (l : List Tok) (S : PS) (a : Int) (g : FuncId) (first caps : List AV) (x : Expr) (S2 : PS) (o : Nat) (Hp Hx : List AObj) (ho : Hp[o]? = some (pr l S)) (hnl : S.nest ≤ 1048576) (hgc : ∀ args w, (callFunc g args).run Tryz.prog w = .ok (.enter g args) w) (hxl : Hx.length = Hp.length) (hxo : Hx[o]? = some (pr l S2)) (hn2 : S2.nest = S.nest + 1) (hlow : (∀ y ∈ Hp.set o (pr l (deepM S)), ObjLow Hp.length y) → ∀ y ∈ Hx, ObjLow Hp.length y) (hcf : S.nest ≠ 30 → ∀ own, ACall Tryz.prog g (first ++ caps) (Hp.set o (pr l (deepM S)) ++ own) (fun y H' => y = exprA x ∧ H' = Hx ++ own)) : ACall Tryz.prog 169 [.ptr o 0, intA a, .fn (.func g) first caps] Hp (fun r H' => (S.nest = 30 → r = exprA nullX ∧ H' = Hp.set o (pr l (failM 18 a S))) ∧ (S.nest ≠ 30 → r = exprA x ∧ H' = Hx.set o (pr l (riseM S2)))) := by
 refine ACall.body [.cell 6 28] [0, 1, 2] Tryz.func169 Tryz.ntmps169 (fun d => ?_)
 refine Z35 ?_;refine R.fin [0, 1, 2, 6] ?_;refine Z10 ?_;refine Z96 ?_;refine R.loadUp jA ho ?_;refine R.eql ?_;refine R.fin [0, 1, 2, 6, 12] ?_
 refine W.cond (fun ht12 => ?_) (fun ht12 => ?_)
 ·have hn30 : S.nest = 30 := by have := ht12; simp at this; omega
  refine Z47 ?_;refine R.callUp Tryz.call82 ho (by simp) low_pr (c82 l S 18 a o _ (get_up ho)) ?_;refine Z260 ?_;refine R.fin [6] ?_;refine Z23 ?_;exact K.fin (V.one (V.cellN jA jS)) ⟨fun _ => ⟨by rw [exprA_eq], rfl⟩, fun h => absurd hn30 h⟩ (hlow := by have := exprA_low Hp.length nullX; rw [exprA_eq] at this; simpa using this)
 have hn30 : S.nest ≠ 30 := by have := ht12; simp at this; omega
 refine Z95 ?_;refine Z96 ?_;refine Z229 ?_;refine Z96 ?_
 refine R.storeUp jS ho ?_ ?_
 ·simp
 refine R.fin [0, 2, 6] ?_;refine Z0 ?_
 refine R.callVX (up' := Hx) (own' := [zero69]) hgc (hcf hn30 [zero69]) (by simpa using hxl) (by rw [List.length_set]; exact hlow) ?_
 rw [← hxl]
 refine Z20 ?_;refine R.fin [0, 6, 7] ?_;refine Z0 ?_;refine Z96 ?_;refine R.loadUp jA hxo ?_;refine R.sub64 ?_;refine Z96 ?_
 refine R.storeUp jS hxo ?_ ?_
 ·simp
 refine R.fin [6, 7] ?_;refine Z36 ?_;refine Z249 ?_;exact K.fin (V.one (V.cellN jA jS)) ⟨fun h => absurd h hn30, fun _ => ⟨by rw [exprA_eq], by rw [show ((S2.nest : Int) - 1) = ((riseM S2).nest : Int) by show _ = ((S2.nest - 1 : Nat) : Int); omega]; rfl⟩⟩ (hlow := by have := exprA_low Hx.length x; rw [exprA_eq] at this; simpa using this)

theorem bin_cells (t : Str) (a b : Expr) : exprC (binX t a b) = [intA 5, .v (sv t), intA 0, intA 0, strA [], .slice false 6 [exprA a, exprA b]] := rfl
theorem low_bin {n : Nat} (t : Str) (a b : Expr) : ObjLow n (.cells 28 [intA 5, .v (sv t), intA 0, intA 0, strA [], .slice false 6 [exprA a, exprA b]]) := low_e69 (binX t a b)
theorem low_set {n : Nat} {U : List AObj} {i : Nat} {x : AObj} (h : ∀ y ∈ U, ObjLow n y) (hx : ObjLow n x) : ∀ y ∈ U.set i x, ObjLow n y := by
 intro y hy
 rcases List.mem_or_eq_of_mem_set hy with h1 | h1
 ·exact h y h1
 rw [h1]; exact hx
/-- within, with a method's value. -/
theorem c227m {g : FuncId} (hgc : ∀ args w, (callFunc g args).run Tryz.prog w = .ok (.enter g args) w) (l : List Tok) (S : PS) (a : Int) (f : PS → Expr × PS) (o : Nat) (Hp : List AObj) (ho : Hp[o]? = some (pr l S)) (hi : S.i < l.length) (hnl : S.nest ≤ 30) (hf : S.nest ≠ 30 → Good l (S.nest + 1) f) (hcf : S.nest ≠ 30 → PC g l f (S.nest + 1)) :
  ACall Tryz.prog 169 [.ptr o 0, intA a, .fn (.func g) [.ptr o 0] []] Hp (fun r H' => r = exprA (withinM a f S).1 ∧ H' = Hp.set o (pr l (withinM a f S).2)) := by
 have hlt := (List.getElem?_eq_some_iff.1 ho).1
 by_cases h30 : S.nest = 30
 ·refine (c169 l S a g [.ptr o 0] [] nullX (deepM S) o Hp (Hp.set o (pr l (deepM S))) ho (by omega) hgc (by simp) (by simp [hlt]) rfl (fun h => h) (fun h => absurd h30 h)).mono fun r H' h => ?_
  have e : withinM a f S = (nullX, failM 18 a S) := if_pos (by rw [h30]; rfl)
  rw [e]
  exact h.1 h30
 have hq := hf h30 (deepM S) hi rfl
 refine (c169 l S a g [.ptr o 0] [] (f (deepM S)).1 (f (deepM S)).2 o Hp (Hp.set o (pr l (f (deepM S)).2)) ho (by omega) hgc (by simp) (by simp [hlt]) hq.nest (fun h y hy => ?_) (fun _ own => ?_)).mono fun r H' h => ?_
 ·rcases List.mem_or_eq_of_mem_set hy with h1 | h1
  ·obtain ⟨i, hi', rfl⟩ := List.getElem_of_mem h1
   by_cases hio : i = o
   ·subst hio
    have : Hp[i] = pr l S := by rw [List.getElem?_eq_getElem hi'] at ho; injection ho
    rw [this]; exact low_pr
   refine h _ ?_
   rw [List.mem_iff_getElem?]
   exact ⟨i, by rw [List.getElem?_set_ne (Ne.symm hio), List.getElem?_eq_getElem hi']⟩
  rw [h1]; exact low_pr
 ·have hg : (Hp.set o (pr l (deepM S)) ++ own)[o]? = some (pr l (deepM S)) := get_up (by simp [hlt])
  refine (hcf h30 o (Hp.set o (pr l (deepM S)) ++ own) (deepM S) hg hi rfl).mono fun r H' h => ⟨h.1, h.2.trans ?_⟩
  rw [List.set_append_left _ _ (by simpa using hlt), List.set_set]
 have e : withinM a f S = ((f (deepM S)).1, riseM (f (deepM S)).2) := if_neg (by
  show ¬ (((S.nest : Int) == 30) = true)
  simp
  omega)
 rw [e]
 obtain ⟨h1, h2⟩ := h.2 h30
 exact ⟨h1, by rw [h2, List.set_set]⟩
theorem c109 {g : FuncId} (hgc : ∀ args w, (callFunc g args).run Tryz.prog w = .ok (.enter g args) w) (l : List Tok) (S : PS) (of : Str) (hof : of.length ≤ 1048576) (f : PS → Expr × PS) (o : Nat) (Hp : List AObj) (ho : Hp[o]? = some (pr l S)) (hi : S.i < l.length) (hl : TokEnd l) (hll : l.length ≤ 1048576) (hf : Good l S.nest f) (hcf : PC g l f S.nest) : ACall Tryz.prog 109 [.ptr o 0, strA of, .fn (.func g) [.ptr o 0] []] Hp (fun r H' => r = exprA (leftM l of f S).1 ∧ H' = Hp.set o (pr l (leftM l of f S).2)) := by
 have holt := (List.getElem?_eq_some_iff.1 ho).1
 refine ACall.body [.cell 6 28] [0, 1, 2] Tryz.func109 Tryz.ntmps109 (fun d => ?_)
 refine Z35 ?_;refine R.fin [0, 1, 2, 6] ?_;refine Z0 ?_;refine R.callVUp hgc ho (by simp) low_pr (hcf o _ S (get_up ho) hi rfl) ?_;refine Z20 ?_;refine R.fin [0, 1, 2, 6, 7] ?_;refine W.seq ?_
 refine AW.loopC (α := Expr × PS) (fun r => ⟨32, setF 0 (.ptr o 0) (setF 1 (strA of) (setF 2 (.fn (.func g) [.ptr o 0] []) (setF 6 (.ptr (oid Hp.length 0) 0) (setF 7 (.ptr (oid Hp.length 1) 0) (fun _ => .any))))), Hp.set o (pr l r.2), [.cells 28 [intA 0, strA [], intA 0, intA 0, strA [], .nil], .cells 28 (exprC r.1)], [], none⟩) (fun r => LeftAt l of f S r) (fun r => l.length - r.2.i) (f S) (.start (hf S hi rfl)) (StLe.of_eq (by simp)) rfl (fun r hx => ?_)
 refine Z10 ?_;refine Z142 ?_;refine R.loadUp jA (getset ho) ?_;refine R.eql ?_;refine Z134 ?_;refine G.call Tryz.call140 (fun hB => c140 l r.2 of o _ (get_up (getset ho)) hx.fact.lt hl hof) ?_;refine R.pickAnd ?_;refine R.fin [0, 1, 2, 6, 7, 21] ?_
 refine W.cond (fun ht21 => ?_) (fun ht21 => ?_)
 ·have hon := hx.on hl ht21 hf
  have hle := hon.2.1.le
  have hlt0 := hx.fact.lt
  have hU1 : (Hp.set o (pr l r.2)).set o (pr l (nextM r.2)) = Hp.set o (pr l (nextM r.2)) := List.set_set ..
  refine Z246 ?_;refine Z0 ?_;refine R.callUp Tryz.call141 (getset ho) (by simp) low_pr (c141 l r.2 o _ (get_up (getset ho)) hx.fact.lt hll) ?_;refine Z20 ?_;refine R.fin [0, 1, 2, 6, 7, 8] ?_;refine W.drawY0 [0, 1, 0, 0, 8, 28, 63, 127] [4] [.q 4 [] [], .s [28] (some 0) [] [], .q 1 [0] []] (fun B => Hp.set o (if B 0 = true then pr l (f (nextM r.2)).2 else pr l (nextM r.2))) (fun _ => [.cells 28 [intA 0, strA [], intA 0, intA 0, strA [], .nil], .cells 28 (exprC r.1), .cells 52 [intA (tokAt l r.2.i).kind, strA (tokAt l r.2.i).text, intA (tokAt l r.2.i).at_]]) Tryzmixed (by kernel_rfl) (by simp [List.set_set]) rfl (fun B => by simp) ?_
  apply Y.q
  case h1 =>
   intro B hT hF
   refine D.fieldAddrPtr (fo := 1) jU Tryz.sizeOf9 ?_;refine D.loadOwn jA ?_;refine D.loadOwnN jA jS ?_;refine D.move ?_;exact Z269
  case hTF => decide
  refine Y.callVUp (r := exprA (f (nextM r.2)).1) (o := o) (x0 := pr l (nextM r.2)) (x := pr l (f (nextM r.2)).2) hgc (fun B hT hF hB => ⟨by simp only [hB]; exact getset ho, by simp [upd], rfl, low_pr, ?_⟩) ?_
  ·simp only [hB]
   exact hcf o _ (nextM r.2) (get_up (getset ho)) hon.1 hx.fact.nest
  apply Y.q
  case h1 =>
   intro B hT hF
   exact Z103
  case hTF => decide
  refine Y.tail (tn := [4]) (U := Hp.set o (pr l (f (nextM r.2)).2)) ?_;refine Z278 ?_;refine Z260 ?_;refine R.fin [0, 1, 2, 6, 7] ?_;refine K.blN ?_
  refine K.lpN (binX (tokAt l r.2.i).text r.1 (f (nextM r.2)).1, (f (nextM r.2)).2) hon.2.2 (by show l.length - (f (nextM r.2)).2.i < l.length - r.2.i; have : r.2.i + 1 ≤ (f (nextM r.2)).2.i := hle; omega) ?_
  simp only [bin_cells]
  have hlow2 := fun n => low_bin (n := n) (tokAt l r.2.i).text r.1 (f (nextM r.2)).1
  simp only [exprA_eq] at hlow2 ⊢
  exact StCut.take (fun _ => .refl _) (by repeat (first | exact lowF_any | refine lowF_set (by simp [oid] <;> omega) ?_)) (by intro y hy; rcases List.mem_cons.1 hy with rfl | hy; exact low_z69; rw [List.mem_singleton.1 hy]; exact hlow2 _) (by simp)
 have hout := hx.out (by rw [ht21]; simp)
 refine Z87 ?_;refine Z36 ?_;refine Z249 ?_;exact K.fin (V.one (V.cellN jA jS)) ⟨by rw [hout, exprA_eq], by rw [hout]⟩ (hlow := by have := exprA_low (Hp.set o (pr l r.2)).length r.1; rw [exprA_eq] at this; simpa using this)

theorem c80 (l : List Tok) (S : PS) (f : PS → Expr × PS) (o : Nat) (Hp : List AObj) (ho : Hp[o]? = some (pr l S)) (hi : S.i < l.length) (hl : TokEnd l) (hll : l.length ≤ 1048576) (hf : Good l S.nest f) (hcf : PC 110 l f S.nest) : ACall Tryz.prog 80 [.ptr o 0] Hp (fun r H' => r = exprA (leftM l orT f S).1 ∧ H' = Hp.set o (pr l (leftM l orT f S).2)) := by
 refine ACall.body [.cell 2 28] [0] Tryz.func80 Tryz.ntmps80 (fun d => ?_)
 refine Z71 ?_;refine Z47 ?_;refine R.makeFunc ?_;refine R.callUp Tryz.call109 ho (by simp) low_pr (c109 Tryz.call110 l S orT (by decide) f o _ (get_up ho) hi hl hll hf hcf) ?_;refine Z32 ?_;exact K.fin (V.one (V.cellN jA jS)) ⟨by rw [exprA_eq], rfl⟩ (hlow := by have := exprA_low Hp.length (leftM l orT f S).1; rw [exprA_eq] at this; simpa using this)

theorem c110 (l : List Tok) (S : PS) (f : PS → Expr × PS) (o : Nat) (Hp : List AObj) (ho : Hp[o]? = some (pr l S)) (hi : S.i < l.length) (hl : TokEnd l) (hll : l.length ≤ 1048576) (hf : Good l S.nest f) (hcf : PC 142 l f S.nest) : ACall Tryz.prog 110 [.ptr o 0] Hp (fun r H' => r = exprA (leftM l andT f S).1 ∧ H' = Hp.set o (pr l (leftM l andT f S).2)) := by
 refine ACall.body [.cell 2 28] [0] Tryz.func110 Tryz.ntmps110 (fun d => ?_)
 refine Z71 ?_;refine Z47 ?_;refine R.makeFunc ?_;refine R.callUp Tryz.call109 ho (by simp) low_pr (c109 Tryz.call142 l S andT (by decide) f o _ (get_up ho) hi hl hll hf hcf) ?_;refine Z32 ?_;exact K.fin (V.one (V.cellN jA jS)) ⟨by rw [exprA_eq], rfl⟩ (hlow := by have := exprA_low Hp.length (leftM l andT f S).1; rw [exprA_eq] at this; simpa using this)

theorem c189 (l : List Tok) (S : PS) (f : PS → Expr × PS) (o : Nat) (Hp : List AObj) (ho : Hp[o]? = some (pr l S)) (hi : S.i < l.length) (hl : TokEnd l) (hll : l.length ≤ 1048576) (hf : Good l S.nest f) (hcf : PC 200 l f S.nest) : ACall Tryz.prog 189 [.ptr o 0] Hp (fun r H' => r = exprA (leftM l sumT f S).1 ∧ H' = Hp.set o (pr l (leftM l sumT f S).2)) := by
 refine ACall.body [.cell 2 28] [0] Tryz.func189 Tryz.ntmps189 (fun d => ?_)
 refine Z71 ?_;refine Z47 ?_;refine R.makeFunc ?_;refine R.callUp Tryz.call109 ho (by simp) low_pr (c109 Tryz.call200 l S sumT (by decide) f o _ (get_up ho) hi hl hll hf hcf) ?_;refine Z32 ?_;exact K.fin (V.one (V.cellN jA jS)) ⟨by rw [exprA_eq], rfl⟩ (hlow := by have := exprA_low Hp.length (leftM l sumT f S).1; rw [exprA_eq] at this; simpa using this)

theorem c200 (l : List Tok) (S : PS) (f : PS → Expr × PS) (o : Nat) (Hp : List AObj) (ho : Hp[o]? = some (pr l S)) (hi : S.i < l.length) (hl : TokEnd l) (hll : l.length ≤ 1048576) (hf : Good l S.nest f) (hcf : PC 202 l f S.nest) : ACall Tryz.prog 200 [.ptr o 0] Hp (fun r H' => r = exprA (leftM l prodT f S).1 ∧ H' = Hp.set o (pr l (leftM l prodT f S).2)) := by
 refine ACall.body [.cell 2 28] [0] Tryz.func200 Tryz.ntmps200 (fun d => ?_)
 refine Z71 ?_;refine Z47 ?_;refine R.makeFunc ?_;refine R.callUp Tryz.call109 ho (by simp) low_pr (c109 Tryz.call202 l S prodT (by decide) f o _ (get_up ho) hi hl hll hf hcf) ?_;refine Z32 ?_;exact K.fin (V.one (V.cellN jA jS)) ⟨by rw [exprA_eq], rfl⟩ (hlow := by have := exprA_low Hp.length (leftM l prodT f S).1; rw [exprA_eq] at this; simpa using this)

/-- What is so of the functions one nest deeper. -/
structure DeepC (l : List Tok) (Dv : Fam) (n : Nat) : Prop where
 ei : n ≠ 30 → Good l (n + 1) Dv.ei ∧ PC 80 l Dv.ei (n + 1)
 no : n ≠ 30 → Good l (n + 1) Dv.no ∧ PC 142 l Dv.no (n + 1)
 ne : n ≠ 30 → Good l (n + 1) Dv.ne ∧ PC 202 l Dv.ne (n + 1)
theorem one_agg (op : Int) (x : Expr) : exprA (oneX op x) = .agg [intA op, strA [], intA 0, intA 0, strA [], .slice false 6 [exprA x]] := by rw [exprA_eq]; rfl
theorem bin_agg (t : Str) (a b : Expr) : exprA (binX t a b) = .agg [intA 5, .v (sv t), intA 0, intA 0, strA [], .slice false 6 [exprA a, exprA b]] := by rw [exprA_eq]; rfl
theorem low_agg {n : Nat} (e : Expr) : Low n (.agg [.v (.int .i64 e.op), .v (sv e.text), .v (.int .i64 e.val.kind), .v (.int .i64 e.val.n), .v (sv e.val.s), .slice false 6 (e.kids.map exprA)]) := by
 have := exprA_low n e
 rwa [exprA_eq] at this
theorem c202 (l : List Tok) (S : PS) (Dv : Fam) (o : Nat) (Hp : List AObj) (ho : Hp[o]? = some (pr l S)) (hi : S.i < l.length) (hl : TokEnd l) (hll : l.length ≤ 1048576) (hnl : S.nest ≤ 30) (hd : DeepC l Dv S.nest) (hc : PC 204 l (atomM l Dv) S.nest) : ACall Tryz.prog 202 [.ptr o 0] Hp (fun r H' => r = exprA (negM l Dv S).1 ∧ H' = Hp.set o (pr l (negM l Dv S).2)) := by
 refine ACall.body [.cell 2 28] [0] Tryz.func202 Tryz.ntmps202 (fun d => ?_)
 refine Z71 ?_;refine Z10 ?_;refine R.call Tryz.call140 (c140 l S negT o _ (get_up ho) hi hl (by decide)) ?_;refine R.not ?_;refine R.fin [0, 2, 6] ?_
 refine W.cond (fun ht6 => ?_) (fun ht6 => ?_)
 ·have e : negM l Dv S = atomM l Dv S := if_pos ht6
  refine Z0 ?_;refine R.callUp Tryz.call204 ho (by simp) low_pr (hc o _ S (get_up ho) hi rfl) ?_;refine Z32 ?_;exact Z92
 have his : isM l negT S = true := by simpa using ht6
 have hi1 : (nextM S).i < l.length := hl.stepIs hi his
 have e : negM l Dv S = (oneX 3 (withinM (tokAt l S.i).at_ Dv.ne (nextM S)).1, (withinM (tokAt l S.i).at_ Dv.ne (nextM S)).2) := if_neg (by rw [ht6]; simp)
 refine Z3 ?_;refine Z54 ?_;refine Z20 ?_;refine Z162 ?_;refine Z75 ?_;refine Z257 ?_;refine R.makeFunc ?_;refine R.callUp Tryz.call169 (getset ho) (by simp) low_pr (c227m Tryz.call202 l (nextM S) (tokAt l S.i).at_ Dv.ne o _ (get_up (getset ho)) hi1 hnl (fun h => (hd.ne h).1) (fun h => (hd.ne h).2)) ?_;refine Z270 ?_;refine Z128 ?_;exact K.fin (V.one (V.cellN jA jS)) ⟨by rw [e, one_agg]; simp only [exprA_eq], by rw [e, List.set_set]⟩ (hlow := by have := exprA_low Hp.length (oneX 3 (withinM (tokAt l S.i).at_ Dv.ne (nextM S)).1); rw [one_agg] at this; simp only [exprA_eq] at this; simpa only [List.length_set] using this)

theorem c142 (l : List Tok) (S : PS) (Dv : Fam) (o : Nat) (Hp : List AObj) (ho : Hp[o]? = some (pr l S)) (hi : S.i < l.length) (hl : TokEnd l) (hll : l.length ≤ 1048576) (hnl : S.nest ≤ 30) (hd : DeepC l Dv S.nest) (hc : PC 168 l (compareM l Dv) S.nest) : ACall Tryz.prog 142 [.ptr o 0] Hp (fun r H' => r = exprA (notM l Dv S).1 ∧ H' = Hp.set o (pr l (notM l Dv S).2)) := by
 refine ACall.body [.cell 2 28] [0] Tryz.func142 Tryz.ntmps142 (fun d => ?_)
 refine Z71 ?_;refine Z10 ?_;refine R.call Tryz.call140 (c140 l S notT o _ (get_up ho) hi hl (by decide)) ?_;refine R.not ?_;refine R.fin [0, 2, 6] ?_
 refine W.cond (fun ht6 => ?_) (fun ht6 => ?_)
 ·have e : notM l Dv S = compareM l Dv S := if_pos ht6
  refine Z0 ?_;refine R.callUp Tryz.call168 ho (by simp) low_pr (hc o _ S (get_up ho) hi rfl) ?_;refine Z32 ?_;exact Z92
 have his : isM l notT S = true := by simpa using ht6
 have hi1 : (nextM S).i < l.length := hl.stepIs hi his
 have e : notM l Dv S = (oneX 4 (withinM (tokAt l S.i).at_ Dv.no (nextM S)).1, (withinM (tokAt l S.i).at_ Dv.no (nextM S)).2) := if_neg (by rw [ht6]; simp)
 refine Z3 ?_;refine Z54 ?_;refine Z20 ?_;refine Z162 ?_;refine Z75 ?_;refine Z257 ?_;refine R.makeFunc ?_;refine R.callUp Tryz.call169 (getset ho) (by simp) low_pr (c227m Tryz.call142 l (nextM S) (tokAt l S.i).at_ Dv.no o _ (get_up (getset ho)) hi1 hnl (fun h => (hd.no h).1) (fun h => (hd.no h).2)) ?_;refine Z270 ?_;refine Z128 ?_;exact K.fin (V.one (V.cellN jA jS)) ⟨by rw [e, one_agg]; simp only [exprA_eq], by rw [e, List.set_set]⟩ (hlow := by have := exprA_low Hp.length (oneX 4 (withinM (tokAt l S.i).at_ Dv.no (nextM S)).1); rw [one_agg] at this; simp only [exprA_eq] at this; simpa only [List.length_set] using this)

theorem c168 (l : List Tok) (S : PS) (Dv : Fam) (o : Nat) (Hp : List AObj) (ho : Hp[o]? = some (pr l S)) (hi : S.i < l.length) (hl : TokEnd l) (hll : l.length ≤ 1048576) (hnl : S.nest ≤ 30) (hd : DeepC l Dv S.nest) (hg : Good l S.nest (sumM l Dv)) (hc : PC 189 l (sumM l Dv) S.nest) : ACall Tryz.prog 168 [.ptr o 0] Hp (fun r H' => r = exprA (compareM l Dv S).1 ∧ H' = Hp.set o (pr l (compareM l Dv S).2)) := by
 have hq := hg S hi rfl
 refine ACall.body [.cell 2 28] [0] Tryz.func168 Tryz.ntmps168 (fun d => ?_)
 refine Z71 ?_;refine Z0 ?_;refine R.callUp Tryz.call189 ho (by simp) low_pr (hc o _ S (get_up ho) hi rfl) ?_;refine Z20 ?_;refine Z240 ?_;refine Z142 ?_;refine R.loadUp jA (getset ho) ?_;refine R.neq ?_;refine Z18 ?_;refine G.call Tryz.call140 (fun hB => c140 l (sumM l Dv S).2 cmpT o _ (get_up (getset ho)) hq.lt hl (by decide)) ?_;refine G.not ?_;refine Z253 ?_;refine R.fin [0, 2, 3, 17] ?_
 refine W.cond (fun ht17 => ?_) (fun ht17 => ?_)
 ·have e : compareM l Dv S = sumM l Dv S := if_pos ht17
  refine Z36 ?_;refine Z32 ?_;exact Z92
 have his : isM l cmpT (sumM l Dv S).2 = true := by
  have := ht17
  simp only [Bool.or_eq_false_iff, Bool.not_eq_false'] at this
  exact this.2
 have hi1 : (nextM (sumM l Dv S).2).i < l.length := hl.stepIs hq.lt his
 have e : compareM l Dv S = (binX (tokAt l (sumM l Dv S).2.i).text (sumM l Dv S).1 (sumM l Dv (nextM (sumM l Dv S).2)).1, (sumM l Dv (nextM (sumM l Dv S).2)).2) := if_neg (by rw [ht17]; simp)
 refine Z95 ?_;refine R.callUp Tryz.call141 (getset ho) (by simp) low_pr (c141 l (sumM l Dv S).2 o _ (get_up (getset ho)) hq.lt hll) ?_;refine Z20 ?_;refine R.fin [0, 2, 3, 4] ?_;refine W.drawY [0, 1, 0, 0, 8, 28, 63, 127] [4] [.q 4 [] [], .s [25] (some 0) [] [], .q 1 [0] []] (fun B => Hp.set o (if B 0 = true then pr l (sumM l Dv (nextM (sumM l Dv S).2)).2 else pr l (nextM (sumM l Dv S).2))) (fun _ => [.cells 28 [intA 0, strA [], intA 0, intA 0, strA [], .nil], .cells 28 (exprC (sumM l Dv S).1), .cells 52 [intA (tokAt l (sumM l Dv S).2.i).kind, strA (tokAt l (sumM l Dv S).2.i).text, intA (tokAt l (sumM l Dv S).2.i).at_]]) Tryzmixed (by kernel_rfl) (by simp [List.set_set]) rfl (fun B => by simp) ?_
 apply Y.q
 case h1 =>
  intro B hT hF
  refine D.fieldAddrPtr (fo := 1) jU Tryz.sizeOf9 ?_;refine D.loadOwn jA ?_;refine D.loadOwnN jA jS ?_;refine D.move ?_;exact Z269
 case hTF => decide
 refine Y.callUp (r := exprA (sumM l Dv (nextM (sumM l Dv S).2)).1) (o := o) (x0 := pr l (nextM (sumM l Dv S).2)) (x := pr l (sumM l Dv (nextM (sumM l Dv S).2)).2) Tryz.call189 (fun B hT hF hB => ⟨by simp only [hB]; exact getset ho, by simp [upd], rfl, low_pr, ?_⟩) ?_
 ·simp only [hB]
  exact hc o _ (nextM (sumM l Dv S).2) (get_up (getset ho)) hi1 hq.nest
 apply Y.q
 case h1 =>
  intro B hT hF
  exact Z103
 case hTF => decide
 refine Y.tail (tn := [4]) (U := Hp.set o (pr l (sumM l Dv (nextM (sumM l Dv S).2)).2)) ?_;refine Z128 ?_;exact K.fin (V.one (V.cellN jA jS)) ⟨by rw [e, bin_agg]; simp only [exprA_eq], by rw [e]⟩ (hlow := by have := exprA_low Hp.length (binX (tokAt l (sumM l Dv S).2.i).text (sumM l Dv S).1 (sumM l Dv (nextM (sumM l Dv S).2)).1); rw [bin_agg] at this; simp only [exprA_eq] at this; simpa only [List.length_set] using this)

/-- The contract of the parser of calls. -/
def PCall (l : List Tok) (Dv : Fam) (n : Nat) : Prop := ∀ (o : Nat) (Hp : List AObj) (S : PS) (t : Tok), Hp[o]? = some (pr l S) → (nextM S).i < l.length → S.nest = n → t.text.length ≤ 1048576 → isM l opT S = true → ACall Tryz.prog 206 [.ptr o 0, tokA t] Hp (fun r H' => r = exprA (callM l Dv t S).1 ∧ H' = Hp.set o (pr l (callM l Dv t S).2))
theorem null_agg : exprA nullX = .agg [intA 0, strA [], intA 0, intA 0, strA [], .slice false 6 []] := by rw [exprA_eq]; rfl
theorem c204 (l : List Tok) (S : PS) (Dv : Fam) (o : Nat) (Hp : List AObj) (ho : Hp[o]? = some (pr l S)) (hi : S.i < l.length) (hl : TokEnd l) (hll : l.length ≤ 1048576) (hnl : S.nest ≤ 30) (hd : DeepC l Dv S.nest) (hcl : PCall l Dv S.nest) : ACall Tryz.prog 204 [.ptr o 0] Hp (fun r H' => r = exprA (atomM l Dv S).1 ∧ H' = Hp.set o (pr l (atomM l Dv S).2)) := by
 refine ACall.body [.cell 2 28] [0] Tryz.func204 Tryz.ntmps204 (fun d => ?_)
 refine Z71 ?_;refine Z0 ?_;refine Z125 ?_;refine Z240 ?_;refine Z142 ?_;refine R.loadUp jA ho ?_;refine R.neq ?_;refine R.fin [0, 2, 3, 14] ?_
 refine W.cond (fun ht14 => ?_) (fun ht14 => ?_)
 ·have e : atomM l Dv S = (nullX, S) := if_pos ht14
  refine Z116 ?_;refine R.wk 15 _ nullX_le ?_;refine Z32 ?_;refine K.thR ?_;exact K.fin (V.one (V.cellN jA jS)) ⟨by rw [e, exprA_eq], by rw [e]; exact (set_same ho).symm⟩ (hlow := by have := exprA_low Hp.length (nullX); simpa only [exprA_eq, List.length_set] using this)
 have e0 : ¬ (S.code != 0) = true := by rw [ht14]; simp
 refine Z90 ?_;refine Z219 ?_;refine R.eql ?_;refine Z18 ?_;refine G.call Tryz.call140 (fun hB => c140 l S litT o _ (get_up ho) hi hl (by decide)) ?_;refine Z253 ?_;refine Z258 ?_;refine R.fin [0, 2, 3, 16] ?_
 refine W.cond (fun ht16 => ?_) (fun ht16 => ?_)
 ·have e : atomM l Dv S = (valX (readM (tokAt l S.i).text).1, nextM S) := by unfold atomM; rw [if_neg e0, if_pos ht16]
  refine Z54 ?_;refine R.field1 jU Tryz.isAgg9 ?_;refine R.call Tryz.call138 (c138 (tokAt l S.i).text (hl.text _) _) ?_;refine Z86 ?_;refine Z20 ?_;refine Z258 ?_;refine R.fin [2, 4] ?_;refine Z36 ?_;refine R.call Tryz.call205 (c205 (readM (tokAt l S.i).text).1 _) ?_;refine Z32 ?_;refine Z4 ?_;exact K.fin (V.one (V.cellN jA jS)) ⟨by rw [e, exprA_eq], by rw [e]⟩ (hlow := by have := exprA_low Hp.length (valX (readM (tokAt l S.i).text).1); simpa only [exprA_eq, List.length_set] using this)
 have e1 : ¬ (((tokAt l S.i).kind == 3) || isM l litT S) = true := by rw [ht16]; simp
 refine Z219 ?_;refine Z14 ?_;refine R.fin [0, 2, 3, 33] ?_
 refine W.cond (fun ht33 => ?_) (fun ht33 => ?_)
 ·have e : atomM l Dv S = (valX ⟨2, 0, (tokAt l S.i).text.take 200⟩, nextM S) := by unfold atomM; rw [if_neg e0, if_neg e1, if_pos ht33]
  refine Z54 ?_;refine R.field1 jU Tryz.isAgg9 ?_;refine R.call Tryz.call183 (c183 (tokAt l S.i).text _) ?_;refine R.call Tryz.call205 (c205 ⟨2, 0, (tokAt l S.i).text.take 200⟩ _) ?_;refine Z32 ?_;refine Z4 ?_;exact K.fin (V.one (V.cellN jA jS)) ⟨by rw [e, exprA_eq], by rw [e]⟩ (hlow := by have := exprA_low Hp.length (valX ⟨2, 0, (tokAt l S.i).text.take 200⟩); simpa only [exprA_eq, List.length_set] using this)
 have e2 : ¬ ((tokAt l S.i).kind == 4) = true := by rw [ht33]; simp
 refine Z219 ?_;refine Z14 ?_;refine R.fin [0, 2, 3, 42] ?_
 refine W.cond (fun ht42 => ?_) (fun ht42 => ?_)
 ·have hi1 : (nextM S).i < l.length := hl.step hi (by rw [beq_iff_eq] at ht42; rw [ht42]; decide)
  refine Z54 ?_;refine Z240 ?_;refine R.call Tryz.call140 (c140 l (nextM S) opT o _ (get_up (getset ho)) hi1 hl (by decide)) ?_;refine R.fin [0, 2, 3, 49] ?_
  refine W.cond (fun ht49 => ?_) (fun ht49 => ?_)
  ·have e : atomM l Dv S = callM l Dv (tokAt l S.i) (nextM S) := by unfold atomM; rw [if_neg e0, if_neg e1, if_neg e2, if_pos ht42, if_pos ht49]
   have hi2 : (nextM (nextM S)).i < l.length := hl.stepIs hi1 ht49
   refine Z0 ?_;refine Z263 ?_;refine R.callUp Tryz.call206 (getset ho) (by simp) low_pr (hcl o _ (nextM S) (tokAt l S.i) (get_up (getset ho)) hi2 rfl (hl.text _) ht49) ?_;refine Z32 ?_;refine K.thR ?_;refine Z4 ?_;exact K.fin (V.one (V.cellN jA jS)) ⟨by rw [e, exprA_eq], by rw [e, List.set_set]⟩ (hlow := by have := exprA_low Hp.length ((callM l Dv (tokAt l S.i) (nextM S)).1); simpa only [exprA_eq, List.length_set] using this)
  have e : atomM l Dv S = (nameE (tokAt l S.i).text, nextM S) := by unfold atomM; rw [if_neg e0, if_neg e1, if_neg e2, if_pos ht42, if_neg (by rw [ht49]; simp)]
  refine Z3 ?_;refine Z252 ?_;refine R.fieldAddrPtr (fo := 1) jU Tryz.sizeOf9 ?_;refine Z279 ?_;refine Z278 ?_;refine R.wk 55 _ (nameE_le _) ?_;refine Z32 ?_;refine Z4 ?_;exact K.fin (V.one (V.cellN jA jS)) ⟨by rw [e, exprA_eq], by rw [e]⟩ (hlow := by have := exprA_low Hp.length (nameE (tokAt l S.i).text); simpa only [exprA_eq, List.length_set] using this)
 have e3 : ¬ ((tokAt l S.i).kind == 1) = true := by rw [ht42]; simp
 refine Z0 ?_;refine R.call Tryz.call140 (c140 l S opT o _ (get_up ho) hi hl (by decide)) ?_;refine Z258 ?_;refine R.fin [0, 2, 3, 56] ?_
 refine W.cond (fun ht56 => ?_) (fun ht56 => ?_)
 ·have e : atomM l Dv S = ((withinM (tokAt l S.i).at_ Dv.ei (nextM S)).1, wantM l closeT (withinM (tokAt l S.i).at_ Dv.ei (nextM S)).2) := by unfold atomM; rw [if_neg e0, if_neg e1, if_neg e2, if_neg e3, if_pos ht56]
  have hi1 : (nextM S).i < l.length := hl.stepIs hi ht56
  have hwf := withinM_fact (S := nextM S) (l := l) (f := Dv.ei) (tokAt l S.i).at_ hi1 (fun h => (hd.ei h).1)
  refine Z54 ?_;refine Z162 ?_;refine Z75 ?_;refine Z257 ?_;refine R.makeFunc ?_;refine R.callUp Tryz.call169 (getset ho) (by simp) low_pr (c227m Tryz.call80 l (nextM S) (tokAt l S.i).at_ Dv.ei o _ (get_up (getset ho)) hi1 hnl (fun h => (hd.ei h).1) (fun h => (hd.ei h).2)) ?_;refine Z20 ?_;refine R.fin [0, 2, 6] ?_;refine Z0 ?_;refine R.callUp Tryz.call207 (getset (getset ho)) (by simp) low_pr (c207 l (withinM (tokAt l S.i).at_ Dv.ei (nextM S)).2 closeT o _ (get_up (getset (getset ho))) hwf.lt hll) ?_;refine R.fin [2, 6] ?_;refine Z36 ?_;refine Z32 ?_;refine Z4 ?_;exact K.fin (V.one (V.cellN jA jS)) ⟨by rw [e, exprA_eq], by rw [e, List.set_set, List.set_set]⟩ (hlow := by have := exprA_low Hp.length ((withinM (tokAt l S.i).at_ Dv.ei (nextM S)).1); simpa only [exprA_eq, List.length_set] using this)
 have e : atomM l Dv S = (nullX, failM 8 (tokAt l S.i).at_ S) := by unfold atomM; rw [if_neg e0, if_neg e1, if_neg e2, if_neg e3, if_neg (by rw [ht56]; simp)]
 refine Z22 ?_;refine Z0 ?_;refine Z205 ?_;refine Z32 ?_;exact K.fin (V.one (V.cellN jA jS)) ⟨by rw [e, exprA_eq], by rw [e]⟩ (hlow := by have := exprA_low Hp.length (nullX); simpa only [exprA_eq, List.length_set] using this)

theorem deep_of {l : List Tok} (hl : TokEnd l) (hll : l.length ≤ 1048576) {d n : Nat} (h : n + (d + 1) = 31) (hp : n ≠ 30 → PC 80 l (famM l d).ei (n + 1) ∧ PC 142 l (famM l d).no (n + 1) ∧ PC 202 l (famM l d).ne (n + 1)) : DeepC l (famM l d) n := by
 have g : n ≠ 30 → _ := fun h30 => famM_good hl hll d (n + 1) (by omega) (by omega)
 exact ⟨fun h => ⟨(g h).1, (hp h).1⟩, fun h => ⟨(g h).2.1, (hp h).2.1⟩, fun h => ⟨(g h).2.2, (hp h).2.2⟩⟩
/-- All functions of the parser. -/
theorem parse_pc {l : List Tok} (hl : TokEnd l) (hll : l.length ≤ 1048576) (hcl : ∀ n Dv, n ≤ 30 → DeepC l Dv n → PCall l Dv n) : ∀ (d n : Nat), n + d = 31 → n ≤ 30 → PC 80 l (famM l d).ei n ∧ PC 142 l (famM l d).no n ∧ PC 202 l (famM l d).ne n
 | 0, n, h, hn => by omega
 | d + 1, n, h, hn => by
  have hd : DeepC l (famM l d) n := deep_of hl hll h (fun h30 => parse_pc hl hll hcl d (n + 1) (by omega) (by omega))
  have g1 : Good l n (negM l (famM l d)) := negM_good hl hll (fun h => (hd.ei h).1) (fun h => (hd.ne h).1)
  have g2 : Good l n (prodM l (famM l d)) := leftM_good hl g1
  have g3 : Good l n (sumM l (famM l d)) := leftM_good hl g2
  have g4 : Good l n (compareM l (famM l d)) := compareM_good hl hll (fun h => (hd.ei h).1) (fun h => (hd.ne h).1)
  have g5 : Good l n (notM l (famM l d)) := notM_good hl hll (fun h => (hd.ei h).1) (fun h => (hd.ne h).1) (fun h => (hd.no h).1)
  have g6 : Good l n (bothM l (famM l d)) := leftM_good hl g5
  have p0 : PC 204 l (atomM l (famM l d)) n := fun o Hp S ho hi hS => by
   subst hS
   exact c204 l S (famM l d) o Hp ho hi hl hll hn hd (hcl _ _ hn hd)
  have p1 : PC 202 l (negM l (famM l d)) n := fun o Hp S ho hi hS => by
   subst hS
   exact c202 l S (famM l d) o Hp ho hi hl hll hn hd p0
  have p2 : PC 200 l (prodM l (famM l d)) n := fun o Hp S ho hi hS => by
   subst hS
   exact c200 l S (negM l (famM l d)) o Hp ho hi hl hll g1 p1
  have p3 : PC 189 l (sumM l (famM l d)) n := fun o Hp S ho hi hS => by
   subst hS
   exact c189 l S (prodM l (famM l d)) o Hp ho hi hl hll g2 p2
  have p4 : PC 168 l (compareM l (famM l d)) n := fun o Hp S ho hi hS => by
   subst hS
   exact c168 l S (famM l d) o Hp ho hi hl hll hn hd g3 p3
  have p5 : PC 142 l (notM l (famM l d)) n := fun o Hp S ho hi hS => by
   subst hS
   exact c142 l S (famM l d) o Hp ho hi hl hll hn hd p4
  have p6 : PC 110 l (bothM l (famM l d)) n := fun o Hp S ho hi hS => by
   subst hS
   exact c110 l S (notM l (famM l d)) o Hp ho hi hl hll g5 p5
  have p7 : PC 80 l (eitherM l (famM l d)) n := fun o Hp S ho hi hS => by
   subst hS
   exact c80 l S (bothM l (famM l d)) o Hp ho hi hl hll g6 p6
  exact ⟨p7, p5, p1⟩
theorem okE_depth : ∀ (n : Nat) (e : Expr), okE n e → depthE e ≤ n
 | 0, _, h => h.elim
 | n + 1, e, h => by
  rw [depthE_eq]
  have : ∀ l : List Expr, (∀ y ∈ l, okE n y) → depthL l ≤ n := by
   intro l
   induction l with
   | nil => intro _; exact Nat.zero_le _
   | cons y r ih =>
    intro hl
    rw [depthL]
    have h1 := okE_depth n y (hl y (by simp))
    have h2 := ih (fun z hz => hl z (by simp [hz]))
    omega
  have := this e.kids h.2.2
  omega
theorem sizeL_le (e : Expr) (x : Nat) : sizeL (e.kids.take x) + 1 ≤ sizeE e := by
 rw [sizeE_eq]
 have : ∀ (l : List Expr) (x : Nat), sizeL (l.take x) ≤ sizeL l := by
  intro l
  induction l with
  | nil => intro x; simp
  | cons y r ih =>
   intro x
   cases x with
   | zero => simp [sizeL]
   | succ x =>
    have := ih x
    rw [List.take_succ_cons, sizeL, sizeL]
    omega
 have := this e.kids x
 omega
theorem c71 : ∀ (n : Nat) (e : Expr), okE n e → n ≤ 1048576 → ∀ Hp : List AObj, AFun Tryz.prog 71 [exprA e] Hp (intA (depthE e : Nat)) := by
 intro n
 induction n with
 | zero => exact fun e h => h.elim
 | succ n ih =>
 intro e hok hn Hp
 refine ACall.body [.tmp 2] [0] Tryz.func71 Tryz.ntmps71 (fun d => ?_)
 refine Z70 ?_;refine Z2 ?_;refine Z276 ?_;refine Z239 ?_
 refine AW.loopC (α := Nat) (fun x => ⟨25, setF 1 (.ro (exprC e)) (setF 3 (intA (depthL (e.kids.take x) : Nat)) (setF 4 (intA (x : Nat)) (fun _ => .any))), Hp, [], [], none⟩) (fun x => x ≤ e.kids.length) (fun x => e.kids.length - x) (0) (Nat.zero_le _) (StLe.of_eq (by simp [depthL])) rfl (fun x hx => ?_)
 refine Z10 ?_;refine Z7 ?_;refine Z81 ?_;refine R.fin [1, 3, 4, 10] ?_
 refine W.cond (fun ht10 => ?_) (fun ht10 => ?_)
 ·have hlt : x < e.kids.length := by simpa using ht10
  have hkl := hok.2.1
  refine Z90 ?_;refine Z252 ?_;refine Z7 ?_;refine Z257 ?_;refine Z51 ?_;refine R.call Tryz.call71 (ih e.kids[x] (hok.2.2 _ (List.getElem_mem hlt)) (by omega) _) ?_;refine Z258 ?_;refine R.fin [1, 3, 4, 5] ?_;refine Z47 ?_;refine R.gtr ?_;refine R.fin [1, 3, 4, 5, 21] ?_
  refine W.cond (fun ht21 => ?_) (fun ht21 => ?_)
  ·have em : depthL (e.kids.take (x + 1)) = depthE e.kids[x] := by rw [depthL_take _ hlt]; have := of_decide_eq_true ht21; omega
   refine Z6 ?_;refine Z258 ?_;refine Z155 ?_;exact Z171
  have em : depthL (e.kids.take (x + 1)) = depthL (e.kids.take x) := by rw [depthL_take _ hlt]; have := of_decide_eq_false ht21; omega
  refine Z22 ?_;exact Z171
 have hd1 := okE_depth _ e hok
 have hxe : e.kids.take x = e.kids := List.take_of_length_le (by simp at ht10; omega)
 have hdd := depthE_eq e
 refine Z87 ?_;refine Z0 ?_
 rw [hxe]
 refine R.add64 ?_;refine Z9 ?_;exact K.fin (V.one V.tmp) ⟨by rw [hdd]; rfl, rfl⟩

theorem c72 : ∀ (n : Nat) (e : Expr), okE n e → sizeE e ≤ 1048576 → ∀ Hp : List AObj, AFun Tryz.prog 72 [exprA e] Hp (intA (sizeE e : Nat)) := by
 intro n
 induction n with
 | zero => exact fun e h => h.elim
 | succ n ih =>
 intro e hok hn Hp
 refine ACall.body [.tmp 2] [0] Tryz.func72 Tryz.ntmps72 (fun d => ?_)
 refine Z70 ?_;refine Z2 ?_;refine Z276 ?_;refine Z239 ?_
 refine AW.loopC (α := Nat) (fun x => ⟨21, setF 1 (.ro (exprC e)) (setF 3 (intA ((sizeL (e.kids.take x) : Nat) + 1)) (setF 4 (intA (x : Nat)) (fun _ => .any))), Hp, [], [], none⟩) (fun x => x ≤ e.kids.length) (fun x => e.kids.length - x) (0) (Nat.zero_le _) (StLe.of_eq (by simp [sizeL])) rfl (fun x hx => ?_)
 refine Z10 ?_;refine Z7 ?_;refine Z81 ?_;refine R.fin [1, 3, 4, 9] ?_
 refine W.cond (fun ht9 => ?_) (fun ht9 => ?_)
 ·have hlt : x < e.kids.length := by simpa using ht9
  have hkl := hok.2.1
  have hs1 := sizeL_take e.kids hlt
  have hs2 := sizeL_le e (x + 1)
  refine Z90 ?_;refine Z6 ?_;refine Z7 ?_;refine Z257 ?_;refine Z51 ?_
  refine R.call Tryz.call72 (ih e.kids[x] (hok.2.2 _ (List.getElem_mem hlt)) (by have := size_kid e hlt; omega) _) ?_
  refine Z33 ?_;refine Z155 ?_;refine Z133 ?_;exact K.lpN (x + 1) hlt (by omega) (StCut.of_eq (by simp only [hs1]; congr 4; simp only [AV.v.injEq, Value.int.injEq, true_and]; omega))
 have hxe : e.kids.take x = e.kids := List.take_of_length_le (by simp at ht9; omega)
 have hdd := sizeE_eq e
 refine Z87 ?_;refine Z0 ?_;refine Z9 ?_;exact K.fin (V.one V.tmp) ⟨by rw [hxe, hdd]; simp; omega, rfl⟩

def refArM (s : Str) : Int := if (((s == [108, 101, 110]) || (s == [115, 116, 114])) || (s == [110, 117, 109])) || (s == [105, 115, 110, 117, 108, 108]) then 1 else if ((s == [110, 118, 108]) || (s == [108, 101, 102, 116])) || (s == [114, 105, 103, 104, 116]) then 2 else if s == [105, 102] then 3 else -1
theorem arity_ref (s : Str) : arityM s = refArM s := by
 by_cases h : s ∈ arityList.map (·.1)
 ·have : ((arityList.map (·.1)).all fun s => decide (arityM s = refArM s)) = true := by kernel_rfl
  exact of_decide_eq_true (List.all_eq_true.1 this s h)
 have h1 : arityM s = -1 := by
  unfold arityM
  rw [List.find?_eq_none.2 fun p hp => by
   simp only [beq_iff_eq]
   rintro rfl
   exact h (List.mem_map.2 ⟨p, hp, rfl⟩)]
 rw [h1]
 simp only [arityList, List.map_cons, List.map_nil, List.mem_cons, List.not_mem_nil, or_false, not_or] at h
 obtain ⟨a1, a2, a3, a4, a5, a6, a7, a8⟩ := h
 simp [refArM, a1, a2, a3, a4, a5, a6, a7, a8]
theorem c136 (s : Str) (Hp : List AObj) : AFun Tryz.prog 136 [strA s] Hp (intA (refArM s)) := by
 refine ACall.body [.tmp 2] [0] Tryz.func136 Tryz.ntmps136 (fun d => ?_)
 refine Z83 ?_;refine Z10 ?_;refine R.fin [3] ?_;refine AW.block ?_;refine Z16 ?_;refine Z19 ?_;refine R.fin [3, 4] ?_
 refine W.cond (fun ht4 => ?_) (fun ht4 => ?_)
 ·refine Z3 ?_
  refine W.cond (fun ht4 => ?_) (fun ht4 => ?_)
  ·exact Z48
  refine Z16 ?_;refine Z130 ?_
  refine W.cond (fun ht9 => ?_) (fun ht9 => ?_)
  ·refine Z3 ?_
   refine W.cond (fun ht9 => ?_) (fun ht9 => ?_)
   ·exact Z48
   refine Z85 ?_
   refine W.cond (fun ht13 => ?_) (fun ht13 => ?_)
   ·exact Z48
   exact Z102
  refine Z40 ?_;refine R.fin [3, 9] ?_
  refine W.cond (fun ht9 => ?_) (fun ht9 => ?_)
  ·refine Z3 ?_
   refine W.cond (fun ht9 => ?_) (fun ht9 => ?_)
   ·exact Z48
   refine Z85 ?_
   refine W.cond (fun ht13 => ?_) (fun ht13 => ?_)
   ·exact Z48
   exact Z102
  refine Z261 ?_;refine Z130 ?_;refine K.thN ?_
  refine W.cond (fun ht9 => ?_) (fun ht9 => ?_)
  ·exact Z48
  refine Z85 ?_
  refine W.cond (fun ht13 => ?_) (fun ht13 => ?_)
  ·exact Z48
  exact Z102
 refine Z40 ?_;refine R.fin [3, 4] ?_
 refine W.cond (fun ht4 => ?_) (fun ht4 => ?_)
 ·refine Z3 ?_
  refine W.cond (fun ht4 => ?_) (fun ht4 => ?_)
  ·exact Z48
  refine Z16 ?_;refine Z130 ?_
  refine W.cond (fun ht9 => ?_) (fun ht9 => ?_)
  ·refine Z3 ?_
   refine W.cond (fun ht9 => ?_) (fun ht9 => ?_)
   ·exact Z48
   refine Z85 ?_
   refine W.cond (fun ht13 => ?_) (fun ht13 => ?_)
   ·exact Z48
   exact Z102
  refine Z40 ?_;refine R.fin [3, 9] ?_
  refine W.cond (fun ht9 => ?_) (fun ht9 => ?_)
  ·refine Z3 ?_
   refine W.cond (fun ht9 => ?_) (fun ht9 => ?_)
   ·exact Z48
   refine Z85 ?_
   refine W.cond (fun ht13 => ?_) (fun ht13 => ?_)
   ·exact Z48
   exact Z102
  refine Z261 ?_;refine Z130 ?_;refine K.thN ?_
  refine W.cond (fun ht9 => ?_) (fun ht9 => ?_)
  ·exact Z48
  refine Z85 ?_
  refine W.cond (fun ht13 => ?_) (fun ht13 => ?_)
  ·exact Z48
  exact Z102
 refine Z40 ?_;refine R.fin [3, 4] ?_
 refine W.cond (fun ht4 => ?_) (fun ht4 => ?_)
 ·refine Z3 ?_
  refine W.cond (fun ht4 => ?_) (fun ht4 => ?_)
  ·exact Z48
  refine Z16 ?_;refine Z130 ?_
  refine W.cond (fun ht9 => ?_) (fun ht9 => ?_)
  ·refine Z3 ?_
   refine W.cond (fun ht9 => ?_) (fun ht9 => ?_)
   ·exact Z48
   refine Z85 ?_
   refine W.cond (fun ht13 => ?_) (fun ht13 => ?_)
   ·exact Z48
   exact Z102
  refine Z40 ?_;refine R.fin [3, 9] ?_
  refine W.cond (fun ht9 => ?_) (fun ht9 => ?_)
  ·refine Z3 ?_
   refine W.cond (fun ht9 => ?_) (fun ht9 => ?_)
   ·exact Z48
   refine Z85 ?_
   refine W.cond (fun ht13 => ?_) (fun ht13 => ?_)
   ·exact Z48
   exact Z102
  refine Z261 ?_;refine Z130 ?_;refine K.thN ?_
  refine W.cond (fun ht9 => ?_) (fun ht9 => ?_)
  ·exact Z48
  refine Z85 ?_
  refine W.cond (fun ht13 => ?_) (fun ht13 => ?_)
  ·exact Z48
  exact Z102
 refine Z261 ?_;refine Z19 ?_;refine R.fin [3, 4] ?_;refine K.thN ?_
 refine W.cond (fun ht4 => ?_) (fun ht4 => ?_)
 ·exact Z48
 refine Z16 ?_;refine Z130 ?_
 refine W.cond (fun ht9 => ?_) (fun ht9 => ?_)
 ·refine Z3 ?_
  refine W.cond (fun ht9 => ?_) (fun ht9 => ?_)
  ·exact Z48
  refine Z85 ?_
  refine W.cond (fun ht13 => ?_) (fun ht13 => ?_)
  ·exact Z48
  exact Z102
 refine Z40 ?_;refine R.fin [3, 9] ?_
 refine W.cond (fun ht9 => ?_) (fun ht9 => ?_)
 ·refine Z3 ?_
  refine W.cond (fun ht9 => ?_) (fun ht9 => ?_)
  ·exact Z48
  refine Z85 ?_
  refine W.cond (fun ht13 => ?_) (fun ht13 => ?_)
  ·exact Z48
  exact Z102
 refine Z261 ?_;refine Z130 ?_;refine K.thN ?_
 refine W.cond (fun ht9 => ?_) (fun ht9 => ?_)
 ·exact Z48
 refine Z85 ?_
 refine W.cond (fun ht13 => ?_) (fun ht13 => ?_)
 ·exact Z48
 exact Z102

theorem level_at {s : Str} {x : Nat} (hx : x < levels.length) (h : levels[x].contains s = true) (h0 : ∀ (j : Nat) (l : List Str), j < x → levels[j]? = some l → l.contains s = false) : levelM s = (x : Int) := by
 unfold levelM
 rw [List.findIdx?_eq_some_iff_getElem.2 ⟨hx, h, fun j hj => by
  have e := h0 j levels[j] hj (List.getElem?_eq_getElem _)
  show ¬ (levels[j].contains s = true)
  rw [e]
  simp⟩]
theorem level_no {s : Str} (h0 : ∀ (j : Nat) (l : List Str), j < levels.length → levels[j]? = some l → l.contains s = false) : levelM s = -1 := by
 unfold levelM
 rw [List.findIdx?_eq_none_iff.2 fun l hl => by
  obtain ⟨j, hj⟩ := List.getElem?_of_mem hl
  exact h0 j l (List.getElem?_eq_some_iff.1 hj).1 hj]
theorem levels_len : levels.length = 6 := rfl
theorem levels_short {x : Nat} (hx : x < levels.length) : levels[x].length ≤ 6 := by
 have : (levels.all fun l => decide (l.length ≤ 6)) = true := by kernel_rfl
 exact of_decide_eq_true (List.all_eq_true.1 this _ (List.getElem_mem hx))
theorem contains_upto {l : List Str} {s : Str} (h : ∀ (j : Nat) (w : Str), j < l.length → l[j]? = some w → (w == s) = false) : l.contains s = false := by
 rw [Bool.eq_false_iff]
 intro hc
 have hm : s ∈ l := by simpa using hc
 obtain ⟨j, hj⟩ := List.getElem?_of_mem hm
 have := h j s (List.getElem?_eq_some_iff.1 hj).1 hj
 simp at this
theorem c103 (s : Str) (Hp : List AObj) : AFun Tryz.prog 103 [strA s] Hp (intA (levelM s)) := by
 refine ACall.body [.tmp 2] [0] Tryz.func103 Tryz.ntmps103 (fun d => ?_)
 refine Z83 ?_;refine Z252 ?_;refine Z199 ?_;refine Z199 ?_;refine Z199 ?_;refine Z174 ?_;refine R.fin [0, 3] ?_;refine Z106 ?_;refine R.fin [0, 3, 4] ?_
 refine AW.loopC (α := Nat) (fun x => ⟨38, setF 0 (strA s) (setF 3 (.slice true 1 (levels.map strsA)) (setF 4 (intA (x : Nat)) (fun _ => .any))), Hp, [], [], none⟩) (fun x => x ≤ levels.length ∧ ∀ (j : Nat) (l : List Str), j < x → levels[j]? = some l → l.contains s = false) (fun x => levels.length - x) (0) ⟨Nat.zero_le _, fun j l h => by omega⟩ (StLe.refl _) rfl (fun x hx => ?_)
 refine Z120 ?_;refine Z81 ?_;refine R.fin [0, 3, 4, 16] ?_
 refine W.cond (fun ht16 => ?_) (fun ht16 => ?_)
 ·have hlt : x < levels.length := by simpa using ht16
  have h6 := levels_len
  have hls := levels_short hlt
  refine Z90 ?_;refine Z2 ?_;refine R.fin [0, 3, 4, 5] ?_
  refine AW.loopC (α := Nat) (fun y => ⟨38, setF 0 (strA s) (setF 3 (.slice true 1 (levels.map strsA)) (setF 4 (intA (x : Nat)) (setF 5 (intA (y : Nat)) (fun _ => .any)))), Hp, [], [], none⟩) (fun y => y ≤ levels[x].length ∧ ∀ (j : Nat) (w : Str), j < y → levels[x][j]? = some w → (w == s) = false) (fun y => levels[x].length - y) (0) ⟨Nat.zero_le _, fun j l h => by omega⟩ (StLe.refl _) rfl (fun y hy => ?_)
  refine Z10 ?_;refine Z91 ?_;refine R.indexAddr (x) (strsA levels[x]) jU jS (getMap hlt) ?_;refine Z259 ?_;refine Z81 ?_;refine R.fin [0, 3, 4, 5, 25] ?_
  refine W.cond (fun ht25 => ?_) (fun ht25 => ?_)
  ·have hly : y < levels[x].length := by simpa using ht25
   refine Z90 ?_;refine Z47 ?_;refine R.indexAddr (x) (strsA levels[x]) jU jS (getMap hlt) ?_;refine Z238 ?_;refine R.indexAddr (y) (strA (levels[x])[y]) jU jS (getMap hly) ?_;refine Z238 ?_;refine R.seql ?_;refine R.fin [0, 3, 4, 5, 36] ?_
   refine W.cond (fun ht36 => ?_) (fun ht36 => ?_)
   ·refine Z0 ?_;refine Z9 ?_;refine Z4 ?_;refine K.lpR ?_;refine Z104 ?_;exact K.fin (V.one V.tmp) ⟨by rw [level_at hlt (by simp only [List.contains_iff_mem]; have := ht36; simp only [beq_iff_eq] at this; rw [← this]; exact List.getElem_mem hly) hx.2], rfl⟩
   refine Z180 ?_;refine R.fin [0, 3, 4, 5] ?_;exact K.lpN (y + 1) ⟨hly, upto_succ hly hy.2 ht36⟩ (by omega) (StCut.of_eq rfl)
  have hny : levels[x].length ≤ y := by simpa using ht25
  refine Z52 ?_;refine K.lpE ?_;refine Z11 ?_;refine Z74 ?_;refine R.fin [0, 3, 4] ?_;exact K.lpN (x + 1) ⟨hlt, upto_succ hlt hx.2 (contains_upto fun j w hj hw => hy.2 j w (by omega) hw)⟩ (by omega) (StCut.of_eq rfl)
 have hnx : levels.length ≤ x := by simpa using ht16
 refine Z87 ?_;refine Z12 ?_;exact K.fin (V.one V.tmp) ⟨by rw [level_no (fun j l hj h => hx.2 j l (by omega) h)], rfl⟩

theorem c102 (e : Expr) (hs : e.text.length ≤ 1048576) (Hp : List AObj) : AFun Tryz.prog 102 [exprA e] Hp (boolA (nodeOneM e)) := by
 refine ACall.body [.tmp 2] [0] Tryz.func102 Tryz.ntmps102 (fun d => ?_)
 refine Z181 ?_;refine Z7 ?_;refine R.len jU ?_;refine Z232 ?_;refine Z158 ?_;refine R.eql ?_;refine R.fin [1, 3, 9] ?_
 refine W.cond (fun ht9 => ?_) (fun ht9 => ?_)
 ·refine Z252 ?_;refine Z82 ?_;refine R.call Tryz.call135 (c135 e.val _) ?_;refine Z257 ?_;refine Z226 ?_;refine G.loadRo jA ?_;refine G.geq ?_;refine Z61 ?_;refine Z179 ?_;refine Z236 ?_;refine Z109 ?_;exact Z172
 refine Z3 ?_;refine Z16 ?_;refine Z241 ?_;refine R.neqAgg eg25 (equal25 e.val.kind e.val.n 0 0 e.val.s []) ?_;refine R.fin [1, 3, 31] ?_
 refine W.cond (fun ht31 => ?_) (fun ht31 => ?_)
 ·refine Z12 ?_;exact Z172
 refine Z3 ?_;refine Z158 ?_;refine R.fin [1, 3, 33] ?_;refine Z145 ?_;refine R.fin [1, 3, 33, 34] ?_
 refine W.cond (fun ht34 => ?_) (fun ht34 => ?_)
 ·refine Z84 ?_;refine R.call Tryz.call39 (c39 e.text hs _) ?_;refine Z18 ?_;exact Z192
 refine Z16 ?_;refine Z14 ?_;refine R.fin [1, 3, 33, 43] ?_
 refine W.cond (fun ht43 => ?_) (fun ht43 => ?_)
 ·refine Z3 ?_
  refine W.cond (fun ht43 => ?_) (fun ht43 => ?_)
  ·refine Z84 ?_;refine Z161 ?_;exact Z192
  refine Z29 ?_;refine R.fin [1, 3, 33, 53] ?_
  refine W.cond (fun ht53 => ?_) (fun ht53 => ?_)
  ·refine Z212 ?_;refine R.geq ?_;refine Z18 ?_;exact Z192
  refine Z29 ?_;refine R.fin [1, 3, 63] ?_
  refine W.cond (fun ht63 => ?_) (fun ht63 => ?_)
  ·refine Z84 ?_;refine R.call Tryz.call136 (c136 e.text _) ?_;refine Z257 ?_;refine R.eql ?_;refine Z9 ?_;exact Z44
  refine Z22 ?_;exact Z175
 refine Z261 ?_;refine Z14 ?_;refine R.fin [1, 3, 33, 43] ?_;refine K.thN ?_
 refine W.cond (fun ht43 => ?_) (fun ht43 => ?_)
 ·refine Z84 ?_;refine Z161 ?_;exact Z192
 refine Z29 ?_;refine R.fin [1, 3, 33, 53] ?_
 refine W.cond (fun ht53 => ?_) (fun ht53 => ?_)
 ·refine Z212 ?_;refine R.geq ?_;refine Z18 ?_;exact Z192
 refine Z29 ?_;refine R.fin [1, 3, 63] ?_
 refine W.cond (fun ht63 => ?_) (fun ht63 => ?_)
 ·refine Z84 ?_;refine R.call Tryz.call136 (c136 e.text _) ?_;refine Z257 ?_;refine R.eql ?_;refine Z9 ?_;exact Z44
 refine Z22 ?_;exact Z175

theorem c73 : ∀ (n : Nat) (e : Expr), okE n e → ∀ Hp : List AObj, AFun Tryz.prog 73 [exprA e] Hp (boolA (allE nodeOneM e)) := by
 intro n
 induction n with
 | zero => exact fun e h => h.elim
 | succ n ih =>
 intro e hok Hp
 refine ACall.body [.tmp 2] [0] Tryz.func73 Tryz.ntmps73 (fun d => ?_)
 refine Z70 ?_;refine Z188 ?_;refine R.call Tryz.call102 (c102 e hok.1 _) ?_;refine R.not ?_;refine R.fin [1, 6] ?_
 refine W.cond (fun ht6 => ?_) (fun ht6 => ?_)
 ·refine Z12 ?_;refine K.thR ?_;exact K.fin (V.one V.tmp) ⟨by rw [allE_eq]; simp at ht6; rw [ht6]; rfl, rfl⟩
 refine Z3 ?_;refine Z106 ?_;refine Z276 ?_
 refine AW.loopC (α := Nat) (fun x => ⟨21, setF 1 (.ro (exprC e)) (setF 3 (intA (x : Nat)) (fun _ => .any)), Hp, [], [], none⟩) (fun x => x ≤ e.kids.length ∧ allL nodeOneM (e.kids.take x) = true) (fun x => e.kids.length - x) (0) ⟨Nat.zero_le _, rfl⟩ (StLe.refl _) rfl (fun x hx => ?_)
 refine Z10 ?_;refine Z7 ?_;refine Z81 ?_;refine R.fin [1, 3, 11] ?_
 refine W.cond (fun ht11 => ?_) (fun ht11 => ?_)
 ·have hlt : x < e.kids.length := by simpa using ht11
  have hkl := hok.2.1
  refine Z90 ?_;refine Z252 ?_;refine Z7 ?_;refine Z257 ?_;refine Z51 ?_;refine R.call Tryz.call73 (ih e.kids[x] (hok.2.2 _ (List.getElem_mem hlt)) _) ?_;refine R.not ?_;refine R.fin [1, 3, 20] ?_
  refine W.cond (fun ht20 => ?_) (fun ht20 => ?_)
  ·refine Z12 ?_;refine Z104 ?_;exact K.fin (V.one V.tmp) ⟨by rw [show allE nodeOneM e = false from by rw [Bool.eq_false_iff]; intro h; rw [allE_eq, Bool.and_eq_true] at h; have := (allL_iff _ _).1 h.2 _ (List.getElem_mem hlt); rw [this] at ht20; cases ht20], rfl⟩
  refine Z180 ?_;refine Z276 ?_;exact K.lpN (x + 1) ⟨hlt, by rw [List.take_succ_eq_append_getElem hlt, allL_append, hx.2, allL, allL, Bool.and_true, Bool.true_and]; simpa using ht20⟩ (by omega) (StCut.of_eq rfl)
 have hxe : e.kids.take x = e.kids := List.take_of_length_le (by simp at ht11; omega)
 refine Z87 ?_;refine Z12 ?_;exact K.fin (V.one V.tmp) ⟨by have := hx.2; rw [hxe] at this; rw [allE_eq, this]; simp at ht6; rw [ht6]; rfl, rfl⟩

theorem all_node (e : Expr) : allE nodeOneM e = allE nodeM e := by rw [show nodeM = nodeOneM from funext node_one]
theorem c41 (n : Nat) (e : Expr) (hok : okE n e) (hn : n ≤ 1048576) (hs : sizeE e ≤ 1048576) (Hp : List AObj) : AFun Tryz.prog 41 [exprA e] Hp (boolA (refRightM e)) := by
 refine ACall.body [.tmp 2] [0] Tryz.func41 Tryz.ntmps41 (fun d => ?_)
 refine Z70 ?_;refine Z72 ?_;refine R.call Tryz.call71 (c71 n e hok hn _) ?_;refine R.leq ?_;refine Z257 ?_;refine G.loadRoN jA jS ?_;refine G.call Tryz.call72 (fun hB => c72 n e hok hs _) ?_;refine G.leq ?_;refine Z61 ?_;refine G.loadRoN jA jS ?_;refine G.call Tryz.call73 (fun hB => c73 n e hok _) ?_;refine Z168 ?_;exact K.fin (V.one V.tmp) ⟨by rw [refRightM, all_node, show decide ((depthE e : Int) ≤ 30) = decide (depthE e ≤ 30) by rw [decide_eq_decide]; omega, show decide ((sizeE e : Int) ≤ 300) = decide (sizeE e ≤ 300) by rw [decide_eq_decide]; omega], rfl⟩

theorem takeAll {n : Nat} {U F : Nat → List AObj} {H' : List AObj} (h : takePost (fun _ => true) U F n H') : H' = U n := by
 rcases h with ⟨_, h⟩ | ⟨j, _, _, h, _⟩
 ·exact h
 cases h
theorem take_item {α : Type} {l : List α} {k : Nat} {y : α} (h : l[k]? = some y) : l.take (k + 1) = l.take k ++ [y] := by rw [List.take_add_one, h]; rfl
theorem deepF_on {L : List (Int × Expr)} {k : Nat} {it : Int × Expr} (h : L[k]? = some it) : deepF 0 (L.take (k + 1)) = if deepF 0 (L.take k) < it.1 then it.1 else deepF 0 (L.take k) := by
 have e : deepF 0 (L.take (k + 1)) = max (deepF 0 (L.take k)) it.1 := by
  unfold deepF
  rw [take_item h, List.foldl_append]
  rfl
 rw [e]
 split <;> omega
def namesU (L : List (Int × Expr)) (k : Nat) : List Str := (L.take k).foldl (fun l it => addName l it.2) []
theorem low_strsl {n k : Nat} {o : Bool} {l : List Str} : Low n (.slice o k (l.map strA)) := by simp [or_imp, forall_and]
theorem c81 (n : Nat) (e : Expr) (hok : okE n e) (hn : n ≤ 1048576) (hs : sizeE e ≤ 1048576) (Hp : List AObj) : AFun Tryz.prog 81 [exprA e] Hp (intA (depthE e : Nat)) := by
 refine ACall.body [.tmp 2] [0, 4] Tryz.func81 Tryz.ntmps81 (fun d => ?_)
 refine Z25 ?_;refine Z258 ?_;refine R.fin [1, 4] ?_;refine Z252 ?_;refine Z20 ?_;refine R.fin [1, 3, 4] ?_;refine Z16 ?_
 refine R.assumeLow (fun hlow => ?_)
 refine Z194 ?_;refine R.fin [3, 4, 6] ?_;refine AW.block ?_
 refine W.rangeV (m := 1) Tryz.call97 (fun FR as' bd' hFR has hbd => ?_)
 have hFRl : ∀ s, Low (Hp.length + 3) (FR s) := by
  intro s
  rw [hFR]
  refine Low.strip ?_
  revert s
  repeat (first | exact lowF_any | refine lowF_set (by simp [oid, exprA_low] <;> try omega) ?_)
 have hOl : ∀ {k : Nat}, ∀ x ∈ [AObj.cells 3 [intA (deepF 0 ((itemsE 1 e).take k))], AObj.defs, AObj.loop LoopState.ready none FR 13 #[7, 8] as' bd' (oid Hp.length 1)], ObjLow (Hp.length + 3) x := by
  intro k x hx
  simp only [List.mem_cons, List.mem_nil_iff, or_false] at hx
  rcases hx with rfl | rfl | rfl
  ·intro y hy
   rw [List.mem_singleton.1 hy]
   first | exact low_strsl | simp
  ·trivial
  exact Z274
 refine ⟨fun _ H' => takePost (fun _ => true) (fun k => Hp ++ [AObj.cells 3 [intA (deepF 0 ((itemsE 1 e).take k))], AObj.defs, AObj.loop LoopState.ready none FR 13 #[7, 8] as' bd' (oid Hp.length 1)]) (fun k => Hp ++ [AObj.cells 3 [intA (deepF 0 ((itemsE 1 e).take k))], AObj.defs, AObj.loop LoopState.ready none FR 13 #[7, 8] as' bd' (oid Hp.length 1)]) (itemsE 1 e).length H', c97 (l := oid Hp.length 2) (go := fun _ => true) (U := fun k => Hp ++ [AObj.cells 3 [intA (deepF 0 ((itemsE 1 e).take k))], AObj.defs, AObj.loop LoopState.ready none FR 13 #[7, 8] as' bd' (oid Hp.length 1)]) (F := fun k => Hp ++ [AObj.cells 3 [intA (deepF 0 ((itemsE 1 e).take k))], AObj.defs, AObj.loop LoopState.ready none FR 13 #[7, 8] as' bd' (oid Hp.length 1)]) (n0 := Hp.length + 3) ⟨fun k => by simp, fun k => by simp, fun k x hx => ?_, fun k x hx => ?_, by simp [oid], fun X k it hit hgo => ?_⟩ n hok hn, ?_⟩
 ·exact Z275
 ·exact Z275
 ·have hklt : k < sizeE e := by rw [← itemsE_len 1 e]; exact (List.getElem?_eq_some_iff.1 hit).1
  generalize hV : (Hp ++ [AObj.cells 3 [intA (deepF 0 ((itemsE 1 e).take k))], AObj.defs, AObj.loop LoopState.ready none FR 13 #[7, 8] as' bd' (oid Hp.length 1)] ++ X) = V
  have hL : V[oid Hp.length 2]? = some (AObj.loop LoopState.ready none FR 13 #[7, 8] as' bd' (oid Hp.length 1)) := by rw [← hV, List.append_assoc, get_oid]; rfl
  have hA0 : V[oid Hp.length 0]? = some (AObj.cells 3 [intA (deepF 0 ((itemsE 1 e).take k))]) := by rw [← hV, List.append_assoc, get_oid]; rfl
  refine AYield.ofRound (pd := none) (fr := FR) (sz := 13) (ps := #[7, 8]) (df := oid Hp.length 1) (asg := as') (bd := bd') hL rfl (by decide) (fun d => ?_)
  subst hFR has hbd
  refine W.keep [3, 7, 8] ?_;refine Z261 ?_;refine Z258 ?_;refine R.fin [3, 4] ?_
  refine ⟨rfl, none, hL, ?_⟩
  generalize hbz : (AObj.loop LoopState.busy _ _ _ _ _ _ _) = bz
  have hA : (V.set (oid Hp.length 2) bz)[oid Hp.length 0]? = some (AObj.cells 3 [intA (deepF 0 ((itemsE 1 e).take k))]) := by rw [List.getElem?_set_ne (oid_ne (by decide))]; exact hA0
  refine AW.block ?_;refine Z261 ?_;refine R.loadUp jA hA ?_;refine Z257 ?_;refine R.maxI ?_
  refine R.storeUp jS hA ?_ ?_
  ·simp
  refine R.fin [] ?_;refine K.blN ?_
  subst hbz
  refine K.rdN (keep1 hL (oid_ne (by decide))) ?_
  refine ⟨rfl, ?_⟩
  rw [if_pos rfl]
  subst hV
  simp only [List.append_assoc, set_oid, List.cons_append, List.nil_append, List.set_cons_succ, List.set_cons_zero]
  rw [deepF_on hit]
 intro r H' hq
 obtain rfl := takeAll hq
 refine ⟨Hp, _, _, _, rfl, rfl, fun h => h, ?_, rfl, by simp, ?_⟩
 ·intro o ho
  have : o = oid Hp.length 1 := by simpa using ho
  subst this
  rw [get_oid]
  rfl
 refine Z11 ?_;refine Z252 ?_;refine Z279 ?_;refine Z9 ?_;exact K.fin (V.one V.tmp) ⟨by rw [List.take_length, depth_items], rfl⟩

theorem c83 (n : Nat) (e : Expr) (hok : okE n e) (hn : n ≤ 1048576) (hs : sizeE e ≤ 1048576) (Hp : List AObj) : AFun Tryz.prog 83 [exprA e] Hp (intA (sizeE e : Nat)) := by
 refine ACall.body [.tmp 2] [0] Tryz.func83 Tryz.ntmps83 (fun d => ?_)
 refine Z181 ?_;refine Z20 ?_;refine Z276 ?_;refine Z16 ?_
 refine R.assumeLow (fun hlow => ?_)
 refine Z194 ?_;refine R.fin [3, 5] ?_;refine AW.block ?_
 refine W.rangeV (m := 1) Tryz.call97 (fun FR as' bd' hFR has hbd => ?_)
 have hFRl : ∀ s, Low (Hp.length + 3) (FR s) := by
  intro s
  rw [hFR]
  refine Low.strip ?_
  revert s
  repeat (first | exact lowF_any | refine lowF_set (by simp [oid, exprA_low] <;> try omega) ?_)
 have hOl : ∀ {k : Nat}, ∀ x ∈ [AObj.cells 3 [intA ((k : Nat))], AObj.defs, AObj.loop LoopState.ready none FR 11 #[6, 7] as' bd' (oid Hp.length 1)], ObjLow (Hp.length + 3) x := by
  intro k x hx
  simp only [List.mem_cons, List.mem_nil_iff, or_false] at hx
  rcases hx with rfl | rfl | rfl
  ·intro y hy
   rw [List.mem_singleton.1 hy]
   first | exact low_strsl | simp
  ·trivial
  exact Z274
 refine ⟨fun _ H' => takePost (fun _ => true) (fun k => Hp ++ [AObj.cells 3 [intA ((k : Nat))], AObj.defs, AObj.loop LoopState.ready none FR 11 #[6, 7] as' bd' (oid Hp.length 1)]) (fun k => Hp ++ [AObj.cells 3 [intA ((k : Nat))], AObj.defs, AObj.loop LoopState.ready none FR 11 #[6, 7] as' bd' (oid Hp.length 1)]) (itemsE 1 e).length H', c97 (l := oid Hp.length 2) (go := fun _ => true) (U := fun k => Hp ++ [AObj.cells 3 [intA ((k : Nat))], AObj.defs, AObj.loop LoopState.ready none FR 11 #[6, 7] as' bd' (oid Hp.length 1)]) (F := fun k => Hp ++ [AObj.cells 3 [intA ((k : Nat))], AObj.defs, AObj.loop LoopState.ready none FR 11 #[6, 7] as' bd' (oid Hp.length 1)]) (n0 := Hp.length + 3) ⟨fun k => by simp, fun k => by simp, fun k x hx => ?_, fun k x hx => ?_, by simp [oid], fun X k it hit hgo => ?_⟩ n hok hn, ?_⟩
 ·exact Z275
 ·exact Z275
 ·have hklt : k < sizeE e := by rw [← itemsE_len 1 e]; exact (List.getElem?_eq_some_iff.1 hit).1
  generalize hV : (Hp ++ [AObj.cells 3 [intA ((k : Nat))], AObj.defs, AObj.loop LoopState.ready none FR 11 #[6, 7] as' bd' (oid Hp.length 1)] ++ X) = V
  have hL : V[oid Hp.length 2]? = some (AObj.loop LoopState.ready none FR 11 #[6, 7] as' bd' (oid Hp.length 1)) := by rw [← hV, List.append_assoc, get_oid]; rfl
  have hA0 : V[oid Hp.length 0]? = some (AObj.cells 3 [intA ((k : Nat))]) := by rw [← hV, List.append_assoc, get_oid]; rfl
  refine AYield.ofRound (pd := none) (fr := FR) (sz := 11) (ps := #[6, 7]) (df := oid Hp.length 1) (asg := as') (bd := bd') hL rfl (by decide) (fun d => ?_)
  subst hFR has hbd
  refine W.keep [3, 6, 7] ?_;refine AW.skip ?_
  refine ⟨rfl, none, hL, ?_⟩
  generalize hbz : (AObj.loop LoopState.busy _ _ _ _ _ _ _) = bz
  have hA : (V.set (oid Hp.length 2) bz)[oid Hp.length 0]? = some (AObj.cells 3 [intA ((k : Nat))]) := by rw [List.getElem?_set_ne (oid_ne (by decide))]; exact hA0
  refine AW.block ?_;refine Z261 ?_;refine R.loadUp jA hA ?_;refine R.add64 ?_
  refine R.storeUp jS hA ?_ ?_
  ·simp
  refine R.fin [] ?_;refine K.blN ?_
  subst hbz
  refine K.rdN (keep1 hL (oid_ne (by decide))) ?_
  refine ⟨rfl, ?_⟩
  rw [if_pos rfl]
  subst hV
  simp only [List.append_assoc, set_oid, List.cons_append, List.nil_append, List.set_cons_succ, List.set_cons_zero]
  rfl
 intro r H' hq
 obtain rfl := takeAll hq
 refine ⟨Hp, _, _, _, rfl, rfl, fun h => h, ?_, rfl, by simp, ?_⟩
 ·intro o ho
  have : o = oid Hp.length 1 := by simpa using ho
  subst this
  rw [get_oid]
  rfl
 refine Z11 ?_;refine Z252 ?_;refine Z279 ?_;refine Z9 ?_;exact K.fin (V.one V.tmp) ⟨by rw [itemsE_len], rfl⟩

theorem atR_fact {l : List Tok} (hl : TokEnd l) (hll : l.length ≤ 1048576) {i : Nat} (hi : i < l.length) : Fact l ⟨i, 0, 0, 0⟩ (atR l i) := (famM_good hl hll 31 0 rfl (by decide)).1 ⟨i, 0, 0, 0⟩ hi rfl
theorem c155at {l : List Tok} {i : Nat} (hi : i < l.length) (hl : TokEnd l) (hll : l.length ≤ 1048576) (hcl : ∀ n Dv, n ≤ 30 → DeepC l Dv n → PCall l Dv n) (o : Nat) (Hp : List AObj) (ho : Hp[o]? = some (pr l ⟨i, 0, 0, 0⟩)) : ACall Tryz.prog 80 [.ptr o 0] Hp (fun r H' => r = exprA (atR l i).1 ∧ H' = Hp.set o (pr l (atR l i).2)) := (parse_pc hl hll hcl 31 0 rfl (by decide)).1 o Hp ⟨i, 0, 0, 0⟩ ho hi rfl
theorem tokEnd_last {l : List Tok} (hl : TokEnd l) : (tokAt l (l.length - 1)).kind = 0 := by
 obtain ⟨L, z, rfl, hz, _⟩ := hl.split
 unfold tokAt
 simp [hz]
theorem c49 (l : List Tok) (i : Nat) (hi : i < l.length) (hl : TokEnd l) (hll : l.length ≤ 500000) (hcl : ∀ n Dv, n ≤ 30 → DeepC l Dv n → PCall l Dv n) (Hp : List AObj) : AFun Tryz.prog 49 [toksA l, intA (i : Int)] Hp (.tup [exprA (atM l i).1, intA (atM l i).2.1, .agg [intA (atM l i).2.2.1, intA (atM l i).2.2.2]]) := by
 have hmap : (l.map tokA).length = l.length := List.length_map ..
 have hll1 : l.length ≤ 1048576 := by omega
 have hq := atR_fact hl hll1 hi
 have hlast := tokEnd_last hl
 have hpos := hl.pos
 have hqlt := hq.lt
 have hqs := hq.sz
 have hok0 : okE 1048576 (atR l i).1 := okE_le (by have := hq.lt; omega) hq.ok
 have hsz0 : sizeE (atR l i).1 ≤ 1048576 := by have := hq.sz; have := hq.lt; omega
 refine ACall.body [.cell 4 28, .tmp 5, .cell 6 33] [0, 1] Tryz.func49 Tryz.ntmps49 (fun d => ?_)
 refine Z35 ?_;refine Z258 ?_;refine R.alloc jZ ?_;refine R.fin [0, 1, 4, 6] ?_;refine Z10 ?_;refine R.lss ?_;refine Z134 ?_;refine G.len jU ?_;refine G.geq ?_;refine Z253 ?_;refine Z134 ?_;refine G.len jU ?_;refine G.sub64 ?_;refine G.indexAddr ((l.length - 1)) (tokA (tokAt l (l.length - 1))) jU jS (fun _ => getTok (by omega)) ?_;refine Z127 ?_;refine G.neq ?_;refine Z253 ?_;refine R.fin [0, 1, 4, 6, 26] ?_
 refine W.cond (fun ht26 => ?_) (fun ht26 => ?_)
 ·simp only [Bool.or_eq_true, decide_eq_true_eq, bne_iff_ne, ne_eq] at ht26
  rcases ht26 with (h | h) | h
  ·omega
  ·simp at h; omega
  exact absurd hlast h
 refine Z3 ?_;refine Z47 ?_;refine R.build (places := #[(0, 1), (1, 1), (2, 1), (3, 2)]) jU (fun w => by simp) jZ ?_;refine R.box ?_;refine Z258 ?_;refine R.fin [0, 1, 4, 6, 7] ?_;refine Z0 ?_
 refine R.callOwn (n := 2) (x := pr l (atR l i).2) Tryz.call80 (c155at hi hl hll1 hcl (oid Hp.length 2) _ (by rw [get_oid]; rfl)) ?_
 refine Z20 ?_;refine R.fin [0, 1, 4, 6, 7, 8] ?_
 refine W.join ⟨81, setF 4 (.ptr (oid Hp.length 0) 0) (setF 6 (.ptr (oid Hp.length 1) 0) (setF 7 (.ptr (oid Hp.length 2) 0) (setF 8 (.ptr (oid Hp.length 3) 0) (fun _ => .any)))), Hp, [.cells 28 [intA 0, strA [], intA 0, intA 0, strA [], .nil], .cells 33 [intA 0, intA 0], pr l (atS l i (atR l i)), .cells 28 (exprC (atR l i).1)], [], none⟩ ?_ ?_
 ·refine AW.block ?_;refine Z0 ?_;refine Z142 ?_;refine Z191 ?_;refine Z258 ?_;refine R.fin [0, 1, 4, 6, 7, 8, 35] ?_
  refine W.cond (fun ht35 => ?_) (fun ht35 => ?_)
  ·have e : atS l i (atR l i) = (atR l i).2 := if_pos ht35
   refine W.keep [4, 6, 7, 8] ?_;refine AW.skip ?_;exact Z220
  have e0 : ¬ ((atR l i).2.code != 0) = true := by rw [ht35]; simp
  refine Z36 ?_;refine R.call Tryz.call81 (c81 1048576 _ hok0 (Nat.le_refl _) hsz0 _) ?_;refine Z230 ?_;refine R.fin [0, 1, 4, 6, 7, 8, 42] ?_
  refine W.cond (fun ht42 => ?_) (fun ht42 => ?_)
  ·have e : atS l i (atR l i) = failM 18 (tokAt l i).at_ (atR l i).2 := by unfold atS; rw [if_neg e0, if_pos ht42]
   refine Z6 ?_;refine Z91 ?_;refine R.indexAddr (i) (tokA (tokAt l i)) jU jS (getTok hi) ?_;refine Z118 ?_
   refine R.callOwn (n := 2) (x := pr l (failM 18 (tokAt l i).at_ (atR l i).2)) Tryz.call82 (c82 l (atR l i).2 18 (tokAt l i).at_ (oid Hp.length 2) _ (by rw [get_oid]; rfl)) ?_
   refine R.fin [4, 6, 7, 8] ?_;exact Z220
  have e1 : ¬ decide ((30 : Int) < depthE (atR l i).1) = true := by rw [ht42]; simp
  refine Z36 ?_;refine R.call Tryz.call83 (c83 1048576 _ hok0 (Nat.le_refl _) hsz0 _) ?_;refine Z230 ?_;refine R.fin [0, 1, 4, 6, 7, 8, 53] ?_
  refine W.cond (fun ht53 => ?_) (fun ht53 => ?_)
  ·have e : atS l i (atR l i) = failM 3 (tokAt l i).at_ (atR l i).2 := by unfold atS; rw [if_neg e0, if_neg e1, if_pos ht53]
   refine Z6 ?_;refine Z91 ?_;refine R.indexAddr (i) (tokA (tokAt l i)) jU jS (getTok hi) ?_;refine Z118 ?_
   refine R.callOwn (n := 2) (x := pr l (failM 3 (tokAt l i).at_ (atR l i).2)) Tryz.call82 (c82 l (atR l i).2 3 (tokAt l i).at_ (oid Hp.length 2) _ (by rw [get_oid]; rfl)) ?_
   refine R.fin [4, 6, 7, 8] ?_;exact Z220
  have e : atS l i (atR l i) = (atR l i).2 := by unfold atS; rw [if_neg e0, if_neg e1, if_neg (by rw [ht53]; simp)]
  refine W.keep [4, 6, 7, 8] ?_;refine AW.skip ?_;exact Z220
 refine Z10 ?_;refine Z142 ?_;refine Z191 ?_;refine R.fin [4, 6, 7, 8, 69] ?_
 refine W.cond (fun ht69 => ?_) (fun ht69 => ?_)
 ·have e : atM l i = (nullX, 0, (atS l i (atR l i)).code, (atS l i (atR l i)).at_) := if_pos ht69
  refine W.drawY [0, 0, 2, 6, 14, 1, 33, 127] [5] [.q 5 [] [], .s [] (some 0) [] [], .q 1 [0] []] (fun _ => Hp) (fun _ => [.cells 28 [intA 0, strA [], intA 0, intA 0, strA [], .nil], .cells 33 [intA 0, intA 0], pr l (atS l i (atR l i)), .cells 28 (exprC (atR l i).1)]) Tryzmixed (by kernel_rfl) rfl rfl (fun _ => rfl) ?_
  apply Y.q
  case h1 =>
   intro B hT hF
   refine D.build (places := #[(0, 1), (1, 1), (2, 3), (5, 1)]) jU (fun w => by simp) jZ ?_;refine Z41 ?_;refine D.fieldAddrPtr (fo := 3) jU Tryz.sizeOf33 ?_;exact Z149
  case hTF => decide
  refine Y.storeOwn (u := Hp.length) (n := 0) (t' := 28) (cs := [intA 0, strA [], intA 0, intA 0, strA [], .nil]) (cs' := [intA 0, strA [], intA 0, intA 0, strA [], .nil]) Tryz.sizeOf28 (fun B hB => ⟨rfl, rfl, rfl, rfl⟩) ?_
  apply Y.q
  case h1 =>
   intro B hT hF
   exact Z213
  case hTF => decide
  refine Y.tail (tn := [5])  ?_;refine R.nilCell 0 5 6 ?_;refine Z260 ?_;refine R.fin [4, 5, 6] ?_;refine Z23 ?_;exact K.fin (V.three (V.cellN jA jS) V.tmp (V.cellN jA jS)) ⟨by rw [e, null_agg] <;> rfl, rfl⟩
 have e : atM l i = ((atR l i).1, ((atS l i (atR l i)).i : Int), 0, 0) := if_neg (by rw [ht69]; simp)
 refine Z3 ?_;refine W.drawY [0, 0, 2, 6, 14, 0, 1, 95, 255] [6] [.q 6 [] [], .s [] (some 0) [] [], .q 1 [0] []] (fun _ => Hp) (fun B => [.cells 28 (if B 0 = true then exprC (atR l i).1 else [intA 0, strA [], intA 0, intA 0, strA [], .nil]), .cells 33 [intA 0, intA 0], pr l (atS l i (atR l i)), .cells 28 (exprC (atR l i).1)]) Tryzmixed (by kernel_rfl) rfl rfl (fun _ => rfl) ?_
 apply Y.q
 case h1 =>
  intro B hT hF
  refine D.loadOwnN jA jS ?_;refine Z62 ?_;refine D.loadOwn jA ?_;exact Z169
 case hTF => decide
 refine Y.storeOwn (u := Hp.length) (n := 0) (t' := 28) (cs := [intA 0, strA [], intA 0, intA 0, strA [], .nil]) (cs' := exprC (atR l i).1) Tryz.sizeOf28 (fun B hB => ⟨rfl, by simp only [hB]; rfl, by simp [upd], rfl⟩) ?_
 apply Y.q
 case h1 =>
  intro B hT hF
  exact Z213
 case hTF => decide
 refine Y.tail (tn := [6]) (O := [.cells 28 (exprC (atR l i).1), .cells 33 [intA 0, intA 0], pr l (atS l i (atR l i)), .cells 28 (exprC (atR l i).1)]) ?_;refine Z260 ?_;refine R.fin [4, 5, 6] ?_;refine AW.ret ?_;exact K.fin (V.three (V.cellN jA jS) V.tmp (V.cellN jA jS)) ⟨by rw [e, exprA_eq] <;> rfl, rfl⟩ (hlow := by have := low_agg (n := Hp.length) (atR l i).1; simp at this ⊢; exact this)

theorem lex_len {s : Str} (h : (lexM s).2.1 = 0) : (lexM s).1.length ≤ 4002 := by
 obtain ⟨h1, _, h3⟩ := lexM_ok h
 have h2 := itemsT_len s
 rw [h3]
 simp only [List.length_append, List.length_map, List.length_cons, List.length_nil]
 omega
theorem at_word {l : List Tok} (hl : TokEnd l) (hll : l.length ≤ 1048576) {i : Nat} (hi : i < l.length) (h : (atM l i).2.2.1 = 0) : ∃ k : Nat, (atM l i).2.1 = (k : Int) ∧ k < l.length := by
 have hq := atR_fact hl hll hi
 unfold atM at h ⊢
 split at h
 ·rename_i h1
  have : (atS l i (atR l i)).code = 0 := h
  rw [this] at h1
  cases h1
 rename_i h1
 rw [if_neg h1]
 refine ⟨(atS l i (atR l i)).i, rfl, ?_⟩
 have e : (atS l i (atR l i)).i = (atR l i).2.i := by
  unfold atS
  repeat' split
  all_goals first | rfl | exact failM_i.1
 rw [e]
 exact hq.lt
def exS : Str := [97, 32, 43, 32, 50, 32, 42, 32, 98]
def exL : List Tok := [⟨1, [97], 0⟩, ⟨5, [43], 2⟩, ⟨3, [50], 4⟩, ⟨5, [42], 6⟩, ⟨1, [98], 8⟩, ⟨0, [], 9⟩]
def exX : Expr := binX [43] (nameE [97]) (binX [42] (valX ⟨1, 2, []⟩) (nameE [98]))
theorem list_ext_upto {α : Type} {a b : List α} (hl : a.length = b.length) (h : ∀ (j : Nat) (y : α), j < a.length → a[j]? = some y → b[j]? = some y) : a = b := by
 apply List.ext_getElem hl
 intro j h1 h2
 have := h j a[j] h1 (List.getElem?_eq_getElem h1)
 rw [List.getElem?_eq_getElem h2] at this
 injection this with this
 exact this.symm
theorem c28 (a b : List Str) (ha : a.length ≤ 1048576) (Hp : List AObj) : AFun Tryz.prog 28 [strsA a, strsA b] Hp (boolA (decide (a = b))) := by
 refine ACall.body [.tmp 4] [0, 1] Tryz.func28 Tryz.ntmps28 (fun d => ?_)
 refine Z123 ?_;refine Z248 ?_;refine R.len jU ?_;refine R.neq ?_;refine R.fin [0, 1, 10] ?_
 refine W.cond (fun ht10 => ?_) (fun ht10 => ?_)
 ·have hne : a ≠ b := by rintro rfl; simp at ht10
  refine Z2 ?_;exact Z189
 have hlen : a.length = b.length := by have := ht10; simp at this; omega
 refine Z3 ?_;refine Z106 ?_;refine R.fin [0, 1, 5] ?_
 refine AW.loopC (α := Nat) (fun x => ⟨26, setF 0 (strsA a) (setF 1 (strsA b) (setF 5 (intA (x : Nat)) (fun _ => .any))), Hp, [], [], none⟩) (fun x => x ≤ a.length ∧ ∀ (j : Nat) (y : Str), j < x → a[j]? = some y → b[j]? = some y) (fun x => a.length - x) (0) ⟨Nat.zero_le _, fun j y h => by omega⟩ (StLe.refl _) rfl (fun x hx => ?_)
 refine Z120 ?_;refine Z81 ?_;refine R.fin [0, 1, 5, 14] ?_
 refine W.cond (fun ht14 => ?_) (fun ht14 => ?_)
 ·have hlt : x < a.length := by simpa using ht14
  have hlb : x < b.length := by omega
  refine Z90 ?_;refine Z243 ?_;refine D.indexAddr (x) (strA a[x]) jU jS (getMap hlt) ?_;refine Z280 ?_;refine Z160 ?_;refine D.indexAddr (x) (strA b[x]) jU jS (getMap hlb) ?_;refine Z280 ?_;refine D.tail ?_;refine R.sneq ?_;refine R.fin [0, 1, 5, 25] ?_
  refine W.cond (fun ht25 => ?_) (fun ht25 => ?_)
  ·have hne : a ≠ b := by rintro rfl; simp at ht25
   refine Z2 ?_;refine Z50 ?_;exact Z186
  have heq : a[x] = b[x] := by simpa using ht25
  refine Z180 ?_;refine R.fin [0, 1, 5] ?_
  refine K.lpN (x + 1) ⟨hlt, fun j y hj hy => ?_⟩ (by omega) (StCut.of_eq rfl)
  rcases Nat.lt_or_ge j x with h | h
  ·exact hx.2 j y h hy
  have : j = x := by omega
  subst this
  rw [List.getElem?_eq_getElem hlt] at hy
  rw [List.getElem?_eq_getElem hlb, ← hy, heq]
 have hxe : a.length ≤ x := by simpa using ht14
 refine Z87 ?_;refine Z2 ?_;exact Z146

theorem low_exprs {n k : Nat} {o : Bool} {l : List Expr} : Low n (.slice o k (l.map exprA)) := low_slice.2 fun y hy => by
 obtain ⟨a, _, rfl⟩ := List.mem_map.1 hy
 exact exprA_low _ a
theorem pop_nodes {l : List Expr} (h : 0 < l.length) : nodesL l = l[0] :: nodesL (l[0].kids ++ l.drop 1) ∧ sizeL l = 1 + sizeL (l[0].kids ++ l.drop 1) ∧ l[0].kids.length ≤ sizeL l := by
 cases l with
 | nil => simp at h
 | cons e r =>
  refine ⟨?_, ?_, ?_⟩
  ·show nodesE e ++ nodesL r = e :: nodesL (e.kids ++ r)
   rw [nodesE_eq, nodesL_append]
   rfl
  ·show sizeE e + sizeL r = 1 + sizeL (e.kids ++ r)
   rw [sizeE_eq, sizeL_append]
   omega
  show e.kids.length ≤ sizeE e + sizeL r
  have := sizeL_kids e.kids
  rw [sizeE_eq]
  omega
structure NamesAt (e : Expr) (x : List Expr × List Str) : Prop where
 eq : exprNamesM e = (nodesL x.1).foldl addName x.2
 bd : x.2.length + sizeL x.1 ≤ 1048576
theorem NamesAt.on {e : Expr} {x : List Expr × List Str} (h : NamesAt e x) (h0 : 0 < x.1.length) : NamesAt e (x.1[0].kids ++ x.1.drop 1, addName x.2 x.1[0]) := by
 obtain ⟨a, b, _⟩ := pop_nodes h0
 refine ⟨?_, ?_⟩
 ·rw [h.eq, a, List.foldl_cons]
 have := h.bd
 have := add_len x.2 x.1[0]
 show (addName x.2 x.1[0]).length + sizeL (x.1[0].kids ++ x.1.drop 1) ≤ _
 omega
theorem wide_many {l : List Expr} {n f : Nat} (h0 : l.isEmpty = false) (h : manyF l n = true) : wideF f l n = true := by
 cases f with
 | zero => rw [wideF, h0]; rfl
 | succ f => rw [wideF, if_neg (by rw [h0]; simp), if_pos h]
theorem many_at {l : List Expr} {n y : Nat} (hy : y < l.length) (h : 500 < n + y + 1 ∨ fatM l[y] = true) : manyF l n = true := by
 unfold manyF
 rcases h with h | h
 ·rw [decide_eq_true (by omega)]; rfl
 rw [List.any_eq_true.2 ⟨_, List.getElem_mem hy, h⟩, Bool.or_true]
theorem flat_len {l : List Expr} : ∀ (y : Nat), y ≤ l.length → (∀ (j : Nat) (e : Expr), j < y → l[j]? = some e → fatM e = false) → ((l.take y).flatMap Expr.kids).length ≤ 100 * y
 | 0, _, _ => by simp
 | y + 1, hy, h => by
  rw [List.take_succ_eq_append_getElem hy, List.flatMap_append, List.length_append]
  have h1 := flat_len y (by omega) (fun j e hj he => h j e (by omega) he)
  have h2 := fat_out (h y l[y] (by omega) (List.getElem?_eq_getElem _))
  simp only [List.flatMap_cons, List.flatMap_nil, List.append_nil]
  omega
structure WideAt (l0 : List Expr) (x : List Expr × Nat × Nat) : Prop where
 eq : wideF 61 l0 0 = wideF x.2.2 x.1 x.2.1
 f : x.2.2 ≤ 61
 n : x.2.1 ≤ 500
theorem c70 (l0 : List Expr) (Hp : List AObj) : AFun Tryz.prog 70 [.slice false 6 (l0.map exprA), intA 0] Hp (boolA (wideF 61 l0 0)) := by
 refine ACall.body [.tmp 4] [0, 1] Tryz.func70 Tryz.ntmps70 (fun d => ?_)
 refine Z123 ?_;refine Z2 ?_;refine R.fin [0, 1, 5] ?_;refine W.seq ?_
 refine AW.loopC (α := List Expr × Nat × Nat) (fun x => ⟨67, setF 0 (.slice false 6 (x.1.map exprA)) (setF 1 (intA (61 - (x.2.2 : Int))) (setF 5 (intA (x.2.1 : Nat)) (fun _ => .any))), Hp, [], [], none⟩) (fun x => WideAt l0 x) (fun x => x.2.2) ((l0, 0, 61)) ⟨rfl, Nat.le_refl _, Nat.zero_le _⟩ (StLe.of_eq (by simp)) rfl (fun x hx => ?_)
 refine Z10 ?_;refine R.len jU ?_;refine R.gtr ?_;refine R.fin [0, 1, 5, 10] ?_
 refine W.cond (fun ht10 => ?_) (fun ht10 => ?_)
 ·have hpos : 0 < x.1.length := by simpa using ht10
  have hne : x.1.isEmpty = false := by cases hxx : x.1 with
   | nil => rw [hxx] at hpos; simp at hpos
   | cons a r => rfl
  have hxf := hx.f
  refine Z246 ?_;refine Z252 ?_;refine Z174 ?_;refine R.fin [0, 1, 5, 6] ?_;refine Z106 ?_;refine R.fin [0, 1, 5, 6, 7] ?_
  refine AW.loopC (α := Nat) (fun y => ⟨67, setF 0 (.slice false 6 (x.1.map exprA)) (setF 1 (intA (61 - (x.2.2 : Int))) (setF 5 (intA ((x.2.1 + y : Nat) : Int)) (setF 6 (.slice true 6 (((x.1.take y).flatMap Expr.kids).map exprA)) (setF 7 (intA (y : Nat)) (fun _ => .any))))), Hp, [], [], none⟩) (fun y => y ≤ x.1.length ∧ x.2.1 + y ≤ 500 ∧ ∀ (j : Nat) (e : Expr), j < y → x.1[j]? = some e → fatM e = false) (fun y => x.1.length - y) (0) ⟨Nat.zero_le _, hx.n, fun j e h => by omega⟩ (StLe.of_eq (by simp)) rfl (fun y hy => ?_)
  refine Z120 ?_;refine Z81 ?_;refine R.fin [0, 1, 5, 6, 7, 15] ?_
  refine W.cond (fun ht15 => ?_) (fun ht15 => ?_)
  ·have hlt : y < x.1.length := by simpa using ht15
   have hyn := hy.2.1
   refine Z90 ?_;refine Z0 ?_;refine Z33 ?_;refine R.fin [0, 1, 5, 6, 7] ?_;refine Z10 ?_;refine R.gtr ?_;refine Z153 ?_;refine Z21 ?_;refine G.slen jU ?_;refine Z94 ?_;refine Z153 ?_;refine G.fieldAddrRo (off := 2) jU Tryz.sizeOf25 ?_;refine G.fieldAddrRo (off := 2) jU Tryz.sizeOf9 ?_;refine G.loadRo jA ?_;refine G.slen jU ?_;refine Z94 ?_;refine Z153 ?_;refine Z136 ?_;refine Z94 ?_;refine R.fin [0, 1, 5, 6, 7, 49] ?_
   refine W.cond (fun ht49 => ?_) (fun ht49 => ?_)
   ·have hm : manyF x.1 x.2.1 = true := many_at hlt (by
     simp only [Bool.or_eq_true, decide_eq_true_eq, List.length_map] at ht49
     unfold fatM
     simp only [Bool.or_eq_true, decide_eq_true_eq]
     omega)
    have hw := wide_many (f := x.2.2) hne hm
    refine Z2 ?_;refine Z159 ?_;refine Z104 ?_;refine K.blR ?_;exact Z206
   have hfat : fatM x.1[y] = false ∧ x.2.1 + y + 1 ≤ 500 := by
    simp only [Bool.or_eq_false_iff, decide_eq_false_iff_not, List.length_map] at ht49
    unfold fatM
    simp only [Bool.or_eq_false_iff, decide_eq_false_iff_not]
    omega
   have hkl := (fat_out hfat.1).2.2
   have hfm : (x.1.take (y + 1)).flatMap Expr.kids = (x.1.take y).flatMap Expr.kids ++ x.1[y].kids := by rw [List.take_succ_eq_append_getElem hlt, List.flatMap_append]; simp
   refine Z3 ?_;refine Z242 ?_;refine Z91 ?_;refine R.indexAddr (y) (exprA x.1[y]) jU jS (getMap hlt) ?_;refine Z7 ?_
   refine R.append jU Tryz.type28 ?_ ?_ ?_
   ·have h1 := flat_len y hy.1 hy.2.2; have h2 := hkl; have h3 := hy.2.1; simp only [List.length_map, Tryz.t28]; omega
   ·have h1 := flat_len y hy.1 hy.2.2; have h2 := hkl; have h3 := hy.2.1; simp only [List.length_map, Tryz.t28]; omega
   refine R.assignT ?_;refine R.fin [0, 1, 5, 6, 7] ?_;refine Z11 ?_;refine Z74 ?_;refine R.fin [0, 1, 5, 6, 7] ?_
   refine K.lpN (y + 1) ⟨hlt, by omega, upto_succ hlt hy.2.2 hfat.1⟩ (by omega) (StCut.of_eq ?_)
   rw [hfm, List.map_append]
   rfl
  have hye : x.1.take y = x.1 := List.take_of_length_le (by simp at ht15; omega)
  have hyl : y = x.1.length := by have := hy.1; simp at ht15; omega
  have hmany : manyF x.1 x.2.1 = false := by
   unfold manyF
   rw [decide_eq_false (by have := hy.2.1; omega), Bool.false_or, List.any_eq_false]
   intro e he
   obtain ⟨j, hj⟩ := List.getElem?_of_mem he
   rw [hy.2.2 j e (by have := (List.getElem?_eq_some_iff.1 hj).1; omega) hj]
   simp
  refine Z87 ?_;refine Z10 ?_;refine R.len jU ?_;refine R.gtr ?_;refine Z18 ?_;refine Z94 ?_;refine R.fin [1, 5, 6, 63] ?_
  refine W.cond (fun ht63 => ?_) (fun ht63 => ?_)
  ·have hw : wideF x.2.2 x.1 x.2.1 = true := by
    have h9 := ht63
    rw [hye] at h9
    simp only [Bool.or_eq_true, decide_eq_true_eq, List.length_map] at h9
    cases hf : x.2.2 with
    | zero => rw [wideF, hne]; rfl
    | succ f =>
     rw [wideF, if_neg (by rw [hne]; simp), if_neg (by rw [hmany]; simp), if_pos (by rw [decide_eq_true_eq]; omega)]
   refine Z2 ?_;refine Z159 ?_;refine K.blR ?_;exact Z206
  have h9 := ht63
  rw [hye] at h9
  simp only [Bool.or_eq_false_iff, decide_eq_false_iff_not, List.length_map] at h9
  obtain ⟨f, hf⟩ : ∃ f, x.2.2 = f + 1 := ⟨x.2.2 - 1, by omega⟩
  have hw : wideF x.2.2 x.1 x.2.1 = wideF f (x.1.flatMap Expr.kids) (x.2.1 + x.1.length) := by
   rw [hf, wideF, if_neg (by rw [hne]; simp), if_neg (by rw [hmany]; simp), if_neg (by rw [decide_eq_true_eq]; omega)]
  refine Z95 ?_;refine Z258 ?_;refine R.fin [0, 1, 5] ?_;refine Z74 ?_;refine R.fin [0, 1, 5] ?_;refine K.blN ?_
  refine K.lpN (x.1.flatMap Expr.kids, x.2.1 + x.1.length, f) ⟨hx.eq.trans hw, by show f ≤ 61; omega, by show x.2.1 + x.1.length ≤ 500; have := hy.2.1; omega⟩ (by show f < x.2.2; omega) (StCut.of_eq ?_)
  rw [hye, hyl]
  congr 4
  simp only [AV.v.injEq, Value.int.injEq, true_and]
  omega
 have hnil : x.1 = [] := by have := ht10; simp at this; exact this
 refine Z87 ?_;refine Z2 ?_;refine Z50 ?_;exact K.fin (V.one V.tmp) ⟨by rw [hx.eq, hnil]; cases x.2.2 <;> rfl, rfl⟩

theorem c38 (e : Expr) (Hp : List AObj) : AFun Tryz.prog 38 [exprA e] Hp (boolA (wideM e)) := by
 refine ACall.body [.tmp 2] [0] Tryz.func38 Tryz.ntmps38 (fun d => ?_)
 refine Z70 ?_;refine Z72 ?_;refine Z270 ?_;refine R.call Tryz.call70 (c70 [e] _) ?_;exact Z66

set_option maxRecDepth 8000
/-! What a tree comes to: eval's model. -/
abbrev Rs := Val × Int
def wrongR (e : Int) : Rs := (noV, e)
def cutV (s : Str) : Val := ⟨2, 0, s.take 200⟩
def wholeR (x : Int × Int) : Rs := if x.2 != 0 then wrongR x.2 else (⟨1, x.1, []⟩, 0)
def addI (a b : Int) : Int × Int := if decide (bandI .i64 (bxorI .i64 a (IntKind.i64.wrap (a + b))) (bxorI .i64 b (IntKind.i64.wrap (a + b))) < 0) then (0, 4) else (IntKind.i64.wrap (a + b), 0)
def subI (a b : Int) : Int × Int := if decide (bandI .i64 (bxorI .i64 a b) (bxorI .i64 a (IntKind.i64.wrap (a - b))) < 0) then (0, 4) else (IntKind.i64.wrap (a - b), 0)
def sizeI (a : Int) : Int := if decide (a < 0) then IntKind.u64.wrap (0 - IntKind.u64.wrap a) else IntKind.u64.wrap a
def kindsM : List Val → List Int → Bool
 | _, [] => true
 | [], _ :: _ => false
 | v :: vs, k :: ks => (v.kind == k) && kindsM vs ks
def joinR (a b : Val) : Rs := if !kindsM [a, b] [2, 2] then wrongR 10 else if decide ((200 : Int) < (a.s.length : Int) + (b.s.length : Int)) then wrongR 3 else (cutV (a.s ++ b.s), 0)
def truthR (r : Rs) : Rs := if (r.2 == 0) && (r.1.kind != 0) && (r.1.kind != 3) then wrongR 10 else r
def logicR (strong : Val) (a b : Rs) : Rs := if ((truthR a).2 != 0) || ((truthR a).1 == strong) then truthR a else if (((truthR b).2 != 0) || ((truthR b).1 == strong)) || ((truthR a).1.kind != 0) then truthR b else ((truthR a).1, 0)
def ifW : Str := [105, 102]
def nvlW : Str := [110, 118, 108]
def isnullW : Str := [105, 115, 110, 117, 108, 108]
def callR (t : Str) (a b c : Rs) : Rs :=
 if t == ifW then (if (truthR a).2 != 0 then wrongR (truthR a).2 else if (truthR a).1 == boolV true then b else c)
 else if a.2 != 0 then wrongR a.2 else if t == isnullW then (boolV (a.1.kind == 0), 0) else if a.1.kind != 0 then (a.1, 0) else b
def allR (strict : List Val → Rs) (l : List Rs) : Rs := match l.find? (fun q => q.2 != 0) with | some q => wrongR q.2 | none => if l.any (fun q => q.1.kind == 0) then (noV, 0) else strict (l.map (·.1))
def nameR (c : List Col) (l : List Val) (t : Str) : Rs := if findM t c < 0 then wrongR 9 else (l.getD (findM t c).toNat noV, 0)
def orW : Str := [111, 114]
def andW : Str := [97, 110, 100]
/-- A node, of what its kids come to; what a strict node comes to is a parameter. -/
def evalN (strict : Int → Str → List Val → Rs) (c : List Col) (l : List Val) (o : Int) (t : Str) (v : Val) (ks : List Rs) : Rs :=
 if o == 1 then (v, 0) else if o == 2 then nameR c l t
 else if (o == 5) && (t == orW) then logicR (boolV true) (ks.getD 0 (noV, 0)) (ks.getD 1 (noV, 0))
 else if (o == 5) && (t == andW) then logicR (boolV false) (ks.getD 0 (noV, 0)) (ks.getD 1 (noV, 0))
 else if (o == 6) && (((t == ifW) || (t == nvlW)) || (t == isnullW)) then callR t (ks.getD 0 (noV, 0)) (ks.getD 1 (noV, 0)) (ks.getD 2 (noV, 0))
 else allR (strict o t) ks
mutual
def evalS (strict : Int → Str → List Val → Rs) (c : List Col) (l : List Val) : Expr → Rs
 | .mk o t v k => evalN strict c l o t v (evalL strict c l k)
def evalL (strict : Int → Str → List Val → Rs) (c : List Col) (l : List Val) : List Expr → List Rs
  | [] => []
  | e :: r => evalS strict c l e :: evalL strict c l r
 end
def rowP (c : List Col) (l : List Val) : Bool := (colsP c && (l.length == c.length)) && (l.zip c).all fun p => plainM p.1 && ((p.1.kind == 0) || (p.1.kind == p.2.kind))
/-- eval.Eval. -/
def evalR (f : Int → Str → List Val → Rs) (x : Expr) (c : List Col) (l : List Val) : Rs := if (!(exprRightM x)) || !(rowP c l) then wrongR 1 else evalS f c l x
/-! A tree in a column's place comes to what its value would there. -/
mutual
theorem eval_put {f : Int → Str → List Val → Rs} {c : List Col} {l m : List Val} {s : Str} {y : Expr} (hs : nameR c m s = evalS f c l y) (ho : ∀ t, t ≠ s → nameR c m t = nameR c l t) : ∀ x : Expr, evalS f c l (putE s y x) = evalS f c m x
 | .mk o t v k => by
  rw [putE]
  split
  ·rename_i h
   rw [Bool.and_eq_true, beq_iff_eq, beq_iff_eq] at h
   obtain ⟨rfl, rfl⟩ := h
   rw [← hs, evalS]
   rfl
  rename_i h
  rw [evalS, evalS, evalL_put hs ho k]
  unfold evalN
  by_cases h2 : (o == 2) = true
  ·have : t ≠ s := fun e => h (by rw [h2, e]; simp)
   rw [ho t this]
  rw [if_neg h2, if_neg h2]
theorem evalL_put {f : Int → Str → List Val → Rs} {c : List Col} {l m : List Val} {s : Str} {y : Expr} (hs : nameR c m s = evalS f c l y) (ho : ∀ t, t ≠ s → nameR c m t = nameR c l t) : ∀ k : List Expr, evalL f c l (putL s y k) = evalL f c m k
  | [] => rfl
  | e :: r => by rw [putL, evalL, evalL, eval_put hs ho e, evalL_put hs ho r]
 end
/-! Who is not named plays no part. -/
/-! What a strict node comes to. -/
def mulI (a b : Int) : Int × Int :=
 let p := sizeI a * sizeI b
 let below := decide (a < 0) != decide (b < 0)
 if decide (0 < p / 18446744073709551616) || decide ((if below then 9223372036854775808 else 9223372036854775807) < p % 18446744073709551616) then (0, 4)
 else if below then (IntKind.i64.wrap (IntKind.u64.wrap (0 - p % 18446744073709551616)), 0) else (IntKind.i64.wrap (p % 18446744073709551616), 0)
def divI (a b : Int) : Int × Int := if b == 0 then (0, 5) else if (a == -9223372036854775808) && (b == -1) then (0, 4) else (IntKind.i64.wrap (a.tdiv b), 0)
def remI (a b : Int) : Int × Int := if b == 0 then (0, 5) else if b == -1 then (0, 0) else (IntKind.i64.wrap (a.tmod b), 0)
def arithI (t : Str) (a b : Int) : Int × Int := if t == [43] then addI a b else if t == [45] then subI a b else if t == [42] then mulI a b else if t == [47] then divI a b else remI a b
def comparedM (t : Str) (c : Int) : Bool × Bool := if t == [61] then (c == 0, true) else if t == [33, 61] then (c != 0, true) else if t == [60] then (decide (c < 0), true) else if t == [60, 61] then (decide (c ≤ 0), true) else if t == [62] then (decide (0 < c), true) else if t == [62, 61] then (decide (0 ≤ c), true) else (false, false)
def cmpI (a b : Int) : Int := if decide (a < b) then -1 else if decide (b < a) then 1 else 0
def orI : List Int → Int
 | [] => 0
 | a :: r => if a != 0 then a else orI r
def cmpV (a b : Val) : Int := if (!(plainM a)) || !(plainM b) then 0 else orI [cmpI a.kind b.kind, cmpI a.n b.n, Lib.compareBytes a.s b.s]
def binM (t : Str) (a b : Val) : Rs := if (comparedM t (cmpV a b)).2 then (if a.kind != b.kind then wrongR 10 else (boolV (comparedM t (cmpV a b)).1, 0)) else if t == [38] then joinR a b else if !kindsM [a, b] [1, 1] then wrongR 10 else wholeR (arithI t a.n b.n)
def fun1M (t : Str) (v : Val) : Rs := if (t == [115, 116, 114]) && (v.kind == 1) then (cutV (Lib.itoa v.n), 0) else if (t == [108, 101, 110]) && (v.kind == 2) then (⟨1, v.s.length, []⟩, 0) else if (t == [110, 117, 109]) && (v.kind == 2) then wholeR (numReadM v.s) else wrongR 10
def pieceM (t : Str) (s : Str) (n : Int) : Val := if t == [108, 101, 102, 116] then cutV (s.take (max 0 (min n s.length)).toNat) else cutV (s.drop (s.length - (max 0 (min n s.length)).toNat))
def strictM (o : Int) (t : Str) (l : List Val) : Rs :=
 if o == 5 then binM t (l.getD 0 noV) (l.getD 1 noV) else if (o == 3) && kindsM l [1] then wholeR (subI 0 (l.getD 0 noV).n) else if (o == 4) && kindsM l [3] then (boolV ((l.getD 0 noV).n == 0), 0)
 else if o != 6 then wrongR 10 else if (l.length : Int) == 1 then fun1M t (l.getD 0 noV) else if !kindsM l [2, 1] then wrongR 10 else (pieceM t (l.getD 0 noV).s (l.getD 1 noV).n, 0)
abbrev evalE (c : List Col) (l : List Val) (e : Expr) : Rs := evalS strictM c l e
abbrev evalM (x : Expr) (c : List Col) (l : List Val) : Rs := evalR strictM x c l
/-! Values are plain, and their numbers have 64 bits. -/
structure Fine (v : Val) : Prop where
 plain : plainM v = true
 lo : -9223372036854775808 ≤ v.n
 hi : v.n ≤ 9223372036854775807
theorem Fine.len {v : Val} (h : Fine v) : v.s.length ≤ 200 := by
 have h := h.plain
 unfold plainM at h
 split at h
 ·simp only [Bool.and_eq_true, beq_iff_eq] at h; rw [h.2]; exact Nat.zero_le _
 split at h
 ·rw [beq_iff_eq] at h; rw [h]; exact Nat.zero_le _
 split at h
 ·simp only [Bool.and_eq_true, decide_eq_true_eq] at h; omega
 simp only [Bool.and_eq_true, beq_iff_eq] at h; rw [h.1.1.2]; exact Nat.zero_le _
def valOk (e : Expr) : Bool := !(e.op == 1) || plainM e.val
/-! A text between marks. -/
theorem close_dbl {R : Str} (hR : ∀ c r, R = c :: r → c ≠ 39) : ∀ t : Str, closeQ (dblM t ++ 39 :: R) = some ((dblM t).length + 1)
 | [] => by
  show closeQ (39 :: R) = some 1
  cases R with
  | nil => rfl
  | cons d r =>
   have : (d == 39) = false := by simpa using hR d r rfl
   rw [closeQ, if_pos (by decide), this]
   rfl
 | c :: t => by
  rw [dblM_cons]
  by_cases hc : c = 39
  ·subst hc
   rw [show dblC 39 = [39, 39] from rfl]
   show closeQ (39 :: 39 :: (dblM t ++ 39 :: R)) = _
   rw [closeQ, if_pos (by decide), if_pos (by decide), close_dbl hR t]
   simp
  rw [show dblC c = [c] from if_neg hc]
  show closeQ (c :: (dblM t ++ 39 :: R)) = _
  rw [close_other (by simpa using hc), close_dbl hR t]
  simp
theorem splitD : ∀ t : Str, (Lib.index (dblM t) [39, 39] = -1 ∧ dblM t = t) ∨ ∃ i : Nat, Lib.index (dblM t) [39, 39] = (i : Int) ∧ i < t.length ∧ (dblM t).take i = t.take i ∧ (dblM t).drop (i + 2) = dblM (t.drop (i + 1)) ∧ t = t.take i ++ [39] ++ t.drop (i + 1)
 | [] => .inl ⟨rfl, rfl⟩
 | b :: l => by
  by_cases hb : b = 39
  ·subst hb
   refine .inr ⟨0, ?_, by simp, rfl, ?_, by simp⟩
   ·rw [dblM_cons]
    show Lib.index (39 :: 39 :: dblM l) [39, 39] = 0
    rw [Lib.index, if_pos (by simp [List.isPrefixOf])]
   rw [dblM_cons]
   rfl
  have hd : dblM (b :: l) = b :: dblM l := by
   rw [dblM_cons, dblC, if_neg hb]
   rfl
  have hp : ([39, 39] : Str).isPrefixOf (b :: dblM l) = false := by
   simp [List.isPrefixOf, Ne.symm hb]
  rcases splitD l with ⟨h1, h2⟩ | ⟨i, h1, h2, h3, h4, h5⟩
  ·refine .inl ⟨?_, by rw [hd, h2]⟩
   rw [hd, Lib.index, hp, h1]; rfl
  refine .inr ⟨i + 1, ?_, by simp; omega, ?_, ?_, ?_⟩
  ·rw [hd, Lib.index, hp, h1, if_neg (by simp), if_neg (by simp)]
   rfl
  ·rw [hd, List.take_succ_cons, List.take_succ_cons, h3]
  ·rw [hd, show i + 1 + 2 = (i + 2) + 1 by omega, List.drop_succ_cons, List.drop_succ_cons, h4]
  rw [List.take_succ_cons, List.drop_succ_cons, List.cons_append, List.cons_append, ← h5]
theorem replaceK_un : ∀ (n : Nat) (t : Str), t.length ≤ n → Lib.replaceK [39, 39] [39] (Lib.count (dblM t) [39, 39]) (dblM t) = t
 | n, t, hn => by
  rcases splitD t with ⟨h1, h2⟩ | ⟨i, h1, h2, h3, h4, h5⟩
  ·rw [Lib.count_miss h1]; exact h2
  cases n with
  | zero => omega
  | succ n =>
   rw [Lib.count_hit (by decide) h1, Nat.add_comm, Lib.replaceK_hit _ _ _ _ i h1]
   have e : i + ([39, 39] : Str).length = i + 2 := rfl
   rw [e, h4, replaceK_un n (t.drop (i + 1)) (by rw [List.length_drop]; omega), h3]
   exact h5.symm
theorem replace_un (t : Str) : Lib.replaceAll (dblM t) [39, 39] [39] = t := by
 unfold Lib.replaceAll Lib.replace
 rw [if_neg (by decide)]
 have e : Lib.replaceNum (dblM t) [39, 39] (-1) = Lib.count (dblM t) [39, 39] := by unfold Lib.replaceNum; rw [if_pos (.inl (by decide))]
 rw [e]
 exact replaceK_un _ t (Nat.le_refl _)
theorem read_text {t : Str} (h : t.length ≤ 200) : readM ([39] ++ dblM t ++ [39]) = (⟨2, 0, t⟩, 0) := by
 have hin : innerM ([39] ++ dblM t ++ [39]) = t := by
  unfold innerM
  have : (([39] ++ dblM t ++ [39] : Str).take (([39] ++ dblM t ++ [39] : Str).length - 1)).drop 1 = dblM t := by
   rw [show ([39] ++ dblM t ++ [39] : Str).length - 1 = ([39] ++ dblM t : Str).length by simp, List.take_left]
   rfl
  rw [this]
  exact replace_un t
 have ht : textV ([39] ++ dblM t ++ [39]) = ⟨2, 0, t⟩ := by
  unfold textV
  rw [hin, List.take_of_length_le h]
 have hp : plainM ⟨2, 0, t⟩ = true := by
  unfold plainM
  simp
  omega
 have hpr : printM ⟨2, 0, t⟩ = [39] ++ dblM t ++ [39] := by
  unfold printM
  rw [hp, replace_dbl]
  rfl
 have hq : quotM ([39] ++ dblM t ++ [39]) = true := by
  unfold quotM
  simp [Lib.hasPrefix, Lib.hasSuffix, List.isPrefixOf]
  omega
 unfold readM
 have n1 : (([39] ++ dblM t ++ [39] : Str) == [110, 117, 108, 108]) = false := by rw [beq_eq_false_iff_ne]; intro e; injection e with e; exact absurd e (by decide)
 have n2 : (([39] ++ dblM t ++ [39] : Str) == [116, 114, 117, 101]) = false := by rw [beq_eq_false_iff_ne]; intro e; injection e with e; exact absurd e (by decide)
 have n3 : (([39] ++ dblM t ++ [39] : Str) == [102, 97, 108, 115, 101]) = false := by rw [beq_eq_false_iff_ne]; intro e; injection e with e; exact absurd e (by decide)
 rw [n1, n2, n3, hq]
 simp only [Bool.false_eq_true, if_false, Bool.or_self, if_true]
 unfold textR
 rw [ht, hpr]
 simp
theorem text_L {t R : Str} (h : t.length ≤ 200) (hR : stopC R) : Lx ([39] ++ dblM t ++ [39]) [(4, t)] R := by
 have h39 : ∀ c r, R = c :: r → c ≠ 39 := fun c r e => by rcases hR c r e with rfl | rfl | rfl | rfl | rfl <;> decide
 refine Lx.word (by simp) (by show blanks.contains 39 = false; kernel_rfl) (by show (39 : UInt8) ≠ 35; decide) ?_
 have e : [39] ++ dblM t ++ [39] ++ R = 39 :: (dblM t ++ 39 :: R) := by simp
 rw [e]
 have h1 : ¬ (decide (0 < runM ((39 :: (dblM t ++ 39 :: R)).take 1) letters) = true) := by
  rw [show (39 :: (dblM t ++ 39 :: R)).take 1 = [39] from rfl, run_one, show letters.contains 39 = false by kernel_rfl]; simp
 have h2 : ¬ (decide (0 < runM ((39 :: (dblM t ++ 39 :: R)).take 1) digs) = true) := by
  rw [show (39 :: (dblM t ++ 39 :: R)).take 1 = [39] from rfl, run_one, show digs.contains 39 = false by kernel_rfl]; simp
 unfold wordM
 rw [if_neg h1, if_neg h2, if_pos (by rfl)]
 unfold quotedM
 rw [show (39 :: (dblM t ++ 39 :: R)).drop 1 = dblM t ++ 39 :: R from rfl, close_dbl h39 t]
 have ht : (39 :: (dblM t ++ 39 :: R)).take ((dblM t).length + 1 + 1) = [39] ++ dblM t ++ [39] := by
  rw [← e, show (dblM t).length + 1 + 1 = ([39] ++ dblM t ++ [39] : Str).length by simp]
  exact List.take_left
 simp only [ht, read_text h]
 simp
set_option maxRecDepth 4000
theorem eqL_upto {a b : List Expr} (hl : a.length = b.length) (h : ∀ (j : Nat) (y z : Expr), j < a.length → a[j]? = some y → b[j]? = some z → eqE y z = true) : eqL a b = true := by
 rw [eqL_iff]
 refine list_ext_upto hl fun j y hj hy => ?_
 have hjb : j < b.length := by omega
 have := h j y b[j] hj hy (List.getElem?_eq_getElem hjb)
 rw [List.getElem?_eq_getElem hjb, (eqE_iff _ _).1 this]
theorem eqL_at {a b : List Expr} (h : eqL a b = true) {j : Nat} (hj : j < a.length) (hb : j < b.length) : eqE a[j] b[j] = true := by
 have e := (eqL_iff _ _).1 h
 subst e
 exact eqE_refl _
theorem neq_at {a b : List Expr} {j : Nat} (hj : j < a.length) (hb : j < b.length) (h : eqE a[j] b[j] = false) : eqL a b = false := by
 rw [Bool.eq_false_iff]
 intro h2
 rw [eqL_at h2 hj hb] at h
 cases h
theorem neq_len {a b : List Expr} (h : a.length ≠ b.length) : eqL a b = false := by
 rw [Bool.eq_false_iff]
 exact fun h2 => h (eqL_len h2)
theorem uptoE {a b : List Expr} {x : Nat} (hx : x < a.length) (hb : x < b.length) (h : ∀ (j : Nat) (y z : Expr), j < x → a[j]? = some y → b[j]? = some z → eqE y z = true) (he : eqE a[x] b[x] = true) : ∀ (j : Nat) (y z : Expr), j < x + 1 → a[j]? = some y → b[j]? = some z → eqE y z = true := by
 intro j y z hj h1 h2
 rcases Nat.lt_or_ge j x with h3 | h3
 ·exact h j y z h3 h1 h2
 have : j = x := by omega
 subst this
 rw [List.getElem?_eq_getElem hx] at h1
 rw [List.getElem?_eq_getElem hb] at h2
 injection h1 with h1
 injection h2 with h2
 rw [← h1, ← h2]
 exact he
def headE (x y : Expr) : Bool := ((x.op == y.op) && (x.text == y.text)) && ((x.val.kind == y.val.kind && x.val.n == y.val.n) && x.val.s == y.val.s)
theorem eq_head (x y : Expr) : eqE x y = (headE x y && eqL x.kids y.kids) := eqE_eq x y
theorem c29 : ∀ (n : Nat) (x : Expr), okE n x → ∀ (y : Expr) (Hp : List AObj), AFun Tryz.prog 29 [exprA x, exprA y] Hp (boolA (eqE x y)) := by
 intro n
 induction n with
 | zero => exact fun x h => h.elim
 | succ n ih =>
 intro x hok y Hp
 refine ACall.body [.tmp 4] [0, 1] Tryz.func29 Tryz.ntmps29 (fun d => ?_)
 refine Z221 ?_;refine Z45 ?_;refine Z158 ?_;refine Z8 ?_;refine R.neq ?_;refine Z257 ?_;refine Z21 ?_;refine Z21 ?_;refine G.sneq ?_;refine Z227 ?_;refine Z112 ?_;refine Z112 ?_;refine G.neqAgg eg25 (fun w => equal25 x.val.kind x.val.n y.val.kind y.val.n x.val.s y.val.s w) ?_;refine Z227 ?_;refine Z136 ?_;refine Z136 ?_;refine G.neq ?_;refine Z253 ?_;refine R.fin [2, 3, 33] ?_
 refine W.cond (fun ht33 => ?_) (fun ht33 => ?_)
 ·have hf : eqE x y = false := by
   rw [eq_head]
   simp only [Bool.or_eq_true, bne_iff_ne, ne_eq, List.length_map, Bool.not_eq_true'] at ht33
   by_cases hh : headE x y = true
   ·rw [hh, Bool.true_and]
    refine neq_len ?_
    unfold headE at hh
    simp only [Bool.and_eq_true, beq_iff_eq] at hh
    obtain ⟨⟨h1, h2⟩, ⟨h3, h4⟩, h5⟩ := hh
    rcases ht33 with ((h | h) | h) | h
    ·exact absurd h1 h
    ·simp [h2] at h
    ·simp [h3, h4, h5] at h
    intro e; exact h (by rw [e])
   rw [Bool.not_eq_true] at hh
   rw [hh, Bool.false_and]
  refine Z2 ?_;refine Z159 ?_;exact Z281
 have hh : headE x y = true ∧ x.kids.length = y.kids.length := by
  simp only [Bool.or_eq_false_iff, bne_eq_false_iff_eq, List.length_map, Bool.not_eq_false'] at ht33
  obtain ⟨⟨⟨h1, h2⟩, h3⟩, h4⟩ := ht33
  unfold headE
  refine ⟨?_, by omega⟩
  simp only [beq_iff_eq, Bool.and_eq_true] at h1 h2 h3 ⊢
  exact ⟨⟨h1, h2⟩, h3⟩
 obtain ⟨hh, hlen⟩ := hh
 have hkl := hok.2.1
 refine Z3 ?_;refine Z106 ?_;refine R.fin [2, 3, 5] ?_
 refine AW.loopC (α := Nat) (fun i => ⟨53, setF 2 (.ro (exprC x)) (setF 3 (.ro (exprC y)) (setF 5 (intA (i : Nat)) (fun _ => .any))), Hp, [], [], none⟩) (fun i => i ≤ x.kids.length ∧ ∀ (j : Nat) (a b : Expr), j < i → x.kids[j]? = some a → y.kids[j]? = some b → eqE a b = true) (fun i => x.kids.length - i) (0) ⟨Nat.zero_le _, fun j a b h => by omega⟩ (StLe.refl _) rfl (fun i hi => ?_)
 refine Z10 ?_;refine Z7 ?_;refine Z81 ?_;refine R.fin [2, 3, 5, 38] ?_
 refine W.cond (fun ht38 => ?_) (fun ht38 => ?_)
 ·have hlt : i < x.kids.length := by simpa using ht38
  have hly : i < y.kids.length := by omega
  refine Z90 ?_;refine W.draw [0, 1, 0, 7, 15, 0, 32, 0, 224, 480, 1023, 2047] 10 Tryzmixed (by kernel_rfl) ?_;refine Z73 ?_;refine D.move ?_;refine D.indexAddr (i) (exprA x.kids[i]) jU jS (getMap hlt) ?_;refine D.loadRoN jA jS ?_;refine Z73 ?_;refine D.move ?_;refine D.indexAddr (i) (exprA y.kids[i]) jU jS (getMap hly) ?_;refine D.loadRoN jA jS ?_;refine D.tail ?_;refine R.call Tryz.call29 (ih x.kids[i] (hok.2.2 _ (List.getElem_mem hlt)) y.kids[i] _) ?_;refine R.not ?_;refine R.fin [2, 3, 5, 52] ?_
  refine W.cond (fun ht52 => ?_) (fun ht52 => ?_)
  ·have hf : eqE x y = false := by rw [eq_head, neq_at hlt hly (by simpa using ht52), Bool.and_false]
   refine Z2 ?_;refine Z50 ?_;exact Z228
  have he : eqE x.kids[i] y.kids[i] = true := by simpa using ht52
  refine Z180 ?_;refine R.fin [2, 3, 5] ?_;exact K.lpN (i + 1) ⟨hlt, uptoE hlt hly hi.2 he⟩ (by omega) (StCut.of_eq rfl)
 have hxe : x.kids.length ≤ i := by simpa using ht38
 refine Z87 ?_;refine Z2 ?_;refine Z50 ?_;exact K.fin (V.one V.tmp) ⟨by rw [eq_head, hh, eqL_upto hlen (fun j a b hj => hi.2 j a b (by omega))]; rfl, rfl⟩

theorem c74 (n : Nat) (a b : List Expr) (ha : a.length ≤ 1048576) (hok : ∀ y ∈ a, okE n y) (ih : ∀ (x : Expr), okE n x → ∀ (y : Expr) (Hp : List AObj), AFun Tryz.prog 43 [exprA x, exprA y] Hp (boolA (eqE x y))) (Hp : List AObj) : AFun Tryz.prog 74 [.slice false 6 (a.map exprA), .slice false 6 (b.map exprA), .fn (.func 43) [] []] Hp (boolA (eqL a b)) := by
 refine ACall.body [.tmp 6] [0, 1, 2] Tryz.func74 Tryz.ntmps74 (fun d => ?_)
 refine Z2 ?_;refine R.fin [0, 1, 2] ?_;refine Z248 ?_;refine R.len jU ?_;refine R.neq ?_;refine R.fin [0, 1, 2, 14] ?_
 refine W.cond (fun ht14 => ?_) (fun ht14 => ?_)
 ·have hf : eqL a b = false := neq_len (by have := ht14; simp at this; omega)
  refine Z2 ?_;refine R.fin [6] ?_;refine Z23 ?_;exact Z281
 have hlen : a.length = b.length := by have := ht14; simp at this; omega
 refine Z3 ?_;refine Z248 ?_;refine R.fin [1, 2, 15, 16, 17] ?_
 refine AW.loopC (α := Nat) (fun i => ⟨32, setF 1 (.slice false 6 (b.map exprA)) (setF 2 (.fn (.func 43) [] []) (setF 15 (.slice false 6 (a.map exprA)) (setF 16 (intA (a.length : Nat)) (setF 17 (intA (i : Nat)) (fun _ => .any))))), Hp, [], [], none⟩) (fun i => i ≤ a.length ∧ ∀ (j : Nat) (y z : Expr), j < i → a[j]? = some y → b[j]? = some z → eqE y z = true) (fun i => a.length - i) (0) ⟨Nat.zero_le _, fun j y z h => by omega⟩ (StLe.of_eq (by simp)) rfl (fun i hi => ?_)
 refine Z190 ?_;refine R.fin [1, 2, 15, 16, 17, 18] ?_
 refine W.condX (fun ht18 => ?_) (fun ht18 => ?_)
 ·have hlt : i < a.length := by simpa using ht18
  have hlb : i < b.length := by omega
  refine Z197 ?_;refine R.indexAddr (i) (exprA a[i]) jU jS (getMap hlt) ?_;refine Z272 ?_;refine R.alloc jZ ?_;refine Z258 ?_;refine Z260 ?_;refine R.fin [1, 2, 7, 8, 15, 16, 17] ?_;refine Z47 ?_;refine R.indexAddr (i) (exprA b[i]) jU jS (getMap hlb) ?_;refine Z272 ?_;refine Z20 ?_;refine R.fin [1, 2, 8, 9, 15, 16, 17] ?_;refine Z0 ?_;refine Z263 ?_;refine Z263 ?_;refine R.callV Tryz.call43 (ih a[i] (hok _ (List.getElem_mem hlt)) b[i] _) ?_;refine R.not ?_;refine R.fin [1, 2, 15, 16, 17, 30] ?_
  refine W.cond (fun ht30 => ?_) (fun ht30 => ?_)
  ·have hf : eqL a b = false := neq_at hlt hlb (by simpa using ht30)
   refine Z2 ?_;refine Z131 ?_;exact Z228
  have he : eqE a[i] b[i] = true := by simpa using ht30
  refine Z22 ?_;refine Z156 ?_;refine R.fin [1, 2, 15, 16, 17] ?_;refine K.lpN (i + 1) ⟨hlt, uptoE hlt hlb hi.2 he⟩ (by omega) ?_
  exact StCut.take (own := []) (fun _ => .refl _) (by repeat (first | exact lowF_any | refine lowF_set (by first | exact low_exprs | (simp; done)) ?_)) (by simp) (by simp)
 have hxe : a.length ≤ i := by simpa using ht18
 refine Z53 ?_;refine Z2 ?_;refine Z131 ?_;exact K.fin (V.one V.tmp) ⟨by rw [eqL_upto hlen (fun j y z hj => hi.2 j y z (by omega))], rfl⟩

theorem c43 : ∀ (n : Nat) (x : Expr), okE n x → ∀ (y : Expr) (Hp : List AObj), AFun Tryz.prog 43 [exprA x, exprA y] Hp (boolA (eqE x y)) := by
 intro n
 induction n with
 | zero => exact fun x h => h.elim
 | succ n ih =>
 intro x hok y Hp
 refine ACall.body [.tmp 4] [0, 1] Tryz.func43 Tryz.ntmps43 (fun d => ?_)
 refine Z221 ?_;refine Z45 ?_;refine Z187 ?_;refine Z8 ?_;refine Z98 ?_;refine Z21 ?_;refine Z179 ?_;refine Z61 ?_;refine Z112 ?_;refine Z112 ?_;refine G.eqlAgg eg25 (fun w => equal25 x.val.kind x.val.n y.val.kind y.val.n x.val.s y.val.s w) ?_;refine Z61 ?_;refine Z24 ?_;refine Z24 ?_;refine G.call Tryz.call74 (fun hB => c74 n x.kids y.kids hok.2.1 hok.2.2 ih _) ?_;refine Z107 ?_;refine Z50 ?_;exact K.fin (V.one V.tmp) ⟨by rw [eqE_eq], rfl⟩

theorem mk_agg (o : Int) (t : Str) (v : Val) (k : List Expr) : exprA (.mk o t v k) = .agg [intA o, .v (sv t), intA v.kind, intA v.n, .v (sv v.s), .slice false 6 (k.map exprA)] := by rw [exprA_eq]; rfl
set_option maxRecDepth 8000
/-! Who decides decides: the law's sources, columns and truths. -/
def lS1 : Str := [97, 32, 111, 114, 32, 98]
def lS2 : Str := [97, 32, 97, 110, 100, 32, 98]
def lS3 : Str := [110, 111, 116, 32, 40, 110, 111, 116, 32, 97, 32, 97, 110, 100, 32, 110, 111, 116, 32, 98, 41]
def lS4 : Str := [97, 32, 111, 114, 32, 49, 32, 47, 32, 48, 32, 61, 32, 110]
def lX1 : Expr := binX orW (nameE [97]) (nameE [98])
def lX2 : Expr := binX andW (nameE [97]) (nameE [98])
def lX3 : Expr := oneX 4 (binX andW (oneX 4 (nameE [97])) (oneX 4 (nameE [98])))
def lX4 : Expr := binX orW (nameE [97]) (binX [61] (binX [47] (valX ⟨1, 1, []⟩) (valX ⟨1, 0, []⟩)) (nameE [110]))
def lC : List Col := [⟨[97], 3⟩, ⟨[98], 3⟩, ⟨[110], 1⟩]
def lT : List Val := [noV, boolV false, boolV true]
def orV (x y : Val) : Val := if (x.n == 1) || ((x.kind == 0) && (y.n == 0)) then x else y
def andV (x y : Val) : Val := if ((x.kind == 3) && (x.n == 0)) || ((x.kind == 0) && ((y.kind == 0) || (y.n == 1))) then x else y
/-! Rows. -/
/-! Rows that differ in what is not named. -/
def turn1R (c : List Col) (l : List Val) (m : List Val) (s : Str) : List Val := if findM s c < 0 then m else m.set (findM s c).toNat (l.getD (findM s c).toNat noV)
def turnR (c : List Col) (l : List Val) (ns : List Str) (m : List Val) : List Val := ns.foldl (turn1R c l) m
/-! Who has a kind comes to it. -/
/-- What a tree of this kind may come to. -/
structure KOk (k : Int) (r : Rs) : Prop where
 kind : r.2 = 0 → r.1.kind = k ∨ r.1.kind = 0
 err : r.2 ≠ 0 → r.2 = 4 ∨ r.2 = 5 ∨ r.2 = 6 ∨ r.2 = 3
theorem KOk.val {k : Int} {v : Val} (h : v.kind = k) : KOk k (v, 0) := ⟨fun _ => .inl h, fun h => absurd rfl h⟩
theorem KOk.wrong {k e : Int} (h : e = 4 ∨ e = 5 ∨ e = 6 ∨ e = 3) : KOk k (wrongR e) := ⟨fun h0 => by rw [show e = 0 from h0] at h; omega, fun _ => h⟩
theorem KOk.whole {x : Int × Int} (h : x.2 ≠ 0 → x.2 = 4 ∨ x.2 = 5 ∨ x.2 = 6 ∨ x.2 = 3) : KOk 1 (wholeR x) := by
 unfold wholeR
 split
 ·rename_i h1; exact .wrong (h (by simpa using h1))
 exact .val rfl
theorem KOk.mono {k k' : Int} {r : Rs} (h : KOk k r) (hk : k = k' ∨ k = 0) : KOk k' r := ⟨fun h0 => by have := h.kind h0; omega, h.err⟩
theorem call_names {t : Str} {n : Nat} (h : arityM t = (n : Int)) : (t = [108, 101, 110] ∧ n = 1) ∨ (t = [115, 116, 114] ∧ n = 1) ∨ (t = [110, 117, 109] ∧ n = 1) ∨ (t = isnullW ∧ n = 1) ∨ (t = nvlW ∧ n = 2) ∨ (t = [108, 101, 102, 116] ∧ n = 2) ∨ (t = [114, 105, 103, 104, 116] ∧ n = 2) ∨ (t = ifW ∧ n = 3) := by
 by_cases hm : t ∈ arityList.map (·.1)
 ·have ha : ∀ s ∈ arityList.map (·.1), (s = [108, 101, 110] ∧ arityM s = 1) ∨ (s = [115, 116, 114] ∧ arityM s = 1) ∨ (s = [110, 117, 109] ∧ arityM s = 1) ∨ (s = isnullW ∧ arityM s = 1) ∨ (s = nvlW ∧ arityM s = 2) ∨ (s = [108, 101, 102, 116] ∧ arityM s = 2) ∨ (s = [114, 105, 103, 104, 116] ∧ arityM s = 2) ∨ (s = ifW ∧ arityM s = 3) := by
   have : ((arityList.map (·.1)).all fun s => decide ((s = [108, 101, 110] ∧ arityM s = 1) ∨ (s = [115, 116, 114] ∧ arityM s = 1) ∨ (s = [110, 117, 109] ∧ arityM s = 1) ∨ (s = isnullW ∧ arityM s = 1) ∨ (s = nvlW ∧ arityM s = 2) ∨ (s = [108, 101, 102, 116] ∧ arityM s = 2) ∨ (s = [114, 105, 103, 104, 116] ∧ arityM s = 2) ∨ (s = ifW ∧ arityM s = 3))) = true := by kernel_rfl
   exact fun s hs => of_decide_eq_true (List.all_eq_true.1 this s hs)
  have := ha t hm
  rw [h] at this
  rcases this with ⟨e, h2⟩ | ⟨e, h2⟩ | ⟨e, h2⟩ | ⟨e, h2⟩ | ⟨e, h2⟩ | ⟨e, h2⟩ | ⟨e, h2⟩ | ⟨e, h2⟩
  ·exact .inl ⟨e, by omega⟩
  ·exact .inr (.inl ⟨e, by omega⟩)
  ·exact .inr (.inr (.inl ⟨e, by omega⟩))
  ·exact .inr (.inr (.inr (.inl ⟨e, by omega⟩)))
  ·exact .inr (.inr (.inr (.inr (.inl ⟨e, by omega⟩))))
  ·exact .inr (.inr (.inr (.inr (.inr (.inl ⟨e, by omega⟩)))))
  ·exact .inr (.inr (.inr (.inr (.inr (.inr (.inl ⟨e, by omega⟩))))))
  exact .inr (.inr (.inr (.inr (.inr (.inr (.inr ⟨e, by omega⟩))))))
 have h1 : arityM t = -1 := by
  unfold arityM
  rw [List.find?_eq_none.2 fun p hp => by
   simp only [beq_iff_eq]
   rintro rfl
   exact hm (List.mem_map.2 ⟨p, hp, rfl⟩)]
 omega
/-! The print of a tree, and its words. -/
def brkS (least : Nat) (x : Expr) (s : Str) : Str := if least ≤ levE x then s else 40 :: (s ++ [41])
def sepS : List Str → Str
 | [] => []
 | s :: r => 44 :: 32 :: (s ++ sepS r)
def nodeS (o : Int) (t : Str) (v : Val) (k : List Expr) (ss : List Str) : Str :=
 if o == 1 then printM v else if o == 2 then t
 else if o == 3 then 45 :: brkS 6 (k.getD 0 nullX) (ss.getD 0 [])
 else if o == 4 then notW ++ 32 :: brkS 2 (k.getD 0 nullX) (ss.getD 0 [])
 else if o == 5 then brkS (firstL (levelM t).toNat) (k.getD 0 nullX) (ss.getD 0 []) ++ 32 :: (t ++ 32 :: brkS ((levelM t).toNat + 1) (k.getD 1 nullX) (ss.getD 1 []))
 else t ++ 40 :: ((sepS ss).drop 2 ++ [41])
mutual
def printE : Expr → Str
 | .mk o t v k => nodeS o t v k (printL k)
def printL : List Expr → List Str
  | [] => []
  | e :: r => printE e :: printL r
 end
theorem printL_map : ∀ l, printL l = l.map printE
 | [] => rfl
 | e :: r => by rw [printL, printL_map r]; rfl
theorem pr_val (v : Val) : printE (valX v) = printM v := by simp [valX, printE, nodeS]
theorem pr_name (t : Str) : printE (nameE t) = t := by simp [nameE, printE, nodeS]
theorem pr_neg (a : Expr) : printE (oneX 3 a) = 45 :: brkS 6 a (printE a) := by simp [oneX, printE, printL, nodeS]
theorem pr_no (a : Expr) : printE (oneX 4 a) = notW ++ 32 :: brkS 2 a (printE a) := by simp [oneX, printE, printL, nodeS]
theorem pr_bin (t : Str) (a b : Expr) : printE (binX t a b) = brkS (firstL (levelM t).toNat) a (printE a) ++ 32 :: (t ++ 32 :: brkS ((levelM t).toNat + 1) b (printE b)) := by simp [binX, printE, printL, nodeS]
theorem pr_call (t : Str) (k : List Expr) : printE (.mk 6 t noV k) = t ++ 40 :: ((sepS (printL k)).drop 2 ++ [41]) := by simp [printE, nodeS]
/-- A text that something begins, and no equals sign. -/
def Hd (s : Str) : Prop := ∃ c r, s = c :: r ∧ c ≠ 61
theorem Hd.not61 {s : Str} (h : Hd s) (Z : Str) : ∀ d r, s ++ Z = d :: r → d ≠ 61 := fun d r e => by
 obtain ⟨c, q, rfl, hc⟩ := h
 injection e with e1 e2
 rw [← e1]
 exact hc
theorem Hd.app {s : Str} (h : Hd s) (Z : Str) : Hd (s ++ Z) := by
 obtain ⟨c, q, rfl, hc⟩ := h
 exact ⟨c, q ++ Z, rfl, hc⟩
theorem Hd.brk {k : Nat} {x : Expr} {s : Str} (h : Hd s) : Hd (brkS k x s) := by
 unfold brkS
 split
 ·exact h
 exact ⟨40, _, rfl, by decide⟩
theorem stop_not61 {R : Str} (h : stopC R) : ∀ d r, R = d :: r → d ≠ 61 := fun d r e => by
 rcases h d r e with rfl | rfl | rfl | rfl | rfl <;> decide
theorem stop_32 (Z : Str) : stopC (32 :: Z) := fun c r e => by injection e with e1 e2; exact .inl e1.symm
theorem stop_40 (Z : Str) : stopC (40 :: Z) := fun c r e => by injection e with e1 e2; exact .inr (.inl e1.symm)
theorem stop_41 (Z : Str) : stopC (41 :: Z) := fun c r e => by injection e with e1 e2; exact .inr (.inr (.inl e1.symm))
theorem stop_44 (Z : Str) : stopC (44 :: Z) := fun c r e => by injection e with e1 e2; exact .inr (.inr (.inr (.inl e1.symm)))
theorem open_L {R : Str} (hR : ∀ d r, R = d :: r → d ≠ 61) : Lx [40] [(5, [40])] R := mark1_L (by kernel_rfl) hR
theorem close_L {R : Str} (hR : ∀ d r, R = d :: r → d ≠ 61) : Lx [41] [(5, [41])] R := mark1_L (by kernel_rfl) hR
theorem comma_L (R : Str) : Lx [44, 32] [(5, [44])] R := by
 have := Lx.app (R := R) (mark1_L (c := 44) (by kernel_rfl) (fun d r e => by injection e with e1 e2; rw [← e1]; decide) : Lx [44] [(5, [44])] ([32] ++ R)) (Lx.blank R)
 simpa using this
theorem blank_L {u R : Str} {T : List TK} (h : Lx u T R) : Lx (32 :: u) T R := by
 have := Lx.app (Lx.blank (u ++ R)) h
 simpa using this
theorem op_L {t R : Str} (ht : 0 ≤ levelM t) : Lx t [opTok t] (32 :: R) := by
 have hmem : t ∈ levels.flatten := by
  rcases level_cases t with h | h
  ·exact h
  omega
 have h61 : ∀ d r, (32 :: R : Str) = d :: r → d ≠ 61 := fun d r e => by injection e with e1 e2; rw [← e1]; decide
 simp only [levels, List.flatten_cons, List.flatten_nil, List.cons_append, List.nil_append, List.append_nil, List.mem_cons, List.not_mem_nil, or_false] at hmem
 rcases hmem with rfl | rfl | rfl | rfl | rfl | rfl | rfl | rfl | rfl | rfl | rfl | rfl | rfl | rfl
 ·exact kw_L (by kernel_rfl) (stop_32 R)
 ·exact kw_L (by kernel_rfl) (stop_32 R)
 ·exact Z282
 ·exact mark2_L (by kernel_rfl)
 ·exact Z282
 ·exact mark2_L (by kernel_rfl)
 ·exact Z282
 ·exact mark2_L (by kernel_rfl)
 ·exact Z282
 ·exact Z282
 ·exact Z282
 ·exact Z282
 ·exact Z282
 exact Z282
theorem val_L {v : Val} (hp : plainM v = true) (h0 : 0 ≤ v.n) (h1 : v.n ≤ 9223372036854775807) : (∀ R, stopC R → Lx (printM v) [valTok v] R) ∧ Hd (printM v) := by
 have hc := plain_cases hp
 rcases hc with e | e | ⟨e, hs⟩ | e | e
 ·rw [e]
  exact ⟨fun R hR => kw_L (by kernel_rfl) hR, ⟨110, [117, 108, 108], by kernel_rfl, by decide⟩⟩
 ·have hpr : printM v = Lib.itoa v.n := by
   unfold printM
   rw [hp, e]
   rfl
  have hv : valTok v = (3, printM v) := by unfold valTok; rw [show v.kind = 1 by rw [e]]; rfl
  rw [hv, hpr]
  refine ⟨fun R hR => num_L h0 h1 hR, ?_⟩
  obtain ⟨u, hu⟩ : ∃ u : Nat, v.n = (u : Int) := ⟨v.n.toNat, by omega⟩
  have e0 : Lib.itoa (u : Int) = Lib.decDigits u := by unfold Lib.itoa; rw [if_neg (by omega)]; simp
  rw [hu, e0]
  obtain ⟨c, r, hcr, _⟩ := dec_head u
  have hall := dec_all u c (by rw [hcr]; exact List.mem_cons_self)
  exact ⟨c, r, hcr, by rintro rfl; revert hall; decide⟩
 ·have hpr : printM v = [39] ++ dblM v.s ++ [39] := by
   unfold printM
   rw [hp, e]
   simp only [Bool.not_true, Bool.false_eq_true, if_false, show ((2 : Int) == 1) = false from rfl, show ((2 : Int) == 2) = true from rfl, if_true, replace_dbl]
  have hv : valTok v = (4, v.s) := by unfold valTok; rw [show v.kind = 2 by rw [e]]; rfl
  rw [hv, hpr]
  exact ⟨fun R hR => text_L hs hR, ⟨39, _, rfl, by decide⟩⟩
 ·rw [e]
  exact ⟨fun R hR => kw_L (by kernel_rfl) hR, ⟨102, [97, 108, 115, 101], by kernel_rfl, by decide⟩⟩
 rw [e]
 exact ⟨fun R hR => kw_L (by kernel_rfl) hR, ⟨116, [114, 117, 101], by kernel_rfl, by decide⟩⟩
/-- A tree's print is its words, before what may stand there. -/
def PL (x : Expr) : Prop := (∀ R, stopC R → Lx (printE x) (toksE x) R) ∧ Hd (printE x)
theorem brk_L {x : Expr} (h : PL x) (k : Nat) {R : Str} (hR : stopC R) : Lx (brkS k x (printE x)) (brkT k x (toksE x)) R := by
 unfold brkS brkT
 split
 ·exact h.1 R hR
 have h1 := Lx.app (Lx.app (open_L (R := printE x ++ ([41] ++ R)) (h.2.not61 _)) (h.1 ([41] ++ R) (stop_41 R))) (close_L (R := R) (stop_not61 hR))
 simpa using h1
theorem args_L : ∀ (k : List Expr), (∀ y ∈ k, PL y) → ∀ R, stopC R → Lx (sepS (k.map printE)) (sepT (k.map toksE)) R ∧ stopC (sepS (k.map printE) ++ R)
 | [], _, R, hR => ⟨Lx.nil R, hR⟩
 | x :: r, h, R, hR => by
  obtain ⟨h1, h2⟩ := args_L r (fun y hy => h y (List.mem_cons_of_mem _ hy)) R hR
  have hx := (h x List.mem_cons_self).1 _ h2
  refine ⟨?_, stop_44 _⟩
  have h3 : Lx ([44, 32] ++ (printE x ++ sepS (r.map printE))) ([(5, [44])] ++ (toksE x ++ sepT (r.map toksE))) R := Lx.app (comma_L _) (Lx.app hx h1)
  simpa [sepS, sepT] using h3
theorem name_hd {t : Str} (h : nameM t = true) : Hd t := by
 rw [nameM_eq] at h
 simp only [Bool.and_eq_true, Bool.not_eq_true', Bool.or_eq_false_iff, beq_eq_false_iff_ne, decide_eq_false_iff_not] at h
 cases t with
 | nil => simp at h
 | cons c r =>
  refine ⟨c, r, rfl, ?_⟩
  rintro rfl
  have h2 : (!letterM 61) = false := h.1.1.2
  exact absurd h2 (by decide)
theorem arity_name {t : Str} {n : Nat} (h : arityM t = (n : Int)) : nameM t = true := by
 rcases call_names h with ⟨rfl, _⟩ | ⟨rfl, _⟩ | ⟨rfl, _⟩ | ⟨rfl, _⟩ | ⟨rfl, _⟩ | ⟨rfl, _⟩ | ⟨rfl, _⟩ | ⟨rfl, _⟩ <;> kernel_rfl
theorem print_PL : ∀ (n : Nat) (x : Expr), sizeE x ≤ n → allE nodeM x = true → allE rngN x = true → PL x
 | 0, x, hn, _, _ => by have := sizeE_eq x; omega
 | n + 1, x, hn, hnd, hrg => by
  have hnd0 := hnd
  have hrg0 := hrg
  rw [allE_eq, Bool.and_eq_true] at hnd0 hrg0
  have ih : ∀ y ∈ x.kids, PL y := fun y hy => print_PL n y (size_kids hn hy) ((allL_iff _ _).1 hnd0.2 y hy) ((allL_iff _ _).1 hrg0.2 y hy)
  have hNC := node_cases hnd0.1
  cases hNC with
  | val v hp h0 =>
   have hr := hrg0.1
   unfold rngN at hr
   simp only [Bool.and_eq_true, decide_eq_true_eq] at hr
   unfold PL
   rw [pr_val, toks_val]
   exact val_L hp h0 hr.2
  | name t ht =>
   unfold PL
   rw [pr_name, toks_name]
   exact ⟨fun R hR => name_L ht hR, name_hd ht⟩
  | neg a =>
   have ha := ih a (by simp [oneX, Expr.kids])
   unfold PL
   rw [pr_neg, toks_neg]
   exact ⟨fun R hR => Lx.app (u := [45]) (T := [(5, [45])]) (mark1_L (by kernel_rfl) (ha.2.brk.not61 R)) (brk_L ha 6 hR), ⟨45, _, rfl, by decide⟩⟩
  | no a =>
   have ha := ih a (by simp [oneX, Expr.kids])
   unfold PL
   rw [pr_no, toks_no]
   exact ⟨fun R hR => Lx.app (T := [(2, notW)]) (kw_L (by kernel_rfl) (stop_32 _)) (blank_L (brk_L ha 2 hR)), ⟨110, _, rfl, by decide⟩⟩
  | bin t a b ht =>
   have ha := ih a (by simp [binX, Expr.kids])
   have hb := ih b (by simp [binX, Expr.kids])
   unfold PL
   rw [pr_bin, toks_bin]
   refine ⟨fun R hR => Lx.app (brk_L ha _ (stop_32 _)) (blank_L ?_), ha.2.brk.app _⟩
   exact Lx.app (T := [opTok t]) (op_L ht) (blank_L (brk_L hb _ hR))
  | call t k ht =>
   have hk : ∀ y ∈ k, PL y := fun y hy => ih y (by simpa [Expr.kids] using hy)
   have hnm := arity_name ht
   unfold PL
   rw [pr_call, toks_call, printL_map, toksL_map]
   refine ⟨fun R hR => ?_, (name_hd hnm).app _⟩
   match k, hk, ht with
   | [], _, ht =>
    exfalso
    have := arity_pos t
    simp at ht
    omega
   | x :: r, hk, _ =>
    have hx := hk x List.mem_cons_self
    obtain ⟨h1, h2⟩ := args_L r (fun y hy => hk y (List.mem_cons_of_mem _ hy)) ([41] ++ R) (stop_41 R)
    have hin : Lx (printE x ++ sepS (r.map printE)) (toksE x ++ sepT (r.map toksE)) ([41] ++ R) := Lx.app (hx.1 _ h2) h1
    have hcl : Lx ((printE x ++ sepS (r.map printE)) ++ [41]) ((toksE x ++ sepT (r.map toksE)) ++ [(5, [41])]) R := Lx.app hin (close_L (stop_not61 hR))
    have hop : Lx ([40] ++ ((printE x ++ sepS (r.map printE)) ++ [41])) ([(5, [40])] ++ ((toksE x ++ sepT (r.map toksE)) ++ [(5, [41])])) R := Lx.app (open_L ((((hx.2.app _).app _)).not61 R)) hcl
    have hnl : Lx (t ++ ([40] ++ ((printE x ++ sepS (r.map printE)) ++ [41]))) ([(1, t)] ++ ([(5, [40])] ++ ((toksE x ++ sepT (r.map toksE)) ++ [(5, [41])]))) R := Lx.app (name_L hnm (stop_40 _)) hop
    simpa [sepS, sepT] using hnl
/-! What was parsed nests no deeper than may be. -/
structure NB (N k : Nat) (r : Expr × PS) : Prop where
 nest : r.2.nest = N
 need : r.2.code = 0 → N + brkN k r.1 (needE r.1) ≤ 30
def NF (N k : Nat) (f : PS → Expr × PS) : Prop := ∀ S : PS, S.nest = N → NB N k (f S)
/-! What nests too deep is told to be too deep. -/
theorem leftF_fail {l : List Tok} {of : Str} {f : PS → Expr × PS} {n : Nat} {r : Expr × PS} (h : r.2.code = 18) : (leftF l of f n r).2.code = 18 := by
 cases n with
 | zero => exact h
 | succ n => rw [leftF, if_neg (by rw [h]; simp)]; exact h
theorem argsF_fail {l : List Tok} {f : PS → Expr × PS} {n : Nat} {r : List Expr × PS} (h : r.2.code = 18) : (argsF l f n r).2.code = 18 := by
 cases n with
 | zero => exact h
 | succ n => rw [argsF, if_neg (by rw [h]; simp)]; exact h
theorem want_fail {l : List Tok} {s : Str} {S : PS} (h : S.code = 18) : (wantM l s S).code = 18 := by
 unfold wantM
 rw [if_pos (by rw [h]; decide)]
 exact h
theorem fail18 {a : Int} {S : PS} (h : S.code = 0) : (failM 18 a S).code = 18 := by
 unfold failM
 rw [if_pos (by rw [h]; decide)]
theorem fail_step {l : List Tok} {D : Fam} {k : Nat} (hk : k ≤ 6) {S : PS} (h : (pf l D (k + 1) S).2.code = 18) (hnot : k = 2 → isM l notT S = false) (hneg : k = 6 → isM l negT S = false) : (pf l D k S).2.code = 18 := by
 match k, hk with
 | 0, _ => exact leftF_fail h
 | 1, _ => exact leftF_fail h
 | 2, _ =>
  show (notM l D S).2.code = _
  unfold notM
  rw [hnot rfl]
  exact h
 | 3, _ =>
  show (compareM l D S).2.code = _
  have h' : (sumM l D S).2.code = 18 := h
  unfold compareM
  rw [if_pos (by rw [h']; rfl)]
  exact h'
 | 4, _ => exact leftF_fail h
 | 5, _ => exact leftF_fail h
 | 6, _ =>
  show (negM l D S).2.code = _
  unfold negM
  rw [hneg rfl]
  exact h
theorem fail_down {l : List Tok} {D : Fam} {S : PS} : ∀ (m k j : Nat), k + m = j → j ≤ 7 → (pf l D j S).2.code = 18 → (3 ≤ j → isM l notT S = false) → (7 ≤ j → isM l negT S = false) → (pf l D k S).2.code = 18
 | 0, k, j, e, _, h, _, _ => by rw [show k = j by omega]; exact h
 | m + 1, k, j, e, hj, h, h1, h2 => fail_step (by omega) (fail_down m (k + 1) j (by omega) hj h h1 h2) (fun _ => h1 (by omega)) (fun _ => h2 (by omega))
def F1 (l : List Tok) (x : Expr) : Prop := ∀ (k : Nat) (S : PS) (rest : List TK), k ≤ levE x → S.code = 0 → S.nest ≤ 30 → 30 < S.nest + needE x → seg l S.i = toksE x ++ rest → stops k rest → (pf l (fam l S.nest) k S).2.code = 18
def F2 (l : List Tok) (x : Expr) : Prop := ∀ (k : Nat) (S : PS) (rest : List TK), (k = 0 ∨ k = 1 ∨ k = 4 ∨ k = 5) → k ≤ levE x → S.code = 0 → S.nest ≤ 30 → 30 < S.nest + needE x → seg l S.i = toksE x ++ rest → stops (k + 1) rest → (leftM l (ofL k) (pf l (fam l S.nest) (k + 1)) S).2.code = 18
theorem within_fail {l : List Tok} {a : Int} {f : PS → Expr × PS} {S : PS} (h0 : S.code = 0) (hf : S.nest ≠ 30 → (f (deepM S)).2.code = 18) : (withinM a f S).2.code = 18 := by
 unfold withinM
 split
 ·exact fail18 h0
 rename_i h
 exact hf (by simp at h; omega)
theorem kid_fail {l : List Tok} {y : Expr} (hy : F1 l y) {k : Nat} (hk : k ≤ 7) {S : PS} {rest : List TK} (h0 : S.code = 0) (hN : S.nest ≤ 30) (hn : 30 < S.nest + brkN k y (needE y)) (hs : seg l S.i = brkT k y (toksE y) ++ rest) (hst : stops k rest) : (pf l (fam l S.nest) k S).2.code = 18 := by
 unfold brkT at hs
 unfold brkN at hn
 by_cases hl : k ≤ levE y
 ·rw [if_pos hl] at hs hn
  exact hy k S rest hl h0 hN hn hs hst
 rw [if_neg hl] at hs hn
 have hs' : seg l S.i = (5, [40]) :: (toksE y ++ (5, [41]) :: rest) := by rw [hs]; simp
 refine fail_down (7 - k) k 7 (by omega) (Nat.le_refl _) ?_ (fun _ => by rw [isM_seg hs', is_not]; decide) (fun _ => by rw [isM_seg hs', is_neg]; decide)
 obtain ⟨k1, t1, r1, i1⟩ := seg_cons hs'
 have e1 : isM l litT S = false := by rw [isM_seg hs', is_lit]; decide
 have e2 : isM l opT S = true := by rw [isM_seg hs', is_op]; decide
 show (atomM l (fam l S.nest) S).2.code = 18
 unfold atomM
 rw [if_neg (by rw [h0]; decide), k1, e1, if_neg (by decide), if_neg (by decide), if_neg (by decide), if_pos e2]
 refine want_fail (within_fail (l := l) h0 fun hne => ?_)
 have hne : S.nest ≠ 30 := hne
 rw [fam_deep (by omega)]
 exact hy 0 (deepM (nextM S)) ((5, [41]) :: rest) (Nat.zero_le _) h0 (by show S.nest + 1 ≤ 30; omega) (by show 30 < S.nest + 1 + needE y; omega) r1 (fun h r e hm => by
  injection e with e _
  subst e
  exact ⟨by decide, by decide⟩)
theorem F_of {l : List Tok} {x : Expr} (hx : allE nodeM x = true) (hA : ∀ (S : PS) (rest : List TK), S.code = 0 → S.nest ≤ 30 → 30 < S.nest + needE x → seg l S.i = toksE x ++ rest → stops (levE x) rest → (pf l (fam l S.nest) (levE x) S).2.code = 18)
  (hB : ∀ (S : PS) (rest : List TK), (levE x = 0 ∨ levE x = 1 ∨ levE x = 4 ∨ levE x = 5) → S.code = 0 → S.nest ≤ 30 → 30 < S.nest + needE x → seg l S.i = toksE x ++ rest → stops (levE x + 1) rest → (leftM l (ofL (levE x)) (pf l (fam l S.nest) (levE x + 1)) S).2.code = 18) : F1 l x ∧ F2 l x := by
 have h1 : F1 l x := fun k S rest hk h0 hN hn hs hst => by
  obtain ⟨g1, g2⟩ := head_is hx hs
  exact fail_down (levE x - k) k (levE x) (by omega) (levE_le x) (hA S rest h0 hN hn hs (hst.mono hk)) g1 g2
 refine ⟨h1, fun k S rest hk hkl h0 hN hn hs hst => ?_⟩
 rcases Nat.lt_or_ge k (levE x) with h | h
 ·exact leftF_fail (h1 (k + 1) S rest h h0 hN hn hs hst)
 obtain rfl : k = levE x := by omega
 exact hB S rest hk h0 hN hn hs hst
theorem leaf_F {l : List Tok} {x : Expr} (h : needE x = 0) : F1 l x ∧ F2 l x := ⟨fun k S rest _ _ hN hn _ _ => by omega, fun k S rest _ _ _ hN hn _ _ => by omega⟩
theorem neg_F {l : List Tok} {a : Expr} (hx : allE nodeM (oneX 3 a) = true) (ha : F1 l a) : F1 l (oneX 3 a) ∧ F2 l (oneX 3 a) := by
 refine F_of hx ?_ (fun S rest h => by rw [lev_neg] at h; omega)
 rw [lev_neg, toks_neg, need_neg]
 intro S rest h0 hN hn hs hst
 obtain ⟨_, _, s1, _⟩ := seg_cons hs
 show (negM l (fam l S.nest) S).2.code = _
 unfold negM
 rw [if_neg (by rw [isM_seg hs, is_neg]; decide)]
 refine within_fail (l := l) h0 fun hne => ?_
 have hne : S.nest ≠ 30 := hne
 rw [fam_deep (by omega)]
 exact kid_fail (l := l) (S := deepM (nextM S)) ha (k := 6) (by omega) h0 (show S.nest + 1 ≤ 30 by omega) (show 30 < S.nest + 1 + brkN 6 a (needE a) by omega) s1 hst
theorem no_F {l : List Tok} {a : Expr} (hx : allE nodeM (oneX 4 a) = true) (ha : F1 l a) : F1 l (oneX 4 a) ∧ F2 l (oneX 4 a) := by
 refine F_of hx ?_ (fun S rest h => by rw [lev_no] at h; omega)
 rw [lev_no, toks_no, need_no]
 intro S rest h0 hN hn hs hst
 obtain ⟨_, _, s1, _⟩ := seg_cons hs
 show (notM l (fam l S.nest) S).2.code = _
 unfold notM
 rw [if_neg (by rw [isM_seg hs, is_not]; decide)]
 refine within_fail (l := l) h0 fun hne => ?_
 have hne : S.nest ≠ 30 := hne
 rw [fam_deep (by omega)]
 exact kid_fail (l := l) (S := deepM (nextM S)) ha (k := 2) (by omega) h0 (show S.nest + 1 ≤ 30 by omega) (show 30 < S.nest + 1 + brkN 2 a (needE a) by omega) s1 hst
theorem bin_F {l : List Tok} {t : Str} {a b : Expr} (ht : 0 ≤ levelM t) (hx : allE nodeM (binX t a b) = true) (ha : T1 l a ∧ T2 l a) (fa : F1 l a ∧ F2 l a) (fb : F1 l b) : F1 l (binX t a b) ∧ F2 l (binX t a b) := by
 have hlv := level_le t
 obtain ⟨own, hown⟩ : ∃ own, own = (levelM t).toNat := ⟨_, rfl⟩
 have hoi : levelM t = (own : Int) := by omega
 have hB : ∀ (S : PS) (rest : List TK), (own = 0 ∨ own = 1 ∨ own = 4 ∨ own = 5) → S.code = 0 → S.nest ≤ 30 → 30 < S.nest + needE (binX t a b) → seg l S.i = toksE (binX t a b) ++ rest → stops (own + 1) rest →
   (leftM l (ofL own) (pf l (fam l S.nest) (own + 1)) S).2.code = 18 := by
  intro S rest hl h0 hN hn hs hst
  rw [toks_bin, ← hown, show firstL own = own by unfold firstL; split <;> omega] at hs
  rw [need_bin, ← hown, show firstL own = own by unfold firstL; split <;> omega] at hn
  have hs' : seg l S.i = brkT own a (toksE a) ++ (opTok t :: (brkT (own + 1) b (toksE b) ++ rest)) := by rw [hs]; simp
  by_cases hna : 30 < S.nest + brkN own a (needE a)
  ·by_cases hla : own ≤ levE a
   ·have e1 : brkT own a (toksE a) = toksE a := if_pos hla
    have e2 : brkN own a (needE a) = needE a := if_pos hla
    rw [e1] at hs'
    rw [e2] at hna
    exact fa.2 own S _ hl hla h0 hN hna hs' (stops_op ht (by omega))
   have e1 : brkT own a (toksE a) = brkT (own + 1) a (toksE a) := by unfold brkT; rw [if_neg hla, if_neg (by omega)]
   have e2 : brkN own a (needE a) = brkN (own + 1) a (needE a) := by unfold brkN; rw [if_neg hla, if_neg (by omega)]
   rw [e1] at hs'
   rw [e2] at hna
   exact leftF_fail (kid_fail fa.1 (by omega) h0 hN hna hs' (stops_op ht (by omega)))
  have hna : S.nest + brkN own a (needE a) ≤ 30 := by omega
  have hRA : ∃ n, l.length ≤ S.i + (brkT own a (toksE a)).length + n ∧ leftM l (ofL own) (pf l (fam l S.nest) (own + 1)) S = leftF l (ofL own) (pf l (fam l S.nest) (own + 1)) n (a, adv S (brkT own a (toksE a)).length) := by
   by_cases hla : own ≤ levE a
   ·have e1 : brkT own a (toksE a) = toksE a := if_pos hla
    have e2 : brkN own a (needE a) = needE a := if_pos hla
    rw [e1] at hs' ⊢
    rw [e2] at hna
    exact Z277
   have e1 : brkT own a (toksE a) = brkT (own + 1) a (toksE a) := by unfold brkT; rw [if_neg hla, if_neg (by omega)]
   have e2 : brkN own a (needE a) = brkN (own + 1) a (needE a) := by unfold brkN; rw [if_neg hla, if_neg (by omega)]
   rw [e1] at hs' ⊢
   rw [e2] at hna
   refine ⟨l.length, by omega, ?_⟩
   unfold leftM
   rw [kid_at ha.1 (by omega) h0 hna hs' (stops_op ht (by omega))]
  obtain ⟨n, hn1, hn2⟩ := hRA
  have s1' : seg l (adv S (brkT own a (toksE a)).length).i = opTok t :: (brkT (own + 1) b (toksE b) ++ rest) := seg_skip hs'
  obtain ⟨_, tx, s2, i1⟩ := seg_cons s1'
  obtain ⟨m, rfl⟩ : ∃ m, n = m + 1 := ⟨n - 1, by have : S.i + (brkT own a (toksE a)).length < l.length := i1; omega⟩
  rw [hn2, leftF, if_pos (by
   show (((adv S (brkT own a (toksE a)).length).code == 0) && isM l (ofL own) (adv S (brkT own a (toksE a)).length)) = true
   rw [op_is s1', mark_level (ofL_left hl), hoi]
   show ((S.code == 0) && _) = true
   rw [h0]
   simp)]
  refine leftF_fail ?_;exact kid_fail (l := l) (S := nextM (adv S (brkT own a (toksE a)).length)) fb (k := own + 1) (by omega) h0 hN (show 30 < S.nest + brkN (own + 1) b (needE b) by omega) s2 hst
 refine F_of hx ?_ ?_
 ·rw [lev_bin, ← hown]
  intro S rest h0 hN hn hs hst
  by_cases h3 : own = 3
  ·subst h3
   rw [toks_bin, ← hown] at hs
   rw [need_bin, ← hown] at hn
   have e4 : firstL 3 = 4 := rfl
   rw [e4] at hs hn
   have hn4 : 30 < S.nest + max (brkN 4 a (needE a)) (brkN 4 b (needE b)) := hn
   have hs' : seg l S.i = brkT 4 a (toksE a) ++ (opTok t :: (brkT 4 b (toksE b) ++ rest)) := by rw [hs]; simp
   show (compareM l (fam l S.nest) S).2.code = _
   by_cases hna : 30 < S.nest + brkN 4 a (needE a)
   ·have h1 : (sumM l (fam l S.nest) S).2.code = 18 := kid_fail (k := 4) fa.1 (by omega) h0 hN hna hs' (stops_op ht (by omega))
    unfold compareM
    rw [if_pos (by rw [h1]; rfl)]
    exact h1
   have h1 : sumM l (fam l S.nest) S = (a, adv S (brkT 4 a (toksE a)).length) := kid_at (k := 4) ha.1 (by omega) h0 (by omega) hs' (stops_op ht (by omega))
   have s1 : seg l (adv S (brkT 4 a (toksE a)).length).i = opTok t :: (brkT 4 b (toksE b) ++ rest) := seg_skip hs'
   obtain ⟨_, tx, s2, i1⟩ := seg_cons s1
   have h2 : isM l cmpT (adv S (brkT 4 a (toksE a)).length) = true := by
    rw [op_is s1, show cmpT = ofL 3 from rfl, mark_level (by omega), hoi]
    rfl
   unfold compareM
   rw [h1, if_neg (by rw [h2]; show ¬ (((S.code != 0) || _) = true); rw [h0]; decide)]
   exact kid_fail (l := l) (S := nextM (adv S (brkT 4 a (toksE a)).length)) fb (k := 4) (by omega) h0 hN (show 30 < S.nest + brkN 4 b (needE b) by omega) s2 (hst.mono (by omega))
  have hl : own = 0 ∨ own = 1 ∨ own = 4 ∨ own = 5 := by omega
  rw [pf_left hl]
  exact hB S rest hl h0 hN hn hs (hst.mono (by omega))
 rw [lev_bin, ← hown]
 exact hB
theorem maxN_mem : ∀ {k : List Expr}, k ≠ [] → ∃ y ∈ k, maxN (needL k) ≤ needE y
 | [a], _ => ⟨a, by simp, by simp [needL, maxN]⟩
 | a :: b :: r, _ => by
  obtain ⟨y, hy, h⟩ := maxN_mem (k := b :: r) (by simp)
  by_cases hle : needE a ≤ maxN (needL (b :: r))
  ·exact ⟨y, List.mem_cons_of_mem _ hy, by rw [needL, maxN]; omega⟩
  exact ⟨a, List.mem_cons_self, by rw [needL, maxN]; omega⟩
theorem stops_sep {ks : List Expr} {rest : List TK} (hst : stops 0 rest) : stops 0 (sepT (toksL ks) ++ rest) := by
 cases ks with
 | nil => exact hst
 | cons z ks =>
  intro h r e _
  injection e with e _
  subst e
  exact ⟨by decide, by decide⟩
theorem args_F {l : List Tok} {nst : Nat} (hN : nst ≤ 30) {rest : List TK} (hst : stops 0 rest) : ∀ (ks : List Expr), (∀ y ∈ ks, T1 l y) → (∀ y ∈ ks, F1 l y) → ∀ (acc : List Expr) (S : PS) (n : Nat), S.nest = nst → S.code = 0 → (∃ y ∈ ks, 30 < nst + needE y) → seg l S.i = sepT (toksL ks) ++ rest → l.length ≤ S.i + n →
  (argsF l (pf l (fam l nst) 0) n (acc, S)).2.code = 18
 | [], _, _, acc, S, n, _, _, ⟨y, hy, _⟩, _, _ => by cases hy
 | y :: ks, hT, hF, acc, S, n, hS, h0, hex, hs, hn => by
  have hs' : seg l S.i = (5, [44]) :: (toksE y ++ (sepT (toksL ks) ++ rest)) := by rw [hs]; simp [toksL, sepT]
  obtain ⟨_, _, s1, i1⟩ := seg_cons hs'
  obtain ⟨m, rfl⟩ : ∃ m, n = m + 1 := ⟨n - 1, by omega⟩
  rw [argsF, if_pos (by
   show ((S.code == 0) && isM l commaT S) = true
   rw [h0, isM_seg hs', is_comma]
   decide)]
  show (argsF l (pf l (fam l nst) 0) m (acc ++ [(pf l (fam l nst) 0 (nextM S)).1], (pf l (fam l nst) 0 (nextM S)).2)).2.code = _
  by_cases hy : 30 < nst + needE y
  ·refine argsF_fail ?_
   have := hF y List.mem_cons_self 0 (nextM S) _ (Nat.zero_le _) h0 (show S.nest ≤ 30 by omega) (show 30 < S.nest + needE y by omega) s1 (stops_sep hst)
   rw [← hS]
   exact this
  have h1 := hT y List.mem_cons_self 0 (nextM S) _ (Nat.zero_le _) h0 (show S.nest + needE y ≤ 30 by omega) s1 (stops_sep hst)
  have h1' : pf l (fam l nst) 0 (nextM S) = (y, adv (nextM S) (toksE y).length) := by rw [← hS]; exact h1
  rw [h1']
  obtain ⟨z, hz, hzn⟩ := hex
  refine args_F hN hst ks (fun w hw => hT w (List.mem_cons_of_mem _ hw)) (fun w hw => hF w (List.mem_cons_of_mem _ hw)) _ (adv (nextM S) (toksE y).length) m hS h0 ?_ (seg_skip s1) (by show l.length ≤ S.i + 1 + (toksE y).length + m; omega)
  rcases List.mem_cons.1 hz with rfl | hz
  ·omega
  exact ⟨z, hz, hzn⟩
theorem call_F {l : List Tok} {t : Str} {k : List Expr} (hx : allE nodeM (.mk 6 t noV k) = true) (ha : arityM t = (k.length : Int)) (h1 : 1 ≤ k.length) (hT : ∀ y ∈ k, T1 l y) (hF : ∀ y ∈ k, F1 l y) : F1 l (.mk 6 t noV k) ∧ F2 l (.mk 6 t noV k) := by
 refine F_of hx ?_ (fun S rest h => by rw [lev_call] at h; omega)
 rw [lev_call, toks_call, need_call]
 intro S rest h0 hN hn hs hst
 match k, h1, ha, hT, hF, hn, hs with
 | y :: ks, _, ha, hT, hF, hn, hs =>
 rw [toksL, sep_drop] at hs
 have hs' : seg l S.i = (1, t) :: ((5, [40]) :: (toksE y ++ (sepT (toksL ks) ++ ((5, [41]) :: rest)))) := by rw [hs]; simp
 obtain ⟨k1, t1, s1, i1⟩ := seg_cons hs'
 have s1' : seg l (nextM S).i = (5, [40]) :: (toksE y ++ (sepT (toksL ks) ++ ((5, [41]) :: rest))) := s1
 obtain ⟨k2, t2, s2, i2⟩ := seg_cons s1'
 have hz : stops 0 (((5, [41]) : TK) :: rest) := fun h r e _ => by
  injection e with e _
  subst e
  exact ⟨by decide, by decide⟩
 have hk : (callKM l (fam l S.nest) (nextM S)).2.code = 18 := by
  unfold callKM kidsM
  by_cases h30 : S.nest = 30
  ·rw [if_pos (by show ((S.nest : Int) == 30) = true; rw [h30]; rfl)]
   exact fail18 h0
  rw [if_neg (by show ¬ (((S.nest : Int) == 30) = true); simp; omega), fam_deep (by omega)]
  show (argsF l (pf l (fam l (S.nest + 1)) 0) l.length ([(pf l (fam l (S.nest + 1)) 0 (deepM (nextM (nextM S)))).1], (pf l (fam l (S.nest + 1)) 0 (deepM (nextM (nextM S)))).2)).2.code = 18
  obtain ⟨z, hzm, hzn⟩ := maxN_mem (k := y :: ks) (by simp)
  by_cases hy : 30 < S.nest + 1 + needE y
  ·exact argsF_fail (hF y List.mem_cons_self 0 (deepM (nextM (nextM S))) _ (Nat.zero_le _) h0 (show S.nest + 1 ≤ 30 by omega) hy s2 (stops_sep hz))
  have h1 := hT y List.mem_cons_self 0 (deepM (nextM (nextM S))) _ (Nat.zero_le _) h0 (show S.nest + 1 + needE y ≤ 30 by omega) s2 (stops_sep hz)
  have h1' : pf l (fam l (S.nest + 1)) 0 (deepM (nextM (nextM S))) = (y, adv (deepM (nextM (nextM S))) (toksE y).length) := h1
  rw [h1']
  refine args_F (l := l) (nst := S.nest + 1) (by omega) hz ks (fun w hw => hT w (List.mem_cons_of_mem _ hw)) (fun w hw => hF w (List.mem_cons_of_mem _ hw)) [y] (adv (deepM (nextM (nextM S))) (toksE y).length) l.length rfl h0 ?_ (seg_skip s2) (by omega)
  rcases List.mem_cons.1 hzm with rfl | hzm
  ·omega
  exact ⟨z, hzm, by omega⟩
 show (atomM l (fam l S.nest) S).2.code = _
 have e1 : isM l litT S = false := by rw [isM_seg (show seg l S.i = (1, t) :: _ from hs')]; rfl
 have e2 : isM l opT (nextM S) = true := by rw [isM_seg s1', is_op]; decide
 unfold atomM
 rw [if_neg (by rw [h0]; decide), k1, e1, if_neg (by decide), if_neg (by decide), if_pos (by decide), if_pos e2]
 unfold callM
 have hw : (wantM l closeT (callKM l (fam l S.nest) (nextM S)).2).code = 18 := want_fail hk
 rw [t1, if_neg (by rw [ha]; omega), if_neg (by rw [hw]; simp)]
 exact hw
theorem deep_main (l : List Tok) : ∀ (n : Nat) (x : Expr), sizeE x ≤ n → allE nodeM x = true → allE rngN x = true → F1 l x ∧ F2 l x
 | 0, x, hn, _, _ => by have := sizeE_eq x; omega
 | n + 1, x, hn, hnd, hrg => by
  have hnd0 := hnd
  have hrg0 := hrg
  rw [allE_eq, Bool.and_eq_true] at hnd0 hrg0
  have ih : ∀ y ∈ x.kids, F1 l y ∧ F2 l y := fun y hy => deep_main l n y (size_kids hn hy) ((allL_iff _ _).1 hnd0.2 y hy) ((allL_iff _ _).1 hrg0.2 y hy)
  have iT : ∀ y ∈ x.kids, T1 l y ∧ T2 l y := fun y hy => parse_main l _ y (Nat.le_refl _) ((allL_iff _ _).1 hnd0.2 y hy) ((allL_iff _ _).1 hrg0.2 y hy)
  have hNC := node_cases hnd0.1
  cases hNC with
  | val v hp h0 => exact leaf_F (need_val v)
  | name t ht => exact leaf_F (need_name t)
  | neg a => exact neg_F hnd (ih a (by simp [oneX, Expr.kids])).1
  | no a => exact no_F hnd (ih a (by simp [oneX, Expr.kids])).1
  | bin t a b ht => exact bin_F ht hnd (iT a (by simp [binX, Expr.kids])) (ih a (by simp [binX, Expr.kids])) (ih b (by simp [binX, Expr.kids])).1
  | call t k ht =>
   refine call_F hnd ht ?_ (fun y hy => (iT y (by simpa [Expr.kids] using hy)).1) (fun y hy => (ih y (by simpa [Expr.kids] using hy)).1)
   have := arity_pos t
   omega
/-! What was parsed is right, where the words are the lexer's. -/
/-- What the lexer's words are. -/
structure WordOk (t : Tok) : Prop where
 name : t.kind = 1 → nameM t.text = true
 num : t.kind = 3 → plainM (readM t.text).1 = true ∧ 0 ≤ (readM t.text).1.n ∧ (readM t.text).1.n ≤ 9223372036854775807
def RB (r : Expr × PS) : Prop := r.2.code = 0 → allE nodeM r.1 = true ∧ allE rngN r.1 = true
def RF (N : Nat) (f : PS → Expr × PS) : Prop := ∀ S : PS, S.nest = N → RB (f S)
/-! The lexer's words. -/
/-! The parse laws where nothing is too deep. -/
abbrev famG (B : Nat) (l : List Tok) (n : Nat) : Fam := famM l (B - n)
def T1G (B : Nat) (l : List Tok) (x : Expr) : Prop := ∀ (k : Nat) (S : PS) (rest : List TK), k ≤ levE x → S.code = 0 → (31 ≤ S.nest ∧ S.nest + needE x ≤ B) → seg l S.i = toksE x ++ rest → stops k rest → pf l (famG B l S.nest) k S = (x, adv S (toksE x).length)
def T2G (B : Nat) (l : List Tok) (x : Expr) : Prop := ∀ (k : Nat) (S : PS) (rest : List TK), (k = 0 ∨ k = 1 ∨ k = 4 ∨ k = 5) → k ≤ levE x → S.code = 0 → (31 ≤ S.nest ∧ S.nest + needE x ≤ B) → seg l S.i = toksE x ++ rest → stops (k + 1) rest →
 ∃ n, l.length ≤ S.i + (toksE x).length + n ∧ leftM l (ofL k) (pf l (famG B l S.nest) (k + 1)) S = leftF l (ofL k) (pf l (famG B l S.nest) (k + 1)) n (x, adv S (toksE x).length)
/-! The parser from a word on, and of a source. -/
/-! Other trees have other words, and other prints. -/
/-! The laws of printing. -/
/-- show.Print. -/
def showM (x : Expr) : Str × Int := if !(exprRightM x) then ([], 1) else if decide ((4000 : Int) < ((printE x).length : Int)) then ([], 3) else (printE x, 0)
theorem show_of {x : Expr} (h : refRightM x = true) : (showM x = ([], 3) ∧ 4000 < (printE x).length) ∨ (showM x = (printE x, 0) ∧ (printE x).length ≤ 4000) := by
 unfold showM
 rw [exprRight_eq, h]
 simp only [Bool.not_true, Bool.false_eq_true, if_false]
 split
 ·rename_i h2; exact .inl ⟨rfl, by simp at h2; omega⟩
 rename_i h2; exact .inr ⟨rfl, by simp at h2; omega⟩
theorem right_node {x : Expr} (h : refRightM x = true) : allE nodeM x = true := by
 unfold refRightM at h
 rw [Bool.and_eq_true] at h
 exact h.2
set_option maxRecDepth 4000
abbrev xo (own : Bool) (t : Str) (ks : List Expr) : AObj := .cells 28 [intA 6, strA t, intA 0, intA 0, strA [], .slice own 6 (ks.map exprA)]
theorem low_xo {n : Nat} {own : Bool} {t : Str} {ks : List Expr} : ObjLow n (xo own t ks) := by
 show ∀ z ∈ [intA 6, strA t, intA 0, intA 0, strA [], AV.slice own 6 (ks.map exprA)], Low n z
 intro z hz
 simp only [List.mem_cons, List.not_mem_nil, or_false] at hz
 rcases hz with rfl | rfl | rfl | rfl | rfl | rfl
 all_goals first | exact low_exprs | simp
theorem const69 : constAV (.agg #[.int .i64 0, .string ⟨#[]⟩, .int .i64 0, .int .i64 0, .string ⟨#[]⟩, .slice none 0 0]) = .agg [intA 0, strA [], intA 0, intA 0, strA [], .nil] := rfl
attribute [go_sem] const69
theorem gA {Hp : List AObj} {o ox : Nat} {z A B : AObj} (ho : Hp[o]? = some z) (hne : ox ≠ o) : ((Hp.set o A).set ox B)[o]? = some A := by rw [List.getElem?_set_ne hne]; exact getset ho
theorem gB {Hp : List AObj} {o ox : Nat} {z A B : AObj} (hox : Hp[ox]? = some z) : ((Hp.set o A).set ox B)[ox]? = some B := by
 have := (List.getElem?_eq_some_iff.1 hox).1
 simp [this]
theorem setA {Hp : List AObj} {o ox : Nat} {A A' B : AObj} (hne : ox ≠ o) : ((Hp.set o A).set ox B).set o A' = (Hp.set o A').set ox B := by rw [List.set_comm _ _ hne, List.set_set]
theorem exprs_snoc (ks : List Expr) (x : Expr) : ks.map exprA ++ [.agg [.v (.int .i64 x.op), .v (sv x.text), .v (.int .i64 x.val.kind), .v (.int .i64 x.val.n), .v (sv x.val.s), .slice false 6 (x.kids.map exprA)]] = (ks ++ [x]).map exprA := by rw [List.map_append, List.map_cons, List.map_nil, exprA_eq x]
theorem c208 (l : List Tok) (S : PS) (t : Str) (Dv : Fam) (o ox : Nat) (Hp : List AObj) (hne : ox ≠ o) (ho : Hp[o]? = some (pr l S)) (hox : Hp[ox]? = some (xo true t [])) (hi : S.i < l.length) (hl : TokEnd l) (hll : l.length ≤ 1048576) (hf : Good l S.nest Dv.ei) (hcf : PC 80 l Dv.ei S.nest) : ACall Tryz.prog 208 [.ptr ox 0, .ro [.ptr o 0]] Hp (fun r H' => r = exprA (.mk 6 t noV (argsM l Dv.ei S).1) ∧ H' = (Hp.set o (pr l (argsM l Dv.ei S).2)).set ox (xo true t (argsM l Dv.ei S).1)) := by
 have hoxl := (List.getElem?_eq_some_iff.1 hox).1
 have hol := (List.getElem?_eq_some_iff.1 ho).1
 refine ACall.body [.cell 2 28] [0, 1] Tryz.func208 Tryz.ntmps208 (fun d => ?_)
 refine Z35 ?_;refine R.fin [0, 1, 2] ?_
 refine W.drawT [0, 1, 0, 4, 3, 0, 63, 127, 255, 127, 639] [1, 3] [.q 1 [] [0], .s [4] (some 0) [] [], .q 1 [] [1], .s [6] (some 1) [] [], .q 2 [] []] (fun B => (Hp.set o (if B 1 = true then pr l (Dv.ei S).2 else pr l S)).set ox (if B 0 = true then xo false t [] else xo true t [])) (fun _ => [zero69]) Tryzmixed (by kernel_rfl) (by simp only [Bool.false_eq_true, if_false]; rw [set_same ho, set_same hox]) rfl (fun B => by simp) ?_
 apply Y.q
 case h1 =>
  intro B hT hF
  exact Z204
 case hTF => decide
 refine Y.loadUpT (o := ox) (t' := 28) (cs := [intA 6, strA t, intA 0, intA 0, strA [], .slice true 6 ([].map exprA)]) (cs' := [intA 6, strA t, intA 0, intA 0, strA [], .slice false 6 ([].map exprA)]) Tryz.isAgg26 (fun B hB => ⟨by simp only [hB]; exact gB hox, by simp [upd, List.set_set] <;> rfl, rfl⟩) ?_
 apply Y.q
 case h1 =>
  intro B hT hF
  refine Z280 ?_;exact Z269
 case hTF => decide
 refine Y.callUp (r := exprA (Dv.ei S).1) (o := o) (x0 := pr l S) (x := pr l (Dv.ei S).2) Tryz.call80 (fun B hT hF hB => ⟨by simp only [hB]; exact gA ho hne, ?_, rfl, low_pr, ?_⟩) ?_
 ·simp only [upd, hB, Nat.reduceEqDiff, if_false, if_true, Bool.false_eq_true]
  exact (setA hne).symm
 ·simp only [hB]
  exact hcf o _ S (get_up (gA ho hne)) hi rfl
 apply Y.q
 case h1 =>
  intro B hT hF
  refine D.len jU ?_;exact Z103
 case hTF => decide
 refine Y.appendPut (tn := [1, 3]) (U := (Hp.set o (pr l (Dv.ei S).2)).set ox (xo false t [])) (O := [zero69]) (o := ox) (t' := 28) (cs := [intA 6, strA t, intA 0, intA 0, strA [], .slice false 6 ([].map exprA)]) (by kernel_rfl) jU Tryz.type28 Tryz.sizeOf28 Tryz.sizeOf26 jU (get_up (gB hox)) ?_ ?_ ?_ (hfsz := Tryz.sizeOf26)
 ·simp [Tryz.t28]
 ·simp [Tryz.t28]
 refine R.fieldAddrPtr (fo := 5) jU Tryz.sizeOf26 ?_
 refine R.storeUpT jS (gB hox) ?_ ?_
 ·first | (rw [exprs_snoc]; exact low_exprs) | (have := low_exprs (n := ((Hp.set o (pr l (Dv.ei S).2)).set ox (xo false t [])).length) (k := 6) (o := true) (l := [(Dv.ei S).1]); simp only [List.map_cons, List.map_nil, exprA_eq] at this; exact this)
 refine R.fin [0, 1, 2] ?_;refine W.seq ?_
 refine AW.loopC (α := List Expr × PS) (fun r => ⟨34, setF 0 (.ptr ox 0) (setF 1 (.ro [.ptr o 0]) (setF 2 (.ptr (oid Hp.length 0) 0) (fun _ => .any))), (Hp.set o (pr l r.2)).set ox (xo true t r.1), [zero69], [], none⟩) (fun r => ArgsAt l Dv.ei S r) (fun r => l.length - r.2.i) (([(Dv.ei S).1], (Dv.ei S).2)) (.start (hf S hi rfl)) (StLe.of_eq (by simp [List.set_set, xo, exprA_eq])) rfl (fun r hx => ?_)
 refine Z16 ?_;refine Z259 ?_;refine Z142 ?_;refine R.loadUp jA (gA ho hne) ?_;refine Z98 ?_;refine G.loadRo jA ?_;refine G.call Tryz.call140 (fun hB => c140 l r.2 commaT o _ (get_up (gA ho hne)) hx.fact.lt hl (by decide)) ?_;refine R.pickAnd ?_;refine R.fin [0, 1, 2, 21] ?_
 refine W.cond (fun ht21 => ?_) (fun ht21 => ?_)
 ·have hon := hx.on hl ht21 hf
  have hle := hon.2.1.le
  have hlt0 := hx.fact.lt
  refine Z246 ?_;refine Z138 ?_;refine R.callUp Tryz.call141 (gA ho hne) (by simp) low_pr (c141 l r.2 o _ (get_up (gA ho hne)) hx.fact.lt hll) ?_;refine R.fin [0, 1, 2] ?_
  refine W.drawT0 [0, 1, 0, 4, 3, 0, 63, 127, 255, 127, 639] [1, 3] [.q 1 [] [0], .s [25] (some 0) [] [], .q 1 [] [1], .s [27] (some 1) [] [], .q 2 [] []] (fun B => (Hp.set o (if B 1 = true then pr l (Dv.ei (nextM r.2)).2 else pr l (nextM r.2))).set ox (if B 0 = true then xo false t r.1 else xo true t r.1)) (fun _ => [zero69]) Tryzmixed (by kernel_rfl) (by simp only [Bool.false_eq_true, if_false]; exact (setA hne).symm) rfl (fun B => by simp) ?_
  apply Y.q
  case h1 =>
   intro B hT hF
   exact Z204
  case hTF => decide
  refine Y.loadUpT (o := ox) (t' := 28) (cs := [intA 6, strA t, intA 0, intA 0, strA [], .slice true 6 (r.1.map exprA)]) (cs' := [intA 6, strA t, intA 0, intA 0, strA [], .slice false 6 (r.1.map exprA)]) Tryz.isAgg26 (fun B hB => ⟨by simp only [hB]; exact gB hox, by simp [upd, List.set_set] <;> rfl, rfl⟩) ?_
  apply Y.q
  case h1 =>
   intro B hT hF
   refine Z280 ?_;exact Z269
  case hTF => decide
  refine Y.callUp (r := exprA (Dv.ei (nextM r.2)).1) (o := o) (x0 := pr l (nextM r.2)) (x := pr l (Dv.ei (nextM r.2)).2) Tryz.call80 (fun B hT hF hB => ⟨by simp only [hB]; exact gA ho hne, ?_, rfl, low_pr, ?_⟩) ?_
  ·simp only [upd, hB, Nat.reduceEqDiff, if_false, if_true, Bool.false_eq_true]
   exact (setA hne).symm
  ·simp only [hB]
   exact hcf o _ (nextM r.2) (get_up (gA ho hne)) hon.1 hx.fact.nest
  apply Y.q
  case h1 =>
   intro B hT hF
   refine D.len jU ?_;exact Z103
  case hTF => decide
  refine Y.appendPut (tn := [1, 3]) (U := (Hp.set o (pr l (Dv.ei (nextM r.2)).2)).set ox (xo false t r.1)) (O := [zero69]) (o := ox) (t' := 28) (cs := [intA 6, strA t, intA 0, intA 0, strA [], .slice false 6 (r.1.map exprA)]) (by kernel_rfl) jU Tryz.type28 Tryz.sizeOf28 Tryz.sizeOf26 jU (get_up (gB hox)) ?_ ?_ ?_ (hfsz := Tryz.sizeOf26)
  ·have := hx.fact.len; have := hx.fact.lt; simp only [List.length_map, Tryz.t28]; omega
  ·have := hx.fact.len; have := hx.fact.lt; simp only [List.length_map, Tryz.t28]; omega
  refine R.fieldAddrPtr (fo := 5) jU Tryz.sizeOf26 ?_
  refine R.storeUpT jS (gB hox) ?_ ?_
  ·first | (rw [exprs_snoc]; exact low_exprs) | (have := low_exprs (n := ((Hp.set o (pr l (Dv.ei S).2)).set ox (xo false t [])).length) (k := 6) (o := true) (l := [(Dv.ei S).1]); simp only [List.map_cons, List.map_nil, exprA_eq] at this; exact this)
  refine R.fin [0, 1, 2] ?_;refine K.blN ?_
  refine K.lpN (r.1 ++ [(Dv.ei (nextM r.2)).1], (Dv.ei (nextM r.2)).2) hon.2.2 (by show l.length - (Dv.ei (nextM r.2)).2.i < l.length - r.2.i; have : r.2.i + 1 ≤ (Dv.ei (nextM r.2)).2.i := hle; omega) (StCut.of_eq ?_)
  simp only [show Tryz.t28.size = 6 from rfl, exprs_snoc, List.set_set]
 have hout := hx.out (by rw [ht21]; simp)
 refine Z87 ?_;refine Z252 ?_;refine R.loadUpN jA jS (gB hox) ?_;refine Z32 ?_;exact K.fin (V.one (V.cellN jA jS)) ⟨by rw [hout, mk_agg]; rfl, by rw [hout]⟩ (hlow := by have := exprA_low Hp.length (.mk 6 t noV r.1); rw [mk_agg] at this; simpa using this)

/-- within, with the function that gathers a call's kids. -/
theorem c227c (l : List Tok) (S : PS) (a : Int) (t : Str) (Dv : Fam) (o : Nat) (Hp : List AObj) (A0 A1 : AObj) (l0 : ObjLow 0 A0) (ho : Hp[o]? = some (pr l S)) (hi : S.i < l.length) (hl : TokEnd l) (hll : l.length ≤ 1048576) (hnl : S.nest ≤ 30) (hd : DeepC l Dv S.nest) :
  ACall Tryz.prog 169 [.ptr o 0, intA a, .fn (.func 208) [] [.ptr (oid Hp.length 2) 0, .ro [.ptr o 0]]] (Hp ++ [A0, A1, xo true t []]) (fun r H' => r = exprA (if S.nest = 30 then nullX else .mk 6 t noV (kidsM l a Dv.ei S).1) ∧ H' = Hp.set o (pr l (kidsM l a Dv.ei S).2) ++ [A0, A1, xo true t (kidsM l a Dv.ei S).1]) := by
 have hlt := (List.getElem?_eq_some_iff.1 ho).1
 have ho' : (Hp ++ [A0, A1, xo true t []])[o]? = some (pr l S) := get_up ho
 by_cases h30 : S.nest = 30
 ·refine (c169 l S a 208 [] [.ptr (oid Hp.length 2) 0, .ro [.ptr o 0]] nullX (deepM S) o (Hp ++ [A0, A1, xo true t []]) ((Hp ++ [A0, A1, xo true t []]).set o (pr l (deepM S))) ho' (by omega) Tryz.call208 (by simp) (getset ho') rfl (fun h => h) (fun h => absurd h30 h)).mono fun r H' h => ?_
  have e : kidsM l a Dv.ei S = ([], failM 18 a S) := if_pos (by rw [h30]; rfl)
  rw [e, if_pos h30]
  obtain ⟨h1, h2⟩ := h.1 h30
  exact ⟨h1, by rw [h2, List.set_append_left _ _ hlt]⟩
 have hq := argsM_fact (S := deepM S) hl hi (hd.ei h30).1
 refine (c169 l S a 208 [] [.ptr (oid Hp.length 2) 0, .ro [.ptr o 0]] (.mk 6 t noV (argsM l Dv.ei (deepM S)).1) (argsM l Dv.ei (deepM S)).2 o (Hp ++ [A0, A1, xo true t []]) (Hp.set o (pr l (argsM l Dv.ei (deepM S)).2) ++ [A0, A1, xo true t (argsM l Dv.ei (deepM S)).1]) ho' (by omega) Tryz.call208 (by simp) (get_up (getset ho)) hq.nest (fun h y hy => ?_) (fun _ own => ?_)).mono fun r H' h => ?_
 ·rw [List.set_append_left _ _ hlt] at h
  rcases List.mem_append.1 hy with hy | hy
  ·rcases List.mem_or_eq_of_mem_set hy with h1 | h1
   ·obtain ⟨i, hi', rfl⟩ := List.getElem_of_mem h1
    by_cases hio : i = o
    ·subst hio
     have : Hp[i] = pr l S := by rw [List.getElem?_eq_getElem hi'] at ho; injection ho
     rw [this]; exact low_pr
    refine h _ (List.mem_append_left _ ?_)
    rw [List.mem_iff_getElem?]
    exact ⟨i, by rw [List.getElem?_set_ne (Ne.symm hio), List.getElem?_eq_getElem hi']⟩
   rw [h1]; exact low_pr
  simp only [List.mem_cons, List.not_mem_nil, or_false] at hy
  rcases hy with rfl | rfl | rfl
  ·exact h _ (List.mem_append_right _ (by simp))
  ·exact h _ (List.mem_append_right _ (by simp))
  exact low_xo
 ·have hoid : oid Hp.length 2 ≠ o := by unfold oid; omega
  have e1 : (Hp ++ [A0, A1, xo true t []]).set o (pr l (deepM S)) ++ own = (Hp.set o (pr l (deepM S)) ++ [A0, A1, xo true t []]) ++ own := by rw [List.set_append_left _ _ hlt]
  rw [e1]
  have g1 : ((Hp.set o (pr l (deepM S)) ++ [A0, A1, xo true t []]) ++ own)[o]? = some (pr l (deepM S)) := get_up (get_up (getset ho))
  have g2 : ((Hp.set o (pr l (deepM S)) ++ [A0, A1, xo true t []]) ++ own)[oid Hp.length 2]? = some (xo true t []) := get_up (by
   have := get_oid (U := Hp.set o (pr l (deepM S))) (O := [A0, A1, xo true t []]) (n := 2)
   rw [List.length_set] at this
   exact this)
  refine (c208 l (deepM S) t Dv o (oid Hp.length 2) _ hoid g1 g2 hi hl hll (hd.ei h30).1 (hd.ei h30).2).mono fun r H' h => ⟨h.1, h.2.trans ?_⟩
  rw [List.append_assoc, List.set_append_left _ _ (by simpa using hlt), List.set_set]
  have := set_oid (U := Hp.set o (pr l (argsM l Dv.ei (deepM S)).2)) (O := [A0, A1, xo true t []] ++ own) (n := 2) (x := xo true t (argsM l Dv.ei (deepM S)).1)
  rw [List.length_set] at this
  rw [this]
  simp
 have e : kidsM l a Dv.ei S = ((argsM l Dv.ei (deepM S)).1, riseM (argsM l Dv.ei (deepM S)).2) := if_neg (by
  show ¬ (((S.nest : Int) == 30) = true)
  simp
  omega)
 rw [e, if_neg h30]
 obtain ⟨h1, h2⟩ := h.2 h30
 exact ⟨h1, by rw [h2, List.set_append_left _ _ (by simpa using hlt), List.set_set]⟩
theorem c206 (l : List Tok) (S : PS) (Dv : Fam) (t : Tok) (o : Nat) (Hp : List AObj) (ho : Hp[o]? = some (pr l S)) (hi : (nextM S).i < l.length) (hl : TokEnd l) (hll : l.length ≤ 1048576) (hnl : S.nest ≤ 30) (hd : DeepC l Dv S.nest) : ACall Tryz.prog 206 [.ptr o 0, tokA t] Hp (fun r H' => r = exprA (callM l Dv t S).1 ∧ H' = Hp.set o (pr l (callM l Dv t S).2)) := by
 have hi0 : S.i < l.length := by have : S.i + 1 < l.length := hi; omega
 have hol := (List.getElem?_eq_some_iff.1 ho).1
 have hkf : KFact l (nextM S) (callKM l Dv S) := kidsM_fact hl _ hi (fun h => (hd.ei h).1)
 refine ACall.body [.cell 4 28] [0, 1] Tryz.func206 Tryz.ntmps206 (fun d => ?_)
 refine Z221 ?_;refine R.alloc jZ ?_;refine R.fin [2, 3, 4] ?_;refine Z84 ?_;refine R.call Tryz.call101 (c101 t.text _) ?_;refine Z258 ?_;refine R.fin [2, 3, 4, 5] ?_;refine Z10 ?_;refine R.lss ?_;refine R.fin [2, 3, 4, 5, 12] ?_
 refine W.cond (fun ht12 => ?_) (fun ht12 => ?_)
 ·have hlt0 : arityM t.text < 0 := by simpa using ht12
  have e : callM l Dv t S = (nullX, failM 9 t.at_ S) := if_pos hlt0
  refine Z138 ?_;refine Z118 ?_;refine R.callUp Tryz.call82 ho (by simp) low_pr (c82 l S 9 t.at_ o _ (get_up ho)) ?_;refine Z260 ?_;refine Z159 ?_;exact Z283
 have hge : ¬ arityM t.text < 0 := by simpa using ht12
 refine Z3 ?_;refine Z138 ?_;refine R.callUp Tryz.call141 ho (by simp) low_pr (c141 l S o _ (get_up ho) hi0 hll) ?_;refine Z20 ?_;refine R.fin [2, 3, 4, 5, 6] ?_;refine Z84 ?_;refine Z278 ?_;refine Z20 ?_;refine R.fin [2, 3, 4, 5, 6, 7] ?_;refine Z252 ?_;refine R.nilCell 2 5 6 ?_;refine Z259 ?_;refine Z75 ?_;refine R.makeFunc ?_
 refine R.callX (up' := (Hp.set o (pr l (nextM S))).set o (pr l (callKM l Dv S).2)) (own' := [zero69, .cells 52 [intA (tokAt l S.i).kind, strA (tokAt l S.i).text, intA (tokAt l S.i).at_], xo true t.text (callKM l Dv S).1]) Tryz.call169 (by have := c227c l (nextM S) (tokAt l S.i).at_ t.text Dv o (Hp.set o (pr l (nextM S))) zero69 (.cells 52 [intA (tokAt l S.i).kind, strA (tokAt l S.i).text, intA (tokAt l S.i).at_]) low_z69 (getset ho) hi hl hll hnl hd; rw [List.length_set] at this; exact this) (by simp) (fun h => low_set h low_pr) ?_
 refine R.fin [2, 3, 4, 5, 7] ?_;refine Z138 ?_;refine R.callUp Tryz.call207 (getset (getset ho)) (by simp) low_pr (c207 l (callKM l Dv S).2 closeT o _ (get_up (getset (getset ho))) hkf.lt hll) ?_;refine R.fin [2, 3, 4, 5, 7] ?_;refine Z16 ?_;refine Z259 ?_;refine Z142 ?_;refine R.loadUp jA (getset (getset (getset ho))) ?_;refine Z98 ?_;refine G.fieldAddrPtr (fo := 5) jU Tryz.sizeOf26 ?_;refine G.loadOwn jA ?_;refine G.len jU ?_;refine G.move ?_;refine G.neq ?_;refine R.pickAnd ?_;refine R.fin [2, 3, 4, 7, 41] ?_
 refine W.cond (fun ht41 => ?_) (fun ht41 => ?_)
 ·have e : callM l Dv t S = (nullX, failM 8 t.at_ (wantM l closeT (callKM l Dv S).2)) := by
   unfold callM
   rw [if_neg hge, if_pos (by have := ht41; simp only [List.length_map] at this; exact this)]
  refine Z138 ?_;refine Z118 ?_;refine R.callUp Tryz.call82 (getset (getset (getset ho))) (by simp) low_pr (c82 l (wantM l closeT (callKM l Dv S).2) 8 t.at_ o _ (get_up (getset (getset (getset ho))))) ?_;refine Z260 ?_;refine Z159 ?_;exact K.fin (V.one (V.cellN jA jS)) ⟨by rw [e, exprA_eq], by rw [e, List.set_set, List.set_set, List.set_set]⟩ (hlow := low_agg _)
 have e : callM l Dv t S = (.mk 6 t.text noV (callKM l Dv S).1, (wantM l closeT (callKM l Dv S).2)) := by
  unfold callM
  rw [if_neg hge, if_neg (by have := ht41; simp only [List.length_map] at this; rw [Bool.eq_false_iff] at this; exact this)]
 refine Z3 ?_;refine Z36 ?_;refine Z260 ?_;refine Z50 ?_;exact K.fin (V.one (V.cellN jA jS)) ⟨by rw [e, mk_agg]; rfl, by rw [e, List.set_set, List.set_set]⟩ (hlow := by have := exprA_low Hp.length (.mk 6 t.text noV (callKM l Dv S).1); rw [mk_agg] at this; simpa using this)

theorem pcall_all {l : List Tok} (hl : TokEnd l) (hll : l.length ≤ 1048576) (n : Nat) (Dv : Fam) (hn : n ≤ 30) (hd : DeepC l Dv n) : PCall l Dv n := fun o Hp S t ho hi hS _ _ => by
 subst hS
 exact c206 l S Dv t o Hp ho hi hl hll hn hd
/-! Queries: what query.Parse, Print, Right, Same answer. -/
structure Qry where
 all : Bool
 cols : List Str
 whr : Expr
 lim : Int
/-- A parser: where it is, and the first fault. -/
structure QS where
 i : Nat
 code : Int
 at_ : Int
def failQ (l : List Tok) (e : Int) (S : QS) : QS := if S.code == 0 then ⟨S.i, e, ((tokAt l S.i).at_ : Int)⟩ else S
def isQ (l : List Tok) (s : Str) (S : QS) : Bool := ((S.code == 0) && (((tokAt l S.i).kind == 5) || ((tokAt l S.i).kind == 2))) && ((tokAt l S.i).text == s)
def nextQ (S : QS) : QS := ⟨S.i + 1, S.code, S.at_⟩
def stepQ (l : List Tok) (s : Str) (S : QS) : QS := if isQ l s S then nextQ S else S
def wantQ (l : List Tok) (s : Str) (S : QS) : QS := if isQ l s S then nextQ S else failQ l 8 S
def nameQ (l : List Tok) (r : Qry × QS) : Qry × QS :=
 if r.2.code != 0 then r else if (tokAt l r.2.i).kind != 1 then (r.1, failQ l 8 r.2) else if (r.1.cols.length : Int) == 12 then (r.1, failQ l 3 r.2)
 else (⟨r.1.all, r.1.cols ++ [(tokAt l r.2.i).text], r.1.whr, r.1.lim⟩, nextQ r.2)
def namesF (l : List Tok) : Nat → Qry × QS → Qry × QS
 | 0, r => r
 | n + 1, r => if isQ l [44] r.2 then namesF l n (nameQ l (r.1, nextQ r.2)) else r
def setAll (b : Bool) (q : Qry) : Qry := ⟨b, q.cols, q.whr, q.lim⟩
def namesQ (l : List Tok) (r : Qry × QS) : Qry × QS := if isQ l [42] r.2 then (setAll true r.1, nextQ r.2) else namesF l l.length (nameQ l (setAll false r.1, r.2))
def whereW : Str := [119, 104, 101, 114, 101]
def limitW : Str := [108, 105, 109, 105, 116]
def selectW : Str := [115, 101, 108, 101, 99, 116]
def whereQ (l : List Tok) (r : Qry × QS) : Qry × QS :=
 if isQ l whereW r.2 then
  if (atM l (r.2.i + 1)).2.2.1 != 0 then (r.1, ⟨r.2.i + 1, (atM l (r.2.i + 1)).2.2.1, (atM l (r.2.i + 1)).2.2.2⟩)
  else (⟨r.1.all, r.1.cols, (atM l (r.2.i + 1)).1, r.1.lim⟩, ⟨(atM l (r.2.i + 1)).2.1.toNat, r.2.code, r.2.at_⟩)
 else r
/-- The number that strconv.Atoi hands back. -/
def atoiV (s : Str) : Int := match Lib.atoiAll s with | .ok v => v | .range => Lib.atoiSat s | _ => 0
def limitQ (l : List Tok) (r : Qry × QS) : Qry × QS :=
 if isQ l limitW r.2 then
  if (tokAt l (r.2.i + 1)).kind != 3 then (r.1, failQ l 8 (nextQ r.2))
  else if decide ((100000 : Int) < atoiV (tokAt l (r.2.i + 1)).text) then (r.1, failQ l 3 (nextQ r.2))
  else (⟨r.1.all, r.1.cols, r.1.whr, atoiV (tokAt l (r.2.i + 1)).text⟩, nextQ (nextQ r.2))
 else r
def nullQ : Qry := ⟨false, [], nullX, 0⟩
def endQ (l : List Tok) (S : QS) : QS := if (tokAt l S.i).kind != 0 then failQ l 8 S else S
def bodyQ (l : List Tok) : Qry × QS :=
 let r := limitQ l (whereQ l (namesQ l (⟨false, [], nullX, -1⟩, wantQ l selectW ⟨0, 0, 0⟩)))
 (r.1, endQ l (wantQ l [59] r.2))
def parseQL (l : List Tok) : Qry × Int × Int := if (bodyQ l).2.code != 0 then (nullQ, (bodyQ l).2.code, (bodyQ l).2.at_) else ((bodyQ l).1, 0, 0)
def parseQ (s : Str) : Qry × Int × Int := if (lexM s).2.1 != 0 then (nullQ, (lexM s).2.1, ((lexM s).2.2 : Int)) else parseQL (lexM s).1
def asksQ (q : Qry) : Bool := !(eqE q.whr nullX)
def rightQ (q : Qry) : Bool :=
 if (((q.all != ((q.cols.length : Int) == 0)) || decide ((12 : Int) < (q.cols.length : Int))) || decide (q.lim < -1)) || decide ((100000 : Int) < q.lim) then false
 else (q.cols.all lexNameM) && (!(asksQ q) || refRightM q.whr)
def sameQ (a b : Qry) : Bool := (((a.all == b.all) && (a.lim == b.lim)) && decide (a.cols = b.cols)) && eqE a.whr b.whr
def commas : List Str → Str
 | [] => []
 | a :: r => [44, 32] ++ a ++ commas r
def listQ (c : List Str) : Str := (commas c).drop 2
def selT : Str := selectW ++ [32]
def whrT : Str := [32] ++ whereW ++ [32]
def limT : Str := [32] ++ limitW ++ [32]
def printQ (q : Qry) : Str :=
 selT ++ (if q.all then [42] else listQ q.cols) ++ (if asksQ q then whrT ++ printE q.whr else []) ++ (if q.lim != -1 then limT ++ Lib.itoa q.lim else []) ++ [59]
/-! The words of what is printed. -/
def namesT : List Str → List TK
 | [] => []
 | a :: r => (5, [44]) :: (1, a) :: namesT r
def colsQT (q : Qry) : List TK := if q.all then [(5, [42])] else (namesT q.cols).drop 1
def whrQT (q : Qry) : List TK := if asksQ q then (2, whereW) :: toksE q.whr else []
def limQT (q : Qry) : List TK := if q.lim != -1 then [(2, limitW), (3, Lib.itoa q.lim)] else []
def toksQ (q : Qry) : List TK := (2, selectW) :: (colsQT q ++ (whrQT q ++ (limQT q ++ [(5, [59])])))
end Go.SX.Nb
namespace Go.SX
variable [GI : GlobInv]
open Classical
@[simp] theorem low_sl {n o k m c : Nat} : Low n (.sl o k m c) ↔ o < n := ⟨fun h => by cases h; assumption, fun h => .sl o k m c h⟩
@[simp] theorem low_cellp {n k : Nat} : Low n (.cellp k) := .cellp k
/-- The cells of elements, one behind the other. -/
abbrev flatA (xs : List AV) : List AV := xs.flatMap AV.cells
theorem flatA_cons (x : AV) (r : List AV) : flatA (x :: r) = x.cells ++ flatA r := by simp [flatA]
theorem flatA_len {k : Nat} : ∀ {xs : List AV}, (∀ x ∈ xs, x.cells.length = k) → (flatA xs).length = xs.length * k
 | [], _ => by simp
 | x :: r, h => by
  rw [flatA_cons, List.length_append, h x List.mem_cons_self, flatA_len (fun y hy => h y (List.mem_cons_of_mem _ hy)), List.length_cons, Nat.add_mul]
  omega
theorem flatA_get {k : Nat} : ∀ {xs : List AV}, (∀ x ∈ xs, x.cells.length = k) → ∀ {i j : Nat} {x y : AV}, xs[i]? = some x → x.cells[j]? = some y → (flatA xs)[i * k + j]? = some y
 | [], _, i, j, x, y, h, _ => by simp at h
 | a :: r, hk, 0, j, x, y, h, h2 => by
  simp at h
  subst h
  rw [flatA_cons, Nat.zero_mul, Nat.zero_add, List.getElem?_append_left (List.getElem?_eq_some_iff.1 h2).1]
  exact h2
 | a :: r, hk, i + 1, j, x, y, h, h2 => by
  rw [List.getElem?_cons_succ] at h
  have ha := hk a List.mem_cons_self
  have hh := flatA_get (fun y hy => hk y (List.mem_cons_of_mem _ hy)) h h2
  rw [flatA_cons, List.getElem?_append_right (by rw [ha, Nat.add_mul]; omega), ha]
  rw [show (i + 1) * k + j - k = i * k + j by rw [Nat.add_mul]; omega]
  exact hh
section
variable {P : Program} {d : Nat} {st : St} {dst : Option Tmp} {ty : TypeId} {pos : String} {aft : Array Edge} {gd : Option (Nat × Bool)}
/-- The elements are written no more: the object goes, and the slice is one of known elements. -/
theorem StRel.freeze {G : Gh} {a : Act} {w : World} (h : StRel d G st a w) {r i k c : Nat} {t : TypeId} {cs xs : List AV} (hr : st.fr r = .sl (st.up.length + i) k xs.length c) (ho : st.own[i]? = some (.cells t cs)) (hnc : xs.length ≤ c)
  (hcs : cs.take (xs.length * k) = flatA xs) (hk : ∀ x ∈ xs, x.cells.length = k) (h1 : ∀ x ∈ xs, ∀ y ∈ x.cells, y.one = true) (hst : ∀ x ∈ xs, ∀ y ∈ x.cells, y.strip = y) :
  ∃ G', StRel d G' { st with fr := setF r (.slice false k xs) st.fr, own := st.own.set i .gone } a w ∧ Keep d G w G' w := by
 let G' : Gh := { G with tag := fun b q => if G.tag b q = .obj (st.up.length + i) then .fix else G.tag b q }
 have hto : (st.up ++ st.own)[st.up.length + i]? = some (.cells t cs) := by rw [get_own]; exact ho
 have hol : st.up.length + i < (st.up ++ st.own).length := (List.getElem?_eq_some_iff.1 hto).1
 have htag : ∀ b q, G.tag b q ≠ .obj (st.up.length + i) → G'.tag b q = G.tag b q := fun b q hb => by simp only [G']; rw [if_neg hb]
 have htagO : ∀ b q, G.tag b q = .obj (st.up.length + i) → G'.tag b q = .fix := fun b q hb => by simp only [G']; rw [if_pos hb]
 have hfix : ∀ b q, G.tag b q = .fix → G'.tag b q = .fix := fun b q hb => by rw [htag b q (by rw [hb]; simp)]; exact hb
 have htail : ∀ b q L, G.tag b q = .tail L → G'.tag b q = .tail L := fun b q L hb => by rw [htag b q (by rw [hb]; simp)]; exact hb
 have hrep : ∀ {l : Option Loc} {y : AV} {u : Value}, Rep G w l y u → Rep G' w l y u := fun hy =>
  hy.mono (G' := G') (fun b q e => ⟨hfix b q e, rfl⟩) (Nat.le_refl _) (fun _ _ => rfl) (fun L _ b q e => htail b q L e)
 have hst' : Still G w G' w := fun b hb => ⟨rfl, hb.1, fun q => by
  rcases hb.2.1 q with e | e
  ·exact .inl (hfix b q e)
  exact .inr (by rw [htag b q (by rw [e]; simp)]; exact e), hb.2.2⟩
 obtain ⟨vs, q1, q2, q3, q4⟩ := h.heap.obj _ _ hto
 refine ⟨G', ⟨h.size, fun s => ?_, ⟨fun j x hx => ?_, ?_, h.heap.inj⟩, h.defs, fun q hq => ?_, h.defsNodup, h.defsGe, ⟨fun b q hb => h.tags.ex b q (fun e => ?_), fun b q j hb => ?_, fun b q L hb => ?_, h.tags.globKeep hst'⟩, h.rnd, h.low⟩,
  ⟨fun b q e => ⟨hfix b q e, rfl⟩, fun b q e s _ ht => htail b q _ ht, Nat.le_refl _, fun _ _ => rfl, rfl, rfl, rfl, Nat.le_refl _, hst'⟩⟩
 ·show Rep G' w _ (setF r (.slice false k xs) st.fr s) _
  unfold setF
  by_cases hs : s = r
  ·subst hs
   rw [if_pos rfl]
   have hsl := h.slots s
   rw [hr] at hsl
   generalize a.tmps.getD s undef = v at hsl
   cases hsl with
   | sl l o k n c ho' =>
    refine .slice _ false k xs ⟨G.blk (st.up.length + i), 0, none⟩ _ c (fun q j => vs.getD (q * k + j) undef) rfl rfl hnc hk h1 (fun q x j y hx hy => ?_) (fun q x j y hx hy => ?_) (fun e => by cases e)
    all_goals
     have hfg := flatA_get hk hx hy
     have hlt : q * k + j < xs.length * k := by
      have := (List.getElem?_eq_some_iff.1 hfg).1
      rw [flatA_len hk] at this; exact this
     rw [← hcs, List.getElem?_take_of_lt hlt] at hfg
     have hcl := (List.getElem?_eq_some_iff.1 hfg).1
    ·refine ⟨htagO _ _ (by simpa using q4 _ hcl), ?_⟩
     simp only [Nat.zero_add]
     simp [World.cell?, q1, show q * k + j < vs.size by omega]
    have hu := q3 _ y (vs[q * k + j]'(by omega)) hfg (Array.getElem?_eq_getElem (by omega))
    have e1 : vs.getD (q * k + j) undef = vs[q * k + j]'(by omega) := by simp [show q * k + j < vs.size by omega]
    rw [e1]
    have := hrep (hu.strip (l' := none))
    rw [hst x (List.mem_of_getElem? hx) y (List.mem_of_getElem? hy)] at this
    exact this
  rw [if_neg hs]
  exact hrep (h.slots s)
 ·have hx' : (st.up ++ st.own.set i .gone)[j]? = some x := hx
  rw [← set_append_own, List.getElem?_set] at hx'
  by_cases hj : st.up.length + i = j
  ·rw [if_pos hj, if_pos hol] at hx'
   injection hx' with hx'
   subst hx'
   subst hj
   exact ⟨vs, t, (0, 0), q1, fun q hq => htagO _ _ (q4 q (by omega))⟩
  rw [if_neg hj] at hx'
  exact (h.heap.obj j x hx').free (fun e => hj e.symm) htag rfl rfl
 ·show G.n = (st.up ++ st.own.set i .gone).length
  have := h.heap.n
  simpa using this
 ·show (st.up ++ st.own.set i .gone)[q]? = _
  have h2 := h.defsAt q hq
  rw [← set_append_own, List.getElem?_set]
  by_cases hj : st.up.length + i = q
  ·subst hj; rw [hto] at h2; cases h2
  rw [if_neg hj]; exact h2
 ·simp only [G'] at hb
  split at hb
  ·rename_i e'; rw [e] at e'; cases e'
  exact hb e
 ·simp only [G'] at hb
  split at hb
  ·cases hb
  exact h.tags.obj b q j hb
 simp only [G'] at hb
 split at hb
 ·cases hb
 exact h.tags.tail b q L hb
end
section
variable {P : Program} {d : Nat} {ops : Array Oper}
variable {sz : Nat} {fr : Nat → AV} {up own own' : List AObj} {dfs : List Nat} {rnd : Option Nat} {Q : St → Prop} {rest : List Oper} {s : Nat} {ty : TypeId} {pos : String} {aft : Array Edge}
end
end Go.SX
