/- Texts on the way to this: QueryParses answers true for whatever it is handed: any source of up to 2000 bytes is parsed as the reference says, or the first fault is told; what is parsed is right, and printed it is parsed as the same. (part 7) -/
import Derived.Lib.ParseIntBTie
import Derived.Test.YtldolkjhlcpidaaGreatDoorQueryParsesCardSaidPart6
set_option linter.all false
namespace Go.SX.Nb
open Go Go.SX Go.Proofs Go.RowKit Go.Sort
variable [ErrAt]
set_option maxRecDepth 4000
theorem c30 (l : List Str) (sep : Str) (hn : l.length ≤ 140737488355328) (hl : (Lib.join l sep).length ≤ 140737488355328) (Hp : List AObj) : AFun Tryz.prog 30 [H9 l, A7 sep] Hp (A7 (Lib.join l sep)) := by
 have e : H9 l = .slice false 1 ((l.map sv).map .v) := by rw [List.map_map]; rfl
 rw [e]
 refine AFun.libSl (xs := [sv sep]) (v := sv (Lib.join l sep)) (fun G w => .v _ _) (fun w u hg hs => ?_)
 rcases hs with ⟨rfl, he⟩ | ⟨ad, c, rfl, hc, hsp, hcell⟩
 ·have : l = [] := by simpa using he
  subst this
  refine (Any.strings_Join_none Tryz.lays156 cd none 0 ⟨sep.toArray⟩ w).mono ?_
  rintro e w' ⟨rfl, rfl⟩
  exact Vz
 rw [List.length_map] at hc
 match l, hn, hl, hc, hsp, hcell with
 | [], _, _, _, _, _ =>
  refine (Any.strings_Join_none Tryz.lays156 cd (some ad) c ⟨sep.toArray⟩ w).mono ?_
  rintro e w' ⟨rfl, rfl⟩
  exact Vz
 | [x], _, _, hc, hsp, hcell =>
  obtain ⟨bk, o, spot⟩ := ad
  have hs0 : spot = none := hsp (by simp)
  subst hs0
  refine (Any.strings_Join_one Tryz.lays156 cd bk o c ⟨x.toArray⟩ ⟨sep.toArray⟩ w (by have := hcell 0 (sv x) rfl; simpa using this)).mono ?_
  rintro e w' ⟨rfl, rfl⟩
  exact ⟨by rw [Lib.join_one], Below.refl _ _⟩
 | x :: y :: r, hn, hl, hc, hsp, hcell =>
  obtain ⟨bk, o, spot⟩ := ad
  have hs0 : spot = none := hsp (by simp)
  subst hs0
  have h0 := hcell 0 (sv x) rfl
  have hb : bk < w.heap.size := World.block_lt_of_cell? _ _ h0
  have hd : ((x :: y :: r).map fun z => (⟨z.toArray⟩ : ByteArray)).map (·.data.toList) = x :: y :: r := by
   rw [List.map_map]
   exact List.map_id'' (fun z => by simp) _
  have := Any.strings_Join_many Tryz.lays156 cd bk o c ((x :: y :: r).map fun z => (⟨z.toArray⟩ : ByteArray)) ⟨sep.toArray⟩ w (fun j z hz => by
   rw [List.getElem?_map, Option.map_eq_some_iff] at hz
   obtain ⟨z', hz', rfl⟩ := hz
   exact hcell j _ (by rw [List.getElem?_map, hz']; rfl)) hb (by simp) (by simpa using hn) (by simpa using hc) (by rw [hd]; simpa using hl)
  rw [hd, List.length_map] at this
  rw [List.length_map]
  refine this.mono ?_
  rintro e w' ⟨rfl, hb'⟩
  exact ⟨by simp, hb'⟩
end Go.SX.Nb
namespace Go.SX.Nb
open Go Go.SX Go.Proofs
variable [ErrAt]
set_option maxRecDepth 4000
/-- The lexer from a place between two words on. -/
def Im (f q : Nat) (s : Str) : List (Tok × Int) := Cj f (q + gapM s) (s.drop (gapM s))
theorem Wp (s : Str) : Ax s = Im (s.length + 1) 0 s := by unfold Ax Im; rw [Nat.zero_add]
theorem Wq {f q : Nat} {s : Str} (h : s ≠ []) : ∃ (n : Nat), Cj (f + 1) q s = (⟨(Aq s).1, (Aq s).2.1, q⟩, (Aq s).2.2.2) :: (if (Aq s).2.2.2 = 0 then Im f (q + n) (s.drop n) else []) ∧ ((Aq s).2.2.2 = 0 → (Aq s).2.2.1 = (n : Int) ∧ 1 ≤ n ∧ n ≤ s.length) := by
 refine ⟨(Aq s).2.2.1.toNat, ?_, fun he => ?_⟩
 ·rw [Ev h]
  simp only [beq_iff_eq]
  rfl
 obtain ⟨n, h1, h2, h3⟩ := Lu (s := s) (by cases s with | nil => exact absurd rfl h | cons c r => simp) he
 rw [h1]
 exact ⟨rfl, by simpa using h2, by simpa using h3⟩
theorem Nv : ∀ (f f' q : Nat) (s : Str), s.length < f → s.length < f' → Cj f q s = Cj f' q s
 | 0, _, _, _, h, _ => by omega
 | _ + 1, 0, _, _, _, h => by omega
 | f + 1, g + 1, q, s, h1, h2 => by
  by_cases hs : s = []
  ·subst hs; rfl
  rw [Ev hs, Ev hs]
  congr 1
  by_cases he : (Aq s).2.2.2 = 0
  ·obtain ⟨n, hn, k1, k2⟩ := Lu (s := s) (by cases s with | nil => exact absurd rfl hs | cons c r => simp) he
   rw [he]
   simp only [beq_self_eq_true, if_true]
   rw [hn, Int.toNat_natCast]
   exact Nv f g _ _ (by simp only [List.length_drop]; omega) (by simp only [List.length_drop]; omega)
  rw [if_neg (by simpa using he), if_neg (by simpa using he)]
/-! ### Gaps -/
theorem Nw : ∀ (s : Str) (b : Bool), s.drop (s.length - (Bm s b).length) = Bm s b
 | [], b => by cases b <;> rfl
 | c :: r, b => by
  have ih := Nw r
  have hl := Ih r
  have key : ∀ b', (c :: r).drop ((c :: r).length - (Bm r b').length) = Bm r b' := fun b' => by
   have := hl b'
   rw [List.length_cons, show r.length + 1 - (Bm r b').length = (r.length - (Bm r b').length) + 1 by omega, List.drop_succ_cons]
   exact ih b'
  cases b with
  | false =>
   rw [Bm]
   split
   ·exact key _
   split
   ·exact key _
   simp
  | true =>
   rw [Bm]
   split
   ·exact key _
   exact key _
theorem mg (s : Str) : s.drop (gapM s) = Bm s false := Nw s false
/-! ### Words -/
theorem Fo (s of : Str) : Be s of = s.takeWhile (of.contains ·) := W8 s of
theorem Ok {s : Str} (h : (A6 s).2.1 = 0) : s.length ≤ 4000 ∧ (∀ it ∈ Ax s, it.2 = 0) ∧ A6 s = ((Ax s).map (·.1) ++ [⟨0, [], s.length⟩], 0, 0) := by
 unfold A6 at h ⊢
 split at h
 ·exact absurd h (show ¬ (3 : Int) = 0 by decide)
 rename_i hl
 rw [if_neg hl]
 cases hf : (Ax s).find? (fun it => it.2 != 0) with
 | some it =>
  rw [hf] at h
  have := List.find?_some hf
  simp at this
  exact absurd h this
 | none =>
  rw [List.find?_eq_none] at hf
  refine ⟨by omega, fun it hit => by simpa using hf it hit, rfl⟩
theorem si {s : Str} (hl : s.length ≤ 4000) (h : ∀ it ∈ Ax s, it.2 = 0) : A6 s = ((Ax s).map (·.1) ++ [⟨0, [], s.length⟩], 0, 0) := by
 unfold A6
 rw [if_neg (by omega), Wb h]
def M2 (c : UInt8) : Str := if c = 39 then [39, 39] else [c]
def B6 (t : Str) : Str := t.flatMap M2
theorem Wr : ∀ t : Str, (B6 t).length ≤ 2 * t.length
 | [] => Nat.le_refl _
 | c :: r => by
  have := Wr r
  unfold B6 at this ⊢
  rw [List.flatMap_cons, List.length_append, List.length_cons]
  have h : (M2 c).length ≤ 2 := by unfold M2; split <;> simp
  omega
theorem Dr (c : UInt8) (r : Str) : B6 (c :: r) = M2 c ++ B6 r := by unfold B6; rw [List.flatMap_cons]
theorem ck : ∀ s : Str, (Lib.index s [39] = -1 ∧ B6 s = s) ∨ ∃ i : Nat, Lib.index s [39] = (i : Int) ∧ i < s.length ∧ B6 s = s.take i ++ [39, 39] ++ B6 (s.drop (i + 1))
 | [] => .inl ⟨rfl, rfl⟩
 | b :: l => by
  by_cases hb : b = 39
  ·subst hb
   refine .inr ⟨0, by simp [Lib.index, List.isPrefixOf], by simp, ?_⟩
   rw [Dr]
   simp [M2]
  have hp : ([39] : Str).isPrefixOf (b :: l) = false := by
   simp [List.isPrefixOf, Ne.symm hb]
  have hd : B6 (b :: l) = b :: B6 l := by
   rw [Dr, M2, if_neg hb]
   rfl
  rcases ck l with ⟨h1, h2⟩ | ⟨i, h1, h2, h3⟩
  ·refine .inl ⟨?_, by rw [hd, h2]⟩
   rw [Lib.index, hp, h1]; rfl
  refine .inr ⟨i + 1, ?_, by simp; omega, ?_⟩
  ·rw [Lib.index, hp, h1, if_neg (by simp), if_neg (by simp)]
   rfl
  rw [hd, h3]
  simp
theorem M3 : ∀ (n : Nat) (s : Str), s.length ≤ n → Lib.replaceK [39] [39, 39] (Lib.count s [39]) s = B6 s
 | n, s, hn => by
  rcases ck s with ⟨h1, h2⟩ | ⟨i, h1, h2, h3⟩
  ·rw [Lib.count_miss h1, h2]; rfl
  cases n with
  | zero => omega
  | succ n =>
   rw [Lib.count_hit (by decide) h1, Nat.add_comm, Lib.replaceK_hit _ _ _ _ i h1]
   have e : i + ([39] : Str).length = i + 1 := rfl
   rw [e, M3 n (s.drop (i + 1)) (by rw [List.length_drop]; omega), h3]
theorem Gc (s : Str) : Lib.replaceAll s [39] [39, 39] = B6 s := by
 unfold Lib.replaceAll Lib.replace
 rw [if_neg (by decide)]
 have e : Lib.replaceNum s [39] (-1) = Lib.count s [39] := by unfold Lib.replaceNum; rw [if_pos (.inl (by decide))]
 rw [e]
 exact M3 _ s (Nat.le_refl _)
def cl (t : Tok) : Str := if t.kind = 4 then [39] ++ B6 t.text ++ [39] else t.text
theorem ai {q : Str} (h0 : q.headD 0 = 39) (h1 : 1 ≤ q.length) (h : (Bz q).2 = 0) : [39] ++ B6 (Bz q).1.s ++ [39] = q := by
 cases q with
 | nil => simp at h1
 | cons c r =>
  have hc : c = 39 := h0
  subst hc
  unfold Bz at h ⊢
  have n1 : ((39 :: r : Str) == [110, 117, 108, 108]) = false := by rw [beq_eq_false_iff_ne]; intro e; injection e with e; exact absurd e (by decide)
  have n2 : ((39 :: r : Str) == [116, 114, 117, 101]) = false := by rw [beq_eq_false_iff_ne]; intro e; injection e with e; exact absurd e (by decide)
  have n3 : ((39 :: r : Str) == [102, 97, 108, 115, 101]) = false := by rw [beq_eq_false_iff_ne]; intro e; injection e with e; exact absurd e (by decide)
  rw [n1, n2, n3] at h ⊢
  simp only [Bool.false_eq_true, if_false, Bool.or_self] at h ⊢
  by_cases hq : Fh (39 :: r) = true
  ·rw [if_pos hq] at h ⊢
   unfold Po at h ⊢
   split at h
   ·exact absurd h (show ¬ (7 : Int) = 0 by decide)
   rename_i hp
   rw [if_neg hp]
   have hp' : Br (Jm (39 :: r)) = 39 :: r := by simpa using hp
   have hk : (Jm (39 :: r)).kind = 2 := rfl
   show [39] ++ B6 (Jm (39 :: r)).s ++ [39] = 39 :: r
   generalize Jm (39 :: r) = v at hp' hk
   have hne : Br v ≠ [] := by rw [hp']; simp
   rw [← hp']
   unfold Br at hne ⊢
   split at hne
   ·exact absurd rfl hne
   rename_i hpl
   rw [if_neg hpl, hk, if_neg (by decide), if_pos (by decide), Gc]
  rw [if_neg hq] at h
  have hd : Cx (39 :: r) = true := by
   unfold Cx
   have e : Ha (39 :: r) = 39 :: r := by
    rcases G8 (39 :: r) with ⟨_, h4⟩ | ⟨r', h3, _⟩
    ·exact h4
    injection h3 with h3; exact absurd h3 (by decide)
   rw [e]
   have : (Lib.trimS (39 :: r) digs == []) = false := by
    rw [beq_eq_false_iff_ne]
    intro e
    rw [trimS_nil] at e
    exact absurd (e 39 (by simp)) (by decide)
   rw [this]
   simp
  have hn : Ad (39 :: r) = (0, 6) := by unfold Ad; rw [if_pos hd]
  rw [hn] at h
  simp at h
theorem Ru (s : Str) (m : Nat) : s.take (s.take m).length = s.take m := by
 rw [List.length_take]
 rcases Nat.le_total m s.length with h | h
 ·rw [Nat.min_eq_left h]
 rw [Nat.min_eq_right h, List.take_of_length_le (Nat.le_refl _), List.take_of_length_le h]
theorem Jq (s of : Str) : s.take (Be s of).length = Be s of := by
 unfold Be
 exact Ru s _
/-- What a word's print spells is what was read. -/
theorem aj {s : Str} {n p : Nat} (h0 : 1 ≤ s.length) (he : (Aq s).2.2.2 = 0) (hn : (Aq s).2.2.1 = (n : Int)) : cl ⟨(Aq s).1, (Aq s).2.1, p⟩ = s.take n := by
 cases s with
 | nil => simp at h0
 | cons c r =>
  unfold Aq at he hn ⊢
  by_cases c1 : decide (0 < G9 ((c :: r).take 1) letters) = true
  ·rw [if_pos c1] at he hn
   simp only [if_pos c1]
   unfold Hb at he hn ⊢
   by_cases r1 : Bs (Be (c :: r) tails) = true
   ·rw [if_pos r1] at hn
    simp only [if_pos r1]
    have hn' : (((Be (c :: r) tails).length : Nat) : Int) = n := hn
    have e : n = (Be (c :: r) tails).length := by omega
    rw [e, Jq]
    rfl
   rw [if_neg r1] at he hn
   simp only [if_neg r1]
   by_cases r2 : (!Ch (Be (c :: r) tails)) = true
   ·rw [if_pos r2] at he; exact absurd he (show ¬ (3 : Int) = 0 by decide)
   rw [if_neg r2] at hn
   simp only [if_neg r2]
   have hn' : (((Be (c :: r) tails).length : Nat) : Int) = n := hn
   have e : n = (Be (c :: r) tails).length := by omega
   rw [e, Jq]
   rfl
  rw [if_neg c1] at he hn
  simp only [if_neg c1]
  by_cases c2 : decide (0 < G9 ((c :: r).take 1) digs) = true
  ·rw [if_pos c2] at he hn
   simp only [if_pos c2]
   have hn' : (((Be (c :: r) digs).length : Nat) : Int) = n := hn
   have e : n = (Be (c :: r) digs).length := by omega
   rw [e, Jq]
   rfl
  rw [if_neg c2] at he hn
  simp only [if_neg c2]
  by_cases c3 : (((((c :: r)).getD 0 0).toNat : Int) == 39) = true
  ·rw [if_pos c3] at he hn
   simp only [if_pos c3]
   have hc : c = 39 := by
    have c3' : ((c.toNat : Int) == 39) = true := c3
    exact UInt8.toNat_inj.1 (by have : (39 : UInt8).toNat = 39 := rfl; simp at c3'; omega)
   unfold El at he hn ⊢
   cases hq : Bn ((c :: r).drop 1) with
   | none => rw [hq] at he; exact absurd he (show ¬ (7 : Int) = 0 by decide)
   | some m =>
    rw [hq] at he hn
    simp only at he hn ⊢
    split at he
    ·exact absurd he (show ¬ (3 : Int) = 0 by decide)
    rename_i hr
    rw [if_neg hr] at hn
    simp only [if_neg hr]
    have hm' : (((m + 1 : Nat)) : Int) = n := hn
    have hm : n = m + 1 := by omega
    subst hm
    have hr' : (Bz ((c :: r).take (m + 1))).2 = 0 := by simpa using hr
    have := ai (q := (c :: r).take (m + 1)) (by rw [hc]; rfl) (by simp) hr'
    unfold cl
    rw [if_pos rfl]
    exact this
  rw [if_neg c3] at he hn
  simp only [if_neg c3]
  unfold Hc at he hn ⊢
  split at hn
  ·rename_i h2
   simp only [if_pos h2]
   have hn' : (2 : Int) = n := hn
   have : n = 2 := by omega
   subst this
   rfl
  rename_i h2
  rw [if_neg h2] at he
  simp only [if_neg h2]
  split at hn
  ·rename_i h3
   simp only [if_pos h3]
   have hn' : (1 : Int) = n := hn
   have : n = 1 := by omega
   subst this
   rfl
  rename_i h3
  rw [if_neg h3] at he
  exact absurd he (show ¬ (7 : Int) = 0 by decide)
theorem ak (f q : Nat) (J : Str) : Im f q (32 :: J) = Im f (q + 1) J := by
 have h : gapM (32 :: J) = gapM J + 1 := by
  have := Ih J false
  unfold gapM
  rw [Bm, if_pos (by decide), List.length_cons]
  omega
 unfold Im
 rw [h, List.drop_succ_cons, show q + (gapM J + 1) = q + 1 + gapM J by omega]
theorem wrap_u64 {n : Int} (h1 : 0 ≤ n) (h2 : n < 18446744073709551616) : IntKind.u64.wrap n = n := by
 have e1 : (2 ^ IntKind.u64.bits : Int) = 18446744073709551616 := rfl
 have e3 : IntKind.u64.signed = false := rfl
 unfold IntKind.wrap
 simp only [e1, e3, Bool.false_and]
 simp
 omega
theorem Ue : ∀ t : Str, t.length ≤ (B6 t).length
 | [] => Nat.le_refl _
 | c :: r => by
  have := Ue r
  rw [Dr, List.length_append, List.length_cons]
  have h : 1 ≤ (M2 c).length := by unfold M2; split <;> simp
  omega
theorem sj (t : Tok) : t.text.length ≤ (cl t).length := by
 unfold cl
 split
 ·have := Ue t.text
  simp only [List.length_append, List.length_cons, List.length_nil]
  omega
 exact Nat.le_refl _
/-- Words with an end. -/
structure TokEnd (l : List Tok) : Prop where
 split : ∃ L z, l = L ++ [z] ∧ z.kind = 0 ∧ ∀ t ∈ L, t.kind ≠ 0
 texts : ∀ t ∈ l, t.text.length ≤ 1048576
theorem TokEnd.pos {l : List Tok} (h : TokEnd l) : 1 ≤ l.length := by
 obtain ⟨L, z, rfl, _, _⟩ := h.split
 simp
theorem TokEnd.text {l : List Tok} (h : TokEnd l) (i : Nat) : (A4 l i).text.length ≤ 1048576 := by
 unfold A4
 rcases Nat.lt_or_ge i l.length with hi | hi
 ·rw [List.getD_eq_getElem?_getD, List.getElem?_eq_getElem hi]
  exact h.texts _ (List.getElem_mem hi)
 rw [List.getD_eq_getElem?_getD, List.getElem?_eq_none hi]
 exact Nat.zero_le _
theorem sk (s : Str) (he : (Aq s).2.2.2 = 0) : (Aq s).1 ≠ 0 := by
 revert he
 unfold Aq Hb Ii El Hc
 repeat' split
 all_goals simp
theorem Ws : ∀ (f q : Nat) (s : Str), (∀ it ∈ Cj f q s, it.2 = 0) → ∀ it ∈ Cj f q s, it.1.kind ≠ 0 ∧ it.1.text.length ≤ s.length
 | 0, _, _, _, it, hm => by cases hm
 | f + 1, q, s, h, it, hm => by
  by_cases hs : s = []
  ·subst hs; cases hm
  obtain ⟨n, h1, h2⟩ := Wq (f := f) (q := q) hs
  rw [h1] at hm h
  have h0 : (Aq s).2.2.2 = 0 := h (⟨(Aq s).1, (Aq s).2.1, q⟩, (Aq s).2.2.2) (List.mem_cons_self ..)
  obtain ⟨hn, hn1, hn2⟩ := h2 h0
  rw [if_pos h0] at hm h
  rcases List.mem_cons.1 hm with rfl | hm
  ·refine ⟨sk s h0, ?_⟩
   have hs1 : 1 ≤ s.length := by cases s with | nil => exact absurd rfl hs | cons c r => simp
   have := aj (p := q) hs1 h0 hn
   have h3 := sj ⟨(Aq s).1, (Aq s).2.1, q⟩
   rw [this] at h3
   simp only [List.length_take] at h3
   show (Aq s).2.1.length ≤ s.length
   omega
  have := Ws f _ _ (fun it hit => h it (List.mem_cons_of_mem _ hit)) it hm
  simp only [List.length_drop] at this
  exact ⟨this.1, by omega⟩
theorem cm {s : Str} (h : (A6 s).2.1 = 0) : TokEnd (A6 s).1 := by
 by_cases h4 : 4000 < s.length
 ·unfold A6 at h
  rw [if_pos h4] at h
  exact lm
 have e : A6 s = ((Ax s).map (·.1) ++ [⟨0, [], s.length⟩], 0, 0) ∧ ∀ it ∈ Ax s, it.2 = 0 := by
  unfold A6 at h ⊢
  rw [if_neg h4] at h ⊢
  cases hf : (Ax s).find? (fun it => it.2 != 0) with
  | none =>
   rw [List.find?_eq_none] at hf
   exact ⟨rfl, fun it hit => by simpa using hf it hit⟩
  | some it =>
   rw [hf] at h
   have := List.find?_some hf
   simp only [bne_iff_ne] at this
   exact absurd h this
 obtain ⟨e, hz⟩ := e
 have hnz := Ws _ _ _ hz
 rw [e]
 refine ⟨⟨_, _, rfl, rfl, fun t ht => ?_⟩, fun t ht => ?_⟩
 ·obtain ⟨it, hit, rfl⟩ := List.mem_map.1 ht
  exact (hnz it hit).1
 rcases List.mem_append.1 ht with ht | ht
 ·obtain ⟨it, hit, rfl⟩ := List.mem_map.1 ht
  have := (hnz it hit).2
  simp only [List.length_drop] at this
  omega
 have e : t = ⟨0, [], s.length⟩ := by simpa using ht
 subst e
 exact Nat.zero_le _
/-- Where a parser of expressions stands: its word, its nest, its fault. -/
structure PS where
 i : Nat
 nest : Nat
 code : Int
 at_ : Int
def noV : Val := ⟨0, 0, []⟩
def Aj : Expr := .mk 0 [] noV []
def B4 (e a : Int) (S : PS) : PS := if S.code == 0 then ⟨S.i, S.nest, e, a⟩ else S
def isM (l : List Tok) (of : Str) (S : PS) : Bool := (((A4 l S.i).kind == 5) || ((A4 l S.i).kind == 2)) && Ct (A4 l S.i).text of
def A2 (S : PS) : PS := ⟨S.i + 1, S.nest, S.code, S.at_⟩
def Al (S : PS) : PS := ⟨S.i, S.nest + 1, S.code, S.at_⟩
def Do (S : PS) : PS := ⟨S.i, S.nest - 1, S.code, S.at_⟩
def Ay (l : List Tok) (s : Str) (S : PS) : PS := if S.code != 0 then S else if ((A4 l S.i).kind != 5) || !((A4 l S.i).text == s) then B4 8 (A4 l S.i).at_ S else A2 S
/-- What stands one nest deeper. -/
structure Fam where
 ei : PS → Expr × PS
 no : PS → Expr × PS
 ne : PS → Expr × PS
def Am (a : Int) (f : PS → Expr × PS) (S : PS) : Expr × PS := if (S.nest : Int) == 30 then (Aj, B4 18 a S) else ((f (Al S)).1, Do (f (Al S)).2)
def Bu (t : Str) (x y : Expr) : Expr := .mk 5 t noV [x, y]
def Eg (l : List Tok) (of : Str) (f : PS → Expr × PS) : Nat → Expr × PS → Expr × PS
 | 0, r => r
 | n + 1, r => if (r.2.code == 0) && isM l of r.2 then Eg l of f n (Bu (A4 l r.2.i).text r.1 (f (A2 r.2)).1, (f (A2 r.2)).2) else r
def Cc (l : List Tok) (of : Str) (f : PS → Expr × PS) (S : PS) : Expr × PS := Eg l of f l.length (f S)
def Gm : Str := [32, 44, 32]
def argsF (l : List Tok) (f : PS → Expr × PS) : Nat → List Expr × PS → List Expr × PS
 | 0, r => r
 | n + 1, r => if (r.2.code == 0) && isM l Gm r.2 then argsF l f n (r.1 ++ [(f (A2 r.2)).1], (f (A2 r.2)).2) else r
def Ea (l : List Tok) (f : PS → Expr × PS) (S : PS) : List Expr × PS := argsF l f l.length ([(f S).1], (f S).2)
def F8 (l : List Tok) (a : Int) (f : PS → Expr × PS) (S : PS) : List Expr × PS := if (S.nest : Int) == 30 then ([], B4 18 a S) else ((Ea l f (Al S)).1, Do (Ea l f (Al S)).2)
def Aw : Str := [41]
def Av (l : List Tok) (D : Fam) (S : PS) : List Expr × PS := F8 l (A4 l S.i).at_ D.ei (A2 S)
def Dx (l : List Tok) (D : Fam) (t : Tok) (S : PS) : Expr × PS :=
 if B7 t.text < 0 then (Aj, B4 9 t.at_ S)
 else if ((Ay l Aw (Av l D S).2).code == 0) && !(((Av l D S).1.length : Int) == B7 t.text) then (Aj, B4 8 t.at_ (Ay l Aw (Av l D S).2))
 else (.mk 6 t.text noV (Av l D S).1, Ay l Aw (Av l D S).2)
def orT : Str := [32, 111, 114, 32]
def al : Str := [32, 97, 110, 100, 32]
def Wt : Str := [32, 110, 111, 116, 32]
def Od : Str := [32, 61, 32, 33, 61, 32, 60, 32, 60, 61, 32, 62, 32, 62, 61, 32]
def am : Str := [32, 43, 32, 45, 32, 38, 32]
def Q9 : Str := [32, 42, 32, 47, 32, 37, 32]
def Wu : Str := [32, 45, 32]
def opT : Str := [32, 40, 32]
def N5 : Str := [32, 116, 114, 117, 101, 32, 102, 97, 108, 115, 101, 32, 110, 117, 108, 108, 32]
def Co (v : Val) : Expr := .mk 1 [] v []
def C9 (l : List Tok) (D : Fam) (S : PS) : Expr × PS :=
 if S.code != 0 then (Aj, S)
 else if ((A4 l S.i).kind == 3) || isM l N5 S then (Co (Bz (A4 l S.i).text).1, A2 S)
 else if (A4 l S.i).kind == 4 then (Co ⟨2, 0, (A4 l S.i).text.take 200⟩, A2 S)
 else if (A4 l S.i).kind == 1 then (if isM l opT (A2 S) then Dx l D (A4 l S.i) (A2 S) else (D6 (A4 l S.i).text, A2 S))
 else if isM l opT S then ((Am (A4 l S.i).at_ D.ei (A2 S)).1, Ay l Aw (Am (A4 l S.i).at_ D.ei (A2 S)).2)
 else (Aj, B4 8 (A4 l S.i).at_ S)
def Bl (op : Int) (x : Expr) : Expr := .mk op [] noV [x]
def Gd (l : List Tok) (D : Fam) (S : PS) : Expr × PS := if !isM l Wu S then C9 l D S else (Bl 3 (Am (A4 l S.i).at_ D.ne (A2 S)).1, (Am (A4 l S.i).at_ D.ne (A2 S)).2)
def M4 (l : List Tok) (D : Fam) : PS → Expr × PS := Cc l Q9 (Gd l D)
def Bh (l : List Tok) (D : Fam) : PS → Expr × PS := Cc l am (M4 l D)
def Bo (l : List Tok) (D : Fam) (S : PS) : Expr × PS :=
 if ((Bh l D S).2.code != 0) || !isM l Od (Bh l D S).2 then Bh l D S
 else (Bu (A4 l (Bh l D S).2.i).text (Bh l D S).1 (Bh l D (A2 (Bh l D S).2)).1, (Bh l D (A2 (Bh l D S).2)).2)
def Ge (l : List Tok) (D : Fam) (S : PS) : Expr × PS := if !isM l Wt S then Bo l D S else (Bl 4 (Am (A4 l S.i).at_ D.no (A2 S)).1, (Am (A4 l S.i).at_ D.no (A2 S)).2)
def M5 (l : List Tok) (D : Fam) : PS → Expr × PS := Cc l al (Ge l D)
def In (l : List Tok) (D : Fam) : PS → Expr × PS := Cc l orT (M5 l D)
def Ba (l : List Tok) : Nat → Fam
 | 0 => ⟨fun S => (Aj, S), fun S => (Aj, S), fun S => (Aj, S)⟩
 | d + 1 => ⟨In l (Ba l d), Ge l (Ba l d), Gd l (Ba l d)⟩

/-! What is so of them. -/
theorem Db : ∀ {n m : Nat}, n ≤ m → ∀ {e : Expr}, okE n e → okE m e
 | 0, _, _, _, h => h.elim
 | n + 1, 0, h, _, _ => by omega
 | n + 1, m + 1, h, _, ho => ⟨ho.1, ho.2.1, fun y hy => Db (by omega) (ho.2.2 y hy)⟩
theorem La : sizeE Aj = 1 := rfl
theorem im (t : Str) (a b : Expr) : sizeE (Bu t a b) = 1 + (sizeE a + (sizeE b + 0)) := by rw [Bu, sizeE, Bg, Bg, Bg]
theorem io (o : Int) (a : Expr) : sizeE (Bl o a) = 1 + (sizeE a + 0) := by rw [Bl, sizeE, Bg, Bg]
theorem Sk : ∀ a b : List Expr, Bg (a ++ b) = Bg a + Bg b
 | [], b => by rw [List.nil_append, Bg, Nat.zero_add]
 | e :: r, b => by rw [List.cons_append, Bg, Bg, Sk r b, Nat.add_assoc]
theorem Jr {n : Nat} (h : 1 ≤ n) : okE n Aj := Db h ⟨by decide, by decide, fun y hy => by cases hy⟩
theorem Io {n : Nat} (h : 1 ≤ n) (v : Val) : okE n (Co v) := Db h ⟨by simp [Co, Expr.text], by simp [Co, Expr.kids], fun y hy => by cases hy⟩
structure Fact (l : List Tok) (S : PS) (r : Expr × PS) : Prop where
 le : S.i ≤ r.2.i
 lt : r.2.i < l.length
 nest : r.2.nest = S.nest
 ok : okE (2 * (r.2.i - S.i) + 1) r.1
 sz : sizeE r.1 ≤ 2 * (r.2.i - S.i) + 1
def Bb (l : List Tok) (n : Nat) (f : PS → Expr × PS) : Prop := ∀ S, S.i < l.length → S.nest = n → Fact l S (f S)
theorem TokEnd.step {l : List Tok} (h : TokEnd l) {i : Nat} (hi : i < l.length) (hk : (A4 l i).kind ≠ 0) : i + 1 < l.length := by
 obtain ⟨L, z, rfl, hz, _⟩ := h.split
 rcases Nat.lt_or_ge i L.length with h1 | h1
 ·simp only [List.length_append, List.length_cons, List.length_nil]; omega
 have : i = L.length := by simp only [List.length_append, List.length_cons, List.length_nil] at hi; omega
 subst this
 exact absurd (by unfold A4; simpa using hz) hk
theorem mh {l : List Tok} {of : Str} {S : PS} (h : isM l of S = true) : (A4 l S.i).kind ≠ 0 := by
 unfold isM at h
 simp only [Bool.and_eq_true, Bool.or_eq_true, beq_iff_eq] at h
 omega
theorem TokEnd.stepIs {l : List Tok} (h : TokEnd l) {of : Str} {S : PS} (hi : S.i < l.length) (hk : isM l of S = true) : (A2 S).i < l.length := h.step hi (mh hk)
theorem failM_i {e a : Int} {S : PS} : (B4 e a S).i = S.i ∧ (B4 e a S).nest = S.nest := by unfold B4; split <;> exact ⟨rfl, rfl⟩
theorem Ol {l : List Tok} (hl : TokEnd l) {s : Str} {S : PS} (hi : S.i < l.length) : S.i ≤ (Ay l s S).i ∧ (Ay l s S).i < l.length ∧ (Ay l s S).nest = S.nest := by
 unfold Ay
 split
 ·exact ⟨Nat.le_refl _, hi, rfl⟩
 split
 ·rw [failM_i.1, failM_i.2]; exact ⟨Nat.le_refl _, hi, rfl⟩
 rename_i h
 simp only [Bool.or_eq_true, bne_iff_ne, ne_eq, not_or, Classical.not_not] at h
 have := hl.step hi (by rw [h.1]; decide)
 exact ⟨Nat.le_succ _, this, rfl⟩
theorem M6 {l : List Tok} {S S0 : PS} (h0 : S0.i ≤ S.i) (h1 : S.i < l.length) (h2 : S.nest = S0.nest) (e a : Int) : Fact l S0 (Aj, B4 e a S) := by
 refine ⟨?_, ?_, ?_, Jr (by omega), by rw [La]; omega⟩
 ·show _ ≤ (B4 e a S).i; rw [failM_i.1]; exact h0
 ·show (B4 e a S).i < _; rw [failM_i.1]; exact h1
 show (B4 e a S).nest = _; rw [failM_i.2]; exact h2
/-- A state of a loop of marks. -/
structure LeftAt (l : List Tok) (of : Str) (f : PS → Expr × PS) (S : PS) (r : Expr × PS) : Prop where
 fact : Fact l S r
 eq : ∃ n, l.length ≤ r.2.i + n ∧ Cc l of f S = Eg l of f n r
theorem LeftAt.start {l : List Tok} {of : Str} {f : PS → Expr × PS} {S : PS} (h : Fact l S (f S)) : LeftAt l of f S (f S) := ⟨h, l.length, by omega, rfl⟩
theorem Om {l : List Tok} {S : PS} {r q : Expr × PS} (h : Fact l S r) (hq : Fact l (A2 r.2) q) (hl : TokEnd l) : Fact l S (Bu (A4 l r.2.i).text r.1 q.1, q.2) := by
 have h1 := h.le
 have h2 : r.2.i + 1 ≤ q.2.i := hq.le
 refine ⟨by show S.i ≤ q.2.i; omega, hq.lt, by show q.2.nest = S.nest; rw [hq.nest]; exact h.nest, ?_, ?_⟩
 rotate_left
 ·have s1 := h.sz
  have s2 : sizeE q.1 ≤ 2 * (q.2.i - (r.2.i + 1)) + 1 := hq.sz
  show sizeE (Bu _ r.1 q.1) ≤ 2 * (q.2.i - S.i) + 1
  rw [im]
  omega
 show okE (2 * (q.2.i - S.i) + 1) _
 refine ⟨hl.text _, by simp [Bu, Expr.kids], fun y hy => ?_⟩
 have hy' : y = r.1 ∨ y = q.1 := by simpa [Bu, Expr.kids] using hy
 rcases hy' with rfl | rfl
 ·exact Db (by omega) h.ok
 exact Db (by show 2 * (q.2.i - (r.2.i + 1)) + 1 ≤ _; omega) hq.ok
theorem LeftAt.on {l : List Tok} {of : Str} {f : PS → Expr × PS} {S : PS} {r : Expr × PS} (hl : TokEnd l) (h : LeftAt l of f S r) (hc : ((r.2.code == 0) && isM l of r.2) = true) (hf : Bb l S.nest f) : (A2 r.2).i < l.length ∧ Fact l (A2 r.2) (f (A2 r.2)) ∧ LeftAt l of f S (Bu (A4 l r.2.i).text r.1 (f (A2 r.2)).1, (f (A2 r.2)).2) := by
 have hi := hl.stepIs h.fact.lt (Bool.and_eq_true_iff.1 hc).2
 have hq := hf (A2 r.2) hi h.fact.nest
 obtain ⟨n, hn, e⟩ := h.eq
 have h1 := h.fact.lt
 have h2 : r.2.i + 1 ≤ (f (A2 r.2)).2.i := hq.le
 obtain ⟨m, rfl⟩ : ∃ m, n = m + 1 := ⟨n - 1, by omega⟩
 refine ⟨hi, hq, Om h.fact hq hl, m, by show l.length ≤ (f (A2 r.2)).2.i + m; omega, ?_⟩
 rw [e, Eg, if_pos hc]
theorem LeftAt.out {l : List Tok} {of : Str} {f : PS → Expr × PS} {S : PS} {r : Expr × PS} (h : LeftAt l of f S r) (hc : ¬ ((r.2.code == 0) && isM l of r.2) = true) : Cc l of f S = r := by
 obtain ⟨n, hn, e⟩ := h.eq
 have h1 := h.fact.lt
 obtain ⟨m, rfl⟩ : ∃ m, n = m + 1 := ⟨n - 1, by omega⟩
 rw [e, Eg, if_neg hc]
theorem Wv {l : List Tok} {of : Str} {f : PS → Expr × PS} {S : PS} (hl : TokEnd l) (hf : Bb l S.nest f) : ∀ (k : Nat) (r : Expr × PS), l.length - r.2.i ≤ k → LeftAt l of f S r → Fact l S (Cc l of f S)
 | 0, r, hk, h => by have := h.fact.lt; omega
 | k + 1, r, hk, h => by
  by_cases hc : ((r.2.code == 0) && isM l of r.2) = true
  ·obtain ⟨h1, h2, h3⟩ := h.on hl hc hf
   have h4 : r.2.i + 1 ≤ (f (A2 r.2)).2.i := h2.le
   exact Wv hl hf k _ (by show l.length - (f (A2 r.2)).2.i ≤ k; have := h.fact.lt; omega) h3
  rw [h.out hc]; exact h.fact
theorem D5 {l : List Tok} {of : Str} {f : PS → Expr × PS} {n : Nat} (hl : TokEnd l) (hf : Bb l n f) : Bb l n (Cc l of f) := fun S hi hn => Wv hl (hn ▸ hf) l.length (f S) (by omega) (.start (hf S hi hn))
theorem Gw {l : List Tok} {f : PS → Expr × PS} {S : PS} (a : Int) (hi : S.i < l.length) (hf : S.nest ≠ 30 → Bb l (S.nest + 1) f) : Fact l S (Am a f S) := by
 unfold Am
 split
 ·exact rh
 rename_i h
 have h30 : S.nest ≠ 30 := fun e => h (by rw [e]; rfl)
 have := hf h30 (Al S) hi rfl
 refine ⟨this.le, this.lt, ?_, this.ok, this.sz⟩
 show (f (Al S)).2.nest - 1 = S.nest
 rw [this.nest]
 rfl
/-- What is so of some kids. -/
structure KFact (l : List Tok) (S : PS) (r : List Expr × PS) : Prop where
 le : S.i ≤ r.2.i
 lt : r.2.i < l.length
 nest : r.2.nest = S.nest
 len : r.1.length ≤ r.2.i - S.i + 1
 ok : ∀ y ∈ r.1, okE (2 * (r.2.i - S.i) + 1) y
 sz : Bg r.1 ≤ 2 * (r.2.i - S.i) + 1
structure ArgsAt (l : List Tok) (f : PS → Expr × PS) (S : PS) (r : List Expr × PS) : Prop where
 fact : KFact l S r
 eq : ∃ n, l.length ≤ r.2.i + n ∧ Ea l f S = argsF l f n r
theorem ArgsAt.start {l : List Tok} {f : PS → Expr × PS} {S : PS} (h : Fact l S (f S)) : ArgsAt l f S ([(f S).1], (f S).2) := ⟨⟨h.le, h.lt, h.nest, by simp, fun y hy => by rw [List.mem_singleton.1 hy]; exact h.ok, by have := h.sz; show sizeE (f S).1 + 0 ≤ _; exact this⟩, l.length, by omega, rfl⟩
theorem ArgsAt.on {l : List Tok} {f : PS → Expr × PS} {S : PS} {r : List Expr × PS} (hl : TokEnd l) (h : ArgsAt l f S r) (hc : ((r.2.code == 0) && isM l Gm r.2) = true) (hf : Bb l S.nest f) : (A2 r.2).i < l.length ∧ Fact l (A2 r.2) (f (A2 r.2)) ∧ ArgsAt l f S (r.1 ++ [(f (A2 r.2)).1], (f (A2 r.2)).2) := by
 have hi := hl.stepIs h.fact.lt (Bool.and_eq_true_iff.1 hc).2
 have hq := hf (A2 r.2) hi h.fact.nest
 obtain ⟨n, hn, e⟩ := h.eq
 have h1 := h.fact.lt
 have h0 := h.fact.le
 have h2 : r.2.i + 1 ≤ (f (A2 r.2)).2.i := hq.le
 obtain ⟨m, rfl⟩ : ∃ m, n = m + 1 := ⟨n - 1, by omega⟩
 refine ⟨hi, hq, ⟨by show S.i ≤ (f (A2 r.2)).2.i; omega, hq.lt, by show (f (A2 r.2)).2.nest = _; rw [hq.nest]; exact h.fact.nest, ?_, fun y hy => ?_, ?_⟩, m, by show l.length ≤ (f (A2 r.2)).2.i + m; omega, ?_⟩
 ·have := h.fact.len
  show (r.1 ++ _).length ≤ (f (A2 r.2)).2.i - S.i + 1
  simp only [List.length_append, List.length_cons, List.length_nil]
  omega
 ·show okE (2 * ((f (A2 r.2)).2.i - S.i) + 1) y
  rcases List.mem_append.1 hy with hy | hy
  ·exact Db (by omega) (h.fact.ok y hy)
  rw [List.mem_singleton.1 hy]
  exact Db (by show 2 * ((f (A2 r.2)).2.i - (r.2.i + 1)) + 1 ≤ _; omega) hq.ok
 ·have s1 := h.fact.sz
  have s2 : sizeE (f (A2 r.2)).1 ≤ 2 * ((f (A2 r.2)).2.i - (r.2.i + 1)) + 1 := hq.sz
  show Bg (r.1 ++ [(f (A2 r.2)).1]) ≤ 2 * ((f (A2 r.2)).2.i - S.i) + 1
  rw [Sk, Bg, Bg]
  omega
 rw [e, argsF, if_pos hc]
theorem ArgsAt.out {l : List Tok} {f : PS → Expr × PS} {S : PS} {r : List Expr × PS} (h : ArgsAt l f S r) (hc : ¬ ((r.2.code == 0) && isM l Gm r.2) = true) : Ea l f S = r := by
 obtain ⟨n, hn, e⟩ := h.eq
 have h1 := h.fact.lt
 obtain ⟨m, rfl⟩ : ∃ m, n = m + 1 := ⟨n - 1, by omega⟩
 rw [e, argsF, if_neg hc]
theorem Ww {l : List Tok} {f : PS → Expr × PS} {S : PS} (hl : TokEnd l) (hf : Bb l S.nest f) : ∀ (k : Nat) (r : List Expr × PS), l.length - r.2.i ≤ k → ArgsAt l f S r → KFact l S (Ea l f S)
 | 0, r, hk, h => by have := h.fact.lt; omega
 | k + 1, r, hk, h => by
  by_cases hc : ((r.2.code == 0) && isM l Gm r.2) = true
  ·obtain ⟨h1, h2, h3⟩ := h.on hl hc hf
   have h4 : r.2.i + 1 ≤ (f (A2 r.2)).2.i := h2.le
   exact Ww hl hf k _ (by show l.length - (f (A2 r.2)).2.i ≤ k; have := h.fact.lt; omega) h3
  rw [h.out hc]; exact h.fact
theorem Lb {l : List Tok} {f : PS → Expr × PS} {S : PS} (hl : TokEnd l) (hi : S.i < l.length) (hf : Bb l S.nest f) : KFact l S (Ea l f S) := Ww hl hf l.length _ (by show l.length - (f S).2.i ≤ _; omega) (.start (hf S hi rfl))
theorem Qa {l : List Tok} {f : PS → Expr × PS} {S : PS} (hl : TokEnd l) (a : Int) (hi : S.i < l.length) (hf : S.nest ≠ 30 → Bb l (S.nest + 1) f) : KFact l S (F8 l a f S) := by
 unfold F8
 split
 ·refine ⟨?_, ?_, ?_, by simp, fun y hy => (by cases hy), by simp [Bg]⟩
  ·show _ ≤ (B4 _ _ S).i; rw [failM_i.1]; exact Nat.le_refl _
  ·show (B4 _ _ S).i < _; rw [failM_i.1]; exact hi
  show (B4 _ _ S).nest = _; rw [failM_i.2]
 rename_i h
 have h30 : S.nest ≠ 30 := fun e => h (by rw [e]; rfl)
 have := Lb (S := Al S) hl hi (hf h30)
 refine ⟨this.le, this.lt, ?_, this.len, this.ok, this.sz⟩
 show (Ea l f (Al S)).2.nest - 1 = S.nest
 rw [this.nest]
 rfl
theorem an {l : List Tok} {D : Fam} {S : PS} (hl : TokEnd l) (hll : l.length ≤ 1048576) {t : Tok} (ht : t.text.length ≤ 1048576) (hi : (A2 S).i < l.length) (hf : S.nest ≠ 30 → Bb l (S.nest + 1) D.ei) : Fact l S (Dx l D t S) := by
 have hk : KFact l (A2 S) (Av l D S) := Qa hl _ hi hf
 have h1 : S.i + 1 ≤ (Av l D S).2.i := hk.le
 obtain ⟨w1, w2, w3⟩ := Ol (s := Aw) hl hk.lt
 unfold Dx
 split
 ·exact M6 (Nat.le_refl _) (by show S.i < _; have : S.i + 1 < l.length := hi; omega) rfl _ _
 split
 ·exact M6 (show S.i ≤ (Ay l Aw (Av l D S).2).i by omega) w2 (w3.trans hk.nest) 8 t.at_
 refine ⟨by show S.i ≤ (Ay l Aw (Av l D S).2).i; omega, w2, w3.trans hk.nest, ?_, ?_⟩
 rotate_left
 ·have s1 : Bg (Av l D S).1 ≤ 2 * ((Av l D S).2.i - (S.i + 1)) + 1 := hk.sz
  show sizeE (.mk 6 t.text noV (Av l D S).1) ≤ 2 * ((Ay l Aw (Av l D S).2).i - S.i) + 1
  rw [sizeE]
  omega
 show okE (2 * ((Ay l Aw (Av l D S).2).i - S.i) + 1) _
 refine ⟨ht, ?_, fun y hy => ?_⟩
 ·have h5 : (Av l D S).1.length ≤ (Av l D S).2.i - (A2 S).i + 1 := hk.len
  have h6 := hk.lt
  show (Av l D S).1.length ≤ 1048576
  omega
 exact Db (by show 2 * ((Av l D S).2.i - (S.i + 1)) + 1 ≤ _; omega) (hk.ok y hy)
theorem ap {l : List Tok} {D : Fam} {n : Nat} (hl : TokEnd l) (hll : l.length ≤ 1048576) (hf : n ≠ 30 → Bb l (n + 1) D.ei) : Bb l n (C9 l D) := by
 intro S hi hn
 subst hn
 unfold C9
 have leaf : ∀ e : Expr, okE 1 e → sizeE e = 1 → (A4 l S.i).kind ≠ 0 → Fact l S (e, A2 S) := fun e he hs hk => ⟨Nat.le_succ _, hl.step hi hk, rfl, Db (by omega) he, by show sizeE e ≤ _; omega⟩
 split
 ·exact AAz
 split
 ·rename_i h
  refine leaf _ (Io (Nat.le_refl _) _) rfl ?_
  rcases Bool.or_eq_true_iff.1 h with h | h
  ·rw [beq_iff_eq] at h; rw [h]; decide
  exact mh h
 split
 ·rename_i h
  rw [beq_iff_eq] at h
  exact leaf _ (Io (Nat.le_refl _) _) rfl (by rw [h]; decide)
 split
 ·rename_i h
  rw [beq_iff_eq] at h
  have hk : (A4 l S.i).kind ≠ 0 := by rw [h]; decide
  split
  ·rename_i h2
   have hi1 : (A2 S).i < l.length := hl.step hi hk
   have := an (S := A2 S) (D := D) hl hll (hl.text S.i) (hl.stepIs hi1 h2) hf
   have h3 : S.i + 1 ≤ (Dx l D (A4 l S.i) (A2 S)).2.i := this.le
   have h4 : sizeE (Dx l D (A4 l S.i) (A2 S)).1 ≤ 2 * ((Dx l D (A4 l S.i) (A2 S)).2.i - (S.i + 1)) + 1 := this.sz
   exact ⟨by omega, this.lt, this.nest, Db (by show 2 * ((Dx l D (A4 l S.i) (A2 S)).2.i - (S.i + 1)) + 1 ≤ _; omega) this.ok, by omega⟩
  exact leaf _ (Wi _ (hl.text _)) rfl hk
 split
 ·rename_i h
  have hi1 : (A2 S).i < l.length := hl.stepIs hi h
  have := Gw (S := A2 S) (l := l) (f := D.ei) (A4 l S.i).at_ hi1 hf
  obtain ⟨w1, w2, w3⟩ := Ol (s := Aw) hl this.lt
  have h3 : S.i + 1 ≤ (Am (A4 l S.i).at_ D.ei (A2 S)).2.i := this.le
  have h4 : sizeE (Am (A4 l S.i).at_ D.ei (A2 S)).1 ≤ 2 * ((Am (A4 l S.i).at_ D.ei (A2 S)).2.i - (S.i + 1)) + 1 := this.sz
  refine ⟨by show S.i ≤ (Ay l Aw _).i; omega, w2, w3.trans this.nest, Db ?_ this.ok, by show sizeE (Am (A4 l S.i).at_ D.ei (A2 S)).1 ≤ 2 * ((Ay l Aw (Am (A4 l S.i).at_ D.ei (A2 S)).2).i - S.i) + 1; omega⟩
  show 2 * ((Am (A4 l S.i).at_ D.ei (A2 S)).2.i - (S.i + 1)) + 1 ≤ 2 * ((Ay l Aw (Am (A4 l S.i).at_ D.ei (A2 S)).2).i - S.i) + 1
  omega
 exact rh
theorem On {l : List Tok} {S : PS} {r : Expr × PS} (h : Fact l (A2 S) r) (op : Int) : Fact l S (Bl op r.1, r.2) := by
 have h1 : S.i + 1 ≤ r.2.i := h.le
 refine ⟨by show S.i ≤ r.2.i; omega, h.lt, h.nest, ?_, ?_⟩
 rotate_left
 ·have s1 : sizeE r.1 ≤ 2 * (r.2.i - (S.i + 1)) + 1 := h.sz
  show sizeE (Bl op r.1) ≤ 2 * (r.2.i - S.i) + 1
  rw [io]
  omega
 show okE (2 * (r.2.i - S.i) + 1) _
 refine ⟨by simp [Bl, Expr.text], by simp [Bl, Expr.kids], fun y hy => ?_⟩
 have hy' : y = r.1 := by simpa [Bl, Expr.kids] using hy
 subst hy'
 exact Db (by show 2 * (r.2.i - (S.i + 1)) + 1 ≤ _; omega) h.ok
theorem Kj {l : List Tok} {D : Fam} {n : Nat} (hl : TokEnd l) (hll : l.length ≤ 1048576) (hf : n ≠ 30 → Bb l (n + 1) D.ei) (hg : n ≠ 30 → Bb l (n + 1) D.ne) : Bb l n (Gd l D) := by
 intro S hi hn
 unfold Gd
 split
 ·exact ap hl hll hf S hi hn
 rename_i h
 subst hn
 exact On (Gw (S := A2 S) _ (hl.stepIs hi (by simpa using h)) hg) 3
theorem Sl {l : List Tok} {D : Fam} {n : Nat} (hl : TokEnd l) (hll : l.length ≤ 1048576) (hf : n ≠ 30 → Bb l (n + 1) D.ei) (hg : n ≠ 30 → Bb l (n + 1) D.ne) : Bb l n (Bh l D) := D5 hl (D5 hl (Kj hl hll hf hg))
theorem Ku {l : List Tok} {D : Fam} {n : Nat} (hl : TokEnd l) (hll : l.length ≤ 1048576) (hf : n ≠ 30 → Bb l (n + 1) D.ei) (hg : n ≠ 30 → Bb l (n + 1) D.ne) : Bb l n (Bo l D) := by
 intro S hi hn
 have h1 := Sl hl hll hf hg S hi hn
 unfold Bo
 split
 ·exact h1
 rename_i h
 simp only [Bool.or_eq_true, not_or, Bool.not_eq_true, Bool.not_eq_false'] at h
 exact Om h1 (Sl hl hll hf hg _ (hl.stepIs h1.lt h.2) (h1.nest.trans hn)) hl
theorem N6 {l : List Tok} {D : Fam} {n : Nat} (hl : TokEnd l) (hll : l.length ≤ 1048576) (hf : n ≠ 30 → Bb l (n + 1) D.ei) (hg : n ≠ 30 → Bb l (n + 1) D.ne) (hh : n ≠ 30 → Bb l (n + 1) D.no) : Bb l n (Ge l D) := by
 intro S hi hn
 unfold Ge
 split
 ·exact Ku hl hll hf hg S hi hn
 rename_i h
 subst hn
 exact On (Gw (S := A2 S) _ (hl.stepIs hi (by simpa using h)) hh) 4
theorem Kk {l : List Tok} (hl : TokEnd l) (hll : l.length ≤ 1048576) : ∀ (d n : Nat), n + d = 31 → n ≠ 31 → Bb l n (Ba l d).ei ∧ Bb l n (Ba l d).no ∧ Bb l n (Ba l d).ne
 | 0, n, h, h2 => by omega
 | d + 1, n, h, _ => by
  have ih : n ≠ 30 → _ := fun h30 => Kk hl hll d (n + 1) (by omega) (by omega)
  have hn := N6 (D := Ba l d) (n := n) hl hll (fun h => (ih h).1) (fun h => (ih h).2.2) (fun h => (ih h).2.1)
  exact ⟨D5 hl (D5 hl hn), hn, Kj hl hll (fun h => (ih h).1) (fun h => (ih h).2.2)⟩
abbrev pr (l : List Tok) (S : PS) : AObj := .cells 112 [.slice false 3 (l.map D0), A3 (S.i : Int), A3 (S.nest : Int), A3 S.code, A3 S.at_]
theorem C1 {n : Nat} {l : List Tok} {S : PS} : ObjLow n (pr l S) := by
 show ∀ y ∈ [AV.slice false 3 (l.map D0), A3 (S.i : Int), A3 (S.nest : Int), A3 S.code, A3 S.at_], Low n y
 intro y hy
 simp only [List.mem_cons, List.not_mem_nil, or_false] at hy
 rcases hy with rfl | rfl | rfl | rfl | rfl
 ·simp [or_imp, forall_and]
 all_goals simp
theorem Hg (o : Int) (t : Str) (v : Val) : Le (.agg [A3 o, A7 t, A3 v.kind, A3 v.n, A7 v.s, .nil]) (Af (.mk o t v [])) := by
 rw [A8]
 refine .agg _ _ rfl (by simp [AV.one, Value.oneCell', sv]) fun i y y' h1 h2 => ?_
 match i with
 | 0 => simp at h1 h2; subst h1; subst h2; exact .inl rfl
 | 1 => simp at h1 h2; subst h1; subst h2; exact .inl rfl
 | 2 => simp at h1 h2; subst h1; subst h2; exact .inl rfl
 | 3 => simp at h1 h2; subst h1; subst h2; exact .inl rfl
 | 4 => simp at h1 h2; subst h1; subst h2; exact .inl rfl
 | 5 => simp at h1 h2; subst h1; subst h2; exact .inr ⟨rfl, 6, rfl⟩
 | i + 6 => simp at h1
theorem Eh : Le (.agg [A3 0, A7 [], A3 0, A3 0, A7 [], .nil]) (Af Aj) := Hg 0 [] noV
theorem c167 (l : List Tok) (S : PS) (o : Nat) (Hp : List AObj) (ho : Hp[o]? = some (pr l S)) (hi : S.i < l.length) : AFun Tryz.prog 167 [.ptr o 0] Hp (D0 (A4 l S.i)) := by
 refine ACall.body [.cell 2 52] [0] Tryz.func167 Tryz.ntmps167 (fun d => ?_)
 refine Z77 ?_;refine W.draw [0, 1, 3, 7, 0, 16, 48, 112, 255, 511, 1023] 8 Ae (by kernel_rfl) ?_;refine wy ?_;refine rc ?_;refine I7 ?_;refine Z22 ?_;exact rf

theorem Wx (l : List Tok) (S : PS) (of : Str) (o : Nat) (Hp : List AObj) (ho : Hp[o]? = some (pr l S)) (hi : S.i < l.length) (hl : TokEnd l) (hof : of.length ≤ 1048576) : AFun Tryz.prog 140 [.ptr o 0, A7 of] Hp (Ao (isM l of S)) := by
 refine ACall.body [.tmp 4] [0, 1] Tryz.func140 Tryz.ntmps140 (fun d => ?_)
 refine Z9 ?_;refine Z0 ?_;refine qj ?_;refine R.fin [1, 5] ?_;refine B9 ?_;refine Z91 ?_;refine Rh ?_;refine G.fieldAddrPtr (fo := 0) jU Tryz.sizeOf3 ?_;refine G.loadOwn jA ?_;refine G.eql ?_;refine Vq ?_;refine G.fieldAddrPtr (fo := 1) jU Tryz.sizeOf9 ?_;refine G.loadOwn jA ?_;refine G.move ?_;refine G.call Tryz.call100 (fun hB => ABn (A4 l S.i).text of (hl.text _) hof _) ?_;refine Z39 ?_;exact qq

theorem mi (l : List Tok) (S : PS) (o : Nat) (Hp : List AObj) (ho : Hp[o]? = some (pr l S)) (hi : S.i < l.length) (hll : l.length ≤ 1048576) : ACall Tryz.prog 141 [.ptr o 0] Hp (fun r H' => r = D0 (A4 l S.i) ∧ H' = Hp.set o (pr l (A2 S))) := by
 refine ACall.body [.cell 2 52] [0] Tryz.func141 Tryz.ntmps141 (fun d => ?_)
 refine Z77 ?_;refine Z0 ?_;refine qj ?_;refine R.fin [0, 2, 3] ?_;refine Ri ?_
 refine R.storeUp jS ho ?_ ?_
 ·simp
 refine R.fin [2, 3] ?_;refine Vr ?_;exact rf

theorem c82 (l : List Tok) (S : PS) (e a : Int) (o : Nat) (Hp : List AObj) (ho : Hp[o]? = some (pr l S)) : ACall Tryz.prog 82 [.ptr o 0, A3 e, A3 a] Hp (fun r H' => r = Af Aj ∧ H' = Hp.set o (pr l (B4 e a S))) := by
 refine ACall.body [.cell 6 28] [0, 1, 2] Tryz.func82 Tryz.ntmps82 (fun d => ?_)
 refine r7 ?_;refine U6 ?_;refine l5 ?_;refine R.fin [0, 1, 2, 6, 12] ?_
 refine W.cond (fun ht12 => ?_) (fun ht12 => ?_)
 ·have e : B4 e a S = ⟨S.i, S.nest, e, a⟩ := if_pos ht12
  refine Z5 ?_;refine Z53 ?_;refine AAs ?_;refine R.fieldAddrPtr (fo := 3) jU Tryz.sizeOf33 ?_
  refine R.storeUp jS ho ?_ ?_
  ·simp
  refine R.fin [6] ?_;refine K.thN ?_;refine Z26 ?_;refine R.wk 19 _ Eh ?_;refine Yz ?_;exact K.fin (V.one (V.cellN jA jS)) ⟨rfl, by rw [e]⟩ (hlow := Ag _ Aj)
 have e : B4 e a S = S := if_neg (by rw [ht12]; simp)
 refine Z4 ?_;refine Z26 ?_;refine R.wk 19 _ Eh ?_;refine Yz ?_;exact K.fin (V.one (V.cellN jA jS)) ⟨rfl, by rw [e]; exact (B5 ho).symm⟩ (hlow := Ag _ Aj)

theorem ABr (v : Val) (Hp : List AObj) : AFun Tryz.prog 205 [U8 v] Hp (Af (Co v)) := by
 refine ACall.body [.cell 2 28] [0] Tryz.func205 Tryz.ntmps205 (fun d => ?_)
 refine Z47 ?_;refine J4 ?_;refine R.fin [1, 2] ?_;refine kz ?_;refine Ph ?_;refine R.wk 4 _ (Hg 1 [] v) ?_;refine Z22 ?_;exact K.fin (V.one (V.cellN jA jS)) ⟨rfl, rfl⟩ (hlow := Ag _ (Co v))

theorem ABs (l : List Tok) (S : PS) (s : Str) (o : Nat) (Hp : List AObj) (ho : Hp[o]? = some (pr l S)) (hi : S.i < l.length) (hll : l.length ≤ 1048576) : ACall Tryz.prog 207 [.ptr o 0, A7 s] Hp (fun r H' => r = .v (.tuple #[]) ∧ H' = Hp.set o (pr l (Ay l s S))) := by
 refine ACall.body [] [0, 1] Tryz.func207 Tryz.ntmps207 (fun d => ?_)
 refine U6 ?_;refine Yx ?_;refine R.fin [0, 1, 10] ?_
 refine W.cond (fun ht10 => ?_) (fun ht10 => ?_)
 ·have e : Ay l s S = S := if_pos ht10
  refine AW.ret ?_;refine K.thR ?_;exact K.fin .nores (hp := ⟨rfl, by rw [e]; exact (B5 ho).symm⟩)
 have e0 : ¬ (S.code != 0) = true := by rw [ht10]; simp
 refine Vy ?_;refine qj ?_;refine R.fin [0, 1, 4] ?_;refine B9 ?_;refine Z91 ?_;refine R.neq ?_;refine C3 ?_;refine G.fieldAddrPtr (fo := 1) jU Tryz.sizeOf9 ?_;refine G.loadOwn jA ?_;refine G.move ?_;refine G.sneq ?_;refine H7 ?_;refine R.fin [0, 4, 21] ?_
 refine W.cond (fun ht21 => ?_) (fun ht21 => ?_)
 ·have e : Ay l s S = B4 8 (A4 l S.i).at_ S := by unfold Ay; rw [if_neg e0, if_pos ht21]
  refine Z0 ?_;refine AA6 ?_;refine Rf ?_;refine K.thR ?_;exact K.fin .nores (hp := ⟨rfl, by rw [e]⟩)
 have e : Ay l s S = A2 S := by unfold Ay; rw [if_neg e0, if_neg (by rw [ht21]; simp)]
 refine Z4 ?_;refine Vx ?_;refine Z87 ?_
 refine R.storeUp jS ho ?_ ?_
 ·simp
 refine R.fin [] ?_;exact K.finN .nores (hp := ⟨rfl, by rw [e]; rfl⟩)

/-- The contract of one of the parser's functions. -/
def PC (g : FuncId) (l : List Tok) (f : PS → Expr × PS) (n : Nat) : Prop := ∀ (o : Nat) (Hp : List AObj) (S : PS), Hp[o]? = some (pr l S) → S.i < l.length → S.nest = n → ACall Tryz.prog g [.ptr o 0] Hp (fun r H' => r = Af (f S).1 ∧ H' = Hp.set o (pr l (f S).2))
abbrev I2 : AObj := .cells 28 [A3 0, A7 [], A3 0, A3 0, A7 [], .nil]
theorem cn {n : Nat} : ObjLow n I2 := by
 show ∀ y ∈ [A3 0, A7 [], A3 0, A3 0, A7 [], AV.nil], Low n y
 simp
theorem sm {n : Nat} (e : Expr) : ObjLow n (.cells 28 (Cw e)) := by
 have h := Ag n e
 rw [A8] at h
 show ∀ y ∈ Cw e, Low n y
 intro y hy
 cases h with
 | agg _ h => exact h y hy
theorem sn (l : List Tok) (S : PS) (a : Int) (g : FuncId) (first caps : List AV) (x : Expr) (S2 : PS) (o : Nat) (Hp Hx : List AObj) (ho : Hp[o]? = some (pr l S)) (hnl : S.nest ≤ 1048576) (hgc : ∀ args w, (callFunc g args).run Tryz.prog w = .ok (.enter g args) w) (hxl : Hx.length = Hp.length) (hxo : Hx[o]? = some (pr l S2)) (hn2 : S2.nest = S.nest + 1) (hlow : (∀ y ∈ Hp.set o (pr l (Al S)), ObjLow Hp.length y) → ∀ y ∈ Hx, ObjLow Hp.length y) (hcf : S.nest ≠ 30 → ∀ own, ACall Tryz.prog g (first ++ caps) (Hp.set o (pr l (Al S)) ++ own) (fun y H' => y = Af x ∧ H' = Hx ++ own)) : ACall Tryz.prog 169 [.ptr o 0, A3 a, .fn (.func g) first caps] Hp (fun r H' => (S.nest = 30 → r = Af Aj ∧ H' = Hp.set o (pr l (B4 18 a S))) ∧ (S.nest ≠ 30 → r = Af x ∧ H' = Hx.set o (pr l (Do S2)))) := by
 refine ACall.body [.cell 6 28] [0, 1, 2] Tryz.func169 Tryz.ntmps169 (fun d => ?_)
 refine r7 ?_;refine Z8 ?_;refine Z58 ?_;refine l5 ?_;refine R.fin [0, 1, 2, 6, 12] ?_
 refine W.cond (fun ht12 => ?_) (fun ht12 => ?_)
 ·have hn30 : S.nest = 30 := by have := ht12; simp at this; omega
  refine Z31 ?_;refine R.callUp Tryz.call82 ho (by simp) C1 (c82 l S 18 a o _ (Ab ho)) ?_;refine Yz ?_;refine K.thR ?_;exact K.fin (V.one (V.cellN jA jS)) ⟨fun _ => ⟨by rw [A8], rfl⟩, fun h => absurd hn30 h⟩ (hlow := by have := Ag Hp.length Aj; rw [A8] at this; simpa using this)
 have hn30 : S.nest ≠ 30 := by have := ht12; simp at this; omega
 refine Ls ?_;refine Z58 ?_;refine R.loadUp jA ho ?_;refine R.add64 ?_;refine Z58 ?_
 refine R.storeUp jS ho ?_ ?_
 ·simp
 refine R.fin [0, 2, 6] ?_;refine Z0 ?_
 refine R.callVX (up' := Hx) (own' := [I2]) hgc (hcf hn30 [I2]) (by simpa using hxl) (by rw [List.length_set]; exact hlow) ?_
 rw [← hxl]
 refine Z10 ?_;refine R.fin [0, 6, 7] ?_;refine Z0 ?_;refine Z58 ?_;refine R.loadUp jA hxo ?_;refine R.sub64 ?_;refine Z58 ?_
 refine R.storeUp jS hxo ?_ ?_
 ·simp
 refine R.fin [6, 7] ?_;refine Z20 ?_;refine Yz ?_;exact K.fin (V.one (V.cellN jA jS)) ⟨fun h => absurd h hn30, fun _ => ⟨by rw [A8], by rw [show ((S2.nest : Int) - 1) = ((Do S2).nest : Int) by show _ = ((S2.nest - 1 : Nat) : Int); omega]; rfl⟩⟩ (hlow := by have := Ag Hx.length x; rw [A8] at this; simpa using this)

theorem Sm (t : Str) (a b : Expr) : Cw (Bu t a b) = [A3 5, .v (sv t), A3 0, A3 0, A7 [], .slice false 6 [Af a, Af b]] := rfl
theorem so {n : Nat} (t : Str) (a b : Expr) : ObjLow n (.cells 28 [A3 5, .v (sv t), A3 0, A3 0, A7 [], .slice false 6 [Af a, Af b]]) := sm (Bu t a b)
theorem sq {n : Nat} {U : List AObj} {i : Nat} {x : AObj} (h : ∀ y ∈ U, ObjLow n y) (hx : ObjLow n x) : ∀ y ∈ U.set i x, ObjLow n y := by
 intro y hy
 rcases List.mem_or_eq_of_mem_set hy with h1 | h1
 ·exact h y h1
 rw [h1]; exact hx
/-- within, with a method's value. -/
theorem mj {g : FuncId} (hgc : ∀ args w, (callFunc g args).run Tryz.prog w = .ok (.enter g args) w) (l : List Tok) (S : PS) (a : Int) (f : PS → Expr × PS) (o : Nat) (Hp : List AObj) (ho : Hp[o]? = some (pr l S)) (hi : S.i < l.length) (hnl : S.nest ≤ 30) (hf : S.nest ≠ 30 → Bb l (S.nest + 1) f) (hcf : S.nest ≠ 30 → PC g l f (S.nest + 1)) :
  ACall Tryz.prog 169 [.ptr o 0, A3 a, .fn (.func g) [.ptr o 0] []] Hp (fun r H' => r = Af (Am a f S).1 ∧ H' = Hp.set o (pr l (Am a f S).2)) := by
 have hlt := (List.getElem?_eq_some_iff.1 ho).1
 by_cases h30 : S.nest = 30
 ·refine (sn l S a g [.ptr o 0] [] Aj (Al S) o Hp (Hp.set o (pr l (Al S))) ho (by omega) hgc (by simp) (by simp [hlt]) rfl (fun h => h) (fun h => absurd h30 h)).mono fun r H' h => ?_
  have e : Am a f S = (Aj, B4 18 a S) := if_pos (by rw [h30]; rfl)
  rw [e]
  exact h.1 h30
 have hq := hf h30 (Al S) hi rfl
 refine (sn l S a g [.ptr o 0] [] (f (Al S)).1 (f (Al S)).2 o Hp (Hp.set o (pr l (f (Al S)).2)) ho (by omega) hgc (by simp) (by simp [hlt]) hq.nest (fun h y hy => ?_) (fun _ own => ?_)).mono fun r H' h => ?_
 ·rcases List.mem_or_eq_of_mem_set hy with h1 | h1
  ·obtain ⟨i, hi', rfl⟩ := List.getElem_of_mem h1
   by_cases hio : i = o
   ·subst hio
    have : Hp[i] = pr l S := by rw [List.getElem?_eq_getElem hi'] at ho; injection ho
    rw [this]; exact C1
   refine h _ ?_
   rw [List.mem_iff_getElem?]
   exact ⟨i, by rw [List.getElem?_set_ne (Ne.symm hio), List.getElem?_eq_getElem hi']⟩
  rw [h1]; exact C1
 ·have hg : (Hp.set o (pr l (Al S)) ++ own)[o]? = some (pr l (Al S)) := Ab (by simp [hlt])
  refine (hcf h30 o (Hp.set o (pr l (Al S)) ++ own) (Al S) hg hi rfl).mono fun r H' h => ⟨h.1, h.2.trans ?_⟩
  rw [List.set_append_left _ _ (by simpa using hlt), List.set_set]
 have e : Am a f S = ((f (Al S)).1, Do (f (Al S)).2) := if_neg (by
  show ¬ (((S.nest : Int) == 30) = true)
  simp
  omega)
 rw [e]
 obtain ⟨h1, h2⟩ := h.2 h30
 exact ⟨h1, by rw [h2, List.set_set]⟩
theorem sr {g : FuncId} (hgc : ∀ args w, (callFunc g args).run Tryz.prog w = .ok (.enter g args) w) (l : List Tok) (S : PS) (of : Str) (hof : of.length ≤ 1048576) (f : PS → Expr × PS) (o : Nat) (Hp : List AObj) (ho : Hp[o]? = some (pr l S)) (hi : S.i < l.length) (hl : TokEnd l) (hll : l.length ≤ 1048576) (hf : Bb l S.nest f) (hcf : PC g l f S.nest) : ACall Tryz.prog 109 [.ptr o 0, A7 of, .fn (.func g) [.ptr o 0] []] Hp (fun r H' => r = Af (Cc l of f S).1 ∧ H' = Hp.set o (pr l (Cc l of f S).2)) := by
 have holt := (List.getElem?_eq_some_iff.1 ho).1
 refine ACall.body [.cell 6 28] [0, 1, 2] Tryz.func109 Tryz.ntmps109 (fun d => ?_)
 refine r7 ?_;refine Z0 ?_;refine R.callVUp hgc ho (by simp) C1 (hcf o _ S (Ab ho) hi rfl) ?_;refine Z10 ?_;refine R.fin [0, 1, 2, 6, 7] ?_;refine W.seq ?_
 refine AW.loopC (α := Expr × PS) (fun r => ⟨32, A5 0 (.ptr o 0) (A5 1 (A7 of) (A5 2 (.fn (.func g) [.ptr o 0] []) (A5 6 (.ptr (oid Hp.length 0) 0) (A5 7 (.ptr (oid Hp.length 1) 0) (fun _ => .any))))), Hp.set o (pr l r.2), [.cells 28 [A3 0, A7 [], A3 0, A3 0, A7 [], .nil], .cells 28 (Cw r.1)], [], none⟩) (fun r => LeftAt l of f S r) (fun r => l.length - r.2.i) (f S) (.start (hf S hi rfl)) (StLe.of_eq (by simp)) rfl (fun r hx => ?_)
 refine qw ?_;refine R.eql ?_;refine Pd ?_;refine G.call Tryz.call140 (fun hB => Wx l r.2 of o _ (Ab (Aa ho)) hx.fact.lt hl hof) ?_;refine F6 ?_;refine R.fin [0, 1, 2, 6, 7, 21] ?_
 refine W.cond (fun ht21 => ?_) (fun ht21 => ?_)
 ·have hon := hx.on hl ht21 hf
  have hle := hon.2.1.le
  have hlt0 := hx.fact.lt
  have hU1 : (Hp.set o (pr l r.2)).set o (pr l (A2 r.2)) = Hp.set o (pr l (A2 r.2)) := List.set_set ..
  refine Pe ?_;refine Z0 ?_;refine R.callUp Tryz.call141 (Aa ho) (by simp) C1 (mi l r.2 o _ (Ab (Aa ho)) hx.fact.lt hll) ?_;refine Z10 ?_;refine R.fin [0, 1, 2, 6, 7, 8] ?_;refine W.drawY0 [0, 1, 0, 0, 8, 28, 63, 127] [4] [.q 4 [] [], .s [28] (some 0) [] [], .q 1 [0] []] (fun B => Hp.set o (if B 0 = true then pr l (f (A2 r.2)).2 else pr l (A2 r.2))) (fun _ => [.cells 28 [A3 0, A7 [], A3 0, A3 0, A7 [], .nil], .cells 28 (Cw r.1), .cells 52 [A3 (A4 l r.2.i).kind, A7 (A4 l r.2.i).text, A3 (A4 l r.2.i).at_]]) Ae (by kernel_rfl) (by simp [List.set_set]) rfl (fun B => by simp) ?_
  apply Y.q
  case h1 =>
   intro B hT hF
   refine D.fieldAddrPtr (fo := 1) jU Tryz.sizeOf9 ?_;refine D.loadOwn jA ?_;refine Rl ?_;exact qt
  case hTF => decide
  refine Y.callVUp (r := Af (f (A2 r.2)).1) (o := o) (x0 := pr l (A2 r.2)) (x := pr l (f (A2 r.2)).2) hgc (fun B hT hF hB => ⟨by simp only [hB]; exact Aa ho, by simp [upd], rfl, C1, ?_⟩) ?_
  ·simp only [hB]
   exact hcf o _ (A2 r.2) (Ab (Aa ho)) hon.1 hx.fact.nest
  apply Y.q
  case h1 =>
   intro B hT hF
   exact Z70
  case hTF => decide
  refine Y.tail (tn := [4]) (U := Hp.set o (pr l (f (A2 r.2)).2)) ?_;refine AA3 ?_;refine R.fin [0, 1, 2, 6, 7] ?_;refine K.blN ?_
  refine K.lpN (Bu (A4 l r.2.i).text r.1 (f (A2 r.2)).1, (f (A2 r.2)).2) hon.2.2 (by show l.length - (f (A2 r.2)).2.i < l.length - r.2.i; have : r.2.i + 1 ≤ (f (A2 r.2)).2.i := hle; omega) ?_
  simp only [Sm]
  have hlow2 := fun n => so (n := n) (A4 l r.2.i).text r.1 (f (A2 r.2)).1
  simp only [A8] at hlow2 ⊢
  exact StCut.take (fun _ => .refl _) (by repeat (first | exact F4 | refine F3 (by simp [oid] <;> omega) ?_)) (by intro y hy; rcases List.mem_cons.1 hy with rfl | hy; exact cn; rw [List.mem_singleton.1 hy]; exact hlow2 _) (by simp)
 have hout := hx.out (by rw [ht21]; simp)
 refine Z81 ?_;refine Z20 ?_;refine Yz ?_;exact K.fin (V.one (V.cellN jA jS)) ⟨by rw [hout, A8], by rw [hout]⟩ (hlow := by have := Ag (Hp.set o (pr l r.2)).length r.1; rw [A8] at this; simpa using this)

theorem c80 (l : List Tok) (S : PS) (f : PS → Expr × PS) (o : Nat) (Hp : List AObj) (ho : Hp[o]? = some (pr l S)) (hi : S.i < l.length) (hl : TokEnd l) (hll : l.length ≤ 1048576) (hf : Bb l S.nest f) (hcf : PC 110 l f S.nest) : ACall Tryz.prog 80 [.ptr o 0] Hp (fun r H' => r = Af (Cc l orT f S).1 ∧ H' = Hp.set o (pr l (Cc l orT f S).2)) := by
 refine ACall.body [.cell 2 28] [0] Tryz.func80 Tryz.ntmps80 (fun d => ?_)
 refine Z77 ?_;refine Z31 ?_;refine R.makeFunc ?_;refine R.callUp Tryz.call109 ho (by simp) C1 (sr Tryz.call110 l S orT (by decide) f o _ (Ab ho) hi hl hll hf hcf) ?_;refine Z22 ?_;exact K.fin (V.one (V.cellN jA jS)) ⟨by rw [A8], rfl⟩ (hlow := by have := Ag Hp.length (Cc l orT f S).1; rw [A8] at this; simpa using this)

theorem ADg (l : List Tok) (S : PS) (f : PS → Expr × PS) (o : Nat) (Hp : List AObj) (ho : Hp[o]? = some (pr l S)) (hi : S.i < l.length) (hl : TokEnd l) (hll : l.length ≤ 1048576) (hf : Bb l S.nest f) (hcf : PC 142 l f S.nest) : ACall Tryz.prog 110 [.ptr o 0] Hp (fun r H' => r = Af (Cc l al f S).1 ∧ H' = Hp.set o (pr l (Cc l al f S).2)) := by
 refine ACall.body [.cell 2 28] [0] Tryz.func110 Tryz.ntmps110 (fun d => ?_)
 refine Z77 ?_;refine Z31 ?_;refine R.makeFunc ?_;refine R.callUp Tryz.call109 ho (by simp) C1 (sr Tryz.call142 l S al (by decide) f o _ (Ab ho) hi hl hll hf hcf) ?_;refine Z22 ?_;exact K.fin (V.one (V.cellN jA jS)) ⟨by rw [A8], rfl⟩ (hlow := by have := Ag Hp.length (Cc l al f S).1; rw [A8] at this; simpa using this)

theorem ADh (l : List Tok) (S : PS) (f : PS → Expr × PS) (o : Nat) (Hp : List AObj) (ho : Hp[o]? = some (pr l S)) (hi : S.i < l.length) (hl : TokEnd l) (hll : l.length ≤ 1048576) (hf : Bb l S.nest f) (hcf : PC 200 l f S.nest) : ACall Tryz.prog 189 [.ptr o 0] Hp (fun r H' => r = Af (Cc l am f S).1 ∧ H' = Hp.set o (pr l (Cc l am f S).2)) := by
 refine ACall.body [.cell 2 28] [0] Tryz.func189 Tryz.ntmps189 (fun d => ?_)
 refine Z77 ?_;refine Z31 ?_;refine R.makeFunc ?_;refine R.callUp Tryz.call109 ho (by simp) C1 (sr Tryz.call200 l S am (by decide) f o _ (Ab ho) hi hl hll hf hcf) ?_;refine Z22 ?_;exact K.fin (V.one (V.cellN jA jS)) ⟨by rw [A8], rfl⟩ (hlow := by have := Ag Hp.length (Cc l am f S).1; rw [A8] at this; simpa using this)

theorem ADi (l : List Tok) (S : PS) (f : PS → Expr × PS) (o : Nat) (Hp : List AObj) (ho : Hp[o]? = some (pr l S)) (hi : S.i < l.length) (hl : TokEnd l) (hll : l.length ≤ 1048576) (hf : Bb l S.nest f) (hcf : PC 202 l f S.nest) : ACall Tryz.prog 200 [.ptr o 0] Hp (fun r H' => r = Af (Cc l Q9 f S).1 ∧ H' = Hp.set o (pr l (Cc l Q9 f S).2)) := by
 refine ACall.body [.cell 2 28] [0] Tryz.func200 Tryz.ntmps200 (fun d => ?_)
 refine Z77 ?_;refine Z31 ?_;refine R.makeFunc ?_;refine R.callUp Tryz.call109 ho (by simp) C1 (sr Tryz.call202 l S Q9 (by decide) f o _ (Ab ho) hi hl hll hf hcf) ?_;refine Z22 ?_;exact K.fin (V.one (V.cellN jA jS)) ⟨by rw [A8], rfl⟩ (hlow := by have := Ag Hp.length (Cc l Q9 f S).1; rw [A8] at this; simpa using this)

/-- What is so of the functions one nest deeper. -/
structure DeepC (l : List Tok) (Dv : Fam) (n : Nat) : Prop where
 ei : n ≠ 30 → Bb l (n + 1) Dv.ei ∧ PC 80 l Dv.ei (n + 1)
 no : n ≠ 30 → Bb l (n + 1) Dv.no ∧ PC 142 l Dv.no (n + 1)
 ne : n ≠ 30 → Bb l (n + 1) Dv.ne ∧ PC 202 l Dv.ne (n + 1)
theorem Hu (op : Int) (x : Expr) : Af (Bl op x) = .agg [A3 op, A7 [], A3 0, A3 0, A7 [], .slice false 6 [Af x]] := by rw [A8]; rfl
theorem Oo (t : Str) (a b : Expr) : Af (Bu t a b) = .agg [A3 5, .v (sv t), A3 0, A3 0, A7 [], .slice false 6 [Af a, Af b]] := by rw [A8]; rfl
theorem low_agg {n : Nat} (e : Expr) : Low n (.agg [.v (.int .i64 e.op), .v (sv e.text), .v (.int .i64 e.val.kind), .v (.int .i64 e.val.n), .v (sv e.val.s), .slice false 6 (e.kids.map Af)]) := by
 have := Ag n e
 rwa [A8] at this
theorem ADj (l : List Tok) (S : PS) (Dv : Fam) (o : Nat) (Hp : List AObj) (ho : Hp[o]? = some (pr l S)) (hi : S.i < l.length) (hl : TokEnd l) (hll : l.length ≤ 1048576) (hnl : S.nest ≤ 30) (hd : DeepC l Dv S.nest) (hc : PC 204 l (C9 l Dv) S.nest) : ACall Tryz.prog 202 [.ptr o 0] Hp (fun r H' => r = Af (Gd l Dv S).1 ∧ H' = Hp.set o (pr l (Gd l Dv S).2)) := by
 refine ACall.body [.cell 2 28] [0] Tryz.func202 Tryz.ntmps202 (fun d => ?_)
 refine Z77 ?_;refine Z8 ?_;refine R.call Tryz.call140 (Wx l S Wu o _ (Ab ho) hi hl (by decide)) ?_;refine R.not ?_;refine R.fin [0, 2, 6] ?_
 refine W.cond (fun ht6 => ?_) (fun ht6 => ?_)
 ·have e : Gd l Dv S = C9 l Dv S := if_pos ht6
  refine Z0 ?_;refine R.callUp Tryz.call204 ho (by simp) C1 (hc o _ S (Ab ho) hi rfl) ?_;refine Z22 ?_;exact Z83
 have his : isM l Wu S = true := by simpa using ht6
 have hi1 : (A2 S).i < l.length := hl.stepIs hi his
 have e : Gd l Dv S = (Bl 3 (Am (A4 l S.i).at_ Dv.ne (A2 S)).1, (Am (A4 l S.i).at_ Dv.ne (A2 S)).2) := if_neg (by rw [ht6]; simp)
 refine Z4 ?_;refine Z64 ?_;refine Z10 ?_;refine Yy ?_;refine Z90 ?_;refine C3 ?_;refine R.makeFunc ?_;refine R.callUp Tryz.call169 (Aa ho) (by simp) C1 (mj Tryz.call202 l (A2 S) (A4 l S.i).at_ Dv.ne o _ (Ab (Aa ho)) hi1 hnl (fun h => (hd.ne h).1) (fun h => (hd.ne h).2)) ?_;refine Z86 ?_;refine Z22 ?_;exact K.fin (V.one (V.cellN jA jS)) ⟨by rw [e, Hu]; simp only [A8], by rw [e, List.set_set]⟩ (hlow := by have := Ag Hp.length (Bl 3 (Am (A4 l S.i).at_ Dv.ne (A2 S)).1); rw [Hu] at this; simp only [A8] at this; simpa only [List.length_set] using this)

theorem ADk (l : List Tok) (S : PS) (Dv : Fam) (o : Nat) (Hp : List AObj) (ho : Hp[o]? = some (pr l S)) (hi : S.i < l.length) (hl : TokEnd l) (hll : l.length ≤ 1048576) (hnl : S.nest ≤ 30) (hd : DeepC l Dv S.nest) (hc : PC 168 l (Bo l Dv) S.nest) : ACall Tryz.prog 142 [.ptr o 0] Hp (fun r H' => r = Af (Ge l Dv S).1 ∧ H' = Hp.set o (pr l (Ge l Dv S).2)) := by
 refine ACall.body [.cell 2 28] [0] Tryz.func142 Tryz.ntmps142 (fun d => ?_)
 refine Z77 ?_;refine Z8 ?_;refine R.call Tryz.call140 (Wx l S Wt o _ (Ab ho) hi hl (by decide)) ?_;refine R.not ?_;refine R.fin [0, 2, 6] ?_
 refine W.cond (fun ht6 => ?_) (fun ht6 => ?_)
 ·have e : Ge l Dv S = Bo l Dv S := if_pos ht6
  refine Z0 ?_;refine R.callUp Tryz.call168 ho (by simp) C1 (hc o _ S (Ab ho) hi rfl) ?_;refine Z22 ?_;exact Z83
 have his : isM l Wt S = true := by simpa using ht6
 have hi1 : (A2 S).i < l.length := hl.stepIs hi his
 have e : Ge l Dv S = (Bl 4 (Am (A4 l S.i).at_ Dv.no (A2 S)).1, (Am (A4 l S.i).at_ Dv.no (A2 S)).2) := if_neg (by rw [ht6]; simp)
 refine Z4 ?_;refine Z64 ?_;refine Z10 ?_;refine Yy ?_;refine Z90 ?_;refine C3 ?_;refine R.makeFunc ?_;refine R.callUp Tryz.call169 (Aa ho) (by simp) C1 (mj Tryz.call142 l (A2 S) (A4 l S.i).at_ Dv.no o _ (Ab (Aa ho)) hi1 hnl (fun h => (hd.no h).1) (fun h => (hd.no h).2)) ?_;refine Z86 ?_;refine Z22 ?_;exact K.fin (V.one (V.cellN jA jS)) ⟨by rw [e, Hu]; simp only [A8], by rw [e, List.set_set]⟩ (hlow := by have := Ag Hp.length (Bl 4 (Am (A4 l S.i).at_ Dv.no (A2 S)).1); rw [Hu] at this; simp only [A8] at this; simpa only [List.length_set] using this)

theorem c168 (l : List Tok) (S : PS) (Dv : Fam) (o : Nat) (Hp : List AObj) (ho : Hp[o]? = some (pr l S)) (hi : S.i < l.length) (hl : TokEnd l) (hll : l.length ≤ 1048576) (hnl : S.nest ≤ 30) (hd : DeepC l Dv S.nest) (hg : Bb l S.nest (Bh l Dv)) (hc : PC 189 l (Bh l Dv) S.nest) : ACall Tryz.prog 168 [.ptr o 0] Hp (fun r H' => r = Af (Bo l Dv S).1 ∧ H' = Hp.set o (pr l (Bo l Dv S).2)) := by
 have hq := hg S hi rfl
 refine ACall.body [.cell 2 28] [0] Tryz.func168 Tryz.ntmps168 (fun d => ?_)
 refine Z77 ?_;refine Z0 ?_;refine R.callUp Tryz.call189 ho (by simp) C1 (hc o _ S (Ab ho) hi rfl) ?_;refine Z10 ?_;refine R.fin [0, 2, 3] ?_;refine qw ?_;refine R.neq ?_;refine Z14 ?_;refine G.call Tryz.call140 (fun hB => Wx l (Bh l Dv S).2 Od o _ (Ab (Aa ho)) hq.lt hl (by decide)) ?_;refine G.not ?_;refine H7 ?_;refine R.fin [0, 2, 3, 17] ?_
 refine W.cond (fun ht17 => ?_) (fun ht17 => ?_)
 ·have e : Bo l Dv S = Bh l Dv S := if_pos ht17
  refine Vr ?_;exact Z83
 have his : isM l Od (Bh l Dv S).2 = true := by
  have := ht17
  simp only [Bool.or_eq_false_iff, Bool.not_eq_false'] at this
  exact this.2
 have hi1 : (A2 (Bh l Dv S).2).i < l.length := hl.stepIs hq.lt his
 have e : Bo l Dv S = (Bu (A4 l (Bh l Dv S).2.i).text (Bh l Dv S).1 (Bh l Dv (A2 (Bh l Dv S).2)).1, (Bh l Dv (A2 (Bh l Dv S).2)).2) := if_neg (by rw [ht17]; simp)
 refine Ls ?_;refine R.callUp Tryz.call141 (Aa ho) (by simp) C1 (mi l (Bh l Dv S).2 o _ (Ab (Aa ho)) hq.lt hll) ?_;refine Z10 ?_;refine R.fin [0, 2, 3, 4] ?_;refine W.drawY [0, 1, 0, 0, 8, 28, 63, 127] [4] [.q 4 [] [], .s [25] (some 0) [] [], .q 1 [0] []] (fun B => Hp.set o (if B 0 = true then pr l (Bh l Dv (A2 (Bh l Dv S).2)).2 else pr l (A2 (Bh l Dv S).2))) (fun _ => [.cells 28 [A3 0, A7 [], A3 0, A3 0, A7 [], .nil], .cells 28 (Cw (Bh l Dv S).1), .cells 52 [A3 (A4 l (Bh l Dv S).2.i).kind, A7 (A4 l (Bh l Dv S).2.i).text, A3 (A4 l (Bh l Dv S).2.i).at_]]) Ae (by kernel_rfl) (by simp [List.set_set]) rfl (fun B => by simp) ?_
 apply Y.q
 case h1 =>
  intro B hT hF
  refine D.fieldAddrPtr (fo := 1) jU Tryz.sizeOf9 ?_;refine D.loadOwn jA ?_;refine Rl ?_;exact qt
 case hTF => decide
 refine Y.callUp (r := Af (Bh l Dv (A2 (Bh l Dv S).2)).1) (o := o) (x0 := pr l (A2 (Bh l Dv S).2)) (x := pr l (Bh l Dv (A2 (Bh l Dv S).2)).2) Tryz.call189 (fun B hT hF hB => ⟨by simp only [hB]; exact Aa ho, by simp [upd], rfl, C1, ?_⟩) ?_
 ·simp only [hB]
  exact hc o _ (A2 (Bh l Dv S).2) (Ab (Aa ho)) hi1 hq.nest
 apply Y.q
 case h1 =>
  intro B hT hF
  exact Z70
 case hTF => decide
 refine Y.tail (tn := [4]) (U := Hp.set o (pr l (Bh l Dv (A2 (Bh l Dv S).2)).2)) ?_;refine Ph ?_;refine Z22 ?_;exact K.fin (V.one (V.cellN jA jS)) ⟨by rw [e, Oo]; simp only [A8], by rw [e]⟩ (hlow := by have := Ag Hp.length (Bu (A4 l (Bh l Dv S).2.i).text (Bh l Dv S).1 (Bh l Dv (A2 (Bh l Dv S).2)).1); rw [Oo] at this; simp only [A8] at this; simpa only [List.length_set] using this)

/-- The contract of the parser of calls. -/
def Wy (l : List Tok) (Dv : Fam) (n : Nat) : Prop := ∀ (o : Nat) (Hp : List AObj) (S : PS) (t : Tok), Hp[o]? = some (pr l S) → (A2 S).i < l.length → S.nest = n → t.text.length ≤ 1048576 → isM l opT S = true → ACall Tryz.prog 206 [.ptr o 0, D0 t] Hp (fun r H' => r = Af (Dx l Dv t S).1 ∧ H' = Hp.set o (pr l (Dx l Dv t S).2))
theorem ml : Af Aj = .agg [A3 0, A7 [], A3 0, A3 0, A7 [], .slice false 6 []] := by rw [A8]; rfl
theorem ADl (l : List Tok) (S : PS) (Dv : Fam) (o : Nat) (Hp : List AObj) (ho : Hp[o]? = some (pr l S)) (hi : S.i < l.length) (hl : TokEnd l) (hll : l.length ≤ 1048576) (hnl : S.nest ≤ 30) (hd : DeepC l Dv S.nest) (hcl : Wy l Dv S.nest) : ACall Tryz.prog 204 [.ptr o 0] Hp (fun r H' => r = Af (C9 l Dv S).1 ∧ H' = Hp.set o (pr l (C9 l Dv S).2)) := by
 refine ACall.body [.cell 2 28] [0] Tryz.func204 Tryz.ntmps204 (fun d => ?_)
 refine Z77 ?_;refine Z0 ?_;refine qj ?_;refine R.fin [0, 2, 3] ?_;refine U6 ?_;refine Yx ?_;refine R.fin [0, 2, 3, 14] ?_
 refine W.cond (fun ht14 => ?_) (fun ht14 => ?_)
 ·have e : C9 l Dv S = (Aj, S) := if_pos ht14
  refine Z26 ?_;refine R.wk 15 _ Eh ?_;refine gv ?_;exact K.fin (V.one (V.cellN jA jS)) ⟨by rw [e, A8], by rw [e]; exact (B5 ho).symm⟩ (hlow := by have := Ag Hp.length (Aj); simpa only [A8, List.length_set] using this)
 have e0 : ¬ (S.code != 0) = true := by rw [ht14]; simp
 refine Ji ?_;refine B9 ?_;refine Z91 ?_;refine U4 ?_;refine G.call Tryz.call140 (fun hB => Wx l S N5 o _ (Ab ho) hi hl (by decide)) ?_;refine H7 ?_;refine B3 ?_;refine R.fin [0, 2, 3, 16] ?_
 refine W.cond (fun ht16 => ?_) (fun ht16 => ?_)
 ·have e : C9 l Dv S = (Co (Bz (A4 l S.i).text).1, A2 S) := by unfold C9; rw [if_neg e0, if_pos ht16]
  refine Z64 ?_;refine R.field1 jU Tryz.isAgg9 ?_;refine R.call Tryz.call138 (y7 (A4 l S.i).text (hl.text _) _) ?_;refine Z78 ?_;refine Z10 ?_;refine B3 ?_;refine R.fin [2, 4] ?_;refine Z20 ?_;refine R.call Tryz.call205 (ABr (Bz (A4 l S.i).text).1 _) ?_;refine Vu ?_;exact K.fin (V.one (V.cellN jA jS)) ⟨by rw [e, A8], by rw [e]⟩ (hlow := by have := Ag Hp.length (Co (Bz (A4 l S.i).text).1); simpa only [A8, List.length_set] using this)
 have e1 : ¬ (((A4 l S.i).kind == 3) || isM l N5 S) = true := by rw [ht16]; simp
 refine B9 ?_;refine Z91 ?_;refine Z30 ?_;refine R.fin [0, 2, 3, 33] ?_
 refine W.cond (fun ht33 => ?_) (fun ht33 => ?_)
 ·have e : C9 l Dv S = (Co ⟨2, 0, (A4 l S.i).text.take 200⟩, A2 S) := by unfold C9; rw [if_neg e0, if_neg e1, if_pos ht33]
  refine Z64 ?_;refine R.field1 jU Tryz.isAgg9 ?_;refine R.call Tryz.call183 (ABp (A4 l S.i).text _) ?_;refine R.call Tryz.call205 (ABr ⟨2, 0, (A4 l S.i).text.take 200⟩ _) ?_;refine Vu ?_;exact K.fin (V.one (V.cellN jA jS)) ⟨by rw [e, A8], by rw [e]⟩ (hlow := by have := Ag Hp.length (Co ⟨2, 0, (A4 l S.i).text.take 200⟩); simpa only [A8, List.length_set] using this)
 have e2 : ¬ ((A4 l S.i).kind == 4) = true := by rw [ht33]; simp
 refine B9 ?_;refine Z91 ?_;refine Z30 ?_;refine R.fin [0, 2, 3, 42] ?_
 refine W.cond (fun ht42 => ?_) (fun ht42 => ?_)
 ·have hi1 : (A2 S).i < l.length := hl.step hi (by rw [beq_iff_eq] at ht42; rw [ht42]; decide)
  refine Z64 ?_;refine R.fin [0, 2, 3] ?_;refine Z8 ?_;refine R.call Tryz.call140 (Wx l (A2 S) opT o _ (Ab (Aa ho)) hi1 hl (by decide)) ?_;refine R.fin [0, 2, 3, 49] ?_
  refine W.cond (fun ht49 => ?_) (fun ht49 => ?_)
  ·have e : C9 l Dv S = Dx l Dv (A4 l S.i) (A2 S) := by unfold C9; rw [if_neg e0, if_neg e1, if_neg e2, if_pos ht42, if_pos ht49]
   have hi2 : (A2 (A2 S)).i < l.length := hl.stepIs hi1 ht49
   refine Z0 ?_;refine Kr ?_;refine R.callUp Tryz.call206 (Aa ho) (by simp) C1 (hcl o _ (A2 S) (A4 l S.i) (Ab (Aa ho)) hi2 rfl (hl.text _) ht49) ?_;refine gv ?_;refine Z6 ?_;exact K.fin (V.one (V.cellN jA jS)) ⟨by rw [e, A8], by rw [e, List.set_set]⟩ (hlow := by have := Ag Hp.length ((Dx l Dv (A4 l S.i) (A2 S)).1); simpa only [A8, List.length_set] using this)
  have e : C9 l Dv S = (D6 (A4 l S.i).text, A2 S) := by unfold C9; rw [if_neg e0, if_neg e1, if_neg e2, if_pos ht42, if_neg (by rw [ht49]; simp)]
  refine Oa ?_;refine xa ?_;refine Ph ?_;refine R.wk 55 _ (Wh _) ?_;refine Vu ?_;exact K.fin (V.one (V.cellN jA jS)) ⟨by rw [e, A8], by rw [e]⟩ (hlow := by have := Ag Hp.length (D6 (A4 l S.i).text); simpa only [A8, List.length_set] using this)
 have e3 : ¬ ((A4 l S.i).kind == 1) = true := by rw [ht42]; simp
 refine Z0 ?_;refine R.call Tryz.call140 (Wx l S opT o _ (Ab ho) hi hl (by decide)) ?_;refine B3 ?_;refine R.fin [0, 2, 3, 56] ?_
 refine W.cond (fun ht56 => ?_) (fun ht56 => ?_)
 ·have e : C9 l Dv S = ((Am (A4 l S.i).at_ Dv.ei (A2 S)).1, Ay l Aw (Am (A4 l S.i).at_ Dv.ei (A2 S)).2) := by unfold C9; rw [if_neg e0, if_neg e1, if_neg e2, if_neg e3, if_pos ht56]
  have hi1 : (A2 S).i < l.length := hl.stepIs hi ht56
  have hwf := Gw (S := A2 S) (l := l) (f := Dv.ei) (A4 l S.i).at_ hi1 (fun h => (hd.ei h).1)
  refine Z64 ?_;refine Yy ?_;refine Z90 ?_;refine C3 ?_;refine R.makeFunc ?_;refine R.callUp Tryz.call169 (Aa ho) (by simp) C1 (mj Tryz.call80 l (A2 S) (A4 l S.i).at_ Dv.ei o _ (Ab (Aa ho)) hi1 hnl (fun h => (hd.ei h).1) (fun h => (hd.ei h).2)) ?_;refine Z10 ?_;refine R.fin [0, 2, 6] ?_;refine Z0 ?_;refine R.callUp Tryz.call207 (Aa (Aa ho)) (by simp) C1 (ABs l (Am (A4 l S.i).at_ Dv.ei (A2 S)).2 Aw o _ (Ab (Aa (Aa ho))) hwf.lt hll) ?_;refine R.fin [2, 6] ?_;refine Vr ?_;refine Z6 ?_;exact K.fin (V.one (V.cellN jA jS)) ⟨by rw [e, A8], by rw [e, List.set_set, List.set_set]⟩ (hlow := by have := Ag Hp.length ((Am (A4 l S.i).at_ Dv.ei (A2 S)).1); simpa only [A8, List.length_set] using this)
 have e : C9 l Dv S = (Aj, B4 8 (A4 l S.i).at_ S) := by unfold C9; rw [if_neg e0, if_neg e1, if_neg e2, if_neg e3, if_neg (by rw [ht56]; simp)]
 refine Z34 ?_;refine Z0 ?_;refine AA6 ?_;refine Z22 ?_;exact K.fin (V.one (V.cellN jA jS)) ⟨by rw [e, A8], by rw [e]⟩ (hlow := by have := Ag Hp.length (Aj); simpa only [A8, List.length_set] using this)

theorem su {l : List Tok} (hl : TokEnd l) (hll : l.length ≤ 1048576) {d n : Nat} (h : n + (d + 1) = 31) (hp : n ≠ 30 → PC 80 l (Ba l d).ei (n + 1) ∧ PC 142 l (Ba l d).no (n + 1) ∧ PC 202 l (Ba l d).ne (n + 1)) : DeepC l (Ba l d) n := by
 have g : n ≠ 30 → _ := fun h30 => Kk hl hll d (n + 1) (by omega) (by omega)
 exact ⟨fun h => ⟨(g h).1, (hp h).1⟩, fun h => ⟨(g h).2.1, (hp h).2.1⟩, fun h => ⟨(g h).2.2, (hp h).2.2⟩⟩
/-- All functions of the parser. -/
theorem Wz {l : List Tok} (hl : TokEnd l) (hll : l.length ≤ 1048576) (hcl : ∀ n Dv, n ≤ 30 → DeepC l Dv n → Wy l Dv n) : ∀ (d n : Nat), n + d = 31 → n ≤ 30 → PC 80 l (Ba l d).ei n ∧ PC 142 l (Ba l d).no n ∧ PC 202 l (Ba l d).ne n
 | 0, n, h, hn => by omega
 | d + 1, n, h, hn => by
  have hd : DeepC l (Ba l d) n := su hl hll h (fun h30 => Wz hl hll hcl d (n + 1) (by omega) (by omega))
  have g1 : Bb l n (Gd l (Ba l d)) := Kj hl hll (fun h => (hd.ei h).1) (fun h => (hd.ne h).1)
  have g2 : Bb l n (M4 l (Ba l d)) := D5 hl g1
  have g3 : Bb l n (Bh l (Ba l d)) := D5 hl g2
  have g4 : Bb l n (Bo l (Ba l d)) := Ku hl hll (fun h => (hd.ei h).1) (fun h => (hd.ne h).1)
  have g5 : Bb l n (Ge l (Ba l d)) := N6 hl hll (fun h => (hd.ei h).1) (fun h => (hd.ne h).1) (fun h => (hd.no h).1)
  have g6 : Bb l n (M5 l (Ba l d)) := D5 hl g5
  have p0 : PC 204 l (C9 l (Ba l d)) n := fun o Hp S ho hi hS => by
   subst hS
   exact ADl l S (Ba l d) o Hp ho hi hl hll hn hd (hcl _ _ hn hd)
  have p1 : PC 202 l (Gd l (Ba l d)) n := fun o Hp S ho hi hS => by
   subst hS
   exact ADj l S (Ba l d) o Hp ho hi hl hll hn hd p0
  have p2 : PC 200 l (M4 l (Ba l d)) n := fun o Hp S ho hi hS => by
   subst hS
   exact ADi l S (Gd l (Ba l d)) o Hp ho hi hl hll g1 p1
  have p3 : PC 189 l (Bh l (Ba l d)) n := fun o Hp S ho hi hS => by
   subst hS
   exact ADh l S (M4 l (Ba l d)) o Hp ho hi hl hll g2 p2
  have p4 : PC 168 l (Bo l (Ba l d)) n := fun o Hp S ho hi hS => by
   subst hS
   exact c168 l S (Ba l d) o Hp ho hi hl hll hn hd g3 p3
  have p5 : PC 142 l (Ge l (Ba l d)) n := fun o Hp S ho hi hS => by
   subst hS
   exact ADk l S (Ba l d) o Hp ho hi hl hll hn hd p4
  have p6 : PC 110 l (M5 l (Ba l d)) n := fun o Hp S ho hi hS => by
   subst hS
   exact ADg l S (Ge l (Ba l d)) o Hp ho hi hl hll g5 p5
  have p7 : PC 80 l (In l (Ba l d)) n := fun o Hp S ho hi hS => by
   subst hS
   exact c80 l S (M5 l (Ba l d)) o Hp ho hi hl hll g6 p6
  exact ⟨p7, p5, p1⟩
theorem Sn : ∀ (n : Nat) (e : Expr), okE n e → depthE e ≤ n
 | 0, _, h => h.elim
 | n + 1, e, h => by
  rw [Ki]
  have : ∀ l : List Expr, (∀ y ∈ l, okE n y) → Cf l ≤ n := by
   intro l
   induction l with
   | nil => intro _; exact Nat.zero_le _
   | cons y r ih =>
    intro hl
    rw [Cf]
    have h1 := Sn n y (hl y (by simp))
    have h2 := ih (fun z hz => hl z (by simp [hz]))
    omega
  have := this e.kids h.2.2
  omega
theorem mm (e : Expr) (x : Nat) : Bg (e.kids.take x) + 1 ≤ sizeE e := by
 rw [E6]
 have : ∀ (l : List Expr) (x : Nat), Bg (l.take x) ≤ Bg l := by
  intro l
  induction l with
  | nil => intro x; simp
  | cons y r ih =>
   intro x
   cases x with
   | zero => simp [Bg]
   | succ x =>
    have := ih x
    rw [List.take_succ_cons, Bg, Bg]
    omega
 have := this e.kids x
 omega
theorem c71 : ∀ (n : Nat) (e : Expr), okE n e → n ≤ 1048576 → ∀ Hp : List AObj, AFun Tryz.prog 71 [Af e] Hp (A3 (depthE e : Nat)) := by
 intro n
 induction n with
 | zero => exact fun e h => h.elim
 | succ n ih =>
 intro e hok hn Hp
 refine ACall.body [.tmp 2] [0] Tryz.func71 Tryz.ntmps71 (fun d => ?_)
 refine gh ?_;refine Z1 ?_;refine R.fin [1, 3] ?_;refine Lr ?_;refine R.fin [1, 3, 4] ?_
 refine AW.loopC (α := Nat) (fun x => ⟨25, A5 1 (.ro (Cw e)) (A5 3 (A3 (Cf (e.kids.take x) : Nat)) (A5 4 (A3 (x : Nat)) (fun _ => .any))), Hp, [], [], none⟩) (fun x => x ≤ e.kids.length) (fun x => e.kids.length - x) (0) (Nat.zero_le _) (StLe.of_eq (by simp [Cf])) rfl (fun x hx => ?_)
 refine Z8 ?_;refine Z33 ?_;refine Zb ?_;refine R.fin [1, 3, 4, 10] ?_
 refine W.cond (fun ht10 => ?_) (fun ht10 => ?_)
 ·have hlt : x < e.kids.length := by simpa using ht10
  have hkl := hok.2.1
  refine Ji ?_;refine B9 ?_;refine Z33 ?_;refine C3 ?_;refine qa ?_;refine R.call Tryz.call71 (ih e.kids[x] (hok.2.2 _ (List.getElem_mem hlt)) (by omega) _) ?_;refine B3 ?_;refine R.fin [1, 3, 4, 5] ?_;refine Z31 ?_;refine R.gtr ?_;refine R.fin [1, 3, 4, 5, 21] ?_
  refine W.cond (fun ht21 => ?_) (fun ht21 => ?_)
  ·have em : Cf (e.kids.take (x + 1)) = depthE e.kids[x] := by rw [Nt _ hlt]; have := of_decide_eq_true ht21; omega
   refine Z5 ?_;refine B3 ?_;refine R.fin [1, 3, 4] ?_;refine Ob ?_;exact zr
  have em : Cf (e.kids.take (x + 1)) = Cf (e.kids.take x) := by rw [Nt _ hlt]; have := of_decide_eq_false ht21; omega
  refine Zf ?_;exact zr
 have hd1 := Sn _ e hok
 have hxe : e.kids.take x = e.kids := List.take_of_length_le (by simp at ht10; omega)
 have hdd := Ki e
 refine Z81 ?_;refine Z0 ?_
 rw [hxe]
 refine Z23 ?_;refine Z2 ?_;exact K.fin (V.one V.tmp) ⟨by rw [hdd]; rfl, rfl⟩

theorem c72 : ∀ (n : Nat) (e : Expr), okE n e → sizeE e ≤ 1048576 → ∀ Hp : List AObj, AFun Tryz.prog 72 [Af e] Hp (A3 (sizeE e : Nat)) := by
 intro n
 induction n with
 | zero => exact fun e h => h.elim
 | succ n ih =>
 intro e hok hn Hp
 refine ACall.body [.tmp 2] [0] Tryz.func72 Tryz.ntmps72 (fun d => ?_)
 refine gh ?_;refine Z1 ?_;refine R.fin [1, 3] ?_;refine Lr ?_;refine R.fin [1, 3, 4] ?_
 refine AW.loopC (α := Nat) (fun x => ⟨21, A5 1 (.ro (Cw e)) (A5 3 (A3 ((Bg (e.kids.take x) : Nat) + 1)) (A5 4 (A3 (x : Nat)) (fun _ => .any))), Hp, [], [], none⟩) (fun x => x ≤ e.kids.length) (fun x => e.kids.length - x) (0) (Nat.zero_le _) (StLe.of_eq (by simp [Bg])) rfl (fun x hx => ?_)
 refine Z8 ?_;refine Z33 ?_;refine Zb ?_;refine R.fin [1, 3, 4, 9] ?_
 refine W.cond (fun ht9 => ?_) (fun ht9 => ?_)
 ·have hlt : x < e.kids.length := by simpa using ht9
  have hkl := hok.2.1
  have hs1 := af e.kids hlt
  have hs2 := mm e (x + 1)
  refine Ji ?_;refine Z5 ?_;refine Z33 ?_;refine C3 ?_;refine qa ?_
  refine R.call Tryz.call72 (ih e.kids[x] (hok.2.2 _ (List.getElem_mem hlt)) (by have := We e hlt; omega) _) ?_
  refine Z23 ?_;refine R.fin [1, 3, 4] ?_;refine Ob ?_;refine R.fin [1, 3, 4] ?_;exact K.lpN (x + 1) hlt (by omega) (StCut.of_eq (by simp only [hs1]; congr 4; simp only [AV.v.injEq, Value.int.injEq, true_and]; omega))
 have hxe : e.kids.take x = e.kids := List.take_of_length_le (by simp at ht9; omega)
 have hdd := E6 e
 refine Z81 ?_;refine Z0 ?_;refine Z97 ?_;exact K.fin (V.one V.tmp) ⟨by rw [hxe, hdd]; simp; omega, rfl⟩

def Gn (s : Str) : Int := if (((s == [108, 101, 110]) || (s == [115, 116, 114])) || (s == [110, 117, 109])) || (s == [105, 115, 110, 117, 108, 108]) then 1 else if ((s == [110, 118, 108]) || (s == [108, 101, 102, 116])) || (s == [114, 105, 103, 104, 116]) then 2 else if s == [105, 102] then 3 else -1
theorem So (s : Str) : B7 s = Gn s := by
 by_cases h : s ∈ arityList.map (·.1)
 ·have : ((arityList.map (·.1)).all fun s => decide (B7 s = Gn s)) = true := by kernel_rfl
  exact of_decide_eq_true (List.all_eq_true.1 this s h)
 have h1 : B7 s = -1 := by
  unfold B7
  rw [List.find?_eq_none.2 fun p hp => by
   simp only [beq_iff_eq]
   rintro rfl
   exact h (List.mem_map.2 ⟨p, hp, rfl⟩)]
 rw [h1]
 simp only [arityList, List.map_cons, List.map_nil, List.mem_cons, List.not_mem_nil, or_false, not_or] at h
 obtain ⟨a1, a2, a3, a4, a5, a6, a7, a8⟩ := h
 simp [Gn, a1, a2, a3, a4, a5, a6, a7, a8]
theorem ABt (s : Str) (Hp : List AObj) : AFun Tryz.prog 136 [A7 s] Hp (A3 (Gn s)) := by
 refine ACall.body [.tmp 2] [0] Tryz.func136 Tryz.ntmps136 (fun d => ?_)
 refine Lq ?_;refine Z8 ?_;refine R.fin [3] ?_;refine AW.block ?_;refine Z29 ?_;refine Z21 ?_;refine R.fin [3, 4] ?_
 refine W.cond (fun ht4 => ?_) (fun ht4 => ?_)
 ·refine Z4 ?_
  refine W.cond (fun ht4 => ?_) (fun ht4 => ?_)
  ·exact Z57
  refine Z29 ?_;refine Vp ?_
  refine W.cond (fun ht9 => ?_) (fun ht9 => ?_)
  ·refine Z4 ?_
   refine W.cond (fun ht9 => ?_) (fun ht9 => ?_)
   ·exact Z57
   refine O8 ?_
   refine W.cond (fun ht13 => ?_) (fun ht13 => ?_)
   ·exact Z57
   exact O9
  refine Z45 ?_;refine R.fin [3, 9] ?_
  refine W.cond (fun ht9 => ?_) (fun ht9 => ?_)
  ·refine Z4 ?_
   refine W.cond (fun ht9 => ?_) (fun ht9 => ?_)
   ·exact Z57
   refine O8 ?_
   refine W.cond (fun ht13 => ?_) (fun ht13 => ?_)
   ·exact Z57
   exact O9
  refine H8 ?_;refine Vp ?_;refine K.thN ?_
  refine W.cond (fun ht9 => ?_) (fun ht9 => ?_)
  ·exact Z57
  refine O8 ?_
  refine W.cond (fun ht13 => ?_) (fun ht13 => ?_)
  ·exact Z57
  exact O9
 refine Z45 ?_;refine R.fin [3, 4] ?_
 refine W.cond (fun ht4 => ?_) (fun ht4 => ?_)
 ·refine Z4 ?_
  refine W.cond (fun ht4 => ?_) (fun ht4 => ?_)
  ·exact Z57
  refine Z29 ?_;refine Vp ?_
  refine W.cond (fun ht9 => ?_) (fun ht9 => ?_)
  ·refine Z4 ?_
   refine W.cond (fun ht9 => ?_) (fun ht9 => ?_)
   ·exact Z57
   refine O8 ?_
   refine W.cond (fun ht13 => ?_) (fun ht13 => ?_)
   ·exact Z57
   exact O9
  refine Z45 ?_;refine R.fin [3, 9] ?_
  refine W.cond (fun ht9 => ?_) (fun ht9 => ?_)
  ·refine Z4 ?_
   refine W.cond (fun ht9 => ?_) (fun ht9 => ?_)
   ·exact Z57
   refine O8 ?_
   refine W.cond (fun ht13 => ?_) (fun ht13 => ?_)
   ·exact Z57
   exact O9
  refine H8 ?_;refine Vp ?_;refine K.thN ?_
  refine W.cond (fun ht9 => ?_) (fun ht9 => ?_)
  ·exact Z57
  refine O8 ?_
  refine W.cond (fun ht13 => ?_) (fun ht13 => ?_)
  ·exact Z57
  exact O9
 refine Z45 ?_;refine R.fin [3, 4] ?_
 refine W.cond (fun ht4 => ?_) (fun ht4 => ?_)
 ·refine Z4 ?_
  refine W.cond (fun ht4 => ?_) (fun ht4 => ?_)
  ·exact Z57
  refine Z29 ?_;refine Vp ?_
  refine W.cond (fun ht9 => ?_) (fun ht9 => ?_)
  ·refine Z4 ?_
   refine W.cond (fun ht9 => ?_) (fun ht9 => ?_)
   ·exact Z57
   refine O8 ?_
   refine W.cond (fun ht13 => ?_) (fun ht13 => ?_)
   ·exact Z57
   exact O9
  refine Z45 ?_;refine R.fin [3, 9] ?_
  refine W.cond (fun ht9 => ?_) (fun ht9 => ?_)
  ·refine Z4 ?_
   refine W.cond (fun ht9 => ?_) (fun ht9 => ?_)
   ·exact Z57
   refine O8 ?_
   refine W.cond (fun ht13 => ?_) (fun ht13 => ?_)
   ·exact Z57
   exact O9
  refine H8 ?_;refine Vp ?_;refine K.thN ?_
  refine W.cond (fun ht9 => ?_) (fun ht9 => ?_)
  ·exact Z57
  refine O8 ?_
  refine W.cond (fun ht13 => ?_) (fun ht13 => ?_)
  ·exact Z57
  exact O9
 refine H8 ?_;refine Z21 ?_;refine R.fin [3, 4] ?_;refine K.thN ?_
 refine W.cond (fun ht4 => ?_) (fun ht4 => ?_)
 ·exact Z57
 refine Z29 ?_;refine Vp ?_
 refine W.cond (fun ht9 => ?_) (fun ht9 => ?_)
 ·refine Z4 ?_
  refine W.cond (fun ht9 => ?_) (fun ht9 => ?_)
  ·exact Z57
  refine O8 ?_
  refine W.cond (fun ht13 => ?_) (fun ht13 => ?_)
  ·exact Z57
  exact O9
 refine Z45 ?_;refine R.fin [3, 9] ?_
 refine W.cond (fun ht9 => ?_) (fun ht9 => ?_)
 ·refine Z4 ?_
  refine W.cond (fun ht9 => ?_) (fun ht9 => ?_)
  ·exact Z57
  refine O8 ?_
  refine W.cond (fun ht13 => ?_) (fun ht13 => ?_)
  ·exact Z57
  exact O9
 refine H8 ?_;refine Vp ?_;refine K.thN ?_
 refine W.cond (fun ht9 => ?_) (fun ht9 => ?_)
 ·exact Z57
 refine O8 ?_
 refine W.cond (fun ht13 => ?_) (fun ht13 => ?_)
 ·exact Z57
 exact O9

theorem mn {s : Str} {x : Nat} (hx : x < levels.length) (h : levels[x].contains s = true) (h0 : ∀ (j : Nat) (l : List Str), j < x → levels[j]? = some l → l.contains s = false) : Ak s = (x : Int) := by
 unfold Ak
 rw [List.findIdx?_eq_some_iff_getElem.2 ⟨hx, h, fun j hj => by
  have e := h0 j levels[j] hj (List.getElem?_eq_getElem _)
  show ¬ (levels[j].contains s = true)
  rw [e]
  simp⟩]
theorem mo {s : Str} (h0 : ∀ (j : Nat) (l : List Str), j < levels.length → levels[j]? = some l → l.contains s = false) : Ak s = -1 := by
 unfold Ak
 rw [List.findIdx?_eq_none_iff.2 fun l hl => by
  obtain ⟨j, hj⟩ := List.getElem?_of_mem hl
  exact h0 j l (List.getElem?_eq_some_iff.1 hj).1 hj]
theorem aq : levels.length = 6 := rfl
theorem Uf {x : Nat} (hx : x < levels.length) : levels[x].length ≤ 6 := by
 have : (levels.all fun l => decide (l.length ≤ 6)) = true := by kernel_rfl
 exact of_decide_eq_true (List.all_eq_true.1 this _ (List.getElem_mem hx))
theorem Rv {l : List Str} {s : Str} (h : ∀ (j : Nat) (w : Str), j < l.length → l[j]? = some w → (w == s) = false) : l.contains s = false := by
 rw [Bool.eq_false_iff]
 intro hc
 have hm : s ∈ l := by simpa using hc
 obtain ⟨j, hj⟩ := List.getElem?_of_mem hm
 have := h j s (List.getElem?_eq_some_iff.1 hj).1 hj
 simp at this
theorem ADm (s : Str) (Hp : List AObj) : AFun Tryz.prog 103 [A7 s] Hp (A3 (Ak s)) := by
 refine ACall.body [.tmp 2] [0] Tryz.func103 Tryz.ntmps103 (fun d => ?_)
 refine Lq ?_;refine B9 ?_;refine xm ?_;refine xm ?_;refine xm ?_;refine qu ?_;refine R.fin [0, 3] ?_;refine Lr ?_;refine Rj ?_
 refine AW.loopC (α := Nat) (fun x => ⟨38, A5 0 (A7 s) (A5 3 (.slice true 1 (levels.map H9)) (A5 4 (A3 (x : Nat)) (fun _ => .any))), Hp, [], [], none⟩) (fun x => x ≤ levels.length ∧ ∀ (j : Nat) (l : List Str), j < x → levels[j]? = some l → l.contains s = false) (fun x => levels.length - x) (0) ⟨Nat.zero_le _, fun j l h => by omega⟩ (StLe.refl _) rfl (fun x hx => ?_)
 refine Vs ?_;refine Zb ?_;refine R.fin [0, 3, 4, 16] ?_
 refine W.cond (fun ht16 => ?_) (fun ht16 => ?_)
 ·have hlt : x < levels.length := by simpa using ht16
  have h6 := aq
  have hls := Uf hlt
  refine Ji ?_;refine Z1 ?_;refine W3 ?_
  refine AW.loopC (α := Nat) (fun y => ⟨38, A5 0 (A7 s) (A5 3 (.slice true 1 (levels.map H9)) (A5 4 (A3 (x : Nat)) (A5 5 (A3 (y : Nat)) (fun _ => .any)))), Hp, [], [], none⟩) (fun y => y ≤ levels[x].length ∧ ∀ (j : Nat) (w : Str), j < y → levels[x][j]? = some w → (w == s) = false) (fun y => levels[x].length - y) (0) ⟨Nat.zero_le _, fun j l h => by omega⟩ (StLe.refl _) rfl (fun y hy => ?_)
  refine Z8 ?_;refine Z53 ?_;refine R.indexAddr (x) (H9 levels[x]) jU jS (Fj hlt) ?_;refine Ff ?_;refine Zb ?_;refine R.fin [0, 3, 4, 5, 25] ?_
  refine W.cond (fun ht25 => ?_) (fun ht25 => ?_)
  ·have hly : y < levels[x].length := by simpa using ht25
   refine Ji ?_;refine Z31 ?_;refine R.indexAddr (x) (H9 levels[x]) jU jS (Fj hlt) ?_;refine rb ?_;refine R.indexAddr (y) (A7 (levels[x])[y]) jU jS (Fj hly) ?_;refine rb ?_;refine R.seql ?_;refine R.fin [0, 3, 4, 5, 36] ?_
   refine W.cond (fun ht36 => ?_) (fun ht36 => ?_)
   ·refine Z0 ?_;refine Z97 ?_;refine Ys ?_;refine Zc ?_;exact K.fin (V.one V.tmp) ⟨by rw [mn hlt (by simp only [List.contains_iff_mem]; have := ht36; simp only [beq_iff_eq] at this; rw [← this]; exact List.getElem_mem hly) hx.2], rfl⟩
   refine Zf ?_;refine W3 ?_;exact K.lpN (y + 1) ⟨hly, I8 hly hy.2 ht36⟩ (by omega) (StCut.of_eq rfl)
  have hny : levels[x].length ≤ y := by simpa using ht25
  refine Z40 ?_;refine K.lpE ?_;refine Ob ?_;refine Rj ?_;exact K.lpN (x + 1) ⟨hlt, I8 hlt hx.2 (Rv fun j w hj hw => hy.2 j w (by omega) hw)⟩ (by omega) (StCut.of_eq rfl)
 have hnx : levels.length ≤ x := by simpa using ht16
 refine Z81 ?_;refine Z24 ?_;exact K.fin (V.one V.tmp) ⟨by rw [mo (fun j l hj h => hx.2 j l (by omega) h)], rfl⟩

/-! What is printed of columns, word by word. -/
def ktT (t : Tok) : Int × Str := (t.kind, t.text)
set_option maxRecDepth 8000
abbrev TK := Int × Str
/-- What stands from word i on. -/
def seg (l : List Tok) (i : Nat) : List TK := (l.drop i).map ktT
theorem Bi {l : List Tok} {i : Nat} {k : Int} {t : Str} {r : List TK} (h : seg l i = (k, t) :: r) : (A4 l i).kind = k ∧ (A4 l i).text = t ∧ seg l (i + 1) = r ∧ i < l.length := by
 unfold seg at h ⊢
 rcases Nat.lt_or_ge i l.length with hi | hi
 ·rw [List.drop_eq_getElem_cons hi, List.map_cons, List.cons.injEq] at h
  have e : A4 l i = l[i] := by unfold A4; rw [List.getD_eq_getElem?_getD, List.getElem?_eq_getElem hi]; rfl
  rw [e]
  have h1 := h.1
  unfold ktT at h1
  rw [Prod.mk.injEq] at h1
  exact ⟨h1.1, h1.2, h.2, hi⟩
 rw [List.drop_of_length_le hi] at h; cases h
theorem Dp {l : List Tok} {i : Nat} {ts rest : List TK} (h : seg l i = ts ++ rest) : seg l (i + ts.length) = rest := by
 unfold seg at h ⊢
 have := congrArg (List.drop ts.length) h
 rw [List.drop_left, ← List.map_drop, List.drop_drop] at this
 exact this
theorem Cu {l : List Tok} {S : PS} {of : Str} {k : Int} {t : Str} {r : List TK} (h : seg l S.i = (k, t) :: r) : isM l of S = (((k == 5) || (k == 2)) && Ct t of) := by
 unfold isM
 rw [(Bi h).1, (Bi h).2.1]
theorem Uh {l : List Tok} {S : PS} {of : Str} (h : seg l S.i = []) : isM l of S = false := by
 unfold seg at h
 have hi : l.length ≤ S.i := by simpa using h
 unfold isM A4
 rw [List.getD_eq_getElem?_getD, List.getElem?_eq_none hi]
 rfl
theorem X0 {w : Str} (hw : (32 : UInt8) ∉ w) (h0 : w ≠ []) (s : Str) : Ct s (32 :: (w ++ [32])) = (s == w) := by
 have e : (32 :: (w ++ [32]) : Str) = He [w] := rfl
 rw [F7 e (fun x hx => by rw [List.mem_singleton.1 hx]; exact hw) s]
 by_cases hs : s = []
 ·subst hs
  cases w with
  | nil => exact absurd rfl h0
  | cons a r => rfl
 have : (s == []) = false := by simpa using hs
 rw [this, Bool.eq_iff_iff]
 simp
theorem Gf (s : Str) : s ∈ levels.flatten ∨ (Ak s = -1 ∧ ∀ l ∈ levels, l.contains s = false) := by
 by_cases h : s ∈ levels.flatten
 ·exact .inl h
 have h2 : ∀ l ∈ levels, l.contains s = false := fun l hl => by
  rw [Bool.eq_false_iff]
  intro h3
  exact h (List.mem_flatten.2 ⟨l, hl, by simpa using h3⟩)
 refine .inr ⟨?_, h2⟩
 unfold Ak
 rw [List.findIdx?_eq_none_iff.2 fun l hl => h2 l hl]
/-- The texts of levels of marks. -/
def ofL (k : Nat) : Str := if k = 0 then orT else if k = 1 then al else if k = 3 then Od else if k = 4 then am else Q9
theorem Eb {k : Nat} (hk : k = 0 ∨ k = 1 ∨ k = 3 ∨ k = 4 ∨ k = 5) (s : Str) : Ct s (ofL k) = (Ak s == (k : Int)) := by
 have e : ofL k = He (levels.getD k []) := by rcases hk with rfl | rfl | rfl | rfl | rfl <;> kernel_rfl
 have hp : ∀ w ∈ levels.getD k [], (32 : UInt8) ∉ w := by rcases hk with rfl | rfl | rfl | rfl | rfl <;> decide
 have hm : levels.getD k [] ∈ levels := by rcases hk with rfl | rfl | rfl | rfl | rfl <;> decide
 rw [F7 e hp s]
 rcases Gf s with h | ⟨h1, h2⟩
 ·have h3 : (levels.flatten.all fun s => decide ((!(s == []) && (levels.getD k []).contains s) = (Ak s == (k : Int)))) = true := by rcases hk with rfl | rfl | rfl | rfl | rfl <;> kernel_rfl
  exact of_decide_eq_true (List.all_eq_true.1 h3 s h)
 rw [h2 _ hm, h1, Bool.and_false]
 symm
 rw [beq_eq_false_iff_ne]
 omega
theorem M7 (s : Str) : -1 ≤ Ak s ∧ Ak s ≤ 5 ∧ Ak s ≠ 2 := by
 rcases Gf s with h | ⟨h, _⟩
 ·have h3 : (levels.flatten.all fun s => decide (-1 ≤ Ak s ∧ Ak s ≤ 5 ∧ Ak s ≠ 2)) = true := by kernel_rfl
  exact of_decide_eq_true (List.all_eq_true.1 h3 s h)
 omega
/-- A row of words behind which no mark of a level, or of a tighter one, stands. -/
def stops (k : Nat) (rest : List TK) : Prop := ∀ h r, rest = h :: r → ((h.1 == 5) || (h.1 == 2)) = true → Ak h.2 < (k : Int) ∧ h.2 ≠ [40]
theorem stops.mono {k k' : Nat} {rest : List TK} (h : stops k rest) (hk : k ≤ k') : stops k' rest := fun a r e hm => ⟨by have := (h a r e hm).1; omega, (h a r e hm).2⟩
theorem H1 {l : List Tok} {S : PS} {k : Nat} {rest : List TK} (h : stops k rest) (hs : seg l S.i = rest) (hk : k = 0 ∨ k = 1 ∨ k = 3 ∨ k = 4 ∨ k = 5) : isM l (ofL k) S = false := by
 cases rest with
 | nil => exact Uh hs
 | cons a r =>
  obtain ⟨ka, ta⟩ := a
  rw [Cu hs, Eb hk]
  cases hb : ((ka == 5) || (ka == 2)) with
  | false => rfl
  | true =>
   have := (h _ _ rfl hb).1
   rw [Bool.true_and, beq_eq_false_iff_ne]
   show Ak ta ≠ _
   have : Ak ta < (k : Int) := this
   omega
def Ip : Str := [110, 111, 116]
def levE (e : Expr) : Nat := if e.op == 4 then 2 else if e.op == 3 then 6 else if e.op == 5 then (Ak e.text).toNat else 7
theorem sw (e : Expr) : levE e ≤ 7 := by
 have := M7 e.text
 unfold levE
 repeat' split
 all_goals omega
def Cv (least : Nat) (x : Expr) (T : List TK) : List TK := if least ≤ levE x then T else (5, [40]) :: (T ++ [(5, [41])])
def D7 (least : Nat) (x : Expr) (n : Nat) : Nat := if least ≤ levE x then n else n + 1
def Cg (own : Nat) : Nat := if own = 3 then 4 else own
def Fp (v : Val) : TK := if v.kind == 1 then (3, Br v) else if v.kind == 2 then (4, v.s) else (2, Br v)
def opTok (t : Str) : TK := (if Bc (t.headD 0) then 2 else 5, t)
def Fg : List (List TK) → List TK
 | [] => []
 | T :: r => (5, [44]) :: (T ++ Fg r)
def Qb (o : Int) (t : Str) (v : Val) (k : List Expr) (ts : List (List TK)) : List TK :=
 if o == 1 then [Fp v] else if o == 2 then [(1, t)]
 else if o == 3 then (5, [45]) :: Cv 6 (k.getD 0 Aj) (ts.getD 0 [])
 else if o == 4 then (2, Ip) :: Cv 2 (k.getD 0 Aj) (ts.getD 0 [])
 else if o == 5 then Cv (Cg (Ak t).toNat) (k.getD 0 Aj) (ts.getD 0 []) ++ opTok t :: Cv ((Ak t).toNat + 1) (k.getD 1 Aj) (ts.getD 1 [])
 else (1, t) :: (5, [40]) :: ((Fg ts).drop 1 ++ [(5, [41])])
mutual
def Ah : Expr → List TK
 | .mk o t v k => Qb o t v k (Dy k)
def Dy : List Expr → List (List TK)
  | [] => []
  | e :: r => Ah e :: Dy r
 end
def ar : List Nat → Nat
 | [] => 0
 | n :: r => max n (ar r)
def Qc (o : Int) (t : Str) (k : List Expr) (ns : List Nat) : Nat :=
 if o == 1 then 0 else if o == 2 then 0
 else if o == 3 then 1 + D7 6 (k.getD 0 Aj) (ns.getD 0 0)
 else if o == 4 then 1 + D7 2 (k.getD 0 Aj) (ns.getD 0 0)
 else if o == 5 then max (D7 (Cg (Ak t).toNat) (k.getD 0 Aj) (ns.getD 0 0)) (D7 ((Ak t).toNat + 1) (k.getD 1 Aj) (ns.getD 1 0))
 else 1 + ar ns
mutual
def B0 : Expr → Nat
 | .mk o t v k => Qc o t k (Kv k)
def Kv : List Expr → List Nat
  | [] => []
  | e :: r => B0 e :: Kv r
 end
theorem Sp : ∀ l, Dy l = l.map Ah
 | [] => rfl
 | e :: r => by rw [Dy, Sp r]; rfl
theorem co : ∀ (l : List Expr), ∀ y ∈ l, B0 y ≤ ar (Kv l)
 | [], y, h => by cases h
 | e :: r, y, h => by
  rw [Kv, ar]
  rcases List.mem_cons.1 h with rfl | h
  ·omega
  have := co r y h; omega
theorem sx {v : Val} (h : Gr v = true) : v = noV := by
 unfold Gr at h
 simp only [Bool.and_eq_true, beq_iff_eq] at h
 cases v
 simp_all [noV]
/-- What a right node is. -/
inductive NodeC : Expr → Prop
 | val (v : Val) (h : Bw v = true) (h0 : 0 ≤ v.n) : NodeC (Co v)
 | name (t : Str) (h : Gq t = true) : NodeC (D6 t)
 | neg (a : Expr) : NodeC (Bl 3 a)
 | no (a : Expr) : NodeC (Bl 4 a)
 | bin (t : Str) (a b : Expr) (h : 0 ≤ Ak t) : NodeC (Bu t a b)
 | call (t : Str) (k : List Expr) (h : B7 t = (k.length : Int)) : NodeC (.mk 6 t noV k)
theorem Es (o : Int) (t : Str) (v : Val) (k : List Expr) : M1 (.mk o t v k) =
 if o == 1 then ((Bw v && decide (0 ≤ v.n)) && (t == [])) && ((k.length : Int) == 0)
 else if !(Gr v) then false
 else if o == 2 then Gq t && ((k.length : Int) == 0)
 else if o == 3 || o == 4 then (t == []) && ((k.length : Int) == 1)
 else if o == 5 then decide (0 ≤ Ak t) && ((k.length : Int) == 2)
 else if o == 6 then B7 t == (k.length : Int)
 else false := rfl
theorem Fq {e : Expr} (h : Bk e = true) : NodeC e := by
 rw [Gb] at h
 cases e with
 | mk o t v k =>
 rw [Es] at h
 by_cases h1 : (o == 1) = true
 ·rw [if_pos h1] at h
  simp only [Bool.and_eq_true, beq_iff_eq, decide_eq_true_eq] at h h1
  obtain ⟨⟨⟨a1, a2⟩, a3⟩, a4⟩ := h
  subst h1
  subst a3
  have : k = [] := by cases k with | nil => rfl | cons x r => simp at a4; omega
  subst this
  exact .val v a1 a2
 rw [if_neg h1] at h
 by_cases hb : (!(Gr v)) = true
 ·rw [if_pos hb] at h; cases h
 rw [if_neg hb] at h
 have hv : v = noV := sx (by simpa using hb)
 subst hv
 by_cases h2 : (o == 2) = true
 ·rw [if_pos h2] at h
  simp only [Bool.and_eq_true, beq_iff_eq] at h h2
  subst h2
  have : k = [] := by cases k with | nil => rfl | cons x r => have := h.2; simp at this; omega
  subst this
  exact .name t h.1
 rw [if_neg h2] at h
 by_cases h3 : (o == 3 || o == 4) = true
 ·rw [if_pos h3] at h
  simp only [Bool.and_eq_true, Bool.or_eq_true, beq_iff_eq] at h h3
  obtain ⟨rfl, h4⟩ := h
  match k, h4 with
  | [a], _ =>
   rcases h3 with rfl | rfl
   ·exact .neg a
   exact .no a
  | [], h4 => simp at h4
  | _ :: _ :: _, h4 => simp at h4; omega
 rw [if_neg h3] at h
 by_cases h5 : (o == 5) = true
 ·rw [if_pos h5] at h
  simp only [Bool.and_eq_true, beq_iff_eq, decide_eq_true_eq] at h h5
  subst h5
  match k, h.2 with
  | [a, b], _ => exact .bin t a b h.1
  | [], h4 => simp at h4
  | [_], h4 => simp at h4
  | _ :: _ :: _ :: _, h4 => simp at h4; omega
 rw [if_neg h5] at h
 by_cases h6 : (o == 6) = true
 ·rw [if_pos h6] at h
  simp only [beq_iff_eq] at h h6
  subst h6
  exact .call t k h
 rw [if_neg h6] at h; cases h
/-- The functions of the levels. -/
def pf (l : List Tok) (D : Fam) : Nat → PS → Expr × PS
 | 0 => In l D
 | 1 => M5 l D
 | 2 => Ge l D
 | 3 => Bo l D
 | 4 => Bh l D
 | 5 => M4 l D
 | 6 => Gd l D
 | _ => C9 l D
abbrev fam (l : List Tok) (n : Nat) : Fam := Ba l (30 - n)
theorem M8 {l : List Tok} {n : Nat} (h : n < 30) : fam l n = ⟨pf l (fam l (n + 1)) 0, pf l (fam l (n + 1)) 2, pf l (fam l (n + 1)) 6⟩ := by
 unfold fam
 rw [show 30 - n = (30 - (n + 1)) + 1 by omega]
 rfl
def adv (S : PS) (n : Nat) : PS := ⟨S.i + n, S.nest, S.code, S.at_⟩
theorem Em (S : PS) (a b : Nat) : adv (adv S a) b = adv S (a + b) := by unfold adv; simp [Nat.add_assoc]
theorem Gg (S : PS) : A2 S = adv S 1 := rfl
/-- A level is as the tighter one, where nothing of it stands. -/
theorem sy {l : List Tok} {D : Fam} {k : Nat} (hk : k ≤ 6) {S : PS} {x : Expr} {n : Nat} {rest : List TK} (h : pf l D (k + 1) S = (x, adv S n)) (h0 : S.code = 0) (hs : seg l (S.i + n) = rest) (hst : stops k rest) (hnot : k = 2 → isM l Wt S = false) (hneg : k = 6 → isM l Wu S = false) : pf l D k S = (x, adv S n) := by
 have hl : ∀ of : Str, isM l of (adv S n) = false → ∀ m, Eg l of (pf l D (k + 1)) m (x, adv S n) = (x, adv S n) := fun of ho m => by
  cases m with
  | zero => rfl
  | succ m => rw [Eg, if_neg (by rw [ho]; simp)]
 have left : ∀ of : Str, isM l of (adv S n) = false → Cc l of (pf l D (k + 1)) S = (x, adv S n) := fun of ho => by
  unfold Cc
  rw [h]
  exact hl of ho _
 match k, hk with
 | 0, _ => exact left orT (H1 (k := 0) hst hs (by omega))
 | 1, _ => exact left al (H1 (k := 1) hst hs (by omega))
 | 2, _ =>
  show Ge l D S = _
  unfold Ge
  rw [hnot rfl]
  exact h
 | 3, _ =>
  show Bo l D S = _
  have h' : Bh l D S = (x, adv S n) := h
  unfold Bo
  rw [h', if_pos (by rw [show isM l Od (adv S n) = false from H1 (k := 3) hst hs (by omega)]; simp)]
 | 4, _ => exact left am (H1 (k := 4) hst hs (by omega))
 | 5, _ => exact left Q9 (H1 (k := 5) hst hs (by omega))
 | 6, _ =>
  show Gd l D S = _
  unfold Gd
  rw [hneg rfl]
  exact h
theorem Ui {l : List Tok} {D : Fam} {S : PS} {x : Expr} {n : Nat} {rest : List TK} (h0 : S.code = 0) (hs : seg l (S.i + n) = rest) : ∀ (m k j : Nat), k + m = j → j ≤ 7 → pf l D j S = (x, adv S n) → stops k rest → (3 ≤ j → isM l Wt S = false) → (7 ≤ j → isM l Wu S = false) → pf l D k S = (x, adv S n)
 | 0, k, j, e, _, h, _, _, _ => by rw [show k = j by omega]; exact h
 | m + 1, k, j, e, hj, h, hst, h1, h2 => sy (by omega) (Ui h0 hs m (k + 1) j (by omega) hj h (hst.mono (by omega)) h1 h2) h0 hs hst (fun _ => h1 (by omega)) (fun _ => h2 (by omega))
def T1 (l : List Tok) (x : Expr) : Prop := ∀ (k : Nat) (S : PS) (rest : List TK), k ≤ levE x → S.code = 0 → S.nest + B0 x ≤ 30 → seg l S.i = Ah x ++ rest → stops k rest → pf l (fam l S.nest) k S = (x, adv S (Ah x).length)
def T2 (l : List Tok) (x : Expr) : Prop := ∀ (k : Nat) (S : PS) (rest : List TK), (k = 0 ∨ k = 1 ∨ k = 4 ∨ k = 5) → k ≤ levE x → S.code = 0 → S.nest + B0 x ≤ 30 → seg l S.i = Ah x ++ rest → stops (k + 1) rest →
 ∃ n, l.length ≤ S.i + (Ah x).length + n ∧ Cc l (ofL k) (pf l (fam l S.nest) (k + 1)) S = Eg l (ofL k) (pf l (fam l S.nest) (k + 1)) n (x, adv S (Ah x).length)
theorem M9 (s w : Str) (h1 : (32 : UInt8) ∉ w) (h2 : w ≠ []) {of : Str} (h : of = 32 :: (w ++ [32])) : Ct s of = (s == w) := by rw [h]; exact X0 h1 h2 s
theorem au (s : Str) : Ct s Wt = (s == Ip) := M9 s Ip (by decide) (by decide) rfl
theorem av (s : Str) : Ct s Wu = (s == [45]) := M9 s [45] (by decide) (by decide) rfl
theorem mp (s : Str) : Ct s opT = (s == [40]) := M9 s [40] (by decide) (by decide) rfl
theorem X1 (s : Str) : Ct s Gm = (s == [44]) := M9 s [44] (by decide) (by decide) rfl
def litWords : List Str := [[116, 114, 117, 101], [102, 97, 108, 115, 101], [110, 117, 108, 108]]
theorem aw (s : Str) : Ct s N5 = (!(s == []) && litWords.contains s) := F7 (show N5 = He litWords by kernel_rfl) (by decide) s
/-- In brackets. -/
theorem mq {l : List Tok} {y : Expr} (hy : T1 l y) {S : PS} {rest : List TK} (h0 : S.code = 0) (hn : S.nest + (B0 y + 1) ≤ 30) (hs : seg l S.i = ((5, [40]) :: (Ah y ++ [(5, [41])])) ++ rest) :
  pf l (fam l S.nest) 7 S = (y, adv S ((5, [40]) :: (Ah y ++ [((5, [41]) : TK)])).length) := by
 have hs' : seg l S.i = (5, [40]) :: (Ah y ++ (5, [41]) :: rest) := by rw [hs]; simp
 obtain ⟨k1, t1, r1, i1⟩ := Bi hs'
 have e1 : isM l N5 S = false := by rw [Cu hs', aw]; decide
 have e2 : isM l opT S = true := by rw [Cu hs', mp]; decide
 show C9 l (fam l S.nest) S = _
 unfold C9
 rw [if_neg (by rw [h0]; decide), k1, e1, if_neg (by decide), if_neg (by decide), if_neg (by decide), if_pos e2]
 have hw : Am (A4 l S.i).at_ (fam l S.nest).ei (A2 S) = (y, adv (A2 S) (Ah y).length) := by
  unfold Am
  rw [if_neg (by show ¬ (((S.nest : Int) == 30) = true); simp; omega), M8 (by omega)]
  have := hy 0 (Al (A2 S)) ((5, [41]) :: rest) (Nat.zero_le _) h0 (by show S.nest + 1 + B0 y ≤ 30; omega) r1 (fun h r e hm => by
   injection e with e _
   subst e
   exact ⟨by decide, by decide⟩)
  show ((pf l (fam l (S.nest + 1)) 0 (Al (A2 S))).1, Do (pf l (fam l (S.nest + 1)) 0 (Al (A2 S))).2) = _
  have this' : pf l (fam l (S.nest + 1)) 0 (Al (A2 S)) = (y, adv (Al (A2 S)) (Ah y).length) := this
  rw [this']
  rfl
 rw [hw]
 have r2 := Dp r1
 have hc : Ay l Aw (adv (A2 S) (Ah y).length) = adv (A2 S) ((Ah y).length + 1) := by
  obtain ⟨k2, t2, _, _⟩ := Bi r2
  unfold Ay
  rw [if_neg (by show ¬ ((S.code != 0) = true); rw [h0]; decide)]
  have k2' : (A4 l (adv (A2 S) (Ah y).length).i).kind = 5 := k2
  have t2' : (A4 l (adv (A2 S) (Ah y).length).i).text = [41] := t2
  rw [k2', t2', if_neg (by decide)]
  rfl
 show (y, Ay l Aw (adv (A2 S) (Ah y).length)) = _
 rw [hc, Gg, Em]
 congr 2
 simp
 omega
/-- A kid at a level. -/
theorem N7 {l : List Tok} {y : Expr} (hy : T1 l y) {k : Nat} (hk : k ≤ 7) {S : PS} {rest : List TK} (h0 : S.code = 0) (hn : S.nest + D7 k y (B0 y) ≤ 30) (hs : seg l S.i = Cv k y (Ah y) ++ rest) (hst : stops k rest) :
  pf l (fam l S.nest) k S = (y, adv S (Cv k y (Ah y)).length) := by
 unfold Cv at hs ⊢
 unfold D7 at hn
 by_cases hl : k ≤ levE y
 ·rw [if_pos hl] at hs hn ⊢
  exact hy k S rest hl h0 hn hs hst
 rw [if_neg hl] at hs hn ⊢
 have hs' : seg l S.i = (5, [40]) :: (Ah y ++ (5, [41]) :: rest) := by rw [hs]; simp
 exact Ui h0 (Dp hs) (7 - k) k 7 (by omega) (Nat.le_refl _) (mq hy h0 (by omega) hs) hst (fun _ => by rw [Cu hs', au]; decide) (fun _ => by rw [Cu hs', av]; decide)
theorem Qd (v : Val) : Ah (Co v) = [Fp v] := by simp [Co, Ah, Qb]
theorem N8 (t : Str) : Ah (D6 t) = [(1, t)] := by simp [D6, Ah, Qb]
theorem Qe (a : Expr) : Ah (Bl 3 a) = (5, [45]) :: Cv 6 a (Ah a) := by simp [Bl, Ah, Dy, Qb]
theorem Uj (a : Expr) : Ah (Bl 4 a) = (2, Ip) :: Cv 2 a (Ah a) := by simp [Bl, Ah, Dy, Qb]
theorem Ma (t : Str) (a b : Expr) : Ah (Bu t a b) = Cv (Cg (Ak t).toNat) a (Ah a) ++ opTok t :: Cv ((Ak t).toNat + 1) b (Ah b) := by simp [Bu, Ah, Dy, Qb]
theorem N9 (t : Str) (k : List Expr) : Ah (.mk 6 t noV k) = (1, t) :: (5, [40]) :: ((Fg (Dy k)).drop 1 ++ [(5, [41])]) := by simp [Ah, Qb]
theorem X2 (v : Val) : B0 (Co v) = 0 := by simp [Co, B0, Qc]
theorem ip (t : Str) : B0 (D6 t) = 0 := by simp [D6, B0, Qc]
theorem X3 (a : Expr) : B0 (Bl 3 a) = 1 + D7 6 a (B0 a) := by simp [Bl, B0, Kv, Qc]
theorem cp (a : Expr) : B0 (Bl 4 a) = 1 + D7 2 a (B0 a) := by simp [Bl, B0, Kv, Qc]
theorem Mb (t : Str) (a b : Expr) : B0 (Bu t a b) = max (D7 (Cg (Ak t).toNat) a (B0 a)) (D7 ((Ak t).toNat + 1) b (B0 b)) := by simp [Bu, B0, Kv, Qc]
theorem Sq (t : Str) (k : List Expr) : B0 (.mk 6 t noV k) = 1 + ar (Kv k) := by simp [B0, Qc]
theorem Oq (v : Val) : levE (Co v) = 7 := by simp [levE, Co, Expr.op]
theorem Qf (t : Str) : levE (D6 t) = 7 := by simp [levE, D6, Expr.op]
theorem Ot (a : Expr) : levE (Bl 3 a) = 6 := by simp [levE, Bl, Expr.op]
theorem Uk (a : Expr) : levE (Bl 4 a) = 2 := by simp [levE, Bl, Expr.op]
theorem Mc (t : Str) (a b : Expr) : levE (Bu t a b) = (Ak t).toNat := by simp [levE, Bu, Expr.op, Expr.text]
theorem Qg (t : Str) (k : List Expr) : levE (.mk 6 t noV k) = 7 := by simp [levE, Expr.op]
/-- What a right value is. -/
theorem Hv {v : Val} (h : Bw v = true) : v = ⟨0, 0, []⟩ ∨ v = ⟨1, v.n, []⟩ ∨ (v = ⟨2, 0, v.s⟩ ∧ v.s.length ≤ 200) ∨ v = ⟨3, 0, []⟩ ∨ v = ⟨3, 1, []⟩ := by
 obtain ⟨k, n, s⟩ := v
 unfold Bw at h
 simp only at h
 split at h
 ·rename_i h1
  simp only [Bool.and_eq_true, beq_iff_eq] at h h1
  obtain ⟨rfl, rfl⟩ := h
  subst h1
  exact .inl rfl
 split at h
 ·rename_i h1
  simp only [beq_iff_eq] at h h1
  subst h h1
  exact .inr (.inl rfl)
 split at h
 ·rename_i h1
  simp only [Bool.and_eq_true, beq_iff_eq, decide_eq_true_eq] at h h1
  obtain ⟨rfl, h3⟩ := h
  subst h1
  exact .inr (.inr (.inl ⟨rfl, by show s.length ≤ 200; omega⟩))
 simp only [Bool.and_eq_true, beq_iff_eq, decide_eq_true_eq] at h
 obtain ⟨⟨⟨rfl, rfl⟩, h3⟩, h4⟩ := h
 have : n = 0 ∨ n = 1 := by omega
 rcases this with rfl | rfl
 ·exact .inr (.inr (.inr (.inl rfl)))
 exact .inr (.inr (.inr (.inr rfl)))
def ax (h : TK) (w : Str) : Bool := ((h.1 == 5) || (h.1 == 2)) && (h.2 == w)
theorem X4 : ∀ (n : Nat) (x : Expr), sizeE x ≤ n → C0 Bk x = true → ∃ h r, Ah x = h :: r ∧ (3 ≤ levE x → ax h Ip = false) ∧ (7 ≤ levE x → ax h [45] = false)
 | 0, x, hn, _ => by rw [E6] at hn; omega
 | n + 1, x, hn, hx => by
  rw [Dk, Bool.and_eq_true] at hx
  obtain ⟨h1, h2⟩ := hx
  cases Fq h1 with
  | val v hv h0 =>
   rw [Qd]
   refine ⟨_, _, rfl, fun _ => ?_, fun _ => ?_⟩ <;> rcases Hv hv with e | e | ⟨e, _⟩ | e | e <;> rw [e] <;> first | rfl | kernel_rfl
  | name t ht => rw [N8]; exact ⟨_, _, rfl, fun _ => rfl, fun _ => rfl⟩
  | neg a => rw [Qe, Ot]; exact ⟨_, _, rfl, fun _ => by decide, fun h => by omega⟩
  | no a => rw [Uj, Uk]; exact ⟨_, _, rfl, fun h => by omega, fun h => by omega⟩
  | call t k hk => rw [N9]; exact ⟨_, _, rfl, fun _ => rfl, fun _ => rfl⟩
  | bin t a b ht =>
   rw [Ma, Mc]
   have hlv := M7 t
   have ha : sizeE a ≤ n := by
    rw [E6] at hn
    have : Bg [a, b] ≤ n := by have : (Bu t a b).kids = [a, b] := rfl; rw [this] at hn; omega
    simp [Bg] at this
    omega
   have hxa : C0 Bk a = true := (D3 _ _).1 h2 a (by simp [Bu, Expr.kids])
   obtain ⟨h, r, e, g1, g2⟩ := X4 n a ha hxa
   unfold Cv
   split
   ·rename_i hl
    rw [e]
    refine ⟨h, _, rfl, fun h3 => g1 ?_, fun h7 => by omega⟩
    unfold Cg at hl
    split at hl <;> omega
   exact ⟨_, _, rfl, fun _ => by decide, fun h7 => by omega⟩
theorem t6 {l : List Tok} {S : PS} {x : Expr} {rest : List TK} (hx : C0 Bk x = true) (hs : seg l S.i = Ah x ++ rest) : (3 ≤ levE x → isM l Wt S = false) ∧ (7 ≤ levE x → isM l Wu S = false) := by
 obtain ⟨⟨k, t⟩, r, e, g1, g2⟩ := X4 _ x (Nat.le_refl _) hx
 rw [e] at hs
 refine ⟨fun h => ?_, fun h => ?_⟩
 ·rw [Cu (r := r ++ rest) hs, au]; exact g1 h
 rw [Cu (r := r ++ rest) hs, av]; exact g2 h
/-- From a tree's own level to all. -/
theorem iq {l : List Tok} {x : Expr} (hx : C0 Bk x = true) (hA : ∀ (S : PS) (rest : List TK), S.code = 0 → S.nest + B0 x ≤ 30 → seg l S.i = Ah x ++ rest → stops (levE x) rest → pf l (fam l S.nest) (levE x) S = (x, adv S (Ah x).length))
  (hB : ∀ (S : PS) (rest : List TK), (levE x = 0 ∨ levE x = 1 ∨ levE x = 4 ∨ levE x = 5) → S.code = 0 → S.nest + B0 x ≤ 30 → seg l S.i = Ah x ++ rest → stops (levE x + 1) rest →
   ∃ n, l.length ≤ S.i + (Ah x).length + n ∧ Cc l (ofL (levE x)) (pf l (fam l S.nest) (levE x + 1)) S = Eg l (ofL (levE x)) (pf l (fam l S.nest) (levE x + 1)) n (x, adv S (Ah x).length)) : T1 l x ∧ T2 l x := by
 have h1 : T1 l x := fun k S rest hk h0 hn hs hst => by
  obtain ⟨g1, g2⟩ := t6 hx hs
  exact Ui h0 (Dp hs) (levE x - k) k (levE x) (by omega) (sw x) (hA S rest h0 hn hs (hst.mono hk)) hst g1 g2
 refine ⟨h1, fun k S rest hk hkl h0 hn hs hst => ?_⟩
 rcases Nat.lt_or_ge k (levE x) with h | h
 ·refine ⟨l.length, by omega, ?_⟩
  unfold Cc
  rw [h1 (k + 1) S rest h h0 hn hs hst]
 obtain rfl : k = levE x := by omega
 exact hB S rest hk h0 hn hs hst
theorem Md {k : Nat} (hk : k = 0 ∨ k = 1 ∨ k = 4 ∨ k = 5) : k = 0 ∨ k = 1 ∨ k = 3 ∨ k = 4 ∨ k = 5 := by omega
theorem t7 {l : List Tok} {D : Fam} {k : Nat} (hk : k = 0 ∨ k = 1 ∨ k = 4 ∨ k = 5) : pf l D k = Cc l (ofL k) (pf l D (k + 1)) := by rcases hk with rfl | rfl | rfl | rfl <;> rfl
theorem Qh {t : Str} {k : Nat} {r : List TK} (h0 : 0 ≤ Ak t) (hk : Ak t < (k : Int)) : stops k (opTok t :: r) := fun h r' e _ => by
 injection e with e _
 subst e
 exact ⟨hk, fun e => by have : t = [40] := e; subst this; revert h0; decide⟩
theorem vz {l : List Tok} {S : PS} {t : Str} {r : List TK} {of : Str} (hs : seg l S.i = opTok t :: r) : isM l of S = Ct t of := by
 have := Cu (of := of) (k := if Bc (t.headD 0) then 2 else 5) (t := t) hs
 rw [this]
 split <;> simp
theorem Sr {e : Expr} {n : Nat} (h : sizeE e ≤ n + 1) {y : Expr} (hy : y ∈ e.kids) : sizeE y ≤ n := by
 rw [E6] at h
 obtain ⟨i, hi, rfl⟩ := List.getElem_of_mem hy
 have := N0 e.kids hi
 omega
theorem ABu {l : List Tok} {t : Str} {a b : Expr} (ht : 0 ≤ Ak t) (hx : C0 Bk (Bu t a b) = true) (ha : T1 l a ∧ T2 l a) (hb : T1 l b) : T1 l (Bu t a b) ∧ T2 l (Bu t a b) := by
 have hlv := M7 t
 obtain ⟨own, hown⟩ : ∃ own, own = (Ak t).toNat := ⟨_, rfl⟩
 have hoi : Ak t = (own : Int) := by omega
 have hB : ∀ (S : PS) (rest : List TK), (own = 0 ∨ own = 1 ∨ own = 4 ∨ own = 5) → S.code = 0 → S.nest + B0 (Bu t a b) ≤ 30 → seg l S.i = Ah (Bu t a b) ++ rest → stops (own + 1) rest →
   ∃ n, l.length ≤ S.i + (Ah (Bu t a b)).length + n ∧ Cc l (ofL own) (pf l (fam l S.nest) (own + 1)) S = Eg l (ofL own) (pf l (fam l S.nest) (own + 1)) n (Bu t a b, adv S (Ah (Bu t a b)).length) := by
  intro S rest hl h0 hn hs hst
  rw [Ma, ← hown, show Cg own = own by unfold Cg; split <;> omega] at hs ⊢
  rw [Mb, ← hown, show Cg own = own by unfold Cg; split <;> omega] at hn
  have hs' : seg l S.i = Cv own a (Ah a) ++ (opTok t :: (Cv (own + 1) b (Ah b) ++ rest)) := by rw [hs]; simp
  have hna : S.nest + D7 own a (B0 a) ≤ 30 := by omega
  have hRA : ∃ n, l.length ≤ S.i + (Cv own a (Ah a)).length + n ∧ Cc l (ofL own) (pf l (fam l S.nest) (own + 1)) S = Eg l (ofL own) (pf l (fam l S.nest) (own + 1)) n (a, adv S (Cv own a (Ah a)).length) := by
   by_cases hla : own ≤ levE a
   ·have e1 : Cv own a (Ah a) = Ah a := if_pos hla
    have e2 : D7 own a (B0 a) = B0 a := if_pos hla
    rw [e1] at hs' ⊢
    rw [e2] at hna
    exact ha.2 own S _ hl hla h0 hna hs' (Qh ht (by omega))
   have e1 : Cv own a (Ah a) = Cv (own + 1) a (Ah a) := by unfold Cv; rw [if_neg hla, if_neg (by omega)]
   have e2 : D7 own a (B0 a) = D7 (own + 1) a (B0 a) := by unfold D7; rw [if_neg hla, if_neg (by omega)]
   rw [e1] at hs' ⊢
   rw [e2] at hna
   refine ⟨l.length, by omega, ?_⟩
   unfold Cc
   rw [N7 ha.1 (by omega) h0 hna hs' (Qh ht (by omega))]
  obtain ⟨n, hn1, hn2⟩ := hRA
  have s1 := Dp hs'
  have s1' : seg l (adv S (Cv own a (Ah a)).length).i = opTok t :: (Cv (own + 1) b (Ah b) ++ rest) := s1
  obtain ⟨_, tx, s2, i1⟩ := Bi s1'
  obtain ⟨m, rfl⟩ : ∃ m, n = m + 1 := ⟨n - 1, by have : S.i + (Cv own a (Ah a)).length < l.length := i1; omega⟩
  refine ⟨m, by simp only [List.length_append, List.length_cons]; omega, ?_⟩
  rw [hn2, Eg, if_pos (by
   show (((adv S (Cv own a (Ah a)).length).code == 0) && isM l (ofL own) (adv S (Cv own a (Ah a)).length)) = true
   rw [vz s1', Eb (Md hl), hoi]
   show ((S.code == 0) && _) = true
   rw [h0]
   simp)]
  have hk := N7 (l := l) (S := adv S ((Cv own a (Ah a)).length + 1)) hb (k := own + 1) (by omega) h0 (show S.nest + D7 (own + 1) b (B0 b) ≤ 30 by omega) s2 hst
  have e3 : A2 (adv S (Cv own a (Ah a)).length) = adv S ((Cv own a (Ah a)).length + 1) := by rw [Gg, Em]
  show Eg l (ofL own) _ m (Bu (A4 l (adv S (Cv own a (Ah a)).length).i).text a (pf l (fam l S.nest) (own + 1) (A2 (adv S (Cv own a (Ah a)).length))).1, (pf l (fam l S.nest) (own + 1) (A2 (adv S (Cv own a (Ah a)).length))).2) = _
  rw [e3, tx, show pf l (fam l S.nest) (own + 1) (adv S ((Cv own a (Ah a)).length + 1)) = _ from hk, Em]
  exact congrArg (fun n => Eg l (ofL own) (pf l (fam l S.nest) (own + 1)) m (Bu t a b, adv S n)) (by simp only [List.length_append, List.length_cons]; omega)
 refine iq hx ?_ ?_
 ·rw [Mc, ← hown]
  intro S rest h0 hn hs hst
  by_cases h3 : own = 3
  ·subst h3
   rw [Ma, ← hown] at hs ⊢
   rw [Mb, ← hown] at hn
   have e4 : Cg 3 = 4 := rfl
   rw [e4] at hs hn ⊢
   have hn4 : S.nest + max (D7 4 a (B0 a)) (D7 4 b (B0 b)) ≤ 30 := hn
   have hs' : seg l S.i = Cv 4 a (Ah a) ++ (opTok t :: (Cv 4 b (Ah b) ++ rest)) := by rw [hs]; simp
   have h1 : Bh l (fam l S.nest) S = (a, adv S (Cv 4 a (Ah a)).length) := N7 (k := 4) ha.1 (by omega) h0 (by omega) hs' (Qh ht (by omega))
   have s1 : seg l (adv S (Cv 4 a (Ah a)).length).i = opTok t :: (Cv 4 b (Ah b) ++ rest) := Dp hs'
   obtain ⟨_, tx, s2, i1⟩ := Bi s1
   have h2 : isM l Od (adv S (Cv 4 a (Ah a)).length) = true := by
    rw [vz s1, show Od = ofL 3 from rfl, Eb (by omega), hoi]
    rfl
   have h4 : Bh l (fam l S.nest) (adv S ((Cv 4 a (Ah a)).length + 1)) = _ := N7 (l := l) (S := adv S ((Cv 4 a (Ah a)).length + 1)) hb (k := 4) (by omega) h0 (show S.nest + D7 4 b (B0 b) ≤ 30 by omega) s2 (hst.mono (by omega))
   show Bo l (fam l S.nest) S = _
   unfold Bo
   rw [h1, if_neg (by rw [h2]; show ¬ (((S.code != 0) || _) = true); rw [h0]; decide), Gg, Em, h4, tx, Em]
   refine Prod.ext rfl ?_
   show adv S _ = adv S (Cv 4 a (Ah a) ++ opTok t :: Cv 4 b (Ah b)).length
   congr 1
   simp only [List.length_append, List.length_cons]
   omega
  have hl : own = 0 ∨ own = 1 ∨ own = 4 ∨ own = 5 := by omega
  obtain ⟨n, _, h⟩ := hB S rest hl h0 hn hs (hst.mono (by omega))
  rw [t7 hl, h]
  have hf : isM l (ofL own) (adv S (Ah (Bu t a b)).length) = false := H1 hst (Dp hs) (Md hl)
  cases n with
  | zero => rfl
  | succ n => rw [Eg, if_neg (by rw [hf]; simp)]
 rw [Mc, ← hown]
 exact hB
theorem ABv {l : List Tok} {a : Expr} (hx : C0 Bk (Bl 3 a) = true) (ha : T1 l a) : T1 l (Bl 3 a) ∧ T2 l (Bl 3 a) := by
 refine iq hx ?_ (fun S rest h => by rw [Ot] at h; omega)
 rw [Ot, Qe, X3]
 intro S rest h0 hn hs hst
 obtain ⟨_, _, s1, _⟩ := Bi hs
 show Gd l (fam l S.nest) S = _
 unfold Gd
 rw [if_neg (by rw [Cu hs, av]; decide)]
 have hk := N7 (l := l) (S := Al (A2 S)) ha (k := 6) (by omega) h0 (show S.nest + 1 + D7 6 a (B0 a) ≤ 30 by omega) s1 hst
 have hw : Am (A4 l S.i).at_ (fam l S.nest).ne (A2 S) = (a, adv (A2 S) (Cv 6 a (Ah a)).length) := by
  unfold Am
  rw [if_neg (by show ¬ (((S.nest : Int) == 30) = true); simp; omega), M8 (by omega)]
  show ((pf l (fam l (S.nest + 1)) 6 (Al (A2 S))).1, Do (pf l (fam l (S.nest + 1)) 6 (Al (A2 S))).2) = _
  rw [show pf l (fam l (S.nest + 1)) 6 (Al (A2 S)) = _ from hk]
  rfl
 rw [hw, Gg, Em]
 exact congrArg (fun n => (Bl 3 a, adv S n)) (by simp only [List.length_cons]; omega)
theorem ADn {l : List Tok} {a : Expr} (hx : C0 Bk (Bl 4 a) = true) (ha : T1 l a) : T1 l (Bl 4 a) ∧ T2 l (Bl 4 a) := by
 refine iq hx ?_ (fun S rest h => by rw [Uk] at h; omega)
 rw [Uk, Uj, cp]
 intro S rest h0 hn hs hst
 obtain ⟨_, _, s1, _⟩ := Bi hs
 show Ge l (fam l S.nest) S = _
 unfold Ge
 rw [if_neg (by rw [Cu hs, au]; decide)]
 have hk := N7 (l := l) (S := Al (A2 S)) ha (k := 2) (by omega) h0 (show S.nest + 1 + D7 2 a (B0 a) ≤ 30 by omega) s1 hst
 have hw : Am (A4 l S.i).at_ (fam l S.nest).no (A2 S) = (a, adv (A2 S) (Cv 2 a (Ah a)).length) := by
  unfold Am
  rw [if_neg (by show ¬ (((S.nest : Int) == 30) = true); simp; omega), M8 (by omega)]
  show ((pf l (fam l (S.nest + 1)) 2 (Al (A2 S))).1, Do (pf l (fam l (S.nest + 1)) 2 (Al (A2 S))).2) = _
  rw [show pf l (fam l (S.nest + 1)) 2 (Al (A2 S)) = _ from hk]
  rfl
 rw [hw, Gg, Em]
 exact congrArg (fun n => (Bl 4 a, adv S n)) (by simp only [List.length_cons]; omega)
theorem yg {l : List Tok} {t : Str} (hx : C0 Bk (D6 t) = true) : T1 l (D6 t) ∧ T2 l (D6 t) := by
 refine iq hx ?_ (fun S rest h => by rw [Qf] at h; omega)
 rw [Qf, N8]
 intro S rest h0 hn hs hst
 obtain ⟨k1, t1, s1, _⟩ := Bi (show seg l S.i = (1, t) :: rest from hs)
 show C9 l (fam l S.nest) S = _
 have e1 : isM l N5 S = false := by rw [Cu (show seg l S.i = (1, t) :: rest from hs)]; rfl
 have e2 : isM l opT (A2 S) = false := by
  cases rest with
  | nil => exact Uh s1
  | cons h r =>
   obtain ⟨k2, t2⟩ := h
   rw [Cu (show seg l (A2 S).i = (k2, t2) :: r from s1), mp]
   cases hb : ((k2 == 5) || (k2 == 2)) with
   | false => rfl
   | true =>
    have : t2 ≠ [40] := (hst _ _ rfl hb).2
    rw [Bool.true_and, beq_eq_false_iff_ne]
    exact this
 unfold C9
 rw [if_neg (by rw [h0]; decide), k1, e1, if_neg (by decide), if_neg (by decide), if_pos (by decide), e2, if_neg (by decide), t1]
 rfl
/-- Kids behind I3. -/
theorem mr {l : List Tok} {nst : Nat} {rest : List TK} (hst : stops 0 rest) (hc : ∀ h r, rest = h :: r → ax h [44] = false) : ∀ (ks : List Expr), (∀ y ∈ ks, T1 l y) → ∀ (acc : List Expr) (S : PS) (n : Nat), S.nest = nst → S.code = 0 → (∀ y ∈ ks, nst + B0 y ≤ 30) → seg l S.i = Fg (Dy ks) ++ rest → l.length ≤ S.i + n →
  argsF l (pf l (fam l nst) 0) n (acc, S) = (acc ++ ks, adv S (Fg (Dy ks)).length)
 | [], _, acc, S, n, hN, h0, _, hs, _ => by
  have hf : isM l Gm S = false := by
   have hs' : seg l S.i = rest := hs
   cases rest with
   | nil => exact Uh hs'
   | cons h r => obtain ⟨k2, t2⟩ := h; rw [Cu hs', X1]; exact hc _ _ rfl
  cases n with
  | zero => rw [argsF, List.append_nil]; rfl
  | succ n => rw [argsF, if_neg (by rw [hf]; simp), List.append_nil]; rfl
 | y :: ks, hT, acc, S, n, hN, h0, hnd, hs, hn => by
  have hs' : seg l S.i = (5, [44]) :: (Ah y ++ (Fg (Dy ks) ++ rest)) := by rw [hs]; simp [Dy, Fg]
  obtain ⟨_, _, s1, i1⟩ := Bi hs'
  obtain ⟨m, rfl⟩ : ∃ m, n = m + 1 := ⟨n - 1, by omega⟩
  have hy := hT y (by simp) 0 (A2 S) (Fg (Dy ks) ++ rest) (Nat.zero_le _) h0 (by have := hnd y (by simp); show S.nest + _ ≤ 30; omega) s1 (by
   cases ks with
   | nil => exact hst
   | cons z ks =>
    intro h r e _
    injection e with e _
    subst e
    exact ⟨by decide, by decide⟩)
  have hy' : pf l (fam l nst) 0 (A2 S) = (y, adv (A2 S) (Ah y).length) := by rw [← hN]; exact hy
  rw [argsF, if_pos (by
   show ((S.code == 0) && isM l Gm S) = true
   rw [h0, Cu hs', X1]
   decide)]
  show argsF l (pf l (fam l nst) 0) m (acc ++ [(pf l (fam l nst) 0 (A2 S)).1], (pf l (fam l nst) 0 (A2 S)).2) = _
  rw [hy']
  show argsF l (pf l (fam l nst) 0) m (acc ++ [y], adv (A2 S) (Ah y).length) = _
  rw [mr hst hc ks (fun z hz => hT z (by simp [hz])) (acc ++ [y]) (adv (A2 S) (Ah y).length) m hN h0 (fun z hz => hnd z (by simp [hz])) (Dp s1) (by show l.length ≤ S.i + 1 + (Ah y).length + m; omega)]
  rw [Gg, Em, Em, show acc ++ [y] ++ ks = acc ++ y :: ks by simp]
  exact congrArg (fun n => (acc ++ y :: ks, adv S n)) (by simp only [Dy, Fg, List.length_cons, List.length_append]; omega)
theorem ms (T : List TK) (r : List (List TK)) : (Fg (T :: r)).drop 1 = T ++ Fg r := rfl
theorem yh {l : List Tok} {t : Str} {k : List Expr} (hx : C0 Bk (.mk 6 t noV k) = true) (ha : B7 t = (k.length : Int)) (h1 : 1 ≤ k.length) (hT : ∀ y ∈ k, T1 l y) : T1 l (.mk 6 t noV k) ∧ T2 l (.mk 6 t noV k) := by
 refine iq hx ?_ (fun S rest h => by rw [Qg] at h; omega)
 rw [Qg, N9, Sq]
 intro S rest h0 hn hs hst
 match k, h1, ha, hT, hn, hs with
 | y :: ks, _, ha, hT, hn, hs =>
 rw [Dy, ms] at hs ⊢
 have hs' : seg l S.i = (1, t) :: ((5, [40]) :: (Ah y ++ (Fg (Dy ks) ++ ((5, [41]) :: rest)))) := by rw [hs]; simp
 obtain ⟨k1, t1, s1, i1⟩ := Bi hs'
 have s1' : seg l (A2 S).i = (5, [40]) :: (Ah y ++ (Fg (Dy ks) ++ ((5, [41]) :: rest))) := s1
 obtain ⟨k2, t2, s2, i2⟩ := Bi s1'
 have hmax := co (y :: ks)
 have hz : stops 0 (((5, [41]) : TK) :: rest) := fun h r e _ => by
  injection e with e _
  subst e
  exact ⟨by decide, by decide⟩
 have hy := hT y (by simp) 0 (Al (A2 (A2 S))) (Fg (Dy ks) ++ ((5, [41]) :: rest)) (Nat.zero_le _) h0 (by have := hmax y (by simp); show S.nest + 1 + _ ≤ 30; omega) s2 (by
  cases ks with
  | nil => exact hz
  | cons z ks =>
   intro h r e _
   injection e with e _
   subst e
   exact ⟨by decide, by decide⟩)
 have hy' : pf l (fam l (S.nest + 1)) 0 (Al (A2 (A2 S))) = (y, adv (Al (A2 (A2 S))) (Ah y).length) := hy
 have hargs := mr (l := l) (nst := S.nest + 1) hz (fun h r e => by
  injection e with e _
  subst e
  decide) ks (fun z hz => hT z (by simp [hz])) [y] (adv (Al (A2 (A2 S))) (Ah y).length) l.length rfl h0 (fun z hz => by have := hmax z (by simp [hz]); omega) (Dp s2) (by omega)
 have hk : Av l (fam l S.nest) (A2 S) = (y :: ks, adv (A2 (A2 S)) ((Ah y).length + (Fg (Dy ks)).length)) := by
  unfold Av F8
  rw [if_neg (by show ¬ (((S.nest : Int) == 30) = true); simp; omega), M8 (by omega)]
  unfold Ea
  show ((argsF l (pf l (fam l (S.nest + 1)) 0) l.length ([(pf l (fam l (S.nest + 1)) 0 (Al (A2 (A2 S)))).1], (pf l (fam l (S.nest + 1)) 0 (Al (A2 (A2 S)))).2)).1, Do (argsF l (pf l (fam l (S.nest + 1)) 0) l.length ([(pf l (fam l (S.nest + 1)) 0 (Al (A2 (A2 S)))).1], (pf l (fam l (S.nest + 1)) 0 (Al (A2 (A2 S)))).2)).2) = _
  rw [hy', hargs, Em]
  rfl
 have s3 := Dp (Dp s2)
 have hw : Ay l Aw (Av l (fam l S.nest) (A2 S)).2 = adv (A2 (A2 S)) ((Ah y).length + (Fg (Dy ks)).length + 1) := by
  rw [hk]
  have s3' : seg l (adv (A2 (A2 S)) ((Ah y).length + (Fg (Dy ks)).length)).i = (5, [41]) :: rest := by
   show seg l ((A2 S).i + 1 + ((Ah y).length + (Fg (Dy ks)).length)) = _
   rw [← Nat.add_assoc]
   exact s3
  obtain ⟨k3, t3, _, _⟩ := Bi s3'
  show Ay l Aw (adv (A2 (A2 S)) ((Ah y).length + (Fg (Dy ks)).length)) = _
  unfold Ay
  rw [if_neg (by show ¬ ((S.code != 0) = true); rw [h0]; decide), k3, t3, if_neg (by decide)]
  rfl
 have e1 : isM l N5 S = false := by rw [Cu hs']; rfl
 have e2 : isM l opT (A2 S) = true := by rw [Cu s1', mp]; decide
 show C9 l (fam l S.nest) S = _
 unfold C9
 rw [if_neg (by rw [h0]; decide), k1, e1, if_neg (by decide), if_neg (by decide), if_pos (by decide), if_pos e2]
 unfold Dx
 rw [t1, if_neg (by rw [ha]; omega), if_neg (by rw [hk, ha]; simp), hw, hk]
 refine Prod.ext rfl ?_
 show adv (A2 (A2 S)) ((Ah y).length + (Fg (Dy ks)).length + 1) = adv S _
 rw [Gg, Gg, Em, Em]
 congr 1
 simp only [List.length_cons, List.length_append, List.length_nil]
 omega
theorem cq : ∀ d, d < 10 → digs.contains (UInt8.ofNat (48 + d)) = true := by decide
theorem t8 : ∀ d, d < 10 → (UInt8.ofNat (48 + d)).toNat = 48 + d := by decide
theorem yi : ∀ d, d < 10 → 1 ≤ d → UInt8.ofNat (48 + d) ≠ 48 := by decide
theorem Qi {u : Nat} (h : ¬ u < 10) : Lib.decDigits u = Lib.decDigits (u / 10) ++ [UInt8.ofNat (48 + u % 10)] := by rw [Lib.decDigits, dif_neg h]
theorem Kl : ∀ (u : Nat), ∀ c ∈ Lib.decDigits u, digs.contains c = true := by
 intro u
 induction u using Nat.strongRecOn with
 | _ u ih =>
  intro c hc
  by_cases h : u < 10
  ·rw [Lib.decDigits_one h, List.mem_singleton] at hc
   subst hc
   exact cq u h
  rw [Qi h] at hc
  rcases List.mem_append.1 hc with hc | hc
  ·exact ih (u / 10) (by omega) c hc
  rw [List.mem_singleton.1 hc]
  exact cq _ (Nat.mod_lt _ (by decide))
theorem Js : ∀ (u : Nat), ∃ c r, Lib.decDigits u = c :: r ∧ (1 ≤ u → c ≠ 48) := by
 intro u
 induction u using Nat.strongRecOn with
 | _ u ih =>
  by_cases h : u < 10
  ·exact ⟨_, _, Lib.decDigits_one h, fun h1 => yi u h h1⟩
  obtain ⟨c, r, e, h1⟩ := ih (u / 10) (by omega)
  exact ⟨c, r ++ [UInt8.ofNat (48 + u % 10)], by rw [Qi h, e]; rfl, fun _ => h1 (by omega)⟩
theorem Kw (M : Nat) : ∀ (a : Str) (acc v : Nat) (b : Str), Lib.parseUintM M acc a = .ok v → Lib.parseUintM M acc (a ++ b) = Lib.parseUintM M v b
 | [], acc, v, b, h => by
  rw [Lib.parseUintM] at h
  injection h with h
  subst h
  rfl
 | c :: r, acc, v, b, h => by
  rw [List.cons_append, Lib.parseUintM]
  rw [Lib.parseUintM] at h
  split at h
  ·rename_i h1
   rw [if_pos h1]
   split at h
   ·cases h
   rename_i h2
   rw [if_neg h2]
   split at h
   ·cases h
   rename_i h3
   rw [if_neg h3]
   exact Kw M r _ v b h
  cases h
theorem ay {M : Nat} (hM : M ≤ 18446744073709551615) : ∀ (u : Nat), u ≤ M → Lib.parseUintM M 0 (Lib.decDigits u) = .ok u := by
 intro u
 induction u using Nat.strongRecOn with
 | _ u ih =>
  intro hu
  have one : ∀ acc d, d < 10 → acc ≤ 1844674407370955161 → acc * 10 + d ≤ M → Lib.parseUintM M acc [UInt8.ofNat (48 + d)] = .ok (acc * 10 + d) := fun acc d hd ha hm => by
   have e := t8 d hd
   rw [Lib.parseUintM, e, if_pos (by omega), if_neg (by omega), if_neg (by omega), Lib.parseUintM]
   congr 1
   omega
  by_cases h : u < 10
  ·rw [Lib.decDigits_one h, one 0 u h (by omega) (by omega)]
   congr 1
   omega
  rw [Qi h, Kw M _ 0 (u / 10) _ (ih (u / 10) (by omega) (by omega)), one (u / 10) (u % 10) (Nat.mod_lt _ (by decide)) (by omega) (by omega)]
  congr 1
  omega
theorem Hh : ∀ c : UInt8, digs.contains c = true → c ≠ 45 ∧ c ≠ 43 ∧ c ≠ 39 ∧ c ≠ 110 ∧ c ≠ 116 ∧ c ≠ 102 := by
 have h : ((List.range 256).all fun n => !digs.contains (UInt8.ofNat n) || decide (UInt8.ofNat n ≠ 45 ∧ UInt8.ofNat n ≠ 43 ∧ UInt8.ofNat n ≠ 39 ∧ UInt8.ofNat n ≠ 110 ∧ UInt8.ofNat n ≠ 116 ∧ UInt8.ofNat n ≠ 102)) = true := by kernel_rfl
 intro c hc
 have := List.all_eq_true.1 h c.toNat (List.mem_range.2 c.toNat_lt)
 rw [show UInt8.ofNat c.toNat = c by simp, hc] at this
 simpa using this
theorem tc (u : Nat) (h1 : u ≤ 9223372036854775807) : Ad (Lib.decDigits u) = ((u : Int), 0) := by
 obtain ⟨c, r, e, h0⟩ := Js u
 have hc : digs.contains c = true := Kl u c (by rw [e]; simp)
 obtain ⟨n45, n43, _⟩ := Hh c hc
 have hds : Ha (Lib.decDigits u) = Lib.decDigits u := by
  unfold Ha Lib.trimPrefix
  rw [if_neg]
  rw [e]
  unfold Lib.hasPrefix
  simp [Ne.symm n45]
 have hb : Cx (Lib.decDigits u) = false := by
  unfold Cx
  rw [hds]
  have a1 : (Lib.decDigits u == []) = false := by rw [e]; rfl
  have a2 : Lib.trimS (Lib.decDigits u) digs = [] := by
   unfold Lib.trimS Lib.trimRightS
   have : (Lib.decDigits u).reverse.dropWhile (fun x => digs.contains x) = [] := by
    rw [Zl]
    intro b hb
    exact Kl u b (by simpa using hb)
   rw [this]
   rfl
  have a3 : (((Lib.decDigits u).headD 0 == 48) && decide (1 < (Lib.decDigits u).length)) = false := by
   by_cases hu : u < 10
   ·rw [Lib.decDigits_one hu]; simp
   rw [e]
   have : (c == 48) = false := by simpa using h0 (by omega)
   simp [this]
  rw [a1, a2, a3]
  rfl
 have hp : Lib.parseIntB 64 (Lib.decDigits u) = .ok (u : Int) := by
  have hu : Lib.parseUintB 64 (Lib.decDigits u) = .ok u := by
   unfold Lib.parseUintB
   rw [if_neg (by rw [e]; simp)]
   exact AB0
  have n45' : c.toNat ≠ 45 := fun h => n45 (UInt8.toNat_inj.1 (by rw [h]; rfl))
  have n43' : c.toNat ≠ 43 := fun h => n43 (UInt8.toNat_inj.1 (by rw [h]; rfl))
  have e63 : (2 : Nat) ^ (64 - 1) = 9223372036854775808 := by decide
  rw [e] at hu ⊢
  simp only [Lib.parseIntB, n43', n45', or_self, if_false, hu, e63]
  simp
  omega
 unfold Ad
 rw [hb, hp]
 rfl
theorem X5 {n : Int} (h0 : 0 ≤ n) (h1 : n ≤ 9223372036854775807) : Bz (Lib.itoa n) = (⟨1, n, []⟩, 0) := by
 obtain ⟨u, rfl⟩ : ∃ u : Nat, n = (u : Int) := ⟨n.toNat, by omega⟩
 have e0 : Lib.itoa (u : Int) = Lib.decDigits u := by unfold Lib.itoa; rw [if_neg (by omega)]; simp
 rw [e0]
 obtain ⟨c, r, e, _⟩ := Js u
 have hc : digs.contains c = true := Kl u c (by rw [e]; simp)
 obtain ⟨_, _, n39, n110, n116, n102⟩ := Hh c hc
 unfold Bz
 have b1 : (Lib.decDigits u == [110, 117, 108, 108]) = false := by rw [e]; simp [n110]
 have b2 : (Lib.decDigits u == [116, 114, 117, 101]) = false := by rw [e]; simp [n116]
 have b3 : (Lib.decDigits u == [102, 97, 108, 115, 101]) = false := by rw [e]; simp [n102]
 have b4 : Fh (Lib.decDigits u) = false := by
  unfold Fh Lib.hasPrefix
  rw [e]
  simp [Ne.symm n39]
 rw [b1, b2, b3, b4, tc u (by omega)]
 rfl
/-- What is printed is read: of values. -/
theorem Qj {v : Val} (h : Bw v = true) (h2 : (v.kind == 2) = false) (h0 : 0 ≤ v.n) (h1 : v.n ≤ 9223372036854775807) : Bz (Br v) = (v, 0) := by
 obtain ⟨k, n, s⟩ := v
 unfold Br
 rw [h]
 unfold Bw at h
 simp only at h h2 h0 h1 ⊢
 by_cases e0 : k = 0
 ·subst e0
  simp at h
  obtain ⟨rfl, rfl⟩ := h
  kernel_rfl
 by_cases e1 : k = 1
 ·subst e1
  simp at h
  subst h
  simpa using X5 h0 h1
 have e2 : k ≠ 2 := by simpa using h2
 simp [e0, e1, e2] at h
 obtain ⟨⟨⟨rfl, rfl⟩, _⟩, h4⟩ := h
 have : n = 0 ∨ n = 1 := by omega
 rcases this with rfl | rfl
 ·rfl
 rfl
theorem ABw {l : List Tok} {v : Val} (hx : C0 Bk (Co v) = true) (hp : Bw v = true) (hv0 : 0 ≤ v.n) (hv1 : v.n ≤ 9223372036854775807) : T1 l (Co v) ∧ T2 l (Co v) := by
 refine iq hx ?_ (fun S rest h => by rw [Oq] at h; omega)
 rw [Oq, Qd]
 intro S rest h0 hn hs hst
 show C9 l (fam l S.nest) S = _
 unfold C9
 rw [if_neg (by rw [h0]; decide)]
 cases hk1 : v.kind == 1 with
 | true =>
  have e : Fp v = (3, Br v) := by unfold Fp; rw [hk1]; rfl
  rw [e] at hs
  obtain ⟨k1, t1, _, _⟩ := Bi (show seg l S.i = (3, Br v) :: rest from hs)
  have hk2 : (v.kind == 2) = false := by
   have : v.kind = 1 := by simpa using hk1
   rw [this]; rfl
  rw [k1, if_pos (by simp), t1, Qj hp hk2 hv0 hv1]
  rfl
 | false =>
  cases hk2 : v.kind == 2 with
  | true =>
   have e : Fp v = (4, v.s) := by unfold Fp; rw [hk1, hk2]; rfl
   rw [e] at hs
   have hs' : seg l S.i = (4, v.s) :: rest := hs
   obtain ⟨k1, t1, _, _⟩ := Bi hs'
   have e1 : isM l N5 S = false := by rw [Cu hs']; rfl
   rw [k1, e1, if_neg (by decide), if_pos (by decide), t1]
   have hv : v = ⟨2, 0, v.s⟩ ∧ v.s.length ≤ 200 := by
    rcases Hv hp with e | e | e | e | e
    ·rw [e] at hk2; cases hk2
    ·rw [e] at hk2; cases hk2
    ·exact e
    ·rw [e] at hk2; cases hk2
    rw [e] at hk2; cases hk2
   rw [List.take_of_length_le hv.2, ← hv.1]
   rfl
  | false =>
   have e : Fp v = (2, Br v) := by unfold Fp; rw [hk1, hk2]; rfl
   rw [e] at hs
   have hs' : seg l S.i = (2, Br v) :: rest := hs
   obtain ⟨k1, t1, _, _⟩ := Bi hs'
   have hw : Ct (Br v) N5 = true := by
    rw [aw]
    rcases Hv hp with e | e | e | e | e
    ·rw [e]; kernel_rfl
    ·rw [e] at hk1; cases hk1
    ·rw [e.1] at hk2; cases hk2
    ·rw [e]; kernel_rfl
    rw [e]; kernel_rfl
   have e1 : isM l N5 S = true := by rw [Cu hs', hw]; rfl
   rw [e1, if_pos (by simp), t1, Qj hp hk2 hv0 hv1]
   rfl
theorem Ss (t : Str) : B7 t = -1 ∨ 1 ≤ B7 t := by
 unfold B7
 cases h : arityList.find? (fun p => p.1 == t) with
 | none => exact .inl rfl
 | some p =>
  have hm := List.mem_of_find?_eq_some h
  have ha : (arityList.all fun p => decide (1 ≤ m4 p)) = true := by kernel_rfl
  exact .inr (of_decide_eq_true (List.all_eq_true.1 ha p hm))
theorem Qk (l : List Tok) : ∀ (n : Nat) (x : Expr), sizeE x ≤ n → C0 Bk x = true → C0 Dz x = true → T1 l x ∧ T2 l x
 | 0, x, hn, _, _ => by rw [E6] at hn; omega
 | n + 1, x, hn, hx, hr => by
  have hx0 := hx
  have hr0 := hr
  rw [Dk, Bool.and_eq_true] at hx0 hr0
  have ih : ∀ y ∈ x.kids, T1 l y ∧ T2 l y := fun y hy => Qk l n y (Sr hn hy) ((D3 _ _).1 hx0.2 y hy) ((D3 _ _).1 hr0.2 y hy)
  cases Fq hx0.1 with
  | val v hv h0 =>
   have := hr0.1
   unfold Dz at this
   simp only [Bool.and_eq_true, decide_eq_true_eq] at this
   exact ABw hx hv h0 this.2
  | name t ht => exact yg hx
  | neg a => exact ABv hx (ih a (by simp [Bl, Expr.kids])).1
  | no a => exact ADn hx (ih a (by simp [Bl, Expr.kids])).1
  | bin t a b ht => exact ABu ht hx (ih a (by simp [Bu, Expr.kids])) (ih b (by simp [Bu, Expr.kids])).1
  | call t k hk =>
   refine yh hx hk ?_ (fun y hy => (ih y hy).1)
   have := Ss t
   omega
/-! The parser from a word on, and of a source. -/
def atS (l : List Tok) (i : Nat) (r : Expr × PS) : PS := if r.2.code != 0 then r.2 else if decide ((30 : Int) < depthE r.1) then B4 18 (A4 l i).at_ r.2 else if decide ((300 : Int) < sizeE r.1) then B4 3 (A4 l i).at_ r.2 else r.2
def atR (l : List Tok) (i : Nat) : Expr × PS := In l (Ba l 30) ⟨i, 0, 0, 0⟩
/-- The tree, the word behind it, the fault. -/
def atM (l : List Tok) (i : Nat) : Expr × Int × Int × Int := if (atS l i (atR l i)).code != 0 then (Aj, 0, (atS l i (atR l i)).code, (atS l i (atR l i)).at_) else ((atR l i).1, ((atS l i (atR l i)).i : Int), 0, 0)
set_option maxRecDepth 4000
/-! The reference's parser of expressions: by levels. -/
def isR (l : List Tok) (s : Str) (S : PS) : Bool := (((A4 l S.i).kind == 5) || ((A4 l S.i).kind == 2)) && ((A4 l S.i).text == s)
def X6 (l : List Tok) (n : Nat) (S : PS) : Bool := (((A4 l S.i).kind == 5) || ((A4 l S.i).kind == 2)) && (Ak (A4 l S.i).text == (n : Int))
def inR (a : Int) (f : PS → Expr × PS) (S : PS) : Expr × PS := if (S.code != 0) || decide ((30 : Int) ≤ (S.nest : Int)) then (Aj, B4 18 a S) else ((f (Al S)).1, Do (f (Al S)).2)
def az : Str := [44]
def Jt : Str := [40]
def Ju : Str := [45]
def Su : Str := [116, 114, 117, 101]
def Na : Str := [102, 97, 108, 115, 101]
def Sv : Str := [110, 117, 108, 108]
def cr (l : List Tok) (a : Int) (f : PS → Expr × PS) (S : PS) : List Expr × PS := Ea l (inR a f) S
def Dc (l : List Tok) (f : PS → Expr × PS) (S : PS) : List Expr × PS := cr l (A4 l S.i).at_ f (A2 S)
def Dd (l : List Tok) (f : PS → Expr × PS) (t : Tok) (S : PS) : PS := if (((Dc l f S).1.length : Int) != Gn t.text) then B4 8 t.at_ (Ay l Aw (Dc l f S).2) else Ay l Aw (Dc l f S).2
def Iq (l : List Tok) (f : PS → Expr × PS) (t : Tok) (S : PS) : Expr × PS := (.mk 6 t.text noV (Dc l f S).1, Dd l f t S)
def Cp (l : List Tok) (f : PS → Expr × PS) (S : PS) : Expr × PS :=
  if (A4 l S.i).kind == 3 then (Co ⟨1, (Ad (A4 l S.i).text).1, []⟩, A2 S)
  else if (A4 l S.i).kind == 4 then (Co ⟨2, 0, (A4 l S.i).text⟩, A2 S)
  else if isR l Su S then (Co ⟨3, 1, []⟩, A2 S)
  else if isR l Na S then (Co ⟨3, 0, []⟩, A2 S)
  else if isR l Sv S then (Co noV, A2 S)
  else if isR l Jt S then ((inR (A4 l S.i).at_ f (A2 S)).1, Ay l Aw (inR (A4 l S.i).at_ f (A2 S)).2)
  else if (A4 l S.i).kind == 1 then
    (if !isR l Jt (A2 S) then (D6 (A4 l S.i).text, A2 S)
     else if decide (Gn (A4 l S.i).text < 0) then (Aj, B4 9 (A4 l S.i).at_ (A2 S)) else Iq l f (A4 l S.i) (A2 S))
  else (Aj, B4 8 (A4 l S.i).at_ S)
def Jv (l : List Tok) (n : Nat) (S : PS) : Bool := (((S.code == 0) && ((n : Int) != 2)) && ((n : Int) != 6)) && X6 l n S
def Hi (l : List Tok) (n : Nat) (f : PS → Expr × PS) : Nat → Expr × PS → Expr × PS
 | 0, r => r
 | m + 1, r => if Jv l n r.2 then (if (n : Int) == 3 then (Bu (A4 l r.2.i).text r.1 (f (A2 r.2)).1, (f (A2 r.2)).2) else Hi l n f m (Bu (A4 l r.2.i).text r.1 (f (A2 r.2)).1, (f (A2 r.2)).2)) else r
def lvS (l : List Tok) (D : Nat → PS → Expr × PS) (n : Nat) (f : PS → Expr × PS) (S : PS) : Expr × PS :=
 if S.code != 0 then (Aj, S)
 else if ((n : Int) == 2) && isR l Ip S then (Bl 4 (inR (A4 l S.i).at_ (D 2) (A2 S)).1, (inR (A4 l S.i).at_ (D 2) (A2 S)).2)
 else if ((n : Int) == 6) && isR l Ju S then (Bl 3 (inR (A4 l S.i).at_ (D 6) (A2 S)).1, (inR (A4 l S.i).at_ (D 6) (A2 S)).2)
 else if (n : Int) == 7 then Cp l (D 0) S
 else Hi l n f l.length (f S)
def lvK (l : List Tok) (D : Nat → PS → Expr × PS) : Nat → PS → Expr × PS
 | 0 => lvS l D 7 (fun S => (Aj, S))
 | k + 1 => lvS l D (6 - k) (lvK l D k)
def lvN (l : List Tok) (D : Nat → PS → Expr × PS) (n : Nat) : PS → Expr × PS := lvK l D (7 - n)
theorem Jw {l : List Tok} {D : Nat → PS → Expr × PS} {n : Nat} (h : n < 7) : lvN l D n = lvS l D n (lvN l D (n + 1)) := by
 unfold lvN
 obtain ⟨k, hk⟩ : ∃ k, 7 - n = k + 1 := ⟨6 - n, by omega⟩
 rw [hk, lvK, show 7 - (n + 1) = k by omega, show 6 - k = n by omega]
def Hj (l : List Tok) : Nat → Nat → PS → Expr × PS
 | 0 => fun _ S => (Aj, S)
 | d + 1 => lvN l (Hj l d)

/-! What is so of them. -/
theorem Jx {l : List Tok} {f : PS → Expr × PS} {n : Nat} (a : Int) (hf : n < 30 → Bb l (n + 1) f) : Bb l n (inR a f) := by
 intro S hi hn
 subst hn
 unfold inR
 split
 ·exact rh
 rename_i h
 have h30 : S.nest < 30 := by simp only [Bool.or_eq_true, decide_eq_true_eq, not_or] at h; omega
 have := hf h30 (Al S) hi rfl
 refine ⟨this.le, this.lt, ?_, this.ok, this.sz⟩
 show (f (Al S)).2.nest - 1 = S.nest
 rw [this.nest]
 rfl
theorem X7 {l : List Tok} {f : PS → Expr × PS} {S : PS} (hl : TokEnd l) (hi : (A2 S).i < l.length) (hf : S.nest < 30 → Bb l (S.nest + 1) f) : KFact l (A2 S) (Dc l f S) := Lb hl hi (Jx _ hf)
theorem b6 {l : List Tok} {f : PS → Expr × PS} {S : PS} (hl : TokEnd l) (hll : l.length ≤ 1048576) {t : Tok} (ht : t.text.length ≤ 1048576) (hi : (A2 S).i < l.length) (hf : S.nest < 30 → Bb l (S.nest + 1) f) : Fact l S (Iq l f t S) := by
 have hk := X7 hl hi hf
 have h1 : S.i + 1 ≤ (Dc l f S).2.i := hk.le
 obtain ⟨w1, w2, w3⟩ := Ol (s := Aw) hl hk.lt
 have e : (Dd l f t S).i = (Ay l Aw (Dc l f S).2).i ∧ (Dd l f t S).nest = (Ay l Aw (Dc l f S).2).nest := by
  unfold Dd
  split
  ·exact failM_i
  exact ⟨rfl, rfl⟩
 refine ⟨by show S.i ≤ (Dd l f t S).i; rw [e.1]; omega, by show (Dd l f t S).i < _; rw [e.1]; exact w2, by show (Dd l f t S).nest = _; rw [e.2]; exact w3.trans hk.nest, ?_, ?_⟩
 ·show okE (2 * ((Dd l f t S).i - S.i) + 1) _
  rw [e.1]
  refine ⟨ht, ?_, fun y hy => ?_⟩
  ·have h5 : (Dc l f S).1.length ≤ (Dc l f S).2.i - (A2 S).i + 1 := hk.len
   have h6 := hk.lt
   show (Dc l f S).1.length ≤ 1048576
   omega
  exact Db (by show 2 * ((Dc l f S).2.i - (S.i + 1)) + 1 ≤ _; omega) (hk.ok y hy)
 have s1 : Bg (Dc l f S).1 ≤ 2 * ((Dc l f S).2.i - (S.i + 1)) + 1 := hk.sz
 show sizeE (.mk 6 t.text noV (Dc l f S).1) ≤ 2 * ((Dd l f t S).i - S.i) + 1
 rw [sizeE, e.1]
 omega
theorem F9 {l : List Tok} {s : Str} {S : PS} (h : isR l s S = true) : (A4 l S.i).kind ≠ 0 := by
 unfold isR at h
 simp only [Bool.and_eq_true, Bool.or_eq_true, beq_iff_eq] at h
 omega
theorem mt {l : List Tok} {n : Nat} {S : PS} (h : Jv l n S = true) : (A4 l S.i).kind ≠ 0 := by
 unfold Jv X6 at h
 simp only [Bool.and_eq_true, Bool.or_eq_true, beq_iff_eq] at h
 omega
theorem Jy {l : List Tok} {f : PS → Expr × PS} {S : PS} (a : Int) (hl : TokEnd l) (hi : S.i < l.length) (hk : (A4 l S.i).kind ≠ 0) (hf : S.nest < 30 → Bb l (S.nest + 1) f) : Fact l (A2 S) (inR a f (A2 S)) := Jx a hf (A2 S) (hl.step hi hk) rfl
theorem b7 {l : List Tok} {f : PS → Expr × PS} {n : Nat} (hl : TokEnd l) (hll : l.length ≤ 1048576) (hf : n < 30 → Bb l (n + 1) f) : Bb l n (Cp l f) := by
 intro S hi hn
 subst hn
 have leaf : ∀ e : Expr, okE 1 e → sizeE e = 1 → (A4 l S.i).kind ≠ 0 → Fact l S (e, A2 S) := fun e he hs hk => ⟨Nat.le_succ _, hl.step hi hk, rfl, Db (by omega) he, by show sizeE e ≤ _; omega⟩
 have nz : ∀ {k : Int}, k ≠ 0 → ((A4 l S.i).kind == k) = true → (A4 l S.i).kind ≠ 0 := fun hk h => by rw [beq_iff_eq] at h; rw [h]; exact hk
 unfold Cp
 split
 ·rename_i h; exact leaf _ (Io (Nat.le_refl _) _) rfl (nz (by decide) h)
 split
 ·rename_i h; exact leaf _ (Io (Nat.le_refl _) _) rfl (nz (by decide) h)
 split
 ·rename_i h; exact leaf _ (Io (Nat.le_refl _) _) rfl (F9 h)
 split
 ·rename_i h; exact leaf _ (Io (Nat.le_refl _) _) rfl (F9 h)
 split
 ·rename_i h; exact leaf _ (Io (Nat.le_refl _) _) rfl (F9 h)
 split
 ·rename_i h
  have := Jy (A4 l S.i).at_ hl hi (F9 h) hf
  obtain ⟨w1, w2, w3⟩ := Ol (s := Aw) hl this.lt
  have h3 : S.i + 1 ≤ (inR (A4 l S.i).at_ f (A2 S)).2.i := this.le
  have h4 : sizeE (inR (A4 l S.i).at_ f (A2 S)).1 ≤ 2 * ((inR (A4 l S.i).at_ f (A2 S)).2.i - (S.i + 1)) + 1 := this.sz
  refine ⟨by show S.i ≤ (Ay l Aw _).i; omega, w2, w3.trans this.nest, Db ?_ this.ok, by show sizeE (inR (A4 l S.i).at_ f (A2 S)).1 ≤ 2 * ((Ay l Aw (inR (A4 l S.i).at_ f (A2 S)).2).i - S.i) + 1; omega⟩
  show 2 * ((inR (A4 l S.i).at_ f (A2 S)).2.i - (S.i + 1)) + 1 ≤ 2 * ((Ay l Aw (inR (A4 l S.i).at_ f (A2 S)).2).i - S.i) + 1
  omega
 split
 ·rename_i h
  have hk := nz (by decide) h
  have hi1 : (A2 S).i < l.length := hl.step hi hk
  split
  ·exact leaf _ (Wi _ (hl.text _)) rfl hk
  rename_i h2
  split
  ·exact M6 (S := A2 S) (S0 := S) (Nat.le_succ _) hi1 rfl 9 _
  have := b6 (S := A2 S) (f := f) hl hll (hl.text S.i) (hl.step hi1 (F9 (by simpa using h2))) hf
  have h3 : S.i + 1 ≤ (Iq l f (A4 l S.i) (A2 S)).2.i := this.le
  have h4 : sizeE (Iq l f (A4 l S.i) (A2 S)).1 ≤ 2 * ((Iq l f (A4 l S.i) (A2 S)).2.i - (S.i + 1)) + 1 := this.sz
  exact ⟨by omega, this.lt, this.nest, Db (by show 2 * ((Iq l f (A4 l S.i) (A2 S)).2.i - (S.i + 1)) + 1 ≤ _; omega) this.ok, by omega⟩
 exact rh
/-- A state of the loop of a level. -/
structure LoopAt (l : List Tok) (n : Nat) (f : PS → Expr × PS) (S : PS) (r : Expr × PS) : Prop where
 fact : Fact l S r
 eq : ∃ m, l.length ≤ r.2.i + m ∧ Hi l n f l.length (f S) = Hi l n f m r
theorem LoopAt.start {l : List Tok} {n : Nat} {f : PS → Expr × PS} {S : PS} (h : Fact l S (f S)) : LoopAt l n f S (f S) := ⟨h, l.length, by omega, rfl⟩
theorem LoopAt.on {l : List Tok} {n : Nat} {f : PS → Expr × PS} {S : PS} {r : Expr × PS} (hl : TokEnd l) (h : LoopAt l n f S r) (hc : Jv l n r.2 = true) (hf : Bb l S.nest f) : (A2 r.2).i < l.length ∧ Fact l (A2 r.2) (f (A2 r.2)) ∧ Fact l S (Bu (A4 l r.2.i).text r.1 (f (A2 r.2)).1, (f (A2 r.2)).2) ∧
  (((n : Int) == 3) = true → Hi l n f l.length (f S) = (Bu (A4 l r.2.i).text r.1 (f (A2 r.2)).1, (f (A2 r.2)).2)) ∧ (((n : Int) == 3) = false → LoopAt l n f S (Bu (A4 l r.2.i).text r.1 (f (A2 r.2)).1, (f (A2 r.2)).2)) := by
 have hi := hl.step h.fact.lt (mt hc)
 have hq := hf (A2 r.2) hi h.fact.nest
 obtain ⟨m, hm, e⟩ := h.eq
 have h1 := h.fact.lt
 have h2 : r.2.i + 1 ≤ (f (A2 r.2)).2.i := hq.le
 obtain ⟨m, rfl⟩ : ∃ k, m = k + 1 := ⟨m - 1, by omega⟩
 rw [Hi, if_pos hc] at e
 refine ⟨hi, hq, Om h.fact hq hl, fun h3 => by rw [e, if_pos h3], fun h3 => ⟨Om h.fact hq hl, m, by show l.length ≤ (f (A2 r.2)).2.i + m; omega, by rw [e, if_neg (by rw [h3]; simp)]⟩⟩
theorem LoopAt.out {l : List Tok} {n : Nat} {f : PS → Expr × PS} {S : PS} {r : Expr × PS} (h : LoopAt l n f S r) (hc : Jv l n r.2 = false) : Hi l n f l.length (f S) = r := by
 obtain ⟨m, hm, e⟩ := h.eq
 have h1 := h.fact.lt
 obtain ⟨m, rfl⟩ : ∃ k, m = k + 1 := ⟨m - 1, by omega⟩
 rw [e, Hi, if_neg (by rw [hc]; simp)]
theorem X8 {l : List Tok} {n : Nat} {f : PS → Expr × PS} {S : PS} (hl : TokEnd l) (hf : Bb l S.nest f) : ∀ (k : Nat) (r : Expr × PS), l.length - r.2.i ≤ k → LoopAt l n f S r → Fact l S (Hi l n f l.length (f S))
 | 0, r, hk, h => by have := h.fact.lt; omega
 | k + 1, r, hk, h => by
  cases hc : Jv l n r.2 with
  | false => rw [h.out hc]; exact h.fact
  | true =>
   obtain ⟨h1, h2, h3, h4, h5⟩ := h.on hl hc hf
   cases h6 : ((n : Int) == 3) with
   | true => rw [h4 h6]; exact h3
   | false =>
    have h7 : r.2.i + 1 ≤ (f (A2 r.2)).2.i := h2.le
    exact X8 hl hf k _ (by show l.length - (f (A2 r.2)).2.i ≤ k; have := h.fact.lt; omega) (h5 h6)
theorem X9 {l : List Tok} {D : Nat → PS → Expr × PS} {n k : Nat} {f : PS → Expr × PS} (hl : TokEnd l) (hll : l.length ≤ 1048576) (hD : k < 30 → ∀ n, Bb l (k + 1) (D n)) (hf : Bb l k f) : Bb l k (lvS l D n f) := by
 intro S hi hS
 have hk := hS
 subst hS
 unfold lvS
 split
 ·exact AAz
 split
 ·rename_i h
  exact On (Jy _ hl hi (F9 (Bool.and_eq_true_iff.1 h).2) fun h => hD h 2) 4
 split
 ·rename_i h
  exact On (Jy _ hl hi (F9 (Bool.and_eq_true_iff.1 h).2) fun h => hD h 6) 3
 split
 ·exact b7 hl hll (fun h => hD h 0) S hi rfl
 exact X8 hl hf l.length (f S) (by omega) (.start (hf S hi rfl))
theorem Sw {l : List Tok} {n : Nat} : Bb l n (fun S => (Aj, S)) := fun S hi hn => ⟨Nat.le_refl _, hi, hn ▸ rfl, Jr (by omega), by show sizeE Aj ≤ _; rw [La]; omega⟩
theorem Ql {l : List Tok} {D : Nat → PS → Expr × PS} {k : Nat} (hl : TokEnd l) (hll : l.length ≤ 1048576) (hD : k < 30 → ∀ n, Bb l (k + 1) (D n)) : ∀ j, Bb l k (lvK l D j)
 | 0 => X9 hl hll hD Sw
 | j + 1 => X9 hl hll hD (Ql hl hll hD j)
theorem Km {l : List Tok} (hl : TokEnd l) (hll : l.length ≤ 1048576) : ∀ (d n : Nat), n + d = 31 → n ≤ 30 → ∀ j, Bb l n (Hj l d j)
 | 0, n, h, h2 => by omega
 | d + 1, n, h, _ => fun j => Ql hl hll (fun h30 => Km hl hll d (n + 1) (by omega) (by omega)) (7 - j)
/-! What is printed of a schema is read. -/
/-! What went and came, taken back: the same columns. -/
set_option maxRecDepth 8000
/-! The words of a print. -/
/-- This text, before that one, is these words. -/
def Lx (u : Str) (T : List TK) (R : Str) : Prop := ∀ f q, (u ++ R).length < f → ∃ M : List Tok, M.map ktT = T ∧ Im f q (u ++ R) = M.map (fun t => (t, 0)) ++ Im f (q + u.length) R
theorem Lx.nil (R : Str) : Lx [] [] R := fun f q _ => ⟨[], rfl, by simp⟩
theorem Lx.app {u v : Str} {T V : List TK} {R : Str} (h1 : Lx u T (v ++ R)) (h2 : Lx v V R) : Lx (u ++ v) (T ++ V) R := fun f q hf => by
 obtain ⟨M, hM, e1⟩ := h1 f q (by simpa using hf)
 obtain ⟨N, hN, e2⟩ := h2 f (q + u.length) (by simp at hf ⊢; omega)
 refine ⟨M ++ N, by rw [List.map_append, hM, hN], ?_⟩
 rw [List.append_assoc, e1, e2, List.map_append, List.append_assoc, List.length_append, Nat.add_assoc]
theorem ir {f f' q : Nat} {s : Str} (h1 : s.length < f) (h2 : s.length < f') : Im f q s = Im f' q s := by
 have := Uc s
 unfold Im
 exact Nv f f' _ _ (by rw [List.length_drop]; omega) (by rw [List.length_drop]; omega)
theorem Lx.blank (R : Str) : Lx [32] [] R := fun f q _ => ⟨[], rfl, by simpa using ak f q R⟩
/-- One word, that starts at once. -/
theorem Lx.word {u R : Str} {k : Int} {t : Str} (hu : u ≠ []) (hb : blanks.contains (u.headD 0) = false) (h35 : u.headD 0 ≠ 35) (hw : Aq (u ++ R) = (k, t, (u.length : Int), 0)) : Lx u [(k, t)] R := fun f q hf => by
 cases u with
 | nil => exact absurd rfl hu
 | cons c v =>
  have hg : gapM (c :: v ++ R) = 0 := by
   unfold gapM
   rw [List.cons_append, Bm, if_neg (by rw [show (c :: v).headD 0 = c from rfl] at hb; rw [hb]; simp), if_neg (by rw [show (c :: v).headD 0 = c from rfl] at h35; simpa using h35)]
   simp
  cases f with
  | zero => omega
  | succ f =>
   refine ⟨[⟨k, t, q⟩], rfl, ?_⟩
   have hne : (c :: v ++ R == []) = false := rfl
   have e : Im (f + 1) q (c :: v ++ R) = (⟨k, t, q⟩, 0) :: Im f (q + (c :: v).length) R := by
    have hd : (c :: v ++ R).drop (c :: v).length = R := List.drop_left
    unfold Im
    rw [hg, List.drop_zero, Nat.add_zero, Cj, hne, if_neg (by simp), hw]
    simp only [beq_self_eq_true, if_true, Int.toNat_natCast, hd, Nat.add_zero]
   rw [e]
   show _ = [((⟨k, t, q⟩ : Tok), (0 : Int))] ++ _
   have hl : R.length < f := by simp at hf; omega
   rw [List.singleton_append, ir hl (show R.length < f + 1 by omega)]
/-- What may stand behind a tree, or a name. -/
def Dq (R : Str) : Prop := ∀ c r, R = c :: r → c = 32 ∨ c = 40 ∨ c = 41 ∨ c = 44 ∨ c = 59
theorem Xa {p : UInt8 → Bool} {u R : Str} (h : ∀ c ∈ u, p c = true) (hR : ∀ c r, R = c :: r → p c = false) : (u ++ R).takeWhile p = u := by
 induction u with
 | nil =>
  cases R with
  | nil => rfl
  | cons c r => rw [List.nil_append, List.takeWhile_cons, hR c r rfl]; rfl
 | cons a u ih =>
  rw [List.cons_append, List.takeWhile_cons, h a List.mem_cons_self, if_pos rfl, ih (fun c hc => h c (List.mem_cons_of_mem _ hc))]
theorem b8 {R : Str} (h : Dq R) : ∀ c r, R = c :: r → tails.contains c = false := fun c r e => by
 rcases h c r e with rfl | rfl | rfl | rfl | rfl <;> kernel_rfl
theorem iu {R : Str} (h : Dq R) : ∀ c r, R = c :: r → digs.contains c = false := fun c r e => by
 rcases h c r e with rfl | rfl | rfl | rfl | rfl <;> kernel_rfl
/-- A word of letters. -/
theorem Qm {u R : Str} (hl : letters.contains (u.headD 0) = true) (hu : u ≠ []) (ha : ∀ c ∈ u, tails.contains c = true) (hR : Dq R) : Aq (u ++ R) = if Bs u then (2, u, (u.length : Int), 0) else if !Ch u then (0, [], 0, 3) else (1, u, (u.length : Int), 0) := by
 have hw : Be (u ++ R) tails = u := by rw [Fo]; exact Xa ha (b8 hR)
 cases u with
 | nil => exact absurd rfl hu
 | cons c v =>
  have h1 : decide (0 < G9 ((c :: v ++ R).take 1) letters) = true := by
   have e : (c :: v ++ R).take 1 = [c] := rfl
   have e2 : Be [c] letters = [c] := by rw [Fo, List.takeWhile_cons, show letters.contains c = true from hl]; rfl
   have e3 := Lt [c] letters
   have e4 : runN [c] letters = 1 := by
    have : (Be [c] letters).length = 1 := by rw [e2]; rfl
    unfold Be at this
    rw [List.length_take] at this
    have hle : runN [c] letters ≤ 1 := Nat.sub_le _ _
    simp at this
    omega
   rw [e, e3, e4]
   rfl
  unfold Aq
  rw [if_pos h1]
  unfold Hb
  rw [hw]
theorem b9 : (letters.all fun c => !(blanks.contains c) && !(c == 35) && !(c == 39) && !(c == 61)) = true := by kernel_rfl
theorem Me {c : UInt8} (h : letters.contains c = true) : blanks.contains c = false := by
 have := List.all_eq_true.1 b9 c (by simpa using h)
 simp only [Bool.and_eq_true, Bool.not_eq_true'] at this
 exact this.1.1.1
theorem Ul {t R : Str} (h : Gq t = true) (hR : Dq R) : Lx t [(1, t)] R := by
 have h0 := h
 rw [Pm] at h
 simp only [Bool.and_eq_true, Bool.not_eq_true', Bool.or_eq_false_iff, beq_eq_false_iff_ne, decide_eq_false_iff_not, Bool.not_eq_false] at h
 obtain ⟨⟨⟨⟨h1, h2⟩, h3⟩, h4⟩, h5⟩ := h
 have hu : t ≠ [] := by rintro rfl; simp at h1
 have hl : letters.contains (t.headD 0) = true := by rw [Ly]; simpa using h3
 have hr : Bs t = false := by
  have := E8 t
  rw [h0] at this
  unfold Ch at this
  simp only [Bool.and_eq_true, Bool.not_eq_true'] at this
  exact this.2
 refine Lx.word hu ?_ ?_ ?_
 ·exact Me hl
 ·intro e; rw [e] at hl; revert hl; decide
 rw [Qm hl hu (fun c hc => by rw [Q0]; exact List.all_eq_true.1 h5 c hc) hR, hr, E8, h0]
 rfl
theorem Hw (c : UInt8) (of : Str) : G9 [c] of = if of.contains c then 1 else 0 := by
 have e2 := Fo [c] of
 have e3 := Lt [c] of
 have hle : runN [c] of ≤ 1 := Nat.sub_le _ _
 have hlen : (Be [c] of).length = runN [c] of := by unfold Be; rw [List.length_take]; simp; omega
 rw [e3, ← hlen, e2, List.takeWhile_cons]
 cases of.contains c <;> rfl
/-- A word that no letter begins, and no digit. -/
theorem Sx {c : UInt8} {R : Str} (hl : letters.contains c = false) (hd : digs.contains c = false) (h39 : c ≠ 39) : Aq (c :: R) = Hc (c :: R) := by
 have h1 : ¬ (decide (0 < G9 ((c :: R).take 1) letters) = true) := by
  rw [show (c :: R).take 1 = [c] from rfl, Hw, hl]; simp
 have h2 : ¬ (decide (0 < G9 ((c :: R).take 1) digs) = true) := by
  rw [show (c :: R).take 1 = [c] from rfl, Hw, hd]; simp
 have h3 : ¬ (((((c :: R).getD 0 0).toNat : Int) == 39) = true) := by
  rw [show (c :: R).getD 0 0 = c from rfl, beq_iff_eq]
  intro h
  exact h39 (UInt8.toNat_inj.1 (by rw [show (39 : UInt8).toNat = 39 from rfl]; omega))
 unfold Aq
 rw [if_neg h1, if_neg h2, if_neg h3]
/-- A mark of one sign. -/
theorem Ir {c : UInt8} {R : Str} (hc : (!(letters.contains c) && !(digs.contains c) && !(c == 39) && !(blanks.contains c) && !(c == 35) && Lib.contains singles [c]) = true) (hR : ∀ d r, R = d :: r → d ≠ 61) : Lx [c] [(5, [c])] R := by
 simp only [Bool.and_eq_true, Bool.not_eq_true', beq_eq_false_iff_ne] at hc
 obtain ⟨⟨⟨⟨⟨h1, h2⟩, h3⟩, h4⟩, h5⟩, h6⟩ := hc
 refine Lx.word (by simp) h4 h5 ?_
 rw [List.singleton_append, Sx h1 h2 h3]
 have hx : (((((c :: R).getD 1 0).toNat : Int) == 61)) = false := by
  cases R with
  | nil => rfl
  | cons d r =>
   rw [show (c :: d :: r).getD 1 0 = d from rfl, beq_eq_false_iff_ne]
   intro h
   exact hR d r rfl (UInt8.toNat_inj.1 (by rw [show (61 : UInt8).toNat = 61 from rfl]; omega))
 unfold Hc
 rw [hx, Bool.and_false, if_neg (by simp), if_pos (by rw [show (c :: R).take 1 = [c] from rfl]; exact h6)]
 rfl
/-- A mark of two signs. -/
theorem Um {c : UInt8} {R : Str} (hc : (!(letters.contains c) && !(digs.contains c) && !(c == 39) && !(blanks.contains c) && !(c == 35) && Lib.contains Kg [c, 61]) = true) : Lx [c, 61] [(5, [c, 61])] R := by
 simp only [Bool.and_eq_true, Bool.not_eq_true', beq_eq_false_iff_ne] at hc
 obtain ⟨⟨⟨⟨⟨h1, h2⟩, h3⟩, h4⟩, h5⟩, h6⟩ := hc
 refine Lx.word (by simp) h4 h5 ?_
 rw [show [c, 61] ++ R = c :: 61 :: R from rfl, Sx h1 h2 h3]
 unfold Hc
 have hl : decide ((1 : Int) < ((c :: 61 :: R).length : Int)) = true := by simp; omega
 rw [if_pos (by rw [hl, show (c :: 61 :: R).take 2 = [c, 61] from rfl, h6]; rfl)]
 rfl
/-- A reserved word. -/
theorem Un {u R : Str} (hu : (!(u == []) && letters.contains (u.headD 0) && (u.all fun c => tails.contains c) && Bs u) = true) (hR : Dq R) : Lx u [(2, u)] R := by
 simp only [Bool.and_eq_true, Bool.not_eq_true', beq_eq_false_iff_ne] at hu
 obtain ⟨⟨⟨h1, h2⟩, h3⟩, h4⟩ := hu
 refine Lx.word h1 (Me h2) (fun e => by rw [e] at h2; revert h2; decide) ?_
 rw [Qm h2 h1 (fun c hc => List.all_eq_true.1 h3 c hc) hR, h4]
 rfl
/-- A number. -/
theorem w4 {n : Int} (h0 : 0 ≤ n) (h1 : n ≤ 9223372036854775807) {R : Str} (hR : Dq R) : Lx (Lib.itoa n) [(3, Lib.itoa n)] R := by
 obtain ⟨u, rfl⟩ : ∃ u : Nat, n = (u : Int) := ⟨n.toNat, by omega⟩
 have e0 : Lib.itoa (u : Int) = Lib.decDigits u := by unfold Lib.itoa; rw [if_neg (by omega)]; simp
 have hr := X5 h0 h1
 rw [e0] at hr ⊢
 obtain ⟨c, r, hcr, _⟩ := Js u
 have hall := Kl u
 have hcd : digs.contains c = true := hall c (by rw [hcr]; exact List.mem_cons_self)
 have hda : (digs.all fun c => !(letters.contains c) && !(blanks.contains c) && !(c == 35)) = true := by kernel_rfl
 have hc := List.all_eq_true.1 hda c (by simpa using hcd)
 simp only [Bool.and_eq_true, Bool.not_eq_true', beq_eq_false_iff_ne] at hc
 have hw : Be (Lib.decDigits u ++ R) digs = Lib.decDigits u := by rw [Fo]; exact Xa hall (iu hR)
 refine Lx.word (by rw [hcr]; simp) (by rw [hcr]; exact hc.1.2) (by rw [hcr]; exact hc.2) ?_
 have h1' : ¬ (decide (0 < G9 ((Lib.decDigits u ++ R).take 1) letters) = true) := by
  rw [hcr, show (c :: r ++ R).take 1 = [c] from rfl, Hw, hc.1.1]; simp
 have h2' : decide (0 < G9 ((Lib.decDigits u ++ R).take 1) digs) = true := by
  rw [hcr, show (c :: r ++ R).take 1 = [c] from rfl, Hw, hcd]; simp
 unfold Aq
 rw [if_neg h1', if_pos h2']
 unfold Ii
 rw [hw, hr]
/-! The signs have as many as the nodes have kids. -/
/-! More columns. -/
/-! A tree in a column's place. -/
set_option maxRecDepth 4000
theorem ct {n : Nat} {U F : Nat → List AObj} {H' : List AObj} (h : Ia (fun _ => true) U F n H') : H' = U n := by
 rcases h with ⟨_, h⟩ | ⟨j, _, _, h, _⟩
 ·exact h
 cases h
theorem iv {α : Type} {l : List α} {k : Nat} {y : α} (h : l[k]? = some y) : l.take (k + 1) = l.take k ++ [y] := by rw [List.take_add_one, h]; rfl
theorem mu {L : List (Int × Expr)} {k : Nat} {it : Int × Expr} (h : L[k]? = some it) : Df 0 (L.take (k + 1)) = if Df 0 (L.take k) < it.1 then it.1 else Df 0 (L.take k) := by
 have e : Df 0 (L.take (k + 1)) = max (Df 0 (L.take k)) it.1 := by
  unfold Df
  rw [iv h, List.foldl_append]
  rfl
 rw [e]
 split <;> omega
theorem Sy {n k : Nat} {o : Bool} {l : List Str} : Low n (.slice o k (l.map A7)) := by simp [or_imp, forall_and]
theorem c81 (n : Nat) (e : Expr) (hok : okE n e) (hn : n ≤ 1048576) (hs : sizeE e ≤ 1048576) (Hp : List AObj) : AFun Tryz.prog 81 [Af e] Hp (A3 (depthE e : Nat)) := by
 refine ACall.body [.tmp 2] [0, 4] Tryz.func81 Tryz.ntmps81 (fun d => ?_)
 refine Z47 ?_;refine l4 ?_;refine B9 ?_;refine Z10 ?_;refine R.fin [1, 3, 4] ?_;refine Z29 ?_
 refine R.assumeLow (fun hlow => ?_)
 refine xl ?_;refine R.fin [3, 4, 6] ?_;refine AW.block ?_
 refine W.rangeV (m := 1) Tryz.call97 (fun FR as' bd' hFR has hbd => ?_)
 have hFRl : ∀ s, Low (Hp.length + 3) (FR s) := by
  intro s
  rw [hFR]
  refine Low.strip ?_
  revert s
  repeat (first | exact F4 | refine F3 (by simp [oid, Ag] <;> try omega) ?_)
 have hOl : ∀ {k : Nat}, ∀ x ∈ [AObj.cells 3 [A3 (Df 0 ((Az 1 e).take k))], AObj.defs, AObj.loop LoopState.ready none FR 13 #[7, 8] as' bd' (oid Hp.length 1)], ObjLow (Hp.length + 3) x := by
  intro k x hx
  simp only [List.mem_cons, List.mem_nil_iff, or_false] at hx
  rcases hx with rfl | rfl | rfl
  ·intro y hy
   rw [List.mem_singleton.1 hy]
   first | exact Sy | simp
  ·trivial
  exact rg
 refine ⟨fun _ H' => Ia (fun _ => true) (fun k => Hp ++ [AObj.cells 3 [A3 (Df 0 ((Az 1 e).take k))], AObj.defs, AObj.loop LoopState.ready none FR 13 #[7, 8] as' bd' (oid Hp.length 1)]) (fun k => Hp ++ [AObj.cells 3 [A3 (Df 0 ((Az 1 e).take k))], AObj.defs, AObj.loop LoopState.ready none FR 13 #[7, 8] as' bd' (oid Hp.length 1)]) (Az 1 e).length H', c97 (l := oid Hp.length 2) (go := fun _ => true) (U := fun k => Hp ++ [AObj.cells 3 [A3 (Df 0 ((Az 1 e).take k))], AObj.defs, AObj.loop LoopState.ready none FR 13 #[7, 8] as' bd' (oid Hp.length 1)]) (F := fun k => Hp ++ [AObj.cells 3 [A3 (Df 0 ((Az 1 e).take k))], AObj.defs, AObj.loop LoopState.ready none FR 13 #[7, 8] as' bd' (oid Hp.length 1)]) (n0 := Hp.length + 3) ⟨fun k => by simp, fun k => by simp, fun k x hx => ?_, fun k x hx => ?_, by simp [oid], fun X k it hit hgo => ?_⟩ n hok hn, ?_⟩
 ·exact lp
 ·exact lp
 ·have hklt : k < sizeE e := by rw [← E9 1 e]; exact (List.getElem?_eq_some_iff.1 hit).1
  generalize hV : (Hp ++ [AObj.cells 3 [A3 (Df 0 ((Az 1 e).take k))], AObj.defs, AObj.loop LoopState.ready none FR 13 #[7, 8] as' bd' (oid Hp.length 1)] ++ X) = V
  have hL : V[oid Hp.length 2]? = some (AObj.loop LoopState.ready none FR 13 #[7, 8] as' bd' (oid Hp.length 1)) := by rw [← hV, List.append_assoc, Ap]; rfl
  have hA0 : V[oid Hp.length 0]? = some (AObj.cells 3 [A3 (Df 0 ((Az 1 e).take k))]) := by rw [← hV, List.append_assoc, Ap]; rfl
  refine AYield.ofRound (pd := none) (fr := FR) (sz := 13) (ps := #[7, 8]) (df := oid Hp.length 1) (asg := as') (bd := bd') hL rfl (by decide) (fun d => ?_)
  subst hFR has hbd
  refine W.keep [3, 7, 8] ?_;refine Yw ?_;refine R.fin [3, 4] ?_
  refine ⟨rfl, none, hL, ?_⟩
  generalize hbz : (AObj.loop LoopState.busy _ _ _ _ _ _ _) = bz
  have hA : (V.set (oid Hp.length 2) bz)[oid Hp.length 0]? = some (AObj.cells 3 [A3 (Df 0 ((Az 1 e).take k))]) := by rw [List.getElem?_set_ne (Ef (by decide))]; exact hA0
  refine AW.block ?_;refine H8 ?_;refine R.loadUp jA hA ?_;refine C3 ?_;refine R.maxI ?_
  refine R.storeUp jS hA ?_ ?_
  ·simp
  refine R.fin [] ?_;refine K.blN ?_
  subst hbz
  refine K.rdN (Vm hL (Ef (by decide))) ?_
  refine ⟨rfl, ?_⟩
  rw [if_pos rfl]
  subst hV
  simp only [List.append_assoc, Ed, List.cons_append, List.nil_append, List.set_cons_succ, List.set_cons_zero]
  rw [mu hit]
 intro r H' hq
 obtain rfl := ct hq
 refine ⟨Hp, _, _, _, rfl, rfl, fun h => h, ?_, rfl, by simp, ?_⟩
 ·intro o ho
  have : o = oid Hp.length 1 := by simpa using ho
  subst this
  rw [Ap]
  rfl
 refine Z19 ?_;refine B9 ?_;refine Kq ?_;refine Z97 ?_;exact K.fin (V.one V.tmp) ⟨by rw [List.take_length, Nu], rfl⟩

theorem c83 (n : Nat) (e : Expr) (hok : okE n e) (hn : n ≤ 1048576) (hs : sizeE e ≤ 1048576) (Hp : List AObj) : AFun Tryz.prog 83 [Af e] Hp (A3 (sizeE e : Nat)) := by
 refine ACall.body [.tmp 2] [0] Tryz.func83 Tryz.ntmps83 (fun d => ?_)
 refine lj ?_;refine Z10 ?_;refine R.fin [1, 3] ?_;refine Z29 ?_
 refine R.assumeLow (fun hlow => ?_)
 refine xl ?_;refine R.fin [3, 5] ?_;refine AW.block ?_
 refine W.rangeV (m := 1) Tryz.call97 (fun FR as' bd' hFR has hbd => ?_)
 have hFRl : ∀ s, Low (Hp.length + 3) (FR s) := by
  intro s
  rw [hFR]
  refine Low.strip ?_
  revert s
  repeat (first | exact F4 | refine F3 (by simp [oid, Ag] <;> try omega) ?_)
 have hOl : ∀ {k : Nat}, ∀ x ∈ [AObj.cells 3 [A3 ((k : Nat))], AObj.defs, AObj.loop LoopState.ready none FR 11 #[6, 7] as' bd' (oid Hp.length 1)], ObjLow (Hp.length + 3) x := by
  intro k x hx
  simp only [List.mem_cons, List.mem_nil_iff, or_false] at hx
  rcases hx with rfl | rfl | rfl
  ·intro y hy
   rw [List.mem_singleton.1 hy]
   first | exact Sy | simp
  ·trivial
  exact rg
 refine ⟨fun _ H' => Ia (fun _ => true) (fun k => Hp ++ [AObj.cells 3 [A3 ((k : Nat))], AObj.defs, AObj.loop LoopState.ready none FR 11 #[6, 7] as' bd' (oid Hp.length 1)]) (fun k => Hp ++ [AObj.cells 3 [A3 ((k : Nat))], AObj.defs, AObj.loop LoopState.ready none FR 11 #[6, 7] as' bd' (oid Hp.length 1)]) (Az 1 e).length H', c97 (l := oid Hp.length 2) (go := fun _ => true) (U := fun k => Hp ++ [AObj.cells 3 [A3 ((k : Nat))], AObj.defs, AObj.loop LoopState.ready none FR 11 #[6, 7] as' bd' (oid Hp.length 1)]) (F := fun k => Hp ++ [AObj.cells 3 [A3 ((k : Nat))], AObj.defs, AObj.loop LoopState.ready none FR 11 #[6, 7] as' bd' (oid Hp.length 1)]) (n0 := Hp.length + 3) ⟨fun k => by simp, fun k => by simp, fun k x hx => ?_, fun k x hx => ?_, by simp [oid], fun X k it hit hgo => ?_⟩ n hok hn, ?_⟩
 ·exact lp
 ·exact lp
 ·have hklt : k < sizeE e := by rw [← E9 1 e]; exact (List.getElem?_eq_some_iff.1 hit).1
  generalize hV : (Hp ++ [AObj.cells 3 [A3 ((k : Nat))], AObj.defs, AObj.loop LoopState.ready none FR 11 #[6, 7] as' bd' (oid Hp.length 1)] ++ X) = V
  have hL : V[oid Hp.length 2]? = some (AObj.loop LoopState.ready none FR 11 #[6, 7] as' bd' (oid Hp.length 1)) := by rw [← hV, List.append_assoc, Ap]; rfl
  have hA0 : V[oid Hp.length 0]? = some (AObj.cells 3 [A3 ((k : Nat))]) := by rw [← hV, List.append_assoc, Ap]; rfl
  refine AYield.ofRound (pd := none) (fr := FR) (sz := 11) (ps := #[6, 7]) (df := oid Hp.length 1) (asg := as') (bd := bd') hL rfl (by decide) (fun d => ?_)
  subst hFR has hbd
  refine W.keep [3, 6, 7] ?_;refine AW.skip ?_
  refine ⟨rfl, none, hL, ?_⟩
  generalize hbz : (AObj.loop LoopState.busy _ _ _ _ _ _ _) = bz
  have hA : (V.set (oid Hp.length 2) bz)[oid Hp.length 0]? = some (AObj.cells 3 [A3 ((k : Nat))]) := by rw [List.getElem?_set_ne (Ef (by decide))]; exact hA0
  refine AW.block ?_;refine H8 ?_;refine R.loadUp jA hA ?_;refine R.add64 ?_
  refine R.storeUp jS hA ?_ ?_
  ·simp
  refine R.fin [] ?_;refine K.blN ?_
  subst hbz
  refine K.rdN (Vm hL (Ef (by decide))) ?_
  refine ⟨rfl, ?_⟩
  rw [if_pos rfl]
  subst hV
  simp only [List.append_assoc, Ed, List.cons_append, List.nil_append, List.set_cons_succ, List.set_cons_zero]
  rfl
 intro r H' hq
 obtain rfl := ct hq
 refine ⟨Hp, _, _, _, rfl, rfl, fun h => h, ?_, rfl, by simp, ?_⟩
 ·intro o ho
  have : o = oid Hp.length 1 := by simpa using ho
  subst this
  rw [Ap]
  rfl
 refine Z19 ?_;refine B9 ?_;refine Kq ?_;refine Z97 ?_;exact K.fin (V.one V.tmp) ⟨by rw [E9], rfl⟩

theorem Xb {l : List Tok} (hl : TokEnd l) (hll : l.length ≤ 1048576) {i : Nat} (hi : i < l.length) : Fact l ⟨i, 0, 0, 0⟩ (atR l i) := (Kk hl hll 31 0 rfl (by decide)).1 ⟨i, 0, 0, 0⟩ hi rfl
theorem yj {l : List Tok} {i : Nat} (hi : i < l.length) (hl : TokEnd l) (hll : l.length ≤ 1048576) (hcl : ∀ n Dv, n ≤ 30 → DeepC l Dv n → Wy l Dv n) (o : Nat) (Hp : List AObj) (ho : Hp[o]? = some (pr l ⟨i, 0, 0, 0⟩)) : ACall Tryz.prog 80 [.ptr o 0] Hp (fun r H' => r = Af (atR l i).1 ∧ H' = Hp.set o (pr l (atR l i).2)) := (Wz hl hll hcl 31 0 rfl (by decide)).1 o Hp ⟨i, 0, 0, 0⟩ ho hi rfl
theorem Xc {l : List Tok} (hl : TokEnd l) : (A4 l (l.length - 1)).kind = 0 := by
 obtain ⟨L, z, rfl, hz, _⟩ := hl.split
 unfold A4
 simp [hz]
theorem c49 (l : List Tok) (i : Nat) (hi : i < l.length) (hl : TokEnd l) (hll : l.length ≤ 500000) (hcl : ∀ n Dv, n ≤ 30 → DeepC l Dv n → Wy l Dv n) (Hp : List AObj) : AFun Tryz.prog 49 [Np l, A3 (i : Int)] Hp (.tup [Af (atM l i).1, A3 (atM l i).2.1, .agg [A3 (atM l i).2.2.1, A3 (atM l i).2.2.2]]) := by
 have hmap : (l.map D0).length = l.length := List.length_map ..
 have hll1 : l.length ≤ 1048576 := by omega
 have hq := Xb hl hll1 hi
 have hlast := Xc hl
 have hpos := hl.pos
 have hqlt := hq.lt
 have hqs := hq.sz
 have hok0 : okE 1048576 (atR l i).1 := Db (by have := hq.lt; omega) hq.ok
 have hsz0 : sizeE (atR l i).1 ≤ 1048576 := by have := hq.sz; have := hq.lt; omega
 refine ACall.body [.cell 4 28, .tmp 5, .cell 6 33] [0, 1] Tryz.func49 Tryz.ntmps49 (fun d => ?_)
 refine Z28 ?_;refine B3 ?_;refine J4 ?_;refine R.fin [0, 1, 4, 6] ?_;refine Pg ?_;refine Pd ?_;refine G.len jU ?_;refine G.geq ?_;refine H7 ?_;refine Pd ?_;refine G.len jU ?_;refine G.sub64 ?_;refine G.indexAddr ((l.length - 1)) (D0 (A4 l (l.length - 1))) jU jS (fun _ => Fm (by omega)) ?_;refine Z92 ?_;refine G.neq ?_;refine H7 ?_;refine R.fin [0, 1, 4, 6, 26] ?_
 refine W.cond (fun ht26 => ?_) (fun ht26 => ?_)
 ·simp only [Bool.or_eq_true, decide_eq_true_eq, bne_iff_ne, ne_eq] at ht26
  rcases ht26 with (h | h) | h
  ·omega
  ·simp at h; omega
  exact absurd hlast h
 refine Zh ?_;refine AAj ?_;refine B3 ?_;refine R.fin [0, 1, 4, 6, 7] ?_;refine Z0 ?_
 refine R.callOwn (n := 2) (x := pr l (atR l i).2) Tryz.call80 (yj hi hl hll1 hcl (oid Hp.length 2) _ (by rw [Ap]; rfl)) ?_
 refine Z10 ?_;refine R.fin [0, 1, 4, 6, 7, 8] ?_
 refine W.join ⟨81, A5 4 (.ptr (oid Hp.length 0) 0) (A5 6 (.ptr (oid Hp.length 1) 0) (A5 7 (.ptr (oid Hp.length 2) 0) (A5 8 (.ptr (oid Hp.length 3) 0) (fun _ => .any)))), Hp, [.cells 28 [A3 0, A7 [], A3 0, A3 0, A7 [], .nil], .cells 33 [A3 0, A3 0], pr l (atS l i (atR l i)), .cells 28 (Cw (atR l i).1)], [], none⟩ ?_ ?_
 ·refine AW.block ?_;refine Z0 ?_;refine Z85 ?_;refine Yt ?_;refine B3 ?_;refine R.fin [0, 1, 4, 6, 7, 8, 35] ?_
  refine W.cond (fun ht35 => ?_) (fun ht35 => ?_)
  ·have e : atS l i (atR l i) = (atR l i).2 := if_pos ht35
   refine W.keep [4, 6, 7, 8] ?_;refine AW.skip ?_;exact qz
  have e0 : ¬ ((atR l i).2.code != 0) = true := by rw [ht35]; simp
  refine Z20 ?_;refine R.call Tryz.call81 (c81 1048576 _ hok0 (Nat.le_refl _) hsz0 _) ?_;refine lf ?_;refine R.fin [0, 1, 4, 6, 7, 8, 42] ?_
  refine W.cond (fun ht42 => ?_) (fun ht42 => ?_)
  ·have e : atS l i (atR l i) = B4 18 (A4 l i).at_ (atR l i).2 := by unfold atS; rw [if_neg e0, if_pos ht42]
   refine Z5 ?_;refine qd ?_;refine Z37 ?_
   refine R.callOwn (n := 2) (x := pr l (B4 18 (A4 l i).at_ (atR l i).2)) Tryz.call82 (c82 l (atR l i).2 18 (A4 l i).at_ (oid Hp.length 2) _ (by rw [Ap]; rfl)) ?_
   refine R.fin [4, 6, 7, 8] ?_;exact qz
  have e1 : ¬ decide ((30 : Int) < depthE (atR l i).1) = true := by rw [ht42]; simp
  refine Z20 ?_;refine R.call Tryz.call83 (c83 1048576 _ hok0 (Nat.le_refl _) hsz0 _) ?_;refine lf ?_;refine R.fin [0, 1, 4, 6, 7, 8, 53] ?_
  refine W.cond (fun ht53 => ?_) (fun ht53 => ?_)
  ·have e : atS l i (atR l i) = B4 3 (A4 l i).at_ (atR l i).2 := by unfold atS; rw [if_neg e0, if_neg e1, if_pos ht53]
   refine Z5 ?_;refine qd ?_;refine Z37 ?_
   refine R.callOwn (n := 2) (x := pr l (B4 3 (A4 l i).at_ (atR l i).2)) Tryz.call82 (c82 l (atR l i).2 3 (A4 l i).at_ (oid Hp.length 2) _ (by rw [Ap]; rfl)) ?_
   refine R.fin [4, 6, 7, 8] ?_;exact qz
  have e : atS l i (atR l i) = (atR l i).2 := by unfold atS; rw [if_neg e0, if_neg e1, if_neg (by rw [ht53]; simp)]
  refine W.keep [4, 6, 7, 8] ?_;refine AW.skip ?_;exact qz
 refine U6 ?_;refine Yt ?_;refine R.fin [4, 6, 7, 8, 69] ?_
 refine W.cond (fun ht69 => ?_) (fun ht69 => ?_)
 ·have e : atM l i = (Aj, 0, (atS l i (atR l i)).code, (atS l i (atR l i)).at_) := if_pos ht69
  refine W.drawY [0, 0, 2, 6, 14, 1, 33, 127] [5] [.q 5 [] [], .s [] (some 0) [] [], .q 1 [0] []] (fun _ => Hp) (fun _ => [.cells 28 [A3 0, A7 [], A3 0, A3 0, A7 [], .nil], .cells 33 [A3 0, A3 0], pr l (atS l i (atR l i)), .cells 28 (Cw (atR l i).1)]) Ae (by kernel_rfl) rfl rfl (fun _ => rfl) ?_
  apply Y.q
  case h1 =>
   intro B hT hF
   refine AAf ?_;exact AAk
  case hTF => decide
  refine AB1 ?_
  apply Y.q
  case h1 =>
   intro B hT hF
   exact gg
  case hTF => decide
  refine Y.tail (tn := [5])  ?_;refine R.nilCell 0 5 6 ?_;refine qv ?_;refine AW.ret ?_;exact zp
 have e : atM l i = ((atR l i).1, ((atS l i (atR l i)).i : Int), 0, 0) := if_neg (by rw [ht69]; simp)
 refine Z4 ?_;refine W.drawY [0, 0, 2, 6, 14, 0, 1, 95, 255] [6] [.q 6 [] [], .s [] (some 0) [] [], .q 1 [0] []] (fun _ => Hp) (fun B => [.cells 28 (if B 0 = true then Cw (atR l i).1 else [A3 0, A7 [], A3 0, A3 0, A7 [], .nil]), .cells 33 [A3 0, A3 0], pr l (atS l i (atR l i)), .cells 28 (Cw (atR l i).1)]) Ae (by kernel_rfl) rfl rfl (fun _ => rfl) ?_
 apply Y.q
 case h1 =>
  intro B hT hF
  refine Rl ?_;refine xb ?_;exact wn
 case hTF => decide
 refine Y.storeOwn (u := Hp.length) (n := 0) (t' := 28) (cs := [A3 0, A7 [], A3 0, A3 0, A7 [], .nil]) (cs' := Cw (atR l i).1) Tryz.sizeOf28 (fun B hB => ⟨rfl, by simp only [hB]; rfl, by simp [upd], rfl⟩) ?_
 apply Y.q
 case h1 =>
  intro B hT hF
  exact gg
 case hTF => decide
 refine Y.tail (tn := [6]) (O := [.cells 28 (Cw (atR l i).1), .cells 33 [A3 0, A3 0], pr l (atS l i (atR l i)), .cells 28 (Cw (atR l i).1)]) ?_;refine qv ?_;refine AW.ret ?_;exact K.fin (V.three (V.cellN jA jS) V.tmp (V.cellN jA jS)) ⟨by rw [e, A8] <;> rfl, rfl⟩ (hlow := by have := low_agg (n := Hp.length) (atR l i).1; simp at this ⊢; exact this)

theorem cu {s : Str} (h : (A6 s).2.1 = 0) : (A6 s).1.length ≤ 4002 := by
 obtain ⟨h1, _, h3⟩ := Ok h
 have h2 := Pv s
 rw [h3]
 simp only [List.length_append, List.length_map, List.length_cons, List.length_nil]
 omega
theorem Ou {l : List Tok} (hl : TokEnd l) (hll : l.length ≤ 1048576) {i : Nat} (hi : i < l.length) (h : (atM l i).2.2.1 = 0) : ∃ k : Nat, (atM l i).2.1 = (k : Int) ∧ k < l.length := by
 have hq := Xb hl hll hi
 unfold atM at h ⊢
 split at h
 ·rename_i h1
  have : (atS l i (atR l i)).code = 0 := h
  rw [this] at h1
  cases h1
 rename_i h1
 rw [if_neg h1]
 refine ⟨(atS l i (atR l i)).i, rfl, ?_⟩
 have e : (atS l i (atR l i)).i = (atR l i).2.i := by
  unfold atS
  repeat' split
  all_goals first | rfl | exact failM_i.1
 rw [e]
 exact hq.lt
theorem Kx {α : Type} {a b : List α} (hl : a.length = b.length) (h : ∀ (j : Nat) (y : α), j < a.length → a[j]? = some y → b[j]? = some y) : a = b := by
 apply List.ext_getElem hl
 intro j h1 h2
 have := h j a[j] h1 (List.getElem?_eq_getElem h1)
 rw [List.getElem?_eq_getElem h2] at this
 injection this with this
 exact this.symm
theorem c28 (a b : List Str) (ha : a.length ≤ 1048576) (Hp : List AObj) : AFun Tryz.prog 28 [H9 a, H9 b] Hp (Ao (decide (a = b))) := by
 refine ACall.body [.tmp 4] [0, 1] Tryz.func28 Tryz.ntmps28 (fun d => ?_)
 refine Z9 ?_;refine Z8 ?_;refine Z7 ?_;refine R.len jU ?_;refine R.neq ?_;refine R.fin [0, 1, 10] ?_
 refine W.cond (fun ht10 => ?_) (fun ht10 => ?_)
 ·have hne : a ≠ b := by rintro rfl; simp at ht10
  refine Vw ?_;refine K.thR ?_;exact AB2
 have hlen : a.length = b.length := by have := ht10; simp at this; omega
 refine Z4 ?_;refine Lr ?_;refine R.fin [0, 1, 5] ?_
 refine AW.loopC (α := Nat) (fun x => ⟨26, A5 0 (H9 a) (A5 1 (H9 b) (A5 5 (A3 (x : Nat)) (fun _ => .any))), Hp, [], [], none⟩) (fun x => x ≤ a.length ∧ ∀ (j : Nat) (y : Str), j < x → a[j]? = some y → b[j]? = some y) (fun x => a.length - x) (0) ⟨Nat.zero_le _, fun j y h => by omega⟩ (StLe.refl _) rfl (fun x hx => ?_)
 refine Vs ?_;refine Zb ?_;refine R.fin [0, 1, 5, 14] ?_
 refine W.cond (fun ht14 => ?_) (fun ht14 => ?_)
 ·have hlt : x < a.length := by simpa using ht14
  have hlb : x < b.length := by omega
  refine Ji ?_;refine W.draw [0, 0, 3, 7, 0, 0, 48, 112, 255] 8 Ae (by kernel_rfl) ?_;refine U3 ?_;refine D.indexAddr (x) (A7 a[x]) jU jS (Fj hlt) ?_;refine D.loadRo jA ?_;refine U3 ?_;refine D.indexAddr (x) (A7 b[x]) jU jS (Fj hlb) ?_;refine D.loadRo jA ?_;refine D.tail ?_;refine R.sneq ?_;refine R.fin [0, 1, 5, 25] ?_
  refine W.cond (fun ht25 => ?_) (fun ht25 => ?_)
  ·have hne : a ≠ b := by rintro rfl; simp at ht25
   refine Vw ?_;refine Zc ?_;exact AB2
  have heq : a[x] = b[x] := by simpa using ht25
  refine Zf ?_;refine R.fin [0, 1, 5] ?_
  refine K.lpN (x + 1) ⟨hlt, fun j y hj hy => ?_⟩ (by omega) (StCut.of_eq rfl)
  rcases Nat.lt_or_ge j x with h | h
  ·exact hx.2 j y h hy
  have : j = x := by omega
  subst this
  rw [List.getElem?_eq_getElem hlt] at hy
  rw [List.getElem?_eq_getElem hlb, ← hy, heq]
 have hxe : a.length ≤ x := by simpa using ht14
 refine Z81 ?_;refine Vw ?_;exact K.fin (V.one V.tmp) ⟨by rw [decide_eq_true (Kx hlen fun j y hj hy => hx.2 j y (by omega) hy)], rfl⟩

theorem Ds {n k : Nat} {o : Bool} {l : List Expr} : Low n (.slice o k (l.map Af)) := low_slice.2 fun y hy => by
 obtain ⟨a, _, rfl⟩ := List.mem_map.1 hy
 exact Ag _ a
set_option maxRecDepth 8000
/-! What a tree comes to: eval's model. -/
abbrev Rs := Val × Int
def Qn (e : Int) : Rs := (noV, e)
def ABx (s : Str) : Val := ⟨2, 0, s.take 200⟩
def Sz (a : Int) : Int := if decide (a < 0) then IntKind.u64.wrap (0 - IntKind.u64.wrap a) else IntKind.u64.wrap a
def Hl (r : Rs) : Rs := if (r.2 == 0) && (r.1.kind != 0) && (r.1.kind != 3) then Qn 10 else r
def mv (strong : Val) (a b : Rs) : Rs := if ((Hl a).2 != 0) || ((Hl a).1 == strong) then Hl a else if (((Hl b).2 != 0) || ((Hl b).1 == strong)) || ((Hl a).1.kind != 0) then Hl b else ((Hl a).1, 0)
def ifW : Str := [105, 102]
def td : Str := [110, 118, 108]
def Mf : Str := [105, 115, 110, 117, 108, 108]
def ABy (t : Str) (a b c : Rs) : Rs :=
 if t == ifW then (if (Hl a).2 != 0 then Qn (Hl a).2 else if (Hl a).1 == W6 true then b else c)
 else if a.2 != 0 then Qn a.2 else if t == Mf then (W6 (a.1.kind == 0), 0) else if a.1.kind != 0 then (a.1, 0) else b
def ADo (strict : List Val → Rs) (l : List Rs) : Rs := match l.find? (fun q => q.2 != 0) with | some q => Qn q.2 | none => if l.any (fun q => q.1.kind == 0) then (noV, 0) else strict (l.map (·.1))
def Qo (c : List Col) (l : List Val) (t : Str) : Rs := if vy t c < 0 then Qn 9 else (l.getD (vy t c).toNat noV, 0)
def orW : Str := [111, 114]
def ADp : Str := [97, 110, 100]
/-- A node, of what its kids come to; what a strict node comes to is a parameter. -/
def w5 (strict : Int → Str → List Val → Rs) (c : List Col) (l : List Val) (o : Int) (t : Str) (v : Val) (ks : List Rs) : Rs :=
 if o == 1 then (v, 0) else if o == 2 then Qo c l t
 else if (o == 5) && (t == orW) then mv (W6 true) (ks.getD 0 (noV, 0)) (ks.getD 1 (noV, 0))
 else if (o == 5) && (t == ADp) then mv (W6 false) (ks.getD 0 (noV, 0)) (ks.getD 1 (noV, 0))
 else if (o == 6) && (((t == ifW) || (t == td)) || (t == Mf)) then ABy t (ks.getD 0 (noV, 0)) (ks.getD 1 (noV, 0)) (ks.getD 2 (noV, 0))
 else ADo (strict o t) ks
mutual
def Nx (strict : Int → Str → List Val → Rs) (c : List Col) (l : List Val) : Expr → Rs
 | .mk o t v k => w5 strict c l o t v (T0 strict c l k)
def T0 (strict : Int → Str → List Val → Rs) (c : List Col) (l : List Val) : List Expr → List Rs
  | [] => []
  | e :: r => Nx strict c l e :: T0 strict c l r
 end
/-! A tree in a column's place comes to what its value would there. -/
mutual
theorem eval_put {f : Int → Str → List Val → Rs} {c : List Col} {l m : List Val} {s : Str} {y : Expr} (hs : Qo c m s = Nx f c l y) (ho : ∀ t, t ≠ s → Qo c m t = Qo c l t) : ∀ x : Expr, Nx f c l (yf s y x) = Nx f c m x
 | .mk o t v k => by
  rw [yf]
  split
  ·rename_i h
   rw [Bool.and_eq_true, beq_iff_eq, beq_iff_eq] at h
   obtain ⟨rfl, rfl⟩ := h
   rw [← hs, Nx]
   rfl
  rename_i h
  rw [Nx, Nx, T3 hs ho k]
  unfold w5
  by_cases h2 : (o == 2) = true
  ·have : t ≠ s := fun e => h (by rw [h2, e]; simp)
   rw [ho t this]
  rw [if_neg h2, if_neg h2]
theorem T3 {f : Int → Str → List Val → Rs} {c : List Col} {l m : List Val} {s : Str} {y : Expr} (hs : Qo c m s = Nx f c l y) (ho : ∀ t, t ≠ s → Qo c m t = Qo c l t) : ∀ k : List Expr, T0 f c l (se s y k) = T0 f c m k
  | [] => rfl
  | e :: r => by rw [se, T0, T0, eval_put hs ho e, T3 hs ho r]
 end
/-! Who is not named plays no part. -/
/-! What a strict node comes to. -/
/-! Values are plain, and their numbers have 64 bits. -/
structure Fine (v : Val) : Prop where
 plain : Bw v = true
 lo : -9223372036854775808 ≤ v.n
 hi : v.n ≤ 9223372036854775807
theorem mw (s : Str) : Fine (ABx s) := ⟨by
 unfold Bw ABx
 simp only [show ((2 : Int) == 0) = false from rfl, show ((2 : Int) == 1) = false from rfl, show ((2 : Int) == 2) = true from rfl, Bool.false_eq_true, if_false, if_true, show ((0 : Int) == 0) = true from rfl, Bool.true_and, decide_eq_true_eq, List.length_take]
 omega, by show -9223372036854775808 ≤ (0 : Int); decide, by show (0 : Int) ≤ 9223372036854775807; decide⟩
/-! A text between marks. -/
theorem Nc {R : Str} (hR : ∀ c r, R = c :: r → c ≠ 39) : ∀ t : Str, Bn (B6 t ++ 39 :: R) = some ((B6 t).length + 1)
 | [] => by
  show Bn (39 :: R) = some 1
  cases R with
  | nil => rfl
  | cons d r =>
   have : (d == 39) = false := by simpa using hR d r rfl
   rw [Bn, if_pos (by decide), this]
   rfl
 | c :: t => by
  rw [Dr]
  by_cases hc : c = 39
  ·subst hc
   rw [show M2 39 = [39, 39] from rfl]
   show Bn (39 :: 39 :: (B6 t ++ 39 :: R)) = _
   rw [Bn, if_pos (by decide), if_pos (by decide), Nc hR t]
   simp
  rw [show M2 c = [c] from if_neg hc]
  show Bn (c :: (B6 t ++ 39 :: R)) = _
  rw [Ga (by simpa using hc), Nc hR t]
  simp
theorem mx : ∀ t : Str, (Lib.index (B6 t) [39, 39] = -1 ∧ B6 t = t) ∨ ∃ i : Nat, Lib.index (B6 t) [39, 39] = (i : Int) ∧ i < t.length ∧ (B6 t).take i = t.take i ∧ (B6 t).drop (i + 2) = B6 (t.drop (i + 1)) ∧ t = t.take i ++ [39] ++ t.drop (i + 1)
 | [] => .inl ⟨rfl, rfl⟩
 | b :: l => by
  by_cases hb : b = 39
  ·subst hb
   refine .inr ⟨0, ?_, by simp, rfl, ?_, by simp⟩
   ·rw [Dr]
    show Lib.index (39 :: 39 :: B6 l) [39, 39] = 0
    rw [Lib.index, if_pos (by simp [List.isPrefixOf])]
   rw [Dr]
   rfl
  have hd : B6 (b :: l) = b :: B6 l := by
   rw [Dr, M2, if_neg hb]
   rfl
  have hp : ([39, 39] : Str).isPrefixOf (b :: B6 l) = false := by
   simp [List.isPrefixOf, Ne.symm hb]
  rcases mx l with ⟨h1, h2⟩ | ⟨i, h1, h2, h3, h4, h5⟩
  ·refine .inl ⟨?_, by rw [hd, h2]⟩
   rw [hd, Lib.index, hp, h1]; rfl
  refine .inr ⟨i + 1, ?_, by simp; omega, ?_, ?_, ?_⟩
  ·rw [hd, Lib.index, hp, h1, if_neg (by simp), if_neg (by simp)]
   rfl
  ·rw [hd, List.take_succ_cons, List.take_succ_cons, h3]
  ·rw [hd, show i + 1 + 2 = (i + 2) + 1 by omega, List.drop_succ_cons, List.drop_succ_cons, h4]
  rw [List.take_succ_cons, List.drop_succ_cons, List.cons_append, List.cons_append, ← h5]
theorem Ny : ∀ (n : Nat) (t : Str), t.length ≤ n → Lib.replaceK [39, 39] [39] (Lib.count (B6 t) [39, 39]) (B6 t) = t
 | n, t, hn => by
  rcases mx t with ⟨h1, h2⟩ | ⟨i, h1, h2, h3, h4, h5⟩
  ·rw [Lib.count_miss h1]; exact h2
  cases n with
  | zero => omega
  | succ n =>
   rw [Lib.count_hit (by decide) h1, Nat.add_comm, Lib.replaceK_hit _ _ _ _ i h1]
   have e : i + ([39, 39] : Str).length = i + 2 := rfl
   rw [e, h4, Ny n (t.drop (i + 1)) (by rw [List.length_drop]; omega), h3]
   exact h5.symm
theorem Qp (t : Str) : Lib.replaceAll (B6 t) [39, 39] [39] = t := by
 unfold Lib.replaceAll Lib.replace
 rw [if_neg (by decide)]
 have e : Lib.replaceNum (B6 t) [39, 39] (-1) = Lib.count (B6 t) [39, 39] := by unfold Lib.replaceNum; rw [if_pos (.inl (by decide))]
 rw [e]
 exact Ny _ t (Nat.le_refl _)
theorem T5 {t : Str} (h : t.length ≤ 200) : Bz ([39] ++ B6 t ++ [39]) = (⟨2, 0, t⟩, 0) := by
 have hin : Mx ([39] ++ B6 t ++ [39]) = t := by
  unfold Mx
  have : (([39] ++ B6 t ++ [39] : Str).take (([39] ++ B6 t ++ [39] : Str).length - 1)).drop 1 = B6 t := by
   rw [show ([39] ++ B6 t ++ [39] : Str).length - 1 = ([39] ++ B6 t : Str).length by simp, List.take_left]
   rfl
  rw [this]
  exact Qp t
 have ht : Jm ([39] ++ B6 t ++ [39]) = ⟨2, 0, t⟩ := by
  unfold Jm
  rw [hin, List.take_of_length_le h]
 have hp : Bw ⟨2, 0, t⟩ = true := by
  unfold Bw
  simp
  omega
 have hpr : Br ⟨2, 0, t⟩ = [39] ++ B6 t ++ [39] := by
  unfold Br
  rw [hp, Gc]
  rfl
 have hq : Fh ([39] ++ B6 t ++ [39]) = true := by
  unfold Fh
  simp [Lib.hasPrefix, Lib.hasSuffix, List.isPrefixOf]
  omega
 unfold Bz
 have n1 : (([39] ++ B6 t ++ [39] : Str) == [110, 117, 108, 108]) = false := by rw [beq_eq_false_iff_ne]; intro e; injection e with e; exact absurd e (by decide)
 have n2 : (([39] ++ B6 t ++ [39] : Str) == [116, 114, 117, 101]) = false := by rw [beq_eq_false_iff_ne]; intro e; injection e with e; exact absurd e (by decide)
 have n3 : (([39] ++ B6 t ++ [39] : Str) == [102, 97, 108, 115, 101]) = false := by rw [beq_eq_false_iff_ne]; intro e; injection e with e; exact absurd e (by decide)
 rw [n1, n2, n3, hq]
 simp only [Bool.false_eq_true, if_false, Bool.or_self, if_true]
 unfold Po
 rw [ht, hpr]
 simp
theorem yk {t R : Str} (h : t.length ≤ 200) (hR : Dq R) : Lx ([39] ++ B6 t ++ [39]) [(4, t)] R := by
 have h39 : ∀ c r, R = c :: r → c ≠ 39 := fun c r e => by rcases hR c r e with rfl | rfl | rfl | rfl | rfl <;> decide
 refine Lx.word (by simp) (by show blanks.contains 39 = false; kernel_rfl) (by show (39 : UInt8) ≠ 35; decide) ?_
 have e : [39] ++ B6 t ++ [39] ++ R = 39 :: (B6 t ++ 39 :: R) := by simp
 rw [e]
 have h1 : ¬ (decide (0 < G9 ((39 :: (B6 t ++ 39 :: R)).take 1) letters) = true) := by
  rw [show (39 :: (B6 t ++ 39 :: R)).take 1 = [39] from rfl, Hw, show letters.contains 39 = false by kernel_rfl]; simp
 have h2 : ¬ (decide (0 < G9 ((39 :: (B6 t ++ 39 :: R)).take 1) digs) = true) := by
  rw [show (39 :: (B6 t ++ 39 :: R)).take 1 = [39] from rfl, Hw, show digs.contains 39 = false by kernel_rfl]; simp
 unfold Aq
 rw [if_neg h1, if_neg h2, if_pos (by rfl)]
 unfold El
 rw [show (39 :: (B6 t ++ 39 :: R)).drop 1 = B6 t ++ 39 :: R from rfl, Nc h39 t]
 have ht : (39 :: (B6 t ++ 39 :: R)).take ((B6 t).length + 1 + 1) = [39] ++ B6 t ++ [39] := by
  rw [← e, show (B6 t).length + 1 + 1 = ([39] ++ B6 t ++ [39] : Str).length by simp]
  exact List.take_left
 simp only [ht, T5 h]
 simp
set_option maxRecDepth 4000
theorem Xd {a b : List Expr} (hl : a.length = b.length) (h : ∀ (j : Nat) (y z : Expr), j < a.length → a[j]? = some y → b[j]? = some z → eqE y z = true) : eqL a b = true := by
 rw [M0]
 refine Kx hl fun j y hj hy => ?_
 have hjb : j < b.length := by omega
 have := h j y b[j] hj hy (List.getElem?_eq_getElem hjb)
 rw [List.getElem?_eq_getElem hjb, (Oj _ _).1 this]
theorem yl {a b : List Expr} (h : eqL a b = true) {j : Nat} (hj : j < a.length) (hb : j < b.length) : eqE a[j] b[j] = true := by
 have e := (M0 _ _).1 h
 subst e
 exact Wn _
theorem my {a b : List Expr} {j : Nat} (hj : j < a.length) (hb : j < b.length) (h : eqE a[j] b[j] = false) : eqL a b = false := by
 rw [Bool.eq_false_iff]
 intro h2
 rw [yl h2 hj hb] at h
 cases h
theorem cv {a b : List Expr} (h : a.length ≠ b.length) : eqL a b = false := by
 rw [Bool.eq_false_iff]
 exact fun h2 => h (sh h2)
theorem w6 {a b : List Expr} {x : Nat} (hx : x < a.length) (hb : x < b.length) (h : ∀ (j : Nat) (y z : Expr), j < x → a[j]? = some y → b[j]? = some z → eqE y z = true) (he : eqE a[x] b[x] = true) : ∀ (j : Nat) (y z : Expr), j < x + 1 → a[j]? = some y → b[j]? = some z → eqE y z = true := by
 intro j y z hj h1 h2
 rcases Nat.lt_or_ge j x with h3 | h3
 ·exact h j y z h3 h1 h2
 have : j = x := by omega
 subst this
 rw [List.getElem?_eq_getElem hx] at h1
 rw [List.getElem?_eq_getElem hb] at h2
 injection h1 with h1
 injection h2 with h2
 rw [← h1, ← h2]
 exact he
def Xe (x y : Expr) : Bool := ((x.op == y.op) && (x.text == y.text)) && ((x.val.kind == y.val.kind && x.val.n == y.val.n) && x.val.s == y.val.s)
theorem Uo (x y : Expr) : eqE x y = (Xe x y && eqL x.kids y.kids) := mf x y
theorem c29 : ∀ (n : Nat) (x : Expr), okE n x → ∀ (y : Expr) (Hp : List AObj), AFun Tryz.prog 29 [Af x, Af y] Hp (Ao (eqE x y)) := by
 intro n
 induction n with
 | zero => exact fun x h => h.elim
 | succ n ih =>
 intro x hok y Hp
 refine ACall.body [.tmp 4] [0, 1] Tryz.func29 Tryz.ntmps29 (fun d => ?_)
 refine gu ?_;refine r9 ?_;refine Z29 ?_;refine Z13 ?_;refine Z13 ?_;refine R.neq ?_;refine C3 ?_;refine Z36 ?_;refine Z36 ?_;refine G.sneq ?_;refine Vq ?_;refine qf ?_;refine qf ?_;refine G.neqAgg rn (fun w => Og x.val.kind x.val.n y.val.kind y.val.n x.val.s y.val.s w) ?_;refine Vq ?_;refine x8 ?_;refine x8 ?_;refine G.neq ?_;refine H7 ?_;refine R.fin [2, 3, 33] ?_
 refine W.cond (fun ht33 => ?_) (fun ht33 => ?_)
 ·have hf : eqE x y = false := by
   rw [Uo]
   simp only [Bool.or_eq_true, bne_iff_ne, ne_eq, List.length_map, Bool.not_eq_true'] at ht33
   by_cases hh : Xe x y = true
   ·rw [hh, Bool.true_and]
    refine cv ?_
    unfold Xe at hh
    simp only [Bool.and_eq_true, beq_iff_eq] at hh
    obtain ⟨⟨h1, h2⟩, ⟨h3, h4⟩, h5⟩ := hh
    rcases ht33 with ((h | h) | h) | h
    ·exact absurd h1 h
    ·simp [h2] at h
    ·simp [h3, h4, h5] at h
    intro e; exact h (by rw [e])
   rw [Bool.not_eq_true] at hh
   rw [hh, Bool.false_and]
  refine Vw ?_;exact qc
 have hh : Xe x y = true ∧ x.kids.length = y.kids.length := by
  simp only [Bool.or_eq_false_iff, bne_eq_false_iff_eq, List.length_map, Bool.not_eq_false'] at ht33
  obtain ⟨⟨⟨h1, h2⟩, h3⟩, h4⟩ := ht33
  unfold Xe
  refine ⟨?_, by omega⟩
  simp only [beq_iff_eq, Bool.and_eq_true] at h1 h2 h3 ⊢
  exact ⟨⟨h1, h2⟩, h3⟩
 obtain ⟨hh, hlen⟩ := hh
 have hkl := hok.2.1
 refine Z4 ?_;refine Lr ?_;refine R.fin [2, 3, 5] ?_
 refine AW.loopC (α := Nat) (fun i => ⟨53, A5 2 (.ro (Cw x)) (A5 3 (.ro (Cw y)) (A5 5 (A3 (i : Nat)) (fun _ => .any))), Hp, [], [], none⟩) (fun i => i ≤ x.kids.length ∧ ∀ (j : Nat) (a b : Expr), j < i → x.kids[j]? = some a → y.kids[j]? = some b → eqE a b = true) (fun i => x.kids.length - i) (0) ⟨Nat.zero_le _, fun j a b h => by omega⟩ (StLe.refl _) rfl (fun i hi => ?_)
 refine Z8 ?_;refine Z33 ?_;refine Zb ?_;refine R.fin [2, 3, 5, 38] ?_
 refine W.cond (fun ht38 => ?_) (fun ht38 => ?_)
 ·have hlt : i < x.kids.length := by simpa using ht38
  have hly : i < y.kids.length := by omega
  refine Ji ?_;refine W.draw [0, 1, 0, 7, 15, 0, 32, 0, 224, 480, 1023, 2047] 10 Ae (by kernel_rfl) ?_;refine D.fieldAddrRo (off := 5) jU Tryz.sizeOf26 ?_;refine D.loadRo jA ?_;refine D.move ?_;refine D.indexAddr (i) (Af x.kids[i]) jU jS (Fj hlt) ?_;refine D.loadRoN jA jS ?_;refine D.fieldAddrRo (off := 5) jU Tryz.sizeOf26 ?_;refine D.loadRo jA ?_;refine D.move ?_;refine D.indexAddr (i) (Af y.kids[i]) jU jS (Fj hly) ?_;refine D.loadRoN jA jS ?_;refine D.tail ?_;refine R.call Tryz.call29 (ih x.kids[i] (hok.2.2 _ (List.getElem_mem hlt)) y.kids[i] _) ?_;refine R.not ?_;refine R.fin [2, 3, 5, 52] ?_
  refine W.cond (fun ht52 => ?_) (fun ht52 => ?_)
  ·have hf : eqE x y = false := by rw [Uo, my hlt hly (by simpa using ht52), Bool.and_false]
   refine Vw ?_;refine Ys ?_;exact qc
  have he : eqE x.kids[i] y.kids[i] = true := by simpa using ht52
  refine Zf ?_;refine R.fin [2, 3, 5] ?_;exact K.lpN (i + 1) ⟨hlt, w6 hlt hly hi.2 he⟩ (by omega) (StCut.of_eq rfl)
 have hxe : x.kids.length ≤ i := by simpa using ht38
 refine Z81 ?_;refine Vw ?_;exact K.fin (V.one V.tmp) ⟨by rw [Uo, hh, Xd hlen (fun j a b hj => hi.2 j a b (by omega))]; rfl, rfl⟩

theorem c74 (n : Nat) (a b : List Expr) (ha : a.length ≤ 1048576) (hok : ∀ y ∈ a, okE n y) (ih : ∀ (x : Expr), okE n x → ∀ (y : Expr) (Hp : List AObj), AFun Tryz.prog 43 [Af x, Af y] Hp (Ao (eqE x y))) (Hp : List AObj) : AFun Tryz.prog 74 [.slice false 6 (a.map Af), .slice false 6 (b.map Af), .fn (.func 43) [] []] Hp (Ao (eqL a b)) := by
 refine ACall.body [.tmp 6] [0, 1, 2] Tryz.func74 Tryz.ntmps74 (fun d => ?_)
 refine Z1 ?_;refine R.fin [0, 1, 2] ?_;refine Z8 ?_;refine Z7 ?_;refine R.len jU ?_;refine R.neq ?_;refine R.fin [0, 1, 2, 14] ?_
 refine W.cond (fun ht14 => ?_) (fun ht14 => ?_)
 ·have hf : eqL a b = false := cv (by have := ht14; simp at this; omega)
  refine Z1 ?_;refine Z94 ?_;exact qc
 have hlen : a.length = b.length := by have := ht14; simp at this; omega
 refine Vy ?_;refine Z7 ?_;refine R.fin [1, 2, 15, 16, 17] ?_
 refine AW.loopC (α := Nat) (fun i => ⟨32, A5 1 (.slice false 6 (b.map Af)) (A5 2 (.fn (.func 43) [] []) (A5 15 (.slice false 6 (a.map Af)) (A5 16 (A3 (a.length : Nat)) (A5 17 (A3 (i : Nat)) (fun _ => .any))))), Hp, [], [], none⟩) (fun i => i ≤ a.length ∧ ∀ (j : Nat) (y z : Expr), j < i → a[j]? = some y → b[j]? = some z → eqE y z = true) (fun i => a.length - i) (0) ⟨Nat.zero_le _, fun j y z h => by omega⟩ (StLe.of_eq (by simp)) rfl (fun i hi => ?_)
 refine lh ?_;refine R.fin [1, 2, 15, 16, 17, 18] ?_
 refine W.condX (fun ht18 => ?_) (fun ht18 => ?_)
 ·have hlt : i < a.length := by simpa using ht18
  have hlb : i < b.length := by omega
  refine Z38 ?_;refine Z0 ?_;refine R.indexAddr (i) (Af a[i]) jU jS (Fj hlt) ?_;refine I7 ?_;refine J4 ?_;refine r6 ?_;refine R.fin [1, 2, 7, 8, 15, 16, 17] ?_;refine Z31 ?_;refine R.indexAddr (i) (Af b[i]) jU jS (Fj hlb) ?_;refine I7 ?_;refine Z10 ?_;refine R.fin [1, 2, 8, 9, 15, 16, 17] ?_;refine Z0 ?_;refine Kr ?_;refine Kr ?_;refine R.callV Tryz.call43 (ih a[i] (hok _ (List.getElem_mem hlt)) b[i] _) ?_;refine R.not ?_;refine R.fin [1, 2, 15, 16, 17, 30] ?_
  refine W.cond (fun ht30 => ?_) (fun ht30 => ?_)
  ·have hf : eqL a b = false := my hlt hlb (by simpa using ht30)
   refine Z1 ?_;refine Z94 ?_;refine Ys ?_;exact qc
  have he : eqE a[i] b[i] = true := by simpa using ht30
  refine Z34 ?_;refine gk ?_;refine R.fin [1, 2, 15, 16, 17] ?_;refine K.lpN (i + 1) ⟨hlt, w6 hlt hlb hi.2 he⟩ (by omega) ?_
  exact StCut.take (own := []) (fun _ => .refl _) (by repeat (first | exact F4 | refine F3 (by first | exact Ds | (simp; done)) ?_)) (by simp) (by simp)
 have hxe : a.length ≤ i := by simpa using ht18
 refine Z49 ?_;refine Z1 ?_;refine Z94 ?_;exact K.fin (V.one V.tmp) ⟨by rw [Xd hlen (fun j y z hj => hi.2 j y z (by omega))], rfl⟩

theorem c43 : ∀ (n : Nat) (x : Expr), okE n x → ∀ (y : Expr) (Hp : List AObj), AFun Tryz.prog 43 [Af x, Af y] Hp (Ao (eqE x y)) := by
 intro n
 induction n with
 | zero => exact fun x h => h.elim
 | succ n ih =>
 intro x hok y Hp
 refine ACall.body [.tmp 4] [0, 1] Tryz.func43 Tryz.ntmps43 (fun d => ?_)
 refine gu ?_;refine r9 ?_;refine Yu ?_;refine Z13 ?_;refine Rh ?_;refine Z36 ?_;refine Z36 ?_;refine G.seql ?_;refine Yp ?_;refine qf ?_;refine qf ?_;refine G.eqlAgg rn (fun w => Og x.val.kind x.val.n y.val.kind y.val.n x.val.s y.val.s w) ?_;refine Yp ?_;refine Z46 ?_;refine Z46 ?_;refine G.call Tryz.call74 (fun hB => c74 n x.kids y.kids hok.2.1 hok.2.2 ih _) ?_;refine Z39 ?_;refine Z27 ?_;exact K.fin (V.one V.tmp) ⟨by rw [mf], rfl⟩

theorem Up (o : Int) (t : Str) (v : Val) (k : List Expr) : Af (.mk o t v k) = .agg [A3 o, .v (sv t), A3 v.kind, A3 v.n, .v (sv v.s), .slice false 6 (k.map Af)] := by rw [A8]; rfl
set_option maxRecDepth 8000
/-! Who decides decides: the law's sources, columns and truths. -/
/-! Rows. -/
/-! Rows that differ in what is not named. -/
/-! Who has a kind comes to it. -/
theorem Lc {t : Str} {n : Nat} (h : B7 t = (n : Int)) : (t = [108, 101, 110] ∧ n = 1) ∨ (t = [115, 116, 114] ∧ n = 1) ∨ (t = [110, 117, 109] ∧ n = 1) ∨ (t = Mf ∧ n = 1) ∨ (t = td ∧ n = 2) ∨ (t = [108, 101, 102, 116] ∧ n = 2) ∨ (t = [114, 105, 103, 104, 116] ∧ n = 2) ∨ (t = ifW ∧ n = 3) := by
 by_cases hm : t ∈ arityList.map (·.1)
 ·have ha : ∀ s ∈ arityList.map (·.1), (s = [108, 101, 110] ∧ B7 s = 1) ∨ (s = [115, 116, 114] ∧ B7 s = 1) ∨ (s = [110, 117, 109] ∧ B7 s = 1) ∨ (s = Mf ∧ B7 s = 1) ∨ (s = td ∧ B7 s = 2) ∨ (s = [108, 101, 102, 116] ∧ B7 s = 2) ∨ (s = [114, 105, 103, 104, 116] ∧ B7 s = 2) ∨ (s = ifW ∧ B7 s = 3) := by
   have : ((arityList.map (·.1)).all fun s => decide ((s = [108, 101, 110] ∧ B7 s = 1) ∨ (s = [115, 116, 114] ∧ B7 s = 1) ∨ (s = [110, 117, 109] ∧ B7 s = 1) ∨ (s = Mf ∧ B7 s = 1) ∨ (s = td ∧ B7 s = 2) ∨ (s = [108, 101, 102, 116] ∧ B7 s = 2) ∨ (s = [114, 105, 103, 104, 116] ∧ B7 s = 2) ∨ (s = ifW ∧ B7 s = 3))) = true := by kernel_rfl
   exact fun s hs => of_decide_eq_true (List.all_eq_true.1 this s hs)
  have := ha t hm
  rw [h] at this
  rcases this with ⟨e, h2⟩ | ⟨e, h2⟩ | ⟨e, h2⟩ | ⟨e, h2⟩ | ⟨e, h2⟩ | ⟨e, h2⟩ | ⟨e, h2⟩ | ⟨e, h2⟩
  ·exact .inl ⟨e, by omega⟩
  ·exact .inr (.inl ⟨e, by omega⟩)
  ·exact .inr (.inr (.inl ⟨e, by omega⟩))
  ·exact .inr (.inr (.inr (.inl ⟨e, by omega⟩)))
  ·exact .inr (.inr (.inr (.inr (.inl ⟨e, by omega⟩))))
  ·exact .inr (.inr (.inr (.inr (.inr (.inl ⟨e, by omega⟩)))))
  ·exact .inr (.inr (.inr (.inr (.inr (.inr (.inl ⟨e, by omega⟩))))))
  exact .inr (.inr (.inr (.inr (.inr (.inr (.inr ⟨e, by omega⟩))))))
 have h1 : B7 t = -1 := by
  unfold B7
  rw [List.find?_eq_none.2 fun p hp => by
   simp only [beq_iff_eq]
   rintro rfl
   exact hm (List.mem_map.2 ⟨p, hp, rfl⟩)]
 omega
/-! The print of a tree, and its words. -/
def Hr (least : Nat) (x : Expr) (s : Str) : Str := if least ≤ levE x then s else 40 :: (s ++ [41])
def Dm : List Str → Str
 | [] => []
 | s :: r => 44 :: 32 :: (s ++ Dm r)
def Mg (o : Int) (t : Str) (v : Val) (k : List Expr) (ss : List Str) : Str :=
 if o == 1 then Br v else if o == 2 then t
 else if o == 3 then 45 :: Hr 6 (k.getD 0 Aj) (ss.getD 0 [])
 else if o == 4 then Ip ++ 32 :: Hr 2 (k.getD 0 Aj) (ss.getD 0 [])
 else if o == 5 then Hr (Cg (Ak t).toNat) (k.getD 0 Aj) (ss.getD 0 []) ++ 32 :: (t ++ 32 :: Hr ((Ak t).toNat + 1) (k.getD 1 Aj) (ss.getD 1 []))
 else t ++ 40 :: ((Dm ss).drop 2 ++ [41])
mutual
def Ac : Expr → Str
 | .mk o t v k => Mg o t v k (Jz k)
def Jz : List Expr → List Str
  | [] => []
  | e :: r => Ac e :: Jz r
 end
theorem Is : ∀ l, Jz l = l.map Ac
 | [] => rfl
 | e :: r => by rw [Jz, Is r]; rfl
theorem mz (v : Val) : Ac (Co v) = Br v := by simp [Co, Ac, Mg]
theorem cw (t : Str) : Ac (D6 t) = t := by simp [D6, Ac, Mg]
theorem n4 (a : Expr) : Ac (Bl 3 a) = 45 :: Hr 6 a (Ac a) := by simp [Bl, Ac, Jz, Mg]
theorem w7 (a : Expr) : Ac (Bl 4 a) = Ip ++ 32 :: Hr 2 a (Ac a) := by simp [Bl, Ac, Jz, Mg]
theorem n5 (t : Str) (a b : Expr) : Ac (Bu t a b) = Hr (Cg (Ak t).toNat) a (Ac a) ++ 32 :: (t ++ 32 :: Hr ((Ak t).toNat + 1) b (Ac b)) := by simp [Bu, Ac, Jz, Mg]
theorem cx (t : Str) (k : List Expr) : Ac (.mk 6 t noV k) = t ++ 40 :: ((Dm (Jz k)).drop 2 ++ [41]) := by simp [Ac, Mg]
/-- A text that something begins, and no equals sign. -/
def Hd (s : Str) : Prop := ∃ c r, s = c :: r ∧ c ≠ 61
theorem Hd.not61 {s : Str} (h : Hd s) (Z : Str) : ∀ d r, s ++ Z = d :: r → d ≠ 61 := fun d r e => by
 obtain ⟨c, q, rfl, hc⟩ := h
 injection e with e1 e2
 rw [← e1]
 exact hc
theorem Hd.app {s : Str} (h : Hd s) (Z : Str) : Hd (s ++ Z) := by
 obtain ⟨c, q, rfl, hc⟩ := h
 exact ⟨c, q ++ Z, rfl, hc⟩
theorem Hd.brk {k : Nat} {x : Expr} {s : Str} (h : Hd s) : Hd (Hr k x s) := by
 unfold Hr
 split
 ·exact h
 exact ⟨40, _, rfl, by decide⟩
theorem Ld {R : Str} (h : Dq R) : ∀ d r, R = d :: r → d ≠ 61 := fun d r e => by
 rcases h d r e with rfl | rfl | rfl | rfl | rfl <;> decide
theorem Gx (Z : Str) : Dq (32 :: Z) := fun c r e => by injection e with e1 e2; exact .inl e1.symm
theorem tg (Z : Str) : Dq (40 :: Z) := fun c r e => by injection e with e1 e2; exact .inr (.inl e1.symm)
theorem cy (Z : Str) : Dq (41 :: Z) := fun c r e => by injection e with e1 e2; exact .inr (.inr (.inl e1.symm))
theorem cz (Z : Str) : Dq (44 :: Z) := fun c r e => by injection e with e1 e2; exact .inr (.inr (.inr (.inl e1.symm)))
theorem n6 {R : Str} (hR : ∀ d r, R = d :: r → d ≠ 61) : Lx [40] [(5, [40])] R := Ir (by kernel_rfl) hR
theorem d8 {R : Str} (hR : ∀ d r, R = d :: r → d ≠ 61) : Lx [41] [(5, [41])] R := Ir (by kernel_rfl) hR
theorem d9 (R : Str) : Lx [44, 32] [(5, [44])] R := by
 have := Lx.app (R := R) (Ir (c := 44) (by kernel_rfl) (fun d r e => by injection e with e1 e2; rw [← e1]; decide) : Lx [44] [(5, [44])] ([32] ++ R)) (Lx.blank R)
 simpa using this
theorem Hy {u R : Str} {T : List TK} (h : Lx u T R) : Lx (32 :: u) T R := by
 have := Lx.app (Lx.blank (u ++ R)) h
 simpa using this
theorem ADq {t R : Str} (ht : 0 ≤ Ak t) : Lx t [opTok t] (32 :: R) := by
 have hmem : t ∈ levels.flatten := by
  rcases Gf t with h | h
  ·exact h
  omega
 have h61 : ∀ d r, (32 :: R : Str) = d :: r → d ≠ 61 := fun d r e => by injection e with e1 e2; rw [← e1]; decide
 simp only [levels, List.flatten_cons, List.flatten_nil, List.cons_append, List.nil_append, List.append_nil, List.mem_cons, List.not_mem_nil, or_false] at hmem
 rcases hmem with rfl | rfl | rfl | rfl | rfl | rfl | rfl | rfl | rfl | rfl | rfl | rfl | rfl | rfl
 ·exact Un (by kernel_rfl) (Gx R)
 ·exact Un (by kernel_rfl) (Gx R)
 ·exact U7
 ·exact Um (by kernel_rfl)
 ·exact U7
 ·exact Um (by kernel_rfl)
 ·exact U7
 ·exact Um (by kernel_rfl)
 ·exact U7
 ·exact U7
 ·exact U7
 ·exact U7
 ·exact U7
 exact U7
theorem ABz {v : Val} (hp : Bw v = true) (h0 : 0 ≤ v.n) (h1 : v.n ≤ 9223372036854775807) : (∀ R, Dq R → Lx (Br v) [Fp v] R) ∧ Hd (Br v) := by
 have hc := Hv hp
 rcases hc with e | e | ⟨e, hs⟩ | e | e
 ·rw [e]
  exact ⟨fun R hR => Un (by kernel_rfl) hR, ⟨110, [117, 108, 108], by kernel_rfl, by decide⟩⟩
 ·have hpr : Br v = Lib.itoa v.n := by
   unfold Br
   rw [hp, e]
   rfl
  have hv : Fp v = (3, Br v) := by unfold Fp; rw [show v.kind = 1 by rw [e]]; rfl
  rw [hv, hpr]
  refine ⟨fun R hR => w4 h0 h1 hR, ?_⟩
  obtain ⟨u, hu⟩ : ∃ u : Nat, v.n = (u : Int) := ⟨v.n.toNat, by omega⟩
  have e0 : Lib.itoa (u : Int) = Lib.decDigits u := by unfold Lib.itoa; rw [if_neg (by omega)]; simp
  rw [hu, e0]
  obtain ⟨c, r, hcr, _⟩ := Js u
  have hall := Kl u c (by rw [hcr]; exact List.mem_cons_self)
  exact ⟨c, r, hcr, by rintro rfl; revert hall; decide⟩
 ·have hpr : Br v = [39] ++ B6 v.s ++ [39] := by
   unfold Br
   rw [hp, e]
   simp only [Bool.not_true, Bool.false_eq_true, if_false, show ((2 : Int) == 1) = false from rfl, show ((2 : Int) == 2) = true from rfl, if_true, Gc]
  have hv : Fp v = (4, v.s) := by unfold Fp; rw [show v.kind = 2 by rw [e]]; rfl
  rw [hv, hpr]
  exact ⟨fun R hR => yk hs hR, ⟨39, _, rfl, by decide⟩⟩
 ·rw [e]
  exact ⟨fun R hR => Un (by kernel_rfl) hR, ⟨102, [97, 108, 115, 101], by kernel_rfl, by decide⟩⟩
 rw [e]
 exact ⟨fun R hR => Un (by kernel_rfl) hR, ⟨116, [114, 117, 101], by kernel_rfl, by decide⟩⟩
/-- A tree's print is its words, before what may stand there. -/
def PL (x : Expr) : Prop := (∀ R, Dq R → Lx (Ac x) (Ah x) R) ∧ Hd (Ac x)
theorem dc {x : Expr} (h : PL x) (k : Nat) {R : Str} (hR : Dq R) : Lx (Hr k x (Ac x)) (Cv k x (Ah x)) R := by
 unfold Hr Cv
 split
 ·exact h.1 R hR
 have h1 := Lx.app (Lx.app (n6 (R := Ac x ++ ([41] ++ R)) (h.2.not61 _)) (h.1 ([41] ++ R) (cy R))) (d8 (R := R) (Ld hR))
 simpa using h1
theorem n7 : ∀ (k : List Expr), (∀ y ∈ k, PL y) → ∀ R, Dq R → Lx (Dm (k.map Ac)) (Fg (k.map Ah)) R ∧ Dq (Dm (k.map Ac) ++ R)
 | [], _, R, hR => ⟨Lx.nil R, hR⟩
 | x :: r, h, R, hR => by
  obtain ⟨h1, h2⟩ := n7 r (fun y hy => h y (List.mem_cons_of_mem _ hy)) R hR
  have hx := (h x List.mem_cons_self).1 _ h2
  refine ⟨?_, cz _⟩
  have h3 : Lx ([44, 32] ++ (Ac x ++ Dm (r.map Ac))) ([(5, [44])] ++ (Ah x ++ Fg (r.map Ah))) R := Lx.app (d9 _) (Lx.app hx h1)
  simpa [Dm, Fg] using h3
theorem dd {t : Str} (h : Gq t = true) : Hd t := by
 rw [Pm] at h
 simp only [Bool.and_eq_true, Bool.not_eq_true', Bool.or_eq_false_iff, beq_eq_false_iff_ne, decide_eq_false_iff_not] at h
 cases t with
 | nil => simp at h
 | cons c r =>
  refine ⟨c, r, rfl, ?_⟩
  rintro rfl
  have h2 : (!Bc 61) = false := h.1.1.2
  exact absurd h2 (by decide)
theorem ba {t : Str} {n : Nat} (h : B7 t = (n : Int)) : Gq t = true := by
 rcases Lc h with ⟨rfl, _⟩ | ⟨rfl, _⟩ | ⟨rfl, _⟩ | ⟨rfl, _⟩ | ⟨rfl, _⟩ | ⟨rfl, _⟩ | ⟨rfl, _⟩ | ⟨rfl, _⟩ <;> kernel_rfl
theorem Xf : ∀ (n : Nat) (x : Expr), sizeE x ≤ n → C0 Bk x = true → C0 Dz x = true → PL x
 | 0, x, hn, _, _ => by have := E6 x; omega
 | n + 1, x, hn, hnd, hrg => by
  have hnd0 := hnd
  have hrg0 := hrg
  rw [Dk, Bool.and_eq_true] at hnd0 hrg0
  have ih : ∀ y ∈ x.kids, PL y := fun y hy => Xf n y (Sr hn hy) ((D3 _ _).1 hnd0.2 y hy) ((D3 _ _).1 hrg0.2 y hy)
  have hNC := Fq hnd0.1
  cases hNC with
  | val v hp h0 =>
   have hr := hrg0.1
   unfold Dz at hr
   simp only [Bool.and_eq_true, decide_eq_true_eq] at hr
   unfold PL
   rw [mz, Qd]
   exact ABz hp h0 hr.2
  | name t ht =>
   unfold PL
   rw [cw, N8]
   exact ⟨fun R hR => Ul ht hR, dd ht⟩
  | neg a =>
   have ha := ih a (by simp [Bl, Expr.kids])
   unfold PL
   rw [n4, Qe]
   exact ⟨fun R hR => Lx.app (u := [45]) (T := [(5, [45])]) (Ir (by kernel_rfl) (ha.2.brk.not61 R)) (dc ha 6 hR), ⟨45, _, rfl, by decide⟩⟩
  | no a =>
   have ha := ih a (by simp [Bl, Expr.kids])
   unfold PL
   rw [w7, Uj]
   exact ⟨fun R hR => Lx.app (T := [(2, Ip)]) (Un (by kernel_rfl) (Gx _)) (Hy (dc ha 2 hR)), ⟨110, _, rfl, by decide⟩⟩
  | bin t a b ht =>
   have ha := ih a (by simp [Bu, Expr.kids])
   have hb := ih b (by simp [Bu, Expr.kids])
   unfold PL
   rw [n5, Ma]
   refine ⟨fun R hR => Lx.app (dc ha _ (Gx _)) (Hy ?_), ha.2.brk.app _⟩
   exact Lx.app (T := [opTok t]) (ADq ht) (Hy (dc hb _ hR))
  | call t k ht =>
   have hk : ∀ y ∈ k, PL y := fun y hy => ih y (by simpa [Expr.kids] using hy)
   have hnm := ba ht
   unfold PL
   rw [cx, N9, Is, Sp]
   refine ⟨fun R hR => ?_, (dd hnm).app _⟩
   match k, hk, ht with
   | [], _, ht =>
    exfalso
    have := Ss t
    simp at ht
    omega
   | x :: r, hk, _ =>
    have hx := hk x List.mem_cons_self
    obtain ⟨h1, h2⟩ := n7 r (fun y hy => hk y (List.mem_cons_of_mem _ hy)) ([41] ++ R) (cy R)
    have hin : Lx (Ac x ++ Dm (r.map Ac)) (Ah x ++ Fg (r.map Ah)) ([41] ++ R) := Lx.app (hx.1 _ h2) h1
    have hcl : Lx ((Ac x ++ Dm (r.map Ac)) ++ [41]) ((Ah x ++ Fg (r.map Ah)) ++ [(5, [41])]) R := Lx.app hin (d8 (Ld hR))
    have hop : Lx ([40] ++ ((Ac x ++ Dm (r.map Ac)) ++ [41])) ([(5, [40])] ++ ((Ah x ++ Fg (r.map Ah)) ++ [(5, [41])])) R := Lx.app (n6 ((((hx.2.app _).app _)).not61 R)) hcl
    have hnl : Lx (t ++ ([40] ++ ((Ac x ++ Dm (r.map Ac)) ++ [41]))) ([(1, t)] ++ ([(5, [40])] ++ ((Ah x ++ Fg (r.map Ah)) ++ [(5, [41])]))) R := Lx.app (Ul hnm (tg _)) hop
    simpa [Dm, Fg] using hnl
/-! What was parsed nests no deeper than may be. -/
structure NB (N k : Nat) (r : Expr × PS) : Prop where
 nest : r.2.nest = N
 need : r.2.code = 0 → N + D7 k r.1 (B0 r.1) ≤ 30
def NF (N k : Nat) (f : PS → Expr × PS) : Prop := ∀ S : PS, S.nest = N → NB N k (f S)
theorem iw {k k' : Nat} (h : k ≤ k') (x : Expr) (n : Nat) : D7 k x n ≤ D7 k' x n := by
 unfold D7
 split
 ·split <;> omega
 rw [if_neg (by omega)]; exact Nat.le_refl _
theorem Mh (k : Nat) (x : Expr) (n : Nat) : n ≤ D7 k x n ∧ D7 k x n ≤ n + 1 := by unfold D7; split <;> omega
theorem NB.down {N k k' : Nat} {r : Expr × PS} (h : NB N k' r) (hk : k ≤ k') : NB N k r := ⟨h.nest, fun h0 => by
 have := h.need h0
 have := iw hk r.1 (B0 r.1)
 omega⟩
theorem Kn (e a : Int) (S : PS) : (B4 e a S).nest = S.nest := by unfold B4; split <;> rfl
theorem H2 {e a : Int} (he : e ≠ 0) (S : PS) : (B4 e a S).code ≠ 0 := by
 unfold B4
 split
 ·exact he
 rename_i h; simpa using h
theorem Nd (l : List Tok) (s : Str) (S : PS) : (Ay l s S).nest = S.nest := by
 unfold Ay
 split
 ·rfl
 split
 ·exact Kn _ _ _
 rfl
theorem Ib {l : List Tok} {s : Str} {S : PS} (h : (Ay l s S).code = 0) : S.code = 0 := by
 unfold Ay at h
 split at h
 ·exact h
 rename_i h0; simpa using h0
theorem Nf {N k : Nat} {a : Int} {f : PS → Expr × PS} (hN : N ≤ 30) (hf : N < 30 → NF (N + 1) k f) {S : PS} (hS : S.nest = N) : (Am a f S).2.nest = N ∧ ((Am a f S).2.code = 0 → N + 1 + D7 k (Am a f S).1 (B0 (Am a f S).1) ≤ 30) := by
 unfold Am
 split
 ·exact AB3
 rename_i h
 have hlt : N < 30 := by simp at h; omega
 have := hf hlt (Al S) (by show S.nest + 1 = N + 1; omega)
 refine ⟨?_, fun h0 => this.need h0⟩
 show (f (Al S)).2.nest - 1 = N
 rw [this.nest]
 rfl
theorem de {N : Nat} {l : List Tok} {f : PS → Expr × PS} (hf : NF N 0 f) : ∀ (n : Nat) (r : List Expr × PS), r.2.nest = N → (r.2.code = 0 → ∀ y ∈ r.1, N + B0 y ≤ 30) → (argsF l f n r).2.nest = N ∧ ((argsF l f n r).2.code = 0 → ∀ y ∈ (argsF l f n r).1, N + B0 y ≤ 30)
 | 0, r, h1, h2 => ⟨h1, h2⟩
 | n + 1, r, h1, h2 => by
  rw [argsF]
  split
  ·rename_i hc
   simp only [Bool.and_eq_true, beq_iff_eq] at hc
   have hq := hf (A2 r.2) h1
   refine de hf n _ hq.nest (fun h0 y hy => ?_)
   rcases List.mem_append.1 hy with hy | hy
   ·exact h2 hc.1 y hy
   rw [List.mem_singleton.1 hy]
   have := hq.need h0
   have := (Mh 0 (f (A2 r.2)).1 (B0 (f (A2 r.2)).1)).1
   omega
  exact ⟨h1, h2⟩
theorem th {l : List Expr} {m : Nat} (h : ∀ y ∈ l, B0 y ≤ m) : ar (Kv l) ≤ m := by
 induction l with
 | nil => exact Nat.zero_le _
 | cons a r ih =>
  rw [Kv, ar]
  have h1 := h a List.mem_cons_self
  have h2 := ih fun y hy => h y (List.mem_cons_of_mem _ hy)
  omega
theorem tj {N : Nat} {l : List Tok} {a : Int} {f : PS → Expr × PS} (hN : N ≤ 30) (hf : N < 30 → NF (N + 1) 0 f) {S : PS} (hS : S.nest = N) : (F8 l a f S).2.nest = N ∧ ((F8 l a f S).2.code = 0 → ∀ y ∈ (F8 l a f S).1, N + 1 + B0 y ≤ 30) := by
 unfold F8
 split
 ·exact AB3
 rename_i h
 have hlt : N < 30 := by simp at h; omega
 have hq := hf hlt (Al S) (by show S.nest + 1 = N + 1; omega)
 obtain ⟨h1, h2⟩ := de (l := l) (hf hlt) l.length ([(f (Al S)).1], (f (Al S)).2) hq.nest (fun h0 y hy => by
  rw [List.mem_singleton.1 hy]
  have := hq.need h0
  have := (Mh 0 (f (Al S)).1 (B0 (f (Al S)).1)).1
  omega)
 refine ⟨?_, h2⟩
 show (Ea l f (Al S)).2.nest - 1 = N
 unfold Ea
 rw [h1]
 rfl
theorem tk {N : Nat} {l : List Tok} {D : Fam} (hN : N ≤ 30) (hD : N < 30 → NF (N + 1) 0 D.ei) : NF N 7 (C9 l D) := fun S hS => by
 have leaf : ∀ (x : Expr) (S' : PS), S'.nest = N → B0 x = 0 → levE x = 7 → NB N 7 (x, S') := fun x S' h1 h2 h3 => ⟨h1, fun _ => by
  show N + D7 7 x (B0 x) ≤ 30
  unfold D7
  rw [h3, h2, if_pos (by decide)]
  omega⟩
 have bad : ∀ (x : Expr) (S' : PS), S'.nest = N → S'.code ≠ 0 → NB N 7 (x, S') := fun x S' h1 h2 => ⟨h1, fun h => absurd h h2⟩
 unfold C9
 split
 ·rename_i h; exact bad _ _ hS (by simpa using h)
 split
 ·exact leaf _ _ hS (X2 _) (Oq _)
 split
 ·exact leaf _ _ hS (X2 _) (Oq _)
 split
 ·split
  ·unfold Dx
   split
   ·exact AB4
   have hk := tj (l := l) (a := (A4 l (A2 S).i).at_) hN hD (show (A2 (A2 S)).nest = N from hS)
   split
   ·exact bad _ _ ((Kn _ _ _).trans ((Nd _ _ _).trans hk.1)) (H2 (by decide) _)
   refine ⟨(Nd _ _ _).trans hk.1, fun h0 => ?_⟩
   have hkk := hk.2 (Ib h0)
   show N + D7 7 (.mk 6 _ noV (Av l D (A2 S)).1) (B0 (.mk 6 _ noV (Av l D (A2 S)).1)) ≤ 30
   rw [Sq]
   unfold D7
   rw [Qg, if_pos (by decide)]
   by_cases hlt : N < 30
   ·have := th (l := (Av l D (A2 S)).1) (m := 30 - N - 1) (fun y hy => by have := hkk y hy; omega)
    omega
   exfalso
   have hc := Ib h0
   unfold Av F8 at hc
   rw [if_pos (by show ((S.nest : Int) == 30) = true; simp; omega)] at hc
   exact H2 (by decide) _ hc
  exact leaf _ _ hS (ip _) (Qf _)
 split
 ·have hw := Nf (a := (A4 l S.i).at_) hN hD (show (A2 S).nest = N from hS)
  refine ⟨(Nd _ _ _).trans hw.1, fun h0 => ?_⟩
  have h1 := hw.2 (Ib h0)
  have h2 := (Mh 0 (Am (A4 l S.i).at_ D.ei (A2 S)).1 (B0 (Am (A4 l S.i).at_ D.ei (A2 S)).1)).1
  have h3 := (Mh 7 (Am (A4 l S.i).at_ D.ei (A2 S)).1 (B0 (Am (A4 l S.i).at_ D.ei (A2 S)).1)).2
  show N + D7 7 (Am (A4 l S.i).at_ D.ei (A2 S)).1 (B0 (Am (A4 l S.i).at_ D.ei (A2 S)).1) ≤ 30
  omega
 exact AB4
theorem n8 {N : Nat} {l : List Tok} {D : Fam} (hN : N ≤ 30) (hD : N < 30 → NF (N + 1) 0 D.ei) (hn : N < 30 → NF (N + 1) 6 D.ne) : NF N 6 (Gd l D) := fun S hS => by
 unfold Gd
 split
 ·exact (tk hN hD S hS).down (by decide)
 have hw := Nf (a := (A4 l S.i).at_) hN hn (show (A2 S).nest = N from hS)
 refine ⟨hw.1, fun h0 => ?_⟩
 have h1 := hw.2 h0
 show N + D7 6 (Bl 3 (Am (A4 l S.i).at_ D.ne (A2 S)).1) _ ≤ 30
 unfold D7
 rw [Ot, if_pos (by decide), X3]
 omega
theorem It {N k : Nat} {l : List Tok} {f : PS → Expr × PS} (hk : k = 0 ∨ k = 1 ∨ k = 4 ∨ k = 5) (hf : NF N (k + 1) f) : NF N k (Cc l (ofL k) f) := by
 have hloop : ∀ (n : Nat) (r : Expr × PS), NB N k r → NB N k (Eg l (ofL k) f n r) := by
  intro n
  induction n with
  | zero => exact fun r h => h
  | succ n ih =>
   intro r h
   rw [Eg]
   split
   ·rename_i hc
    simp only [Bool.and_eq_true, beq_iff_eq] at hc
    have hq := hf (A2 r.2) h.nest
    refine ih _ ⟨hq.nest, fun h0 => ?_⟩
    have hlv : Ak (A4 l r.2.i).text = (k : Int) := by
     have hm := hc.2
     unfold isM at hm
     rw [Bool.and_eq_true] at hm
     have := hm.2
     rw [Eb (Md hk)] at this
     simpa using this
    have h1 := h.need hc.1
    have h2 := hq.need h0
    have hfl : Cg k = k := by unfold Cg; rw [if_neg (by omega)]
    show N + D7 k (Bu (A4 l r.2.i).text r.1 (f (A2 r.2)).1) (B0 (Bu (A4 l r.2.i).text r.1 (f (A2 r.2)).1)) ≤ 30
    rw [Mb, hlv]
    rw [show D7 k (Bu (A4 l r.2.i).text r.1 (f (A2 r.2)).1) _ = _ from if_pos (by rw [Mc, hlv]; simp)]
    rw [Int.toNat_natCast, hfl]
    omega
   exact h
 exact fun S hS => hloop _ _ ((hf S hS).down (Nat.le_succ k))
theorem n9 {N : Nat} {l : List Tok} {D : Fam} (hf : NF N 4 (Bh l D)) : NF N 3 (Bo l D) := fun S hS => by
 unfold Bo
 split
 ·exact (hf S hS).down (by decide)
 rename_i hc
 simp only [Bool.or_eq_true, not_or, bne_iff_ne, ne_eq, Decidable.not_not, Bool.not_eq_true', Bool.not_eq_false] at hc
 have hx := hf S hS
 have hq := hf (A2 (Bh l D S).2) hx.nest
 refine ⟨hq.nest, fun h0 => ?_⟩
 have hlv : Ak (A4 l (Bh l D S).2.i).text = ((3 : Nat) : Int) := by
  have hm := hc.2
  unfold isM at hm
  rw [Bool.and_eq_true] at hm
  have := hm.2
  rw [show Od = ofL 3 from rfl, Eb (.inr (.inr (.inl rfl)))] at this
  simpa using this
 have h1 := hx.need hc.1
 have h2 := hq.need h0
 show N + D7 3 (Bu (A4 l (Bh l D S).2.i).text (Bh l D S).1 (Bh l D (A2 (Bh l D S).2)).1) (B0 (Bu (A4 l (Bh l D S).2.i).text (Bh l D S).1 (Bh l D (A2 (Bh l D S).2)).1)) ≤ 30
 rw [Mb, hlv]
 rw [show D7 3 (Bu (A4 l (Bh l D S).2.i).text (Bh l D S).1 (Bh l D (A2 (Bh l D S).2)).1) _ = _ from if_pos (by rw [Mc, hlv]; simp)]
 rw [Int.toNat_natCast, show Cg 3 = 4 from rfl, show 3 + 1 = 4 from rfl]
 omega
theorem na {N : Nat} {l : List Tok} {D : Fam} (hN : N ≤ 30) (hf : NF N 3 (Bo l D)) (hn : N < 30 → NF (N + 1) 2 D.no) : NF N 2 (Ge l D) := fun S hS => by
 unfold Ge
 split
 ·exact (hf S hS).down (by decide)
 have hw := Nf (a := (A4 l S.i).at_) hN hn (show (A2 S).nest = N from hS)
 refine ⟨hw.1, fun h0 => ?_⟩
 have h1 := hw.2 h0
 show N + D7 2 (Bl 4 (Am (A4 l S.i).at_ D.no (A2 S)).1) _ ≤ 30
 unfold D7
 rw [Uk, if_pos (by decide), cp]
 omega
theorem bb (l : List Tok) : ∀ (d N : Nat), N + d = 30 → NF N 0 (In l (Ba l d)) ∧ NF N 2 (Ge l (Ba l d)) ∧ NF N 6 (Gd l (Ba l d))
 | d, N, h => by
  have ih : N < 30 → NF (N + 1) 0 (Ba l d).ei ∧ NF (N + 1) 2 (Ba l d).no ∧ NF (N + 1) 6 (Ba l d).ne := fun hlt => by
   match d, h with
   | 0, h => omega
   | d + 1, h => exact bb l d (N + 1) (by omega)
  have hneg := n8 (l := l) (D := Ba l d) (by omega) (fun h => (ih h).1) (fun h => (ih h).2.2)
  have hsum : NF N 4 (Bh l (Ba l d)) := It (k := 4) (by decide) (It (k := 5) (by decide) hneg)
  have hno := na (by omega) (n9 hsum) (fun h => (ih h).2.1)
  exact ⟨It (k := 0) (by decide) (It (k := 1) (by decide) hno), hno, hneg⟩
/-! What nests too deep is told to be too deep. -/
def F2 (l : List Tok) (x : Expr) : Prop := ∀ (k : Nat) (S : PS) (rest : List TK), (k = 0 ∨ k = 1 ∨ k = 4 ∨ k = 5) → k ≤ levE x → S.code = 0 → S.nest ≤ 30 → 30 < S.nest + B0 x → seg l S.i = Ah x ++ rest → stops (k + 1) rest → (Cc l (ofL k) (pf l (fam l S.nest) (k + 1)) S).2.code = 18
/-! What was parsed is right, where the words are the lexer's. -/
/-- What the lexer's words are. -/
structure WordOk (t : Tok) : Prop where
 name : t.kind = 1 → Gq t.text = true
 num : t.kind = 3 → Bw (Bz t.text).1 = true ∧ 0 ≤ (Bz t.text).1.n ∧ (Bz t.text).1.n ≤ 9223372036854775807
def RB (r : Expr × PS) : Prop := r.2.code = 0 → C0 Bk r.1 = true ∧ C0 Dz r.1 = true
def RF (N : Nat) (f : PS → Expr × PS) : Prop := ∀ S : PS, S.nest = N → RB (f S)
theorem nb {t : Str} {x y : Expr} (ht : 0 ≤ Ak t) : Bk (Bu t x y) = true := by
 rw [Gb, Bu, Es]
 simp [ht, show Gr noV = true from rfl]
theorem ix (x : Expr) : Bk (Bl 3 x) = true := by rw [Gb, Bl, Es]; simp [show Gr noV = true from rfl]
theorem iy (x : Expr) : Bk (Bl 4 x) = true := by rw [Gb, Bl, Es]; simp [show Gr noV = true from rfl]
theorem iz {v : Val} (h : Bw v = true) (h0 : 0 ≤ v.n) : Bk (Co v) = true := by rw [Gb, Co, Es]; simp [h, h0]
theorem bc {t : Str} (h : Gq t = true) : Bk (D6 t) = true := by rw [Gb, D6, Es]; simp [h, show Gr ⟨0, 0, []⟩ = true from rfl]
theorem j1 {t : Str} {k : List Expr} (h : B7 t = (k.length : Int)) : Bk (.mk 6 t noV k) = true := by rw [Gb, Es]; simp [h, show Gr noV = true from rfl]
theorem nc {t : Str} {x y : Expr} (ht : 0 ≤ Ak t) (hx : C0 Bk x = true ∧ C0 Dz x = true) (hy : C0 Bk y = true ∧ C0 Dz y = true) : C0 Bk (Bu t x y) = true ∧ C0 Dz (Bu t x y) = true := by
 rw [Dk, Dk]
 refine ⟨?_, ?_⟩
 ·rw [nb ht]
  show (true && (C0 Bk x && (C0 Bk y && true))) = true
  rw [hx.1, hy.1]; rfl
 show (Dz (Bu t x y) && (C0 Dz x && (C0 Dz y && true))) = true
 rw [hx.2, hy.2]; rfl
theorem nd {o : Int} {x : Expr} (ho : Bk (Bl o x) = true) (hx : C0 Bk x = true ∧ C0 Dz x = true) : C0 Bk (Bl o x) = true ∧ C0 Dz (Bl o x) = true := by
 rw [Dk, Dk]
 refine ⟨?_, ?_⟩
 ·rw [ho]
  show (true && (C0 Bk x && true)) = true
  rw [hx.1]; rfl
 show (Dz (Bl o x) && (C0 Dz x && true)) = true
 rw [hx.2]; rfl
theorem dh {x : Expr} (hn : Bk x = true) (hr : Dz x = true) (hk : x.kids = []) : C0 Bk x = true ∧ C0 Dz x = true := by
 rw [Dk, Dk, hk, hn, hr]
 exact ⟨rfl, rfl⟩
theorem Ng {N : Nat} {a : Int} {f : PS → Expr × PS} (hN : N ≤ 30) (hf : N < 30 → RF (N + 1) f) {S : PS} (hS : S.nest = N) : RB (Am a f S) := by
 unfold Am
 split
 ·exact ri
 rename_i h
 exact hf (by simp at h; omega) (Al S) (by show S.nest + 1 = N + 1; omega)
theorem di {N : Nat} {l : List Tok} {f : PS → Expr × PS} (hn : NF N 0 f) (hf : RF N f) : ∀ (n : Nat) (r : List Expr × PS), r.2.nest = N → (r.2.code = 0 → ∀ y ∈ r.1, C0 Bk y = true ∧ C0 Dz y = true) → ((argsF l f n r).2.code = 0 → ∀ y ∈ (argsF l f n r).1, C0 Bk y = true ∧ C0 Dz y = true)
 | 0, r, h1, h2 => h2
 | n + 1, r, h1, h2 => by
  rw [argsF]
  split
  ·rename_i hc
   simp only [Bool.and_eq_true, beq_iff_eq] at hc
   refine di hn hf n _ (hn (A2 r.2) h1).nest (fun h0 y hy => ?_)
   rcases List.mem_append.1 hy with hy | hy
   ·exact h2 hc.1 y hy
   rw [List.mem_singleton.1 hy]
   exact hf (A2 r.2) h1 h0
  exact h2
theorem tm {t : Str} (h : Ct t N5 = true) : Bw (Bz t).1 = true ∧ 0 ≤ (Bz t).1.n ∧ (Bz t).1.n ≤ 9223372036854775807 := by
 rw [aw] at h
 simp only [Bool.and_eq_true, litWords, List.contains_cons, List.contains_nil, Bool.or_false, Bool.or_eq_true, beq_iff_eq] at h
 rcases h.2 with rfl | rfl | rfl
 ·exact xq
 ·exact xq
 exact xq
theorem tq {v : Val} (h0 : 0 ≤ v.n) (h1 : v.n ≤ 9223372036854775807) : Dz (Co v) = true := by
 show (decide (-9223372036854775808 ≤ v.n) && decide (v.n ≤ 9223372036854775807)) = true
 simp only [Bool.and_eq_true, decide_eq_true_eq]
 omega
theorem tr {N : Nat} {l : List Tok} {D : Fam} (hw : ∀ i, WordOk (A4 l i)) (hN : N ≤ 30) (hD : N < 30 → NF (N + 1) 0 D.ei) (hR : N < 30 → RF (N + 1) D.ei) : RF N (C9 l D) := fun S hS => by
 have val : ∀ (v : Val) (S' : PS), Bw v = true → 0 ≤ v.n → v.n ≤ 9223372036854775807 → RB (Co v, S') := fun v S' h1 h2 h3 _ => dh (iz h1 h2) (tq h2 h3) rfl
 unfold C9
 split
 ·rename_i h; exact fun h0 => absurd h0 (by simpa using h)
 split
 ·rename_i h1 h2
  rw [Bool.or_eq_true] at h2
  rcases h2 with h2 | h2
  ·obtain ⟨a, b, c⟩ := (hw S.i).num (by simpa using h2)
   exact val _ _ a b c
  unfold isM at h2
  rw [Bool.and_eq_true] at h2
  obtain ⟨a, b, c⟩ := tm h2.2
  exact val _ _ a b c
 split
 ·refine val _ _ ?_ (by show (0 : Int) ≤ 0; decide) (by show (0 : Int) ≤ 9223372036854775807; decide)
  exact (mw _).plain
 split
 ·rename_i h1
  have hnm := (hw S.i).name (by simpa using h1)
  split
  ·unfold Dx
   split
   ·exact ri
   split
   ·exact ri
   rename_i h2 h3
   intro h0
   have h0' : (Ay l Aw (Av l D (A2 S)).2).code = 0 := h0
   have hlen : ((Av l D (A2 S)).1.length : Int) = B7 (A4 l S.i).text := by
    rw [h0'] at h3
    simpa using h3
   have hc := Ib h0'
   have hkids : ∀ y ∈ (Av l D (A2 S)).1, C0 Bk y = true ∧ C0 Dz y = true := by
    unfold Av F8 at hc ⊢
    by_cases h30 : ((A2 (A2 S)).nest : Int) == 30
    ·rw [if_pos h30] at hc
     exact xr
    rw [if_neg h30] at hc ⊢
    have hlt : N < 30 := by
     have : (A2 (A2 S)).nest = N := hS
     rw [this] at h30
     simp at h30
     omega
    have hd : (Al (A2 (A2 S))).nest = N + 1 := by show S.nest + 1 = N + 1; omega
    exact di (l := l) (hD hlt) (hR hlt) l.length ([(D.ei (Al (A2 (A2 S)))).1], (D.ei (Al (A2 (A2 S)))).2) (hD hlt _ hd).nest (fun h0 y hy => by rw [List.mem_singleton.1 hy]; exact hR hlt _ hd h0) hc
   show C0 Bk (.mk 6 _ noV _) = true ∧ C0 Dz (.mk 6 _ noV _) = true
   rw [Dk, Dk, j1 hlen.symm]
   exact ⟨by rw [Bool.true_and]; exact (D3 _ _).2 fun y hy => (hkids y hy).1, by
    rw [Bool.and_eq_true]
    exact ⟨rfl, (D3 _ _).2 fun y hy => (hkids y hy).2⟩⟩
  exact fun _ => dh (bc hnm) rfl rfl
 split
 ·intro h0
  exact Ng hN hR (show (A2 S).nest = N from hS) (Ib h0)
 exact ri
theorem Ov {N k : Nat} {l : List Tok} {f : PS → Expr × PS} (hk : k = 0 ∨ k = 1 ∨ k = 4 ∨ k = 5) (hn : NF N (k + 1) f) (hf : RF N f) : RF N (Cc l (ofL k) f) := by
 have hloop : ∀ (n : Nat) (r : Expr × PS), r.2.nest = N → RB r → RB (Eg l (ofL k) f n r) := by
  intro n
  induction n with
  | zero => exact fun r _ h => h
  | succ n ih =>
   intro r hr h
   rw [Eg]
   split
   ·rename_i hc
    simp only [Bool.and_eq_true, beq_iff_eq] at hc
    refine ih _ (hn (A2 r.2) hr).nest (fun h0 => ?_)
    have hlv : Ak (A4 l r.2.i).text = (k : Int) := by
     have hm := hc.2
     unfold isM at hm
     rw [Bool.and_eq_true] at hm
     have := hm.2
     rw [Eb (Md hk)] at this
     simpa using this
    exact nc (by omega) (h hc.1) (hf (A2 r.2) hr h0)
   exact h
 exact fun S hS => hloop _ _ (hn S hS).nest (hf S hS)
theorem ym {N : Nat} {l : List Tok} {D : Fam} (hn : NF N 4 (Bh l D)) (hf : RF N (Bh l D)) : RF N (Bo l D) := fun S hS => by
 unfold Bo
 split
 ·exact hf S hS
 rename_i hc
 simp only [Bool.or_eq_true, not_or, bne_iff_ne, ne_eq, Decidable.not_not, Bool.not_eq_true', Bool.not_eq_false] at hc
 intro h0
 have hlv : Ak (A4 l (Bh l D S).2.i).text = ((3 : Nat) : Int) := by
  have hm := hc.2
  unfold isM at hm
  rw [Bool.and_eq_true] at hm
  have := hm.2
  rw [show Od = ofL 3 from rfl, Eb (.inr (.inr (.inl rfl)))] at this
  simpa using this
 exact nc (by omega) (hf S hS hc.1) (hf (A2 (Bh l D S).2) (hn S hS).nest h0)
theorem nf (l : List Tok) (hw : ∀ i, WordOk (A4 l i)) : ∀ (d N : Nat), N + d = 30 → RF N (In l (Ba l d)) ∧ RF N (Ge l (Ba l d)) ∧ RF N (Gd l (Ba l d))
 | d, N, h => by
  have ihn : N < 30 → NF (N + 1) 0 (Ba l d).ei ∧ NF (N + 1) 2 (Ba l d).no ∧ NF (N + 1) 6 (Ba l d).ne := fun hlt => by
   match d, h with
   | 0, h => omega
   | d + 1, h => exact bb l d (N + 1) (by omega)
  have ih : N < 30 → RF (N + 1) (Ba l d).ei ∧ RF (N + 1) (Ba l d).no ∧ RF (N + 1) (Ba l d).ne := fun hlt => by
   match d, h with
   | 0, h => omega
   | d + 1, h => exact nf l hw d (N + 1) (by omega)
  have hN : N ≤ 30 := by omega
  have hnegN := n8 (l := l) (D := Ba l d) hN (fun h => (ihn h).1) (fun h => (ihn h).2.2)
  have hneg : RF N (Gd l (Ba l d)) := fun S hS => by
   unfold Gd
   split
   ·exact tr hw hN (fun h => (ihn h).1) (fun h => (ih h).1) S hS
   exact fun h0 => nd (ix _) (Ng hN (fun h => (ih h).2.2) (show (A2 S).nest = N from hS) h0)
  have hprodN : NF N 5 (M4 l (Ba l d)) := It (k := 5) (by decide) hnegN
  have hprod : RF N (M4 l (Ba l d)) := Ov (k := 5) (by decide) hnegN hneg
  have hsumN : NF N 4 (Bh l (Ba l d)) := It (k := 4) (by decide) hprodN
  have hsum : RF N (Bh l (Ba l d)) := Ov (k := 4) (by decide) hprodN hprod
  have hcmpN := n9 hsumN
  have hcmp := ym hsumN hsum
  have hnoN := na (l := l) (D := Ba l d) hN hcmpN (fun h => (ihn h).2.1)
  have hno : RF N (Ge l (Ba l d)) := fun S hS => by
   unfold Ge
   split
   ·exact hcmp S hS
   exact fun h0 => nd (iy _) (Ng hN (fun h => (ih h).2.1) (show (A2 S).nest = N from hS) h0)
  have hboN : NF N 1 (M5 l (Ba l d)) := It (k := 1) (by decide) hnoN
  have hbo : RF N (M5 l (Ba l d)) := Ov (k := 1) (by decide) hnoN hno
  exact ⟨Ov (k := 0) (by decide) hboN hbo, hno, hneg⟩
/-! The lexer's words. -/
theorem ng {c : UInt8} {r of : Str} (h : decide (0 < G9 ((c :: r).take 1) of) = true) : of.contains c = true := by
 rw [show (c :: r).take 1 = [c] from rfl, Hw] at h
 cases hc : of.contains c with
 | true => rfl
 | false => rw [hc] at h; simp at h
theorem nh {q : Str} (h0 : q ≠ []) (ha : ∀ c ∈ q, digs.contains c = true) (he : (Bz q).2 = 0) : Bw (Bz q).1 = true ∧ 0 ≤ (Bz q).1.n ∧ (Bz q).1.n ≤ 9223372036854775807 := by
 cases q with
 | nil => exact absurd rfl h0
 | cons c r =>
 have hc := ha c List.mem_cons_self
 have hn := Hh c hc
 have n1 : ((c :: r : Str) == [110, 117, 108, 108]) = false := by rw [beq_eq_false_iff_ne]; intro e; injection e with e; exact hn.2.2.2.1 e
 have n2 : ((c :: r : Str) == [116, 114, 117, 101]) = false := by rw [beq_eq_false_iff_ne]; intro e; injection e with e; exact hn.2.2.2.2.1 e
 have n3 : ((c :: r : Str) == [102, 97, 108, 115, 101]) = false := by rw [beq_eq_false_iff_ne]; intro e; injection e with e; exact hn.2.2.2.2.2 e
 have hq : Fh (c :: r) = false := by
  unfold Fh
  have : Lib.hasPrefix (c :: r) [39] = false := by simp [Lib.hasPrefix, List.isPrefixOf, Ne.symm hn.2.2.1]
  rw [this]
  simp
 unfold Bz at he ⊢
 rw [n1, n2, n3, hq] at he ⊢
 simp only [Bool.false_eq_true, if_false, Bool.or_self] at he ⊢
 split at he
 ·rename_i h1
  rw [if_pos h1]
  have hb : Cx (c :: r) = false := by
   cases hb : Cx (c :: r) with
   | false => rfl
   | true => unfold Ad at h1; rw [hb] at h1; simp at h1
  unfold Ad at h1 ⊢
  rw [hb] at h1 ⊢
  simp only [Bool.false_eq_true, if_false] at h1 ⊢
  have h43 : c.toNat ≠ 43 := fun e => hn.2.1 (UInt8.toNat_inj.1 (by rw [e]; rfl))
  have h45 : c.toNat ≠ 45 := fun e => hn.1 (UInt8.toNat_inj.1 (by rw [e]; rfl))
  have hp := Lib.parseIntB_plain 64 c r h43 h45
  cases hv : Lib.parseIntB 64 (c :: r) with
  | ok v =>
   have hb := Lib.parseIntB_bounds hv
   simp only [show ((2 ^ (64 - 1) : Nat) : Int) = 9223372036854775808 by decide] at hb
   rw [hp] at hv
   have h0 : 0 ≤ v := by
    cases hu : Lib.parseUintB 64 (c :: r) with
    | ok u =>
     rw [hu] at hv
     have e : Lib.signlessC (2 ^ (64 - 1)) (.ok u) = if 2 ^ (64 - 1) ≤ u then .range else .ok (u : Int) := rfl
     rw [e] at hv
     split at hv
     ·cases hv
     injection hv with hv
     omega
    | _ => rw [hu] at hv; cases hv
   exact ⟨rfl, h0, by show v ≤ 9223372036854775807; omega⟩
  | _ => first | (rw [hv] at h1; simp at h1; done) | (exact ⟨rfl, Int.le_refl 0, by show (0 : Int) ≤ 9223372036854775807; decide⟩)
 rename_i h1
 split at he
 ·simp at he
 simp at he
theorem Hm {p : UInt8 → Bool} : ∀ {l : Str} {b : UInt8}, b ∈ l.takeWhile p → p b = true
 | [], _, h => by cases h
 | a :: r, b, h => by
  rw [List.takeWhile_cons] at h
  by_cases ha : p a = true
  ·rw [if_pos ha] at h
   rcases List.mem_cons.1 h with rfl | h
   ·exact ha
   exact Hm h
  rw [if_neg ha] at h
  cases h
theorem j2 {s : Str} {n : Nat} (h0 : s ≠ []) (he : (Aq s).2.2.2 = 0) : WordOk ⟨(Aq s).1, (Aq s).2.1, n⟩ := by
 cases s with
 | nil => exact absurd rfl h0
 | cons c r =>
 unfold Aq at he ⊢
 by_cases h1 : decide (0 < G9 ((c :: r).take 1) letters) = true
 ·rw [if_pos h1] at he
  simp only [if_pos h1]
  unfold Hb at he ⊢
  by_cases r1 : Bs (Be (c :: r) tails) = true
  ·simp only [if_pos r1]
   exact Zj
  rw [if_neg r1] at he
  simp only [if_neg r1]
  by_cases r2 : (!Ch (Be (c :: r) tails)) = true
  ·rw [if_pos r2] at he; simp at he
  simp only [if_neg r2]
  exact ⟨fun _ => by rw [← E8]; simpa using r2, fun h => by cases h⟩
 rw [if_neg h1] at he
 simp only [if_neg h1]
 by_cases h2 : decide (0 < G9 ((c :: r).take 1) digs) = true
 ·rw [if_pos h2] at he
  simp only [if_pos h2]
  unfold Ii at he ⊢
  refine ⟨(fun h => by cases h), fun _ => nh ?_ (fun b hb => ?_) he⟩
  ·show Be (c :: r) digs ≠ []
   rw [Fo, List.takeWhile_cons, ng h2]
   simp
  have hb : b ∈ Be (c :: r) digs := hb
  rw [Fo] at hb
  exact Hm hb
 rw [if_neg h2] at he
 simp only [if_neg h2]
 by_cases h3 : ((((c :: r).getD 0 0).toNat : Int) == 39) = true
 ·rw [if_pos h3] at he
  simp only [if_pos h3]
  unfold El at he ⊢
  split
  ·exact Zj
  split
  ·exact Zj
  exact Zj
 simp only [if_neg h3]
 unfold Hc
 split
 ·exact Zj
 split
 ·exact Zj
 exact Zj
theorem Xg : ∀ (f q : Nat) (s : Str), ∀ it ∈ Cj f q s, it.2 = 0 → WordOk it.1
 | 0, _, _, it, h, _ => by cases h
 | f + 1, q, s, it, h, h0 => by
  rw [Cj] at h
  split at h
  ·cases h
  rename_i hs
  have hne : s ≠ [] := by rintro rfl; exact hs rfl
  rcases List.mem_cons.1 h with rfl | h
  ·exact j2 hne h0
  split at h
  ·exact Xg f _ _ it h h0
  cases h
theorem ni (n : Nat) : WordOk ⟨0, [], n⟩ := ⟨(fun h => by cases h), (fun h => by cases h)⟩
set_option maxRecDepth 4000
/-! Both parsers do the same; where there is a fault the trees play no part. -/
def Sim (r q : Expr × PS) : Prop := r.2 = q.2 ∧ (q.2.code = 0 → r.1 = q.1)
def Ex (l : List Tok) (n : Nat) (f g : PS → Expr × PS) : Prop := ∀ S, S.i < l.length → S.nest = n → S.code = 0 → Sim (f S) (g S)
theorem Sim.refl (r : Expr × PS) : Sim r r := ⟨rfl, fun _ => rfl⟩
theorem Uq {l : List Tok} {w : Str} (hw : (32 : UInt8) ∉ w) (h0 : w ≠ []) (S : PS) : isM l (32 :: (w ++ [32])) S = isR l w S := by unfold isM isR; rw [X0 hw h0]
theorem tw {l : List Tok} (S : PS) : isM l Wt S = isR l Ip S := Uq (w := Ip) (by decide) (by decide) S
theorem j3 {l : List Tok} (S : PS) : isM l Wu S = isR l Ju S := Uq (w := Ju) (by decide) (by decide) S
theorem Xh {l : List Tok} (S : PS) : isM l opT S = isR l Jt S := Uq (w := Jt) (by decide) (by decide) S
theorem T6 {l : List Tok} (S : PS) : isM l Gm S = isR l az S := Uq (w := az) (by decide) (by decide) S
theorem tz {l : List Tok} (S : PS) : isM l N5 S = ((isR l Su S || isR l Na S) || isR l Sv S) := by
 unfold isM isR
 rw [F7 (ws := [Su, Na, Sv]) (by kernel_rfl) (by decide)]
 by_cases h0 : (A4 l S.i).text = []
 ·rw [h0]; cases (((A4 l S.i).kind == 5) || ((A4 l S.i).kind == 2)) <;> rfl
 have : ((A4 l S.i).text == []) = false := by simpa using h0
 rw [this]
 simp only [Bool.not_false, Bool.true_and, List.contains_cons, List.contains_nil, Bool.or_false]
 cases (((A4 l S.i).kind == 5) || ((A4 l S.i).kind == 2)) <;> simp [Bool.or_assoc]
theorem dj {l : List Tok} {k : Nat} (hk : k = 0 ∨ k = 1 ∨ k = 3 ∨ k = 4 ∨ k = 5) (S : PS) : isM l (ofL k) S = X6 l k S := by unfold isM X6; rw [Eb hk]
/-- What the lexer's words are. -/
def Ky (t : Tok) : Prop := (t.kind = 3 → (Bz t.text).1 = ⟨1, (Ad t.text).1, []⟩) ∧ (t.kind = 4 → t.text.length ≤ 200)
theorem nj {l : List Tok} {n : Nat} {f g : PS → Expr × PS} (a : Int) (hn : n ≤ 30) (h : n < 30 → Ex l (n + 1) f g) : Ex l n (inR a f) (Am a g) := by
 intro S hi hS hc
 unfold inR Am
 have e : ((S.code != 0) || decide ((30 : Int) ≤ (S.nest : Int))) = ((S.nest : Int) == 30) := by
  rw [hc, Bool.eq_iff_iff]
  simp
  omega
 rw [e]
 cases h2 : ((S.nest : Int) == 30) with
 | true => exact Sim.refl _
 | false =>
  have h30 : n < 30 := by rw [beq_eq_false_iff_ne] at h2; omega
  obtain ⟨h3, h4⟩ := h h30 (Al S) hi (by show S.nest + 1 = _; rw [hS]) hc
  exact ⟨by show Do (f (Al S)).2 = Do (g (Al S)).2; rw [h3], h4⟩
theorem dk {t : Str} {r q a b : Expr × PS} (h : r.1 = q.1) (h2 : Sim a b) : Sim (Bu t r.1 a.1, a.2) (Bu t q.1 b.1, b.2) := ⟨h2.1, fun hc => by show Bu t r.1 a.1 = Bu t q.1 b.1; rw [h, h2.2 hc]⟩
theorem Xi {l : List Tok} {n k : Nat} {f g : PS → Expr × PS} (hk : k = 0 ∨ k = 1 ∨ k = 4 ∨ k = 5) (hl : TokEnd l) (hg : Bb l n g) (h : Ex l n f g) : ∀ (m : Nat) (r q : Expr × PS), Sim r q → q.2.i < l.length → q.2.nest = n → Sim (Hi l k f m r) (Eg l (ofL k) g m q)
 | 0, r, q, hs, _, _ => hs
 | m + 1, r, q, hs, hi, hn => by
  rw [Hi, Eg, hs.1]
  have e : Jv l k q.2 = ((q.2.code == 0) && isM l (ofL k) q.2) := by
   unfold Jv
   rw [dj (by omega)]
   rcases hk with rfl | rfl | rfl | rfl <;> simp
  rw [e]
  cases hc : ((q.2.code == 0) && isM l (ofL k) q.2) with
  | false => exact hs
  | true =>
   have hc2 := Bool.and_eq_true_iff.1 hc
   have h0 : q.2.code = 0 := by simpa using hc2.1
   have hi1 : (A2 q.2).i < l.length := hl.stepIs hi hc2.2
   have e3 : ((k : Int) == 3) = false := by rcases hk with rfl | rfl | rfl | rfl <;> rfl
   rw [e3]
   simp only [if_true, Bool.false_eq_true, if_false]
   have hq := hg (A2 q.2) hi1 hn
   exact Xi hk hl hg h m _ _ (dk (r := r) (q := q) (hs.2 h0) (h (A2 q.2) hi1 hn h0)) hq.lt (hq.nest.trans hn)
theorem Mi {l : List Tok} {n k : Nat} {f g : PS → Expr × PS} {D : Nat → PS → Expr × PS} (hk : k = 0 ∨ k = 1 ∨ k = 4 ∨ k = 5) (hl : TokEnd l) (hg : Bb l n g) (h : Ex l n f g) : Ex l n (lvS l D k f) (Cc l (ofL k) g) := by
 intro S hi hn hc
 unfold lvS
 have hq := hg S hi hn
 have e2 : ((k : Int) == 2) = false ∧ ((k : Int) == 6) = false ∧ ((k : Int) == 7) = false := by rcases hk with rfl | rfl | rfl | rfl <;> decide
 rw [if_neg (by rw [hc]; decide), e2.1, e2.2.1, e2.2.2]
 simp only [Bool.false_and, Bool.false_eq_true, if_false]
 exact Xi hk hl hg h l.length _ _ (h S hi hn hc) hq.lt (hq.nest.trans hn)
theorem u1 {l : List Tok} {n : Nat} {f : PS → Expr × PS} {D : Nat → PS → Expr × PS} {D' : Fam} (hl : TokEnd l) (hg : Bb l n (Bh l D')) (h : Ex l n f (Bh l D')) : Ex l n (lvS l D 3 f) (Bo l D') := by
 intro S hi hn hc
 unfold lvS Bo
 have hq := hg S hi hn
 have hs := h S hi hn hc
 rw [if_neg (by rw [hc]; decide)]
 simp only [show (((3 : Nat) : Int) == 2) = false from rfl, show (((3 : Nat) : Int) == 6) = false from rfl, show (((3 : Nat) : Int) == 7) = false from rfl, Bool.false_and, Bool.false_eq_true, if_false]
 obtain ⟨m, hm⟩ : ∃ m, l.length = m + 1 := ⟨l.length - 1, by omega⟩
 rw [hm, Hi, hs.1]
 have e : Jv l 3 (Bh l D' S).2 = !(((Bh l D' S).2.code != 0) || !isM l Od (Bh l D' S).2) := by
  unfold Jv
  rw [show Od = ofL 3 from rfl, dj (by decide)]
  simp [Bool.not_or, bne]
 rw [e]
 cases hb : (((Bh l D' S).2.code != 0) || !isM l Od (Bh l D' S).2) with
 | true => exact hs
 | false =>
  simp only [Bool.not_false, if_true, Bool.false_eq_true, if_false, show (((3 : Nat) : Int) == 3) = true from rfl]
  simp only [Bool.or_eq_false_iff, bne_eq_false_iff_eq, Bool.not_eq_false'] at hb
  exact dk (r := f S) (q := Bh l D' S) (hs.2 hb.1) (h _ (hl.stepIs hq.lt hb.2) (hq.nest.trans hn) hb.1)
theorem Qq {l : List Tok} {s : Str} {S : PS} (h : (S.code != 0) = true) : Ay l s S = S := if_pos h
theorem be {e a : Int} {S : PS} (h : (S.code != 0) = true) : B4 e a S = S := if_neg (by simpa using h)
/-- A call's kids. -/
def AC0 (n : Nat) (r q : List Expr × PS) : Prop := r.2 = Do q.2 ∧ q.2.nest = n + 1 ∧ (q.2.code = 0 → r.1 = q.1)
theorem j4 {S : PS} {n : Nat} (h : S.nest = n + 1) : Al (Do S) = S := by
 cases S
 unfold Al Do
 simp only at h ⊢
 subst h
 rfl
theorem Xj {l : List Tok} {n : Nat} {f g : PS → Expr × PS} (a : Int) (hn : n < 30) (hl : TokEnd l) (hg : Bb l (n + 1) g) (h : Ex l (n + 1) f g) : ∀ (m : Nat) (r q : List Expr × PS), AC0 n r q → q.2.i < l.length → AC0 n (argsF l (inR a f) m r) (argsF l g m q)
 | 0, r, q, hs, _ => hs
 | m + 1, r, q, hs, hi => by
  have e : ((r.2.code == 0) && isM l Gm r.2) = ((q.2.code == 0) && isM l Gm q.2) := by rw [hs.1]; rfl
  rw [argsF, argsF, e]
  cases hc : ((q.2.code == 0) && isM l Gm q.2) with
  | false => exact hs
  | true =>
   have hc2 := Bool.and_eq_true_iff.1 hc
   have h0 : q.2.code = 0 := by simpa using hc2.1
   have hi1 : (A2 q.2).i < l.length := hl.stepIs hi hc2.2
   have hq := hg (A2 q.2) hi1 hs.2.1
   have hsm := h (A2 q.2) hi1 hs.2.1 h0
   have ein : inR a f (A2 r.2) = ((f (A2 q.2)).1, Do (f (A2 q.2)).2) := by
    unfold inR
    have e1 : Al (A2 r.2) = A2 q.2 := by rw [hs.1]; exact j4 (S := A2 q.2) hs.2.1
    have e2 : (A2 r.2).code = 0 := by rw [hs.1]; exact h0
    have e3 : (A2 r.2).nest = n := by rw [hs.1]; show q.2.nest - 1 = n; rw [hs.2.1]; rfl
    rw [if_neg (by rw [e2, e3]; simp; omega), e1]
   simp only [if_true]
   rw [ein]
   exact Xj a hn hl hg h m _ _ ⟨by show Do (f (A2 q.2)).2 = Do (g (A2 q.2)).2; rw [hsm.1], hq.nest.trans hs.2.1, fun hc => by show r.1 ++ [(f (A2 q.2)).1] = q.1 ++ [(g (A2 q.2)).1]; rw [hs.2.2 h0, hsm.2 hc]⟩ hq.lt
theorem nk {l : List Tok} {n : Nat} {f g : PS → Expr × PS} (a : Int) (hn : n ≤ 30) (hl : TokEnd l) (hg : n < 30 → Bb l (n + 1) g) (h : n < 30 → Ex l (n + 1) f g) {S : PS} (hi : S.i < l.length) (hS : S.nest = n) (hc : S.code = 0) : (cr l a f S).2 = (F8 l a g S).2 ∧ ((F8 l a g S).2.code = 0 → (cr l a f S).1 = (F8 l a g S).1) := by
 unfold cr F8 Ea
 cases h2 : ((S.nest : Int) == 30) with
 | true =>
  have e : inR a f S = (Aj, B4 18 a S) := by
   unfold inR
   rw [if_pos (by rw [beq_iff_eq] at h2; rw [h2]; simp)]
  have e2 : B4 18 a S = ⟨S.i, S.nest, 18, a⟩ := if_pos (by rw [hc]; rfl)
  rw [e, e2]
  simp only [if_true]
  have e3 : ∀ m, argsF l (inR a f) m ([Aj], ⟨S.i, S.nest, 18, a⟩) = ([Aj], ⟨S.i, S.nest, 18, a⟩) := fun m => by cases m <;> rfl
  rw [e3]
  exact xt
 | false =>
  have h30 : n < 30 := by rw [beq_eq_false_iff_ne] at h2; omega
  have hq := hg h30 (Al S) hi (by show S.nest + 1 = _; rw [hS])
  have hsm := h h30 (Al S) hi (by show S.nest + 1 = _; rw [hS]) hc
  have e : inR a f S = ((f (Al S)).1, Do (f (Al S)).2) := by
   unfold inR
   rw [if_neg (by rw [hc, hS]; simp; omega)]
  rw [e]
  simp only [Bool.false_eq_true, if_false]
  have := Xj a h30 hl (hg h30) (h h30) l.length ([(f (Al S)).1], Do (f (Al S)).2) ([(g (Al S)).1], (g (Al S)).2) ⟨by show Do (f (Al S)).2 = Do (g (Al S)).2; rw [hsm.1], hq.nest.trans (by show S.nest + 1 = _; rw [hS]), fun hc => by show [(f (Al S)).1] = [(g (Al S)).1]; rw [hsm.2 hc]⟩ hq.lt
  exact ⟨this.1, this.2.2⟩
theorem nl {l : List Tok} {n : Nat} {f : PS → Expr × PS} {D' : Fam} (hn : n ≤ 30) (hl : TokEnd l) (hg : n < 30 → Bb l (n + 1) D'.ei) (h : n < 30 → Ex l (n + 1) f D'.ei) {S : PS} {t : Tok} (hi : (A2 S).i < l.length) (hS : S.nest = n) (hc : S.code = 0) (ha : ¬ Gn t.text < 0) : Sim (Iq l f t S) (Dx l D' t S) := by
 obtain ⟨h1, h2⟩ := nk (A4 l S.i).at_ hn hl hg h (S := A2 S) hi hS hc
 have h1 : (Dc l f S).2 = (Av l D' S).2 := h1
 have h2 : (Av l D' S).2.code = 0 → (Dc l f S).1 = (Av l D' S).1 := h2
 unfold Dx
 rw [So, if_neg ha]
 cases hw : ((Ay l Aw (Av l D' S).2).code != 0) with
 | true =>
  have hw0 : ((Ay l Aw (Av l D' S).2).code == 0) = false := by simpa using hw
  rw [hw0]
  simp only [Bool.false_and, Bool.false_eq_true, if_false]
  refine ⟨?_, fun h => by have : (Ay l Aw (Av l D' S).2).code = 0 := h; rw [this] at hw; cases hw⟩
  show Dd l f t S = Ay l Aw (Av l D' S).2
  unfold Dd
  rw [h1, be hw]
  split <;> rfl
 | false =>
  have hw0 : (Ay l Aw (Av l D' S).2).code = 0 := by simpa using hw
  have hk0 : (Av l D' S).2.code = 0 := by
   cases hk : ((Av l D' S).2.code != 0) with
   | true => rw [Qq hk] at hw0; rw [hw0] at hk; cases hk
   | false => simpa using hk
  have hx := h2 hk0
  rw [hw0]
  simp only [beq_self_eq_true, Bool.true_and]
  cases hb : (((Av l D' S).1.length : Int) == Gn t.text) with
  | true =>
   simp only [Bool.not_true, Bool.false_eq_true, if_false]
   refine ⟨?_, fun _ => by show Expr.mk 6 t.text noV (Dc l f S).1 = _; rw [hx]⟩
   show Dd l f t S = _
   unfold Dd
   rw [h1, hx, if_neg (by simpa using hb)]
  | false =>
   simp only [Bool.not_false, if_true]
   have e : B4 8 t.at_ (Ay l Aw (Av l D' S).2) = ⟨(Ay l Aw (Av l D' S).2).i, (Ay l Aw (Av l D' S).2).nest, 8, t.at_⟩ := if_pos (by rw [hw0]; rfl)
   refine ⟨?_, fun h => by rw [e] at h; exact absurd h (by show ¬ (8 : Int) = 0; decide)⟩
   show Dd l f t S = _
   unfold Dd
   rw [h1, hx, if_pos (by simpa using hb)]
theorem nn {l : List Tok} {S : PS} {w : Str} {k : Int} (h : (A4 l S.i).kind = k) (h5 : k ≠ 5) (h2 : k ≠ 2) : isR l w S = false := by
 unfold isR
 rw [h, beq_eq_false_iff_ne.2 h5, beq_eq_false_iff_ne.2 h2]
 rfl
theorem Mj {l : List Tok} {S : PS} {w : Str} (h : isR l w S = true) : (A4 l S.i).text = w ∧ ((A4 l S.i).kind = 5 ∨ (A4 l S.i).kind = 2) := by
 unfold isR at h
 simp only [Bool.and_eq_true, Bool.or_eq_true, beq_iff_eq] at h
 exact ⟨h.2, h.1⟩
theorem np {l : List Tok} {n : Nat} {f : PS → Expr × PS} {D' : Fam} (hn : n ≤ 30) (hl : TokEnd l) (ht : ∀ i, Ky (A4 l i)) (hg : n < 30 → Bb l (n + 1) D'.ei) (h : n < 30 → Ex l (n + 1) f D'.ei) : Ex l n (Cp l f) (C9 l D') := by
 intro S hi hS hc
 unfold Cp C9
 rw [if_neg (show ¬ (S.code != 0) = true by rw [hc]; decide), tz, Xh, Xh]
 cases h3 : ((A4 l S.i).kind == 3) with
 | true =>
  simp only [if_true, Bool.true_or]
  rw [(ht S.i).1 (by simpa using h3)]
  exact Sim.refl _
 | false =>
  simp only [Bool.false_eq_true, if_false, Bool.false_or]
  cases h4 : ((A4 l S.i).kind == 4) with
  | true =>
   have h4' : (A4 l S.i).kind = 4 := by simpa using h4
   simp only [if_true, nn h4' (by decide) (by decide), Bool.or_self, Bool.false_eq_true, if_false]
   rw [List.take_of_length_le ((ht S.i).2 h4')]
   exact Sim.refl _
  | false =>
   simp only [Bool.false_eq_true, if_false]
   cases b1 : isR l Su S with
   | true =>
    simp only [if_true, Bool.true_or]
    rw [(Mj b1).1]
    exact Oc
   | false =>
    cases b2 : isR l Na S with
    | true =>
     simp only [if_true, Bool.true_or, Bool.or_true, Bool.false_eq_true, if_false]
     rw [(Mj b2).1]
     exact Oc
    | false =>
     cases b3 : isR l Sv S with
     | true =>
      simp only [if_true, Bool.or_true, Bool.false_eq_true, if_false]
      rw [(Mj b3).1]
      exact Oc
     | false =>
      simp only [Bool.or_self, Bool.false_eq_true, if_false]
      cases b4 : isR l Jt S with
      | true =>
       have hk := (Mj b4).2
       have h1 : ((A4 l S.i).kind == 1) = false := by rw [beq_eq_false_iff_ne]; omega
       simp only [h1, if_true, Bool.false_eq_true, if_false]
       obtain ⟨s1, s2⟩ := nj (A4 l S.i).at_ hn h (A2 S) (hl.step hi (by omega)) hS hc
       refine ⟨by show Ay l Aw _ = Ay l Aw _; rw [s1], fun hw => s2 ?_⟩
       cases hk : ((Am (A4 l S.i).at_ D'.ei (A2 S)).2.code != 0) with
       | true =>
        have hw : (Ay l Aw (Am (A4 l S.i).at_ D'.ei (A2 S)).2).code = 0 := hw
        rw [Qq hk] at hw; rw [hw] at hk; cases hk
       | false => simpa using hk
      | false =>
       simp only [Bool.false_eq_true, if_false]
       cases h1 : ((A4 l S.i).kind == 1) with
       | false => exact Sim.refl _
       | true =>
        simp only [if_true]
        cases b5 : isR l Jt (A2 S) with
        | false => simp only [Bool.not_false, if_true, Bool.false_eq_true, if_false]; exact Sim.refl _
        | true =>
         simp only [Bool.not_true, Bool.false_eq_true, if_false, if_true]
         have hi1 : (A2 S).i < l.length := hl.step hi (by rw [beq_iff_eq] at h1; omega)
         by_cases ha : Gn (A4 l S.i).text < 0
         ·rw [decide_eq_true ha]
          unfold Dx
          rw [So, if_pos ha]
          exact Sim.refl _
         rw [decide_eq_false ha]
         exact nl hn hl hg h (hl.step hi1 (F9 b5)) hS hc ha
theorem dl {l : List Tok} {n : Nat} {a o : Int} {f g : PS → Expr × PS} (hn : n ≤ 30) (h : n < 30 → Ex l (n + 1) f g) {S : PS} (hi : S.i < l.length) (hS : S.nest = n) (hc : S.code = 0) : Sim (Bl o (inR a f S).1, (inR a f S).2) (Bl o (Am a g S).1, (Am a g S).2) := by
 obtain ⟨s1, s2⟩ := nj a hn h S hi hS hc
 exact ⟨s1, fun hc => by show Bl o _ = Bl o _; rw [s2 hc]⟩
theorem u6 {l : List Tok} {n : Nat} {f : PS → Expr × PS} {D : Nat → PS → Expr × PS} {D' : Fam} (hn : n ≤ 30) (hl : TokEnd l) (h6 : n < 30 → Ex l (n + 1) (D 6) D'.ne) (h : Ex l n f (C9 l D')) (hf : ∀ S, S.code = 0 → lvS l D 6 f S = if isR l Ju S then (Bl 3 (inR (A4 l S.i).at_ (D 6) (A2 S)).1, (inR (A4 l S.i).at_ (D 6) (A2 S)).2) else f S) : Ex l n (lvS l D 6 f) (Gd l D') := by
 intro S hi hS hc
 rw [hf S hc]
 unfold Gd
 rw [j3]
 cases hb : isR l Ju S with
 | true =>
  simp only [if_true, Bool.not_true, Bool.false_eq_true, if_false]
  exact dl hn h6 (hl.step hi (F9 hb)) hS hc
 | false =>
  simp only [if_true, Bool.not_false, Bool.false_eq_true, if_false]
  exact h S hi hS hc
theorem u7 {l : List Tok} {n : Nat} {f : PS → Expr × PS} {D : Nat → PS → Expr × PS} {D' : Fam} (hn : n ≤ 30) (hl : TokEnd l) (h6 : n < 30 → Ex l (n + 1) (D 2) D'.no) (h : Ex l n f (Bo l D')) (hf : ∀ S, S.code = 0 → lvS l D 2 f S = if isR l Ip S then (Bl 4 (inR (A4 l S.i).at_ (D 2) (A2 S)).1, (inR (A4 l S.i).at_ (D 2) (A2 S)).2) else f S) : Ex l n (lvS l D 2 f) (Ge l D') := by
 intro S hi hS hc
 rw [hf S hc]
 unfold Ge
 rw [tw]
 cases hb : isR l Ip S with
 | true =>
  simp only [if_true, Bool.not_true, Bool.false_eq_true, if_false]
  exact dl hn h6 (hl.step hi (F9 hb)) hS hc
 | false =>
  simp only [if_true, Bool.not_false, Bool.false_eq_true, if_false]
  exact h S hi hS hc
theorem T7 {l : List Tok} {k m : Nat} {f : PS → Expr × PS} {r : Expr × PS} (hk : k = 2 ∨ k = 6) : Hi l k f m r = r := by
 cases m with
 | zero => rfl
 | succ m =>
  rw [Hi, if_neg]
  unfold Jv
  rcases hk with rfl | rfl <;> simp
theorem ADr {l : List Tok} {f : PS → Expr × PS} {D : Nat → PS → Expr × PS} (S : PS) (hc : S.code = 0) : lvS l D 6 f S = if isR l Ju S then (Bl 3 (inR (A4 l S.i).at_ (D 6) (A2 S)).1, (inR (A4 l S.i).at_ (D 6) (A2 S)).2) else f S := by
 unfold lvS
 rw [if_neg (by rw [hc]; decide), T7 (.inr rfl)]
 rfl
theorem ADs {l : List Tok} {f : PS → Expr × PS} {D : Nat → PS → Expr × PS} (S : PS) (hc : S.code = 0) : lvS l D 2 f S = if isR l Ip S then (Bl 4 (inR (A4 l S.i).at_ (D 2) (A2 S)).1, (inR (A4 l S.i).at_ (D 2) (A2 S)).2) else f S := by
 unfold lvS
 rw [if_neg (by rw [hc]; decide), T7 (.inl rfl)]
 rfl
theorem ADt {l : List Tok} {f : PS → Expr × PS} {D : Nat → PS → Expr × PS} (S : PS) (hc : S.code = 0) : lvS l D 7 f S = Cp l (D 0) S := by
 unfold lvS
 rw [if_neg (by rw [hc]; decide)]
 rfl
theorem dm {l : List Tok} (hl : TokEnd l) (hll : l.length ≤ 1048576) (ht : ∀ i, Ky (A4 l i)) : ∀ (d n : Nat), n + d = 31 → n ≤ 30 → Ex l n (Hj l d 0) (Ba l d).ei ∧ Ex l n (Hj l d 2) (Ba l d).no ∧ Ex l n (Hj l d 6) (Ba l d).ne
 | 0, n, h, hn => by omega
 | d + 1, n, h, hn => by
  have ih : n < 30 → _ := fun h30 => dm hl hll ht d (n + 1) (by omega) (by omega)
  have gd : n ≠ 30 → _ := fun h30 => Kk hl hll d (n + 1) (by omega) (by omega)
  have g1 : Bb l n (Gd l (Ba l d)) := Kj hl hll (fun h => (gd h).1) (fun h => (gd h).2.2)
  have g2 : Bb l n (M4 l (Ba l d)) := D5 hl g1
  have g3 : Bb l n (Bh l (Ba l d)) := D5 hl g2
  have g5 : Bb l n (Ge l (Ba l d)) := N6 hl hll (fun h => (gd h).1) (fun h => (gd h).2.2) (fun h => (gd h).2.1)
  have g6 : Bb l n (M5 l (Ba l d)) := D5 hl g5
  have s0 : Ex l n (lvN l (Hj l d) 7) (C9 l (Ba l d)) := fun S hi hS hc => by
   show Sim (lvS l (Hj l d) 7 _ S) _
   rw [ADt S hc]
   exact np hn hl ht (fun h => (gd (by omega)).1) (fun h => (ih h).1) S hi hS hc
  have s1 : Ex l n (lvN l (Hj l d) 6) (Gd l (Ba l d)) := by rw [Jw (by decide)]; exact u6 hn hl (fun h => (ih h).2.2) s0 ADr
  have s2 : Ex l n (lvN l (Hj l d) 5) (M4 l (Ba l d)) := by rw [Jw (by decide)]; exact Mi (k := 5) (by decide) hl g1 s1
  have s3 : Ex l n (lvN l (Hj l d) 4) (Bh l (Ba l d)) := by rw [Jw (by decide)]; exact Mi (k := 4) (by decide) hl g2 s2
  have s4 : Ex l n (lvN l (Hj l d) 3) (Bo l (Ba l d)) := by rw [Jw (by decide)]; exact u1 hl g3 s3
  have s5 : Ex l n (lvN l (Hj l d) 2) (Ge l (Ba l d)) := by rw [Jw (by decide)]; exact u7 hn hl (fun h => (ih h).2.1) s4 ADs
  have s6 : Ex l n (lvN l (Hj l d) 1) (M5 l (Ba l d)) := by rw [Jw (by decide)]; exact Mi (k := 1) (by decide) hl g5 s5
  have s7 : Ex l n (lvN l (Hj l d) 0) (In l (Ba l d)) := by rw [Jw (by decide)]; exact Mi (k := 0) (by decide) hl g6 s6
  exact ⟨s7, s5, s1⟩
/-- From a word on. -/
def D8 (l : List Tok) (i : Nat) : Expr × PS := Hj l 31 0 ⟨i, 0, 0, 0⟩
def Xk (l : List Tok) (i : Nat) : Expr × Int × Int × Int := if (atS l i (D8 l i)).code != 0 then (Aj, 0, (atS l i (D8 l i)).code, (atS l i (D8 l i)).at_) else ((D8 l i).1, ((atS l i (D8 l i)).i : Int), 0, 0)
theorem ua {l : List Tok} (hl : TokEnd l) (hll : l.length ≤ 1048576) (ht : ∀ i, Ky (A4 l i)) {i : Nat} (hi : i < l.length) : Xk l i = atM l i := by
 obtain ⟨h1, h2⟩ : Sim (D8 l i) (atR l i) := (dm hl hll ht 31 0 rfl (by decide)).1 ⟨i, 0, 0, 0⟩ hi rfl rfl
 unfold Xk atM
 cases hc : ((atR l i).2.code != 0) with
 | true =>
  have e1 : atS l i (atR l i) = (atR l i).2 := if_pos hc
  have e2 : atS l i (D8 l i) = (atR l i).2 := by unfold atS; rw [h1, if_pos hc]
  rw [e1, e2, hc]
  rfl
 | false =>
  have hx : D8 l i = atR l i := Prod.ext (h2 (by simpa using hc)) h1
  rw [hx]
/-! The lexer byte by byte. -/
/-- The lexer from a place on; b: within a note. -/
def j5 (b : Bool) (f q : Nat) (s : Str) : List (Tok × Int) := Cj f (q + (s.length - (Bm s b).length)) (Bm s b)
theorem nq (f q : Nat) (s : Str) : Im f q s = j5 false f q s := by unfold j5 Im; rw [mg]; rfl
def Fa (b : Bool) (s : Str) (k p : Nat) : Prop := (∃ f, s.length - p < f ∧ (Ax s).drop k = j5 b f p (s.drop p)) ∧ p ≤ s.length ∧ ∀ j, j < k → ∃ it, (Ax s)[j]? = some it ∧ it.2 = 0
theorem bf (s : Str) : Fa false s 0 0 := ⟨⟨s.length + 1, by omega, by rw [List.drop_zero, List.drop_zero, ← nq]; exact Wp s⟩, Nat.zero_le _, fun j hj => by omega⟩
theorem En {s : Str} {p : Nat} (hp : p < s.length) : s.drop p = s[p] :: s.drop (p + 1) := List.drop_eq_getElem_cons hp
theorem Qr {b b' : Bool} {s : Str} {k p : Nat} (h : Fa b s k p) (hp : p < s.length) (e : Bm (s.drop p) b = Bm (s.drop (p + 1)) b') : Fa b' s k (p + 1) := by
 obtain ⟨⟨f, hf, hd⟩, h1, h2⟩ := h
 refine ⟨⟨f, by omega, ?_⟩, hp, h2⟩
 rw [hd]
 unfold j5
 rw [e]
 have hl := Ih (s.drop (p + 1)) b'
 have l1 : (s.drop p).length = (s.drop (p + 1)).length + 1 := by rw [List.length_drop, List.length_drop]; omega
 congr 1
 omega
theorem Qs {b b' : Bool} {s : Str} {k p : Nat} (h : Fa b s k p) (e : Bm (s.drop p) b = Bm (s.drop p) b') : Fa b' s k p := by
 obtain ⟨⟨f, hf, hd⟩, h1, h2⟩ := h
 refine ⟨⟨f, hf, ?_⟩, h1, h2⟩
 rw [hd]
 unfold j5
 rw [e]
theorem Xl {s : Str} {k p : Nat} (h : Fa false s k p) (hp : p < s.length) (hb : blanks.contains s[p] = true) : Fa false s k (p + 1) :=
 Qr h hp (by rw [En hp, Bm, if_pos hb])
theorem bg {s : Str} {k p : Nat} (h : Fa false s k p) (hp : p < s.length) (hb : s[p] = 35) : Fa true s k p :=
 Qs h (by rw [En hp, Bm, Bm, hb]; rfl)
theorem nr {s : Str} {k p : Nat} (h : Fa true s k p) (hp : p < s.length) (hb : s[p] ≠ 10) : Fa true s k (p + 1) :=
 Qr h hp (by rw [En hp, Bm, if_neg (by simpa using hb)])
theorem j6 {s : Str} {k p : Nat} (h : Fa true s k p) (hb : s.length ≤ p ∨ ∃ hp : p < s.length, s[p] = 10) : Fa false s k p := by
 refine Qs h ?_
 rcases hb with hb | ⟨hp, hb⟩
 ·rw [List.drop_eq_nil_iff.2 hb]; rfl
 rw [En hp, hb, Bm, Bm]
 rfl
theorem T8 {s : Str} {k p : Nat} (h : Fa false s k p) (hg : s.length ≤ p ∨ ∃ hp : p < s.length, blanks.contains s[p] = false ∧ s[p] ≠ 35) : J0 s k p := by
 obtain ⟨⟨f, hf, hd⟩, h1, h2⟩ := h
 refine ⟨⟨f, by rw [List.length_drop]; exact hf, ?_⟩, h1, h2⟩
 rw [hd]
 have e : Bm (s.drop p) false = s.drop p := by
  rcases hg with hg | ⟨hp, hg, h35⟩
  ·rw [List.drop_eq_nil_iff.2 hg]; rfl
  rw [En hp, Bm, if_neg (by rw [hg]; simp), if_neg (by simpa using h35)]
 unfold j5
 rw [e, Nat.sub_self]
 rfl
theorem bh {s : Str} {k p n : Nat} (h : J0 s k p) (hp : p < s.length) (he : (wAt s p).2.2.2 = 0) (hn : (wAt s p).2.2.1 = (n : Int)) : Fa false s (k + 1) (p + n) := by
 have hi := Fl h hp
 obtain ⟨f, hf, hd, hne⟩ := L8 h hp
 obtain ⟨m, hm, h1, h2⟩ := Lu (s := s.drop p) (by rw [List.length_drop]; omega) he
 have hmn : m = n := by have : (Aq (s.drop p)).2.2.1 = (n : Int) := hn; omega
 subst hmn
 rw [List.length_drop] at h2 hf
 refine ⟨⟨f, by omega, ?_⟩, by omega, fun j hj => ?_⟩
 ·rw [Ev hne] at hd
  have := congrArg (·.drop 1) hd
  simp only [List.drop_drop, List.drop_succ_cons, List.drop_zero] at this
  unfold wAt at he
  rw [this, hm, he, ← nq]
  unfold Im
  simp only [beq_self_eq_true, if_true, Int.toNat_natCast, List.drop_drop]
 rcases Nat.lt_or_ge j k with h' | h'
 ·exact h.2.2 j h'
 have : j = k := by omega
 subst this
 exact ⟨_, hi, he⟩

/-! Words. -/
theorem Iu (c : UInt8) : letters.contains c = Bc c := by
 have := Ik (p := fun c => letters.contains c == Bc c) (by kernel_rfl) c
 simpa using this
theorem Iv (c : UInt8) : digs.contains c = At c := by
 have := Ik (p := fun c => digs.contains c == At c) (by kernel_rfl) c
 simpa using this
theorem nt (c : UInt8) : tails.contains c = Bd c := by
 have := Ik (p := fun c => tails.contains c == Bd c) (by kernel_rfl) c
 simpa using this
theorem Fs (c : UInt8) (r of : Str) : decide (0 < G9 ((c :: r).take 1) of) = of.contains c := by
 rw [show (c :: r).take 1 = [c] from rfl, Hw]
 cases of.contains c <;> rfl
theorem yn {c : UInt8} {r : Str} (h : Bc c = true) : Aq (c :: r) = Hb (c :: r) := by
 unfold Aq; rw [Fs, Iu, h]; rfl
theorem yo {c : UInt8} {r : Str} (h : Bc c = false) (h2 : At c = true) : Aq (c :: r) = Ii (c :: r) := by
 unfold Aq; rw [Fs, Fs, Iu, Iv, h, h2]; rfl
theorem yp {c : UInt8} {r : Str} (h : Bc c = false) (h2 : At c = false) (h3 : c = 39) : Aq (c :: r) = El (c :: r) := by
 unfold Aq; rw [Fs, Fs, Iu, Iv, h, h2]; subst h3; rfl
theorem yq {c : UInt8} {r : Str} (h : Bc c = false) (h2 : At c = false) (h3 : c ≠ 39) : Aq (c :: r) = Hc (c :: r) := by
 unfold Aq; rw [Fs, Fs, Iu, Iv, h, h2]
 have : ((((c :: r : Str).getD 0 0).toNat : Int) == 39) = false := by
  rw [beq_eq_false_iff_ne]
  intro e
  exact h3 (UInt8.toNat_inj.1 (by have e' : (c.toNat : Int) = 39 := e; show c.toNat = 39; omega))
 rw [this]; rfl
/-- The bytes of a run of a class of them. -/
def C2 (p : UInt8 → Bool) (s : Str) : Nat := (s.takeWhile p).length
theorem Nh (p : UInt8 → Bool) (s : Str) : s.take (C2 p s) = s.takeWhile p := (List.prefix_iff_eq_take.1 (List.takeWhile_prefix p)).symm
theorem Nz {of : Str} {p : UInt8 → Bool} (h : ∀ c, of.contains c = p c) (s : Str) : Be s of = s.takeWhile p := by
 rw [Fo]
 congr 1
 funext c
 exact h c
theorem Ic {p : UInt8 → Bool} {c : UInt8} {r : Str} (h : p c = true) : (c :: r).takeWhile p = c :: r.takeWhile p := by rw [List.takeWhile_cons, if_pos h]
theorem j7 {c : UInt8} {r : Str} (h : Bc c = true) (hr : Bj ((c :: r).takeWhile Bd) = false) : Gq ((c :: r).takeWhile Bd) = decide (((c :: r).takeWhile Bd).length ≤ 16) := by
 have hc : Bd c = true := by unfold Bd; rw [h]; rfl
 have ha : ((c :: r).takeWhile Bd).all Bd = true := List.all_eq_true.2 fun b hb => Hm hb
 rw [Ic hc] at hr ha ⊢
 show (decide _ && Bc c && !Bj _ && List.all _ Bd) = _
 rw [h, hr, ha]
 simp
/-! A text in quotes: what stands in it, how many bytes it takes. -/
def B1 : Str → Str × Nat
 | [] => ([], 0)
 | [c] => if c == 39 then ([], 0) else ([c], 1)
 | c :: d :: t => if c == 39 then (if d == 39 then (39 :: (B1 t).1, (B1 t).2 + 2) else ([], 0)) else (c :: (B1 (d :: t)).1, (B1 (d :: t)).2 + 1)
theorem K0 {c : UInt8} (h : c ≠ 39) (r : Str) : B1 (c :: r) = (c :: (B1 r).1, (B1 r).2 + 1) := by
 cases r with
 | nil => simp [B1, h]
 | cons d t => rw [B1, if_neg (by simpa using h)]
theorem T9 (t : Str) : B1 (39 :: 39 :: t) = (39 :: (B1 t).1, (B1 t).2 + 2) := by rw [B1]; rfl
theorem Ta {r : Str} (h : ∀ t, r ≠ 39 :: t) : B1 (39 :: r) = ([], 0) := by
 cases r with
 | nil => rfl
 | cons d t => rw [B1, if_pos (show ((39 : UInt8) == 39) = true from rfl), if_neg (by simpa using fun e : d = 39 => h t (by rw [e]))]
theorem K1 : ∀ u : Str, Bn u = (if (B1 u).2 < u.length then some ((B1 u).2 + 1) else none) ∧ u.take (B1 u).2 = B6 (B1 u).1 ∧ (B1 u).2 ≤ u.length ∧ ((B1 u).2 < u.length → u[(B1 u).2]? = some 39)
 | [] => ⟨rfl, rfl, Nat.le_refl _, fun h => absurd h (by decide)⟩
 | [c] => by
  by_cases hc : c = 39
  ·subst hc; exact ⟨rfl, rfl, by decide, fun _ => rfl⟩
  rw [K0 hc, Ga (by simpa using hc), Dr, show M2 c = [c] from if_neg hc]
  exact ⟨rfl, rfl, Nat.le_refl _, fun h => absurd h (by show ¬ 1 < 1; omega)⟩
 | c :: d :: t => by
  by_cases hc : c = 39
  ·subst hc
   rw [L7]
   by_cases hd : d = 39
   ·subst hd
    obtain ⟨h1, h2, h3, h4⟩ := K1 t
    rw [T9, Dr, show M2 39 = [39, 39] from rfl]
    refine ⟨?_, ?_, by simp only [List.length_cons]; omega, fun h => ?_⟩
    ·simp only [beq_self_eq_true, if_true, h1, List.length_cons]
     by_cases hl : (B1 t).2 < t.length
     ·rw [if_pos hl, if_pos (by omega)]; rfl
     rw [if_neg hl, if_neg (by omega)]; rfl
    ·simp only [List.take_succ_cons, h2]; rfl
    simp only [List.length_cons] at h
    simp only [List.getElem?_cons_succ]
    exact h4 (by omega)
   rw [Ta (fun t' e => by injection e with e; exact hd e)]
   refine ⟨?_, rfl, Nat.zero_le _, fun _ => rfl⟩
   simp [hd]
  obtain ⟨h1, h2, h3, h4⟩ := K1 (d :: t)
  rw [K0 hc, Ga (by simpa using hc), Dr, show M2 c = [c] from if_neg hc]
  refine ⟨?_, ?_, by simp only [List.length_cons] at h3 ⊢; omega, fun h => ?_⟩
  ·rw [h1]
   simp only [List.length_cons]
   by_cases hl : (B1 (d :: t)).2 < t.length + 1
   ·rw [if_pos hl, if_pos (by omega)]; rfl
   rw [if_neg hl, if_neg (by omega)]; rfl
  ·rw [List.take_succ_cons, h2]; rfl
  simp only [List.length_cons] at h
  rw [List.getElem?_cons_succ]
  exact h4 (by simp only [List.length_cons]; omega)
theorem nu (a b : Str) : B6 (a ++ b) = B6 a ++ B6 b := by unfold B6; rw [List.flatMap_append]
theorem bi (t : Str) : Mx ([39] ++ B6 t ++ [39]) = t := by
 unfold Mx
 have : (([39] ++ B6 t ++ [39] : Str).take (([39] ++ B6 t ++ [39] : Str).length - 1)).drop 1 = B6 t := by
  rw [show ([39] ++ B6 t ++ [39] : Str).length - 1 = ([39] ++ B6 t : Str).length by simp, List.take_left]
  rfl
 rw [this]
 exact Qp t
theorem j8 {t : Str} (h : 200 < t.length) : (Bz ([39] ++ B6 t ++ [39])).2 = 7 := by
 have ht : Jm ([39] ++ B6 t ++ [39]) = ⟨2, 0, t.take 200⟩ := by
  unfold Jm
  rw [bi]
 have hp : Bw ⟨2, 0, t.take 200⟩ = true := by
  unfold Bw
  simp
  omega
 have hpr : Br ⟨2, 0, t.take 200⟩ = [39] ++ B6 (t.take 200) ++ [39] := by
  unfold Br
  rw [hp, Gc]
  rfl
 have hq : Fh ([39] ++ B6 t ++ [39]) = true := by
  unfold Fh
  simp [Lib.hasPrefix, Lib.hasSuffix, List.isPrefixOf]
  omega
 have hl : (B6 (t.take 200)).length < (B6 t).length := by
  have e : B6 t = B6 (t.take 200) ++ B6 (t.drop 200) := by rw [← nu, List.take_append_drop]
  have h2 := Ue (t.drop 200)
  rw [List.length_drop] at h2
  rw [e, List.length_append]
  omega
 unfold Bz
 have n1 : (([39] ++ B6 t ++ [39] : Str) == [110, 117, 108, 108]) = false := by rw [beq_eq_false_iff_ne]; intro e; injection e with e; exact absurd e (by decide)
 have n2 : (([39] ++ B6 t ++ [39] : Str) == [116, 114, 117, 101]) = false := by rw [beq_eq_false_iff_ne]; intro e; injection e with e; exact absurd e (by decide)
 have n3 : (([39] ++ B6 t ++ [39] : Str) == [102, 97, 108, 115, 101]) = false := by rw [beq_eq_false_iff_ne]; intro e; injection e with e; exact absurd e (by decide)
 rw [n1, n2, n3, hq]
 simp only [Bool.false_eq_true, if_false, Bool.or_self, if_true]
 unfold Po
 rw [ht, hpr]
 have : (([39] ++ B6 (t.take 200) ++ [39] : Str) == [39] ++ B6 t ++ [39]) = false := by
  rw [beq_eq_false_iff_ne]
  intro e
  have := congrArg List.length e
  simp only [List.length_append] at this
  omega
 rw [this]
 rfl
def Dt : Str → Nat
 | c :: d :: _ => if d = 61 ∧ (c = 60 ∨ c = 62 ∨ c = 33) then 2 else 1
 | _ => 1
/-- A word as the reference ACo it: its kind, its text, how many bytes it takes, the error. -/
def Ur : Str → Int × Str × Nat × Int
 | [] => (0, [], 0, 0)
 | c :: r =>
  if Bc c then (if Bj ((c :: r).takeWhile Bd) then 2 else 1, (c :: r).takeWhile Bd, C2 Bd (c :: r), if Bj ((c :: r).takeWhile Bd) then 0 else if 16 < C2 Bd (c :: r) then 3 else 0)
  else if At c then (3, (c :: r).takeWhile At, C2 At (c :: r), if (Ad ((c :: r).takeWhile At)).2 == 6 then 7 else (Ad ((c :: r).takeWhile At)).2)
  else if c = 39 then (4, (B1 r).1, (B1 r).2 + 2, if r.length ≤ (B1 r).2 then 7 else if 200 < (B1 r).1.length then 3 else 0)
  else (5, (c :: r).take (Dt (c :: r)), Dt (c :: r), if Dt (c :: r) = 2 ∨ singles.contains c = true then 0 else 7)
theorem Us {c : UInt8} {r : Str} (h : Bc c = true) : Ur (c :: r) = (if Bj ((c :: r).takeWhile Bd) then 2 else 1, (c :: r).takeWhile Bd, C2 Bd (c :: r), if Bj ((c :: r).takeWhile Bd) then 0 else if 16 < C2 Bd (c :: r) then 3 else 0) := if_pos h
theorem Ut {c : UInt8} {r : Str} (h : Bc c = false) (h2 : At c = true) : Ur (c :: r) = (3, (c :: r).takeWhile At, C2 At (c :: r), if (Ad ((c :: r).takeWhile At)).2 == 6 then 7 else (Ad ((c :: r).takeWhile At)).2) := by
 rw [Ur, if_neg (by rw [h]; simp), if_pos h2]
theorem Uu {c : UInt8} {r : Str} (h : Bc c = false) (h2 : At c = false) (h3 : c = 39) : Ur (c :: r) = (4, (B1 r).1, (B1 r).2 + 2, if r.length ≤ (B1 r).2 then 7 else if 200 < (B1 r).1.length then 3 else 0) := by
 rw [Ur, if_neg (by rw [h]; simp), if_neg (by rw [h2]; simp), if_pos h3]
theorem Uv {c : UInt8} {r : Str} (h : Bc c = false) (h2 : At c = false) (h3 : c ≠ 39) : Ur (c :: r) = (5, (c :: r).take (Dt (c :: r)), Dt (c :: r), if Dt (c :: r) = 2 ∨ singles.contains c = true then 0 else 7) := by
 rw [Ur, if_neg (by rw [h]; simp), if_neg (by rw [h2]; simp), if_neg h3]
/-- Both read the same: the error, and where there is none the word. -/
def dn (a : Int × Str × Nat × Int) (b : Int × Str × Int × Int) : Prop := a.2.2.2 = b.2.2.2 ∧ (b.2.2.2 = 0 → b = (a.1, a.2.1, (a.2.2.1 : Int), 0))
theorem ub {c : UInt8} {r : Str} (ha : ∀ b ∈ (c :: r : Str), digs.contains b = true) : (Bz (c :: r)).2 = if (Ad (c :: r)).2 == 6 then 7 else (Ad (c :: r)).2 := by
 have hn := Hh c (ha c List.mem_cons_self)
 have n1 : ((c :: r : Str) == [110, 117, 108, 108]) = false := by rw [beq_eq_false_iff_ne]; intro e; injection e with e; exact hn.2.2.2.1 e
 have n2 : ((c :: r : Str) == [116, 114, 117, 101]) = false := by rw [beq_eq_false_iff_ne]; intro e; injection e with e; exact hn.2.2.2.2.1 e
 have n3 : ((c :: r : Str) == [102, 97, 108, 115, 101]) = false := by rw [beq_eq_false_iff_ne]; intro e; injection e with e; exact hn.2.2.2.2.2 e
 have hq : Fh (c :: r) = false := by
  unfold Fh
  have : Lib.hasPrefix (c :: r) [39] = false := by simp [Lib.hasPrefix, List.isPrefixOf, Ne.symm hn.2.2.1]
  rw [this]
  simp
 have hv : (Ad (c :: r)).2 = 6 ∨ (Ad (c :: r)).2 = 0 ∨ (Ad (c :: r)).2 = 4 := by
  unfold Ad
  split
  ·exact .inl rfl
  cases Lib.parseIntB 64 (c :: r) <;> simp
 unfold Bz
 rw [n1, n2, n3, hq]
 simp only [Bool.false_eq_true, if_false, Bool.or_self]
 rcases hv with h | h | h <;> rw [h] <;> rfl
theorem j9 {c : UInt8} {r : Str} : dn (5, (c :: r).take (Dt (c :: r)), Dt (c :: r), if Dt (c :: r) = 2 ∨ singles.contains c = true then 0 else 7) (Hc (c :: r)) := by
 have h1 : Lib.contains singles [c] = singles.contains c := by
  have := Ik (p := fun c => Lib.contains singles [c] == singles.contains c) (by kernel_rfl) c
  simpa using this
 have hd : ∀ d t, r = d :: t → ((decide ((1 : Int) < ((c :: r).length : Nat)) && Lib.contains Kg ((c :: r).take 2)) && ((((c :: r).getD 1 0).toNat : Int) == 61)) = decide (Dt (c :: r) = 2) := by
  rintro d t rfl
  have e2 : (((((c :: d :: t).getD 1 0).toNat : Nat) : Int) == 61) = decide (d = 61) := by
   rw [Bool.eq_iff_iff, beq_iff_eq, decide_eq_true_iff]
   show ((d.toNat : Nat) : Int) = 61 ↔ _
   exact ⟨fun h => UInt8.toNat_inj.1 (by show d.toNat = 61; omega), fun h => by rw [h]; rfl⟩
  rw [e2]
  have e1 : decide ((1 : Int) < ((c :: d :: t).length : Nat)) = true := by simp; omega
  rw [e1, Bool.true_and]
  unfold Dt
  by_cases h61 : d = 61
  ·subst h61
   have := Ik (p := fun c => Lib.contains Kg [c, 61] == decide (c = 60 ∨ c = 62 ∨ c = 33)) (by kernel_rfl) c
   have e3 : Lib.contains Kg ((c :: 61 :: t).take 2) = decide (c = 60 ∨ c = 62 ∨ c = 33) := by simpa using this
   rw [e3]
   by_cases hc : c = 60 ∨ c = 62 ∨ c = 33
   ·simp [hc]
   simp [hc]
  simp [h61]
 cases r with
 | nil =>
  have : Hc [c] = if Lib.contains singles [c] then (5, [c], 1, 0) else (0, [], 0, 7) := rfl
  rw [this, h1]
  by_cases hs : singles.contains c = true
  ·rw [if_pos hs, if_pos (.inr hs)]
   exact Oc
  rw [if_neg hs, if_neg (by rintro (h | h); exact absurd h (by show ¬ (1 = 2); decide); exact hs h)]
  exact xt
 | cons d t =>
  have hh := hd d t rfl
  unfold Hc
  rw [hh]
  by_cases h2 : Dt (c :: d :: t) = 2
  ·rw [if_pos (show Dt (c :: d :: t) = 2 ∨ _ from .inl h2), if_pos (show decide (Dt (c :: d :: t) = 2) = true from decide_eq_true h2), h2]
   exact Oc
  have h11 : Dt (c :: d :: t) = 1 := by
   have : Dt (c :: d :: t) = 1 ∨ Dt (c :: d :: t) = 2 := by
    show (if _ then 2 else 1) = 1 ∨ (if _ then 2 else 1) = 2
    split
    ·exact .inr rfl
    exact .inl rfl
   rcases this with h | h
   ·exact h
   exact absurd h h2
  rw [if_neg (show ¬ decide (Dt (c :: d :: t) = 2) = true by simpa using h2)]
  show dn _ (if Lib.contains singles [c] then _ else _)
  rw [h1]
  by_cases hs : singles.contains c = true
  ·rw [if_pos (show Dt (c :: d :: t) = 2 ∨ _ from .inr hs), if_pos hs, h11]
   exact Oc
  rw [if_neg (show ¬ (Dt (c :: d :: t) = 2 ∨ singles.contains c = true) from fun h => h.elim h2 hs), if_neg hs]
  exact AB5
theorem Ko {u : Str} (h0 : u ≠ []) : dn (Ur u) (Aq u) := by
 cases u with
 | nil => exact absurd rfl h0
 | cons c r =>
 cases h : Bc c with
 | true =>
  rw [Us h, yn h]
  unfold Hb
  rw [Nz nt, yd, E8]
  cases hr : Bj ((c :: r).takeWhile Bd) with
  | true => exact ⟨rfl, fun _ => rfl⟩
  | false =>
   rw [j7 h hr]
   by_cases hl : ((c :: r).takeWhile Bd).length ≤ 16
   ·have : ¬ 16 < C2 Bd (c :: r) := by unfold C2; omega
    rw [decide_eq_true hl]
    simp only [Bool.false_eq_true, if_false, if_neg this, Bool.not_true]
    exact Oc
   have : 16 < C2 Bd (c :: r) := by unfold C2; omega
   rw [decide_eq_false hl]
   simp only [Bool.false_eq_true, if_false, if_pos this, Bool.not_false, if_true]
   exact xt
 | false =>
  cases h2 : At c with
  | true =>
   rw [Ut h h2, yo h h2]
   unfold Ii
   rw [Nz Iv]
   have ha : ∀ b ∈ (c :: r).takeWhile At, digs.contains b = true := fun b hb => by rw [Iv]; exact Hm hb
   have e := ha
   rw [Ic h2] at e
   have e2 := ub e
   rw [← Ic h2] at e2
   rw [e2]
   generalize (if (Ad ((c :: r).takeWhile At)).2 == 6 then (7 : Int) else (Ad ((c :: r).takeWhile At)).2) = v
   exact ⟨rfl, fun h => by have h : v = 0 := h; rw [h]; rfl⟩
  | false =>
   by_cases h3 : c = 39
   ·rw [Uu h h2 h3, yp h h2 h3]
    subst h3
    obtain ⟨q1, q2, q3, q4⟩ := K1 r
    unfold El
    show dn _ (match Bn r with | none => _ | some n => _)
    rw [q1]
    by_cases hl : (B1 r).2 < r.length
    ·rw [if_pos hl, if_neg (show ¬ r.length ≤ (B1 r).2 by omega)]
     have et : (39 :: r : Str).take ((B1 r).2 + 1 + 1) = [39] ++ B6 (B1 r).1 ++ [39] := by
      rw [List.take_succ_cons, List.take_succ, q4 hl, q2]
      rfl
     simp only [et]
     by_cases h200 : 200 < (B1 r).1.length
     ·rw [j8 h200, if_pos h200]
      exact ⟨rfl, fun h => absurd h (by show ¬ (3 : Int) = 0; decide)⟩
     rw [T5 (by omega), if_neg h200]
     exact Oc
    rw [if_neg hl, if_pos (show r.length ≤ (B1 r).2 by omega)]
    exact AB5
   rw [Uv h h2 h3, yq h h2 h3]
   exact j9
/-! Where the reference's loops are. -/
theorem getD_eq {s : Str} {n : Nat} (h : n < s.length) : s.getD n 0 = s[n] := by rw [List.getD_eq_getElem?_getD, List.getElem?_eq_getElem h]; rfl
theorem uc {q : UInt8 → Bool} {s : Str} {p z : Nat} (h1 : p ≤ z) (h2 : z ≤ p + C2 q (s.drop p)) (hz : z < s.length) (hq : q (s.getD z 0) = true) : z + 1 ≤ p + C2 q (s.drop p) := by
 rcases Nat.lt_or_ge z (p + C2 q (s.drop p)) with h | h
 ·omega
 have hz' : z = p + C2 q (s.drop p) := by omega
 exfalso
 have e := List.takeWhile_append_dropWhile (p := q) (l := s.drop p)
 have hd : (s.drop p).dropWhile q = s.drop z := by
  have e1 : (s.drop p).drop (C2 q (s.drop p)) = (s.drop p).dropWhile q := by
   have e2 := List.take_append_drop (C2 q (s.drop p)) (s.drop p)
   rw [Nh] at e2
   exact List.append_cancel_left (e2.trans e.symm)
  rw [← e1, List.drop_drop, hz']
 rw [En hz] at hd
 have hh : ∀ (l : Str) (c : UInt8) (t : Str), l.dropWhile q = c :: t → q c = false := by
  intro l
  induction l with
  | nil => intro c t h; cases h
  | cons b l ih =>
   intro c t h
   rw [List.dropWhile_cons] at h
   split at h
   ·exact ih c t h
   rename_i hb; injection h with h1 h2; subst h1; simpa using hb
 have := hh _ _ _ hd
 rw [getD_eq hz] at hq
 rw [hq] at this
 cases this
theorem Xm {q : UInt8 → Bool} {s : Str} {p z : Nat} (h1 : p ≤ z) (h2 : z ≤ p + C2 q (s.drop p)) (h : s.length ≤ z ∨ q (s.getD z 0) = false) : z = p + C2 q (s.drop p) := by
 rcases Nat.lt_or_ge z (p + C2 q (s.drop p)) with hz | hz
 ·exfalso
  have hl : C2 q (s.drop p) ≤ s.length - p := by
   unfold C2
   rw [← List.length_drop]
   exact (List.takeWhile_prefix q).length_le
  have hzl : z < s.length := by omega
  have e : q s[z] = true := by
   have hm : ((s.drop p).takeWhile q)[z - p]? = some s[z] := by
    have := Nh q (s.drop p)
    rw [← this, List.getElem?_take, if_pos (by omega), List.getElem?_drop, show p + (z - p) = z by omega]
    exact List.getElem?_eq_getElem hzl
   exact Hm (List.mem_of_getElem? hm)
  rcases h with h | h
  ·omega
  rw [getD_eq hzl, e] at h; cases h
 omega
theorem Ow {q : UInt8 → Bool} {s : Str} {p : Nat} (hp : p ≤ s.length) : p + C2 q (s.drop p) ≤ s.length := by
 have hl : C2 q (s.drop p) ≤ s.length - p := by
  unfold C2
  rw [← List.length_drop]
  exact (List.takeWhile_prefix q).length_le
 omega
theorem Tb {q : UInt8 → Bool} {s : Str} {p : Nat} : (s.take (p + C2 q (s.drop p))).drop p = (s.drop p).takeWhile q := by
 rw [List.drop_take, show p + C2 q (s.drop p) - p = C2 q (s.drop p) by omega, Nh]
/-- The loop through a text in quotes. -/
structure QAt (s : Str) (p z : Nat) (b : Str) : Prop where
 lo : p + 1 ≤ z
 hi : z ≤ s.length
 eq : B1 (s.drop (p + 1)) = (b ++ (B1 (s.drop z)).1, z - (p + 1) + (B1 (s.drop z)).2)
 len : b.length ≤ z
theorem QAt.start {s : Str} {p : Nat} (hp : p < s.length) : QAt s p (p + 1) [] := ⟨Nat.le_refl _, hp, by simp, Nat.zero_le _⟩
theorem QAt.one {s : Str} {p z : Nat} {b : Str} (h : QAt s p z b) (hz : z < s.length) (hc : s.getD z 0 ≠ 39) : QAt s p (z + 1) (b ++ [s.getD z 0]) := by
 have h1 := h.lo
 have h2 := h.len
 refine ⟨by omega, hz, ?_, by simp; omega⟩
 rw [h.eq, En hz, ← getD_eq hz, K0 hc]
 simp
 omega
theorem QAt.two {s : Str} {p z : Nat} {b : Str} (h : QAt s p z b) (hz : z + 1 < s.length) (hc : s.getD z 0 = 39) (hd : s.getD (z + 1) 0 = 39) : QAt s p (z + 1 + 1) (b ++ [s.getD z 0]) := by
 have h1 := h.lo
 have h2 := h.len
 refine ⟨by omega, hz, ?_, by simp; omega⟩
 rw [h.eq, En (show z < s.length by omega), En hz, ← getD_eq hz, ← getD_eq (show z < s.length by omega), hc, hd, T9]
 simp
 omega
theorem QAt.out {s : Str} {p z : Nat} {b : Str} (h : QAt s p z b) (hc : s.length ≤ z ∨ (s.getD z 0 = 39 ∧ (s.length ≤ z + 1 ∨ s.getD (z + 1) 0 ≠ 39))) : B1 (s.drop (p + 1)) = (b, z - (p + 1)) := by
 have e : B1 (s.drop z) = ([], 0) := by
  rcases hc with hc | ⟨hc, hd⟩
  ·rw [List.drop_eq_nil_iff.2 hc]; rfl
  rcases Nat.lt_or_ge z s.length with hz | hz
  ·rw [En hz, ← getD_eq hz, hc]
   refine Ta fun t et => ?_
   rcases hd with hd | hd
   ·rw [List.drop_eq_nil_iff.2 hd] at et; cases et
   rcases Nat.lt_or_ge (z + 1) s.length with hz1 | hz1
   ·rw [En hz1, ← getD_eq hz1] at et
    injection et with et
    exact hd et
   rw [List.drop_eq_nil_iff.2 hz1] at et; cases et
  rw [List.drop_eq_nil_iff.2 hz]; rfl
 rw [h.eq, e]
 simp
theorem nv {c : UInt8} {r : Str} (ha : ∀ b ∈ (c :: r : Str), digs.contains b = true) (h0 : (Ad (c :: r)).2 = 0) : (Bz (c :: r)).1 = ⟨1, (Ad (c :: r)).1, []⟩ := by
 have hn := Hh c (ha c List.mem_cons_self)
 have n1 : ((c :: r : Str) == [110, 117, 108, 108]) = false := by rw [beq_eq_false_iff_ne]; intro e; injection e with e; exact hn.2.2.2.1 e
 have n2 : ((c :: r : Str) == [116, 114, 117, 101]) = false := by rw [beq_eq_false_iff_ne]; intro e; injection e with e; exact hn.2.2.2.2.1 e
 have n3 : ((c :: r : Str) == [102, 97, 108, 115, 101]) = false := by rw [beq_eq_false_iff_ne]; intro e; injection e with e; exact hn.2.2.2.2.2 e
 have hq : Fh (c :: r) = false := by
  unfold Fh
  have : Lib.hasPrefix (c :: r) [39] = false := by simp [Lib.hasPrefix, List.isPrefixOf, Ne.symm hn.2.2.1]
  rw [this]
  simp
 unfold Bz
 rw [n1, n2, n3, hq, h0]
 rfl
theorem nw {u : Str} {n : Nat} (h0 : u ≠ []) (he : (Aq u).2.2.2 = 0) : Ky ⟨(Aq u).1, (Aq u).2.1, n⟩ := by
 obtain ⟨h1, h2⟩ := Ko h0
 rw [h2 he]
 rw [he] at h1
 cases u with
 | nil => exact absurd rfl h0
 | cons c r =>
 cases h : Bc c with
 | true =>
  rw [Us h] at h1 ⊢
  constructor
  ·intro h3
   have h3 : (if Bj ((c :: r).takeWhile Bd) = true then (2 : Int) else 1) = 3 := h3
   split at h3 <;> exact absurd h3 (by decide)
  intro h3
  have h3 : (if Bj ((c :: r).takeWhile Bd) = true then (2 : Int) else 1) = 4 := h3
  split at h3 <;> exact absurd h3 (by decide)
 | false =>
  cases hd : At c with
  | true =>
   rw [Ut h hd] at h1 ⊢
   refine ⟨fun _ => ?_, fun h4 => absurd h4 (by show ¬ (3 : Int) = 4; decide)⟩
   show (Bz ((c :: r).takeWhile At)).1 = ⟨1, (Ad ((c :: r).takeWhile At)).1, []⟩
   have h1 : (if (Ad ((c :: r).takeWhile At)).2 == 6 then (7 : Int) else (Ad ((c :: r).takeWhile At)).2) = 0 := h1
   have hz : (Ad ((c :: r).takeWhile At)).2 = 0 := by
    split at h1
    ·exact rj
    exact h1
   have ha : ∀ b ∈ (c :: r).takeWhile At, digs.contains b = true := fun b hb => by rw [Iv]; exact Hm hb
   rw [Ic hd] at ha hz ⊢
   exact nv ha hz
  | false =>
   by_cases h3 : c = 39
   ·rw [Uu h hd h3] at h1 ⊢
    refine ⟨fun h4 => absurd h4 (by show ¬ (4 : Int) = 3; decide), fun _ => ?_⟩
    have h1 : (if r.length ≤ (B1 r).2 then (7 : Int) else if 200 < (B1 r).1.length then 3 else 0) = 0 := h1
    show (B1 r).1.length ≤ 200
    split at h1
    ·exact rj
    split at h1
    ·exact rj
    omega
   rw [Uv h hd h3] at h1 ⊢
   exact ⟨fun h4 => absurd h4 (by show ¬ (5 : Int) = 3; decide), fun h4 => absurd h4 (by show ¬ (5 : Int) = 4; decide)⟩
theorem Tc : ∀ (f q : Nat) (s : Str), ∀ it ∈ Cj f q s, it.2 = 0 → Ky it.1
 | 0, _, _, it, h, _ => by cases h
 | f + 1, q, s, it, h, h0 => by
  rw [Cj] at h
  split at h
  ·cases h
  rename_i hs
  have hne : s ≠ [] := by rintro rfl; exact hs rfl
  rcases List.mem_cons.1 h with rfl | h
  ·exact nw hne h0
  split at h
  ·exact Tc f _ _ it h h0
  cases h
theorem dp {s : Str} (h : (A6 s).2.1 = 0) (i : Nat) : Ky (A4 (A6 s).1 i) := by
 have hz : ∀ n, Ky ⟨0, [], n⟩ := fun n => ⟨fun h => absurd h (by show ¬ (0 : Int) = 3; decide), fun h => absurd h (by show ¬ (0 : Int) = 4; decide)⟩
 obtain ⟨_, h2, h3⟩ := Ok h
 rw [h3]
 unfold A4
 rw [List.getD_eq_getElem?_getD]
 cases hg : ((Ax s).map (·.1) ++ [⟨0, [], s.length⟩] : List Tok)[i]? with
 | none => exact hz 0
 | some t =>
  have hm := List.mem_of_getElem? hg
  rw [Option.getD_some]
  rcases List.mem_append.1 hm with hm | hm
  ·obtain ⟨it, hit, rfl⟩ := List.mem_map.1 hm
   exact Tc _ _ _ it hit (h2 it hit)
  rw [List.mem_singleton.1 hm]; exact hz _
set_option maxRecDepth 8000
/-! The parse laws where nothing is too deep. -/
/-! The parser from a word on, and of a source. -/
/-! Other trees have other words, and other prints. -/
/-! The laws of printing. -/
/-- show.Print. -/
def J1 (x : Expr) : Str × Int := if !(E7 x) then ([], 1) else if decide ((4000 : Int) < ((Ac x).length : Int)) then ([], 3) else (Ac x, 0)
theorem dq {x : Expr} (h : Bt x = true) : (J1 x = ([], 3) ∧ 4000 < (Ac x).length) ∨ (J1 x = (Ac x, 0) ∧ (Ac x).length ≤ 4000) := by
 unfold J1
 rw [Il, h]
 simp only [Bool.not_true, Bool.false_eq_true, if_false]
 split
 ·rename_i h2; exact .inl ⟨rfl, by simp at h2; omega⟩
 rename_i h2; exact .inr ⟨rfl, by simp at h2; omega⟩
theorem Iw {x : Expr} (h : Bt x = true) : C0 Bk x = true := by
 unfold Bt at h
 rw [Bool.and_eq_true] at h
 exact h.2
set_option maxRecDepth 4000
abbrev xo (own : Bool) (t : Str) (ks : List Expr) : AObj := .cells 28 [A3 6, A7 t, A3 0, A3 0, A7 [], .slice own 6 (ks.map Af)]
theorem yr {n : Nat} {own : Bool} {t : Str} {ks : List Expr} : ObjLow n (xo own t ks) := by
 show ∀ z ∈ [A3 6, A7 t, A3 0, A3 0, A7 [], AV.slice own 6 (ks.map Af)], Low n z
 intro z hz
 simp only [List.mem_cons, List.not_mem_nil, or_false] at hz
 rcases hz with rfl | rfl | rfl | rfl | rfl | rfl
 all_goals first | exact Ds | simp
theorem ud : Ci (.agg #[.int .i64 0, .string ⟨#[]⟩, .int .i64 0, .int .i64 0, .string ⟨#[]⟩, .slice none 0 0]) = .agg [A3 0, A7 [], A3 0, A3 0, A7 [], .nil] := rfl
attribute [go_sem] ud
theorem gA {Hp : List AObj} {o ox : Nat} {z A B : AObj} (ho : Hp[o]? = some z) (hne : ox ≠ o) : ((Hp.set o A).set ox B)[o]? = some A := by rw [List.getElem?_set_ne hne]; exact Aa ho
theorem gB {Hp : List AObj} {o ox : Nat} {z A B : AObj} (hox : Hp[ox]? = some z) : ((Hp.set o A).set ox B)[ox]? = some B := by
 have := (List.getElem?_eq_some_iff.1 hox).1
 simp [this]
theorem yt {Hp : List AObj} {o ox : Nat} {A A' B : AObj} (hne : ox ≠ o) : ((Hp.set o A).set ox B).set o A' = (Hp.set o A').set ox B := by rw [List.set_comm _ _ hne, List.set_set]
theorem Lf (ks : List Expr) (x : Expr) : ks.map Af ++ [.agg [.v (.int .i64 x.op), .v (sv x.text), .v (.int .i64 x.val.kind), .v (.int .i64 x.val.n), .v (sv x.val.s), .slice false 6 (x.kids.map Af)]] = (ks ++ [x]).map Af := by rw [List.map_append, List.map_cons, List.map_nil, A8 x]
theorem ADu (l : List Tok) (S : PS) (t : Str) (Dv : Fam) (o ox : Nat) (Hp : List AObj) (hne : ox ≠ o) (ho : Hp[o]? = some (pr l S)) (hox : Hp[ox]? = some (xo true t [])) (hi : S.i < l.length) (hl : TokEnd l) (hll : l.length ≤ 1048576) (hf : Bb l S.nest Dv.ei) (hcf : PC 80 l Dv.ei S.nest) : ACall Tryz.prog 208 [.ptr ox 0, .ro [.ptr o 0]] Hp (fun r H' => r = Af (.mk 6 t noV (Ea l Dv.ei S).1) ∧ H' = (Hp.set o (pr l (Ea l Dv.ei S).2)).set ox (xo true t (Ea l Dv.ei S).1)) := by
 have hoxl := (List.getElem?_eq_some_iff.1 hox).1
 have hol := (List.getElem?_eq_some_iff.1 ho).1
 refine ACall.body [.cell 2 28] [0, 1] Tryz.func208 Tryz.ntmps208 (fun d => ?_)
 refine Z28 ?_;refine R.fin [0, 1, 2] ?_
 refine W.drawT [0, 1, 0, 4, 3, 0, 63, 127, 255, 127, 639] [1, 3] [.q 1 [] [0], .s [4] (some 0) [] [], .q 1 [] [1], .s [6] (some 1) [] [], .q 2 [] []] (fun B => (Hp.set o (if B 1 = true then pr l (Dv.ei S).2 else pr l S)).set ox (if B 0 = true then xo false t [] else xo true t [])) (fun _ => [I2]) Ae (by kernel_rfl) (by simp only [Bool.false_eq_true, if_false]; rw [B5 ho, B5 hox]) rfl (fun B => by simp) ?_
 apply Y.q
 case h1 =>
  intro B hT hF
  exact wv
 case hTF => decide
 refine Y.loadUpT (o := ox) (t' := 28) (cs := [A3 6, A7 t, A3 0, A3 0, A7 [], .slice true 6 ([].map Af)]) (cs' := [A3 6, A7 t, A3 0, A3 0, A7 [], .slice false 6 ([].map Af)]) Tryz.isAgg26 (fun B hB => ⟨by simp only [hB]; exact gB hox, by simp [upd, List.set_set] <;> rfl, rfl⟩) ?_
 apply Y.q
 case h1 =>
  intro B hT hF
  refine D.loadRo jA ?_;exact Jj
 case hTF => decide
 refine Y.callUp (r := Af (Dv.ei S).1) (o := o) (x0 := pr l S) (x := pr l (Dv.ei S).2) Tryz.call80 (fun B hT hF hB => ⟨by simp only [hB]; exact gA ho hne, ?_, rfl, C1, ?_⟩) ?_
 ·simp only [upd, hB, Nat.reduceEqDiff, if_false, if_true, Bool.false_eq_true]
  exact (yt hne).symm
 ·simp only [hB]
  exact hcf o _ S (Ab (gA ho hne)) hi rfl
 apply Y.q
 case h1 =>
  intro B hT hF
  refine D.len jU ?_;exact Z70
 case hTF => decide
 refine Y.appendPut (tn := [1, 3]) (U := (Hp.set o (pr l (Dv.ei S).2)).set ox (xo false t [])) (O := [I2]) (o := ox) (t' := 28) (cs := [A3 6, A7 t, A3 0, A3 0, A7 [], .slice false 6 ([].map Af)]) (by kernel_rfl) jU Tryz.type28 Tryz.sizeOf28 Tryz.sizeOf26 jU (Ab (gB hox)) ?_ ?_ ?_ (hfsz := Tryz.sizeOf26)
 ·simp [Tryz.t28]
 ·simp [Tryz.t28]
 refine R.fieldAddrPtr (fo := 5) jU Tryz.sizeOf26 ?_
 refine R.storeUpT jS (gB hox) ?_ ?_
 ·first | (rw [Lf]; exact Ds) | (have := Ds (n := ((Hp.set o (pr l (Dv.ei S).2)).set ox (xo false t [])).length) (k := 6) (o := true) (l := [(Dv.ei S).1]); simp only [List.map_cons, List.map_nil, A8] at this; exact this)
 refine R.fin [0, 1, 2] ?_;refine W.seq ?_
 refine AW.loopC (α := List Expr × PS) (fun r => ⟨34, A5 0 (.ptr ox 0) (A5 1 (.ro [.ptr o 0]) (A5 2 (.ptr (oid Hp.length 0) 0) (fun _ => .any))), (Hp.set o (pr l r.2)).set ox (xo true t r.1), [I2], [], none⟩) (fun r => ArgsAt l Dv.ei S r) (fun r => l.length - r.2.i) (([(Dv.ei S).1], (Dv.ei S).2)) (.start (hf S hi rfl)) (StLe.of_eq (by simp [List.set_set, xo, A8])) rfl (fun r hx => ?_)
 refine Z29 ?_;refine Ff ?_;refine Z85 ?_;refine R.loadUp jA (gA ho hne) ?_;refine Rh ?_;refine G.loadRo jA ?_;refine G.call Tryz.call140 (fun hB => Wx l r.2 Gm o _ (Ab (gA ho hne)) hx.fact.lt hl (by decide)) ?_;refine F6 ?_;refine R.fin [0, 1, 2, 21] ?_
 refine W.cond (fun ht21 => ?_) (fun ht21 => ?_)
 ·have hon := hx.on hl ht21 hf
  have hle := hon.2.1.le
  have hlt0 := hx.fact.lt
  refine Pe ?_;refine gj ?_;refine R.callUp Tryz.call141 (gA ho hne) (by simp) C1 (mi l r.2 o _ (Ab (gA ho hne)) hx.fact.lt hll) ?_;refine R.fin [0, 1, 2] ?_
  refine W.drawT0 [0, 1, 0, 4, 3, 0, 63, 127, 255, 127, 639] [1, 3] [.q 1 [] [0], .s [25] (some 0) [] [], .q 1 [] [1], .s [27] (some 1) [] [], .q 2 [] []] (fun B => (Hp.set o (if B 1 = true then pr l (Dv.ei (A2 r.2)).2 else pr l (A2 r.2))).set ox (if B 0 = true then xo false t r.1 else xo true t r.1)) (fun _ => [I2]) Ae (by kernel_rfl) (by simp only [Bool.false_eq_true, if_false]; exact (yt hne).symm) rfl (fun B => by simp) ?_
  apply Y.q
  case h1 =>
   intro B hT hF
   exact wv
  case hTF => decide
  refine Y.loadUpT (o := ox) (t' := 28) (cs := [A3 6, A7 t, A3 0, A3 0, A7 [], .slice true 6 (r.1.map Af)]) (cs' := [A3 6, A7 t, A3 0, A3 0, A7 [], .slice false 6 (r.1.map Af)]) Tryz.isAgg26 (fun B hB => ⟨by simp only [hB]; exact gB hox, by simp [upd, List.set_set] <;> rfl, rfl⟩) ?_
  apply Y.q
  case h1 =>
   intro B hT hF
   refine D.loadRo jA ?_;exact Jj
  case hTF => decide
  refine Y.callUp (r := Af (Dv.ei (A2 r.2)).1) (o := o) (x0 := pr l (A2 r.2)) (x := pr l (Dv.ei (A2 r.2)).2) Tryz.call80 (fun B hT hF hB => ⟨by simp only [hB]; exact gA ho hne, ?_, rfl, C1, ?_⟩) ?_
  ·simp only [upd, hB, Nat.reduceEqDiff, if_false, if_true, Bool.false_eq_true]
   exact (yt hne).symm
  ·simp only [hB]
   exact hcf o _ (A2 r.2) (Ab (gA ho hne)) hon.1 hx.fact.nest
  apply Y.q
  case h1 =>
   intro B hT hF
   refine D.len jU ?_;exact Z70
  case hTF => decide
  refine Y.appendPut (tn := [1, 3]) (U := (Hp.set o (pr l (Dv.ei (A2 r.2)).2)).set ox (xo false t r.1)) (O := [I2]) (o := ox) (t' := 28) (cs := [A3 6, A7 t, A3 0, A3 0, A7 [], .slice false 6 (r.1.map Af)]) (by kernel_rfl) jU Tryz.type28 Tryz.sizeOf28 Tryz.sizeOf26 jU (Ab (gB hox)) ?_ ?_ ?_ (hfsz := Tryz.sizeOf26)
  ·have := hx.fact.len; have := hx.fact.lt; simp only [List.length_map, Tryz.t28]; omega
  ·have := hx.fact.len; have := hx.fact.lt; simp only [List.length_map, Tryz.t28]; omega
  refine R.fieldAddrPtr (fo := 5) jU Tryz.sizeOf26 ?_
  refine R.storeUpT jS (gB hox) ?_ ?_
  ·first | (rw [Lf]; exact Ds) | (have := Ds (n := ((Hp.set o (pr l (Dv.ei S).2)).set ox (xo false t [])).length) (k := 6) (o := true) (l := [(Dv.ei S).1]); simp only [List.map_cons, List.map_nil, A8] at this; exact this)
  refine R.fin [0, 1, 2] ?_;refine K.blN ?_
  refine K.lpN (r.1 ++ [(Dv.ei (A2 r.2)).1], (Dv.ei (A2 r.2)).2) hon.2.2 (by show l.length - (Dv.ei (A2 r.2)).2.i < l.length - r.2.i; have : r.2.i + 1 ≤ (Dv.ei (A2 r.2)).2.i := hle; omega) (StCut.of_eq ?_)
  simp only [show Tryz.t28.size = 6 from rfl, Lf, List.set_set]
 have hout := hx.out (by rw [ht21]; simp)
 refine Z81 ?_;refine B9 ?_;refine R.loadUpN jA jS (gB hox) ?_;refine Z22 ?_;exact K.fin (V.one (V.cellN jA jS)) ⟨by rw [hout, Up]; rfl, by rw [hout]⟩ (hlow := by have := Ag Hp.length (.mk 6 t noV r.1); rw [Up] at this; simpa using this)

end Go.SX.Nb
