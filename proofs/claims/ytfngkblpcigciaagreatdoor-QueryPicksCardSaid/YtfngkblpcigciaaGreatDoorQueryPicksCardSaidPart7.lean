/- Texts on the way to this: QueryPicks answers true for whatever it is handed: the answer has, of each row that the query of all columns tells, just the values of its own columns. (part 7) -/
import Derived.Lib.ParseIntBTie
import Derived.Lib.AtoiAllCases
import Derived.Lib.AtoiTie
import Derived.Test.YtfngkblpcigciaaGreatDoorQueryPicksCardSaidPart6
set_option linter.all false
namespace Go.SX.Nb
open Go Go.SX Go.Proofs Go.RowKit Go.Sort
variable [ErrAt]
set_option maxRecDepth 4000
theorem c43 (l : List Str) (sep : Str) (hn : l.length ≤ 140737488355328) (hl : (Lib.join l sep).length ≤ 140737488355328) (Hp : List AObj) : AFun Tryz.prog 43 [Gq l, A8 sep] Hp (A8 (Lib.join l sep)) := by
 have e : Gq l = .slice false 1 ((l.map sv).map .v) := by rw [List.map_map]; rfl
 rw [e]
 refine AFun.libSl (xs := [sv sep]) (v := sv (Lib.join l sep)) (fun G w => .v _ _) (fun w u hg hs => ?_)
 rcases hs with ⟨rfl, he⟩ | ⟨ad, c, rfl, hc, hsp, hcell⟩
 ·have : l = [] := by simpa using he
  subst this
  refine (Any.strings_Join_none Tryz.lays156 Vw none 0 ⟨sep.toArray⟩ w).mono ?_
  rintro e w' ⟨rfl, rfl⟩
  exact Rx
 rw [List.length_map] at hc
 match l, hn, hl, hc, hsp, hcell with
 | [], _, _, _, _, _ =>
  refine (Any.strings_Join_none Tryz.lays156 Vw (some ad) c ⟨sep.toArray⟩ w).mono ?_
  rintro e w' ⟨rfl, rfl⟩
  exact Rx
 | [x], _, _, hc, hsp, hcell =>
  obtain ⟨bk, o, spot⟩ := ad
  have hs0 : spot = none := hsp (by simp)
  subst hs0
  refine (Any.strings_Join_one Tryz.lays156 Vw bk o c ⟨x.toArray⟩ ⟨sep.toArray⟩ w (by have := hcell 0 (sv x) rfl; simpa using this)).mono ?_
  rintro e w' ⟨rfl, rfl⟩
  exact ⟨by rw [Lib.join_one], Below.refl _ _⟩
 | x :: y :: r, hn, hl, hc, hsp, hcell =>
  obtain ⟨bk, o, spot⟩ := ad
  have hs0 : spot = none := hsp (by simp)
  subst hs0
  have h0 := hcell 0 (sv x) rfl
  have hb : bk < w.heap.size := World.block_lt_of_cell? _ _ h0
  have hd : ((x :: y :: r).map fun z => (⟨z.toArray⟩ : ByteArray)).map (·.data.toList) = x :: y :: r := by
   rw [List.map_map]
   exact List.map_id'' (fun z => by simp) _
  have := Any.strings_Join_many Tryz.lays156 Vw bk o c ((x :: y :: r).map fun z => (⟨z.toArray⟩ : ByteArray)) ⟨sep.toArray⟩ w (fun j z hz => by
   rw [List.getElem?_map, Option.map_eq_some_iff] at hz
   obtain ⟨z', hz', rfl⟩ := hz
   exact hcell j _ (by rw [List.getElem?_map, hz']; rfl)) hb (by simp) (by simpa using hn) (by simpa using hc) (by rw [hd]; simpa using hl)
  rw [hd, List.length_map] at this
  rw [List.length_map]
  refine this.mono ?_
  rintro e w' ⟨rfl, hb'⟩
  exact ⟨by simp, hb'⟩
end Go.SX.Nb
namespace Go.SX.Nb
open Go Go.SX Go.Proofs
variable [ErrAt]
set_option maxRecDepth 4000
/-- The lexer from a place between two words on. -/
def tg (f q : Nat) (s : Str) : List (Tok × Int) := E7 f (q + gapM s) (s.drop (gapM s))
theorem Sn {f q : Nat} {s : Str} (h : s ≠ []) : ∃ (n : Nat), E7 (f + 1) q s = (⟨(Az s).1, (Az s).2.1, q⟩, (Az s).2.2.2) :: (if (Az s).2.2.2 = 0 then tg f (q + n) (s.drop n) else []) ∧ ((Az s).2.2.2 = 0 → (Az s).2.2.1 = (n : Int) ∧ 1 ≤ n ∧ n ≤ s.length) := by
 refine ⟨(Az s).2.2.1.toNat, ?_, fun he => ?_⟩
 ·rw [Hc h]
  simp only [beq_iff_eq]
  rfl
 obtain ⟨n, h1, h2, h3⟩ := W1 (s := s) (by cases s with | nil => exact absurd rfl h | cons c r => simp) he
 rw [h1]
 exact ⟨rfl, by simpa using h2, by simpa using h3⟩
/-! ### Gaps -/
/-! ### Words -/
theorem iu {s : Str} (h : (Ap s).2.1 = 0) : s.length ≤ 4000 ∧ (∀ it ∈ Ax s, it.2 = 0) ∧ Ap s = ((Ax s).map (·.1) ++ [⟨0, [], s.length⟩], 0, 0) := by
 unfold Ap at h ⊢
 split at h
 ·exact absurd h (show ¬ (3 : Int) = 0 by decide)
 rename_i hl
 rw [if_neg hl]
 cases hf : (Ax s).find? (fun it => it.2 != 0) with
 | some it =>
  rw [hf] at h
  have := List.find?_some hf
  simp at this
  exact absurd h this
 | none =>
  rw [List.find?_eq_none] at hf
  refine ⟨by omega, fun it hit => by simpa using hf it hit, rfl⟩
def So (c : UInt8) : Str := if c = 39 then [39, 39] else [c]
def Ia (t : Str) : Str := t.flatMap So
theorem Sp : ∀ t : Str, (Ia t).length ≤ 2 * t.length
 | [] => Nat.le_refl _
 | c :: r => by
  have := Sp r
  unfold Ia at this ⊢
  rw [List.flatMap_cons, List.length_append, List.length_cons]
  have h : (So c).length ≤ 2 := by unfold So; split <;> simp
  omega
theorem Kh (c : UInt8) (r : Str) : Ia (c :: r) = So c ++ Ia r := by unfold Ia; rw [List.flatMap_cons]
theorem W8 : ∀ s : Str, (Lib.index s [39] = -1 ∧ Ia s = s) ∨ ∃ i : Nat, Lib.index s [39] = (i : Int) ∧ i < s.length ∧ Ia s = s.take i ++ [39, 39] ++ Ia (s.drop (i + 1))
 | [] => .inl ⟨rfl, rfl⟩
 | b :: l => by
  by_cases hb : b = 39
  ·subst hb
   refine .inr ⟨0, by simp [Lib.index, List.isPrefixOf], by simp, ?_⟩
   rw [Kh]
   simp [So]
  have hp : ([39] : Str).isPrefixOf (b :: l) = false := by
   simp [List.isPrefixOf, Ne.symm hb]
  have hd : Ia (b :: l) = b :: Ia l := by
   rw [Kh, So, if_neg hb]
   rfl
  rcases W8 l with ⟨h1, h2⟩ | ⟨i, h1, h2, h3⟩
  ·refine .inl ⟨?_, by rw [hd, h2]⟩
   rw [Lib.index, hp, h1]; rfl
  refine .inr ⟨i + 1, ?_, by simp; omega, ?_⟩
  ·rw [Lib.index, hp, h1, if_neg (by simp), if_neg (by simp)]
   rfl
  rw [hd, h3]
  simp
theorem Jn : ∀ (n : Nat) (s : Str), s.length ≤ n → Lib.replaceK [39] [39, 39] (Lib.count s [39]) s = Ia s
 | n, s, hn => by
  rcases W8 s with ⟨h1, h2⟩ | ⟨i, h1, h2, h3⟩
  ·rw [Lib.count_miss h1, h2]; rfl
  cases n with
  | zero => omega
  | succ n =>
   rw [Lib.count_hit (by decide) h1, Nat.add_comm, Lib.replaceK_hit _ _ _ _ i h1]
   have e : i + ([39] : Str).length = i + 1 := rfl
   rw [e, Jn n (s.drop (i + 1)) (by rw [List.length_drop]; omega), h3]
theorem L1 (s : Str) : Lib.replaceAll s [39] [39, 39] = Ia s := by
 unfold Lib.replaceAll Lib.replace
 rw [if_neg (by decide)]
 have e : Lib.replaceNum s [39] (-1) = Lib.count s [39] := by unfold Lib.replaceNum; rw [if_pos (.inl (by decide))]
 rw [e]
 exact Jn _ s (Nat.le_refl _)
def W9 (t : Tok) : Str := if t.kind = 4 then [39] ++ Ia t.text ++ [39] else t.text
theorem Vc {q : Str} (h0 : q.headD 0 = 39) (h1 : 1 ≤ q.length) (h : (Dt q).2 = 0) : [39] ++ Ia (Dt q).1.s ++ [39] = q := by
 cases q with
 | nil => simp at h1
 | cons c r =>
  have hc : c = 39 := h0
  subst hc
  unfold Dt at h ⊢
  have n1 : ((39 :: r : Str) == [110, 117, 108, 108]) = false := by rw [beq_eq_false_iff_ne]; intro e; injection e with e; exact absurd e (by decide)
  have n2 : ((39 :: r : Str) == [116, 114, 117, 101]) = false := by rw [beq_eq_false_iff_ne]; intro e; injection e with e; exact absurd e (by decide)
  have n3 : ((39 :: r : Str) == [102, 97, 108, 115, 101]) = false := by rw [beq_eq_false_iff_ne]; intro e; injection e with e; exact absurd e (by decide)
  rw [n1, n2, n3] at h ⊢
  simp only [Bool.false_eq_true, if_false, Bool.or_self] at h ⊢
  by_cases hq : P2 (39 :: r) = true
  ·rw [if_pos hq] at h ⊢
   unfold S7 at h ⊢
   split at h
   ·exact absurd h (show ¬ (7 : Int) = 0 by decide)
   rename_i hp
   rw [if_neg hp]
   have hp' : D6 (Mp (39 :: r)) = 39 :: r := by simpa using hp
   have hk : (Mp (39 :: r)).kind = 2 := rfl
   show [39] ++ Ia (Mp (39 :: r)).s ++ [39] = 39 :: r
   generalize Mp (39 :: r) = v at hp' hk
   have hne : D6 v ≠ [] := by rw [hp']; simp
   rw [← hp']
   unfold D6 at hne ⊢
   split at hne
   ·exact absurd rfl hne
   rename_i hpl
   rw [if_neg hpl, hk, if_neg (by decide), if_pos (by decide), L1]
  rw [if_neg hq] at h
  have hd : Fc (39 :: r) = true := by
   unfold Fc
   have e : Ks (39 :: r) = 39 :: r := by
    rcases Kt (39 :: r) with ⟨_, h4⟩ | ⟨r', h3, _⟩
    ·exact h4
    injection h3 with h3; exact absurd h3 (by decide)
   rw [e]
   have : (Lib.trimS (39 :: r) digs == []) = false := by
    rw [beq_eq_false_iff_ne]
    intro e
    rw [Oy] at e
    exact absurd (e 39 (by simp)) (by decide)
   rw [this]
   simp
  have hn : Br (39 :: r) = (0, 6) := by unfold Br; rw [if_pos hd]
  rw [hn] at h
  simp at h
theorem On (s : Str) (m : Nat) : s.take (s.take m).length = s.take m := by
 rw [List.length_take]
 rcases Nat.le_total m s.length with h | h
 ·rw [Nat.min_eq_left h]
 rw [Nat.min_eq_right h, List.take_of_length_le (Nat.le_refl _), List.take_of_length_le h]
theorem Hj (s of : Str) : s.take (Bw s of).length = Bw s of := by
 unfold Bw
 exact On s _
/-- What a word's print spells is what was read. -/
theorem Vd {s : Str} {n p : Nat} (h0 : 1 ≤ s.length) (he : (Az s).2.2.2 = 0) (hn : (Az s).2.2.1 = (n : Int)) : W9 ⟨(Az s).1, (Az s).2.1, p⟩ = s.take n := by
 cases s with
 | nil => simp at h0
 | cons c r =>
  unfold Az at he hn ⊢
  by_cases c1 : decide (0 < Jf ((c :: r).take 1) letters) = true
  ·rw [if_pos c1] at he hn
   simp only [if_pos c1]
   unfold Iq at he hn ⊢
   by_cases r1 : Db (Bw (c :: r) tails) = true
   ·rw [if_pos r1] at hn
    simp only [if_pos r1]
    have hn' : (((Bw (c :: r) tails).length : Nat) : Int) = n := hn
    have e : n = (Bw (c :: r) tails).length := by omega
    rw [e, Hj]
    rfl
   rw [if_neg r1] at he hn
   simp only [if_neg r1]
   by_cases r2 : (!Dg (Bw (c :: r) tails)) = true
   ·rw [if_pos r2] at he; exact absurd he (show ¬ (3 : Int) = 0 by decide)
   rw [if_neg r2] at hn
   simp only [if_neg r2]
   have hn' : (((Bw (c :: r) tails).length : Nat) : Int) = n := hn
   have e : n = (Bw (c :: r) tails).length := by omega
   rw [e, Hj]
   rfl
  rw [if_neg c1] at he hn
  simp only [if_neg c1]
  by_cases c2 : decide (0 < Jf ((c :: r).take 1) digs) = true
  ·rw [if_pos c2] at he hn
   simp only [if_pos c2]
   have hn' : (((Bw (c :: r) digs).length : Nat) : Int) = n := hn
   have e : n = (Bw (c :: r) digs).length := by omega
   rw [e, Hj]
   rfl
  rw [if_neg c2] at he hn
  simp only [if_neg c2]
  by_cases c3 : (((((c :: r)).getD 0 0).toNat : Int) == 39) = true
  ·rw [if_pos c3] at he hn
   simp only [if_pos c3]
   have hc : c = 39 := by
    have c3' : ((c.toNat : Int) == 39) = true := c3
    exact UInt8.toNat_inj.1 (by have : (39 : UInt8).toNat = 39 := rfl; simp at c3'; omega)
   unfold Fm at he hn ⊢
   cases hq : Bl ((c :: r).drop 1) with
   | none => rw [hq] at he; exact absurd he (show ¬ (7 : Int) = 0 by decide)
   | some m =>
    rw [hq] at he hn
    simp only at he hn ⊢
    split at he
    ·exact absurd he (show ¬ (3 : Int) = 0 by decide)
    rename_i hr
    rw [if_neg hr] at hn
    simp only [if_neg hr]
    have hm' : (((m + 1 : Nat)) : Int) = n := hn
    have hm : n = m + 1 := by omega
    subst hm
    have hr' : (Dt ((c :: r).take (m + 1))).2 = 0 := by simpa using hr
    have := Vc (q := (c :: r).take (m + 1)) (by rw [hc]; rfl) (by simp) hr'
    unfold W9
    rw [if_pos rfl]
    exact this
  rw [if_neg c3] at he hn
  simp only [if_neg c3]
  unfold Mt at he hn ⊢
  split at hn
  ·rename_i h2
   simp only [if_pos h2]
   have hn' : (2 : Int) = n := hn
   have : n = 2 := by omega
   subst this
   rfl
  rename_i h2
  rw [if_neg h2] at he
  simp only [if_neg h2]
  split at hn
  ·rename_i h3
   simp only [if_pos h3]
   have hn' : (1 : Int) = n := hn
   have : n = 1 := by omega
   subst this
   rfl
  rename_i h3
  rw [if_neg h3] at he
  exact absurd he (show ¬ (7 : Int) = 0 by decide)
theorem wrap_u64 {n : Int} (h1 : 0 ≤ n) (h2 : n < 18446744073709551616) : IntKind.u64.wrap n = n := by
 have e1 : (2 ^ IntKind.u64.bits : Int) = 18446744073709551616 := rfl
 have e3 : IntKind.u64.signed = false := rfl
 unfold IntKind.wrap
 simp only [e1, e3, Bool.false_and]
 simp
 omega
theorem Wa : ∀ t : Str, t.length ≤ (Ia t).length
 | [] => Nat.le_refl _
 | c :: r => by
  have := Wa r
  rw [Kh, List.length_append, List.length_cons]
  have h : 1 ≤ (So c).length := by unfold So; split <;> simp
  omega
theorem iv (t : Tok) : t.text.length ≤ (W9 t).length := by
 unfold W9
 split
 ·have := Wa t.text
  simp only [List.length_append, List.length_cons, List.length_nil]
  omega
 exact Nat.le_refl _
/-- Words with an end. -/
structure TokEnd (l : List Tok) : Prop where
 split : ∃ L z, l = L ++ [z] ∧ z.kind = 0 ∧ ∀ t ∈ L, t.kind ≠ 0
 texts : ∀ t ∈ l, t.text.length ≤ 1048576
theorem TokEnd.pos {l : List Tok} (h : TokEnd l) : 1 ≤ l.length := by
 obtain ⟨L, z, rfl, _, _⟩ := h.split
 simp
theorem TokEnd.text {l : List Tok} (h : TokEnd l) (i : Nat) : (A9 l i).text.length ≤ 1048576 := by
 unfold A9
 rcases Nat.lt_or_ge i l.length with hi | hi
 ·rw [List.getD_eq_getElem?_getD, List.getElem?_eq_getElem hi]
  exact h.texts _ (List.getElem_mem hi)
 rw [List.getD_eq_getElem?_getD, List.getElem?_eq_none hi]
 exact Nat.zero_le _
theorem iw (s : Str) (he : (Az s).2.2.2 = 0) : (Az s).1 ≠ 0 := by
 revert he
 unfold Az Iq Qt Fm Mt
 repeat' split
 all_goals simp
theorem Sq : ∀ (f q : Nat) (s : Str), (∀ it ∈ E7 f q s, it.2 = 0) → ∀ it ∈ E7 f q s, it.1.kind ≠ 0 ∧ it.1.text.length ≤ s.length
 | 0, _, _, _, it, hm => by cases hm
 | f + 1, q, s, h, it, hm => by
  by_cases hs : s = []
  ·subst hs; cases hm
  obtain ⟨n, h1, h2⟩ := Sn (f := f) (q := q) hs
  rw [h1] at hm h
  have h0 : (Az s).2.2.2 = 0 := h (⟨(Az s).1, (Az s).2.1, q⟩, (Az s).2.2.2) (List.mem_cons_self ..)
  obtain ⟨hn, hn1, hn2⟩ := h2 h0
  rw [if_pos h0] at hm h
  rcases List.mem_cons.1 hm with rfl | hm
  ·refine ⟨iw s h0, ?_⟩
   have hs1 : 1 ≤ s.length := by cases s with | nil => exact absurd rfl hs | cons c r => simp
   have := Vd (p := q) hs1 h0 hn
   have h3 := iv ⟨(Az s).1, (Az s).2.1, q⟩
   rw [this] at h3
   simp only [List.length_take] at h3
   show (Az s).2.1.length ≤ s.length
   omega
  have := Sq f _ _ (fun it hit => h it (List.mem_cons_of_mem _ hit)) it hm
  simp only [List.length_drop] at this
  exact ⟨this.1, by omega⟩
theorem ix {s : Str} (h : (Ap s).2.1 = 0) : TokEnd (Ap s).1 := by
 by_cases h4 : 4000 < s.length
 ·unfold Ap at h
  rw [if_pos h4] at h
  exact bf
 have e : Ap s = ((Ax s).map (·.1) ++ [⟨0, [], s.length⟩], 0, 0) ∧ ∀ it ∈ Ax s, it.2 = 0 := by
  unfold Ap at h ⊢
  rw [if_neg h4] at h ⊢
  cases hf : (Ax s).find? (fun it => it.2 != 0) with
  | none =>
   rw [List.find?_eq_none] at hf
   exact ⟨rfl, fun it hit => by simpa using hf it hit⟩
  | some it =>
   rw [hf] at h
   have := List.find?_some hf
   simp only [bne_iff_ne] at this
   exact absurd h this
 obtain ⟨e, hz⟩ := e
 have hnz := Sq _ _ _ hz
 rw [e]
 refine ⟨⟨_, _, rfl, rfl, fun t ht => ?_⟩, fun t ht => ?_⟩
 ·obtain ⟨it, hit, rfl⟩ := List.mem_map.1 ht
  exact (hnz it hit).1
 rcases List.mem_append.1 ht with ht | ht
 ·obtain ⟨it, hit, rfl⟩ := List.mem_map.1 ht
  have := (hnz it hit).2
  simp only [List.length_drop] at this
  omega
 have e : t = ⟨0, [], s.length⟩ := by simpa using ht
 subst e
 exact Nat.zero_le _
/-- Where a parser of expressions stands: its word, its nest, its fault. -/
structure PS where
 i : Nat
 nest : Nat
 code : Int
 at_ : Int
def noV : Val := ⟨0, 0, []⟩
def Ah : Expr := .mk 0 [] noV []
def C6 (e a : Int) (S : PS) : PS := if S.code == 0 then ⟨S.i, S.nest, e, a⟩ else S
def isM (l : List Tok) (of : Str) (S : PS) : Bool := (((A9 l S.i).kind == 5) || ((A9 l S.i).kind == 2)) && I4 (A9 l S.i).text of
def Aa (S : PS) : PS := ⟨S.i + 1, S.nest, S.code, S.at_⟩
def Bm (S : PS) : PS := ⟨S.i, S.nest + 1, S.code, S.at_⟩
def Ph (S : PS) : PS := ⟨S.i, S.nest - 1, S.code, S.at_⟩
def Ct (l : List Tok) (s : Str) (S : PS) : PS := if S.code != 0 then S else if ((A9 l S.i).kind != 5) || !((A9 l S.i).text == s) then C6 8 (A9 l S.i).at_ S else Aa S
/-- What stands one nest deeper. -/
structure Fam where
 ei : PS → Expr × PS
 no : PS → Expr × PS
 ne : PS → Expr × PS
def B0 (a : Int) (f : PS → Expr × PS) (S : PS) : Expr × PS := if (S.nest : Int) == 30 then (Ah, C6 18 a S) else ((f (Bm S)).1, Ph (f (Bm S)).2)
def Es (t : Str) (x y : Expr) : Expr := .mk 5 t noV [x, y]
def Pi (l : List Tok) (of : Str) (f : PS → Expr × PS) : Nat → Expr × PS → Expr × PS
 | 0, r => r
 | n + 1, r => if (r.2.code == 0) && isM l of r.2 then Pi l of f n (Es (A9 l r.2.i).text r.1 (f (Aa r.2)).1, (f (Aa r.2)).2) else r
def Cv (l : List Tok) (of : Str) (f : PS → Expr × PS) (S : PS) : Expr × PS := Pi l of f l.length (f S)
def Ng : Str := [32, 44, 32]
def argsF (l : List Tok) (f : PS → Expr × PS) : Nat → List Expr × PS → List Expr × PS
 | 0, r => r
 | n + 1, r => if (r.2.code == 0) && isM l Ng r.2 then argsF l f n (r.1 ++ [(f (Aa r.2)).1], (f (Aa r.2)).2) else r
def E2 (l : List Tok) (f : PS → Expr × PS) (S : PS) : List Expr × PS := argsF l f l.length ([(f S).1], (f S).2)
def L2 (l : List Tok) (a : Int) (f : PS → Expr × PS) (S : PS) : List Expr × PS := if (S.nest : Int) == 30 then ([], C6 18 a S) else ((E2 l f (Bm S)).1, Ph (E2 l f (Bm S)).2)
def Cr : Str := [41]
def By (l : List Tok) (D : Fam) (S : PS) : List Expr × PS := L2 l (A9 l S.i).at_ D.ei (Aa S)
def E3 (l : List Tok) (D : Fam) (t : Tok) (S : PS) : Expr × PS :=
 if Av t.text < 0 then (Ah, C6 9 t.at_ S)
 else if ((Ct l Cr (By l D S).2).code == 0) && !(((By l D S).1.length : Int) == Av t.text) then (Ah, C6 8 t.at_ (Ct l Cr (By l D S).2))
 else (.mk 6 t.text noV (By l D S).1, Ct l Cr (By l D S).2)
def orT : Str := [32, 111, 114, 32]
def Yk : Str := [32, 97, 110, 100, 32]
def mq : Str := [32, 110, 111, 116, 32]
def iy : Str := [32, 61, 32, 33, 61, 32, 60, 32, 60, 61, 32, 62, 32, 62, 61, 32]
def Yl : Str := [32, 43, 32, 45, 32, 38, 32]
def Pj : Str := [32, 42, 32, 47, 32, 37, 32]
def mr : Str := [32, 45, 32]
def opT : Str := [32, 40, 32]
def ms : Str := [32, 116, 114, 117, 101, 32, 102, 97, 108, 115, 101, 32, 110, 117, 108, 108, 32]
def Fu (v : Val) : Expr := .mk 1 [] v []
def Dd (l : List Tok) (D : Fam) (S : PS) : Expr × PS :=
 if S.code != 0 then (Ah, S)
 else if ((A9 l S.i).kind == 3) || isM l ms S then (Fu (Dt (A9 l S.i).text).1, Aa S)
 else if (A9 l S.i).kind == 4 then (Fu ⟨2, 0, (A9 l S.i).text.take 200⟩, Aa S)
 else if (A9 l S.i).kind == 1 then (if isM l opT (Aa S) then E3 l D (A9 l S.i) (Aa S) else (D7 (A9 l S.i).text, Aa S))
 else if isM l opT S then ((B0 (A9 l S.i).at_ D.ei (Aa S)).1, Ct l Cr (B0 (A9 l S.i).at_ D.ei (Aa S)).2)
 else (Ah, C6 8 (A9 l S.i).at_ S)
def Di (op : Int) (x : Expr) : Expr := .mk op [] noV [x]
def Ll (l : List Tok) (D : Fam) (S : PS) : Expr × PS := if !isM l mr S then Dd l D S else (Di 3 (B0 (A9 l S.i).at_ D.ne (Aa S)).1, (B0 (A9 l S.i).at_ D.ne (Aa S)).2)
def Sr (l : List Tok) (D : Fam) : PS → Expr × PS := Cv l Pj (Ll l D)
def C9 (l : List Tok) (D : Fam) : PS → Expr × PS := Cv l Yl (Sr l D)
def Cu (l : List Tok) (D : Fam) (S : PS) : Expr × PS :=
 if ((C9 l D S).2.code != 0) || !isM l iy (C9 l D S).2 then C9 l D S
 else (Es (A9 l (C9 l D S).2.i).text (C9 l D S).1 (C9 l D (Aa (C9 l D S).2)).1, (C9 l D (Aa (C9 l D S).2)).2)
def Lm (l : List Tok) (D : Fam) (S : PS) : Expr × PS := if !isM l mq S then Cu l D S else (Di 4 (B0 (A9 l S.i).at_ D.no (Aa S)).1, (B0 (A9 l S.i).at_ D.no (Aa S)).2)
def Ss (l : List Tok) (D : Fam) : PS → Expr × PS := Cv l Yk (Lm l D)
def Lr (l : List Tok) (D : Fam) : PS → Expr × PS := Cv l orT (Ss l D)
def Cs (l : List Tok) : Nat → Fam
 | 0 => ⟨fun S => (Ah, S), fun S => (Ah, S), fun S => (Ah, S)⟩
 | d + 1 => ⟨Lr l (Cs l d), Lm l (Cs l d), Ll l (Cs l d)⟩

/-! What is so of them. -/
theorem Du : ∀ {n m : Nat}, n ≤ m → ∀ {e : Expr}, okE n e → okE m e
 | 0, _, _, _, h => h.elim
 | n + 1, 0, h, _, _ => by omega
 | n + 1, m + 1, h, _, ho => ⟨ho.1, ho.2.1, fun y hy => Du (by omega) (ho.2.2 y hy)⟩
theorem Nh : sizeE Ah = 1 := rfl
theorem Ym (t : Str) (a b : Expr) : sizeE (Es t a b) = 1 + (sizeE a + (sizeE b + 0)) := by rw [Es, sizeE, B8, B8, B8]
theorem Yn (o : Int) (a : Expr) : sizeE (Di o a) = 1 + (sizeE a + 0) := by rw [Di, sizeE, B8, B8]
theorem Pk : ∀ a b : List Expr, B8 (a ++ b) = B8 a + B8 b
 | [], b => by rw [List.nil_append, B8, Nat.zero_add]
 | e :: r, b => by rw [List.cons_append, B8, B8, Pk r b, Nat.add_assoc]
theorem Su {n : Nat} (h : 1 ≤ n) : okE n Ah := Du h ⟨by decide, by decide, fun y hy => by cases hy⟩
theorem Wb {n : Nat} (h : 1 ≤ n) (v : Val) : okE n (Fu v) := Du h ⟨by simp [Fu, Expr.text], by simp [Fu, Expr.kids], fun y hy => by cases hy⟩
structure Fact (l : List Tok) (S : PS) (r : Expr × PS) : Prop where
 le : S.i ≤ r.2.i
 lt : r.2.i < l.length
 nest : r.2.nest = S.nest
 ok : okE (2 * (r.2.i - S.i) + 1) r.1
 sz : sizeE r.1 ≤ 2 * (r.2.i - S.i) + 1
def Ca (l : List Tok) (n : Nat) (f : PS → Expr × PS) : Prop := ∀ S, S.i < l.length → S.nest = n → Fact l S (f S)
theorem TokEnd.step {l : List Tok} (h : TokEnd l) {i : Nat} (hi : i < l.length) (hk : (A9 l i).kind ≠ 0) : i + 1 < l.length := by
 obtain ⟨L, z, rfl, hz, _⟩ := h.split
 rcases Nat.lt_or_ge i L.length with h1 | h1
 ·simp only [List.length_append, List.length_cons, List.length_nil]; omega
 have : i = L.length := by simp only [List.length_append, List.length_cons, List.length_nil] at hi; omega
 subst this
 exact absurd (by unfold A9; simpa using hz) hk
theorem cr {l : List Tok} {of : Str} {S : PS} (h : isM l of S = true) : (A9 l S.i).kind ≠ 0 := by
 unfold isM at h
 simp only [Bool.and_eq_true, Bool.or_eq_true, beq_iff_eq] at h
 omega
theorem TokEnd.stepIs {l : List Tok} (h : TokEnd l) {of : Str} {S : PS} (hi : S.i < l.length) (hk : isM l of S = true) : (Aa S).i < l.length := h.step hi (cr hk)
theorem failM_i {e a : Int} {S : PS} : (C6 e a S).i = S.i ∧ (C6 e a S).nest = S.nest := by unfold C6; split <;> exact ⟨rfl, rfl⟩
theorem Wc {l : List Tok} (hl : TokEnd l) {s : Str} {S : PS} (hi : S.i < l.length) : S.i ≤ (Ct l s S).i ∧ (Ct l s S).i < l.length ∧ (Ct l s S).nest = S.nest := by
 unfold Ct
 split
 ·exact ⟨Nat.le_refl _, hi, rfl⟩
 split
 ·rw [failM_i.1, failM_i.2]; exact ⟨Nat.le_refl _, hi, rfl⟩
 rename_i h
 simp only [Bool.or_eq_true, bne_iff_ne, ne_eq, not_or, Classical.not_not] at h
 have := hl.step hi (by rw [h.1]; decide)
 exact ⟨Nat.le_succ _, this, rfl⟩
theorem Jo {l : List Tok} {S S0 : PS} (h0 : S0.i ≤ S.i) (h1 : S.i < l.length) (h2 : S.nest = S0.nest) (e a : Int) : Fact l S0 (Ah, C6 e a S) := by
 refine ⟨?_, ?_, ?_, Su (by omega), by rw [Nh]; omega⟩
 ·show _ ≤ (C6 e a S).i; rw [failM_i.1]; exact h0
 ·show (C6 e a S).i < _; rw [failM_i.1]; exact h1
 show (C6 e a S).nest = _; rw [failM_i.2]; exact h2
/-- A state of a loop of marks. -/
structure LeftAt (l : List Tok) (of : Str) (f : PS → Expr × PS) (S : PS) (r : Expr × PS) : Prop where
 fact : Fact l S r
 eq : ∃ n, l.length ≤ r.2.i + n ∧ Cv l of f S = Pi l of f n r
theorem LeftAt.start {l : List Tok} {of : Str} {f : PS → Expr × PS} {S : PS} (h : Fact l S (f S)) : LeftAt l of f S (f S) := ⟨h, l.length, by omega, rfl⟩
theorem Wd {l : List Tok} {S : PS} {r q : Expr × PS} (h : Fact l S r) (hq : Fact l (Aa r.2) q) (hl : TokEnd l) : Fact l S (Es (A9 l r.2.i).text r.1 q.1, q.2) := by
 have h1 := h.le
 have h2 : r.2.i + 1 ≤ q.2.i := hq.le
 refine ⟨by show S.i ≤ q.2.i; omega, hq.lt, by show q.2.nest = S.nest; rw [hq.nest]; exact h.nest, ?_, ?_⟩
 rotate_left
 ·have s1 := h.sz
  have s2 : sizeE q.1 ≤ 2 * (q.2.i - (r.2.i + 1)) + 1 := hq.sz
  show sizeE (Es _ r.1 q.1) ≤ 2 * (q.2.i - S.i) + 1
  rw [Ym]
  omega
 show okE (2 * (q.2.i - S.i) + 1) _
 refine ⟨hl.text _, by simp [Es, Expr.kids], fun y hy => ?_⟩
 have hy' : y = r.1 ∨ y = q.1 := by simpa [Es, Expr.kids] using hy
 rcases hy' with rfl | rfl
 ·exact Du (by omega) h.ok
 exact Du (by show 2 * (q.2.i - (r.2.i + 1)) + 1 ≤ _; omega) hq.ok
theorem LeftAt.on {l : List Tok} {of : Str} {f : PS → Expr × PS} {S : PS} {r : Expr × PS} (hl : TokEnd l) (h : LeftAt l of f S r) (hc : ((r.2.code == 0) && isM l of r.2) = true) (hf : Ca l S.nest f) : (Aa r.2).i < l.length ∧ Fact l (Aa r.2) (f (Aa r.2)) ∧ LeftAt l of f S (Es (A9 l r.2.i).text r.1 (f (Aa r.2)).1, (f (Aa r.2)).2) := by
 have hi := hl.stepIs h.fact.lt (Bool.and_eq_true_iff.1 hc).2
 have hq := hf (Aa r.2) hi h.fact.nest
 obtain ⟨n, hn, e⟩ := h.eq
 have h1 := h.fact.lt
 have h2 : r.2.i + 1 ≤ (f (Aa r.2)).2.i := hq.le
 obtain ⟨m, rfl⟩ : ∃ m, n = m + 1 := ⟨n - 1, by omega⟩
 refine ⟨hi, hq, Wd h.fact hq hl, m, by show l.length ≤ (f (Aa r.2)).2.i + m; omega, ?_⟩
 rw [e, Pi, if_pos hc]
theorem LeftAt.out {l : List Tok} {of : Str} {f : PS → Expr × PS} {S : PS} {r : Expr × PS} (h : LeftAt l of f S r) (hc : ¬ ((r.2.code == 0) && isM l of r.2) = true) : Cv l of f S = r := by
 obtain ⟨n, hn, e⟩ := h.eq
 have h1 := h.fact.lt
 obtain ⟨m, rfl⟩ : ∃ m, n = m + 1 := ⟨n - 1, by omega⟩
 rw [e, Pi, if_neg hc]
theorem Sv {l : List Tok} {of : Str} {f : PS → Expr × PS} {S : PS} (hl : TokEnd l) (hf : Ca l S.nest f) : ∀ (k : Nat) (r : Expr × PS), l.length - r.2.i ≤ k → LeftAt l of f S r → Fact l S (Cv l of f S)
 | 0, r, hk, h => by have := h.fact.lt; omega
 | k + 1, r, hk, h => by
  by_cases hc : ((r.2.code == 0) && isM l of r.2) = true
  ·obtain ⟨h1, h2, h3⟩ := h.on hl hc hf
   have h4 : r.2.i + 1 ≤ (f (Aa r.2)).2.i := h2.le
   exact Sv hl hf k _ (by show l.length - (f (Aa r.2)).2.i ≤ k; have := h.fact.lt; omega) h3
  rw [h.out hc]; exact h.fact
theorem Dl {l : List Tok} {of : Str} {f : PS → Expr × PS} {n : Nat} (hl : TokEnd l) (hf : Ca l n f) : Ca l n (Cv l of f) := fun S hi hn => Sv hl (hn ▸ hf) l.length (f S) (by omega) (.start (hf S hi hn))
theorem F3 {l : List Tok} {f : PS → Expr × PS} {S : PS} (a : Int) (hi : S.i < l.length) (hf : S.nest ≠ 30 → Ca l (S.nest + 1) f) : Fact l S (B0 a f S) := by
 unfold B0
 split
 ·exact Jo (Nat.le_refl _) hi rfl _ _
 rename_i h
 have h30 : S.nest ≠ 30 := fun e => h (by rw [e]; rfl)
 have := hf h30 (Bm S) hi rfl
 refine ⟨this.le, this.lt, ?_, this.ok, this.sz⟩
 show (f (Bm S)).2.nest - 1 = S.nest
 rw [this.nest]
 rfl
/-- What is so of some kids. -/
structure KFact (l : List Tok) (S : PS) (r : List Expr × PS) : Prop where
 le : S.i ≤ r.2.i
 lt : r.2.i < l.length
 nest : r.2.nest = S.nest
 len : r.1.length ≤ r.2.i - S.i + 1
 ok : ∀ y ∈ r.1, okE (2 * (r.2.i - S.i) + 1) y
 sz : B8 r.1 ≤ 2 * (r.2.i - S.i) + 1
structure ArgsAt (l : List Tok) (f : PS → Expr × PS) (S : PS) (r : List Expr × PS) : Prop where
 fact : KFact l S r
 eq : ∃ n, l.length ≤ r.2.i + n ∧ E2 l f S = argsF l f n r
theorem ArgsAt.start {l : List Tok} {f : PS → Expr × PS} {S : PS} (h : Fact l S (f S)) : ArgsAt l f S ([(f S).1], (f S).2) := ⟨⟨h.le, h.lt, h.nest, by simp, fun y hy => by rw [List.mem_singleton.1 hy]; exact h.ok, by have := h.sz; show sizeE (f S).1 + 0 ≤ _; exact this⟩, l.length, by omega, rfl⟩
theorem ArgsAt.on {l : List Tok} {f : PS → Expr × PS} {S : PS} {r : List Expr × PS} (hl : TokEnd l) (h : ArgsAt l f S r) (hc : ((r.2.code == 0) && isM l Ng r.2) = true) (hf : Ca l S.nest f) : (Aa r.2).i < l.length ∧ Fact l (Aa r.2) (f (Aa r.2)) ∧ ArgsAt l f S (r.1 ++ [(f (Aa r.2)).1], (f (Aa r.2)).2) := by
 have hi := hl.stepIs h.fact.lt (Bool.and_eq_true_iff.1 hc).2
 have hq := hf (Aa r.2) hi h.fact.nest
 obtain ⟨n, hn, e⟩ := h.eq
 have h1 := h.fact.lt
 have h0 := h.fact.le
 have h2 : r.2.i + 1 ≤ (f (Aa r.2)).2.i := hq.le
 obtain ⟨m, rfl⟩ : ∃ m, n = m + 1 := ⟨n - 1, by omega⟩
 refine ⟨hi, hq, ⟨by show S.i ≤ (f (Aa r.2)).2.i; omega, hq.lt, by show (f (Aa r.2)).2.nest = _; rw [hq.nest]; exact h.fact.nest, ?_, fun y hy => ?_, ?_⟩, m, by show l.length ≤ (f (Aa r.2)).2.i + m; omega, ?_⟩
 ·have := h.fact.len
  show (r.1 ++ _).length ≤ (f (Aa r.2)).2.i - S.i + 1
  simp only [List.length_append, List.length_cons, List.length_nil]
  omega
 ·show okE (2 * ((f (Aa r.2)).2.i - S.i) + 1) y
  rcases List.mem_append.1 hy with hy | hy
  ·exact Du (by omega) (h.fact.ok y hy)
  rw [List.mem_singleton.1 hy]
  exact Du (by show 2 * ((f (Aa r.2)).2.i - (r.2.i + 1)) + 1 ≤ _; omega) hq.ok
 ·have s1 := h.fact.sz
  have s2 : sizeE (f (Aa r.2)).1 ≤ 2 * ((f (Aa r.2)).2.i - (r.2.i + 1)) + 1 := hq.sz
  show B8 (r.1 ++ [(f (Aa r.2)).1]) ≤ 2 * ((f (Aa r.2)).2.i - S.i) + 1
  rw [Pk, B8, B8]
  omega
 rw [e, argsF, if_pos hc]
theorem ArgsAt.out {l : List Tok} {f : PS → Expr × PS} {S : PS} {r : List Expr × PS} (h : ArgsAt l f S r) (hc : ¬ ((r.2.code == 0) && isM l Ng r.2) = true) : E2 l f S = r := by
 obtain ⟨n, hn, e⟩ := h.eq
 have h1 := h.fact.lt
 obtain ⟨m, rfl⟩ : ∃ m, n = m + 1 := ⟨n - 1, by omega⟩
 rw [e, argsF, if_neg hc]
theorem Sw {l : List Tok} {f : PS → Expr × PS} {S : PS} (hl : TokEnd l) (hf : Ca l S.nest f) : ∀ (k : Nat) (r : List Expr × PS), l.length - r.2.i ≤ k → ArgsAt l f S r → KFact l S (E2 l f S)
 | 0, r, hk, h => by have := h.fact.lt; omega
 | k + 1, r, hk, h => by
  by_cases hc : ((r.2.code == 0) && isM l Ng r.2) = true
  ·obtain ⟨h1, h2, h3⟩ := h.on hl hc hf
   have h4 : r.2.i + 1 ≤ (f (Aa r.2)).2.i := h2.le
   exact Sw hl hf k _ (by show l.length - (f (Aa r.2)).2.i ≤ k; have := h.fact.lt; omega) h3
  rw [h.out hc]; exact h.fact
theorem Ni {l : List Tok} {f : PS → Expr × PS} {S : PS} (hl : TokEnd l) (hi : S.i < l.length) (hf : Ca l S.nest f) : KFact l S (E2 l f S) := Sw hl hf l.length _ (by show l.length - (f S).2.i ≤ _; omega) (.start (hf S hi rfl))
theorem Nj {l : List Tok} {f : PS → Expr × PS} {S : PS} (hl : TokEnd l) (a : Int) (hi : S.i < l.length) (hf : S.nest ≠ 30 → Ca l (S.nest + 1) f) : KFact l S (L2 l a f S) := by
 unfold L2
 split
 ·refine ⟨?_, ?_, ?_, by simp, fun y hy => (by cases hy), by simp [B8]⟩
  ·show _ ≤ (C6 _ _ S).i; rw [failM_i.1]; exact Nat.le_refl _
  ·show (C6 _ _ S).i < _; rw [failM_i.1]; exact hi
  show (C6 _ _ S).nest = _; rw [failM_i.2]
 rename_i h
 have h30 : S.nest ≠ 30 := fun e => h (by rw [e]; rfl)
 have := Ni (S := Bm S) hl hi (hf h30)
 refine ⟨this.le, this.lt, ?_, this.len, this.ok, this.sz⟩
 show (E2 l f (Bm S)).2.nest - 1 = S.nest
 rw [this.nest]
 rfl
theorem Ve {l : List Tok} {D : Fam} {S : PS} (hl : TokEnd l) (hll : l.length ≤ 1048576) {t : Tok} (ht : t.text.length ≤ 1048576) (hi : (Aa S).i < l.length) (hf : S.nest ≠ 30 → Ca l (S.nest + 1) D.ei) : Fact l S (E3 l D t S) := by
 have hk : KFact l (Aa S) (By l D S) := Nj hl _ hi hf
 have h1 : S.i + 1 ≤ (By l D S).2.i := hk.le
 obtain ⟨w1, w2, w3⟩ := Wc (s := Cr) hl hk.lt
 unfold E3
 split
 ·exact Jo (Nat.le_refl _) (by show S.i < _; have : S.i + 1 < l.length := hi; omega) rfl _ _
 split
 ·exact Jo (show S.i ≤ (Ct l Cr (By l D S).2).i by omega) w2 (w3.trans hk.nest) 8 t.at_
 refine ⟨by show S.i ≤ (Ct l Cr (By l D S).2).i; omega, w2, w3.trans hk.nest, ?_, ?_⟩
 rotate_left
 ·have s1 : B8 (By l D S).1 ≤ 2 * ((By l D S).2.i - (S.i + 1)) + 1 := hk.sz
  show sizeE (.mk 6 t.text noV (By l D S).1) ≤ 2 * ((Ct l Cr (By l D S).2).i - S.i) + 1
  rw [sizeE]
  omega
 show okE (2 * ((Ct l Cr (By l D S).2).i - S.i) + 1) _
 refine ⟨ht, ?_, fun y hy => ?_⟩
 ·have h5 : (By l D S).1.length ≤ (By l D S).2.i - (Aa S).i + 1 := hk.len
  have h6 := hk.lt
  show (By l D S).1.length ≤ 1048576
  omega
 exact Du (by show 2 * ((By l D S).2.i - (S.i + 1)) + 1 ≤ _; omega) (hk.ok y hy)
theorem Vf {l : List Tok} {D : Fam} {n : Nat} (hl : TokEnd l) (hll : l.length ≤ 1048576) (hf : n ≠ 30 → Ca l (n + 1) D.ei) : Ca l n (Dd l D) := by
 intro S hi hn
 subst hn
 unfold Dd
 have leaf : ∀ e : Expr, okE 1 e → sizeE e = 1 → (A9 l S.i).kind ≠ 0 → Fact l S (e, Aa S) := fun e he hs hk => ⟨Nat.le_succ _, hl.step hi hk, rfl, Du (by omega) he, by show sizeE e ≤ _; omega⟩
 split
 ·exact ⟨Nat.le_refl _, hi, rfl, Su (by omega), by show sizeE Ah ≤ _; rw [Nh]; omega⟩
 split
 ·rename_i h
  refine leaf _ (Wb (Nat.le_refl _) _) rfl ?_
  rcases Bool.or_eq_true_iff.1 h with h | h
  ·rw [beq_iff_eq] at h; rw [h]; decide
  exact cr h
 split
 ·rename_i h
  rw [beq_iff_eq] at h
  exact leaf _ (Wb (Nat.le_refl _) _) rfl (by rw [h]; decide)
 split
 ·rename_i h
  rw [beq_iff_eq] at h
  have hk : (A9 l S.i).kind ≠ 0 := by rw [h]; decide
  split
  ·rename_i h2
   have hi1 : (Aa S).i < l.length := hl.step hi hk
   have := Ve (S := Aa S) (D := D) hl hll (hl.text S.i) (hl.stepIs hi1 h2) hf
   have h3 : S.i + 1 ≤ (E3 l D (A9 l S.i) (Aa S)).2.i := this.le
   have h4 : sizeE (E3 l D (A9 l S.i) (Aa S)).1 ≤ 2 * ((E3 l D (A9 l S.i) (Aa S)).2.i - (S.i + 1)) + 1 := this.sz
   exact ⟨by omega, this.lt, this.nest, Du (by show 2 * ((E3 l D (A9 l S.i) (Aa S)).2.i - (S.i + 1)) + 1 ≤ _; omega) this.ok, by omega⟩
  exact leaf _ (Se _ (hl.text _)) rfl hk
 split
 ·rename_i h
  have hi1 : (Aa S).i < l.length := hl.stepIs hi h
  have := F3 (S := Aa S) (l := l) (f := D.ei) (A9 l S.i).at_ hi1 hf
  obtain ⟨w1, w2, w3⟩ := Wc (s := Cr) hl this.lt
  have h3 : S.i + 1 ≤ (B0 (A9 l S.i).at_ D.ei (Aa S)).2.i := this.le
  have h4 : sizeE (B0 (A9 l S.i).at_ D.ei (Aa S)).1 ≤ 2 * ((B0 (A9 l S.i).at_ D.ei (Aa S)).2.i - (S.i + 1)) + 1 := this.sz
  refine ⟨by show S.i ≤ (Ct l Cr _).i; omega, w2, w3.trans this.nest, Du ?_ this.ok, by show sizeE (B0 (A9 l S.i).at_ D.ei (Aa S)).1 ≤ 2 * ((Ct l Cr (B0 (A9 l S.i).at_ D.ei (Aa S)).2).i - S.i) + 1; omega⟩
  show 2 * ((B0 (A9 l S.i).at_ D.ei (Aa S)).2.i - (S.i + 1)) + 1 ≤ 2 * ((Ct l Cr (B0 (A9 l S.i).at_ D.ei (Aa S)).2).i - S.i) + 1
  omega
 exact Jo (Nat.le_refl _) hi rfl _ _
theorem We {l : List Tok} {S : PS} {r : Expr × PS} (h : Fact l (Aa S) r) (op : Int) : Fact l S (Di op r.1, r.2) := by
 have h1 : S.i + 1 ≤ r.2.i := h.le
 refine ⟨by show S.i ≤ r.2.i; omega, h.lt, h.nest, ?_, ?_⟩
 rotate_left
 ·have s1 : sizeE r.1 ≤ 2 * (r.2.i - (S.i + 1)) + 1 := h.sz
  show sizeE (Di op r.1) ≤ 2 * (r.2.i - S.i) + 1
  rw [Yn]
  omega
 show okE (2 * (r.2.i - S.i) + 1) _
 refine ⟨by simp [Di, Expr.text], by simp [Di, Expr.kids], fun y hy => ?_⟩
 have hy' : y = r.1 := by simpa [Di, Expr.kids] using hy
 subst hy'
 exact Du (by show 2 * (r.2.i - (S.i + 1)) + 1 ≤ _; omega) h.ok
theorem Ki {l : List Tok} {D : Fam} {n : Nat} (hl : TokEnd l) (hll : l.length ≤ 1048576) (hf : n ≠ 30 → Ca l (n + 1) D.ei) (hg : n ≠ 30 → Ca l (n + 1) D.ne) : Ca l n (Ll l D) := by
 intro S hi hn
 unfold Ll
 split
 ·exact Vf hl hll hf S hi hn
 rename_i h
 subst hn
 exact We (F3 (S := Aa S) _ (hl.stepIs hi (by simpa using h)) hg) 3
theorem Pl {l : List Tok} {D : Fam} {n : Nat} (hl : TokEnd l) (hll : l.length ≤ 1048576) (hf : n ≠ 30 → Ca l (n + 1) D.ei) (hg : n ≠ 30 → Ca l (n + 1) D.ne) : Ca l n (C9 l D) := Dl hl (Dl hl (Ki hl hll hf hg))
theorem If {l : List Tok} {D : Fam} {n : Nat} (hl : TokEnd l) (hll : l.length ≤ 1048576) (hf : n ≠ 30 → Ca l (n + 1) D.ei) (hg : n ≠ 30 → Ca l (n + 1) D.ne) : Ca l n (Cu l D) := by
 intro S hi hn
 have h1 := Pl hl hll hf hg S hi hn
 unfold Cu
 split
 ·exact h1
 rename_i h
 simp only [Bool.or_eq_true, not_or, Bool.not_eq_true, Bool.not_eq_false'] at h
 exact Wd h1 (Pl hl hll hf hg _ (hl.stepIs h1.lt h.2) (h1.nest.trans hn)) hl
theorem Pm {l : List Tok} {D : Fam} {n : Nat} (hl : TokEnd l) (hll : l.length ≤ 1048576) (hf : n ≠ 30 → Ca l (n + 1) D.ei) (hg : n ≠ 30 → Ca l (n + 1) D.ne) (hh : n ≠ 30 → Ca l (n + 1) D.no) : Ca l n (Lm l D) := by
 intro S hi hn
 unfold Lm
 split
 ·exact If hl hll hf hg S hi hn
 rename_i h
 subst hn
 exact We (F3 (S := Aa S) _ (hl.stepIs hi (by simpa using h)) hh) 4
theorem Kj {l : List Tok} (hl : TokEnd l) (hll : l.length ≤ 1048576) : ∀ (d n : Nat), n + d = 31 → n ≠ 31 → Ca l n (Cs l d).ei ∧ Ca l n (Cs l d).no ∧ Ca l n (Cs l d).ne
 | 0, n, h, h2 => by omega
 | d + 1, n, h, _ => by
  have ih : n ≠ 30 → _ := fun h30 => Kj hl hll d (n + 1) (by omega) (by omega)
  have hn := Pm (D := Cs l d) (n := n) hl hll (fun h => (ih h).1) (fun h => (ih h).2.2) (fun h => (ih h).2.1)
  exact ⟨Dl hl (Dl hl hn), hn, Ki hl hll (fun h => (ih h).1) (fun h => (ih h).2.2)⟩
/-! What is printed of columns, word by word. -/
def ktT (t : Tok) : Int × Str := (t.kind, t.text)
set_option maxRecDepth 8000
abbrev TK := Int × Str
/-- What stands from word i on. -/
def seg (l : List Tok) (i : Nat) : List TK := (l.drop i).map ktT
theorem Hl (s : Str) : s ∈ levels.flatten ∨ (Ar s = -1 ∧ ∀ l ∈ levels, l.contains s = false) := by
 by_cases h : s ∈ levels.flatten
 ·exact .inl h
 have h2 : ∀ l ∈ levels, l.contains s = false := fun l hl => by
  rw [Bool.eq_false_iff]
  intro h3
  exact h (List.mem_flatten.2 ⟨l, hl, by simpa using h3⟩)
 refine .inr ⟨?_, h2⟩
 unfold Ar
 rw [List.findIdx?_eq_none_iff.2 fun l hl => h2 l hl]
/-- The texts of levels of marks. -/
def ofL (k : Nat) : Str := if k = 0 then orT else if k = 1 then Yk else if k = 3 then iy else if k = 4 then Yl else Pj
theorem ct (s : Str) : -1 ≤ Ar s ∧ Ar s ≤ 5 ∧ Ar s ≠ 2 := by
 rcases Hl s with h | ⟨h, _⟩
 ·have h3 : (levels.flatten.all fun s => decide (-1 ≤ Ar s ∧ Ar s ≤ 5 ∧ Ar s ≠ 2)) = true := by kernel_rfl
  exact of_decide_eq_true (List.all_eq_true.1 h3 s h)
 omega
/-- A row of words behind which no mark of a level, or of a tighter one, stands. -/
def cu (k : Nat) (rest : List TK) : Prop := ∀ h r, rest = h :: r → ((h.1 == 5) || (h.1 == 2)) = true → Ar h.2 < (k : Int) ∧ h.2 ≠ [40]
def Yo : Str := [110, 111, 116]
def levE (e : Expr) : Nat := if e.op == 4 then 2 else if e.op == 3 then 6 else if e.op == 5 then (Ar e.text).toNat else 7
def iz (least : Nat) (x : Expr) (T : List TK) : List TK := if least ≤ levE x then T else (5, [40]) :: (T ++ [(5, [41])])
def j1 (least : Nat) (x : Expr) (n : Nat) : Nat := if least ≤ levE x then n else n + 1
def Dw (own : Nat) : Nat := if own = 3 then 4 else own
def mt (v : Val) : TK := if v.kind == 1 then (3, D6 v) else if v.kind == 2 then (4, v.s) else (2, D6 v)
def qy (t : Str) : TK := (if Gi (t.headD 0) then 2 else 5, t)
def qz : List (List TK) → List TK
 | [] => []
 | T :: r => (5, [44]) :: (T ++ qz r)
def r6 (o : Int) (t : Str) (v : Val) (k : List Expr) (ts : List (List TK)) : List TK :=
 if o == 1 then [mt v] else if o == 2 then [(1, t)]
 else if o == 3 then (5, [45]) :: iz 6 (k.getD 0 Ah) (ts.getD 0 [])
 else if o == 4 then (2, Yo) :: iz 2 (k.getD 0 Ah) (ts.getD 0 [])
 else if o == 5 then iz (Dw (Ar t).toNat) (k.getD 0 Ah) (ts.getD 0 []) ++ qy t :: iz ((Ar t).toNat + 1) (k.getD 1 Ah) (ts.getD 1 [])
 else (1, t) :: (5, [40]) :: ((qz ts).drop 1 ++ [(5, [41])])
mutual
def Nk : Expr → List TK
 | .mk o t v k => r6 o t v k (l4 k)
def l4 : List Expr → List (List TK)
  | [] => []
  | e :: r => Nk e :: l4 r
 end
def r7 : List Nat → Nat
 | [] => 0
 | n :: r => max n (r7 r)
def r8 (o : Int) (t : Str) (k : List Expr) (ns : List Nat) : Nat :=
 if o == 1 then 0 else if o == 2 then 0
 else if o == 3 then 1 + j1 6 (k.getD 0 Ah) (ns.getD 0 0)
 else if o == 4 then 1 + j1 2 (k.getD 0 Ah) (ns.getD 0 0)
 else if o == 5 then max (j1 (Dw (Ar t).toNat) (k.getD 0 Ah) (ns.getD 0 0)) (j1 ((Ar t).toNat + 1) (k.getD 1 Ah) (ns.getD 1 0))
 else 1 + r7 ns
mutual
def Wf : Expr → Nat
 | .mk o t v k => r8 o t k (l5 k)
def l5 : List Expr → List Nat
  | [] => []
  | e :: r => Wf e :: l5 r
 end
theorem j2 {v : Val} (h : Gr v = true) : v = noV := by
 unfold Gr at h
 simp only [Bool.and_eq_true, beq_iff_eq] at h
 cases v
 simp_all [noV]
/-- What a right node is. -/
inductive NodeC : Expr → Prop
 | val (v : Val) (h : Bu v = true) (h0 : 0 ≤ v.n) : NodeC (Fu v)
 | name (t : Str) (h : Je t = true) : NodeC (D7 t)
 | neg (a : Expr) : NodeC (Di 3 a)
 | no (a : Expr) : NodeC (Di 4 a)
 | bin (t : Str) (a b : Expr) (h : 0 ≤ Ar t) : NodeC (Es t a b)
 | call (t : Str) (k : List Expr) (h : Av t = (k.length : Int)) : NodeC (.mk 6 t noV k)
theorem Vg (o : Int) (t : Str) (v : Val) (k : List Expr) : Jm (.mk o t v k) =
 if o == 1 then ((Bu v && decide (0 ≤ v.n)) && (t == [])) && ((k.length : Int) == 0)
 else if !(Gr v) then false
 else if o == 2 then Je t && ((k.length : Int) == 0)
 else if o == 3 || o == 4 then (t == []) && ((k.length : Int) == 1)
 else if o == 5 then decide (0 ≤ Ar t) && ((k.length : Int) == 2)
 else if o == 6 then Av t == (k.length : Int)
 else false := rfl
theorem Ff {e : Expr} (h : C8 e = true) : NodeC e := by
 rw [Sm] at h
 cases e with
 | mk o t v k =>
 rw [Vg] at h
 by_cases h1 : (o == 1) = true
 ·rw [if_pos h1] at h
  simp only [Bool.and_eq_true, beq_iff_eq, decide_eq_true_eq] at h h1
  obtain ⟨⟨⟨a1, a2⟩, a3⟩, a4⟩ := h
  subst h1
  subst a3
  have : k = [] := by cases k with | nil => rfl | cons x r => simp at a4; omega
  subst this
  exact .val v a1 a2
 rw [if_neg h1] at h
 by_cases hb : (!(Gr v)) = true
 ·rw [if_pos hb] at h; cases h
 rw [if_neg hb] at h
 have hv : v = noV := j2 (by simpa using hb)
 subst hv
 by_cases h2 : (o == 2) = true
 ·rw [if_pos h2] at h
  simp only [Bool.and_eq_true, beq_iff_eq] at h h2
  subst h2
  have : k = [] := by cases k with | nil => rfl | cons x r => have := h.2; simp at this; omega
  subst this
  exact .name t h.1
 rw [if_neg h2] at h
 by_cases h3 : (o == 3 || o == 4) = true
 ·rw [if_pos h3] at h
  simp only [Bool.and_eq_true, Bool.or_eq_true, beq_iff_eq] at h h3
  obtain ⟨rfl, h4⟩ := h
  match k, h4 with
  | [a], _ =>
   rcases h3 with rfl | rfl
   ·exact .neg a
   exact .no a
  | [], h4 => simp at h4
  | _ :: _ :: _, h4 => simp at h4; omega
 rw [if_neg h3] at h
 by_cases h5 : (o == 5) = true
 ·rw [if_pos h5] at h
  simp only [Bool.and_eq_true, beq_iff_eq, decide_eq_true_eq] at h h5
  subst h5
  match k, h.2 with
  | [a, b], _ => exact .bin t a b h.1
  | [], h4 => simp at h4
  | [_], h4 => simp at h4
  | _ :: _ :: _ :: _, h4 => simp at h4; omega
 rw [if_neg h5] at h
 by_cases h6 : (o == 6) = true
 ·rw [if_pos h6] at h
  simp only [beq_iff_eq] at h h6
  subst h6
  exact .call t k h
 rw [if_neg h6] at h; cases h
/-- The functions of the levels. -/
def pf (l : List Tok) (D : Fam) : Nat → PS → Expr × PS
 | 0 => Lr l D
 | 1 => Ss l D
 | 2 => Lm l D
 | 3 => Cu l D
 | 4 => C9 l D
 | 5 => Sr l D
 | 6 => Ll l D
 | _ => Dd l D
abbrev fam (l : List Tok) (n : Nat) : Fam := Cs l (30 - n)
def adv (S : PS) (n : Nat) : PS := ⟨S.i + n, S.nest, S.code, S.at_⟩
def T1 (l : List Tok) (x : Expr) : Prop := ∀ (k : Nat) (S : PS) (rest : List TK), k ≤ levE x → S.code = 0 → S.nest + Wf x ≤ 30 → seg l S.i = Nk x ++ rest → cu k rest → pf l (fam l S.nest) k S = (x, adv S (Nk x).length)
def T2 (l : List Tok) (x : Expr) : Prop := ∀ (k : Nat) (S : PS) (rest : List TK), (k = 0 ∨ k = 1 ∨ k = 4 ∨ k = 5) → k ≤ levE x → S.code = 0 → S.nest + Wf x ≤ 30 → seg l S.i = Nk x ++ rest → cu (k + 1) rest →
 ∃ n, l.length ≤ S.i + (Nk x).length + n ∧ Cv l (ofL k) (pf l (fam l S.nest) (k + 1)) S = Pi l (ofL k) (pf l (fam l S.nest) (k + 1)) n (x, adv S (Nk x).length)
/-! The parser from a word on, and of a source. -/
def atS (l : List Tok) (i : Nat) (r : Expr × PS) : PS := if r.2.code != 0 then r.2 else if decide ((30 : Int) < depthE r.1) then C6 18 (A9 l i).at_ r.2 else if decide ((300 : Int) < sizeE r.1) then C6 3 (A9 l i).at_ r.2 else r.2
def atR (l : List Tok) (i : Nat) : Expr × PS := Lr l (Cs l 30) ⟨i, 0, 0, 0⟩
/-- The tree, the word behind it, the fault. -/
def atM (l : List Tok) (i : Nat) : Expr × Int × Int × Int := if (atS l i (atR l i)).code != 0 then (Ah, 0, (atS l i (atR l i)).code, (atS l i (atR l i)).at_) else ((atR l i).1, ((atS l i (atR l i)).i : Int), 0, 0)
set_option maxRecDepth 4000
/-! What is printed of a schema is read. -/
theorem th (c : List Col) (Hp : List AObj) : AFun Tryz.prog 8 [C0 c] Hp (Ak (Ku c)) := by
 refine ACall.body [.tmp 2] [0] Tryz.func8 Tryz.ntmps8 (fun d => ?_)
 refine Z88 ?_;refine Z9 ?_;refine Xr ?_;refine R.fin [0, 6] ?_
 refine W.cond (fun ht6 => ?_) (fun ht6 => ?_)
 ·refine Z57 ?_;refine K.thR ?_;exact K.fin (V.one V.tmp) ⟨by simp [Ku] at ht6 ⊢; omega, rfl⟩
 refine Z5 ?_;refine Ua ?_;refine Lk ?_
 refine AW.loopC (α := Nat) (fun x => ⟨20, A6 0 (C0 c) (A6 3 (A4 (x : Nat)) (fun _ => .any)), Hp, [], [], none⟩) (fun x => x ≤ c.length ∧ ∀ (j : Nat) (y : Col), j < x → c[j]? = some y → decide ((100 : Int) < y.name.length) = false) (fun x => c.length - x) (0) (by simp) (StLe.refl _) rfl (fun x hx => ?_)
 refine Xw ?_;refine R.fin [0, 3, 10] ?_
 refine W.cond (fun ht10 => ?_) (fun ht10 => ?_)
 ·have hlt : x < c.length := by simpa using ht10
  have hcl : c.length ≤ 50 := by simp at ht6; omega
  refine Ud ?_;refine Z29 ?_;refine m7 ?_;refine R.fieldAddrRo (off := 0) jU Tryz.sizeOf9 ?_;refine Cq ?_;refine U3 ?_;refine R.fin [0, 3, 19] ?_
  refine W.cond (fun ht19 => ?_) (fun ht19 => ?_)
  ·refine Z57 ?_;refine Oa ?_;exact K.fin (V.one V.tmp) ⟨by rw [show Ku c = true from by unfold Ku; rw [mc (p := fun y : Col => decide ((100 : Int) < y.name.length)) hlt ht19, Bool.or_true]], rfl⟩
  refine Z17 ?_;refine Qm ?_;refine Lk ?_;exact K.lpN (x + 1) ⟨hlt, Da hlt hx.2 ht19⟩ (by omega) (StCut.of_eq rfl)
 refine Oe ?_;refine Z57 ?_;exact K.fin (V.one V.tmp) ⟨by rw [show Ku c = false from by unfold Ku; rw [bm (Hb (by simp at ht10; omega) hx.2)]; simpa using ht6], rfl⟩
theorem j3 {c : List Col} (h : Ku c = false) : OkCols c := by
 unfold Ku at h
 simp only [Bool.or_eq_false_iff, decide_eq_false_iff_not, List.any_eq_false, decide_eq_true_eq] at h
 refine ⟨by omega, fun y hy => ?_⟩
 have := h.2 y hy
 omega
/-! What went and came, taken back: the same columns. -/
theorem find_mem {nm : Str} {c : List Col} : ¬ (B2 nm c < 0) ↔ ∃ (j : Nat) (y : Col), c[j]? = some y ∧ y.name = nm ∧ B2 nm c = (j : Int) := by
 unfold B2
 cases h : c.findIdx? (fun y => y.name == nm) with
 | none =>
  constructor
  ·intro h'; exact absurd (by decide) h'
  rintro ⟨j, y, _, _, e⟩
  exact absurd (show (-1 : Int) = (j : Int) from e) (by omega)
 | some i =>
  rw [List.findIdx?_eq_some_iff_getElem] at h
  obtain ⟨hi, e, _⟩ := h
  constructor
  ·intro _; exact ⟨i, c[i], List.getElem?_eq_getElem hi, by simpa using e, rfl⟩
  intro _ h'
  have : (i : Int) < 0 := h'
  omega
set_option maxRecDepth 8000
/-! The words of a print. -/
/-- What a node asks of its kids, and what it is. -/
structure Sign where
 kids : List Int
 own : Int
def A2 (s : Str) : Sign := if (s == [111, 114]) || (s == [97, 110, 100]) then ⟨[3, 3], 3⟩ else if (((((s == [61]) || (s == [33, 61])) || (s == [60])) || (s == [60, 61])) || (s == [62])) || (s == [62, 61]) then ⟨[-1, -1], 3⟩ else if s == [38] then ⟨[2, 2], 2⟩ else ⟨[1, 1], 1⟩
def A3 (s : Str) : Sign := if (s == [108, 101, 110]) || (s == [110, 117, 109]) then ⟨[2], 1⟩ else if s == [115, 116, 114] then ⟨[1], 2⟩ else if (s == [108, 101, 102, 116]) || (s == [114, 105, 103, 104, 116]) then ⟨[2, 1], 2⟩ else if s == [105, 115, 110, 117, 108, 108] then ⟨[-2], 3⟩ else if s == [110, 118, 108] then ⟨[-1, -1], -1⟩ else ⟨[3, -1, -1], -1⟩
def Bt (o : Int) (t : Str) : Sign := if o == 3 then ⟨[1], 1⟩ else if o == 4 then ⟨[3], 3⟩ else if o == 5 then A2 t else A3 t
def Bv (a b : Int) : Int × Bool := if a == 0 then (b, true) else if (b == 0) || (a == b) then (a, true) else (0, false)
def Nl : List Int → List Int → Int → Option Int
 | _, [], c => some c
 | [], _ :: _, _ => none
 | w :: ws, k :: ks, c => if w == -2 then Nl ws ks c else if w == -1 then (if (Bv c k).2 then Nl ws ks (Bv c k).1 else none) else if (Bv w k).2 then Nl ws ks c else none
def Sx (s : Sign) (ks : List Int) : Int × Int := match Nl s.kids ks 0 with | none => (0, 10) | some c => if s.own == -1 then (c, 0) else (s.own, 0)
def Sy (c : List Col) (t : Str) : Int × Int := if B2 t c < 0 then (0, 9) else ((c.getD (B2 t c).toNat ⟨[], 0⟩).kind, 0)
def Pn (c : List Col) (o : Int) (t : Str) (v : Val) (ks : List (Int × Int)) : Int × Int :=
 if o == 1 then (v.kind, 0) else if o == 2 then Sy c t else match ks.find? (fun q => q.2 != 0) with | some q => (0, q.2) | none => Sx (Bt o t) (ks.map (·.1))
mutual
def Cw (c : List Col) : Expr → Int × Int
 | .mk o t v k => Pn c o t v (Wg c k)
def Wg (c : List Col) : List Expr → List (Int × Int)
  | [] => []
  | e :: r => Cw c e :: Wg c r
 end
theorem Po (c : List Col) : ∀ l, Wg c l = l.map (Cw c)
 | [] => rfl
 | e :: r => by rw [Wg, Po c r]; rfl
theorem Jp (c : List Col) (e : Expr) : Cw c e = Pn c e.op e.text e.val (e.kids.map (Cw c)) := by cases e; rw [Cw, Po]; rfl
/-- infer.Kind. -/
def Gs (e : Expr) (c : List Col) : Int × Int := if (!(Bb e)) || !(Fd c) then (0, 1) else Cw c e
/-! The signs have as many as the nodes have kids. -/
theorem Vh (s : Str) : (A2 s).kids.length = 2 := by unfold A2; (repeat' split) <;> rfl
theorem Vi {t : Str} {n : Nat} (h : Av t = (n : Int)) : (A3 t).kids.length = n := by
 rw [show Av t = Av t from rfl] at h
 by_cases hm : t ∈ arityList.map (·.1)
 ·have : ((arityList.map (·.1)).all fun s => decide (((A3 s).kids.length : Int) = Av s)) = true := by kernel_rfl
  have := of_decide_eq_true (List.all_eq_true.1 this t hm)
  omega
 have h1 : Av t = -1 := by
  unfold Av
  rw [List.find?_eq_none.2 fun p hp => by
   simp only [beq_iff_eq]
   rintro rfl
   exact hm (List.mem_map.2 ⟨p, hp, rfl⟩)]
 omega
theorem cv {e : Expr} (h : C8 e = true) (h1 : (e.op == 1) = false) (h2 : (e.op == 2) = false) : (Bt e.op e.text).kids.length = e.kids.length := by
 unfold C8 at h
 rw [h1, h2] at h
 simp only [Bool.false_eq_true, if_false] at h
 unfold Bt
 by_cases h3 : (e.op == 3) = true
 ·rw [h3] at h
  simp only [Bool.true_or, if_true, Bool.and_eq_true, beq_iff_eq] at h
  rw [if_pos h3]
  show 1 = _
  omega
 have h3' : (e.op == 3) = false := by simpa using h3
 rw [if_neg h3]
 rw [h3'] at h
 by_cases h4 : (e.op == 4) = true
 ·rw [h4] at h
  simp only [Bool.false_or, if_true, Bool.and_eq_true, beq_iff_eq] at h
  rw [if_pos h4]
  show 1 = _
  omega
 have h4' : (e.op == 4) = false := by simpa using h4
 rw [if_neg h4]
 rw [h4'] at h
 simp only [Bool.or_false, Bool.false_eq_true, if_false] at h
 by_cases h5 : (e.op == 5) = true
 ·rw [h5] at h
  simp only [if_true, Bool.and_eq_true, beq_iff_eq] at h
  rw [if_pos h5, Vh]
  omega
 have h5' : (e.op == 5) = false := by simpa using h5
 rw [if_neg h5]
 rw [h5'] at h
 simp only [Bool.false_eq_true, if_false] at h
 by_cases h6 : (e.op == 6) = true
 ·rw [h6] at h
  simp only [if_true, Bool.and_eq_true, beq_iff_eq] at h
  exact Vi h.2
 have h6' : (e.op == 6) = false := by simpa using h6
 rw [h6'] at h
 cases h
/-! More columns. -/
/-! A tree in a column's place. -/
set_option maxRecDepth 4000
abbrev pr (l : List Tok) (S : PS) : AObj := .cells 154 [.slice false 3 (l.map Er), A4 (S.i : Int), A4 (S.nest : Int), A4 S.code, A4 S.at_]
theorem Bf {n : Nat} {l : List Tok} {S : PS} : ObjLow n (pr l S) := by
 show ∀ y ∈ [AV.slice false 3 (l.map Er), A4 (S.i : Int), A4 (S.nest : Int), A4 S.code, A4 S.at_], Low n y
 intro y hy
 simp only [List.mem_cons, List.not_mem_nil, or_false] at hy
 rcases hy with rfl | rfl | rfl | rfl | rfl
 ·simp [or_imp, forall_and]
 all_goals simp
theorem Sz (o : Int) (t : Str) (v : Val) : Le (.agg [A4 o, A8 t, A4 v.kind, A4 v.n, A8 v.s, .nil]) (Ab (.mk o t v [])) := by
 rw [Af]
 refine .agg _ _ rfl (by simp [AV.one, Value.oneCell', sv]) fun i y y' h1 h2 => ?_
 match i with
 | 0 => simp at h1 h2; subst h1; subst h2; exact .inl rfl
 | 1 => simp at h1 h2; subst h1; subst h2; exact .inl rfl
 | 2 => simp at h1 h2; subst h1; subst h2; exact .inl rfl
 | 3 => simp at h1 h2; subst h1; subst h2; exact .inl rfl
 | 4 => simp at h1 h2; subst h1; subst h2; exact .inl rfl
 | 5 => simp at h1 h2; subst h1; subst h2; exact .inr ⟨rfl, 6, rfl⟩
 | i + 6 => simp at h1
theorem Nm : Le (.agg [A4 0, A8 [], A4 0, A4 0, A8 [], .nil]) (Ab Ah) := Sz 0 [] noV
theorem tj (l : List Tok) (S : PS) (o : Nat) (Hp : List AObj) (ho : Hp[o]? = some (pr l S)) (hi : S.i < l.length) : AFun Tryz.prog 199 [.ptr o 0] Hp (Er (A9 l S.i)) := by
 refine ACall.body [.cell 2 82] [0] Tryz.func199 Tryz.ntmps199 (fun d => ?_)
 refine Z80 ?_;refine W.draw [0, 1, 3, 7, 0, 16, 48, 112, 255, 511, 1023] 8 Ae (by kernel_rfl) ?_;refine gt ?_;refine Z69 ?_;refine D.loadUp jA ho ?_;refine D.tail ?_;refine R.indexAddr (S.i) (Er (A9 l S.i)) jU jS (It hi) ?_;refine Dn ?_;exact lw

theorem T0 (l : List Tok) (S : PS) (of : Str) (o : Nat) (Hp : List AObj) (ho : Hp[o]? = some (pr l S)) (hi : S.i < l.length) (hl : TokEnd l) (hof : of.length ≤ 1048576) : AFun Tryz.prog 170 [.ptr o 0, A8 of] Hp (Ak (isM l of S)) := by
 refine ACall.body [.tmp 4] [0, 1] Tryz.func170 Tryz.ntmps170 (fun d => ?_)
 refine Z87 ?_;refine Z0 ?_;refine fw ?_;refine R.fin [1, 5] ?_;refine Xu ?_;refine Mf ?_;refine Z71 ?_;refine b7 ?_;refine At ?_;refine G.fieldAddrPtr (fo := 1) jU Tryz.sizeOf9 ?_;refine G.loadOwn jA ?_;refine G.move ?_;refine G.call Tryz.call128 (fun hB => qq (A9 l S.i).text of (hl.text _) hof _) ?_;refine Z32 ?_;exact g9

theorem c171 (l : List Tok) (S : PS) (o : Nat) (Hp : List AObj) (ho : Hp[o]? = some (pr l S)) (hi : S.i < l.length) (hll : l.length ≤ 1048576) : ACall Tryz.prog 171 [.ptr o 0] Hp (fun r H' => r = Er (A9 l S.i) ∧ H' = Hp.set o (pr l (Aa S))) := by
 refine ACall.body [.cell 2 82] [0] Tryz.func171 Tryz.ntmps171 (fun d => ?_)
 refine Z80 ?_;refine Z0 ?_;refine fw ?_;refine aw ?_;refine Z42 ?_;refine gh ?_;refine Z42 ?_
 refine R.storeUp jS ho ?_ ?_
 ·simp
 refine R.fin [2, 3] ?_;refine Z31 ?_;exact lw

theorem Yp (l : List Tok) (S : PS) (e a : Int) (o : Nat) (Hp : List AObj) (ho : Hp[o]? = some (pr l S)) : ACall Tryz.prog 110 [.ptr o 0, A4 e, A4 a] Hp (fun r H' => r = Ab Ah ∧ H' = Hp.set o (pr l (C6 e a S))) := by
 refine ACall.body [.cell 6 27] [0, 1, 2] Tryz.func110 Tryz.ntmps110 (fun d => ?_)
 refine gi ?_;refine Z9 ?_;refine Qj ?_;refine R.loadUp jA ho ?_;refine R.eql ?_;refine R.fin [0, 1, 2, 6, 12] ?_
 refine W.cond (fun ht12 => ?_) (fun ht12 => ?_)
 ·have e : C6 e a S = ⟨S.i, S.nest, e, a⟩ := if_pos ht12
  refine Z21 ?_;refine Z79 ?_;refine Uk ?_;refine R.nilPtr ?_;refine R.fieldAddrPtr (fo := 3) jU Tryz.sizeOf50 ?_
  refine R.storeUp jS ho ?_ ?_
  ·simp
  refine R.fin [6] ?_;refine K.thN ?_;refine Ba ?_;refine od ?_;refine Xv ?_;exact K.fin (V.one (V.cellN jA jS)) ⟨rfl, by rw [e]⟩ (hlow := Aj _ Ah)
 have e : C6 e a S = S := if_neg (by rw [ht12]; simp)
 refine Lj ?_;refine od ?_;refine Xv ?_;exact K.fin (V.one (V.cellN jA jS)) ⟨rfl, by rw [e]; exact (B4 ho).symm⟩ (hlow := Aj _ Ah)

theorem r9 (v : Val) (Hp : List AObj) : AFun Tryz.prog 259 [Bh v] Hp (Ab (Fu v)) := by
 refine ACall.body [.cell 2 27] [0] Tryz.func259 Tryz.ntmps259 (fun d => ?_)
 refine Z24 ?_;refine R.alloc jZ ?_;refine R.fin [1, 2] ?_;refine Z54 ?_;refine Ry ?_;refine R.wk 4 _ (Sz 1 [] v) ?_;refine Z6 ?_;exact K.fin (V.one (V.cellN jA jS)) ⟨rfl, rfl⟩ (hlow := Aj _ (Fu v))

theorem rc (l : List Tok) (S : PS) (s : Str) (o : Nat) (Hp : List AObj) (ho : Hp[o]? = some (pr l S)) (hi : S.i < l.length) (hll : l.length ≤ 1048576) : ACall Tryz.prog 261 [.ptr o 0, A8 s] Hp (fun r H' => r = .v (.tuple #[]) ∧ H' = Hp.set o (pr l (Ct l s S))) := by
 refine ACall.body [] [0, 1] Tryz.func261 Tryz.ntmps261 (fun d => ?_)
 refine Z9 ?_;refine Qj ?_;refine R.loadUp jA ho ?_;refine R.neq ?_;refine R.fin [0, 1, 10] ?_
 refine W.cond (fun ht10 => ?_) (fun ht10 => ?_)
 ·have e : Ct l s S = S := if_pos ht10
  refine Z11 ?_;exact K.fin .nores (hp := ⟨rfl, by rw [e]; exact (B4 ho).symm⟩)
 have e0 : ¬ (S.code != 0) = true := by rw [ht10]; simp
 refine Z5 ?_;refine Z9 ?_;refine fw ?_;refine R.fin [0, 1, 4] ?_;refine Xu ?_;refine R.neq ?_;refine At ?_;refine G.fieldAddrPtr (fo := 1) jU Tryz.sizeOf9 ?_;refine G.loadOwn jA ?_;refine G.move ?_;refine G.sneq ?_;refine R.pickOr ?_;refine R.fin [0, 4, 21] ?_
 refine W.cond (fun ht21 => ?_) (fun ht21 => ?_)
 ·have e : Ct l s S = C6 8 (A9 l S.i).at_ S := by unfold Ct; rw [if_neg e0, if_pos ht21]
  refine Z0 ?_;refine oo ?_;refine b9 ?_;exact K.fin .nores (hp := ⟨rfl, by rw [e]⟩)
 have e : Ct l s S = Aa S := by unfold Ct; rw [if_neg e0, if_neg (by rw [ht21]; simp)]
 refine gc ?_;refine Z42 ?_;refine gh ?_;refine Z42 ?_
 refine R.storeUp jS ho ?_ ?_
 ·simp
 refine R.fin [] ?_;exact K.finN .nores (hp := ⟨rfl, by rw [e]; rfl⟩)

/-- The contract of one of the parser's functions. -/
def PC (g : FuncId) (l : List Tok) (f : PS → Expr × PS) (n : Nat) : Prop := ∀ (o : Nat) (Hp : List AObj) (S : PS), Hp[o]? = some (pr l S) → S.i < l.length → S.nest = n → ACall Tryz.prog g [.ptr o 0] Hp (fun r H' => r = Ab (f S).1 ∧ H' = Hp.set o (pr l (f S).2))
abbrev Fv : AObj := .cells 27 [A4 0, A8 [], A4 0, A4 0, A8 [], .nil]
theorem Wh {n : Nat} : ObjLow n Fv := by
 show ∀ y ∈ [A4 0, A8 [], A4 0, A4 0, A8 [], AV.nil], Low n y
 simp
theorem j4 {n : Nat} (e : Expr) : ObjLow n (.cells 27 (E1 e)) := by
 have h := Aj n e
 rw [Af] at h
 show ∀ y ∈ E1 e, Low n y
 intro y hy
 cases h with
 | agg _ h => exact h y hy
theorem j5 (l : List Tok) (S : PS) (a : Int) (g : FuncId) (first caps : List AV) (x : Expr) (S2 : PS) (o : Nat) (Hp Hx : List AObj) (ho : Hp[o]? = some (pr l S)) (hnl : S.nest ≤ 1048576) (hgc : ∀ args w, (callFunc g args).run Tryz.prog w = .ok (.enter g args) w) (hxl : Hx.length = Hp.length) (hxo : Hx[o]? = some (pr l S2)) (hn2 : S2.nest = S.nest + 1) (hlow : (∀ y ∈ Hp.set o (pr l (Bm S)), ObjLow Hp.length y) → ∀ y ∈ Hx, ObjLow Hp.length y) (hcf : S.nest ≠ 30 → ∀ own, ACall Tryz.prog g (first ++ caps) (Hp.set o (pr l (Bm S)) ++ own) (fun y H' => y = Ab x ∧ H' = Hx ++ own)) : ACall Tryz.prog 201 [.ptr o 0, A4 a, .fn (.func g) first caps] Hp (fun r H' => (S.nest = 30 → r = Ab Ah ∧ H' = Hp.set o (pr l (C6 18 a S))) ∧ (S.nest ≠ 30 → r = Ab x ∧ H' = Hx.set o (pr l (Ph S2)))) := by
 refine ACall.body [.cell 6 27] [0, 1, 2] Tryz.func201 Tryz.ntmps201 (fun d => ?_)
 refine gi ?_;refine Z9 ?_;refine ak ?_;refine R.loadUp jA ho ?_;refine R.eql ?_;refine R.fin [0, 1, 2, 6, 12] ?_
 refine W.cond (fun ht12 => ?_) (fun ht12 => ?_)
 ·have hn30 : S.nest = 30 := by have := ht12; simp at this; omega
  refine Z29 ?_;refine R.callUp Tryz.call110 ho (by simp) Bf (Yp l S 18 a o _ (Ac ho)) ?_;refine fl ?_;refine Z11 ?_;exact K.fin (V.one (V.cellN jA jS)) ⟨fun _ => ⟨by rw [Af], rfl⟩, fun h => absurd hn30 h⟩ (hlow := by have := Aj Hp.length Ah; rw [Af] at this; simpa using this)
 have hn30 : S.nest ≠ 30 := by have := ht12; simp at this; omega
 refine Jc ?_;refine ak ?_;refine gh ?_;refine ak ?_
 refine R.storeUp jS ho ?_ ?_
 ·simp
 refine R.fin [0, 2, 6] ?_;refine Z0 ?_
 refine R.callVX (up' := Hx) (own' := [Fv]) hgc (hcf hn30 [Fv]) (by simpa using hxl) (by rw [List.length_set]; exact hlow) ?_
 rw [← hxl]
 refine Z16 ?_;refine R.fin [0, 6, 7] ?_;refine Z0 ?_;refine ak ?_;refine R.loadUp jA hxo ?_;refine R.sub64 ?_;refine ak ?_
 refine R.storeUp jS hxo ?_ ?_
 ·simp
 refine R.fin [6, 7] ?_;refine Z31 ?_;refine Xv ?_;exact K.fin (V.one (V.cellN jA jS)) ⟨fun h => absurd h hn30, fun _ => ⟨by rw [Af], by rw [show ((S2.nest : Int) - 1) = ((Ph S2).nest : Int) by show _ = ((S2.nest - 1 : Nat) : Int); omega]; rfl⟩⟩ (hlow := by have := Aj Hx.length x; rw [Af] at this; simpa using this)

theorem Yq (t : Str) (a b : Expr) : E1 (Es t a b) = [A4 5, .v (sv t), A4 0, A4 0, A8 [], .slice false 6 [Ab a, Ab b]] := rfl
theorem j6 {n : Nat} (t : Str) (a b : Expr) : ObjLow n (.cells 27 [A4 5, .v (sv t), A4 0, A4 0, A8 [], .slice false 6 [Ab a, Ab b]]) := j4 (Es t a b)
theorem j7 {n : Nat} {U : List AObj} {i : Nat} {x : AObj} (h : ∀ y ∈ U, ObjLow n y) (hx : ObjLow n x) : ∀ y ∈ U.set i x, ObjLow n y := by
 intro y hy
 rcases List.mem_or_eq_of_mem_set hy with h1 | h1
 ·exact h y h1
 rw [h1]; exact hx
/-- within, with a method's value. -/
theorem cw {g : FuncId} (hgc : ∀ args w, (callFunc g args).run Tryz.prog w = .ok (.enter g args) w) (l : List Tok) (S : PS) (a : Int) (f : PS → Expr × PS) (o : Nat) (Hp : List AObj) (ho : Hp[o]? = some (pr l S)) (hi : S.i < l.length) (hnl : S.nest ≤ 30) (hf : S.nest ≠ 30 → Ca l (S.nest + 1) f) (hcf : S.nest ≠ 30 → PC g l f (S.nest + 1)) :
  ACall Tryz.prog 201 [.ptr o 0, A4 a, .fn (.func g) [.ptr o 0] []] Hp (fun r H' => r = Ab (B0 a f S).1 ∧ H' = Hp.set o (pr l (B0 a f S).2)) := by
 have hlt := (List.getElem?_eq_some_iff.1 ho).1
 by_cases h30 : S.nest = 30
 ·refine (j5 l S a g [.ptr o 0] [] Ah (Bm S) o Hp (Hp.set o (pr l (Bm S))) ho (by omega) hgc (by simp) (by simp [hlt]) rfl (fun h => h) (fun h => absurd h30 h)).mono fun r H' h => ?_
  have e : B0 a f S = (Ah, C6 18 a S) := if_pos (by rw [h30]; rfl)
  rw [e]
  exact h.1 h30
 have hq := hf h30 (Bm S) hi rfl
 refine (j5 l S a g [.ptr o 0] [] (f (Bm S)).1 (f (Bm S)).2 o Hp (Hp.set o (pr l (f (Bm S)).2)) ho (by omega) hgc (by simp) (by simp [hlt]) hq.nest (fun h y hy => ?_) (fun _ own => ?_)).mono fun r H' h => ?_
 ·rcases List.mem_or_eq_of_mem_set hy with h1 | h1
  ·obtain ⟨i, hi', rfl⟩ := List.getElem_of_mem h1
   by_cases hio : i = o
   ·subst hio
    have : Hp[i] = pr l S := by rw [List.getElem?_eq_getElem hi'] at ho; injection ho
    rw [this]; exact Bf
   refine h _ ?_
   rw [List.mem_iff_getElem?]
   exact ⟨i, by rw [List.getElem?_set_ne (Ne.symm hio), List.getElem?_eq_getElem hi']⟩
  rw [h1]; exact Bf
 ·have hg : (Hp.set o (pr l (Bm S)) ++ own)[o]? = some (pr l (Bm S)) := Ac (by simp [hlt])
  refine (hcf h30 o (Hp.set o (pr l (Bm S)) ++ own) (Bm S) hg hi rfl).mono fun r H' h => ⟨h.1, h.2.trans ?_⟩
  rw [List.set_append_left _ _ (by simpa using hlt), List.set_set]
 have e : B0 a f S = ((f (Bm S)).1, Ph (f (Bm S)).2) := if_neg (by
  show ¬ (((S.nest : Int) == 30) = true)
  simp
  omega)
 rw [e]
 obtain ⟨h1, h2⟩ := h.2 h30
 exact ⟨h1, by rw [h2, List.set_set]⟩
theorem j8 {g : FuncId} (hgc : ∀ args w, (callFunc g args).run Tryz.prog w = .ok (.enter g args) w) (l : List Tok) (S : PS) (of : Str) (hof : of.length ≤ 1048576) (f : PS → Expr × PS) (o : Nat) (Hp : List AObj) (ho : Hp[o]? = some (pr l S)) (hi : S.i < l.length) (hl : TokEnd l) (hll : l.length ≤ 1048576) (hf : Ca l S.nest f) (hcf : PC g l f S.nest) : ACall Tryz.prog 141 [.ptr o 0, A8 of, .fn (.func g) [.ptr o 0] []] Hp (fun r H' => r = Ab (Cv l of f S).1 ∧ H' = Hp.set o (pr l (Cv l of f S).2)) := by
 have holt := (List.getElem?_eq_some_iff.1 ho).1
 refine ACall.body [.cell 6 27] [0, 1, 2] Tryz.func141 Tryz.ntmps141 (fun d => ?_)
 refine gi ?_;refine Z0 ?_;refine R.callVUp hgc ho (by simp) Bf (hcf o _ S (Ac ho) hi rfl) ?_;refine Z16 ?_;refine R.fin [0, 1, 2, 6, 7] ?_;refine W.seq ?_
 refine AW.loopC (α := Expr × PS) (fun r => ⟨32, A6 0 (.ptr o 0) (A6 1 (A8 of) (A6 2 (.fn (.func g) [.ptr o 0] []) (A6 6 (.ptr (oid Hp.length 0) 0) (A6 7 (.ptr (oid Hp.length 1) 0) (fun _ => .any))))), Hp.set o (pr l r.2), [.cells 27 [A4 0, A8 [], A4 0, A4 0, A8 [], .nil], .cells 27 (E1 r.1)], [], none⟩) (fun r => LeftAt l of f S r) (fun r => l.length - r.2.i) (f S) (.start (hf S hi rfl)) (StLe.of_eq (by simp)) rfl (fun r hx => ?_)
 refine Z9 ?_;refine Qj ?_;refine R.loadUp jA (Ad ho) ?_;refine R.eql ?_;refine Me ?_;refine G.call Tryz.call170 (fun hB => T0 l r.2 of o _ (Ac (Ad ho)) hx.fact.lt hl hof) ?_;refine R.pickAnd ?_;refine R.fin [0, 1, 2, 6, 7, 21] ?_
 refine W.cond (fun ht21 => ?_) (fun ht21 => ?_)
 ·have hon := hx.on hl ht21 hf
  have hle := hon.2.1.le
  have hlt0 := hx.fact.lt
  have hU1 : (Hp.set o (pr l r.2)).set o (pr l (Aa r.2)) = Hp.set o (pr l (Aa r.2)) := List.set_set ..
  refine Z5 ?_;refine Eq ?_;refine Z0 ?_;refine R.callUp Tryz.call171 (Ad ho) (by simp) Bf (c171 l r.2 o _ (Ac (Ad ho)) hx.fact.lt hll) ?_;refine Z16 ?_;refine R.fin [0, 1, 2, 6, 7, 8] ?_;refine W.drawY0 [0, 1, 0, 0, 8, 28, 63, 127] [4] [.q 4 [] [], .s [28] (some 0) [] [], .q 1 [0] []] (fun B => Hp.set o (if B 0 = true then pr l (f (Aa r.2)).2 else pr l (Aa r.2))) (fun _ => [.cells 27 [A4 0, A8 [], A4 0, A4 0, A8 [], .nil], .cells 27 (E1 r.1), .cells 82 [A4 (A9 l r.2.i).kind, A8 (A9 l r.2.i).text, A4 (A9 l r.2.i).at_]]) Ae (by kernel_rfl) (by simp [List.set_set]) rfl (fun B => by simp) ?_
  apply Y.q
  case h1 =>
   intro B hT hF
   refine D.fieldAddrPtr (fo := 1) jU Tryz.sizeOf9 ?_;refine D.loadOwn jA ?_;refine D.loadOwnN jA jS ?_;refine D.move ?_;exact Jd
  case hTF => decide
  refine Y.callVUp (r := Ab (f (Aa r.2)).1) (o := o) (x0 := pr l (Aa r.2)) (x := pr l (f (Aa r.2)).2) hgc (fun B hT hF hB => ⟨by simp only [hB]; exact Ad ho, by simp [upd], rfl, Bf, ?_⟩) ?_
  ·simp only [hB]
   exact hcf o _ (Aa r.2) (Ac (Ad ho)) hon.1 hx.fact.nest
  apply Y.q
  case h1 =>
   intro B hT hF
   exact Z94
  case hTF => decide
  refine Y.tail (tn := [4]) (U := Hp.set o (pr l (f (Aa r.2)).2)) ?_;refine Ry ?_;refine Do ?_;refine R.fin [0, 1, 2, 6, 7] ?_;refine K.blN ?_
  refine K.lpN (Es (A9 l r.2.i).text r.1 (f (Aa r.2)).1, (f (Aa r.2)).2) hon.2.2 (by show l.length - (f (Aa r.2)).2.i < l.length - r.2.i; have : r.2.i + 1 ≤ (f (Aa r.2)).2.i := hle; omega) ?_
  simp only [Yq]
  have hlow2 := fun n => j6 (n := n) (A9 l r.2.i).text r.1 (f (Aa r.2)).1
  simp only [Af] at hlow2 ⊢
  exact StCut.take (fun _ => .refl _) (by repeat (first | exact B6 | refine B5 (by simp [oid] <;> omega) ?_)) (by intro y hy; rcases List.mem_cons.1 hy with rfl | hy; exact Wh; rw [List.mem_singleton.1 hy]; exact hlow2 _) (by simp)
 have hout := hx.out (by rw [ht21]; simp)
 refine Oe ?_;refine Z31 ?_;refine Xv ?_;exact K.fin (V.one (V.cellN jA jS)) ⟨by rw [hout, Af], by rw [hout]⟩ (hlow := by have := Aj (Hp.set o (pr l r.2)).length r.1; rw [Af] at this; simpa using this)

theorem tk (l : List Tok) (S : PS) (f : PS → Expr × PS) (o : Nat) (Hp : List AObj) (ho : Hp[o]? = some (pr l S)) (hi : S.i < l.length) (hl : TokEnd l) (hll : l.length ≤ 1048576) (hf : Ca l S.nest f) (hcf : PC 142 l f S.nest) : ACall Tryz.prog 108 [.ptr o 0] Hp (fun r H' => r = Ab (Cv l orT f S).1 ∧ H' = Hp.set o (pr l (Cv l orT f S).2)) := by
 refine ACall.body [.cell 2 27] [0] Tryz.func108 Tryz.ntmps108 (fun d => ?_)
 refine Z80 ?_;refine Z29 ?_;refine R.makeFunc ?_;refine R.callUp Tryz.call141 ho (by simp) Bf (j8 Tryz.call142 l S orT (by decide) f o _ (Ac ho) hi hl hll hf hcf) ?_;refine Z6 ?_;exact K.fin (V.one (V.cellN jA jS)) ⟨by rw [Af], rfl⟩ (hlow := by have := Aj Hp.length (Cv l orT f S).1; rw [Af] at this; simpa using this)

theorem tm (l : List Tok) (S : PS) (f : PS → Expr × PS) (o : Nat) (Hp : List AObj) (ho : Hp[o]? = some (pr l S)) (hi : S.i < l.length) (hl : TokEnd l) (hll : l.length ≤ 1048576) (hf : Ca l S.nest f) (hcf : PC 172 l f S.nest) : ACall Tryz.prog 142 [.ptr o 0] Hp (fun r H' => r = Ab (Cv l Yk f S).1 ∧ H' = Hp.set o (pr l (Cv l Yk f S).2)) := by
 refine ACall.body [.cell 2 27] [0] Tryz.func142 Tryz.ntmps142 (fun d => ?_)
 refine Z80 ?_;refine Z29 ?_;refine R.makeFunc ?_;refine R.callUp Tryz.call141 ho (by simp) Bf (j8 Tryz.call172 l S Yk (by decide) f o _ (Ac ho) hi hl hll hf hcf) ?_;refine Z6 ?_;exact K.fin (V.one (V.cellN jA jS)) ⟨by rw [Af], rfl⟩ (hlow := by have := Aj Hp.length (Cv l Yk f S).1; rw [Af] at this; simpa using this)

theorem tq (l : List Tok) (S : PS) (f : PS → Expr × PS) (o : Nat) (Hp : List AObj) (ho : Hp[o]? = some (pr l S)) (hi : S.i < l.length) (hl : TokEnd l) (hll : l.length ≤ 1048576) (hf : Ca l S.nest f) (hcf : PC 236 l f S.nest) : ACall Tryz.prog 221 [.ptr o 0] Hp (fun r H' => r = Ab (Cv l Yl f S).1 ∧ H' = Hp.set o (pr l (Cv l Yl f S).2)) := by
 refine ACall.body [.cell 2 27] [0] Tryz.func221 Tryz.ntmps221 (fun d => ?_)
 refine Z80 ?_;refine Z29 ?_;refine R.makeFunc ?_;refine R.callUp Tryz.call141 ho (by simp) Bf (j8 Tryz.call236 l S Yl (by decide) f o _ (Ac ho) hi hl hll hf hcf) ?_;refine Z6 ?_;exact K.fin (V.one (V.cellN jA jS)) ⟨by rw [Af], rfl⟩ (hlow := by have := Aj Hp.length (Cv l Yl f S).1; rw [Af] at this; simpa using this)

theorem tr (l : List Tok) (S : PS) (f : PS → Expr × PS) (o : Nat) (Hp : List AObj) (ho : Hp[o]? = some (pr l S)) (hi : S.i < l.length) (hl : TokEnd l) (hll : l.length ≤ 1048576) (hf : Ca l S.nest f) (hcf : PC 243 l f S.nest) : ACall Tryz.prog 236 [.ptr o 0] Hp (fun r H' => r = Ab (Cv l Pj f S).1 ∧ H' = Hp.set o (pr l (Cv l Pj f S).2)) := by
 refine ACall.body [.cell 2 27] [0] Tryz.func236 Tryz.ntmps236 (fun d => ?_)
 refine Z80 ?_;refine Z29 ?_;refine R.makeFunc ?_;refine R.callUp Tryz.call141 ho (by simp) Bf (j8 Tryz.call243 l S Pj (by decide) f o _ (Ac ho) hi hl hll hf hcf) ?_;refine Z6 ?_;exact K.fin (V.one (V.cellN jA jS)) ⟨by rw [Af], rfl⟩ (hlow := by have := Aj Hp.length (Cv l Pj f S).1; rw [Af] at this; simpa using this)

/-- What is so of the functions one nest deeper. -/
structure DeepC (l : List Tok) (Dv : Fam) (n : Nat) : Prop where
 ei : n ≠ 30 → Ca l (n + 1) Dv.ei ∧ PC 108 l Dv.ei (n + 1)
 no : n ≠ 30 → Ca l (n + 1) Dv.no ∧ PC 172 l Dv.no (n + 1)
 ne : n ≠ 30 → Ca l (n + 1) Dv.ne ∧ PC 243 l Dv.ne (n + 1)
theorem Ls (op : Int) (x : Expr) : Ab (Di op x) = .agg [A4 op, A8 [], A4 0, A4 0, A8 [], .slice false 6 [Ab x]] := by rw [Af]; rfl
theorem Wi (t : Str) (a b : Expr) : Ab (Es t a b) = .agg [A4 5, .v (sv t), A4 0, A4 0, A8 [], .slice false 6 [Ab a, Ab b]] := by rw [Af]; rfl
theorem low_agg {n : Nat} (e : Expr) : Low n (.agg [.v (.int .i64 e.op), .v (sv e.text), .v (.int .i64 e.val.kind), .v (.int .i64 e.val.n), .v (sv e.val.s), .slice false 6 (e.kids.map Ab)]) := by
 have := Aj n e
 rwa [Af] at this
theorem tw (l : List Tok) (S : PS) (Dv : Fam) (o : Nat) (Hp : List AObj) (ho : Hp[o]? = some (pr l S)) (hi : S.i < l.length) (hl : TokEnd l) (hll : l.length ≤ 1048576) (hnl : S.nest ≤ 30) (hd : DeepC l Dv S.nest) (hc : PC 253 l (Dd l Dv) S.nest) : ACall Tryz.prog 243 [.ptr o 0] Hp (fun r H' => r = Ab (Ll l Dv S).1 ∧ H' = Hp.set o (pr l (Ll l Dv S).2)) := by
 refine ACall.body [.cell 2 27] [0] Tryz.func243 Tryz.ntmps243 (fun d => ?_)
 refine Z80 ?_;refine Z9 ?_;refine R.call Tryz.call170 (T0 l S mr o _ (Ac ho) hi hl (by decide)) ?_;refine R.not ?_;refine R.fin [0, 2, 6] ?_
 refine W.cond (fun ht6 => ?_) (fun ht6 => ?_)
 ·have e : Ll l Dv S = Dd l Dv S := if_pos ht6
  refine Z0 ?_;refine R.callUp Tryz.call253 ho (by simp) Bf (hc o _ S (Ac ho) hi rfl) ?_;refine Z6 ?_;exact l8
 have his : isM l mr S = true := by simpa using ht6
 have hi1 : (Aa S).i < l.length := hl.stepIs hi his
 have e : Ll l Dv S = (Di 3 (B0 (A9 l S.i).at_ Dv.ne (Aa S)).1, (B0 (A9 l S.i).at_ Dv.ne (Aa S)).2) := if_neg (by rw [ht6]; simp)
 refine Z5 ?_;refine Z58 ?_;refine Z16 ?_;refine aw ?_;refine Z92 ?_;refine At ?_;refine R.makeFunc ?_;refine R.callUp Tryz.call201 (Ad ho) (by simp) Bf (cw Tryz.call243 l (Aa S) (A9 l S.i).at_ Dv.ne o _ (Ac (Ad ho)) hi1 hnl (fun h => (hd.ne h).1) (fun h => (hd.ne h).2)) ?_;refine Mk ?_;refine lc ?_;exact K.fin (V.one (V.cellN jA jS)) ⟨by rw [e, Ls]; simp only [Af], by rw [e, List.set_set]⟩ (hlow := by have := Aj Hp.length (Di 3 (B0 (A9 l S.i).at_ Dv.ne (Aa S)).1); rw [Ls] at this; simp only [Af] at this; simpa only [List.length_set] using this)

theorem tx (l : List Tok) (S : PS) (Dv : Fam) (o : Nat) (Hp : List AObj) (ho : Hp[o]? = some (pr l S)) (hi : S.i < l.length) (hl : TokEnd l) (hll : l.length ≤ 1048576) (hnl : S.nest ≤ 30) (hd : DeepC l Dv S.nest) (hc : PC 200 l (Cu l Dv) S.nest) : ACall Tryz.prog 172 [.ptr o 0] Hp (fun r H' => r = Ab (Lm l Dv S).1 ∧ H' = Hp.set o (pr l (Lm l Dv S).2)) := by
 refine ACall.body [.cell 2 27] [0] Tryz.func172 Tryz.ntmps172 (fun d => ?_)
 refine Z80 ?_;refine Z9 ?_;refine R.call Tryz.call170 (T0 l S mq o _ (Ac ho) hi hl (by decide)) ?_;refine R.not ?_;refine R.fin [0, 2, 6] ?_
 refine W.cond (fun ht6 => ?_) (fun ht6 => ?_)
 ·have e : Lm l Dv S = Cu l Dv S := if_pos ht6
  refine Z0 ?_;refine R.callUp Tryz.call200 ho (by simp) Bf (hc o _ S (Ac ho) hi rfl) ?_;refine Z6 ?_;exact l8
 have his : isM l mq S = true := by simpa using ht6
 have hi1 : (Aa S).i < l.length := hl.stepIs hi his
 have e : Lm l Dv S = (Di 4 (B0 (A9 l S.i).at_ Dv.no (Aa S)).1, (B0 (A9 l S.i).at_ Dv.no (Aa S)).2) := if_neg (by rw [ht6]; simp)
 refine Z5 ?_;refine Z58 ?_;refine Z16 ?_;refine aw ?_;refine Z92 ?_;refine At ?_;refine R.makeFunc ?_;refine R.callUp Tryz.call201 (Ad ho) (by simp) Bf (cw Tryz.call172 l (Aa S) (A9 l S.i).at_ Dv.no o _ (Ac (Ad ho)) hi1 hnl (fun h => (hd.no h).1) (fun h => (hd.no h).2)) ?_;refine Mk ?_;refine lc ?_;exact K.fin (V.one (V.cellN jA jS)) ⟨by rw [e, Ls]; simp only [Af], by rw [e, List.set_set]⟩ (hlow := by have := Aj Hp.length (Di 4 (B0 (A9 l S.i).at_ Dv.no (Aa S)).1); rw [Ls] at this; simp only [Af] at this; simpa only [List.length_set] using this)

theorem tz (l : List Tok) (S : PS) (Dv : Fam) (o : Nat) (Hp : List AObj) (ho : Hp[o]? = some (pr l S)) (hi : S.i < l.length) (hl : TokEnd l) (hll : l.length ≤ 1048576) (hnl : S.nest ≤ 30) (hd : DeepC l Dv S.nest) (hg : Ca l S.nest (C9 l Dv)) (hc : PC 221 l (C9 l Dv) S.nest) : ACall Tryz.prog 200 [.ptr o 0] Hp (fun r H' => r = Ab (Cu l Dv S).1 ∧ H' = Hp.set o (pr l (Cu l Dv S).2)) := by
 have hq := hg S hi rfl
 refine ACall.body [.cell 2 27] [0] Tryz.func200 Tryz.ntmps200 (fun d => ?_)
 refine Z80 ?_;refine Z0 ?_;refine R.callUp Tryz.call221 ho (by simp) Bf (hc o _ S (Ac ho) hi rfl) ?_;refine Z16 ?_;refine gv ?_;refine Qj ?_;refine R.loadUp jA (Ad ho) ?_;refine R.neq ?_;refine Z22 ?_;refine G.call Tryz.call170 (fun hB => T0 l (C9 l Dv S).2 iy o _ (Ac (Ad ho)) hq.lt hl (by decide)) ?_;refine ba ?_;refine R.fin [0, 2, 3, 17] ?_
 refine W.cond (fun ht17 => ?_) (fun ht17 => ?_)
 ·have e : Cu l Dv S = C9 l Dv S := if_pos ht17
  refine Z31 ?_;refine Z6 ?_;exact l8
 have his : isM l iy (C9 l Dv S).2 = true := by
  have := ht17
  simp only [Bool.or_eq_false_iff, Bool.not_eq_false'] at this
  exact this.2
 have hi1 : (Aa (C9 l Dv S).2).i < l.length := hl.stepIs hq.lt his
 have e : Cu l Dv S = (Es (A9 l (C9 l Dv S).2.i).text (C9 l Dv S).1 (C9 l Dv (Aa (C9 l Dv S).2)).1, (C9 l Dv (Aa (C9 l Dv S).2)).2) := if_neg (by rw [ht17]; simp)
 refine Jc ?_;refine R.callUp Tryz.call171 (Ad ho) (by simp) Bf (c171 l (C9 l Dv S).2 o _ (Ac (Ad ho)) hq.lt hll) ?_;refine Z16 ?_;refine R.fin [0, 2, 3, 4] ?_;refine W.drawY [0, 1, 0, 0, 8, 28, 63, 127] [4] [.q 4 [] [], .s [25] (some 0) [] [], .q 1 [0] []] (fun B => Hp.set o (if B 0 = true then pr l (C9 l Dv (Aa (C9 l Dv S).2)).2 else pr l (Aa (C9 l Dv S).2))) (fun _ => [.cells 27 [A4 0, A8 [], A4 0, A4 0, A8 [], .nil], .cells 27 (E1 (C9 l Dv S).1), .cells 82 [A4 (A9 l (C9 l Dv S).2.i).kind, A8 (A9 l (C9 l Dv S).2.i).text, A4 (A9 l (C9 l Dv S).2.i).at_]]) Ae (by kernel_rfl) (by simp [List.set_set]) rfl (fun B => by simp) ?_
 apply Y.q
 case h1 =>
  intro B hT hF
  refine D.fieldAddrPtr (fo := 1) jU Tryz.sizeOf9 ?_;refine D.loadOwn jA ?_;refine D.loadOwnN jA jS ?_;refine D.move ?_;exact Jd
 case hTF => decide
 refine Y.callUp (r := Ab (C9 l Dv (Aa (C9 l Dv S).2)).1) (o := o) (x0 := pr l (Aa (C9 l Dv S).2)) (x := pr l (C9 l Dv (Aa (C9 l Dv S).2)).2) Tryz.call221 (fun B hT hF hB => ⟨by simp only [hB]; exact Ad ho, by simp [upd], rfl, Bf, ?_⟩) ?_
 ·simp only [hB]
  exact hc o _ (Aa (C9 l Dv S).2) (Ac (Ad ho)) hi1 hq.nest
 apply Y.q
 case h1 =>
  intro B hT hF
  exact Z94
 case hTF => decide
 refine Y.tail (tn := [4]) (U := Hp.set o (pr l (C9 l Dv (Aa (C9 l Dv S).2)).2)) ?_;refine lc ?_;exact K.fin (V.one (V.cellN jA jS)) ⟨by rw [e, Wi]; simp only [Af], by rw [e]⟩ (hlow := by have := Aj Hp.length (Es (A9 l (C9 l Dv S).2.i).text (C9 l Dv S).1 (C9 l Dv (Aa (C9 l Dv S).2)).1); rw [Wi] at this; simp only [Af] at this; simpa only [List.length_set] using this)

/-- The contract of the parser of calls. -/
def T3 (l : List Tok) (Dv : Fam) (n : Nat) : Prop := ∀ (o : Nat) (Hp : List AObj) (S : PS) (t : Tok), Hp[o]? = some (pr l S) → (Aa S).i < l.length → S.nest = n → t.text.length ≤ 1048576 → isM l opT S = true → ACall Tryz.prog 260 [.ptr o 0, Er t] Hp (fun r H' => r = Ab (E3 l Dv t S).1 ∧ H' = Hp.set o (pr l (E3 l Dv t S).2))
theorem cx : Ab Ah = .agg [A4 0, A8 [], A4 0, A4 0, A8 [], .slice false 6 []] := by rw [Af]; rfl
theorem u1 (l : List Tok) (S : PS) (Dv : Fam) (o : Nat) (Hp : List AObj) (ho : Hp[o]? = some (pr l S)) (hi : S.i < l.length) (hl : TokEnd l) (hll : l.length ≤ 1048576) (hnl : S.nest ≤ 30) (hd : DeepC l Dv S.nest) (hcl : T3 l Dv S.nest) : ACall Tryz.prog 253 [.ptr o 0] Hp (fun r H' => r = Ab (Dd l Dv S).1 ∧ H' = Hp.set o (pr l (Dd l Dv S).2)) := by
 refine ACall.body [.cell 2 27] [0] Tryz.func253 Tryz.ntmps253 (fun d => ?_)
 refine Z80 ?_;refine Z0 ?_;refine fw ?_;refine gv ?_;refine Qj ?_;refine R.loadUp jA ho ?_;refine R.neq ?_;refine R.fin [0, 2, 3, 14] ?_
 refine W.cond (fun ht14 => ?_) (fun ht14 => ?_)
 ·have e : Dd l Dv S = (Ah, S) := if_pos ht14
  refine Ba ?_;refine Ry ?_;refine R.wk 15 _ Nm ?_;refine Z6 ?_;refine K.thR ?_;exact K.fin (V.one (V.cellN jA jS)) ⟨by rw [e, Af], by rw [e]; exact (B4 ho).symm⟩ (hlow := by have := Aj Hp.length (Ah); simpa only [Af, List.length_set] using this)
 have e0 : ¬ (S.code != 0) = true := by rw [ht14]; simp
 refine Z5 ?_;refine Qk ?_;refine Z61 ?_;refine Xx ?_;refine G.call Tryz.call170 (fun hB => T0 l S ms o _ (Ac ho) hi hl (by decide)) ?_;refine R.pickOr ?_;refine Au ?_;refine R.fin [0, 2, 3, 16] ?_
 refine W.cond (fun ht16 => ?_) (fun ht16 => ?_)
 ·have e : Dd l Dv S = (Fu (Dt (A9 l S.i).text).1, Aa S) := by unfold Dd; rw [if_neg e0, if_pos ht16]
  refine Z58 ?_;refine R.field1 jU Tryz.isAgg9 ?_;refine R.call Tryz.call168 (c168 (A9 l S.i).text (hl.text _) _) ?_;refine Xy ?_;refine R.fin [2, 4] ?_;refine Z31 ?_;refine R.call Tryz.call259 (r9 (Dt (A9 l S.i).text).1 _) ?_;refine Z6 ?_;refine Z4 ?_;exact K.fin (V.one (V.cellN jA jS)) ⟨by rw [e, Af], by rw [e]⟩ (hlow := by have := Aj Hp.length (Fu (Dt (A9 l S.i).text).1); simpa only [Af, List.length_set] using this)
 have e1 : ¬ (((A9 l S.i).kind == 3) || isM l ms S) = true := by rw [ht16]; simp
 refine Xu ?_;refine Z20 ?_;refine R.fin [0, 2, 3, 33] ?_
 refine W.cond (fun ht33 => ?_) (fun ht33 => ?_)
 ·have e : Dd l Dv S = (Fu ⟨2, 0, (A9 l S.i).text.take 200⟩, Aa S) := by unfold Dd; rw [if_neg e0, if_neg e1, if_pos ht33]
  refine Z58 ?_;refine R.field1 jU Tryz.isAgg9 ?_;refine R.call Tryz.call215 (Y9 (A9 l S.i).text _) ?_;refine R.call Tryz.call259 (r9 ⟨2, 0, (A9 l S.i).text.take 200⟩ _) ?_;refine Z6 ?_;refine Z4 ?_;exact K.fin (V.one (V.cellN jA jS)) ⟨by rw [e, Af], by rw [e]⟩ (hlow := by have := Aj Hp.length (Fu ⟨2, 0, (A9 l S.i).text.take 200⟩); simpa only [Af, List.length_set] using this)
 have e2 : ¬ ((A9 l S.i).kind == 4) = true := by rw [ht33]; simp
 refine Xu ?_;refine Z20 ?_;refine R.fin [0, 2, 3, 42] ?_
 refine W.cond (fun ht42 => ?_) (fun ht42 => ?_)
 ·have hi1 : (Aa S).i < l.length := hl.step hi (by rw [beq_iff_eq] at ht42; rw [ht42]; decide)
  refine Z58 ?_;refine gv ?_;refine R.call Tryz.call170 (T0 l (Aa S) opT o _ (Ac (Ad ho)) hi1 hl (by decide)) ?_;refine R.fin [0, 2, 3, 49] ?_
  refine W.cond (fun ht49 => ?_) (fun ht49 => ?_)
  ·have e : Dd l Dv S = E3 l Dv (A9 l S.i) (Aa S) := by unfold Dd; rw [if_neg e0, if_neg e1, if_neg e2, if_pos ht42, if_pos ht49]
   have hi2 : (Aa (Aa S)).i < l.length := hl.stepIs hi1 ht49
   refine Z0 ?_;refine Mj ?_;refine R.callUp Tryz.call260 (Ad ho) (by simp) Bf (hcl o _ (Aa S) (A9 l S.i) (Ac (Ad ho)) hi2 rfl (hl.text _) ht49) ?_;refine Z6 ?_;refine K.thR ?_;refine Z4 ?_;exact K.fin (V.one (V.cellN jA jS)) ⟨by rw [e, Af], by rw [e, List.set_set]⟩ (hlow := by have := Aj Hp.length ((E3 l Dv (A9 l S.i) (Aa S)).1); simpa only [Af, List.length_set] using this)
  have e : Dd l Dv S = (D7 (A9 l S.i).text, Aa S) := by unfold Dd; rw [if_neg e0, if_neg e1, if_neg e2, if_pos ht42, if_neg (by rw [ht49]; simp)]
  refine Lj ?_;refine R.fieldAddrPtr (fo := 1) jU Tryz.sizeOf9 ?_;refine om ?_;refine R.wk 55 _ (Sd _) ?_;refine Z6 ?_;refine Z4 ?_;exact K.fin (V.one (V.cellN jA jS)) ⟨by rw [e, Af], by rw [e]⟩ (hlow := by have := Aj Hp.length (D7 (A9 l S.i).text); simpa only [Af, List.length_set] using this)
 have e3 : ¬ ((A9 l S.i).kind == 1) = true := by rw [ht42]; simp
 refine Z0 ?_;refine R.call Tryz.call170 (T0 l S opT o _ (Ac ho) hi hl (by decide)) ?_;refine Au ?_;refine R.fin [0, 2, 3, 56] ?_
 refine W.cond (fun ht56 => ?_) (fun ht56 => ?_)
 ·have e : Dd l Dv S = ((B0 (A9 l S.i).at_ Dv.ei (Aa S)).1, Ct l Cr (B0 (A9 l S.i).at_ Dv.ei (Aa S)).2) := by unfold Dd; rw [if_neg e0, if_neg e1, if_neg e2, if_neg e3, if_pos ht56]
  have hi1 : (Aa S).i < l.length := hl.stepIs hi ht56
  have hwf := F3 (S := Aa S) (l := l) (f := Dv.ei) (A9 l S.i).at_ hi1 (fun h => (hd.ei h).1)
  refine Z58 ?_;refine aw ?_;refine Z92 ?_;refine At ?_;refine R.makeFunc ?_;refine R.callUp Tryz.call201 (Ad ho) (by simp) Bf (cw Tryz.call108 l (Aa S) (A9 l S.i).at_ Dv.ei o _ (Ac (Ad ho)) hi1 hnl (fun h => (hd.ei h).1) (fun h => (hd.ei h).2)) ?_;refine Z16 ?_;refine R.fin [0, 2, 6] ?_;refine Z0 ?_;refine R.callUp Tryz.call261 (Ad (Ad ho)) (by simp) Bf (rc l (B0 (A9 l S.i).at_ Dv.ei (Aa S)).2 Cr o _ (Ac (Ad (Ad ho))) hwf.lt hll) ?_;refine R.fin [2, 6] ?_;refine Z31 ?_;refine Z6 ?_;refine Z4 ?_;exact K.fin (V.one (V.cellN jA jS)) ⟨by rw [e, Af], by rw [e, List.set_set, List.set_set]⟩ (hlow := by have := Aj Hp.length ((B0 (A9 l S.i).at_ Dv.ei (Aa S)).1); simpa only [Af, List.length_set] using this)
 have e : Dd l Dv S = (Ah, C6 8 (A9 l S.i).at_ S) := by unfold Dd; rw [if_neg e0, if_neg e1, if_neg e2, if_neg e3, if_neg (by rw [ht56]; simp)]
 refine Z17 ?_;refine Z0 ?_;refine oo ?_;refine Z6 ?_;exact K.fin (V.one (V.cellN jA jS)) ⟨by rw [e, Af], by rw [e]⟩ (hlow := by have := Aj Hp.length (Ah); simpa only [Af, List.length_set] using this)

theorem j9 {l : List Tok} (hl : TokEnd l) (hll : l.length ≤ 1048576) {d n : Nat} (h : n + (d + 1) = 31) (hp : n ≠ 30 → PC 108 l (Cs l d).ei (n + 1) ∧ PC 172 l (Cs l d).no (n + 1) ∧ PC 243 l (Cs l d).ne (n + 1)) : DeepC l (Cs l d) n := by
 have g : n ≠ 30 → _ := fun h30 => Kj hl hll d (n + 1) (by omega) (by omega)
 exact ⟨fun h => ⟨(g h).1, (hp h).1⟩, fun h => ⟨(g h).2.1, (hp h).2.1⟩, fun h => ⟨(g h).2.2, (hp h).2.2⟩⟩
/-- All functions of the parser. -/
theorem T5 {l : List Tok} (hl : TokEnd l) (hll : l.length ≤ 1048576) (hcl : ∀ n Dv, n ≤ 30 → DeepC l Dv n → T3 l Dv n) : ∀ (d n : Nat), n + d = 31 → n ≤ 30 → PC 108 l (Cs l d).ei n ∧ PC 172 l (Cs l d).no n ∧ PC 243 l (Cs l d).ne n
 | 0, n, h, hn => by omega
 | d + 1, n, h, hn => by
  have hd : DeepC l (Cs l d) n := j9 hl hll h (fun h30 => T5 hl hll hcl d (n + 1) (by omega) (by omega))
  have g1 : Ca l n (Ll l (Cs l d)) := Ki hl hll (fun h => (hd.ei h).1) (fun h => (hd.ne h).1)
  have g2 : Ca l n (Sr l (Cs l d)) := Dl hl g1
  have g3 : Ca l n (C9 l (Cs l d)) := Dl hl g2
  have g4 : Ca l n (Cu l (Cs l d)) := If hl hll (fun h => (hd.ei h).1) (fun h => (hd.ne h).1)
  have g5 : Ca l n (Lm l (Cs l d)) := Pm hl hll (fun h => (hd.ei h).1) (fun h => (hd.ne h).1) (fun h => (hd.no h).1)
  have g6 : Ca l n (Ss l (Cs l d)) := Dl hl g5
  have p0 : PC 253 l (Dd l (Cs l d)) n := fun o Hp S ho hi hS => by
   subst hS
   exact u1 l S (Cs l d) o Hp ho hi hl hll hn hd (hcl _ _ hn hd)
  have p1 : PC 243 l (Ll l (Cs l d)) n := fun o Hp S ho hi hS => by
   subst hS
   exact tw l S (Cs l d) o Hp ho hi hl hll hn hd p0
  have p2 : PC 236 l (Sr l (Cs l d)) n := fun o Hp S ho hi hS => by
   subst hS
   exact tr l S (Ll l (Cs l d)) o Hp ho hi hl hll g1 p1
  have p3 : PC 221 l (C9 l (Cs l d)) n := fun o Hp S ho hi hS => by
   subst hS
   exact tq l S (Sr l (Cs l d)) o Hp ho hi hl hll g2 p2
  have p4 : PC 200 l (Cu l (Cs l d)) n := fun o Hp S ho hi hS => by
   subst hS
   exact tz l S (Cs l d) o Hp ho hi hl hll hn hd g3 p3
  have p5 : PC 172 l (Lm l (Cs l d)) n := fun o Hp S ho hi hS => by
   subst hS
   exact tx l S (Cs l d) o Hp ho hi hl hll hn hd p4
  have p6 : PC 142 l (Ss l (Cs l d)) n := fun o Hp S ho hi hS => by
   subst hS
   exact tm l S (Lm l (Cs l d)) o Hp ho hi hl hll g5 p5
  have p7 : PC 108 l (Lr l (Cs l d)) n := fun o Hp S ho hi hS => by
   subst hS
   exact tk l S (Ss l (Cs l d)) o Hp ho hi hl hll g6 p6
  exact ⟨p7, p5, p1⟩
theorem Wj {n : Nat} {U F : Nat → List AObj} {H' : List AObj} (h : G8 (fun _ => true) U F n H') : H' = U n := by
 rcases h with ⟨_, h⟩ | ⟨j, _, _, h, _⟩
 ·exact h
 cases h
theorem Yr {α : Type} {l : List α} {k : Nat} {y : α} (h : l[k]? = some y) : l.take (k + 1) = l.take k ++ [y] := by rw [List.take_add_one, h]; rfl
theorem cy {L : List (Int × Expr)} {k : Nat} {it : Int × Expr} (h : L[k]? = some it) : Cn 0 (L.take (k + 1)) = if Cn 0 (L.take k) < it.1 then it.1 else Cn 0 (L.take k) := by
 have e : Cn 0 (L.take (k + 1)) = max (Cn 0 (L.take k)) it.1 := by
  unfold Cn
  rw [Yr h, List.foldl_append]
  rfl
 rw [e]
 split <;> omega
theorem Pp {n k : Nat} {o : Bool} {l : List Str} : Low n (.slice o k (l.map A8)) := by simp [or_imp, forall_and]
theorem u6 (n : Nat) (e : Expr) (hok : okE n e) (hn : n ≤ 1048576) (hs : sizeE e ≤ 1048576) (Hp : List AObj) : AFun Tryz.prog 109 [Ab e] Hp (A4 (depthE e : Nat)) := by
 refine ACall.body [.tmp 2] [0, 4] Tryz.func109 Tryz.ntmps109 (fun d => ?_)
 refine Z97 ?_;refine R.fin [1, 4] ?_;refine U6 ?_;refine R.fin [1, 3, 4] ?_;refine Z27 ?_
 refine R.assumeLow (fun hlow => ?_)
 refine lz ?_;refine R.fin [3, 4, 6] ?_;refine Eq ?_
 refine W.rangeV (m := 1) Tryz.call126 (fun FR as' bd' hFR has hbd => ?_)
 have hFRl : ∀ s, Low (Hp.length + 3) (FR s) := by
  intro s
  rw [hFR]
  refine Low.strip ?_
  revert s
  repeat (first | exact B6 | refine B5 (by simp [oid, Aj] <;> try omega) ?_)
 have hOl : ∀ {k : Nat}, ∀ x ∈ [AObj.cells 3 [A4 (Cn 0 ((Aq 1 e).take k))], AObj.defs, AObj.loop LoopState.ready none FR 13 #[7, 8] as' bd' (oid Hp.length 1)], ObjLow (Hp.length + 3) x := by
  intro k x hx
  simp only [List.mem_cons, List.mem_nil_iff, or_false] at hx
  rcases hx with rfl | rfl | rfl
  ·intro y hy
   rw [List.mem_singleton.1 hy]
   first | exact Pp | simp
  ·trivial
  exact i6
 refine ⟨fun _ H' => G8 (fun _ => true) (fun k => Hp ++ [AObj.cells 3 [A4 (Cn 0 ((Aq 1 e).take k))], AObj.defs, AObj.loop LoopState.ready none FR 13 #[7, 8] as' bd' (oid Hp.length 1)]) (fun k => Hp ++ [AObj.cells 3 [A4 (Cn 0 ((Aq 1 e).take k))], AObj.defs, AObj.loop LoopState.ready none FR 13 #[7, 8] as' bd' (oid Hp.length 1)]) (Aq 1 e).length H', ml (l := oid Hp.length 2) (go := fun _ => true) (U := fun k => Hp ++ [AObj.cells 3 [A4 (Cn 0 ((Aq 1 e).take k))], AObj.defs, AObj.loop LoopState.ready none FR 13 #[7, 8] as' bd' (oid Hp.length 1)]) (F := fun k => Hp ++ [AObj.cells 3 [A4 (Cn 0 ((Aq 1 e).take k))], AObj.defs, AObj.loop LoopState.ready none FR 13 #[7, 8] as' bd' (oid Hp.length 1)]) (n0 := Hp.length + 3) ⟨fun k => by simp, fun k => by simp, fun k x hx => ?_, fun k x hx => ?_, by simp [oid], fun X k it hit hgo => ?_⟩ n hok hn, ?_⟩
 ·exact bg
 ·exact bg
 ·have hklt : k < sizeE e := by rw [← D8 1 e]; exact (List.getElem?_eq_some_iff.1 hit).1
  generalize hV : (Hp ++ [AObj.cells 3 [A4 (Cn 0 ((Aq 1 e).take k))], AObj.defs, AObj.loop LoopState.ready none FR 13 #[7, 8] as' bd' (oid Hp.length 1)] ++ X) = V
  have hL : V[oid Hp.length 2]? = some (AObj.loop LoopState.ready none FR 13 #[7, 8] as' bd' (oid Hp.length 1)) := by rw [← hV, List.append_assoc, Am]; rfl
  have hA0 : V[oid Hp.length 0]? = some (AObj.cells 3 [A4 (Cn 0 ((Aq 1 e).take k))]) := by rw [← hV, List.append_assoc, Am]; rfl
  refine AYield.ofRound (pd := none) (fr := FR) (sz := 13) (ps := #[7, 8]) (df := oid Hp.length 1) (asg := as') (bd := bd') hL rfl (by decide) (fun d => ?_)
  subst hFR has hbd
  refine W.keep [3, 7, 8] ?_;refine Xn ?_;refine R.fin [3, 4] ?_
  refine ⟨rfl, none, hL, ?_⟩
  generalize hbz : (AObj.loop LoopState.busy _ _ _ _ _ _ _) = bz
  have hA : (V.set (oid Hp.length 2) bz)[oid Hp.length 0]? = some (AObj.cells 3 [A4 (Cn 0 ((Aq 1 e).take k))]) := by rw [List.getElem?_set_ne (Bq (by decide))]; exact hA0
  refine Eq ?_;refine AW.region ?_;refine R.loadUp jA hA ?_;refine At ?_;refine R.maxI ?_
  refine R.storeUp jS hA ?_ ?_
  ·simp
  refine R.fin [] ?_;refine K.blN ?_
  subst hbz
  refine K.rdN (Rn hL (Bq (by decide))) ?_
  refine ⟨rfl, ?_⟩
  rw [if_pos rfl]
  subst hV
  simp only [List.append_assoc, Ck, List.cons_append, List.nil_append, List.set_cons_succ, List.set_cons_zero]
  rw [cy hit]
 intro r H' hq
 obtain rfl := Wj hq
 refine ⟨Hp, _, _, _, rfl, rfl, fun h => h, ?_, rfl, by simp, ?_⟩
 ·intro o ho
  have : o = oid Hp.length 1 := by simpa using ho
  subst this
  rw [Am]
  rfl
 refine Z13 ?_;refine au ?_;refine Z76 ?_;exact K.fin (V.one V.tmp) ⟨by rw [List.take_length, L0], rfl⟩

theorem u7 (n : Nat) (e : Expr) (hok : okE n e) (hn : n ≤ 1048576) (hs : sizeE e ≤ 1048576) (Hp : List AObj) : AFun Tryz.prog 111 [Ab e] Hp (A4 (sizeE e : Nat)) := by
 refine ACall.body [.tmp 2] [0] Tryz.func111 Tryz.ntmps111 (fun d => ?_)
 refine Ob ?_;refine U6 ?_;refine R.fin [1, 3] ?_;refine Z27 ?_
 refine R.assumeLow (fun hlow => ?_)
 refine lz ?_;refine R.fin [3, 5] ?_;refine Eq ?_
 refine W.rangeV (m := 1) Tryz.call126 (fun FR as' bd' hFR has hbd => ?_)
 have hFRl : ∀ s, Low (Hp.length + 3) (FR s) := by
  intro s
  rw [hFR]
  refine Low.strip ?_
  revert s
  repeat (first | exact B6 | refine B5 (by simp [oid, Aj] <;> try omega) ?_)
 have hOl : ∀ {k : Nat}, ∀ x ∈ [AObj.cells 3 [A4 ((k : Nat))], AObj.defs, AObj.loop LoopState.ready none FR 11 #[6, 7] as' bd' (oid Hp.length 1)], ObjLow (Hp.length + 3) x := by
  intro k x hx
  simp only [List.mem_cons, List.mem_nil_iff, or_false] at hx
  rcases hx with rfl | rfl | rfl
  ·intro y hy
   rw [List.mem_singleton.1 hy]
   first | exact Pp | simp
  ·trivial
  exact i6
 refine ⟨fun _ H' => G8 (fun _ => true) (fun k => Hp ++ [AObj.cells 3 [A4 ((k : Nat))], AObj.defs, AObj.loop LoopState.ready none FR 11 #[6, 7] as' bd' (oid Hp.length 1)]) (fun k => Hp ++ [AObj.cells 3 [A4 ((k : Nat))], AObj.defs, AObj.loop LoopState.ready none FR 11 #[6, 7] as' bd' (oid Hp.length 1)]) (Aq 1 e).length H', ml (l := oid Hp.length 2) (go := fun _ => true) (U := fun k => Hp ++ [AObj.cells 3 [A4 ((k : Nat))], AObj.defs, AObj.loop LoopState.ready none FR 11 #[6, 7] as' bd' (oid Hp.length 1)]) (F := fun k => Hp ++ [AObj.cells 3 [A4 ((k : Nat))], AObj.defs, AObj.loop LoopState.ready none FR 11 #[6, 7] as' bd' (oid Hp.length 1)]) (n0 := Hp.length + 3) ⟨fun k => by simp, fun k => by simp, fun k x hx => ?_, fun k x hx => ?_, by simp [oid], fun X k it hit hgo => ?_⟩ n hok hn, ?_⟩
 ·exact bg
 ·exact bg
 ·have hklt : k < sizeE e := by rw [← D8 1 e]; exact (List.getElem?_eq_some_iff.1 hit).1
  generalize hV : (Hp ++ [AObj.cells 3 [A4 ((k : Nat))], AObj.defs, AObj.loop LoopState.ready none FR 11 #[6, 7] as' bd' (oid Hp.length 1)] ++ X) = V
  have hL : V[oid Hp.length 2]? = some (AObj.loop LoopState.ready none FR 11 #[6, 7] as' bd' (oid Hp.length 1)) := by rw [← hV, List.append_assoc, Am]; rfl
  have hA0 : V[oid Hp.length 0]? = some (AObj.cells 3 [A4 ((k : Nat))]) := by rw [← hV, List.append_assoc, Am]; rfl
  refine AYield.ofRound (pd := none) (fr := FR) (sz := 11) (ps := #[6, 7]) (df := oid Hp.length 1) (asg := as') (bd := bd') hL rfl (by decide) (fun d => ?_)
  subst hFR has hbd
  refine W.keep [3, 6, 7] ?_;refine AW.skip ?_
  refine ⟨rfl, none, hL, ?_⟩
  generalize hbz : (AObj.loop LoopState.busy _ _ _ _ _ _ _) = bz
  have hA : (V.set (oid Hp.length 2) bz)[oid Hp.length 0]? = some (AObj.cells 3 [A4 ((k : Nat))]) := by rw [List.getElem?_set_ne (Bq (by decide))]; exact hA0
  refine Eq ?_;refine AW.region ?_;refine R.loadUp jA hA ?_;refine R.add64 ?_
  refine R.storeUp jS hA ?_ ?_
  ·simp
  refine R.fin [] ?_;refine K.blN ?_
  subst hbz
  refine K.rdN (Rn hL (Bq (by decide))) ?_
  refine ⟨rfl, ?_⟩
  rw [if_pos rfl]
  subst hV
  simp only [List.append_assoc, Ck, List.cons_append, List.nil_append, List.set_cons_succ, List.set_cons_zero]
  rfl
 intro r H' hq
 obtain rfl := Wj hq
 refine ⟨Hp, _, _, _, rfl, rfl, fun h => h, ?_, rfl, by simp, ?_⟩
 ·intro o ho
  have : o = oid Hp.length 1 := by simpa using ho
  subst this
  rw [Am]
  rfl
 refine Z13 ?_;refine au ?_;refine Z76 ?_;exact K.fin (V.one V.tmp) ⟨by rw [D8], rfl⟩

theorem T6 {l : List Tok} (hl : TokEnd l) (hll : l.length ≤ 1048576) {i : Nat} (hi : i < l.length) : Fact l ⟨i, 0, 0, 0⟩ (atR l i) := (Kj hl hll 31 0 rfl (by decide)).1 ⟨i, 0, 0, 0⟩ hi rfl
theorem mu {l : List Tok} {i : Nat} (hi : i < l.length) (hl : TokEnd l) (hll : l.length ≤ 1048576) (hcl : ∀ n Dv, n ≤ 30 → DeepC l Dv n → T3 l Dv n) (o : Nat) (Hp : List AObj) (ho : Hp[o]? = some (pr l ⟨i, 0, 0, 0⟩)) : ACall Tryz.prog 108 [.ptr o 0] Hp (fun r H' => r = Ab (atR l i).1 ∧ H' = Hp.set o (pr l (atR l i).2)) := (T5 hl hll hcl 31 0 rfl (by decide)).1 o Hp ⟨i, 0, 0, 0⟩ ho hi rfl
theorem T7 {l : List Tok} (hl : TokEnd l) : (A9 l (l.length - 1)).kind = 0 := by
 obtain ⟨L, z, rfl, hz, _⟩ := hl.split
 unfold A9
 simp [hz]
theorem c74 (l : List Tok) (i : Nat) (hi : i < l.length) (hl : TokEnd l) (hll : l.length ≤ 500000) (hcl : ∀ n Dv, n ≤ 30 → DeepC l Dv n → T3 l Dv n) (Hp : List AObj) : AFun Tryz.prog 74 [cc l, A4 (i : Int)] Hp (.tup [Ab (atM l i).1, A4 (atM l i).2.1, .agg [A4 (atM l i).2.2.1, A4 (atM l i).2.2.2]]) := by
 have hmap : (l.map Er).length = l.length := List.length_map ..
 have hll1 : l.length ≤ 1048576 := by omega
 have hq := T6 hl hll1 hi
 have hlast := T7 hl
 have hpos := hl.pos
 have hqlt := hq.lt
 have hqs := hq.sz
 have hok0 : okE 1048576 (atR l i).1 := Du (by have := hq.lt; omega) hq.ok
 have hsz0 : sizeE (atR l i).1 ≤ 1048576 := by have := hq.sz; have := hq.lt; omega
 refine ACall.body [.cell 4 27, .tmp 5, .cell 6 50] [0, 1] Tryz.func74 Tryz.ntmps74 (fun d => ?_)
 refine Rv ?_;refine R.alloc jZ ?_;refine R.fin [0, 1, 4, 6] ?_;refine Ub ?_;refine Me ?_;refine G.len jU ?_;refine G.geq ?_;refine R.pickOr ?_;refine Me ?_;refine G.len jU ?_;refine G.sub64 ?_;refine G.indexAddr ((l.length - 1)) (Er (A9 l (l.length - 1))) jU jS (fun _ => It (by omega)) ?_;refine Z98 ?_;refine U4 ?_;refine R.fin [0, 1, 4, 6, 26] ?_
 refine W.cond (fun ht26 => ?_) (fun ht26 => ?_)
 ·simp only [Bool.or_eq_true, decide_eq_true_eq, bne_iff_ne, ne_eq] at ht26
  rcases ht26 with (h | h) | h
  ·omega
  ·simp at h; omega
  exact absurd hlast h
 refine Z5 ?_;refine Z29 ?_;refine R.build (places := #[(0, 1), (1, 1), (2, 1), (3, 2)]) jU (fun w => by simp) jZ ?_;refine R.box ?_;refine Au ?_;refine R.fin [0, 1, 4, 6, 7] ?_;refine Z0 ?_
 refine R.callOwn (n := 2) (x := pr l (atR l i).2) Tryz.call108 (mu hi hl hll1 hcl (oid Hp.length 2) _ (by rw [Am]; rfl)) ?_
 refine Z16 ?_;refine R.fin [0, 1, 4, 6, 7, 8] ?_
 refine W.join ⟨81, A6 4 (.ptr (oid Hp.length 0) 0) (A6 6 (.ptr (oid Hp.length 1) 0) (A6 7 (.ptr (oid Hp.length 2) 0) (A6 8 (.ptr (oid Hp.length 3) 0) (fun _ => .any)))), Hp, [.cells 27 [A4 0, A8 [], A4 0, A4 0, A8 [], .nil], .cells 50 [A4 0, A4 0], pr l (atS l i (atR l i)), .cells 27 (E1 (atR l i).1)], [], none⟩ ?_ ?_
 ·refine Eq ?_;refine Z0 ?_;refine Qj ?_;refine In ?_;refine Rr ?_;refine R.fin [0, 1, 4, 6, 7, 8, 35] ?_
  refine W.cond (fun ht35 => ?_) (fun ht35 => ?_)
  ·have e : atS l i (atR l i) = (atR l i).2 := if_pos ht35
   refine W.keep [4, 6, 7, 8] ?_;refine AW.skip ?_;exact gg
  have e0 : ¬ ((atR l i).2.code != 0) = true := by rw [ht35]; simp
  refine Z31 ?_;refine R.call Tryz.call109 (u6 1048576 _ hok0 (Nat.le_refl _) hsz0 _) ?_;refine Xq ?_;refine R.fin [0, 1, 4, 6, 7, 8, 42] ?_
  refine W.cond (fun ht42 => ?_) (fun ht42 => ?_)
  ·have e : atS l i (atR l i) = C6 18 (A9 l i).at_ (atR l i).2 := by unfold atS; rw [if_neg e0, if_pos ht42]
   refine Z21 ?_;refine Z79 ?_;refine R.indexAddr (i) (Er (A9 l i)) jU jS (It hi) ?_;refine fp ?_
   refine R.callOwn (n := 2) (x := pr l (C6 18 (A9 l i).at_ (atR l i).2)) Tryz.call110 (Yp l (atR l i).2 18 (A9 l i).at_ (oid Hp.length 2) _ (by rw [Am]; rfl)) ?_
   refine R.fin [4, 6, 7, 8] ?_;exact gg
  have e1 : ¬ decide ((30 : Int) < depthE (atR l i).1) = true := by rw [ht42]; simp
  refine Z31 ?_;refine R.call Tryz.call111 (u7 1048576 _ hok0 (Nat.le_refl _) hsz0 _) ?_;refine Xq ?_;refine R.fin [0, 1, 4, 6, 7, 8, 53] ?_
  refine W.cond (fun ht53 => ?_) (fun ht53 => ?_)
  ·have e : atS l i (atR l i) = C6 3 (A9 l i).at_ (atR l i).2 := by unfold atS; rw [if_neg e0, if_neg e1, if_pos ht53]
   refine Z21 ?_;refine Z79 ?_;refine R.indexAddr (i) (Er (A9 l i)) jU jS (It hi) ?_;refine fp ?_
   refine R.callOwn (n := 2) (x := pr l (C6 3 (A9 l i).at_ (atR l i).2)) Tryz.call110 (Yp l (atR l i).2 3 (A9 l i).at_ (oid Hp.length 2) _ (by rw [Am]; rfl)) ?_
   refine R.fin [4, 6, 7, 8] ?_;exact gg
  have e : atS l i (atR l i) = (atR l i).2 := by unfold atS; rw [if_neg e0, if_neg e1, if_neg (by rw [ht53]; simp)]
  refine W.keep [4, 6, 7, 8] ?_;refine AW.skip ?_;exact gg
 refine Z9 ?_;refine Qj ?_;refine gw ?_;refine R.fin [4, 6, 7, 8, 69] ?_
 refine W.cond (fun ht69 => ?_) (fun ht69 => ?_)
 ·have e : atM l i = (Ah, 0, (atS l i (atR l i)).code, (atS l i (atR l i)).at_) := if_pos ht69
  refine W.drawY [0, 0, 2, 6, 14, 1, 33, 127] [5] [.q 5 [] [], .s [] (some 0) [] [], .q 1 [0] []] (fun _ => Hp) (fun _ => [.cells 27 [A4 0, A8 [], A4 0, A4 0, A8 [], .nil], .cells 50 [A4 0, A4 0], pr l (atS l i (atR l i)), .cells 27 (E1 (atR l i).1)]) Ae (by kernel_rfl) rfl rfl (fun _ => rfl) ?_
  apply Y.q
  case h1 =>
   intro B hT hF
   refine D.build (places := #[(0, 1), (1, 1), (2, 3), (5, 1)]) jU (fun w => by simp) jZ ?_;refine Z44 ?_;refine D.fieldAddrPtr (fo := 3) jU Tryz.sizeOf50 ?_;exact li
  case hTF => decide
  refine Y.storeOwn (u := Hp.length) (n := 0) (t' := 27) (cs := [A4 0, A8 [], A4 0, A4 0, A8 [], .nil]) (cs' := [A4 0, A8 [], A4 0, A4 0, A8 [], .nil]) Tryz.sizeOf27 (fun B hB => ⟨rfl, rfl, rfl, rfl⟩) ?_
  apply Y.q
  case h1 =>
   intro B hT hF
   exact m0
  case hTF => decide
  refine Y.tail (tn := [5])  ?_;refine R.nilCell 0 5 6 ?_;refine Do ?_;refine R.fin [4, 5, 6] ?_;refine Z11 ?_;exact K.fin (V.three (V.cellN jA jS) V.tmp (V.cellN jA jS)) ⟨by rw [e, cx] <;> rfl, rfl⟩
 have e : atM l i = ((atR l i).1, ((atS l i (atR l i)).i : Int), 0, 0) := if_neg (by rw [ht69]; simp)
 refine Z5 ?_;refine W.drawY [0, 0, 2, 6, 14, 0, 1, 95, 255] [6] [.q 6 [] [], .s [] (some 0) [] [], .q 1 [0] []] (fun _ => Hp) (fun B => [.cells 27 (if B 0 = true then E1 (atR l i).1 else [A4 0, A8 [], A4 0, A4 0, A8 [], .nil]), .cells 50 [A4 0, A4 0], pr l (atS l i (atR l i)), .cells 27 (E1 (atR l i).1)]) Ae (by kernel_rfl) rfl rfl (fun _ => rfl) ?_
 apply Y.q
 case h1 =>
  intro B hT hF
  refine D.loadOwnN jA jS ?_;refine Z69 ?_;refine D.loadOwn jA ?_;exact oa
 case hTF => decide
 refine Y.storeOwn (u := Hp.length) (n := 0) (t' := 27) (cs := [A4 0, A8 [], A4 0, A4 0, A8 [], .nil]) (cs' := E1 (atR l i).1) Tryz.sizeOf27 (fun B hB => ⟨rfl, by simp only [hB]; rfl, by simp [upd], rfl⟩) ?_
 apply Y.q
 case h1 =>
  intro B hT hF
  exact m0
 case hTF => decide
 refine Y.tail (tn := [6]) (O := [.cells 27 (E1 (atR l i).1), .cells 50 [A4 0, A4 0], pr l (atS l i (atR l i)), .cells 27 (E1 (atR l i).1)]) ?_;refine Do ?_;refine R.fin [4, 5, 6] ?_;refine AW.ret ?_;exact K.fin (V.three (V.cellN jA jS) V.tmp (V.cellN jA jS)) ⟨by rw [e, Af] <;> rfl, rfl⟩ (hlow := by have := low_agg (n := Hp.length) (atR l i).1; simp at this ⊢; exact this)

theorem ja {s : Str} (h : (Ap s).2.1 = 0) : (Ap s).1.length ≤ 4002 := by
 obtain ⟨h1, _, h3⟩ := iu h
 have h2 := Mz s
 rw [h3]
 simp only [List.length_append, List.length_map, List.length_cons, List.length_nil]
 omega
theorem Wk {l : List Tok} (hl : TokEnd l) (hll : l.length ≤ 1048576) {i : Nat} (hi : i < l.length) (h : (atM l i).2.2.1 = 0) : ∃ k : Nat, (atM l i).2.1 = (k : Int) ∧ k < l.length := by
 have hq := T6 hl hll hi
 unfold atM at h ⊢
 split at h
 ·rename_i h1
  have : (atS l i (atR l i)).code = 0 := h
  rw [this] at h1
  cases h1
 rename_i h1
 rw [if_neg h1]
 refine ⟨(atS l i (atR l i)).i, rfl, ?_⟩
 have e : (atS l i (atR l i)).i = (atR l i).2.i := by
  unfold atS
  repeat' split
  all_goals first | rfl | exact failM_i.1
 rw [e]
 exact hq.lt
theorem Oo {α : Type} {a b : List α} (hl : a.length = b.length) (h : ∀ (j : Nat) (y : α), j < a.length → a[j]? = some y → b[j]? = some y) : a = b := by
 apply List.ext_getElem hl
 intro j h1 h2
 have := h j a[j] h1 (List.getElem?_eq_getElem h1)
 rw [List.getElem?_eq_getElem h2] at this
 injection this with this
 exact this.symm
theorem Cb {n k : Nat} {o : Bool} {l : List Expr} : Low n (.slice o k (l.map Ab)) := low_slice.2 fun y hy => by
 obtain ⟨a, _, rfl⟩ := List.mem_map.1 hy
 exact Aj _ a
theorem Ys {l : List Expr} {n f : Nat} (h0 : l.isEmpty = false) (h : Ie l n = true) : Dh f l n = true := by
 cases f with
 | zero => rw [Dh, h0]; rfl
 | succ f => rw [Dh, if_neg (by rw [h0]; simp), if_pos h]
theorem jb {l : List Expr} {n y : Nat} (hy : y < l.length) (h : 500 < n + y + 1 ∨ Kg l[y] = true) : Ie l n = true := by
 unfold Ie
 rcases h with h | h
 ·rw [decide_eq_true (by omega)]; rfl
 rw [List.any_eq_true.2 ⟨_, List.getElem_mem hy, h⟩, Bool.or_true]
theorem Nn {l : List Expr} : ∀ (y : Nat), y ≤ l.length → (∀ (j : Nat) (e : Expr), j < y → l[j]? = some e → Kg e = false) → ((l.take y).flatMap Expr.kids).length ≤ 100 * y
 | 0, _, _ => by simp
 | y + 1, hy, h => by
  rw [List.take_succ_eq_append_getElem hy, List.flatMap_append, List.length_append]
  have h1 := Nn y (by omega) (fun j e hj he => h j e (by omega) he)
  have h2 := R0 (h y l[y] (by omega) (List.getElem?_eq_getElem _))
  simp only [List.flatMap_cons, List.flatMap_nil, List.append_nil]
  omega
structure WideAt (l0 : List Expr) (x : List Expr × Nat × Nat) : Prop where
 eq : Dh 61 l0 0 = Dh x.2.2 x.1 x.2.1
 f : x.2.2 ≤ 61
 n : x.2.1 ≤ 500
theorem c46 (l0 : List Expr) (Hp : List AObj) : AFun Tryz.prog 46 [.slice false 6 (l0.map Ab), A4 0] Hp (Ak (Dh 61 l0 0)) := by
 refine ACall.body [.tmp 4] [0, 1] Tryz.func46 Tryz.ntmps46 (fun d => ?_)
 refine Z87 ?_;refine Z3 ?_;refine R.fin [0, 1, 5] ?_;refine W.seq ?_
 refine AW.loopC (α := List Expr × Nat × Nat) (fun x => ⟨67, A6 0 (.slice false 6 (x.1.map Ab)) (A6 1 (A4 (61 - (x.2.2 : Int))) (A6 5 (A4 (x.2.1 : Nat)) (fun _ => .any))), Hp, [], [], none⟩) (fun x => WideAt l0 x) (fun x => x.2.2) ((l0, 0, 61)) ⟨rfl, Nat.le_refl _, Nat.zero_le _⟩ (StLe.of_eq (by simp)) rfl (fun x hx => ?_)
 refine Z9 ?_;refine Xr ?_;refine R.fin [0, 1, 5, 10] ?_
 refine W.cond (fun ht10 => ?_) (fun ht10 => ?_)
 ·have hpos : 0 < x.1.length := by simpa using ht10
  have hne : x.1.isEmpty = false := by cases hxx : x.1 with
   | nil => rw [hxx] at hpos; simp at hpos
   | cons a r => rfl
  have hxf := hx.f
  refine Z5 ?_;refine Eq ?_;refine Ba ?_;refine Mk ?_;refine R.assignT ?_;refine R.fin [0, 1, 5, 6] ?_;refine Ua ?_;refine R.fin [0, 1, 5, 6, 7] ?_
  refine AW.loopC (α := Nat) (fun y => ⟨67, A6 0 (.slice false 6 (x.1.map Ab)) (A6 1 (A4 (61 - (x.2.2 : Int))) (A6 5 (A4 ((x.2.1 + y : Nat) : Int)) (A6 6 (.slice true 6 (((x.1.take y).flatMap Expr.kids).map Ab)) (A6 7 (A4 (y : Nat)) (fun _ => .any))))), Hp, [], [], none⟩) (fun y => y ≤ x.1.length ∧ x.2.1 + y ≤ 500 ∧ ∀ (j : Nat) (e : Expr), j < y → x.1[j]? = some e → Kg e = false) (fun y => x.1.length - y) (0) ⟨Nat.zero_le _, hx.n, fun j e h => by omega⟩ (StLe.of_eq (by simp)) rfl (fun y hy => ?_)
  refine Xw ?_;refine R.fin [0, 1, 5, 6, 7, 15] ?_
  refine W.cond (fun ht15 => ?_) (fun ht15 => ?_)
  ·have hlt : y < x.1.length := by simpa using ht15
   have hyn := hy.2.1
   refine Z5 ?_;refine Gg ?_;refine Z82 ?_;refine R.fin [0, 1, 5, 6, 7] ?_;refine Z9 ?_;refine R.gtr ?_;refine ll ?_;refine Z28 ?_;refine G.slen jU ?_;refine Md ?_;refine ll ?_;refine gz ?_;refine G.fieldAddrRo (off := 2) jU Tryz.sizeOf9 ?_;refine G.loadRo jA ?_;refine G.slen jU ?_;refine Md ?_;refine ll ?_;refine Z50 ?_;refine G.len jU ?_;refine Md ?_;refine R.fin [0, 1, 5, 6, 7, 49] ?_
   refine W.cond (fun ht49 => ?_) (fun ht49 => ?_)
   ·have hm : Ie x.1 x.2.1 = true := jb hlt (by
     simp only [Bool.or_eq_true, decide_eq_true_eq, List.length_map] at ht49
     unfold Kg
     simp only [Bool.or_eq_true, decide_eq_true_eq]
     omega)
    have hw := Ys (f := x.2.2) hne hm
    refine Z3 ?_;refine Z90 ?_;refine Oa ?_;refine Xt ?_;exact ot
   have hfat : Kg x.1[y] = false ∧ x.2.1 + y + 1 ≤ 500 := by
    simp only [Bool.or_eq_false_iff, decide_eq_false_iff_not, List.length_map] at ht49
    unfold Kg
    simp only [Bool.or_eq_false_iff, decide_eq_false_iff_not]
    omega
   have hkl := (R0 hfat.1).2.2
   have hfm : (x.1.take (y + 1)).flatMap Expr.kids = (x.1.take y).flatMap Expr.kids ++ x.1[y].kids := by rw [List.take_succ_eq_append_getElem hlt, List.flatMap_append]; simp
   refine Z5 ?_;refine AW.region ?_;refine R.moveT ?_;refine Z79 ?_;refine R.indexAddr (y) (Ab x.1[y]) jU jS (Be hlt) ?_;refine Z38 ?_
   refine R.append jU Tryz.type27 ?_ ?_ ?_
   ·have h1 := Nn y hy.1 hy.2.2; have h2 := hkl; have h3 := hy.2.1; simp only [List.length_map, Tryz.t27]; omega
   ·have h1 := Nn y hy.1 hy.2.2; have h2 := hkl; have h3 := hy.2.1; simp only [List.length_map, Tryz.t27]; omega
   refine R.assignT ?_;refine R.fin [0, 1, 5, 6, 7] ?_;refine Z13 ?_;refine Qm ?_;refine R.fin [0, 1, 5, 6, 7] ?_
   refine K.lpN (y + 1) ⟨hlt, by omega, Da hlt hy.2.2 hfat.1⟩ (by omega) (StCut.of_eq ?_)
   rw [hfm, List.map_append]
   rfl
  have hye : x.1.take y = x.1 := List.take_of_length_le (by simp at ht15; omega)
  have hyl : y = x.1.length := by have := hy.1; simp at ht15; omega
  have hmany : Ie x.1 x.2.1 = false := by
   unfold Ie
   rw [decide_eq_false (by have := hy.2.1; omega), Bool.false_or, List.any_eq_false]
   intro e he
   obtain ⟨j, hj⟩ := List.getElem?_of_mem he
   rw [hy.2.2 j e (by have := (List.getElem?_eq_some_iff.1 hj).1; omega) hj]
   simp
  refine Oe ?_;refine Z9 ?_;refine Xr ?_;refine Z22 ?_;refine Md ?_;refine R.fin [1, 5, 6, 63] ?_
  refine W.cond (fun ht63 => ?_) (fun ht63 => ?_)
  ·have hw : Dh x.2.2 x.1 x.2.1 = true := by
    have h9 := ht63
    rw [hye] at h9
    simp only [Bool.or_eq_true, decide_eq_true_eq, List.length_map] at h9
    cases hf : x.2.2 with
    | zero => rw [Dh, hne]; rfl
    | succ f =>
     rw [Dh, if_neg (by rw [hne]; simp), if_neg (by rw [hmany]; simp), if_pos (by rw [decide_eq_true_eq]; omega)]
   refine Z3 ?_;refine Z90 ?_;refine Xt ?_;exact ot
  have h9 := ht63
  rw [hye] at h9
  simp only [Bool.or_eq_false_iff, decide_eq_false_iff_not, List.length_map] at h9
  obtain ⟨f, hf⟩ : ∃ f, x.2.2 = f + 1 := ⟨x.2.2 - 1, by omega⟩
  have hw : Dh x.2.2 x.1 x.2.1 = Dh f (x.1.flatMap Expr.kids) (x.2.1 + x.1.length) := by
   rw [hf, Dh, if_neg (by rw [hne]; simp), if_neg (by rw [hmany]; simp), if_neg (by rw [decide_eq_true_eq]; omega)]
  refine Z5 ?_;refine Z64 ?_;refine R.fin [0, 1, 5] ?_;refine Qm ?_;refine R.fin [0, 1, 5] ?_;refine K.blN ?_
  refine K.lpN (x.1.flatMap Expr.kids, x.2.1 + x.1.length, f) ⟨hx.eq.trans hw, by show f ≤ 61; omega, by show x.2.1 + x.1.length ≤ 500; have := hy.2.1; omega⟩ (by show f < x.2.2; omega) (StCut.of_eq ?_)
  rw [hye, hyl]
  congr 4
  simp only [AV.v.injEq, Value.int.injEq, true_and]
  omega
 have hnil : x.1 = [] := by have := ht10; simp at this; exact this
 refine Oe ?_;refine Uh ?_;exact K.fin (V.one V.tmp) ⟨by rw [hx.eq, hnil]; cases x.2.2 <;> rfl, rfl⟩

theorem c17 (e : Expr) (Hp : List AObj) : AFun Tryz.prog 17 [Ab e] Hp (Ak (Pg e)) := by
 refine ACall.body [.tmp 2] [0] Tryz.func17 Tryz.ntmps17 (fun d => ?_)
 refine Ob ?_;refine Z54 ?_;refine Mk ?_;refine R.call Tryz.call46 (c46 [e] _) ?_;exact ap

set_option maxRecDepth 8000
/-! What a tree comes to: eval's model. -/
abbrev Rs := Val × Int
def Bg (e : Int) : Rs := (noV, e)
def Oq (s : Str) : Val := ⟨2, 0, s.take 200⟩
def E9 (x : Int × Int) : Rs := if x.2 != 0 then Bg x.2 else (⟨1, x.1, []⟩, 0)
def No (a b : Int) : Int × Int := if decide (Ox .i64 (Kq .i64 a (IntKind.i64.wrap (a + b))) (Kq .i64 b (IntKind.i64.wrap (a + b))) < 0) then (0, 4) else (IntKind.i64.wrap (a + b), 0)
def Hm (a b : Int) : Int × Int := if decide (Ox .i64 (Kq .i64 a b) (Kq .i64 a (IntKind.i64.wrap (a - b))) < 0) then (0, 4) else (IntKind.i64.wrap (a - b), 0)
def L3 (a : Int) : Int := if decide (a < 0) then IntKind.u64.wrap (0 - IntKind.u64.wrap a) else IntKind.u64.wrap a
def Cm : List Val → List Int → Bool
 | _, [] => true
 | [], _ :: _ => false
 | v :: vs, k :: ks => (v.kind == k) && Cm vs ks
def Jq (a b : Val) : Rs := if !Cm [a, b] [2, 2] then Bg 10 else if decide ((200 : Int) < (a.s.length : Int) + (b.s.length : Int)) then Bg 3 else (Oq (a.s ++ b.s), 0)
def Ai (r : Rs) : Rs := if (r.2 == 0) && (r.1.kind != 0) && (r.1.kind != 3) then Bg 10 else r
def Et (strong : Val) (a b : Rs) : Rs := if ((Ai a).2 != 0) || ((Ai a).1 == strong) then Ai a else if (((Ai b).2 != 0) || ((Ai b).1 == strong)) || ((Ai a).1.kind != 0) then Ai b else ((Ai a).1, 0)
def ifW : Str := [105, 102]
def R1 : Str := [110, 118, 108]
def B1 : Str := [105, 115, 110, 117, 108, 108]
def Cx (t : Str) (a b c : Rs) : Rs :=
 if t == ifW then (if (Ai a).2 != 0 then Bg (Ai a).2 else if (Ai a).1 == E0 true then b else c)
 else if a.2 != 0 then Bg a.2 else if t == B1 then (E0 (a.1.kind == 0), 0) else if a.1.kind != 0 then (a.1, 0) else b
def Np (strict : List Val → Rs) (l : List Rs) : Rs := match l.find? (fun q => q.2 != 0) with | some q => Bg q.2 | none => if l.any (fun q => q.1.kind == 0) then (noV, 0) else strict (l.map (·.1))
def Hn (c : List Col) (l : List Val) (t : Str) : Rs := if B2 t c < 0 then Bg 9 else (l.getD (B2 t c).toNat noV, 0)
def orW : Str := [111, 114]
def jc : Str := [97, 110, 100]
/-- A node, of what its kids come to; what a strict node comes to is a parameter. -/
def Ho (strict : Int → Str → List Val → Rs) (c : List Col) (l : List Val) (o : Int) (t : Str) (v : Val) (ks : List Rs) : Rs :=
 if o == 1 then (v, 0) else if o == 2 then Hn c l t
 else if (o == 5) && (t == orW) then Et (E0 true) (ks.getD 0 (noV, 0)) (ks.getD 1 (noV, 0))
 else if (o == 5) && (t == jc) then Et (E0 false) (ks.getD 0 (noV, 0)) (ks.getD 1 (noV, 0))
 else if (o == 6) && (((t == ifW) || (t == R1)) || (t == B1)) then Cx t (ks.getD 0 (noV, 0)) (ks.getD 1 (noV, 0)) (ks.getD 2 (noV, 0))
 else Np (strict o t) ks
mutual
def Fg (strict : Int → Str → List Val → Rs) (c : List Col) (l : List Val) : Expr → Rs
 | .mk o t v k => Ho strict c l o t v (Ig strict c l k)
def Ig (strict : Int → Str → List Val → Rs) (c : List Col) (l : List Val) : List Expr → List Rs
  | [] => []
  | e :: r => Fg strict c l e :: Ig strict c l r
 end
theorem Pq (f : Int → Str → List Val → Rs) (c : List Col) (l : List Val) : ∀ k, Ig f c l k = k.map (Fg f c l)
 | [] => rfl
 | e :: r => by rw [Ig, Pq f c l r]; rfl
theorem T8 (f : Int → Str → List Val → Rs) (c : List Col) (l : List Val) (e : Expr) : Fg f c l e = Ho f c l e.op e.text e.val (e.kids.map (Fg f c l)) := by cases e; rw [Fg, Pq]; rfl
def G9 (c : List Col) (l : List Val) : Bool := (Fd c && (l.length == c.length)) && (l.zip c).all fun p => Bu p.1 && ((p.1.kind == 0) || (p.1.kind == p.2.kind))
/-- eval.Eval. -/
def rd (f : Int → Str → List Val → Rs) (x : Expr) (c : List Col) (l : List Val) : Rs := if (!(Bb x)) || !(G9 c l) then Bg 1 else Fg f c l x
/-! A tree in a column's place comes to what its value would there. -/
mutual
theorem eval_put {f : Int → Str → List Val → Rs} {c : List Col} {l m : List Val} {s : Str} {y : Expr} (hs : Hn c m s = Fg f c l y) (ho : ∀ t, t ≠ s → Hn c m t = Hn c l t) : ∀ x : Expr, Fg f c l (mo s y x) = Fg f c m x
 | .mk o t v k => by
  rw [mo]
  split
  ·rename_i h
   rw [Bool.and_eq_true, beq_iff_eq, beq_iff_eq] at h
   obtain ⟨rfl, rfl⟩ := h
   rw [← hs, Fg]
   rfl
  rename_i h
  rw [Fg, Fg, Pr hs ho k]
  unfold Ho
  by_cases h2 : (o == 2) = true
  ·have : t ≠ s := fun e => h (by rw [h2, e]; simp)
   rw [ho t this]
  rw [if_neg h2, if_neg h2]
theorem Pr {f : Int → Str → List Val → Rs} {c : List Col} {l m : List Val} {s : Str} {y : Expr} (hs : Hn c m s = Fg f c l y) (ho : ∀ t, t ≠ s → Hn c m t = Hn c l t) : ∀ k : List Expr, Ig f c l (ip s y k) = Ig f c m k
  | [] => rfl
  | e :: r => by rw [ip, Ig, Ig, eval_put hs ho e, Pr hs ho r]
 end
/-! Who is not named plays no part. -/
/-! What a strict node comes to. -/
def Iv (a b : Int) : Int × Int :=
 let p := L3 a * L3 b
 let below := decide (a < 0) != decide (b < 0)
 if decide (0 < p / 18446744073709551616) || decide ((if below then 9223372036854775808 else 9223372036854775807) < p % 18446744073709551616) then (0, 4)
 else if below then (IntKind.i64.wrap (IntKind.u64.wrap (0 - p % 18446744073709551616)), 0) else (IntKind.i64.wrap (p % 18446744073709551616), 0)
def Ea (a b : Int) : Int × Int := if b == 0 then (0, 5) else if (a == -9223372036854775808) && (b == -1) then (0, 4) else (IntKind.i64.wrap (a.tdiv b), 0)
def Jr (a b : Int) : Int × Int := if b == 0 then (0, 5) else if b == -1 then (0, 0) else (IntKind.i64.wrap (a.tmod b), 0)
def Al (t : Str) (a b : Int) : Int × Int := if t == [43] then No a b else if t == [45] then Hm a b else if t == [42] then Iv a b else if t == [47] then Ea a b else Jr a b
def A5 (t : Str) (c : Int) : Bool × Bool := if t == [61] then (c == 0, true) else if t == [33, 61] then (c != 0, true) else if t == [60] then (decide (c < 0), true) else if t == [60, 61] then (decide (c ≤ 0), true) else if t == [62] then (decide (0 < c), true) else if t == [62, 61] then (decide (0 ≤ c), true) else (false, false)
def Gw (a b : Int) : Int := if decide (a < b) then -1 else if decide (b < a) then 1 else 0
def orI : List Int → Int
 | [] => 0
 | a :: r => if a != 0 then a else orI r
def Yt (a b : Val) : Int := if (!(Bu a)) || !(Bu b) then 0 else orI [Gw a.kind b.kind, Gw a.n b.n, Lib.compareBytes a.s b.s]
def Iw (t : Str) (a b : Val) : Rs := if (A5 t (Yt a b)).2 then (if a.kind != b.kind then Bg 10 else (E0 (A5 t (Yt a b)).1, 0)) else if t == [38] then Jq a b else if !Cm [a, b] [1, 1] then Bg 10 else E9 (Al t a.n b.n)
def Gt (t : Str) (v : Val) : Rs := if (t == [115, 116, 114]) && (v.kind == 1) then (Oq (Lib.itoa v.n), 0) else if (t == [108, 101, 110]) && (v.kind == 2) then (⟨1, v.s.length, []⟩, 0) else if (t == [110, 117, 109]) && (v.kind == 2) then E9 (Br v.s) else Bg 10
def Hq (t : Str) (s : Str) (n : Int) : Val := if t == [108, 101, 102, 116] then Oq (s.take (max 0 (min n s.length)).toNat) else Oq (s.drop (s.length - (max 0 (min n s.length)).toNat))
def B7 (o : Int) (t : Str) (l : List Val) : Rs :=
 if o == 5 then Iw t (l.getD 0 noV) (l.getD 1 noV) else if (o == 3) && Cm l [1] then E9 (Hm 0 (l.getD 0 noV).n) else if (o == 4) && Cm l [3] then (E0 ((l.getD 0 noV).n == 0), 0)
 else if o != 6 then Bg 10 else if (l.length : Int) == 1 then Gt t (l.getD 0 noV) else if !Cm l [2, 1] then Bg 10 else (Hq t (l.getD 0 noV).s (l.getD 1 noV).n, 0)
abbrev Bk (c : List Col) (l : List Val) (e : Expr) : Rs := Fg B7 c l e
abbrev Fh (x : Expr) (c : List Col) (l : List Val) : Rs := rd B7 x c l
/-! Values are plain, and their numbers have 64 bits. -/
structure Fine (v : Val) : Prop where
 plain : Bu v = true
 lo : -9223372036854775808 ≤ v.n
 hi : v.n ≤ 9223372036854775807
theorem I6 : Fine noV := ⟨rfl, by decide, by decide⟩
theorem Kk (b : Bool) : Fine (E0 b) := by cases b <;> exact ⟨rfl, by decide, by decide⟩
theorem T9 {n : Int} (h0 : -9223372036854775808 ≤ n) (h1 : n ≤ 9223372036854775807) : Fine ⟨1, n, []⟩ := ⟨rfl, h0, h1⟩
theorem Nq (s : Str) : Fine (Oq s) := ⟨by
 unfold Bu Oq
 simp only [show ((2 : Int) == 0) = false from rfl, show ((2 : Int) == 1) = false from rfl, show ((2 : Int) == 2) = true from rfl, Bool.false_eq_true, if_false, if_true, show ((0 : Int) == 0) = true from rfl, Bool.true_and, decide_eq_true_eq, List.length_take]
 omega, by show -9223372036854775808 ≤ (0 : Int); decide, by show (0 : Int) ≤ 9223372036854775807; decide⟩
theorem Fine.len {v : Val} (h : Fine v) : v.s.length ≤ 200 := by
 have h := h.plain
 unfold Bu at h
 split at h
 ·simp only [Bool.and_eq_true, beq_iff_eq] at h; rw [h.2]; exact Nat.zero_le _
 split at h
 ·rw [beq_iff_eq] at h; rw [h]; exact Nat.zero_le _
 split at h
 ·simp only [Bool.and_eq_true, decide_eq_true_eq] at h; omega
 simp only [Bool.and_eq_true, beq_iff_eq] at h; rw [h.1.1.2]; exact Nat.zero_le _
theorem Ix {x : Int × Int} (h0 : x.2 = 0 → -9223372036854775808 ≤ x.1) (h1 : x.2 = 0 → x.1 ≤ 9223372036854775807) : Fine (E9 x).1 := by
 unfold E9
 split
 ·exact I6
 rename_i h
 have h : x.2 = 0 := by simpa using h
 exact T9 (h0 h) (h1 h)
theorem Nr (e : Int) : Fine (Bg e).1 := I6
theorem Gl (n : Int) : -9223372036854775808 ≤ IntKind.i64.wrap n ∧ IntKind.i64.wrap n ≤ 9223372036854775807 := by rw [IntKind.wrap_i64]; omega
theorem cz (a b : Int) : Fine (E9 (Hm a b)).1 := by
 refine Ix (fun _ => ?_) (fun _ => ?_) <;> unfold Hm <;> split
 ·show -9223372036854775808 ≤ (0 : Int); decide
 ·exact (Gl _).1
 ·show (0 : Int) ≤ 9223372036854775807; decide
 exact (Gl _).2
theorem Ta (t : Str) (a b : Int) : -9223372036854775808 ≤ (Al t a b).1 ∧ (Al t a b).1 ≤ 9223372036854775807 := by
 have z : -9223372036854775808 ≤ (0 : Int) ∧ (0 : Int) ≤ 9223372036854775807 := by decide
 unfold Al
 split
 ·unfold No; split; exact z; exact Gl _
 split
 ·unfold Hm; split; exact z; exact Gl _
 split
 ·unfold Iv
  simp only
  repeat' split
  all_goals first | exact z | exact Gl _
 split
 ·unfold Ea; split; exact z; split; exact z; exact Gl _
 unfold Jr; split; exact z; split; exact z; exact Gl _
theorem d8 {t : Str} {a b : Val} : Fine (Iw t a b).1 := by
 unfold Iw
 split
 ·split
  ·exact Og
  exact Kk _
 split
 ·unfold Jq
  split
  ·exact Og
  split
  ·exact Og
  exact Nq _
 split
 ·exact Og
 exact Ix (fun _ => (Ta _ _ _).1) (fun _ => (Ta _ _ _).2)
theorem d9 (s : Str) : -9223372036854775808 ≤ (Br s).1 ∧ (Br s).1 ≤ 9223372036854775807 := by
 unfold Br
 split
 ·decide
 split
 ·rename_i v h
  have := Lib.parseIntB_bounds h
  simp only [show ((2 ^ (64 - 1) : Nat) : Int) = 9223372036854775808 by decide] at this
  show -9223372036854775808 ≤ v ∧ v ≤ 9223372036854775807
  omega
 ·decide
 decide
theorem da {t : Str} {v : Val} (h : Fine v) : Fine (Gt t v).1 := by
 unfold Gt
 split
 ·exact Nq _
 split
 ·have := h.len
  exact T9 (by omega) (by omega)
 split
 ·exact Ix (fun _ => (d9 _).1) (fun _ => (d9 _).2)
 exact Og
theorem Tb {o : Int} {t : Str} {l : List Val} (h : ∀ v ∈ l, Fine v) : Fine (B7 o t l).1 := by
 have h0 : Fine (l.getD 0 noV) := by cases l with | nil => exact I6 | cons a r => exact h a List.mem_cons_self
 unfold B7
 split
 ·exact d8
 split
 ·exact cz _ _
 split
 ·exact Kk _
 split
 ·exact Og
 split
 ·exact da h0
 split
 ·exact Og
 unfold Hq
 split <;> exact Nq _
theorem Iy {r : Rs} (h : Fine r.1) : Fine (Ai r).1 := by
 unfold Ai
 split
 ·exact Og
 exact h
theorem Ns {s : Val} {a b : Rs} (ha : Fine a.1) (hb : Fine b.1) : Fine (Et s a b).1 := by
 unfold Et
 split
 ·exact Iy ha
 split
 ·exact Iy hb
 exact Iy ha
theorem Yu {t : Str} {a b c : Rs} (ha : Fine a.1) (hb : Fine b.1) (hc : Fine c.1) : Fine (Cx t a b c).1 := by
 unfold Cx
 repeat' split
 all_goals first | exact Nr _ | exact hb | exact hc | exact ha | exact Kk _
theorem db {f : List Val → Rs} {l : List Rs} (hf : ∀ k : List Val, (∀ v ∈ k, Fine v) → Fine (f k).1) (h : ∀ r ∈ l, Fine r.1) : Fine (Np f l).1 := by
 unfold Np
 split
 ·exact Og
 split
 ·exact I6
 refine hf _ fun v hv => ?_
 obtain ⟨r, hr, rfl⟩ := List.mem_map.1 hv
 exact h r hr
theorem Yv {c : List Col} {l : List Val} (h : ∀ v ∈ l, Fine v) (t : Str) : Fine (Hn c l t).1 := by
 unfold Hn
 split
 ·exact Og
 show Fine (l.getD _ noV)
 rw [List.getD_eq_getElem?_getD]
 cases hg : l[(B2 t c).toNat]? with
 | none => exact I6
 | some v => exact h v (List.mem_of_getElem? hg)
def Js (e : Expr) : Bool := !(e.op == 1) || Bu e.val
theorem Eb {k : List Rs} (h : ∀ r ∈ k, Fine r.1) (i : Nat) : Fine (k.getD i (noV, 0)).1 := by
 rw [List.getD_eq_getElem?_getD]
 cases hg : k[i]? with
 | none => exact I6
 | some r => exact h r (List.mem_of_getElem? hg)
mutual
theorem Ps {c : List Col} {l : List Val} (h : ∀ v ∈ l, Fine v) : ∀ e : Expr, Cf Js e = true → Cf F1 e = true → Fine (Bk c l e).1
 | .mk o t v k, h1, h2 => by
  rw [Cf, Bool.and_eq_true] at h1 h2
  have hk := Nt (c := c) h k h1.2 h2.2
  rw [Bk, Fg]
  unfold Ho
  split
  ·rename_i ho
   have p := h1.1
   unfold Js at p
   rw [show (Expr.mk o t v k).op = o from rfl, ho] at p
   have q := h2.1
   unfold F1 at q
   simp only [Bool.and_eq_true, decide_eq_true_eq] at q
   exact ⟨by show Bu (Expr.mk o t v k).val = true; simpa using p, q.1, q.2⟩
  split
  ·exact Yv h t
  split
  ·exact Ns (Eb hk 0) (Eb hk 1)
  split
  ·exact Ns (Eb hk 0) (Eb hk 1)
  split
  ·exact Yu (Eb hk 0) (Eb hk 1) (Eb hk 2)
  exact db (fun _ hl => Tb hl) hk
theorem Nt {c : List Col} {l : List Val} (h : ∀ v ∈ l, Fine v) : ∀ k : List Expr, Hi Js k = true → Hi F1 k = true → ∀ r ∈ Ig B7 c l k, Fine r.1
  | [], _, _ => fun r hr => by cases hr
  | e :: k, h1, h2 => by
    rw [Hi, Bool.and_eq_true] at h1 h2
    intro r hr
    rw [Ig] at hr
    rcases List.mem_cons.1 hr with rfl | hr
    · exact Ps h e h1.1 h2.1
    exact Nt h k h1.2 h2.2 r hr
 end
/-! A text between marks. -/
set_option maxRecDepth 4000
theorem dc {a b : List Expr} (hl : a.length = b.length) (h : ∀ (j : Nat) (y z : Expr), j < a.length → a[j]? = some y → b[j]? = some z → eqE y z = true) : eqL a b = true := by
 rw [Jl]
 refine Oo hl fun j y hj hy => ?_
 have hjb : j < b.length := by omega
 have := h j y b[j] hj hy (List.getElem?_eq_getElem hjb)
 rw [List.getElem?_eq_getElem hjb, (Qy _ _).1 this]
theorem mv {a b : List Expr} (h : eqL a b = true) {j : Nat} (hj : j < a.length) (hb : j < b.length) : eqE a[j] b[j] = true := by
 have e := (Jl _ _).1 h
 subst e
 exact co _
theorem mw {a b : List Expr} {j : Nat} (hj : j < a.length) (hb : j < b.length) (h : eqE a[j] b[j] = false) : eqL a b = false := by
 rw [Bool.eq_false_iff]
 intro h2
 rw [mv h2 hj hb] at h
 cases h
theorem jd {a b : List Expr} (h : a.length ≠ b.length) : eqL a b = false := by
 rw [Bool.eq_false_iff]
 exact fun h2 => h (iq h2)
theorem re {a b : List Expr} {x : Nat} (hx : x < a.length) (hb : x < b.length) (h : ∀ (j : Nat) (y z : Expr), j < x → a[j]? = some y → b[j]? = some z → eqE y z = true) (he : eqE a[x] b[x] = true) : ∀ (j : Nat) (y z : Expr), j < x + 1 → a[j]? = some y → b[j]? = some z → eqE y z = true := by
 intro j y z hj h1 h2
 rcases Nat.lt_or_ge j x with h3 | h3
 ·exact h j y z h3 h1 h2
 have : j = x := by omega
 subst this
 rw [List.getElem?_eq_getElem hx] at h1
 rw [List.getElem?_eq_getElem hb] at h2
 injection h1 with h1
 injection h2 with h2
 rw [← h1, ← h2]
 exact he
theorem c95 (n : Nat) (a b : List Expr) (ha : a.length ≤ 1048576) (hok : ∀ y ∈ a, okE n y) (ih : ∀ (x : Expr), okE n x → ∀ (y : Expr) (Hp : List AObj), AFun Tryz.prog 66 [Ab x, Ab y] Hp (Ak (eqE x y))) (Hp : List AObj) : AFun Tryz.prog 95 [.slice false 6 (a.map Ab), .slice false 6 (b.map Ab), .fn (.func 66) [] []] Hp (Ak (eqL a b)) := by
 refine ACall.body [.tmp 6] [0, 1, 2] Tryz.func95 Tryz.ntmps95 (fun d => ?_)
 refine Z3 ?_;refine R.fin [0, 1, 2] ?_;refine Of ?_;refine R.len jU ?_;refine R.neq ?_;refine R.fin [0, 1, 2, 14] ?_
 refine W.cond (fun ht14 => ?_) (fun ht14 => ?_)
 ·have hf : eqL a b = false := jd (by have := ht14; simp at this; omega)
  refine Rt ?_;refine Z11 ?_;exact K.fin (V.one V.tmp) ⟨by rw [hf], rfl⟩
 have hlen : a.length = b.length := by have := ht14; simp at this; omega
 refine Z5 ?_;refine Of ?_;refine R.fin [1, 2, 15, 16, 17] ?_
 refine AW.loopC (α := Nat) (fun i => ⟨32, A6 1 (.slice false 6 (b.map Ab)) (A6 2 (.fn (.func 66) [] []) (A6 15 (.slice false 6 (a.map Ab)) (A6 16 (A4 (a.length : Nat)) (A6 17 (A4 (i : Nat)) (fun _ => .any))))), Hp, [], [], none⟩) (fun i => i ≤ a.length ∧ ∀ (j : Nat) (y z : Expr), j < i → a[j]? = some y → b[j]? = some z → eqE y z = true) (fun i => a.length - i) (0) ⟨Nat.zero_le _, fun j y z h => by omega⟩ (StLe.of_eq (by simp)) rfl (fun i hi => ?_)
 refine Z89 ?_;refine R.fin [1, 2, 15, 16, 17, 18] ?_
 refine W.condX (fun ht18 => ?_) (fun ht18 => ?_)
 ·have hlt : i < a.length := by simpa using ht18
  have hlb : i < b.length := by omega
  refine Gg ?_;refine R.indexAddr (i) (Ab a[i]) jU jS (Be hlt) ?_;refine Dn ?_;refine av ?_;refine R.fin [1, 2, 7, 8, 15, 16, 17] ?_;refine Z29 ?_;refine R.indexAddr (i) (Ab b[i]) jU jS (Be hlb) ?_;refine Dn ?_;refine Z16 ?_;refine R.fin [1, 2, 8, 9, 15, 16, 17] ?_;refine Z0 ?_;refine Mj ?_;refine Mj ?_;refine R.callV Tryz.call66 (ih a[i] (hok _ (List.getElem_mem hlt)) b[i] _) ?_;refine R.not ?_;refine R.fin [1, 2, 15, 16, 17, 30] ?_
  refine W.cond (fun ht30 => ?_) (fun ht30 => ?_)
  ·have hf : eqL a b = false := mw hlt hlb (by simpa using ht30)
   refine Rt ?_;refine Z59 ?_;refine K.lpR ?_;refine K.thR ?_;exact K.fin (V.one V.tmp) ⟨by rw [hf], rfl⟩
  have he : eqE a[i] b[i] = true := by simpa using ht30
  refine Mi ?_;refine R.fin [1, 2, 15, 16, 17] ?_;refine K.lpN (i + 1) ⟨hlt, re hlt hlb hi.2 he⟩ (by omega) ?_
  exact StCut.take (own := []) (fun _ => .refl _) (by repeat (first | exact B6 | refine B5 (by first | exact Cb | (simp; done)) ?_)) (by simp) (by simp)
 have hxe : a.length ≤ i := by simpa using ht18
 refine Z55 ?_;refine Rt ?_;refine AW.ret ?_;exact K.fin (V.one V.tmp) ⟨by rw [dc hlen (fun j y z hj => hi.2 j y z (by omega))], rfl⟩

theorem c66 : ∀ (n : Nat) (x : Expr), okE n x → ∀ (y : Expr) (Hp : List AObj), AFun Tryz.prog 66 [Ab x, Ab y] Hp (Ak (eqE x y)) := by
 intro n
 induction n with
 | zero => exact fun x h => h.elim
 | succ n ih =>
 intro x hok y Hp
 refine ACall.body [.tmp 4] [0, 1] Tryz.func66 Tryz.ntmps66 (fun d => ?_)
 refine Li ?_;refine Z40 ?_;refine Mb ?_;refine Z15 ?_;refine Mf ?_;refine Z28 ?_;refine Ql ?_;refine U2 ?_;refine gz ?_;refine G.loadRoN jA jS ?_;refine gz ?_;refine G.loadRoN jA jS ?_;refine G.eqlAgg S1 (fun w => Fl x.val.kind x.val.n y.val.kind y.val.n x.val.s y.val.s w) ?_;refine U2 ?_;refine Z50 ?_;refine Z50 ?_;refine G.call Tryz.call95 (fun hB => c95 n x.kids y.kids hok.2.1 hok.2.2 ih _) ?_;refine Z32 ?_;refine Z41 ?_;exact K.fin (V.one V.tmp) ⟨by rw [mp], rfl⟩

theorem R2 (o : Int) (t : Str) (v : Val) (k : List Expr) : Ab (.mk o t v k) = .agg [A4 o, .v (sv t), A4 v.kind, A4 v.n, .v (sv v.s), .slice false 6 (k.map Ab)] := by rw [Af]; rfl
theorem dd {α β : Type} {f : α → β} {l : List α} {x : Nat} (h : x < l.length) : (l.take (x + 1)).map f = (l.take x).map f ++ [f l[x]] := by rw [List.take_succ_eq_append_getElem h, List.map_append]; rfl
set_option maxRecDepth 8000
/-! Who decides decides: the law's sources, columns and truths. -/
/-! Rows. -/
theorem row_iff {c : List Col} {l : List Val} : G9 c l = true ↔ bo c = true ∧ l.length = c.length ∧ ∀ (i : Nat) (v : Val) (y : Col), l[i]? = some v → c[i]? = some y → Bu v = true ∧ (v.kind = 0 ∨ v.kind = y.kind) := by
 unfold G9
 rw [Bool.and_eq_true, Bool.and_eq_true, W4, beq_iff_eq, List.all_eq_true, and_assoc]
 refine and_congr_right fun _ => and_congr_right fun hl => ⟨fun h i v y hv hy => ?_, fun h p hp => ?_⟩
 ·have := h (v, y) (List.mem_of_getElem? (i := i) (by rw [List.getElem?_zip_eq_some]; exact ⟨hv, hy⟩))
  simpa using this
 obtain ⟨i, hi⟩ := List.getElem?_of_mem hp
 rw [List.getElem?_zip_eq_some] at hi
 have := h i p.1 p.2 hi.1 hi.2
 simpa using this
/-! Rows that differ in what is not named. -/
/-! Who has a kind comes to it. -/
theorem Iz {t : Str} {n : Nat} (h : Av t = (n : Int)) : (t = [108, 101, 110] ∧ n = 1) ∨ (t = [115, 116, 114] ∧ n = 1) ∨ (t = [110, 117, 109] ∧ n = 1) ∨ (t = B1 ∧ n = 1) ∨ (t = R1 ∧ n = 2) ∨ (t = [108, 101, 102, 116] ∧ n = 2) ∨ (t = [114, 105, 103, 104, 116] ∧ n = 2) ∨ (t = ifW ∧ n = 3) := by
 by_cases hm : t ∈ arityList.map (·.1)
 ·have ha : ∀ s ∈ arityList.map (·.1), (s = [108, 101, 110] ∧ Av s = 1) ∨ (s = [115, 116, 114] ∧ Av s = 1) ∨ (s = [110, 117, 109] ∧ Av s = 1) ∨ (s = B1 ∧ Av s = 1) ∨ (s = R1 ∧ Av s = 2) ∨ (s = [108, 101, 102, 116] ∧ Av s = 2) ∨ (s = [114, 105, 103, 104, 116] ∧ Av s = 2) ∨ (s = ifW ∧ Av s = 3) := by
   have : ((arityList.map (·.1)).all fun s => decide ((s = [108, 101, 110] ∧ Av s = 1) ∨ (s = [115, 116, 114] ∧ Av s = 1) ∨ (s = [110, 117, 109] ∧ Av s = 1) ∨ (s = B1 ∧ Av s = 1) ∨ (s = R1 ∧ Av s = 2) ∨ (s = [108, 101, 102, 116] ∧ Av s = 2) ∨ (s = [114, 105, 103, 104, 116] ∧ Av s = 2) ∨ (s = ifW ∧ Av s = 3))) = true := by kernel_rfl
   exact fun s hs => of_decide_eq_true (List.all_eq_true.1 this s hs)
  have := ha t hm
  rw [h] at this
  rcases this with ⟨e, h2⟩ | ⟨e, h2⟩ | ⟨e, h2⟩ | ⟨e, h2⟩ | ⟨e, h2⟩ | ⟨e, h2⟩ | ⟨e, h2⟩ | ⟨e, h2⟩
  ·exact .inl ⟨e, by omega⟩
  ·exact .inr (.inl ⟨e, by omega⟩)
  ·exact .inr (.inr (.inl ⟨e, by omega⟩))
  ·exact .inr (.inr (.inr (.inl ⟨e, by omega⟩)))
  ·exact .inr (.inr (.inr (.inr (.inl ⟨e, by omega⟩))))
  ·exact .inr (.inr (.inr (.inr (.inr (.inl ⟨e, by omega⟩)))))
  ·exact .inr (.inr (.inr (.inr (.inr (.inr (.inl ⟨e, by omega⟩))))))
  exact .inr (.inr (.inr (.inr (.inr (.inr (.inr ⟨e, by omega⟩))))))
 have h1 : Av t = -1 := by
  unfold Av
  rw [List.find?_eq_none.2 fun p hp => by
   simp only [beq_iff_eq]
   rintro rfl
   exact hm (List.mem_map.2 ⟨p, hp, rfl⟩)]
 omega
theorem R3 {k : List Expr} (h : k.length = 2) : ∃ a b, k = [a, b] := by match k, h with | [a, b], _ => exact ⟨a, b, rfl⟩
/-! The print of a tree, and its words. -/
def Gx (least : Nat) (x : Expr) (s : Str) : Str := if least ≤ levE x then s else 40 :: (s ++ [41])
def Dp : List Str → Str
 | [] => []
 | s :: r => 44 :: 32 :: (s ++ Dp r)
def Jt (o : Int) (t : Str) (v : Val) (k : List Expr) (ss : List Str) : Str :=
 if o == 1 then D6 v else if o == 2 then t
 else if o == 3 then 45 :: Gx 6 (k.getD 0 Ah) (ss.getD 0 [])
 else if o == 4 then Yo ++ 32 :: Gx 2 (k.getD 0 Ah) (ss.getD 0 [])
 else if o == 5 then Gx (Dw (Ar t).toNat) (k.getD 0 Ah) (ss.getD 0 []) ++ 32 :: (t ++ 32 :: Gx ((Ar t).toNat + 1) (k.getD 1 Ah) (ss.getD 1 []))
 else t ++ 40 :: ((Dp ss).drop 2 ++ [41])
mutual
def Ag : Expr → Str
 | .mk o t v k => Jt o t v k (Hr k)
def Hr : List Expr → List Str
  | [] => []
  | e :: r => Ag e :: Hr r
 end
theorem J0 : ∀ l, Hr l = l.map Ag
 | [] => rfl
 | e :: r => by rw [Hr, J0 r]; rfl
theorem mx (v : Val) : Ag (Fu v) = D6 v := by simp [Fu, Ag, Jt]
theorem je (t : Str) : Ag (D7 t) = t := by simp [D7, Ag, Jt]
theorem my (a : Expr) : Ag (Di 3 a) = 45 :: Gx 6 a (Ag a) := by simp [Di, Ag, Hr, Jt]
theorem rf (a : Expr) : Ag (Di 4 a) = Yo ++ 32 :: Gx 2 a (Ag a) := by simp [Di, Ag, Hr, Jt]
theorem mz (t : Str) (a b : Expr) : Ag (Es t a b) = Gx (Dw (Ar t).toNat) a (Ag a) ++ 32 :: (t ++ 32 :: Gx ((Ar t).toNat + 1) b (Ag b)) := by simp [Es, Ag, Hr, Jt]
theorem jf (t : Str) (k : List Expr) : Ag (.mk 6 t noV k) = t ++ 40 :: ((Dp (Hr k)).drop 2 ++ [41]) := by simp [Ag, Jt]
/-! What was parsed nests no deeper than may be. -/
/-! What nests too deep is told to be too deep. -/
def F2 (l : List Tok) (x : Expr) : Prop := ∀ (k : Nat) (S : PS) (rest : List TK), (k = 0 ∨ k = 1 ∨ k = 4 ∨ k = 5) → k ≤ levE x → S.code = 0 → S.nest ≤ 30 → 30 < S.nest + Wf x → seg l S.i = Nk x ++ rest → cu (k + 1) rest → (Cv l (ofL k) (pf l (fam l S.nest) (k + 1)) S).2.code = 18
/-! What was parsed is right, where the words are the lexer's. -/
/-! The lexer's words. -/
/-! The parse laws where nothing is too deep. -/
/-! The parser from a word on, and of a source. -/
/-! Other trees have other words, and other prints. -/
/-! The laws of printing. -/
/-- show.Print. -/
def Gu (x : Expr) : Str × Int := if !(Bb x) then ([], 1) else if decide ((4000 : Int) < ((Ag x).length : Int)) then ([], 3) else (Ag x, 0)
theorem Wl {x : Expr} (h : Bx x = true) : (Gu x = ([], 3) ∧ 4000 < (Ag x).length) ∨ (Gu x = (Ag x, 0) ∧ (Ag x).length ≤ 4000) := by
 unfold Gu
 rw [F0, h]
 simp only [Bool.not_true, Bool.false_eq_true, if_false]
 split
 ·rename_i h2; exact .inl ⟨rfl, by simp at h2; omega⟩
 rename_i h2; exact .inr ⟨rfl, by simp at h2; omega⟩
theorem J1 {x : Expr} (h : Bx x = true) : Cf C8 x = true := by
 unfold Bx at h
 rw [Bool.and_eq_true] at h
 exact h.2
set_option maxRecDepth 4000
abbrev xo (own : Bool) (t : Str) (ks : List Expr) : AObj := .cells 27 [A4 6, A8 t, A4 0, A4 0, A8 [], .slice own 6 (ks.map Ab)]
theorem n4 {n : Nat} {own : Bool} {t : Str} {ks : List Expr} : ObjLow n (xo own t ks) := by
 show ∀ z ∈ [A4 6, A8 t, A4 0, A4 0, A8 [], AV.slice own 6 (ks.map Ab)], Low n z
 intro z hz
 simp only [List.mem_cons, List.not_mem_nil, or_false] at hz
 rcases hz with rfl | rfl | rfl | rfl | rfl | rfl
 all_goals first | exact Cb | simp
theorem jg : C4 (.agg #[.int .i64 0, .string ⟨#[]⟩, .int .i64 0, .int .i64 0, .string ⟨#[]⟩, .slice none 0 0]) = .agg [A4 0, A8 [], A4 0, A4 0, A8 [], .nil] := rfl
attribute [go_sem] jg
theorem gA {Hp : List AObj} {o ox : Nat} {z A B : AObj} (ho : Hp[o]? = some z) (hne : ox ≠ o) : ((Hp.set o A).set ox B)[o]? = some A := by rw [List.getElem?_set_ne hne]; exact Ad ho
theorem gB {Hp : List AObj} {o ox : Nat} {z A B : AObj} (hox : Hp[ox]? = some z) : ((Hp.set o A).set ox B)[ox]? = some B := by
 have := (List.getElem?_eq_some_iff.1 hox).1
 simp [this]
theorem n5 {Hp : List AObj} {o ox : Nat} {A A' B : AObj} (hne : ox ≠ o) : ((Hp.set o A).set ox B).set o A' = (Hp.set o A').set ox B := by rw [List.set_comm _ _ hne, List.set_set]
theorem J2 (ks : List Expr) (x : Expr) : ks.map Ab ++ [.agg [.v (.int .i64 x.op), .v (sv x.text), .v (.int .i64 x.val.kind), .v (.int .i64 x.val.n), .v (sv x.val.s), .slice false 6 (x.kids.map Ab)]] = (ks ++ [x]).map Ab := by rw [List.map_append, List.map_cons, List.map_nil, Af x]
theorem ua (l : List Tok) (S : PS) (t : Str) (Dv : Fam) (o ox : Nat) (Hp : List AObj) (hne : ox ≠ o) (ho : Hp[o]? = some (pr l S)) (hox : Hp[ox]? = some (xo true t [])) (hi : S.i < l.length) (hl : TokEnd l) (hll : l.length ≤ 1048576) (hf : Ca l S.nest Dv.ei) (hcf : PC 108 l Dv.ei S.nest) : ACall Tryz.prog 263 [.ptr ox 0, .ro [.ptr o 0]] Hp (fun r H' => r = Ab (.mk 6 t noV (E2 l Dv.ei S).1) ∧ H' = (Hp.set o (pr l (E2 l Dv.ei S).2)).set ox (xo true t (E2 l Dv.ei S).1)) := by
 have hoxl := (List.getElem?_eq_some_iff.1 hox).1
 have hol := (List.getElem?_eq_some_iff.1 ho).1
 refine ACall.body [.cell 2 27] [0, 1] Tryz.func263 Tryz.ntmps263 (fun d => ?_)
 refine Z30 ?_;refine R.fin [0, 1, 2] ?_
 refine W.drawT [0, 1, 0, 4, 3, 0, 63, 127, 255, 127, 639] [1, 3] [.q 1 [] [0], .s [4] (some 0) [] [], .q 1 [] [1], .s [6] (some 1) [] [], .q 2 [] []] (fun B => (Hp.set o (if B 1 = true then pr l (Dv.ei S).2 else pr l S)).set ox (if B 0 = true then xo false t [] else xo true t [])) (fun _ => [Fv]) Ae (by kernel_rfl) (by simp only [Bool.false_eq_true, if_false]; rw [B4 ho, B4 hox]) rfl (fun B => by simp) ?_
 apply Y.q
 case h1 =>
  intro B hT hF
  exact ow
 case hTF => decide
 refine Y.loadUpT (o := ox) (t' := 27) (cs := [A4 6, A8 t, A4 0, A4 0, A8 [], .slice true 6 ([].map Ab)]) (cs' := [A4 6, A8 t, A4 0, A4 0, A8 [], .slice false 6 ([].map Ab)]) Tryz.isAgg25 (fun B hB => ⟨by simp only [hB]; exact gB hox, by simp [upd, List.set_set] <;> rfl, rfl⟩) ?_
 apply Y.q
 case h1 =>
  intro B hT hF
  refine Fs ?_;exact Jd
 case hTF => decide
 refine Y.callUp (r := Ab (Dv.ei S).1) (o := o) (x0 := pr l S) (x := pr l (Dv.ei S).2) Tryz.call108 (fun B hT hF hB => ⟨by simp only [hB]; exact gA ho hne, ?_, rfl, Bf, ?_⟩) ?_
 ·simp only [upd, hB, Nat.reduceEqDiff, if_false, if_true, Bool.false_eq_true]
  exact (n5 hne).symm
 ·simp only [hB]
  exact hcf o _ S (Ac (gA ho hne)) hi rfl
 apply Y.q
 case h1 =>
  intro B hT hF
  refine D.len jU ?_;exact Z94
 case hTF => decide
 refine Y.appendPut (tn := [1, 3]) (U := (Hp.set o (pr l (Dv.ei S).2)).set ox (xo false t [])) (O := [Fv]) (o := ox) (t' := 27) (cs := [A4 6, A8 t, A4 0, A4 0, A8 [], .slice false 6 ([].map Ab)]) (by kernel_rfl) jU Tryz.type27 Tryz.sizeOf27 Tryz.sizeOf25 jU (Ac (gB hox)) ?_ ?_ ?_ (hfsz := Tryz.sizeOf25)
 ·simp [Tryz.t27]
 ·simp [Tryz.t27]
 refine R.fieldAddrPtr (fo := 5) jU Tryz.sizeOf25 ?_
 refine R.storeUpT jS (gB hox) ?_ ?_
 ·first | (rw [J2]; exact Cb) | (have := Cb (n := ((Hp.set o (pr l (Dv.ei S).2)).set ox (xo false t [])).length) (k := 6) (o := true) (l := [(Dv.ei S).1]); simp only [List.map_cons, List.map_nil, Af] at this; exact this)
 refine R.fin [0, 1, 2] ?_;refine W.seq ?_
 refine AW.loopC (α := List Expr × PS) (fun r => ⟨34, A6 0 (.ptr ox 0) (A6 1 (.ro [.ptr o 0]) (A6 2 (.ptr (oid Hp.length 0) 0) (fun _ => .any))), (Hp.set o (pr l r.2)).set ox (xo true t r.1), [Fv], [], none⟩) (fun r => ArgsAt l Dv.ei S r) (fun r => l.length - r.2.i) (([(Dv.ei S).1], (Dv.ei S).2)) (.start (hf S hi rfl)) (StLe.of_eq (by simp [List.set_set, xo, Af])) rfl (fun r hx => ?_)
 refine Z27 ?_;refine Cq ?_;refine Qj ?_;refine R.loadUp jA (gA ho hne) ?_;refine Mf ?_;refine G.loadRo jA ?_;refine G.call Tryz.call170 (fun hB => T0 l r.2 Ng o _ (Ac (gA ho hne)) hx.fact.lt hl (by decide)) ?_;refine R.pickAnd ?_;refine R.fin [0, 1, 2, 21] ?_
 refine W.cond (fun ht21 => ?_) (fun ht21 => ?_)
 ·have hon := hx.on hl ht21 hf
  have hle := hon.2.1.le
  have hlt0 := hx.fact.lt
  refine Z5 ?_;refine Eq ?_;refine Qg ?_;refine R.callUp Tryz.call171 (gA ho hne) (by simp) Bf (c171 l r.2 o _ (Ac (gA ho hne)) hx.fact.lt hll) ?_;refine R.fin [0, 1, 2] ?_
  refine W.drawT0 [0, 1, 0, 4, 3, 0, 63, 127, 255, 127, 639] [1, 3] [.q 1 [] [0], .s [25] (some 0) [] [], .q 1 [] [1], .s [27] (some 1) [] [], .q 2 [] []] (fun B => (Hp.set o (if B 1 = true then pr l (Dv.ei (Aa r.2)).2 else pr l (Aa r.2))).set ox (if B 0 = true then xo false t r.1 else xo true t r.1)) (fun _ => [Fv]) Ae (by kernel_rfl) (by simp only [Bool.false_eq_true, if_false]; exact (n5 hne).symm) rfl (fun B => by simp) ?_
  apply Y.q
  case h1 =>
   intro B hT hF
   exact ow
  case hTF => decide
  refine Y.loadUpT (o := ox) (t' := 27) (cs := [A4 6, A8 t, A4 0, A4 0, A8 [], .slice true 6 (r.1.map Ab)]) (cs' := [A4 6, A8 t, A4 0, A4 0, A8 [], .slice false 6 (r.1.map Ab)]) Tryz.isAgg25 (fun B hB => ⟨by simp only [hB]; exact gB hox, by simp [upd, List.set_set] <;> rfl, rfl⟩) ?_
  apply Y.q
  case h1 =>
   intro B hT hF
   refine Fs ?_;exact Jd
  case hTF => decide
  refine Y.callUp (r := Ab (Dv.ei (Aa r.2)).1) (o := o) (x0 := pr l (Aa r.2)) (x := pr l (Dv.ei (Aa r.2)).2) Tryz.call108 (fun B hT hF hB => ⟨by simp only [hB]; exact gA ho hne, ?_, rfl, Bf, ?_⟩) ?_
  ·simp only [upd, hB, Nat.reduceEqDiff, if_false, if_true, Bool.false_eq_true]
   exact (n5 hne).symm
  ·simp only [hB]
   exact hcf o _ (Aa r.2) (Ac (gA ho hne)) hon.1 hx.fact.nest
  apply Y.q
  case h1 =>
   intro B hT hF
   refine D.len jU ?_;exact Z94
  case hTF => decide
  refine Y.appendPut (tn := [1, 3]) (U := (Hp.set o (pr l (Dv.ei (Aa r.2)).2)).set ox (xo false t r.1)) (O := [Fv]) (o := ox) (t' := 27) (cs := [A4 6, A8 t, A4 0, A4 0, A8 [], .slice false 6 (r.1.map Ab)]) (by kernel_rfl) jU Tryz.type27 Tryz.sizeOf27 Tryz.sizeOf25 jU (Ac (gB hox)) ?_ ?_ ?_ (hfsz := Tryz.sizeOf25)
  ·have := hx.fact.len; have := hx.fact.lt; simp only [List.length_map, Tryz.t27]; omega
  ·have := hx.fact.len; have := hx.fact.lt; simp only [List.length_map, Tryz.t27]; omega
  refine R.fieldAddrPtr (fo := 5) jU Tryz.sizeOf25 ?_
  refine R.storeUpT jS (gB hox) ?_ ?_
  ·first | (rw [J2]; exact Cb) | (have := Cb (n := ((Hp.set o (pr l (Dv.ei S).2)).set ox (xo false t [])).length) (k := 6) (o := true) (l := [(Dv.ei S).1]); simp only [List.map_cons, List.map_nil, Af] at this; exact this)
  refine R.fin [0, 1, 2] ?_;refine K.blN ?_
  refine K.lpN (r.1 ++ [(Dv.ei (Aa r.2)).1], (Dv.ei (Aa r.2)).2) hon.2.2 (by show l.length - (Dv.ei (Aa r.2)).2.i < l.length - r.2.i; have : r.2.i + 1 ≤ (Dv.ei (Aa r.2)).2.i := hle; omega) (StCut.of_eq ?_)
  simp only [show Tryz.t27.size = 6 from rfl, J2, List.set_set]
 have hout := hx.out (by rw [ht21]; simp)
 refine Oe ?_;refine Ba ?_;refine R.loadUpN jA jS (gB hox) ?_;refine Z6 ?_;exact K.fin (V.one (V.cellN jA jS)) ⟨by rw [hout, R2]; rfl, by rw [hout]⟩ (hlow := by have := Aj Hp.length (.mk 6 t noV r.1); rw [R2] at this; simpa using this)

/-- within, with the function that gathers a call's kids. -/
theorem rg (l : List Tok) (S : PS) (a : Int) (t : Str) (Dv : Fam) (o : Nat) (Hp : List AObj) (A0 A1 : AObj) (l0 : ObjLow 0 A0) (ho : Hp[o]? = some (pr l S)) (hi : S.i < l.length) (hl : TokEnd l) (hll : l.length ≤ 1048576) (hnl : S.nest ≤ 30) (hd : DeepC l Dv S.nest) :
  ACall Tryz.prog 201 [.ptr o 0, A4 a, .fn (.func 263) [] [.ptr (oid Hp.length 2) 0, .ro [.ptr o 0]]] (Hp ++ [A0, A1, xo true t []]) (fun r H' => r = Ab (if S.nest = 30 then Ah else .mk 6 t noV (L2 l a Dv.ei S).1) ∧ H' = Hp.set o (pr l (L2 l a Dv.ei S).2) ++ [A0, A1, xo true t (L2 l a Dv.ei S).1]) := by
 have hlt := (List.getElem?_eq_some_iff.1 ho).1
 have ho' : (Hp ++ [A0, A1, xo true t []])[o]? = some (pr l S) := Ac ho
 by_cases h30 : S.nest = 30
 ·refine (j5 l S a 263 [] [.ptr (oid Hp.length 2) 0, .ro [.ptr o 0]] Ah (Bm S) o (Hp ++ [A0, A1, xo true t []]) ((Hp ++ [A0, A1, xo true t []]).set o (pr l (Bm S))) ho' (by omega) Tryz.call263 (by simp) (Ad ho') rfl (fun h => h) (fun h => absurd h30 h)).mono fun r H' h => ?_
  have e : L2 l a Dv.ei S = ([], C6 18 a S) := if_pos (by rw [h30]; rfl)
  rw [e, if_pos h30]
  obtain ⟨h1, h2⟩ := h.1 h30
  exact ⟨h1, by rw [h2, List.set_append_left _ _ hlt]⟩
 have hq := Ni (S := Bm S) hl hi (hd.ei h30).1
 refine (j5 l S a 263 [] [.ptr (oid Hp.length 2) 0, .ro [.ptr o 0]] (.mk 6 t noV (E2 l Dv.ei (Bm S)).1) (E2 l Dv.ei (Bm S)).2 o (Hp ++ [A0, A1, xo true t []]) (Hp.set o (pr l (E2 l Dv.ei (Bm S)).2) ++ [A0, A1, xo true t (E2 l Dv.ei (Bm S)).1]) ho' (by omega) Tryz.call263 (by simp) (Ac (Ad ho)) hq.nest (fun h y hy => ?_) (fun _ own => ?_)).mono fun r H' h => ?_
 ·rw [List.set_append_left _ _ hlt] at h
  rcases List.mem_append.1 hy with hy | hy
  ·rcases List.mem_or_eq_of_mem_set hy with h1 | h1
   ·obtain ⟨i, hi', rfl⟩ := List.getElem_of_mem h1
    by_cases hio : i = o
    ·subst hio
     have : Hp[i] = pr l S := by rw [List.getElem?_eq_getElem hi'] at ho; injection ho
     rw [this]; exact Bf
    refine h _ (List.mem_append_left _ ?_)
    rw [List.mem_iff_getElem?]
    exact ⟨i, by rw [List.getElem?_set_ne (Ne.symm hio), List.getElem?_eq_getElem hi']⟩
   rw [h1]; exact Bf
  simp only [List.mem_cons, List.not_mem_nil, or_false] at hy
  rcases hy with rfl | rfl | rfl
  ·exact h _ (List.mem_append_right _ (by simp))
  ·exact h _ (List.mem_append_right _ (by simp))
  exact n4
 ·have hoid : oid Hp.length 2 ≠ o := by unfold oid; omega
  have e1 : (Hp ++ [A0, A1, xo true t []]).set o (pr l (Bm S)) ++ own = (Hp.set o (pr l (Bm S)) ++ [A0, A1, xo true t []]) ++ own := by rw [List.set_append_left _ _ hlt]
  rw [e1]
  have g1 : ((Hp.set o (pr l (Bm S)) ++ [A0, A1, xo true t []]) ++ own)[o]? = some (pr l (Bm S)) := Ac (Ac (Ad ho))
  have g2 : ((Hp.set o (pr l (Bm S)) ++ [A0, A1, xo true t []]) ++ own)[oid Hp.length 2]? = some (xo true t []) := Ac (by
   have := Am (U := Hp.set o (pr l (Bm S))) (O := [A0, A1, xo true t []]) (n := 2)
   rw [List.length_set] at this
   exact this)
  refine (ua l (Bm S) t Dv o (oid Hp.length 2) _ hoid g1 g2 hi hl hll (hd.ei h30).1 (hd.ei h30).2).mono fun r H' h => ⟨h.1, h.2.trans ?_⟩
  rw [List.append_assoc, List.set_append_left _ _ (by simpa using hlt), List.set_set]
  have := Ck (U := Hp.set o (pr l (E2 l Dv.ei (Bm S)).2)) (O := [A0, A1, xo true t []] ++ own) (n := 2) (x := xo true t (E2 l Dv.ei (Bm S)).1)
  rw [List.length_set] at this
  rw [this]
  simp
 have e : L2 l a Dv.ei S = ((E2 l Dv.ei (Bm S)).1, Ph (E2 l Dv.ei (Bm S)).2) := if_neg (by
  show ¬ (((S.nest : Int) == 30) = true)
  simp
  omega)
 rw [e, if_neg h30]
 obtain ⟨h1, h2⟩ := h.2 h30
 exact ⟨h1, by rw [h2, List.set_append_left _ _ (by simpa using hlt), List.set_set]⟩
theorem ub (l : List Tok) (S : PS) (Dv : Fam) (t : Tok) (o : Nat) (Hp : List AObj) (ho : Hp[o]? = some (pr l S)) (hi : (Aa S).i < l.length) (hl : TokEnd l) (hll : l.length ≤ 1048576) (hnl : S.nest ≤ 30) (hd : DeepC l Dv S.nest) : ACall Tryz.prog 260 [.ptr o 0, Er t] Hp (fun r H' => r = Ab (E3 l Dv t S).1 ∧ H' = Hp.set o (pr l (E3 l Dv t S).2)) := by
 have hi0 : S.i < l.length := by have : S.i + 1 < l.length := hi; omega
 have hol := (List.getElem?_eq_some_iff.1 ho).1
 have hkf : KFact l (Aa S) (By l Dv S) := Nj hl _ hi (fun h => (hd.ei h).1)
 refine ACall.body [.cell 4 27] [0, 1] Tryz.func260 Tryz.ntmps260 (fun d => ?_)
 refine Li ?_;refine R.alloc jZ ?_;refine R.fin [2, 3, 4] ?_;refine Rw ?_;refine R.call Tryz.call129 (qr t.text _) ?_;refine Au ?_;refine R.fin [2, 3, 4, 5] ?_;refine Ub ?_;refine R.fin [2, 3, 4, 5, 12] ?_
 refine W.cond (fun ht12 => ?_) (fun ht12 => ?_)
 ·have hlt0 : Av t.text < 0 := by simpa using ht12
  have e : E3 l Dv t S = (Ah, C6 9 t.at_ S) := if_pos hlt0
  refine Qg ?_;refine fp ?_;refine R.callUp Tryz.call110 ho (by simp) Bf (Yp l S 9 t.at_ o _ (Ac ho)) ?_;refine Do ?_;refine Z90 ?_;exact q8
 have hge : ¬ Av t.text < 0 := by simpa using ht12
 refine Z5 ?_;refine Qg ?_;refine R.callUp Tryz.call171 ho (by simp) Bf (c171 l S o _ (Ac ho) hi0 hll) ?_;refine Z16 ?_;refine R.fin [2, 3, 4, 5, 6] ?_;refine Rw ?_;refine Ry ?_;refine Z16 ?_;refine R.fin [2, 3, 4, 5, 6, 7] ?_;refine Ba ?_;refine R.nilCell 2 5 6 ?_;refine Cq ?_;refine Z92 ?_;refine R.makeFunc ?_
 refine R.callX (up' := (Hp.set o (pr l (Aa S))).set o (pr l (By l Dv S).2)) (own' := [Fv, .cells 82 [A4 (A9 l S.i).kind, A8 (A9 l S.i).text, A4 (A9 l S.i).at_], xo true t.text (By l Dv S).1]) Tryz.call201 (by have := rg l (Aa S) (A9 l S.i).at_ t.text Dv o (Hp.set o (pr l (Aa S))) Fv (.cells 82 [A4 (A9 l S.i).kind, A8 (A9 l S.i).text, A4 (A9 l S.i).at_]) Wh (Ad ho) hi hl hll hnl hd; rw [List.length_set] at this; exact this) (by simp) (fun h => j7 h Bf) ?_
 refine R.fin [2, 3, 4, 5, 7] ?_;refine Qg ?_;refine R.callUp Tryz.call261 (Ad (Ad ho)) (by simp) Bf (rc l (By l Dv S).2 Cr o _ (Ac (Ad (Ad ho))) hkf.lt hll) ?_;refine R.fin [2, 3, 4, 5, 7] ?_;refine Z27 ?_;refine Cq ?_;refine Qj ?_;refine R.loadUp jA (Ad (Ad (Ad ho))) ?_;refine Mf ?_;refine G.fieldAddrPtr (fo := 5) jU Tryz.sizeOf25 ?_;refine G.loadOwn jA ?_;refine G.len jU ?_;refine G.move ?_;refine G.neq ?_;refine R.pickAnd ?_;refine R.fin [2, 3, 4, 7, 41] ?_
 refine W.cond (fun ht41 => ?_) (fun ht41 => ?_)
 ·have e : E3 l Dv t S = (Ah, C6 8 t.at_ (Ct l Cr (By l Dv S).2)) := by
   unfold E3
   rw [if_neg hge, if_pos (by have := ht41; simp only [List.length_map] at this; exact this)]
  refine Qg ?_;refine fp ?_;refine R.callUp Tryz.call110 (Ad (Ad (Ad ho))) (by simp) Bf (Yp l (Ct l Cr (By l Dv S).2) 8 t.at_ o _ (Ac (Ad (Ad (Ad ho))))) ?_;refine Do ?_;refine Z90 ?_;exact K.fin (V.one (V.cellN jA jS)) ⟨by rw [e, Af], by rw [e, List.set_set, List.set_set, List.set_set]⟩ (hlow := low_agg _)
 have e : E3 l Dv t S = (.mk 6 t.text noV (By l Dv S).1, (Ct l Cr (By l Dv S).2)) := by
  unfold E3
  rw [if_neg hge, if_neg (by have := ht41; simp only [List.length_map] at this; rw [Bool.eq_false_iff] at this; exact this)]
 refine Ui ?_;refine Do ?_;refine Z41 ?_;exact K.fin (V.one (V.cellN jA jS)) ⟨by rw [e, R2]; rfl, by rw [e, List.set_set, List.set_set]⟩ (hlow := by have := Aj Hp.length (.mk 6 t.text noV (By l Dv S).1); rw [R2] at this; simpa using this)

theorem Yw {l : List Tok} (hl : TokEnd l) (hll : l.length ≤ 1048576) (n : Nat) (Dv : Fam) (hn : n ≤ 30) (hd : DeepC l Dv n) : T3 l Dv n := fun o Hp S t ho hi hS _ _ => by
 subst hS
 exact ub l S Dv t o Hp ho hi hl hll hn hd
/-! Queries: what query.Parse, Print, Right, Same answer. -/
structure Qry where
 all : Bool
 cols : List Str
 whr : Expr
 lim : Int
/-- A parser: where it is, and the first fault. -/
structure QS where
 i : Nat
 code : Int
 at_ : Int
def E4 (l : List Tok) (e : Int) (S : QS) : QS := if S.code == 0 then ⟨S.i, e, ((A9 l S.i).at_ : Int)⟩ else S
def isQ (l : List Tok) (s : Str) (S : QS) : Bool := ((S.code == 0) && (((A9 l S.i).kind == 5) || ((A9 l S.i).kind == 2))) && ((A9 l S.i).text == s)
def C7 (S : QS) : QS := ⟨S.i + 1, S.code, S.at_⟩
def Tc (l : List Tok) (s : Str) (S : QS) : QS := if isQ l s S then C7 S else S
def Ju (l : List Tok) (s : Str) (S : QS) : QS := if isQ l s S then C7 S else E4 l 8 S
def De (l : List Tok) (r : Qry × QS) : Qry × QS :=
 if r.2.code != 0 then r else if (A9 l r.2.i).kind != 1 then (r.1, E4 l 8 r.2) else if (r.1.cols.length : Int) == 12 then (r.1, E4 l 3 r.2)
 else (⟨r.1.all, r.1.cols ++ [(A9 l r.2.i).text], r.1.whr, r.1.lim⟩, C7 r.2)
def Fi (l : List Tok) : Nat → Qry × QS → Qry × QS
 | 0, r => r
 | n + 1, r => if isQ l [44] r.2 then Fi l n (De l (r.1, C7 r.2)) else r
def Fw (b : Bool) (q : Qry) : Qry := ⟨b, q.cols, q.whr, q.lim⟩
def Gm (l : List Tok) (r : Qry × QS) : Qry × QS := if isQ l [42] r.2 then (Fw true r.1, C7 r.2) else Fi l l.length (De l (Fw false r.1, r.2))
def Fx : Str := [119, 104, 101, 114, 101]
def Fj : Str := [108, 105, 109, 105, 116]
def Jv : Str := [115, 101, 108, 101, 99, 116]
def Eu (l : List Tok) (r : Qry × QS) : Qry × QS :=
 if isQ l Fx r.2 then
  if (atM l (r.2.i + 1)).2.2.1 != 0 then (r.1, ⟨r.2.i + 1, (atM l (r.2.i + 1)).2.2.1, (atM l (r.2.i + 1)).2.2.2⟩)
  else (⟨r.1.all, r.1.cols, (atM l (r.2.i + 1)).1, r.1.lim⟩, ⟨(atM l (r.2.i + 1)).2.1.toNat, r.2.code, r.2.at_⟩)
 else r
/-- The number that strconv.Atoi hands back. -/
def L4 (s : Str) : Int := match Lib.atoiAll s with | .ok v => v | .range => Lib.atoiSat s | _ => 0
def Dx (l : List Tok) (r : Qry × QS) : Qry × QS :=
 if isQ l Fj r.2 then
  if (A9 l (r.2.i + 1)).kind != 3 then (r.1, E4 l 8 (C7 r.2))
  else if decide ((100000 : Int) < L4 (A9 l (r.2.i + 1)).text) then (r.1, E4 l 3 (C7 r.2))
  else (⟨r.1.all, r.1.cols, r.1.whr, L4 (A9 l (r.2.i + 1)).text⟩, C7 (C7 r.2))
 else r
def Td : Qry := ⟨false, [], Ah, 0⟩
def rh (l : List Tok) (S : QS) : QS := if (A9 l S.i).kind != 0 then E4 l 8 S else S
def Wm (l : List Tok) : Qry × QS :=
 let r := Dx l (Eu l (Gm l (⟨false, [], Ah, -1⟩, Ju l Jv ⟨0, 0, 0⟩)))
 (r.1, rh l (Ju l [59] r.2))
def Wn (l : List Tok) : Qry × Int × Int := if (Wm l).2.code != 0 then (Td, (Wm l).2.code, (Wm l).2.at_) else ((Wm l).1, 0, 0)
def Fy (s : Str) : Qry × Int × Int := if (Ap s).2.1 != 0 then (Td, (Ap s).2.1, ((Ap s).2.2 : Int)) else Wn (Ap s).1
def Ih (q : Qry) : Bool := !(eqE q.whr Ah)
def Cj (q : Qry) : Bool :=
 if (((q.all != ((q.cols.length : Int) == 0)) || decide ((12 : Int) < (q.cols.length : Int))) || decide (q.lim < -1)) || decide ((100000 : Int) < q.lim) then false
 else (q.cols.all Dg) && (!(Ih q) || Bx q.whr)
def Kl : List Str → Str
 | [] => []
 | a :: r => [44, 32] ++ a ++ Kl r
def Pt (c : List Str) : Str := (Kl c).drop 2
def n6 : Str := Jv ++ [32]
def n7 : Str := [32] ++ Fx ++ [32]
def n8 : Str := [32] ++ Fj ++ [32]
def J3 (q : Qry) : Str :=
 n6 ++ (if q.all then [42] else Pt q.cols) ++ (if Ih q then n7 ++ Ag q.whr else []) ++ (if q.lim != -1 then n8 ++ Lib.itoa q.lim else []) ++ [59]
/-! The words of what is printed. -/
/-! What query.Check, query.Run answer. -/
def Wo (e : Expr) (c : List Col) (w : Int) : Bool := ((Gs e c).2 == 0) && (((Gs e c).1 == w) || ((Gs e c).1 == 0))
def Bz (q : Qry) (c : List Col) : Int :=
 if !Cj q || !Fd c then 1 else if q.cols.any (fun s => decide (B2 s c < 0)) then 9 else if !Ih q then 0
 else if (Gs q.whr c).2 != 0 then (Gs q.whr c).2 else if !Wo q.whr c 3 then 10 else 0
def Pu (r : Rs) : Int := if (((r.2 == 0) && (r.1.kind != 0)) && (r.1.kind != 3)) = true then 10 else r.2
def Wp (r : Rs) : Bool := (Pu r == 0) && (((r.1.kind == 3) && (r.1.n == 1)) && (r.1.s == []))
def Aw (q : Qry) (c : List Col) (l : List Val) : Bool × Int := if !G9 c l then (false, 1) else if !Ih q then (true, 0) else (Wp (Fh q.whr c l), Pu (Fh q.whr c l))
def Ex (q : Qry) (c : List Col) (x : Row) : Row := ⟨x.key, if q.all then x.l else q.cols.map fun s => x.l.getD (B2 s c).toNat noV⟩
def Ec (q : Qry) (c : List Col) : List Row → List Row → List Row × Int
 | [], o => (o, 0)
 | x :: r, o => if (Aw q c x.l).2 != 0 then ([], (Aw q c x.l).2) else if (Aw q c x.l).1 then
   (if ((o.length + 1 : Nat) : Int) == q.lim then (o ++ [Ex q c x], 0) else Ec q c r (o ++ [Ex q c x])) else Ec q c r o
def C3 (q : Qry) (c : List Col) (rows : List Row) : List Row × Int := if (Bz q c != 0) || (q.lim == 0) then ([], Bz q c) else Ec q c rows []
/-! A limit cuts the answer. -/
/-! Some of all. -/
def Ch (q : Qry) : Qry := ⟨true, [], q.whr, q.lim⟩
inductive Picked (q : Qry) (c : List Col) : List Row → List Row → Prop
 | nil : Picked q c [] []
 | snoc {a b : List Row} {x : Row} : Picked q c a b → G9 c x.l = true → Picked q c (a ++ [Ex q c x]) (b ++ [x])
theorem Picked.len {q : Qry} {c : List Col} {a b : List Row} (h : Picked q c a b) : a.length = b.length := by
 induction h with
 | nil => rfl
 | snoc _ _ ih => simp [ih]
theorem Picked.at {q : Qry} {c : List Col} {a b : List Row} (h : Picked q c a b) : ∀ (i : Nat) (y x : Row), a[i]? = some y → b[i]? = some x → G9 c x.l = true ∧ y = Ex q c x := by
 induction h with
 | nil => intro i y x h; simp at h
 | snoc hp hr ih =>
  rename_i a b z
  intro i y x h1 h2
  by_cases hi : i < a.length
  ·rw [List.getElem?_append_left hi] at h1
   rw [List.getElem?_append_left (hp.len ▸ hi)] at h2
   exact ih i y x h1 h2
  rw [List.getElem?_append_right (by omega)] at h1
  rw [List.getElem?_append_right (by have := hp.len; omega), ← hp.len] at h2
  cases hk : i - a.length with
  | zero =>
   rw [hk] at h1 h2
   simp at h1 h2
   subst h1 h2
   exact ⟨hr, rfl⟩
  | succ k => rw [hk] at h1; simp at h1
theorem Pv {q : Qry} {c : List Col} {l : List Val} (h : ((Aw q c l).2 != 0) = false) : G9 c l = true := by
 cases hr : G9 c l with
 | true => rfl
 | false => simp [Aw, hr] at h
theorem Fp {q : Qry} {c : List Col} : ∀ (r a b : List Row), Picked q c a b → (Ec q c r a).2 = (Ec (Ch q) c r b).2 ∧ Picked q c (Ec q c r a).1 (Ec (Ch q) c r b).1
 | [], a, b, h => ⟨rfl, h⟩
 | x :: r, a, b, h => by
  have eh : ∀ l, Aw (Ch q) c l = Aw q c l := fun _ => rfl
  have ep : Ex (Ch q) c x = x := rfl
  unfold Ec
  rw [eh, ep, ← h.len]
  cases h1 : ((Aw q c x.l).2 != 0) with
  | true => exact ⟨rfl, .nil⟩
  | false =>
   simp only [Bool.false_eq_true, ↓reduceIte]
   have hs := Picked.snoc h (Pv h1)
   cases h2 : (Aw q c x.l).1 with
   | true =>
    simp only [↓reduceIte]
    by_cases h3 : (((a.length + 1 : Nat) : Int) == q.lim) = true
    ·rw [if_pos h3, if_pos (show (((a.length + 1 : Nat) : Int) == (Ch q).lim) = true from h3)]
     exact ⟨rfl, hs⟩
    rw [if_neg h3, if_neg (show ¬ (((a.length + 1 : Nat) : Int) == (Ch q).lim) = true from h3)]
    exact Fp r _ _ hs
   | false => exact Fp r a b h
theorem de {q : Qry} {c : List Col} {r : List Row} (h : (C3 q c r).2 ≠ 0) : (C3 q c r).1 = [] := by
 have hf : ∀ (r o : List Row), (Ec q c r o).2 ≠ 0 → (Ec q c r o).1 = [] := by
  intro r
  induction r with
  | nil => intro o h; exact absurd rfl h
  | cons x r ih =>
   intro o h
   unfold Ec at h ⊢
   split
   ·rfl
   rename_i h1
   rw [if_neg h1] at h
   split
   ·rename_i h2
    rw [if_pos h2] at h
    split
    ·rename_i h3
     rw [if_pos h3] at h
     exact absurd rfl h
    rename_i h3
    rw [if_neg h3] at h
    exact ih _ h
   rename_i h2
   rw [if_neg h2] at h
   exact ih _ h
 unfold C3 at h ⊢
 split
 ·rfl
 rename_i h1
 rw [if_neg h1] at h
 exact hf _ _ h
theorem ri {q : Qry} {c : List Col} {r : List Row} (h1 : (C3 q c r).2 ≠ 1) (h9 : (C3 q c r).2 ≠ 9) :
  (C3 q c r).2 = (C3 (Ch q) c r).2 ∧ Picked q c (C3 q c r).1 (C3 (Ch q) c r).1 ∧ ((C3 q c r).1 ≠ [] → Cj q = true ∧ Fd c = true ∧ ∀ s ∈ q.cols, ¬ B2 s c < 0) := by
 have hr : (!Cj q || !Fd c) = false := by
  cases h : (!Cj q || !Fd c) with
  | false => rfl
  | true => exact absurd (by simp only [C3, Bz, h, ↓reduceIte]; rfl) h1
 have hn : (q.cols.any fun s => decide (B2 s c < 0)) = false := by
  cases h : (q.cols.any fun s => decide (B2 s c < 0)) with
  | false => rfl
  | true => exact absurd (by simp only [C3, Bz, hr, h, ↓reduceIte, Bool.false_eq_true]; rfl) h9
 have hr' : Cj q = true ∧ Fd c = true := by simpa using hr
 have hra : Cj (Ch q) = true := by
  have h := hr'.1
  unfold Cj at h ⊢
  split at h
  ·cases h
  rename_i hh
  simp only [Bool.or_eq_true, not_or] at hh
  rw [if_neg (by
   simp only [Bool.or_eq_true, not_or]
   exact ⟨⟨⟨by simp [Ch], by simp [Ch]⟩, hh.1.2⟩, hh.2⟩)]
  rw [Bool.and_eq_true] at h
  rw [Bool.and_eq_true]
  exact ⟨rfl, h.2⟩
 have hc : Bz (Ch q) c = Bz q c := by
  unfold Bz
  rw [hr, hn, hra, hr'.2]
  rfl
 unfold C3
 rw [hc]
 by_cases h : ((Bz q c != 0) || (q.lim == 0)) = true
 ·rw [if_pos h, if_pos (show ((Bz q c != 0) || ((Ch q).lim == 0)) = true from h)]
  exact ⟨rfl, .nil, fun h => absurd rfl h⟩
 rw [if_neg h, if_neg (show ¬ ((Bz q c != 0) || ((Ch q).lim == 0)) = true from h)]
 refine ⟨(Fp r [] [] .nil).1, (Fp r [] [] .nil).2, fun _ => ⟨hr'.1, hr'.2, fun s hs => ?_⟩⟩
 have := List.any_eq_false.1 hn s hs
 simpa using this
end Go.SX.Nb
namespace Go.SX
variable [GI : GlobInv]
open Classical
section
variable {P : Program} {d : Nat} {st : St} {ty : TypeId} {pos : String} {aft : Array Edge} {gd : Option (Nat × Bool)}
/-- A variable of its own, not laid yet. -/
theorem AOp.allocP {t : TypeId} {z : Value} {k s : Nat} (hz : ∀ w, (zeroValue t).run P w = .ok z w) (hk : z.cells.size = k) (hs : s < st.sz) :
  AOp P d ⟨some s, .alloc t, ty, pos, aft, gd⟩ st (· = st.set s (.cellp k)) := by
 subst hk
 intro G a w h Q'
 let G' : Gh := { G with tag := fun b o => if b = w.heap.size ∧ o < z.cells.size then .tail (.slot d s) else G.tag b o }
 have hfree : ∀ o, G.tag w.heap.size o = .free := fun o => Cd h.tags _ o (Nat.le_refl _)
 have hne : ∀ b o, G.tag b o ≠ .free → ¬ (b = w.heap.size ∧ o < z.cells.size) := fun b o hb hc => by rw [hc.1] at hb; exact hb (hfree o)
 have hkeep : ∀ b o, G.tag b o ≠ .free → G'.tag b o = G.tag b o := fun b o hb => by simp only [G']; rw [if_neg (hne b o hb)]
 have hcell : ∀ b o, G.tag b o ≠ .free → (w.alloc (.cells z.cells t)).cell? ⟨b, o, none⟩ = w.cell? ⟨b, o, none⟩ := fun b o hb => by
  refine World.cell?_alloc_old _ _ _ ?_
  show b ≠ w.heap.size
  rintro rfl
  exact hb (hfree o)
 have T : Turn G w G' (w.alloc (.cells z.cells t)) := by
  refine ⟨fun b o hb => ⟨by rw [hkeep b o (by rw [hb]; simp)]; exact hb, hcell b o (by rw [hb]; simp)⟩, fun b o L hb => by rw [hkeep b o (by rw [hb]; simp)]; exact hb, fun b o i hb => by rw [hkeep b o (by rw [hb]; simp)]; exact hb, Nat.le_refl _, fun o ho => rfl, rfl, rfl, rfl, by simp, Still.alloc _ (fun b o hb => .inl (by simp only [G']; rw [if_neg (by omega)])) (fun i hi => .inl ⟨hi, rfl⟩)⟩
 have h1 : StRel d G' st a (w.alloc (.cells z.cells t)) := by
  refine h.turn (U := st.up) (O := st.own) T ⟨fun i x hx => T.objRel ?_ ?_ (h.heap.obj i x hx) (fun b hb => ?_), h.heap.n, h.heap.inj⟩ rfl h.defsAt ⟨fun b o hb => ?_, fun b o i hb => ?_, fun b o L hb => ?_, h.tags.globKeep T.old⟩ h.low
  ·rw [h.heap.n]; exact (List.getElem?_eq_some_iff.1 hx).1
  ·have := (h.heap.obj i x hx).blt
   show (w.heap.push _)[G.blk i]? = _
   rw [Array.getElem?_push, if_neg (by omega)]
  ·have := hb.lt
   show (w.heap.push _)[b]? = _
   rw [Array.getElem?_push, if_neg (by omega)]
  ·simp only [G'] at hb
   split at hb
   ·rename_i hc
    obtain ⟨rfl, hlt⟩ := hc
    exact ⟨z.cells[o], by rw [World.cell?_alloc_new]; exact Array.getElem?_eq_getElem hlt⟩
   rw [hcell b o hb]
   exact h.tags.ex b o hb
  ·simp only [G'] at hb
   split at hb
   ·cases hb
   rw [World.frozen?_alloc_old]
   ·exact h.tags.obj b o i hb
   show b ≠ w.heap.size
   rintro rfl
   rw [hfree] at hb; cases hb
  simp only [G'] at hb
  split at hb
  ·rename_i hc
   obtain ⟨rfl, hlt⟩ := hc
   exact World.frozen?_alloc_new _ _ _ _
  rw [World.frozen?_alloc_old]
  ·exact h.tags.tail b o L hb
  show b ≠ w.heap.size
  rintro rfl
  rw [hfree] at hb; cases hb
 have hrun : (execOp a.eval (⟨some s, .alloc t, ty, pos, aft, gd⟩ : Oper)).run P w = .ok (.value (.pointer (some ⟨w.heap.size, 0, none⟩))) (w.alloc (.cells z.cells t)) := by
  simp [execOp, Instr.alloc, hz, newVar, newRow]
 refine B9 (by intro c h; cases h) hrun ⟨G', _, h1.put (s := s) (y := .cellp z.cells.size) hs ?_, T.keep d, rfl, rfl, rfl, rfl⟩
 exact .cellp _ _ _ ⟨_, rfl, fun o ho => by simp [G', ho]⟩

/-- It is laid: from now on nobody writes it. -/
theorem AOp.storeP {t : TypeId} {x : Operand} {r k : Nat} {y : AV} (hsz : ∀ w, (sizeOf t).run P w = .ok k w) (hf : st.fr r = .cellp k) (hx : st.ev x = y) (hk : y.cells.length = k) (hk0 : 0 < k) (h1 : y.cells.all AV.one = true) :
  AOp P d ⟨none, .store t (.tmp r) x, ty, pos, aft, gd⟩ st (· = st.set r (.ro y.cells)) := by
 intro G a w h Q'
 have hone : ∀ c ∈ y.cells, c.one = true := fun c hc => List.all_eq_true.1 h1 c hc
 obtain ⟨hc, hcc⟩ := (hx ▸ h.eval x).cells hone
 have hsl := h.slots r
 rw [hf] at hsl
 generalize hv : a.tmps.getD r undef = v at hsl
 cases hsl with
 | cellp l k b ho =>
  obtain ⟨L, hL, ht⟩ := ho
  injection hL with hL
  subst hL
  let us := (a.eval x).cells.toList
  have hul : us.length = k := by simp only [us, Array.length_toList]; omega
  have huone : ∀ u ∈ us, u.oneCell' = true := fun u hu => by
   obtain ⟨j, hj⟩ := List.getElem?_of_mem hu
   have hj' : (a.eval x).cells[j]? = some u := by rw [← Array.getElem?_toList]; exact hj
   have hlt : j < y.cells.length := by rw [← hc]; exact (Array.getElem?_eq_some_iff.1 hj').1
   exact (hcc j _ u (List.getElem?_eq_getElem hlt) hj').one (hone _ (List.getElem_mem hlt))
  have hrun0 := run_storeCells_cells (P := P) b 0 us 0 w (fun j hj => by
    obtain ⟨u, hu⟩ := h.tags.ex b j (by rw [ht j (by omega)]; simp)
    simp only [Nat.add_zero, Nat.zero_add]; rw [hu]; rfl) (fun j hj => by simpa using h.tags.tail _ _ _ (ht j (by omega))) huone
  simp only [Nat.add_zero] at hrun0
  let W := w.setCells b 0 us
  let G' : Gh := { G with tag := fun b' o => if b' = b ∧ o < k then .fix else G.tag b' o }
  have htag : ∀ b' o, G.tag b' o ≠ .tail (.slot d r) → G'.tag b' o = G.tag b' o := fun b' o hb => by
   simp only [G']
   rw [if_neg]
   rintro ⟨rfl, ho⟩
   exact hb (ht o ho)
  have hout : ∀ b' o, ¬ (b' = b ∧ o < k) → W.cell? ⟨b', o, none⟩ = w.cell? ⟨b', o, none⟩ := fun b' o hn =>
   World.cell?_setCells_out _ us 0 w ⟨b', o, none⟩ (fun hb _ => by
    simp only at hb ⊢
    exact .inr (Nat.le_of_not_lt fun h'' => hn ⟨hb, by omega⟩))
  have hcell : ∀ b' o, G.tag b' o ≠ .tail (.slot d r) → W.cell? ⟨b', o, none⟩ = w.cell? ⟨b', o, none⟩ := fun b' o hb => hout b' o (fun hn => hb (by rw [hn.1]; exact ht o hn.2))
  have hnb : ∀ i, i < G.n → G.blk i ≠ b := Gp h.heap h.tags (ht 0 hk0)
  have hheap : ∀ b', b' ≠ b → W.heap[b']? = w.heap[b']? := fun b' hb => Bo _ _ _ _ _ hb
  have hsize : W.heap.size = w.heap.size := Bn _ _ _ _
  have hstill : Still G w G' W := Still.tags (fun b' hb' => hheap b' (fun e => Eo (ht 0 hk0) (e ▸ hb'))) (Nat.le_of_eq hsize.symm) (fun b' o _ => by
   by_cases hc : b' = b ∧ o < k
   ·exact .inr ⟨_, by rw [hc.1]; exact ht o hc.2⟩
   exact .inl (by simp only [G']; rw [if_neg hc])) (fun i hi => .inl ⟨hi, rfl⟩)
  have hfix : ∀ b' o, G.tag b' o = .fix → G'.tag b' o = .fix ∧ W.cell? ⟨b', o, none⟩ = w.cell? ⟨b', o, none⟩ := fun b' o hb => ⟨by rw [htag b' o (by rw [hb]; simp)]; exact hb, hcell b' o (by rw [hb]; simp)⟩
  have htail : ∀ b' o L, L ≠ .slot d r → G.tag b' o = .tail L → G'.tag b' o = .tail L := fun b' o L hL hb => by
   rw [htag b' o (by rw [hb]; intro e; injection e with e; exact hL e)]; exact hb
  have hobj : ∀ b' o i, G.tag b' o = .obj i → G'.tag b' o = .obj i := fun b' o i hb => by rw [htag b' o (by rw [hb]; simp)]; exact hb
  have hrep : ∀ {l : Option Loc} {z : AV} {u : Value}, l ≠ some (.slot d r) → Rep G w l z u → Rep G' W l z u := fun hl hz =>
   hz.mono (G' := G') hfix (Nat.le_refl _) (fun _ _ => rfl) (fun L hL b' o ht' => htail b' o L (fun e => hl (by rw [hL, e])) ht')
  have hkeep : Keep d G w G' W := ⟨hfix, fun b' o e s he ht' => htail b' o _ (by rintro ⟨⟩; omega) ht', Nat.le_refl _, fun _ _ => rfl, Cy _ _ _ _, Ci _ _ _ _, C2 _ _ _ _, Nat.le_of_eq hsize.symm, hstill⟩
  have hvec : ∀ j u, us[j]? = some u → W.cell? ⟨b, j, none⟩ = some u := fun j u hu => by
   have hj := (List.getElem?_eq_some_iff.1 hu).1
   have hex : ∃ u', w.cell? ⟨b, j, none⟩ = some u' := h.tags.ex b j (by rw [ht j (by omega)]; simp)
   obtain ⟨u', hu'⟩ := hex
   have hbk : ∃ vs e fz, w.heap[b]? = some (.cells vs e fz) := by
    simp only [World.cell?] at hu'
    split at hu'
    ·rename_i vs e fz hb; exact ⟨vs, e, fz, hb⟩
    cases hu'
   obtain ⟨vs, e, fz, hbk⟩ := hbk
   have hlen : 0 + us.length ≤ vs.size := by
    rw [hul, Nat.zero_add]
    rcases Nat.lt_or_ge vs.size k with h' | h'
    ·exfalso
     obtain ⟨u2, hu2⟩ := h.tags.ex b vs.size (by rw [ht _ h']; simp)
     simp [World.cell?, hbk] at hu2
    exact h'
   obtain ⟨vs', b1, b2, b3⟩ := F9 b e fz us 0 w vs hbk hlen
   have b3' := b3 j
   rw [if_pos (by omega)] at b3'
   show (w.setCells b 0 us).cell? ⟨b, j, none⟩ = some u
   simp only [World.cell?, b1]
   rw [b3', Nat.sub_zero]
   exact hu
  have hst : StRel d G' (st.set r (.ro y.cells)) a W := by
   refine ⟨h.size, fun s => ?_, ⟨fun i z hz => ?_, h.heap.n, h.heap.inj⟩, h.defs, h.defsAt, h.defsNodup, h.defsGe, ⟨fun b' o hb => ?_, fun b' o i hb => ?_, fun b' o L hb => ?_, h.tags.globKeep hstill⟩, h.rnd, h.low⟩
   ·show Rep G' W _ (A6 r (.ro y.cells) st.fr s) _
    unfold A6
    by_cases hs : s = r
    ·subst hs
     rw [if_pos rfl, hv]
     refine .ro _ _ ⟨b, 0, none⟩ (fun j => (a.eval x).cells.getD j undef) rfl hone (fun j c hj => ?_) (fun j c hj => ?_)
     all_goals
      have hlt : j < y.cells.length := (List.getElem?_eq_some_iff.1 hj).1
      have hu : (a.eval x).cells[j]? = some ((a.eval x).cells[j]'(by omega)) := Array.getElem?_eq_getElem _
      have e1 : (a.eval x).cells.getD j undef = (a.eval x).cells[j]'(by omega) := by rw [Array.getD_eq_getD_getElem?, hu]; rfl
      rw [e1]
     ·refine ⟨by simp only [G', Nat.zero_add]; rw [if_pos ⟨trivial, by omega⟩], ?_⟩
      rw [Nat.zero_add]
      exact hvec j _ (by simp only [us]; rw [Array.getElem?_toList]; exact hu)
     exact hrep (by simp) (hcc j c _ hj hu)
    rw [if_neg hs]
    exact hrep (by simp; exact fun e => hs e) (h.slots s)
   ·have hob := h.heap.obj i z hz
    have hi : i < G.n := by rw [h.heap.n]; exact (List.getElem?_eq_some_iff.1 hz).1
    have hb := hheap (G.blk i) (hnb i hi)
    cases z with
    | cells t cs =>
     obtain ⟨vs, a1, a2, a3, a4⟩ := hob
     exact ⟨vs, hb.trans a1, a2, fun j y u p q => hrep (by simp) (a3 j y u p q), fun j hj => hobj _ _ _ (a4 j hj)⟩
    | loop sta pd fr sz ps asg bd df =>
     obtain ⟨fn, tmps, a1, a2, a3, a4⟩ := hob
     exact ⟨fn, tmps, hb.trans a1, a2, fun s => hrep (by simp) (a3 s), a4⟩
    | defs => exact hb.trans hob
    | dead => exact hb.trans hob
    | bld t e bs => exact BldRel.turn hob rfl (fun b' o ho => hobj b' o i ho) hb (fun b' ha => hheap b' (fun e => by
      have := ha.tag h.tags (o := 0) (by rw [e, ht 0 hk0]; simp)
      rw [e, ht 0 hk0] at this; cases this))
    | gone =>
     obtain ⟨vs, t, fz, a1, a2⟩ := hob
     exact ⟨vs, t, fz, hb.trans a1, fun j hj => (hfix _ _ (a2 j hj)).1⟩
   ·by_cases hc : b' = b ∧ o < k
    ·obtain ⟨rfl, ho⟩ := hc
     exact ⟨us[o]'(by omega), hvec o _ (List.getElem?_eq_getElem _)⟩
    rw [hout b' o hc]
    simp only [G', if_neg hc] at hb
    exact h.tags.ex b' o hb
   ·rw [World.frozen?_setCells]
    simp only [G'] at hb
    split at hb
    ·cases hb
    exact h.tags.obj b' o i hb
   rw [World.frozen?_setCells]
   simp only [G'] at hb
   split at hb
   ·cases hb
   exact h.tags.tail b' o L hb
  have hrun : (execOp a.eval (⟨none, .store t (.tmp r) x, ty, pos, aft, gd⟩ : Oper)).run P w = .ok .skip W :=
   D0 hsz (show a.eval (.tmp r) = _ from hv) (by omega) hrun0
  exact Co (by intro c h; cases h) hrun ⟨G', _, hst, hkeep, rfl, rfl, rfl, rfl⟩
end
section
variable {P : Program} {d : Nat} {sz : Nat} {dfs : List Nat} {rnd : Option Nat} {l0 : List Oper} {up own : (Nat → Bool) → List AObj} {E : List Oper → (Nat → AV) → Prop} {S : List SegY} {l : List Oper} {fr : Nat → AV} {ty : TypeId} {pos : String} {aft : Array Edge} {s : Nat} {T F : List Nat}
theorem Y.allocP {t : TypeId} {z : Value} {k : Nat} (hz : ∀ w, (zeroValue t).run P w = .ok z w) (h : ChainY P d l0 sz up own dfs rnd E S l (A6 s (.cellp k) fr)) (hk : z.cells.size = k := by rfl) (hs : Nat.blt s sz = true := by rfl) :
  ChainY P d l0 sz up own dfs rnd E (.s [s] none T F :: S) (⟨some s, .alloc t, ty, pos, aft, none⟩ :: l) fr := by
 refine ⟨_, l, [(s, .cellp k)], rfl, ⟨rfl, rfl, fun B f _ _ _ hf => ?_⟩, h⟩
 exact AOp.allocP (st := ⟨sz, f, up B, own B, dfs, rnd⟩) hz hk (by simpa using hs)
theorem Y.storeP {t : TypeId} {x : Operand} {r k : Nat} {y : AV} {ys : List AV} (hsz : ∀ w, (Go.sizeOf t).run P w = .ok k w) (h : ChainY P d l0 sz up own dfs rnd E S l (A6 r (.ro ys) fr))
  (hf : fr r = .cellp k := by exact sL0) (hx : A7 fr x = y := by exact sL0) (hc : y.cells = ys := by exact sL0)
  (hk : ys.length = k := by rfl) (hk0 : 0 < k := by decide) (h1 : ys.all AV.one = true := by exact sL4) :
  ChainY P d l0 sz up own dfs rnd E (.s [r] none T F :: S) (⟨none, .store t (.tmp r) x, ty, pos, aft, none⟩ :: l) fr := by
 subst hc
 refine ⟨_, l, [(r, .ro y.cells)], rfl, ⟨rfl, rfl, fun B f _ _ _ hfr => ?_⟩, h⟩
 have e : f r = fr r := hfr r (by simp [lk, Q6, Op.operands])
 have ex : A7 f x = y := by rw [agr hfr (by simp [Op.operands])]; exact hx
 exact AOp.storeP (st := ⟨sz, f, up B, own B, dfs, rnd⟩) hsz (e.trans hf) ex hk hk0 h1
end
end Go.SX
