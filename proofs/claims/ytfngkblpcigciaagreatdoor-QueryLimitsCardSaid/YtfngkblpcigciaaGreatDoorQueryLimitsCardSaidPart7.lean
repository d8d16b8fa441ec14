/- Texts on the way to this: QueryLimits answers true for whatever it is handed: with a limit the answer is the beginning of the one without; two pieces of the rows have the answers of both. (part 7) -/
import Derived.Lib.ParseIntBTie
import Derived.Lib.AtoiAllCases
import Derived.Lib.AtoiTie
import Derived.Test.YtfngkblpcigciaaGreatDoorQueryLimitsCardSaidPart6
set_option linter.all false
namespace Go.SX.Nb
open Go Go.SX Go.Proofs Go.RowKit Go.Sort
variable [ErrAt]
set_option maxRecDepth 4000
theorem c43 (l : List Str) (sep : Str) (hn : l.length ≤ 140737488355328) (hl : (Lib.join l sep).length ≤ 140737488355328) (Hp : List AObj) : AFun Tryz.prog 43 [Gm l, A8 sep] Hp (A8 (Lib.join l sep)) := by
 have e : Gm l = .slice false 1 ((l.map sv).map .v) := by rw [List.map_map]; rfl
 rw [e]
 refine AFun.libSl (xs := [sv sep]) (v := sv (Lib.join l sep)) (fun G w => .v _ _) (fun w u hg hs => ?_)
 rcases hs with ⟨rfl, he⟩ | ⟨ad, c, rfl, hc, hsp, hcell⟩
 ·have : l = [] := by simpa using he
  subst this
  refine (Any.strings_Join_none Tryz.lays156 W5 none 0 ⟨sep.toArray⟩ w).mono ?_
  rintro e w' ⟨rfl, rfl⟩
  exact S5
 rw [List.length_map] at hc
 match l, hn, hl, hc, hsp, hcell with
 | [], _, _, _, _, _ =>
  refine (Any.strings_Join_none Tryz.lays156 W5 (some ad) c ⟨sep.toArray⟩ w).mono ?_
  rintro e w' ⟨rfl, rfl⟩
  exact S5
 | [x], _, _, hc, hsp, hcell =>
  obtain ⟨bk, o, spot⟩ := ad
  have hs0 : spot = none := hsp (by simp)
  subst hs0
  refine (Any.strings_Join_one Tryz.lays156 W5 bk o c ⟨x.toArray⟩ ⟨sep.toArray⟩ w (by have := hcell 0 (sv x) rfl; simpa using this)).mono ?_
  rintro e w' ⟨rfl, rfl⟩
  exact ⟨by rw [Lib.join_one], Below.refl _ _⟩
 | x :: y :: r, hn, hl, hc, hsp, hcell =>
  obtain ⟨bk, o, spot⟩ := ad
  have hs0 : spot = none := hsp (by simp)
  subst hs0
  have h0 := hcell 0 (sv x) rfl
  have hb : bk < w.heap.size := World.block_lt_of_cell? _ _ h0
  have hd : ((x :: y :: r).map fun z => (⟨z.toArray⟩ : ByteArray)).map (·.data.toList) = x :: y :: r := by
   rw [List.map_map]
   exact List.map_id'' (fun z => by simp) _
  have := Any.strings_Join_many Tryz.lays156 W5 bk o c ((x :: y :: r).map fun z => (⟨z.toArray⟩ : ByteArray)) ⟨sep.toArray⟩ w (fun j z hz => by
   rw [List.getElem?_map, Option.map_eq_some_iff] at hz
   obtain ⟨z', hz', rfl⟩ := hz
   exact hcell j _ (by rw [List.getElem?_map, hz']; rfl)) hb (by simp) (by simpa using hn) (by simpa using hc) (by rw [hd]; simpa using hl)
  rw [hd, List.length_map] at this
  rw [List.length_map]
  refine this.mono ?_
  rintro e w' ⟨rfl, hb'⟩
  exact ⟨by simp, hb'⟩
end Go.SX.Nb
namespace Go.SX.Nb
open Go Go.SX Go.Proofs
variable [ErrAt]
set_option maxRecDepth 4000
/-- The lexer from a place between two words on. -/
def tx (f q : Nat) (s : Str) : List (Tok × Int) := E9 f (q + gapM s) (s.drop (gapM s))
theorem Su {f q : Nat} {s : Str} (h : s ≠ []) : ∃ (n : Nat), E9 (f + 1) q s = (⟨(B0 s).1, (B0 s).2.1, q⟩, (B0 s).2.2.2) :: (if (B0 s).2.2.2 = 0 then tx f (q + n) (s.drop n) else []) ∧ ((B0 s).2.2.2 = 0 → (B0 s).2.2.1 = (n : Int) ∧ 1 ≤ n ∧ n ≤ s.length) := by
 refine ⟨(B0 s).2.2.1.toNat, ?_, fun he => ?_⟩
 ·rw [Hb h]
  simp only [beq_iff_eq]
  rfl
 obtain ⟨n, h1, h2, h3⟩ := Wc (s := s) (by cases s with | nil => exact absurd rfl h | cons c r => simp) he
 rw [h1]
 exact ⟨rfl, by simpa using h2, by simpa using h3⟩
/-! ### Gaps -/
/-! ### Words -/
theorem j9 {s : Str} (h : (Ar s).2.1 = 0) : s.length ≤ 4000 ∧ (∀ it ∈ Ay s, it.2 = 0) ∧ Ar s = ((Ay s).map (·.1) ++ [⟨0, [], s.length⟩], 0, 0) := by
 unfold Ar at h ⊢
 split at h
 ·exact absurd h (show ¬ (3 : Int) = 0 by decide)
 rename_i hl
 rw [if_neg hl]
 cases hf : (Ay s).find? (fun it => it.2 != 0) with
 | some it =>
  rw [hf] at h
  have := List.find?_some hf
  simp at this
  exact absurd h this
 | none =>
  rw [List.find?_eq_none] at hf
  refine ⟨by omega, fun it hit => by simpa using hf it hit, rfl⟩
def Sv (c : UInt8) : Str := if c = 39 then [39, 39] else [c]
def I8 (t : Str) : Str := t.flatMap Sv
theorem Sw : ∀ t : Str, (I8 t).length ≤ 2 * t.length
 | [] => Nat.le_refl _
 | c :: r => by
  have := Sw r
  unfold I8 at this ⊢
  rw [List.flatMap_cons, List.length_append, List.length_cons]
  have h : (Sv c).length ≤ 2 := by unfold Sv; split <;> simp
  omega
theorem Kk (c : UInt8) (r : Str) : I8 (c :: r) = Sv c ++ I8 r := by unfold I8; rw [List.flatMap_cons]
theorem Wi : ∀ s : Str, (Lib.index s [39] = -1 ∧ I8 s = s) ∨ ∃ i : Nat, Lib.index s [39] = (i : Int) ∧ i < s.length ∧ I8 s = s.take i ++ [39, 39] ++ I8 (s.drop (i + 1))
 | [] => .inl ⟨rfl, rfl⟩
 | b :: l => by
  by_cases hb : b = 39
  ·subst hb
   refine .inr ⟨0, by simp [Lib.index, List.isPrefixOf], by simp, ?_⟩
   rw [Kk]
   simp [Sv]
  have hp : ([39] : Str).isPrefixOf (b :: l) = false := by
   simp [List.isPrefixOf, Ne.symm hb]
  have hd : I8 (b :: l) = b :: I8 l := by
   rw [Kk, Sv, if_neg hb]
   rfl
  rcases Wi l with ⟨h1, h2⟩ | ⟨i, h1, h2, h3⟩
  ·refine .inl ⟨?_, by rw [hd, h2]⟩
   rw [Lib.index, hp, h1]; rfl
  refine .inr ⟨i + 1, ?_, by simp; omega, ?_⟩
  ·rw [Lib.index, hp, h1, if_neg (by simp), if_neg (by simp)]
   rfl
  rw [hd, h3]
  simp
theorem Jn : ∀ (n : Nat) (s : Str), s.length ≤ n → Lib.replaceK [39] [39, 39] (Lib.count s [39]) s = I8 s
 | n, s, hn => by
  rcases Wi s with ⟨h1, h2⟩ | ⟨i, h1, h2, h3⟩
  ·rw [Lib.count_miss h1, h2]; rfl
  cases n with
  | zero => omega
  | succ n =>
   rw [Lib.count_hit (by decide) h1, Nat.add_comm, Lib.replaceK_hit _ _ _ _ i h1]
   have e : i + ([39] : Str).length = i + 1 := rfl
   rw [e, Jn n (s.drop (i + 1)) (by rw [List.length_drop]; omega), h3]
theorem L4 (s : Str) : Lib.replaceAll s [39] [39, 39] = I8 s := by
 unfold Lib.replaceAll Lib.replace
 rw [if_neg (by decide)]
 have e : Lib.replaceNum s [39] (-1) = Lib.count s [39] := by unfold Lib.replaceNum; rw [if_pos (.inl (by decide))]
 rw [e]
 exact Jn _ s (Nat.le_refl _)
def Wj (t : Tok) : Str := if t.kind = 4 then [39] ++ I8 t.text ++ [39] else t.text
theorem Vk {q : Str} (h0 : q.headD 0 = 39) (h1 : 1 ≤ q.length) (h : (Dw q).2 = 0) : [39] ++ I8 (Dw q).1.s ++ [39] = q := by
 cases q with
 | nil => simp at h1
 | cons c r =>
  have hc : c = 39 := h0
  subst hc
  unfold Dw at h ⊢
  have n1 : ((39 :: r : Str) == [110, 117, 108, 108]) = false := by rw [beq_eq_false_iff_ne]; intro e; injection e with e; exact absurd e (by decide)
  have n2 : ((39 :: r : Str) == [116, 114, 117, 101]) = false := by rw [beq_eq_false_iff_ne]; intro e; injection e with e; exact absurd e (by decide)
  have n3 : ((39 :: r : Str) == [102, 97, 108, 115, 101]) = false := by rw [beq_eq_false_iff_ne]; intro e; injection e with e; exact absurd e (by decide)
  rw [n1, n2, n3] at h ⊢
  simp only [Bool.false_eq_true, if_false, Bool.or_self] at h ⊢
  by_cases hq : P6 (39 :: r) = true
  ·rw [if_pos hq] at h ⊢
   unfold Sd at h ⊢
   split at h
   ·exact absurd h (show ¬ (7 : Int) = 0 by decide)
   rename_i hp
   rw [if_neg hp]
   have hp' : D7 (Mr (39 :: r)) = 39 :: r := by simpa using hp
   have hk : (Mr (39 :: r)).kind = 2 := rfl
   show [39] ++ I8 (Mr (39 :: r)).s ++ [39] = 39 :: r
   generalize Mr (39 :: r) = v at hp' hk
   have hne : D7 v ≠ [] := by rw [hp']; simp
   rw [← hp']
   unfold D7 at hne ⊢
   split at hne
   ·exact absurd rfl hne
   rename_i hpl
   rw [if_neg hpl, hk, if_neg (by decide), if_pos (by decide), L4]
  rw [if_neg hq] at h
  have hd : Fb (39 :: r) = true := by
   unfold Fb
   have e : Kv (39 :: r) = 39 :: r := by
    rcases Kw (39 :: r) with ⟨_, h4⟩ | ⟨r', h3, _⟩
    ·exact h4
    injection h3 with h3; exact absurd h3 (by decide)
   rw [e]
   have : (Lib.trimS (39 :: r) digs == []) = false := by
    rw [beq_eq_false_iff_ne]
    intro e
    rw [P2] at e
    exact absurd (e 39 (by simp)) (by decide)
   rw [this]
   simp
  have hn : Bt (39 :: r) = (0, 6) := by unfold Bt; rw [if_pos hd]
  rw [hn] at h
  simp at h
theorem Ov (s : Str) (m : Nat) : s.take (s.take m).length = s.take m := by
 rw [List.length_take]
 rcases Nat.le_total m s.length with h | h
 ·rw [Nat.min_eq_left h]
 rw [Nat.min_eq_right h, List.take_of_length_le (Nat.le_refl _), List.take_of_length_le h]
theorem Hi (s of : Str) : s.take (Bz s of).length = Bz s of := by
 unfold Bz
 exact Ov s _
/-- What a word's print spells is what was read. -/
theorem Vl {s : Str} {n p : Nat} (h0 : 1 ≤ s.length) (he : (B0 s).2.2.2 = 0) (hn : (B0 s).2.2.1 = (n : Int)) : Wj ⟨(B0 s).1, (B0 s).2.1, p⟩ = s.take n := by
 cases s with
 | nil => simp at h0
 | cons c r =>
  unfold B0 at he hn ⊢
  by_cases c1 : decide (0 < Je ((c :: r).take 1) letters) = true
  ·rw [if_pos c1] at he hn
   simp only [if_pos c1]
   unfold Iq at he hn ⊢
   by_cases r1 : Dc (Bz (c :: r) tails) = true
   ·rw [if_pos r1] at hn
    simp only [if_pos r1]
    have hn' : (((Bz (c :: r) tails).length : Nat) : Int) = n := hn
    have e : n = (Bz (c :: r) tails).length := by omega
    rw [e, Hi]
    rfl
   rw [if_neg r1] at he hn
   simp only [if_neg r1]
   by_cases r2 : (!Di (Bz (c :: r) tails)) = true
   ·rw [if_pos r2] at he; exact absurd he (show ¬ (3 : Int) = 0 by decide)
   rw [if_neg r2] at hn
   simp only [if_neg r2]
   have hn' : (((Bz (c :: r) tails).length : Nat) : Int) = n := hn
   have e : n = (Bz (c :: r) tails).length := by omega
   rw [e, Hi]
   rfl
  rw [if_neg c1] at he hn
  simp only [if_neg c1]
  by_cases c2 : decide (0 < Je ((c :: r).take 1) digs) = true
  ·rw [if_pos c2] at he hn
   simp only [if_pos c2]
   have hn' : (((Bz (c :: r) digs).length : Nat) : Int) = n := hn
   have e : n = (Bz (c :: r) digs).length := by omega
   rw [e, Hi]
   rfl
  rw [if_neg c2] at he hn
  simp only [if_neg c2]
  by_cases c3 : (((((c :: r)).getD 0 0).toNat : Int) == 39) = true
  ·rw [if_pos c3] at he hn
   simp only [if_pos c3]
   have hc : c = 39 := by
    have c3' : ((c.toNat : Int) == 39) = true := c3
    exact UInt8.toNat_inj.1 (by have : (39 : UInt8).toNat = 39 := rfl; simp at c3'; omega)
   unfold Fm at he hn ⊢
   cases hq : Bn ((c :: r).drop 1) with
   | none => rw [hq] at he; exact absurd he (show ¬ (7 : Int) = 0 by decide)
   | some m =>
    rw [hq] at he hn
    simp only at he hn ⊢
    split at he
    ·exact absurd he (show ¬ (3 : Int) = 0 by decide)
    rename_i hr
    rw [if_neg hr] at hn
    simp only [if_neg hr]
    have hm' : (((m + 1 : Nat)) : Int) = n := hn
    have hm : n = m + 1 := by omega
    subst hm
    have hr' : (Dw ((c :: r).take (m + 1))).2 = 0 := by simpa using hr
    have := Vk (q := (c :: r).take (m + 1)) (by rw [hc]; rfl) (by simp) hr'
    unfold Wj
    rw [if_pos rfl]
    exact this
  rw [if_neg c3] at he hn
  simp only [if_neg c3]
  unfold Mv at he hn ⊢
  split at hn
  ·rename_i h2
   simp only [if_pos h2]
   have hn' : (2 : Int) = n := hn
   have : n = 2 := by omega
   subst this
   rfl
  rename_i h2
  rw [if_neg h2] at he
  simp only [if_neg h2]
  split at hn
  ·rename_i h3
   simp only [if_pos h3]
   have hn' : (1 : Int) = n := hn
   have : n = 1 := by omega
   subst this
   rfl
  rename_i h3
  rw [if_neg h3] at he
  exact absurd he (show ¬ (7 : Int) = 0 by decide)
theorem wrap_u64 {n : Int} (h1 : 0 ≤ n) (h2 : n < 18446744073709551616) : IntKind.u64.wrap n = n := by
 have e1 : (2 ^ IntKind.u64.bits : Int) = 18446744073709551616 := rfl
 have e3 : IntKind.u64.signed = false := rfl
 unfold IntKind.wrap
 simp only [e1, e3, Bool.false_and]
 simp
 omega
theorem Yv (n : Int) : 0 ≤ IntKind.u64.wrap n ∧ IntKind.u64.wrap n < 18446744073709551616 := by
 have e1 : (2 ^ IntKind.u64.bits : Int) = 18446744073709551616 := rfl
 have e3 : IntKind.u64.signed = false := rfl
 unfold IntKind.wrap
 simp only [e1, e3, Bool.false_and]
 simp
 omega
theorem lg (m : Int) (N : Nat) (h1 : 1 ≤ N) (hN : N ≤ 100000) : ∃ K : Nat, K < N ∧ IntKind.i64.wrap ((IntKind.u64.wrap m).tmod (IntKind.u64.wrap (N : Int))) = (K : Int) := by
 have hr := Yv m
 rw [wrap_u64 (n := (N : Int)) (by omega) (by omega), Int.tmod_eq_emod_of_nonneg hr.1]
 have g1 := Int.emod_nonneg (IntKind.u64.wrap m) (b := (N : Int)) (by omega)
 have g2 := Int.emod_lt_of_pos (IntKind.u64.wrap m) (b := (N : Int)) (by omega)
 refine ⟨((IntKind.u64.wrap m) % (N : Int)).toNat, by omega, ?_⟩
 rw [wrap_i64 (by omega) (by omega)]
 omega
theorem Wk : ∀ t : Str, t.length ≤ (I8 t).length
 | [] => Nat.le_refl _
 | c :: r => by
  have := Wk r
  rw [Kk, List.length_append, List.length_cons]
  have h : 1 ≤ (Sv c).length := by unfold Sv; split <;> simp
  omega
theorem ja (t : Tok) : t.text.length ≤ (Wj t).length := by
 unfold Wj
 split
 ·have := Wk t.text
  simp only [List.length_append, List.length_cons, List.length_nil]
  omega
 exact Nat.le_refl _
/-- Words with an end. -/
structure TokEnd (l : List Tok) : Prop where
 split : ∃ L z, l = L ++ [z] ∧ z.kind = 0 ∧ ∀ t ∈ L, t.kind ≠ 0
 texts : ∀ t ∈ l, t.text.length ≤ 1048576
theorem TokEnd.pos {l : List Tok} (h : TokEnd l) : 1 ≤ l.length := by
 obtain ⟨L, z, rfl, _, _⟩ := h.split
 simp
theorem TokEnd.text {l : List Tok} (h : TokEnd l) (i : Nat) : (A9 l i).text.length ≤ 1048576 := by
 unfold A9
 rcases Nat.lt_or_ge i l.length with hi | hi
 ·rw [List.getD_eq_getElem?_getD, List.getElem?_eq_getElem hi]
  exact h.texts _ (List.getElem_mem hi)
 rw [List.getD_eq_getElem?_getD, List.getElem?_eq_none hi]
 exact Nat.zero_le _
theorem jb (s : Str) (he : (B0 s).2.2.2 = 0) : (B0 s).1 ≠ 0 := by
 revert he
 unfold B0 Iq Qz Fm Mv
 repeat' split
 all_goals simp
theorem Sx : ∀ (f q : Nat) (s : Str), (∀ it ∈ E9 f q s, it.2 = 0) → ∀ it ∈ E9 f q s, it.1.kind ≠ 0 ∧ it.1.text.length ≤ s.length
 | 0, _, _, _, it, hm => by cases hm
 | f + 1, q, s, h, it, hm => by
  by_cases hs : s = []
  ·subst hs; cases hm
  obtain ⟨n, h1, h2⟩ := Su (f := f) (q := q) hs
  rw [h1] at hm h
  have h0 : (B0 s).2.2.2 = 0 := h (⟨(B0 s).1, (B0 s).2.1, q⟩, (B0 s).2.2.2) (List.mem_cons_self ..)
  obtain ⟨hn, hn1, hn2⟩ := h2 h0
  rw [if_pos h0] at hm h
  rcases List.mem_cons.1 hm with rfl | hm
  ·refine ⟨jb s h0, ?_⟩
   have hs1 : 1 ≤ s.length := by cases s with | nil => exact absurd rfl hs | cons c r => simp
   have := Vl (p := q) hs1 h0 hn
   have h3 := ja ⟨(B0 s).1, (B0 s).2.1, q⟩
   rw [this] at h3
   simp only [List.length_take] at h3
   show (B0 s).2.1.length ≤ s.length
   omega
  have := Sx f _ _ (fun it hit => h it (List.mem_cons_of_mem _ hit)) it hm
  simp only [List.length_drop] at this
  exact ⟨this.1, by omega⟩
theorem jc {s : Str} (h : (Ar s).2.1 = 0) : TokEnd (Ar s).1 := by
 by_cases h4 : 4000 < s.length
 ·unfold Ar at h
  rw [if_pos h4] at h
  exact cb
 have e : Ar s = ((Ay s).map (·.1) ++ [⟨0, [], s.length⟩], 0, 0) ∧ ∀ it ∈ Ay s, it.2 = 0 := by
  unfold Ar at h ⊢
  rw [if_neg h4] at h ⊢
  cases hf : (Ay s).find? (fun it => it.2 != 0) with
  | none =>
   rw [List.find?_eq_none] at hf
   exact ⟨rfl, fun it hit => by simpa using hf it hit⟩
  | some it =>
   rw [hf] at h
   have := List.find?_some hf
   simp only [bne_iff_ne] at this
   exact absurd h this
 obtain ⟨e, hz⟩ := e
 have hnz := Sx _ _ _ hz
 rw [e]
 refine ⟨⟨_, _, rfl, rfl, fun t ht => ?_⟩, fun t ht => ?_⟩
 ·obtain ⟨it, hit, rfl⟩ := List.mem_map.1 ht
  exact (hnz it hit).1
 rcases List.mem_append.1 ht with ht | ht
 ·obtain ⟨it, hit, rfl⟩ := List.mem_map.1 ht
  have := (hnz it hit).2
  simp only [List.length_drop] at this
  omega
 have e : t = ⟨0, [], s.length⟩ := by simpa using ht
 subst e
 exact Nat.zero_le _
/-- Where a parser of expressions stands: its word, its nest, its fault. -/
structure PS where
 i : Nat
 nest : Nat
 code : Int
 at_ : Int
def noV : Val := ⟨0, 0, []⟩
def Ah : Expr := .mk 0 [] noV []
def C7 (e a : Int) (S : PS) : PS := if S.code == 0 then ⟨S.i, S.nest, e, a⟩ else S
def isM (l : List Tok) (of : Str) (S : PS) : Bool := (((A9 l S.i).kind == 5) || ((A9 l S.i).kind == 2)) && I2 (A9 l S.i).text of
def Aa (S : PS) : PS := ⟨S.i + 1, S.nest, S.code, S.at_⟩
def Bo (S : PS) : PS := ⟨S.i, S.nest + 1, S.code, S.at_⟩
def Pl (S : PS) : PS := ⟨S.i, S.nest - 1, S.code, S.at_⟩
def Cs (l : List Tok) (s : Str) (S : PS) : PS := if S.code != 0 then S else if ((A9 l S.i).kind != 5) || !((A9 l S.i).text == s) then C7 8 (A9 l S.i).at_ S else Aa S
/-- What stands one nest deeper. -/
structure Fam where
 ei : PS → Expr × PS
 no : PS → Expr × PS
 ne : PS → Expr × PS
def B3 (a : Int) (f : PS → Expr × PS) (S : PS) : Expr × PS := if (S.nest : Int) == 30 then (Ah, C7 18 a S) else ((f (Bo S)).1, Pl (f (Bo S)).2)
def Eu (t : Str) (x y : Expr) : Expr := .mk 5 t noV [x, y]
def Pm (l : List Tok) (of : Str) (f : PS → Expr × PS) : Nat → Expr × PS → Expr × PS
 | 0, r => r
 | n + 1, r => if (r.2.code == 0) && isM l of r.2 then Pm l of f n (Eu (A9 l r.2.i).text r.1 (f (Aa r.2)).1, (f (Aa r.2)).2) else r
def Cv (l : List Tok) (of : Str) (f : PS → Expr × PS) (S : PS) : Expr × PS := Pm l of f l.length (f S)
def Ni : Str := [32, 44, 32]
def argsF (l : List Tok) (f : PS → Expr × PS) : Nat → List Expr × PS → List Expr × PS
 | 0, r => r
 | n + 1, r => if (r.2.code == 0) && isM l Ni r.2 then argsF l f n (r.1 ++ [(f (Aa r.2)).1], (f (Aa r.2)).2) else r
def E4 (l : List Tok) (f : PS → Expr × PS) (S : PS) : List Expr × PS := argsF l f l.length ([(f S).1], (f S).2)
def L5 (l : List Tok) (a : Int) (f : PS → Expr × PS) (S : PS) : List Expr × PS := if (S.nest : Int) == 30 then ([], C7 18 a S) else ((E4 l f (Bo S)).1, Pl (E4 l f (Bo S)).2)
def Cq : Str := [41]
def C1 (l : List Tok) (D : Fam) (S : PS) : List Expr × PS := L5 l (A9 l S.i).at_ D.ei (Aa S)
def E5 (l : List Tok) (D : Fam) (t : Tok) (S : PS) : Expr × PS :=
 if Aw t.text < 0 then (Ah, C7 9 t.at_ S)
 else if ((Cs l Cq (C1 l D S).2).code == 0) && !(((C1 l D S).1.length : Int) == Aw t.text) then (Ah, C7 8 t.at_ (Cs l Cq (C1 l D S).2))
 else (.mk 6 t.text noV (C1 l D S).1, Cs l Cq (C1 l D S).2)
def orT : Str := [32, 111, 114, 32]
def Yw : Str := [32, 97, 110, 100, 32]
def n6 : Str := [32, 110, 111, 116, 32]
def jd : Str := [32, 61, 32, 33, 61, 32, 60, 32, 60, 61, 32, 62, 32, 62, 61, 32]
def Yx : Str := [32, 43, 32, 45, 32, 38, 32]
def Pn : Str := [32, 42, 32, 47, 32, 37, 32]
def n7 : Str := [32, 45, 32]
def opT : Str := [32, 40, 32]
def n8 : Str := [32, 116, 114, 117, 101, 32, 102, 97, 108, 115, 101, 32, 110, 117, 108, 108, 32]
def Fs (v : Val) : Expr := .mk 1 [] v []
def De (l : List Tok) (D : Fam) (S : PS) : Expr × PS :=
 if S.code != 0 then (Ah, S)
 else if ((A9 l S.i).kind == 3) || isM l n8 S then (Fs (Dw (A9 l S.i).text).1, Aa S)
 else if (A9 l S.i).kind == 4 then (Fs ⟨2, 0, (A9 l S.i).text.take 200⟩, Aa S)
 else if (A9 l S.i).kind == 1 then (if isM l opT (Aa S) then E5 l D (A9 l S.i) (Aa S) else (D8 (A9 l S.i).text, Aa S))
 else if isM l opT S then ((B3 (A9 l S.i).at_ D.ei (Aa S)).1, Cs l Cq (B3 (A9 l S.i).at_ D.ei (Aa S)).2)
 else (Ah, C7 8 (A9 l S.i).at_ S)
def Dk (op : Int) (x : Expr) : Expr := .mk op [] noV [x]
def Lo (l : List Tok) (D : Fam) (S : PS) : Expr × PS := if !isM l n7 S then De l D S else (Dk 3 (B3 (A9 l S.i).at_ D.ne (Aa S)).1, (B3 (A9 l S.i).at_ D.ne (Aa S)).2)
def Sy (l : List Tok) (D : Fam) : PS → Expr × PS := Cv l Pn (Lo l D)
def Ca (l : List Tok) (D : Fam) : PS → Expr × PS := Cv l Yx (Sy l D)
def Ct (l : List Tok) (D : Fam) (S : PS) : Expr × PS :=
 if ((Ca l D S).2.code != 0) || !isM l jd (Ca l D S).2 then Ca l D S
 else (Eu (A9 l (Ca l D S).2.i).text (Ca l D S).1 (Ca l D (Aa (Ca l D S).2)).1, (Ca l D (Aa (Ca l D S).2)).2)
def Lp (l : List Tok) (D : Fam) (S : PS) : Expr × PS := if !isM l n6 S then Ct l D S else (Dk 4 (B3 (A9 l S.i).at_ D.no (Aa S)).1, (B3 (A9 l S.i).at_ D.no (Aa S)).2)
def Sz (l : List Tok) (D : Fam) : PS → Expr × PS := Cv l Yw (Lp l D)
def Lu (l : List Tok) (D : Fam) : PS → Expr × PS := Cv l orT (Sz l D)
def Cr (l : List Tok) : Nat → Fam
 | 0 => ⟨fun S => (Ah, S), fun S => (Ah, S), fun S => (Ah, S)⟩
 | d + 1 => ⟨Lu l (Cr l d), Lp l (Cr l d), Lo l (Cr l d)⟩

/-! What is so of them. -/
theorem Dx : ∀ {n m : Nat}, n ≤ m → ∀ {e : Expr}, okE n e → okE m e
 | 0, _, _, _, h => h.elim
 | n + 1, 0, h, _, _ => by omega
 | n + 1, m + 1, h, _, ho => ⟨ho.1, ho.2.1, fun y hy => Dx (by omega) (ho.2.2 y hy)⟩
theorem Nj : sizeE Ah = 1 := rfl
theorem Yy (t : Str) (a b : Expr) : sizeE (Eu t a b) = 1 + (sizeE a + (sizeE b + 0)) := by rw [Eu, sizeE, Ba, Ba, Ba]
theorem Yz (o : Int) (a : Expr) : sizeE (Dk o a) = 1 + (sizeE a + 0) := by rw [Dk, sizeE, Ba, Ba]
theorem Po : ∀ a b : List Expr, Ba (a ++ b) = Ba a + Ba b
 | [], b => by rw [List.nil_append, Ba, Nat.zero_add]
 | e :: r, b => by rw [List.cons_append, Ba, Ba, Po r b, Nat.add_assoc]
theorem T0 {n : Nat} (h : 1 ≤ n) : okE n Ah := Dx h ⟨by decide, by decide, fun y hy => by cases hy⟩
theorem Wl {n : Nat} (h : 1 ≤ n) (v : Val) : okE n (Fs v) := Dx h ⟨by simp [Fs, Expr.text], by simp [Fs, Expr.kids], fun y hy => by cases hy⟩
structure Fact (l : List Tok) (S : PS) (r : Expr × PS) : Prop where
 le : S.i ≤ r.2.i
 lt : r.2.i < l.length
 nest : r.2.nest = S.nest
 ok : okE (2 * (r.2.i - S.i) + 1) r.1
 sz : sizeE r.1 ≤ 2 * (r.2.i - S.i) + 1
def Cb (l : List Tok) (n : Nat) (f : PS → Expr × PS) : Prop := ∀ S, S.i < l.length → S.nest = n → Fact l S (f S)
theorem TokEnd.step {l : List Tok} (h : TokEnd l) {i : Nat} (hi : i < l.length) (hk : (A9 l i).kind ≠ 0) : i + 1 < l.length := by
 obtain ⟨L, z, rfl, hz, _⟩ := h.split
 rcases Nat.lt_or_ge i L.length with h1 | h1
 ·simp only [List.length_append, List.length_cons, List.length_nil]; omega
 have : i = L.length := by simp only [List.length_append, List.length_cons, List.length_nil] at hi; omega
 subst this
 exact absurd (by unfold A9; simpa using hz) hk
theorem dk {l : List Tok} {of : Str} {S : PS} (h : isM l of S = true) : (A9 l S.i).kind ≠ 0 := by
 unfold isM at h
 simp only [Bool.and_eq_true, Bool.or_eq_true, beq_iff_eq] at h
 omega
theorem TokEnd.stepIs {l : List Tok} (h : TokEnd l) {of : Str} {S : PS} (hi : S.i < l.length) (hk : isM l of S = true) : (Aa S).i < l.length := h.step hi (dk hk)
theorem failM_i {e a : Int} {S : PS} : (C7 e a S).i = S.i ∧ (C7 e a S).nest = S.nest := by unfold C7; split <;> exact ⟨rfl, rfl⟩
theorem Wm {l : List Tok} (hl : TokEnd l) {s : Str} {S : PS} (hi : S.i < l.length) : S.i ≤ (Cs l s S).i ∧ (Cs l s S).i < l.length ∧ (Cs l s S).nest = S.nest := by
 unfold Cs
 split
 ·exact ⟨Nat.le_refl _, hi, rfl⟩
 split
 ·rw [failM_i.1, failM_i.2]; exact ⟨Nat.le_refl _, hi, rfl⟩
 rename_i h
 simp only [Bool.or_eq_true, bne_iff_ne, ne_eq, not_or, Classical.not_not] at h
 have := hl.step hi (by rw [h.1]; decide)
 exact ⟨Nat.le_succ _, this, rfl⟩
theorem Jo {l : List Tok} {S S0 : PS} (h0 : S0.i ≤ S.i) (h1 : S.i < l.length) (h2 : S.nest = S0.nest) (e a : Int) : Fact l S0 (Ah, C7 e a S) := by
 refine ⟨?_, ?_, ?_, T0 (by omega), by rw [Nj]; omega⟩
 ·show _ ≤ (C7 e a S).i; rw [failM_i.1]; exact h0
 ·show (C7 e a S).i < _; rw [failM_i.1]; exact h1
 show (C7 e a S).nest = _; rw [failM_i.2]; exact h2
/-- A state of a loop of marks. -/
structure LeftAt (l : List Tok) (of : Str) (f : PS → Expr × PS) (S : PS) (r : Expr × PS) : Prop where
 fact : Fact l S r
 eq : ∃ n, l.length ≤ r.2.i + n ∧ Cv l of f S = Pm l of f n r
theorem LeftAt.start {l : List Tok} {of : Str} {f : PS → Expr × PS} {S : PS} (h : Fact l S (f S)) : LeftAt l of f S (f S) := ⟨h, l.length, by omega, rfl⟩
theorem Wn {l : List Tok} {S : PS} {r q : Expr × PS} (h : Fact l S r) (hq : Fact l (Aa r.2) q) (hl : TokEnd l) : Fact l S (Eu (A9 l r.2.i).text r.1 q.1, q.2) := by
 have h1 := h.le
 have h2 : r.2.i + 1 ≤ q.2.i := hq.le
 refine ⟨by show S.i ≤ q.2.i; omega, hq.lt, by show q.2.nest = S.nest; rw [hq.nest]; exact h.nest, ?_, ?_⟩
 rotate_left
 ·have s1 := h.sz
  have s2 : sizeE q.1 ≤ 2 * (q.2.i - (r.2.i + 1)) + 1 := hq.sz
  show sizeE (Eu _ r.1 q.1) ≤ 2 * (q.2.i - S.i) + 1
  rw [Yy]
  omega
 show okE (2 * (q.2.i - S.i) + 1) _
 refine ⟨hl.text _, by simp [Eu, Expr.kids], fun y hy => ?_⟩
 have hy' : y = r.1 ∨ y = q.1 := by simpa [Eu, Expr.kids] using hy
 rcases hy' with rfl | rfl
 ·exact Dx (by omega) h.ok
 exact Dx (by show 2 * (q.2.i - (r.2.i + 1)) + 1 ≤ _; omega) hq.ok
theorem LeftAt.on {l : List Tok} {of : Str} {f : PS → Expr × PS} {S : PS} {r : Expr × PS} (hl : TokEnd l) (h : LeftAt l of f S r) (hc : ((r.2.code == 0) && isM l of r.2) = true) (hf : Cb l S.nest f) : (Aa r.2).i < l.length ∧ Fact l (Aa r.2) (f (Aa r.2)) ∧ LeftAt l of f S (Eu (A9 l r.2.i).text r.1 (f (Aa r.2)).1, (f (Aa r.2)).2) := by
 have hi := hl.stepIs h.fact.lt (Bool.and_eq_true_iff.1 hc).2
 have hq := hf (Aa r.2) hi h.fact.nest
 obtain ⟨n, hn, e⟩ := h.eq
 have h1 := h.fact.lt
 have h2 : r.2.i + 1 ≤ (f (Aa r.2)).2.i := hq.le
 obtain ⟨m, rfl⟩ : ∃ m, n = m + 1 := ⟨n - 1, by omega⟩
 refine ⟨hi, hq, Wn h.fact hq hl, m, by show l.length ≤ (f (Aa r.2)).2.i + m; omega, ?_⟩
 rw [e, Pm, if_pos hc]
theorem LeftAt.out {l : List Tok} {of : Str} {f : PS → Expr × PS} {S : PS} {r : Expr × PS} (h : LeftAt l of f S r) (hc : ¬ ((r.2.code == 0) && isM l of r.2) = true) : Cv l of f S = r := by
 obtain ⟨n, hn, e⟩ := h.eq
 have h1 := h.fact.lt
 obtain ⟨m, rfl⟩ : ∃ m, n = m + 1 := ⟨n - 1, by omega⟩
 rw [e, Pm, if_neg hc]
theorem T3 {l : List Tok} {of : Str} {f : PS → Expr × PS} {S : PS} (hl : TokEnd l) (hf : Cb l S.nest f) : ∀ (k : Nat) (r : Expr × PS), l.length - r.2.i ≤ k → LeftAt l of f S r → Fact l S (Cv l of f S)
 | 0, r, hk, h => by have := h.fact.lt; omega
 | k + 1, r, hk, h => by
  by_cases hc : ((r.2.code == 0) && isM l of r.2) = true
  ·obtain ⟨h1, h2, h3⟩ := h.on hl hc hf
   have h4 : r.2.i + 1 ≤ (f (Aa r.2)).2.i := h2.le
   exact T3 hl hf k _ (by show l.length - (f (Aa r.2)).2.i ≤ k; have := h.fact.lt; omega) h3
  rw [h.out hc]; exact h.fact
theorem Dn {l : List Tok} {of : Str} {f : PS → Expr × PS} {n : Nat} (hl : TokEnd l) (hf : Cb l n f) : Cb l n (Cv l of f) := fun S hi hn => T3 hl (hn ▸ hf) l.length (f S) (by omega) (.start (hf S hi hn))
theorem F1 {l : List Tok} {f : PS → Expr × PS} {S : PS} (a : Int) (hi : S.i < l.length) (hf : S.nest ≠ 30 → Cb l (S.nest + 1) f) : Fact l S (B3 a f S) := by
 unfold B3
 split
 ·exact Jo (Nat.le_refl _) hi rfl _ _
 rename_i h
 have h30 : S.nest ≠ 30 := fun e => h (by rw [e]; rfl)
 have := hf h30 (Bo S) hi rfl
 refine ⟨this.le, this.lt, ?_, this.ok, this.sz⟩
 show (f (Bo S)).2.nest - 1 = S.nest
 rw [this.nest]
 rfl
/-- What is so of some kids. -/
structure KFact (l : List Tok) (S : PS) (r : List Expr × PS) : Prop where
 le : S.i ≤ r.2.i
 lt : r.2.i < l.length
 nest : r.2.nest = S.nest
 len : r.1.length ≤ r.2.i - S.i + 1
 ok : ∀ y ∈ r.1, okE (2 * (r.2.i - S.i) + 1) y
 sz : Ba r.1 ≤ 2 * (r.2.i - S.i) + 1
structure ArgsAt (l : List Tok) (f : PS → Expr × PS) (S : PS) (r : List Expr × PS) : Prop where
 fact : KFact l S r
 eq : ∃ n, l.length ≤ r.2.i + n ∧ E4 l f S = argsF l f n r
theorem ArgsAt.start {l : List Tok} {f : PS → Expr × PS} {S : PS} (h : Fact l S (f S)) : ArgsAt l f S ([(f S).1], (f S).2) := ⟨⟨h.le, h.lt, h.nest, by simp, fun y hy => by rw [List.mem_singleton.1 hy]; exact h.ok, by have := h.sz; show sizeE (f S).1 + 0 ≤ _; exact this⟩, l.length, by omega, rfl⟩
theorem ArgsAt.on {l : List Tok} {f : PS → Expr × PS} {S : PS} {r : List Expr × PS} (hl : TokEnd l) (h : ArgsAt l f S r) (hc : ((r.2.code == 0) && isM l Ni r.2) = true) (hf : Cb l S.nest f) : (Aa r.2).i < l.length ∧ Fact l (Aa r.2) (f (Aa r.2)) ∧ ArgsAt l f S (r.1 ++ [(f (Aa r.2)).1], (f (Aa r.2)).2) := by
 have hi := hl.stepIs h.fact.lt (Bool.and_eq_true_iff.1 hc).2
 have hq := hf (Aa r.2) hi h.fact.nest
 obtain ⟨n, hn, e⟩ := h.eq
 have h1 := h.fact.lt
 have h0 := h.fact.le
 have h2 : r.2.i + 1 ≤ (f (Aa r.2)).2.i := hq.le
 obtain ⟨m, rfl⟩ : ∃ m, n = m + 1 := ⟨n - 1, by omega⟩
 refine ⟨hi, hq, ⟨by show S.i ≤ (f (Aa r.2)).2.i; omega, hq.lt, by show (f (Aa r.2)).2.nest = _; rw [hq.nest]; exact h.fact.nest, ?_, fun y hy => ?_, ?_⟩, m, by show l.length ≤ (f (Aa r.2)).2.i + m; omega, ?_⟩
 ·have := h.fact.len
  show (r.1 ++ _).length ≤ (f (Aa r.2)).2.i - S.i + 1
  simp only [List.length_append, List.length_cons, List.length_nil]
  omega
 ·show okE (2 * ((f (Aa r.2)).2.i - S.i) + 1) y
  rcases List.mem_append.1 hy with hy | hy
  ·exact Dx (by omega) (h.fact.ok y hy)
  rw [List.mem_singleton.1 hy]
  exact Dx (by show 2 * ((f (Aa r.2)).2.i - (r.2.i + 1)) + 1 ≤ _; omega) hq.ok
 ·have s1 := h.fact.sz
  have s2 : sizeE (f (Aa r.2)).1 ≤ 2 * ((f (Aa r.2)).2.i - (r.2.i + 1)) + 1 := hq.sz
  show Ba (r.1 ++ [(f (Aa r.2)).1]) ≤ 2 * ((f (Aa r.2)).2.i - S.i) + 1
  rw [Po, Ba, Ba]
  omega
 rw [e, argsF, if_pos hc]
theorem ArgsAt.out {l : List Tok} {f : PS → Expr × PS} {S : PS} {r : List Expr × PS} (h : ArgsAt l f S r) (hc : ¬ ((r.2.code == 0) && isM l Ni r.2) = true) : E4 l f S = r := by
 obtain ⟨n, hn, e⟩ := h.eq
 have h1 := h.fact.lt
 obtain ⟨m, rfl⟩ : ∃ m, n = m + 1 := ⟨n - 1, by omega⟩
 rw [e, argsF, if_neg hc]
theorem T5 {l : List Tok} {f : PS → Expr × PS} {S : PS} (hl : TokEnd l) (hf : Cb l S.nest f) : ∀ (k : Nat) (r : List Expr × PS), l.length - r.2.i ≤ k → ArgsAt l f S r → KFact l S (E4 l f S)
 | 0, r, hk, h => by have := h.fact.lt; omega
 | k + 1, r, hk, h => by
  by_cases hc : ((r.2.code == 0) && isM l Ni r.2) = true
  ·obtain ⟨h1, h2, h3⟩ := h.on hl hc hf
   have h4 : r.2.i + 1 ≤ (f (Aa r.2)).2.i := h2.le
   exact T5 hl hf k _ (by show l.length - (f (Aa r.2)).2.i ≤ k; have := h.fact.lt; omega) h3
  rw [h.out hc]; exact h.fact
theorem Nk {l : List Tok} {f : PS → Expr × PS} {S : PS} (hl : TokEnd l) (hi : S.i < l.length) (hf : Cb l S.nest f) : KFact l S (E4 l f S) := T5 hl hf l.length _ (by show l.length - (f S).2.i ≤ _; omega) (.start (hf S hi rfl))
theorem Nl {l : List Tok} {f : PS → Expr × PS} {S : PS} (hl : TokEnd l) (a : Int) (hi : S.i < l.length) (hf : S.nest ≠ 30 → Cb l (S.nest + 1) f) : KFact l S (L5 l a f S) := by
 unfold L5
 split
 ·refine ⟨?_, ?_, ?_, by simp, fun y hy => (by cases hy), by simp [Ba]⟩
  ·show _ ≤ (C7 _ _ S).i; rw [failM_i.1]; exact Nat.le_refl _
  ·show (C7 _ _ S).i < _; rw [failM_i.1]; exact hi
  show (C7 _ _ S).nest = _; rw [failM_i.2]
 rename_i h
 have h30 : S.nest ≠ 30 := fun e => h (by rw [e]; rfl)
 have := Nk (S := Bo S) hl hi (hf h30)
 refine ⟨this.le, this.lt, ?_, this.len, this.ok, this.sz⟩
 show (E4 l f (Bo S)).2.nest - 1 = S.nest
 rw [this.nest]
 rfl
theorem Vm {l : List Tok} {D : Fam} {S : PS} (hl : TokEnd l) (hll : l.length ≤ 1048576) {t : Tok} (ht : t.text.length ≤ 1048576) (hi : (Aa S).i < l.length) (hf : S.nest ≠ 30 → Cb l (S.nest + 1) D.ei) : Fact l S (E5 l D t S) := by
 have hk : KFact l (Aa S) (C1 l D S) := Nl hl _ hi hf
 have h1 : S.i + 1 ≤ (C1 l D S).2.i := hk.le
 obtain ⟨w1, w2, w3⟩ := Wm (s := Cq) hl hk.lt
 unfold E5
 split
 ·exact Jo (Nat.le_refl _) (by show S.i < _; have : S.i + 1 < l.length := hi; omega) rfl _ _
 split
 ·exact Jo (show S.i ≤ (Cs l Cq (C1 l D S).2).i by omega) w2 (w3.trans hk.nest) 8 t.at_
 refine ⟨by show S.i ≤ (Cs l Cq (C1 l D S).2).i; omega, w2, w3.trans hk.nest, ?_, ?_⟩
 rotate_left
 ·have s1 : Ba (C1 l D S).1 ≤ 2 * ((C1 l D S).2.i - (S.i + 1)) + 1 := hk.sz
  show sizeE (.mk 6 t.text noV (C1 l D S).1) ≤ 2 * ((Cs l Cq (C1 l D S).2).i - S.i) + 1
  rw [sizeE]
  omega
 show okE (2 * ((Cs l Cq (C1 l D S).2).i - S.i) + 1) _
 refine ⟨ht, ?_, fun y hy => ?_⟩
 ·have h5 : (C1 l D S).1.length ≤ (C1 l D S).2.i - (Aa S).i + 1 := hk.len
  have h6 := hk.lt
  show (C1 l D S).1.length ≤ 1048576
  omega
 exact Dx (by show 2 * ((C1 l D S).2.i - (S.i + 1)) + 1 ≤ _; omega) (hk.ok y hy)
theorem Vn {l : List Tok} {D : Fam} {n : Nat} (hl : TokEnd l) (hll : l.length ≤ 1048576) (hf : n ≠ 30 → Cb l (n + 1) D.ei) : Cb l n (De l D) := by
 intro S hi hn
 subst hn
 unfold De
 have leaf : ∀ e : Expr, okE 1 e → sizeE e = 1 → (A9 l S.i).kind ≠ 0 → Fact l S (e, Aa S) := fun e he hs hk => ⟨Nat.le_succ _, hl.step hi hk, rfl, Dx (by omega) he, by show sizeE e ≤ _; omega⟩
 split
 ·exact ⟨Nat.le_refl _, hi, rfl, T0 (by omega), by show sizeE Ah ≤ _; rw [Nj]; omega⟩
 split
 ·rename_i h
  refine leaf _ (Wl (Nat.le_refl _) _) rfl ?_
  rcases Bool.or_eq_true_iff.1 h with h | h
  ·rw [beq_iff_eq] at h; rw [h]; decide
  exact dk h
 split
 ·rename_i h
  rw [beq_iff_eq] at h
  exact leaf _ (Wl (Nat.le_refl _) _) rfl (by rw [h]; decide)
 split
 ·rename_i h
  rw [beq_iff_eq] at h
  have hk : (A9 l S.i).kind ≠ 0 := by rw [h]; decide
  split
  ·rename_i h2
   have hi1 : (Aa S).i < l.length := hl.step hi hk
   have := Vm (S := Aa S) (D := D) hl hll (hl.text S.i) (hl.stepIs hi1 h2) hf
   have h3 : S.i + 1 ≤ (E5 l D (A9 l S.i) (Aa S)).2.i := this.le
   have h4 : sizeE (E5 l D (A9 l S.i) (Aa S)).1 ≤ 2 * ((E5 l D (A9 l S.i) (Aa S)).2.i - (S.i + 1)) + 1 := this.sz
   exact ⟨by omega, this.lt, this.nest, Dx (by show 2 * ((E5 l D (A9 l S.i) (Aa S)).2.i - (S.i + 1)) + 1 ≤ _; omega) this.ok, by omega⟩
  exact leaf _ (Sk _ (hl.text _)) rfl hk
 split
 ·rename_i h
  have hi1 : (Aa S).i < l.length := hl.stepIs hi h
  have := F1 (S := Aa S) (l := l) (f := D.ei) (A9 l S.i).at_ hi1 hf
  obtain ⟨w1, w2, w3⟩ := Wm (s := Cq) hl this.lt
  have h3 : S.i + 1 ≤ (B3 (A9 l S.i).at_ D.ei (Aa S)).2.i := this.le
  have h4 : sizeE (B3 (A9 l S.i).at_ D.ei (Aa S)).1 ≤ 2 * ((B3 (A9 l S.i).at_ D.ei (Aa S)).2.i - (S.i + 1)) + 1 := this.sz
  refine ⟨by show S.i ≤ (Cs l Cq _).i; omega, w2, w3.trans this.nest, Dx ?_ this.ok, by show sizeE (B3 (A9 l S.i).at_ D.ei (Aa S)).1 ≤ 2 * ((Cs l Cq (B3 (A9 l S.i).at_ D.ei (Aa S)).2).i - S.i) + 1; omega⟩
  show 2 * ((B3 (A9 l S.i).at_ D.ei (Aa S)).2.i - (S.i + 1)) + 1 ≤ 2 * ((Cs l Cq (B3 (A9 l S.i).at_ D.ei (Aa S)).2).i - S.i) + 1
  omega
 exact Jo (Nat.le_refl _) hi rfl _ _
theorem Wo {l : List Tok} {S : PS} {r : Expr × PS} (h : Fact l (Aa S) r) (op : Int) : Fact l S (Dk op r.1, r.2) := by
 have h1 : S.i + 1 ≤ r.2.i := h.le
 refine ⟨by show S.i ≤ r.2.i; omega, h.lt, h.nest, ?_, ?_⟩
 rotate_left
 ·have s1 : sizeE r.1 ≤ 2 * (r.2.i - (S.i + 1)) + 1 := h.sz
  show sizeE (Dk op r.1) ≤ 2 * (r.2.i - S.i) + 1
  rw [Yz]
  omega
 show okE (2 * (r.2.i - S.i) + 1) _
 refine ⟨by simp [Dk, Expr.text], by simp [Dk, Expr.kids], fun y hy => ?_⟩
 have hy' : y = r.1 := by simpa [Dk, Expr.kids] using hy
 subst hy'
 exact Dx (by show 2 * (r.2.i - (S.i + 1)) + 1 ≤ _; omega) h.ok
theorem Kl {l : List Tok} {D : Fam} {n : Nat} (hl : TokEnd l) (hll : l.length ≤ 1048576) (hf : n ≠ 30 → Cb l (n + 1) D.ei) (hg : n ≠ 30 → Cb l (n + 1) D.ne) : Cb l n (Lo l D) := by
 intro S hi hn
 unfold Lo
 split
 ·exact Vn hl hll hf S hi hn
 rename_i h
 subst hn
 exact Wo (F1 (S := Aa S) _ (hl.stepIs hi (by simpa using h)) hg) 3
theorem Pp {l : List Tok} {D : Fam} {n : Nat} (hl : TokEnd l) (hll : l.length ≤ 1048576) (hf : n ≠ 30 → Cb l (n + 1) D.ei) (hg : n ≠ 30 → Cb l (n + 1) D.ne) : Cb l n (Ca l D) := Dn hl (Dn hl (Kl hl hll hf hg))
theorem Id {l : List Tok} {D : Fam} {n : Nat} (hl : TokEnd l) (hll : l.length ≤ 1048576) (hf : n ≠ 30 → Cb l (n + 1) D.ei) (hg : n ≠ 30 → Cb l (n + 1) D.ne) : Cb l n (Ct l D) := by
 intro S hi hn
 have h1 := Pp hl hll hf hg S hi hn
 unfold Ct
 split
 ·exact h1
 rename_i h
 simp only [Bool.or_eq_true, not_or, Bool.not_eq_true, Bool.not_eq_false'] at h
 exact Wn h1 (Pp hl hll hf hg _ (hl.stepIs h1.lt h.2) (h1.nest.trans hn)) hl
theorem Pq {l : List Tok} {D : Fam} {n : Nat} (hl : TokEnd l) (hll : l.length ≤ 1048576) (hf : n ≠ 30 → Cb l (n + 1) D.ei) (hg : n ≠ 30 → Cb l (n + 1) D.ne) (hh : n ≠ 30 → Cb l (n + 1) D.no) : Cb l n (Lp l D) := by
 intro S hi hn
 unfold Lp
 split
 ·exact Id hl hll hf hg S hi hn
 rename_i h
 subst hn
 exact Wo (F1 (S := Aa S) _ (hl.stepIs hi (by simpa using h)) hh) 4
theorem Km {l : List Tok} (hl : TokEnd l) (hll : l.length ≤ 1048576) : ∀ (d n : Nat), n + d = 31 → n ≠ 31 → Cb l n (Cr l d).ei ∧ Cb l n (Cr l d).no ∧ Cb l n (Cr l d).ne
 | 0, n, h, h2 => by omega
 | d + 1, n, h, _ => by
  have ih : n ≠ 30 → _ := fun h30 => Km hl hll d (n + 1) (by omega) (by omega)
  have hn := Pq (D := Cr l d) (n := n) hl hll (fun h => (ih h).1) (fun h => (ih h).2.2) (fun h => (ih h).2.1)
  exact ⟨Dn hl (Dn hl hn), hn, Kl hl hll (fun h => (ih h).1) (fun h => (ih h).2.2)⟩
/-! What is printed of columns, word by word. -/
def ktT (t : Tok) : Int × Str := (t.kind, t.text)
set_option maxRecDepth 8000
abbrev TK := Int × Str
/-- What stands from word i on. -/
def seg (l : List Tok) (i : Nat) : List TK := (l.drop i).map ktT
theorem Hj (s : Str) : s ∈ levels.flatten ∨ (At s = -1 ∧ ∀ l ∈ levels, l.contains s = false) := by
 by_cases h : s ∈ levels.flatten
 ·exact .inl h
 have h2 : ∀ l ∈ levels, l.contains s = false := fun l hl => by
  rw [Bool.eq_false_iff]
  intro h3
  exact h (List.mem_flatten.2 ⟨l, hl, by simpa using h3⟩)
 refine .inr ⟨?_, h2⟩
 unfold At
 rw [List.findIdx?_eq_none_iff.2 fun l hl => h2 l hl]
/-- The texts of levels of marks. -/
def ofL (k : Nat) : Str := if k = 0 then orT else if k = 1 then Yw else if k = 3 then jd else if k = 4 then Yx else Pn
theorem dl (s : Str) : -1 ≤ At s ∧ At s ≤ 5 ∧ At s ≠ 2 := by
 rcases Hj s with h | ⟨h, _⟩
 ·have h3 : (levels.flatten.all fun s => decide (-1 ≤ At s ∧ At s ≤ 5 ∧ At s ≠ 2)) = true := by kernel_rfl
  exact of_decide_eq_true (List.all_eq_true.1 h3 s h)
 omega
/-- A row of words behind which no mark of a level, or of a tighter one, stands. -/
def dm (k : Nat) (rest : List TK) : Prop := ∀ h r, rest = h :: r → ((h.1 == 5) || (h.1 == 2)) = true → At h.2 < (k : Int) ∧ h.2 ≠ [40]
def Z1 : Str := [110, 111, 116]
def levE (e : Expr) : Nat := if e.op == 4 then 2 else if e.op == 3 then 6 else if e.op == 5 then (At e.text).toNat else 7
def je (least : Nat) (x : Expr) (T : List TK) : List TK := if least ≤ levE x then T else (5, [40]) :: (T ++ [(5, [41])])
def jf (least : Nat) (x : Expr) (n : Nat) : Nat := if least ≤ levE x then n else n + 1
def Dy (own : Nat) : Nat := if own = 3 then 4 else own
def n9 (v : Val) : TK := if v.kind == 1 then (3, D7 v) else if v.kind == 2 then (4, v.s) else (2, D7 v)
def rf (t : Str) : TK := (if Ge (t.headD 0) then 2 else 5, t)
def rg : List (List TK) → List TK
 | [] => []
 | T :: r => (5, [44]) :: (T ++ rg r)
def rh (o : Int) (t : Str) (v : Val) (k : List Expr) (ts : List (List TK)) : List TK :=
 if o == 1 then [n9 v] else if o == 2 then [(1, t)]
 else if o == 3 then (5, [45]) :: je 6 (k.getD 0 Ah) (ts.getD 0 [])
 else if o == 4 then (2, Z1) :: je 2 (k.getD 0 Ah) (ts.getD 0 [])
 else if o == 5 then je (Dy (At t).toNat) (k.getD 0 Ah) (ts.getD 0 []) ++ rf t :: je ((At t).toNat + 1) (k.getD 1 Ah) (ts.getD 1 [])
 else (1, t) :: (5, [40]) :: ((rg ts).drop 1 ++ [(5, [41])])
mutual
def Nm : Expr → List TK
 | .mk o t v k => rh o t v k (lh k)
def lh : List Expr → List (List TK)
  | [] => []
  | e :: r => Nm e :: lh r
 end
def ri : List Nat → Nat
 | [] => 0
 | n :: r => max n (ri r)
def rj (o : Int) (t : Str) (k : List Expr) (ns : List Nat) : Nat :=
 if o == 1 then 0 else if o == 2 then 0
 else if o == 3 then 1 + jf 6 (k.getD 0 Ah) (ns.getD 0 0)
 else if o == 4 then 1 + jf 2 (k.getD 0 Ah) (ns.getD 0 0)
 else if o == 5 then max (jf (Dy (At t).toNat) (k.getD 0 Ah) (ns.getD 0 0)) (jf ((At t).toNat + 1) (k.getD 1 Ah) (ns.getD 1 0))
 else 1 + ri ns
mutual
def Wp : Expr → Nat
 | .mk o t v k => rj o t k (li k)
def li : List Expr → List Nat
  | [] => []
  | e :: r => Wp e :: li r
 end
theorem jg {v : Val} (h : Gn v = true) : v = noV := by
 unfold Gn at h
 simp only [Bool.and_eq_true, beq_iff_eq] at h
 cases v
 simp_all [noV]
/-- What a right node is. -/
inductive NodeC : Expr → Prop
 | val (v : Val) (h : Bx v = true) (h0 : 0 ≤ v.n) : NodeC (Fs v)
 | name (t : Str) (h : Jd t = true) : NodeC (D8 t)
 | neg (a : Expr) : NodeC (Dk 3 a)
 | no (a : Expr) : NodeC (Dk 4 a)
 | bin (t : Str) (a b : Expr) (h : 0 ≤ At t) : NodeC (Eu t a b)
 | call (t : Str) (k : List Expr) (h : Aw t = (k.length : Int)) : NodeC (.mk 6 t noV k)
theorem Vo (o : Int) (t : Str) (v : Val) (k : List Expr) : Jm (.mk o t v k) =
 if o == 1 then ((Bx v && decide (0 ≤ v.n)) && (t == [])) && ((k.length : Int) == 0)
 else if !(Gn v) then false
 else if o == 2 then Jd t && ((k.length : Int) == 0)
 else if o == 3 || o == 4 then (t == []) && ((k.length : Int) == 1)
 else if o == 5 then decide (0 ≤ At t) && ((k.length : Int) == 2)
 else if o == 6 then Aw t == (k.length : Int)
 else false := rfl
theorem Fd {e : Expr} (h : C9 e = true) : NodeC e := by
 rw [Ss] at h
 cases e with
 | mk o t v k =>
 rw [Vo] at h
 by_cases h1 : (o == 1) = true
 ·rw [if_pos h1] at h
  simp only [Bool.and_eq_true, beq_iff_eq, decide_eq_true_eq] at h h1
  obtain ⟨⟨⟨a1, a2⟩, a3⟩, a4⟩ := h
  subst h1
  subst a3
  have : k = [] := by cases k with | nil => rfl | cons x r => simp at a4; omega
  subst this
  exact .val v a1 a2
 rw [if_neg h1] at h
 by_cases hb : (!(Gn v)) = true
 ·rw [if_pos hb] at h; cases h
 rw [if_neg hb] at h
 have hv : v = noV := jg (by simpa using hb)
 subst hv
 by_cases h2 : (o == 2) = true
 ·rw [if_pos h2] at h
  simp only [Bool.and_eq_true, beq_iff_eq] at h h2
  subst h2
  have : k = [] := by cases k with | nil => rfl | cons x r => have := h.2; simp at this; omega
  subst this
  exact .name t h.1
 rw [if_neg h2] at h
 by_cases h3 : (o == 3 || o == 4) = true
 ·rw [if_pos h3] at h
  simp only [Bool.and_eq_true, Bool.or_eq_true, beq_iff_eq] at h h3
  obtain ⟨rfl, h4⟩ := h
  match k, h4 with
  | [a], _ =>
   rcases h3 with rfl | rfl
   ·exact .neg a
   exact .no a
  | [], h4 => simp at h4
  | _ :: _ :: _, h4 => simp at h4; omega
 rw [if_neg h3] at h
 by_cases h5 : (o == 5) = true
 ·rw [if_pos h5] at h
  simp only [Bool.and_eq_true, beq_iff_eq, decide_eq_true_eq] at h h5
  subst h5
  match k, h.2 with
  | [a, b], _ => exact .bin t a b h.1
  | [], h4 => simp at h4
  | [_], h4 => simp at h4
  | _ :: _ :: _ :: _, h4 => simp at h4; omega
 rw [if_neg h5] at h
 by_cases h6 : (o == 6) = true
 ·rw [if_pos h6] at h
  simp only [beq_iff_eq] at h h6
  subst h6
  exact .call t k h
 rw [if_neg h6] at h; cases h
/-- The functions of the levels. -/
def pf (l : List Tok) (D : Fam) : Nat → PS → Expr × PS
 | 0 => Lu l D
 | 1 => Sz l D
 | 2 => Lp l D
 | 3 => Ct l D
 | 4 => Ca l D
 | 5 => Sy l D
 | 6 => Lo l D
 | _ => De l D
abbrev fam (l : List Tok) (n : Nat) : Fam := Cr l (30 - n)
def adv (S : PS) (n : Nat) : PS := ⟨S.i + n, S.nest, S.code, S.at_⟩
def T1 (l : List Tok) (x : Expr) : Prop := ∀ (k : Nat) (S : PS) (rest : List TK), k ≤ levE x → S.code = 0 → S.nest + Wp x ≤ 30 → seg l S.i = Nm x ++ rest → dm k rest → pf l (fam l S.nest) k S = (x, adv S (Nm x).length)
def T2 (l : List Tok) (x : Expr) : Prop := ∀ (k : Nat) (S : PS) (rest : List TK), (k = 0 ∨ k = 1 ∨ k = 4 ∨ k = 5) → k ≤ levE x → S.code = 0 → S.nest + Wp x ≤ 30 → seg l S.i = Nm x ++ rest → dm (k + 1) rest →
 ∃ n, l.length ≤ S.i + (Nm x).length + n ∧ Cv l (ofL k) (pf l (fam l S.nest) (k + 1)) S = Pm l (ofL k) (pf l (fam l S.nest) (k + 1)) n (x, adv S (Nm x).length)
/-! The parser from a word on, and of a source. -/
def atS (l : List Tok) (i : Nat) (r : Expr × PS) : PS := if r.2.code != 0 then r.2 else if decide ((30 : Int) < depthE r.1) then C7 18 (A9 l i).at_ r.2 else if decide ((300 : Int) < sizeE r.1) then C7 3 (A9 l i).at_ r.2 else r.2
def atR (l : List Tok) (i : Nat) : Expr × PS := Lu l (Cr l 30) ⟨i, 0, 0, 0⟩
/-- The tree, the word behind it, the fault. -/
def atM (l : List Tok) (i : Nat) : Expr × Int × Int × Int := if (atS l i (atR l i)).code != 0 then (Ah, 0, (atS l i (atR l i)).code, (atS l i (atR l i)).at_) else ((atR l i).1, ((atS l i (atR l i)).i : Int), 0, 0)
set_option maxRecDepth 4000
/-! What is printed of a schema is read. -/
theorem tz (c : List Col) (Hp : List AObj) : AFun Tryz.prog 8 [C3 c] Hp (Al (Kx c)) := by
 refine ACall.body [.tmp 2] [0] Tryz.func8 Tryz.ntmps8 (fun d => ?_)
 refine Z88 ?_;refine Z9 ?_;refine Uc ?_;refine R.fin [0, 6] ?_
 refine W.cond (fun ht6 => ?_) (fun ht6 => ?_)
 ·refine Z56 ?_;refine K.thR ?_;exact K.fin (V.one V.tmp) ⟨by simp [Kx] at ht6 ⊢; omega, rfl⟩
 refine Z5 ?_;refine Um ?_;refine Lm ?_
 refine AW.loopC (α := Nat) (fun x => ⟨20, A5 0 (C3 c) (A5 3 (A4 (x : Nat)) (fun _ => .any)), Hp, [], [], none⟩) (fun x => x ≤ c.length ∧ ∀ (j : Nat) (y : Col), j < x → c[j]? = some y → decide ((100 : Int) < y.name.length) = false) (fun x => c.length - x) (0) (by simp) (StLe.refl _) rfl (fun x hx => ?_)
 refine Y6 ?_;refine R.fin [0, 3, 10] ?_
 refine W.cond (fun ht10 => ?_) (fun ht10 => ?_)
 ·have hlt : x < c.length := by simpa using ht10
  have hcl : c.length ≤ 50 := by simp at ht6; omega
  refine Z5 ?_;refine Z27 ?_;refine Z29 ?_;refine mj ?_;refine R.fieldAddrRo (off := 0) jU Tryz.sizeOf9 ?_;refine Cp ?_;refine Ua ?_;refine R.fin [0, 3, 19] ?_
  refine W.cond (fun ht19 => ?_) (fun ht19 => ?_)
  ·refine Z56 ?_;refine Og ?_;exact K.fin (V.one V.tmp) ⟨by rw [show Kx c = true from by unfold Kx; rw [mp (p := fun y : Col => decide ((100 : Int) < y.name.length)) hlt ht19, Bool.or_true]], rfl⟩
  refine Z17 ?_;refine Ui ?_;refine Lm ?_;exact K.lpN (x + 1) ⟨hlt, Db hlt hx.2 ht19⟩ (by omega) (StCut.of_eq rfl)
 refine Oj ?_;refine Z56 ?_;exact K.fin (V.one V.tmp) ⟨by rw [show Kx c = false from by unfold Kx; rw [cj (Ha (by simp at ht10; omega) hx.2)]; simpa using ht6], rfl⟩
theorem jh {c : List Col} (h : Kx c = false) : OkCols c := by
 unfold Kx at h
 simp only [Bool.or_eq_false_iff, decide_eq_false_iff_not, List.any_eq_false, decide_eq_true_eq] at h
 refine ⟨by omega, fun y hy => ?_⟩
 have := h.2 y hy
 omega
/-! What went and came, taken back: the same columns. -/
theorem find_mem {nm : Str} {c : List Col} : ¬ (C4 nm c < 0) ↔ ∃ (j : Nat) (y : Col), c[j]? = some y ∧ y.name = nm ∧ C4 nm c = (j : Int) := by
 unfold C4
 cases h : c.findIdx? (fun y => y.name == nm) with
 | none =>
  constructor
  ·intro h'; exact absurd (by decide) h'
  rintro ⟨j, y, _, _, e⟩
  exact absurd (show (-1 : Int) = (j : Int) from e) (by omega)
 | some i =>
  rw [List.findIdx?_eq_some_iff_getElem] at h
  obtain ⟨hi, e, _⟩ := h
  constructor
  ·intro _; exact ⟨i, c[i], List.getElem?_eq_getElem hi, by simpa using e, rfl⟩
  intro _ h'
  have : (i : Int) < 0 := h'
  omega
set_option maxRecDepth 8000
/-! The words of a print. -/
/-- What a node asks of its kids, and what it is. -/
structure Sign where
 kids : List Int
 own : Int
def A2 (s : Str) : Sign := if (s == [111, 114]) || (s == [97, 110, 100]) then ⟨[3, 3], 3⟩ else if (((((s == [61]) || (s == [33, 61])) || (s == [60])) || (s == [60, 61])) || (s == [62])) || (s == [62, 61]) then ⟨[-1, -1], 3⟩ else if s == [38] then ⟨[2, 2], 2⟩ else ⟨[1, 1], 1⟩
def A3 (s : Str) : Sign := if (s == [108, 101, 110]) || (s == [110, 117, 109]) then ⟨[2], 1⟩ else if s == [115, 116, 114] then ⟨[1], 2⟩ else if (s == [108, 101, 102, 116]) || (s == [114, 105, 103, 104, 116]) then ⟨[2, 1], 2⟩ else if s == [105, 115, 110, 117, 108, 108] then ⟨[-2], 3⟩ else if s == [110, 118, 108] then ⟨[-1, -1], -1⟩ else ⟨[3, -1, -1], -1⟩
def Bw (o : Int) (t : Str) : Sign := if o == 3 then ⟨[1], 1⟩ else if o == 4 then ⟨[3], 3⟩ else if o == 5 then A2 t else A3 t
def By (a b : Int) : Int × Bool := if a == 0 then (b, true) else if (b == 0) || (a == b) then (a, true) else (0, false)
def Nn : List Int → List Int → Int → Option Int
 | _, [], c => some c
 | [], _ :: _, _ => none
 | w :: ws, k :: ks, c => if w == -2 then Nn ws ks c else if w == -1 then (if (By c k).2 then Nn ws ks (By c k).1 else none) else if (By w k).2 then Nn ws ks c else none
def T6 (s : Sign) (ks : List Int) : Int × Int := match Nn s.kids ks 0 with | none => (0, 10) | some c => if s.own == -1 then (c, 0) else (s.own, 0)
def T7 (c : List Col) (t : Str) : Int × Int := if C4 t c < 0 then (0, 9) else ((c.getD (C4 t c).toNat ⟨[], 0⟩).kind, 0)
def Pr (c : List Col) (o : Int) (t : Str) (v : Val) (ks : List (Int × Int)) : Int × Int :=
 if o == 1 then (v.kind, 0) else if o == 2 then T7 c t else match ks.find? (fun q => q.2 != 0) with | some q => (0, q.2) | none => T6 (Bw o t) (ks.map (·.1))
mutual
def Cw (c : List Col) : Expr → Int × Int
 | .mk o t v k => Pr c o t v (Wq c k)
def Wq (c : List Col) : List Expr → List (Int × Int)
  | [] => []
  | e :: r => Cw c e :: Wq c r
 end
theorem Ps (c : List Col) : ∀ l, Wq c l = l.map (Cw c)
 | [] => rfl
 | e :: r => by rw [Wq, Ps c r]; rfl
theorem Jp (c : List Col) (e : Expr) : Cw c e = Pr c e.op e.text e.val (e.kids.map (Cw c)) := by cases e; rw [Cw, Ps]; rfl
/-- infer.Kind. -/
def Gp (e : Expr) (c : List Col) : Int × Int := if (!(Bc e)) || !(Jj c) then (0, 1) else Cw c e
/-! The signs have as many as the nodes have kids. -/
theorem Vp (s : Str) : (A2 s).kids.length = 2 := by unfold A2; (repeat' split) <;> rfl
theorem Vq {t : Str} {n : Nat} (h : Aw t = (n : Int)) : (A3 t).kids.length = n := by
 rw [show Aw t = Aw t from rfl] at h
 by_cases hm : t ∈ arityList.map (·.1)
 ·have : ((arityList.map (·.1)).all fun s => decide (((A3 s).kids.length : Int) = Aw s)) = true := by kernel_rfl
  have := of_decide_eq_true (List.all_eq_true.1 this t hm)
  omega
 have h1 : Aw t = -1 := by
  unfold Aw
  rw [List.find?_eq_none.2 fun p hp => by
   simp only [beq_iff_eq]
   rintro rfl
   exact hm (List.mem_map.2 ⟨p, hp, rfl⟩)]
 omega
theorem dn {e : Expr} (h : C9 e = true) (h1 : (e.op == 1) = false) (h2 : (e.op == 2) = false) : (Bw e.op e.text).kids.length = e.kids.length := by
 unfold C9 at h
 rw [h1, h2] at h
 simp only [Bool.false_eq_true, if_false] at h
 unfold Bw
 by_cases h3 : (e.op == 3) = true
 ·rw [h3] at h
  simp only [Bool.true_or, if_true, Bool.and_eq_true, beq_iff_eq] at h
  rw [if_pos h3]
  show 1 = _
  omega
 have h3' : (e.op == 3) = false := by simpa using h3
 rw [if_neg h3]
 rw [h3'] at h
 by_cases h4 : (e.op == 4) = true
 ·rw [h4] at h
  simp only [Bool.false_or, if_true, Bool.and_eq_true, beq_iff_eq] at h
  rw [if_pos h4]
  show 1 = _
  omega
 have h4' : (e.op == 4) = false := by simpa using h4
 rw [if_neg h4]
 rw [h4'] at h
 simp only [Bool.or_false, Bool.false_eq_true, if_false] at h
 by_cases h5 : (e.op == 5) = true
 ·rw [h5] at h
  simp only [if_true, Bool.and_eq_true, beq_iff_eq] at h
  rw [if_pos h5, Vp]
  omega
 have h5' : (e.op == 5) = false := by simpa using h5
 rw [if_neg h5]
 rw [h5'] at h
 simp only [Bool.false_eq_true, if_false] at h
 by_cases h6 : (e.op == 6) = true
 ·rw [h6] at h
  simp only [if_true, Bool.and_eq_true, beq_iff_eq] at h
  exact Vq h.2
 have h6' : (e.op == 6) = false := by simpa using h6
 rw [h6'] at h
 cases h
/-! More columns. -/
/-! A tree in a column's place. -/
set_option maxRecDepth 4000
abbrev pr (l : List Tok) (S : PS) : AObj := .cells 154 [.slice false 3 (l.map Et), A4 (S.i : Int), A4 (S.nest : Int), A4 S.code, A4 S.at_]
theorem Bg {n : Nat} {l : List Tok} {S : PS} : ObjLow n (pr l S) := by
 show ∀ y ∈ [AV.slice false 3 (l.map Et), A4 (S.i : Int), A4 (S.nest : Int), A4 S.code, A4 S.at_], Low n y
 intro y hy
 simp only [List.mem_cons, List.not_mem_nil, or_false] at hy
 rcases hy with rfl | rfl | rfl | rfl | rfl
 ·simp [or_imp, forall_and]
 all_goals simp
theorem T8 (o : Int) (t : Str) (v : Val) : Le (.agg [A4 o, A8 t, A4 v.kind, A4 v.n, A8 v.s, .nil]) (Ab (.mk o t v [])) := by
 rw [Af]
 refine .agg _ _ rfl (by simp [AV.one, Value.oneCell', sv]) fun i y y' h1 h2 => ?_
 match i with
 | 0 => simp at h1 h2; subst h1; subst h2; exact .inl rfl
 | 1 => simp at h1 h2; subst h1; subst h2; exact .inl rfl
 | 2 => simp at h1 h2; subst h1; subst h2; exact .inl rfl
 | 3 => simp at h1 h2; subst h1; subst h2; exact .inl rfl
 | 4 => simp at h1 h2; subst h1; subst h2; exact .inl rfl
 | 5 => simp at h1 h2; subst h1; subst h2; exact .inr ⟨rfl, 6, rfl⟩
 | i + 6 => simp at h1
theorem No : Le (.agg [A4 0, A8 [], A4 0, A4 0, A8 [], .nil]) (Ab Ah) := T8 0 [] noV
theorem u1 (l : List Tok) (S : PS) (o : Nat) (Hp : List AObj) (ho : Hp[o]? = some (pr l S)) (hi : S.i < l.length) : AFun Tryz.prog 199 [.ptr o 0] Hp (Et (A9 l S.i)) := by
 refine ACall.body [.cell 2 82] [0] Tryz.func199 Tryz.ntmps199 (fun d => ?_)
 refine Z85 ?_;refine W.draw [0, 1, 3, 7, 0, 16, 48, 112, 255, 511, 1023] 8 Ae (by kernel_rfl) ?_;refine ii ?_;refine Z72 ?_;refine D.loadUp jA ho ?_;refine D.tail ?_;refine R.indexAddr (S.i) (Et (A9 l S.i)) jU jS (Is hi) ?_;refine Dq ?_;exact ma

theorem T9 (l : List Tok) (S : PS) (of : Str) (o : Nat) (Hp : List AObj) (ho : Hp[o]? = some (pr l S)) (hi : S.i < l.length) (hl : TokEnd l) (hof : of.length ≤ 1048576) : AFun Tryz.prog 170 [.ptr o 0, A8 of] Hp (Al (isM l of S)) := by
 refine ACall.body [.tmp 4] [0, 1] Tryz.func170 Tryz.ntmps170 (fun d => ?_)
 refine Z73 ?_;refine Z0 ?_;refine gm ?_;refine R.fin [1, 5] ?_;refine Y4 ?_;refine Mi ?_;refine Z74 ?_;refine G.eql ?_;refine R.pickOr ?_;refine Au ?_;refine G.fieldAddrPtr (fo := 1) jU Tryz.sizeOf9 ?_;refine G.loadOwn jA ?_;refine G.move ?_;refine G.call Tryz.call128 (fun hB => r6 (A9 l S.i).text of (hl.text _) hof _) ?_;refine Z32 ?_;exact gv

theorem c171 (l : List Tok) (S : PS) (o : Nat) (Hp : List AObj) (ho : Hp[o]? = some (pr l S)) (hi : S.i < l.length) (hll : l.length ≤ 1048576) : ACall Tryz.prog 171 [.ptr o 0] Hp (fun r H' => r = Et (A9 l S.i) ∧ H' = Hp.set o (pr l (Aa S))) := by
 refine ACall.body [.cell 2 82] [0] Tryz.func171 Tryz.ntmps171 (fun d => ?_)
 refine Z85 ?_;refine Z0 ?_;refine gm ?_;refine bn ?_;refine Z42 ?_;refine i8 ?_;refine Z42 ?_
 refine R.storeUp jS ho ?_ ?_
 ·simp
 refine R.fin [2, 3] ?_;refine Z28 ?_;exact ma

theorem Za (l : List Tok) (S : PS) (e a : Int) (o : Nat) (Hp : List AObj) (ho : Hp[o]? = some (pr l S)) : ACall Tryz.prog 110 [.ptr o 0, A4 e, A4 a] Hp (fun r H' => r = Ab Ah ∧ H' = Hp.set o (pr l (C7 e a S))) := by
 refine ACall.body [.cell 6 27] [0, 1, 2] Tryz.func110 Tryz.ntmps110 (fun d => ?_)
 refine ia ?_;refine Z9 ?_;refine Qq ?_;refine R.loadUp jA ho ?_;refine R.eql ?_;refine R.fin [0, 1, 2, 6, 12] ?_
 refine W.cond (fun ht12 => ?_) (fun ht12 => ?_)
 ·have e : C7 e a S = ⟨S.i, S.nest, e, a⟩ := if_pos ht12
  refine Z26 ?_;refine Z76 ?_;refine Us ?_;refine R.nilPtr ?_;refine R.fieldAddrPtr (fo := 3) jU Tryz.sizeOf50 ?_
  refine R.storeUp jS ho ?_ ?_
  ·simp
  refine R.fin [6] ?_;refine K.thN ?_;refine B9 ?_;refine ou ?_;refine Y5 ?_;exact K.fin (V.one (V.cellN jA jS)) ⟨rfl, by rw [e]⟩ (hlow := Ak _ Ah)
 have e : C7 e a S = S := if_neg (by rw [ht12]; simp)
 refine Lk ?_;refine ou ?_;refine Y5 ?_;exact K.fin (V.one (V.cellN jA jS)) ⟨rfl, by rw [e]; exact (B5 ho).symm⟩ (hlow := Ak _ Ah)

theorem rk (v : Val) (Hp : List AObj) : AFun Tryz.prog 259 [Bl v] Hp (Ab (Fs v)) := by
 refine ACall.body [.cell 2 27] [0] Tryz.func259 Tryz.ntmps259 (fun d => ?_)
 refine Z24 ?_;refine R.alloc jZ ?_;refine R.fin [1, 2] ?_;refine Z57 ?_;refine S6 ?_;refine R.wk 4 _ (T8 1 [] v) ?_;refine Z6 ?_;exact K.fin (V.one (V.cellN jA jS)) ⟨rfl, rfl⟩ (hlow := Ak _ (Fs v))

theorem rl (l : List Tok) (S : PS) (s : Str) (o : Nat) (Hp : List AObj) (ho : Hp[o]? = some (pr l S)) (hi : S.i < l.length) (hll : l.length ≤ 1048576) : ACall Tryz.prog 261 [.ptr o 0, A8 s] Hp (fun r H' => r = .v (.tuple #[]) ∧ H' = Hp.set o (pr l (Cs l s S))) := by
 refine ACall.body [] [0, 1] Tryz.func261 Tryz.ntmps261 (fun d => ?_)
 refine Z9 ?_;refine Qq ?_;refine R.loadUp jA ho ?_;refine R.neq ?_;refine R.fin [0, 1, 10] ?_
 refine W.cond (fun ht10 => ?_) (fun ht10 => ?_)
 ·have e : Cs l s S = S := if_pos ht10
  refine Z11 ?_;exact K.fin .nores (hp := ⟨rfl, by rw [e]; exact (B5 ho).symm⟩)
 have e0 : ¬ (S.code != 0) = true := by rw [ht10]; simp
 refine Z5 ?_;refine Z9 ?_;refine gm ?_;refine R.fin [0, 1, 4] ?_;refine Y4 ?_;refine R.neq ?_;refine Au ?_;refine G.fieldAddrPtr (fo := 1) jU Tryz.sizeOf9 ?_;refine G.loadOwn jA ?_;refine G.move ?_;refine G.sneq ?_;refine R.pickOr ?_;refine R.fin [0, 4, 21] ?_
 refine W.cond (fun ht21 => ?_) (fun ht21 => ?_)
 ·have e : Cs l s S = C7 8 (A9 l S.i).at_ S := by unfold Cs; rw [if_neg e0, if_pos ht21]
  refine Z0 ?_;refine pc ?_;refine bv ?_;exact K.fin .nores (hp := ⟨rfl, by rw [e]⟩)
 have e : Cs l s S = Aa S := by unfold Cs; rw [if_neg e0, if_neg (by rw [ht21]; simp)]
 refine gy ?_;refine Z42 ?_;refine i8 ?_;refine Z42 ?_
 refine R.storeUp jS ho ?_ ?_
 ·simp
 refine R.fin [] ?_;exact K.finN .nores (hp := ⟨rfl, by rw [e]; rfl⟩)

/-- The contract of one of the parser's functions. -/
def PC (g : FuncId) (l : List Tok) (f : PS → Expr × PS) (n : Nat) : Prop := ∀ (o : Nat) (Hp : List AObj) (S : PS), Hp[o]? = some (pr l S) → S.i < l.length → S.nest = n → ACall Tryz.prog g [.ptr o 0] Hp (fun r H' => r = Ab (f S).1 ∧ H' = Hp.set o (pr l (f S).2))
abbrev Ft : AObj := .cells 27 [A4 0, A8 [], A4 0, A4 0, A8 [], .nil]
theorem Wr {n : Nat} : ObjLow n Ft := by
 show ∀ y ∈ [A4 0, A8 [], A4 0, A4 0, A8 [], AV.nil], Low n y
 simp
theorem ji {n : Nat} (e : Expr) : ObjLow n (.cells 27 (E3 e)) := by
 have h := Ak n e
 rw [Af] at h
 show ∀ y ∈ E3 e, Low n y
 intro y hy
 cases h with
 | agg _ h => exact h y hy
theorem jj (l : List Tok) (S : PS) (a : Int) (g : FuncId) (first caps : List AV) (x : Expr) (S2 : PS) (o : Nat) (Hp Hx : List AObj) (ho : Hp[o]? = some (pr l S)) (hnl : S.nest ≤ 1048576) (hgc : ∀ args w, (callFunc g args).run Tryz.prog w = .ok (.enter g args) w) (hxl : Hx.length = Hp.length) (hxo : Hx[o]? = some (pr l S2)) (hn2 : S2.nest = S.nest + 1) (hlow : (∀ y ∈ Hp.set o (pr l (Bo S)), ObjLow Hp.length y) → ∀ y ∈ Hx, ObjLow Hp.length y) (hcf : S.nest ≠ 30 → ∀ own, ACall Tryz.prog g (first ++ caps) (Hp.set o (pr l (Bo S)) ++ own) (fun y H' => y = Ab x ∧ H' = Hx ++ own)) : ACall Tryz.prog 201 [.ptr o 0, A4 a, .fn (.func g) first caps] Hp (fun r H' => (S.nest = 30 → r = Ab Ah ∧ H' = Hp.set o (pr l (C7 18 a S))) ∧ (S.nest ≠ 30 → r = Ab x ∧ H' = Hx.set o (pr l (Pl S2)))) := by
 refine ACall.body [.cell 6 27] [0, 1, 2] Tryz.func201 Tryz.ntmps201 (fun d => ?_)
 refine ia ?_;refine Z9 ?_;refine bb ?_;refine R.loadUp jA ho ?_;refine R.eql ?_;refine R.fin [0, 1, 2, 6, 12] ?_
 refine W.cond (fun ht12 => ?_) (fun ht12 => ?_)
 ·have hn30 : S.nest = 30 := by have := ht12; simp at this; omega
  refine Z29 ?_;refine R.callUp Tryz.call110 ho (by simp) Bg (Za l S 18 a o _ (Ac ho)) ?_;refine gh ?_;refine Z11 ?_;exact K.fin (V.one (V.cellN jA jS)) ⟨fun _ => ⟨by rw [Af], rfl⟩, fun h => absurd hn30 h⟩ (hlow := by have := Ak Hp.length Ah; rw [Af] at this; simpa using this)
 have hn30 : S.nest ≠ 30 := by have := ht12; simp at this; omega
 refine I7 ?_;refine bb ?_;refine i8 ?_;refine bb ?_
 refine R.storeUp jS ho ?_ ?_
 ·simp
 refine R.fin [0, 2, 6] ?_;refine Z0 ?_
 refine R.callVX (up' := Hx) (own' := [Ft]) hgc (hcf hn30 [Ft]) (by simpa using hxl) (by rw [List.length_set]; exact hlow) ?_
 rw [← hxl]
 refine Z16 ?_;refine R.fin [0, 6, 7] ?_;refine Z0 ?_;refine bb ?_;refine R.loadUp jA hxo ?_;refine R.sub64 ?_;refine bb ?_
 refine R.storeUp jS hxo ?_ ?_
 ·simp
 refine R.fin [6, 7] ?_;refine Z28 ?_;refine Y5 ?_;exact K.fin (V.one (V.cellN jA jS)) ⟨fun h => absurd h hn30, fun _ => ⟨by rw [Af], by rw [show ((S2.nest : Int) - 1) = ((Pl S2).nest : Int) by show _ = ((S2.nest - 1 : Nat) : Int); omega]; rfl⟩⟩ (hlow := by have := Ak Hx.length x; rw [Af] at this; simpa using this)

theorem Zb (t : Str) (a b : Expr) : E3 (Eu t a b) = [A4 5, .v (sv t), A4 0, A4 0, A8 [], .slice false 6 [Ab a, Ab b]] := rfl
theorem jk {n : Nat} (t : Str) (a b : Expr) : ObjLow n (.cells 27 [A4 5, .v (sv t), A4 0, A4 0, A8 [], .slice false 6 [Ab a, Ab b]]) := ji (Eu t a b)
theorem jl {n : Nat} {U : List AObj} {i : Nat} {x : AObj} (h : ∀ y ∈ U, ObjLow n y) (hx : ObjLow n x) : ∀ y ∈ U.set i x, ObjLow n y := by
 intro y hy
 rcases List.mem_or_eq_of_mem_set hy with h1 | h1
 ·exact h y h1
 rw [h1]; exact hx
/-- within, with a method's value. -/
theorem dp {g : FuncId} (hgc : ∀ args w, (callFunc g args).run Tryz.prog w = .ok (.enter g args) w) (l : List Tok) (S : PS) (a : Int) (f : PS → Expr × PS) (o : Nat) (Hp : List AObj) (ho : Hp[o]? = some (pr l S)) (hi : S.i < l.length) (hnl : S.nest ≤ 30) (hf : S.nest ≠ 30 → Cb l (S.nest + 1) f) (hcf : S.nest ≠ 30 → PC g l f (S.nest + 1)) :
  ACall Tryz.prog 201 [.ptr o 0, A4 a, .fn (.func g) [.ptr o 0] []] Hp (fun r H' => r = Ab (B3 a f S).1 ∧ H' = Hp.set o (pr l (B3 a f S).2)) := by
 have hlt := (List.getElem?_eq_some_iff.1 ho).1
 by_cases h30 : S.nest = 30
 ·refine (jj l S a g [.ptr o 0] [] Ah (Bo S) o Hp (Hp.set o (pr l (Bo S))) ho (by omega) hgc (by simp) (by simp [hlt]) rfl (fun h => h) (fun h => absurd h30 h)).mono fun r H' h => ?_
  have e : B3 a f S = (Ah, C7 18 a S) := if_pos (by rw [h30]; rfl)
  rw [e]
  exact h.1 h30
 have hq := hf h30 (Bo S) hi rfl
 refine (jj l S a g [.ptr o 0] [] (f (Bo S)).1 (f (Bo S)).2 o Hp (Hp.set o (pr l (f (Bo S)).2)) ho (by omega) hgc (by simp) (by simp [hlt]) hq.nest (fun h y hy => ?_) (fun _ own => ?_)).mono fun r H' h => ?_
 ·rcases List.mem_or_eq_of_mem_set hy with h1 | h1
  ·obtain ⟨i, hi', rfl⟩ := List.getElem_of_mem h1
   by_cases hio : i = o
   ·subst hio
    have : Hp[i] = pr l S := by rw [List.getElem?_eq_getElem hi'] at ho; injection ho
    rw [this]; exact Bg
   refine h _ ?_
   rw [List.mem_iff_getElem?]
   exact ⟨i, by rw [List.getElem?_set_ne (Ne.symm hio), List.getElem?_eq_getElem hi']⟩
  rw [h1]; exact Bg
 ·have hg : (Hp.set o (pr l (Bo S)) ++ own)[o]? = some (pr l (Bo S)) := Ac (by simp [hlt])
  refine (hcf h30 o (Hp.set o (pr l (Bo S)) ++ own) (Bo S) hg hi rfl).mono fun r H' h => ⟨h.1, h.2.trans ?_⟩
  rw [List.set_append_left _ _ (by simpa using hlt), List.set_set]
 have e : B3 a f S = ((f (Bo S)).1, Pl (f (Bo S)).2) := if_neg (by
  show ¬ (((S.nest : Int) == 30) = true)
  simp
  omega)
 rw [e]
 obtain ⟨h1, h2⟩ := h.2 h30
 exact ⟨h1, by rw [h2, List.set_set]⟩
theorem jm {g : FuncId} (hgc : ∀ args w, (callFunc g args).run Tryz.prog w = .ok (.enter g args) w) (l : List Tok) (S : PS) (of : Str) (hof : of.length ≤ 1048576) (f : PS → Expr × PS) (o : Nat) (Hp : List AObj) (ho : Hp[o]? = some (pr l S)) (hi : S.i < l.length) (hl : TokEnd l) (hll : l.length ≤ 1048576) (hf : Cb l S.nest f) (hcf : PC g l f S.nest) : ACall Tryz.prog 141 [.ptr o 0, A8 of, .fn (.func g) [.ptr o 0] []] Hp (fun r H' => r = Ab (Cv l of f S).1 ∧ H' = Hp.set o (pr l (Cv l of f S).2)) := by
 have holt := (List.getElem?_eq_some_iff.1 ho).1
 refine ACall.body [.cell 6 27] [0, 1, 2] Tryz.func141 Tryz.ntmps141 (fun d => ?_)
 refine ia ?_;refine Z0 ?_;refine R.callVUp hgc ho (by simp) Bg (hcf o _ S (Ac ho) hi rfl) ?_;refine Z16 ?_;refine R.fin [0, 1, 2, 6, 7] ?_;refine W.seq ?_
 refine AW.loopC (α := Expr × PS) (fun r => ⟨32, A5 0 (.ptr o 0) (A5 1 (A8 of) (A5 2 (.fn (.func g) [.ptr o 0] []) (A5 6 (.ptr (oid Hp.length 0) 0) (A5 7 (.ptr (oid Hp.length 1) 0) (fun _ => .any))))), Hp.set o (pr l r.2), [.cells 27 [A4 0, A8 [], A4 0, A4 0, A8 [], .nil], .cells 27 (E3 r.1)], [], none⟩) (fun r => LeftAt l of f S r) (fun r => l.length - r.2.i) (f S) (.start (hf S hi rfl)) (StLe.of_eq (by simp)) rfl (fun r hx => ?_)
 refine Z9 ?_;refine Qq ?_;refine R.loadUp jA (Ad ho) ?_;refine R.eql ?_;refine K6 ?_;refine G.call Tryz.call170 (fun hB => T9 l r.2 of o _ (Ac (Ad ho)) hx.fact.lt hl hof) ?_;refine R.pickAnd ?_;refine R.fin [0, 1, 2, 6, 7, 21] ?_
 refine W.cond (fun ht21 => ?_) (fun ht21 => ?_)
 ·have hon := hx.on hl ht21 hf
  have hle := hon.2.1.le
  have hlt0 := hx.fact.lt
  have hU1 : (Hp.set o (pr l r.2)).set o (pr l (Aa r.2)) = Hp.set o (pr l (Aa r.2)) := List.set_set ..
  refine Z5 ?_;refine Es ?_;refine Z0 ?_;refine R.callUp Tryz.call171 (Ad ho) (by simp) Bg (c171 l r.2 o _ (Ac (Ad ho)) hx.fact.lt hll) ?_;refine Z16 ?_;refine R.fin [0, 1, 2, 6, 7, 8] ?_;refine W.drawY0 [0, 1, 0, 0, 8, 28, 63, 127] [4] [.q 4 [] [], .s [28] (some 0) [] [], .q 1 [0] []] (fun B => Hp.set o (if B 0 = true then pr l (f (Aa r.2)).2 else pr l (Aa r.2))) (fun _ => [.cells 27 [A4 0, A8 [], A4 0, A4 0, A8 [], .nil], .cells 27 (E3 r.1), .cells 82 [A4 (A9 l r.2.i).kind, A8 (A9 l r.2.i).text, A4 (A9 l r.2.i).at_]]) Ae (by kernel_rfl) (by simp [List.set_set]) rfl (fun B => by simp) ?_
  apply Y.q
  case h1 =>
   intro B hT hF
   refine D.fieldAddrPtr (fo := 1) jU Tryz.sizeOf9 ?_;refine D.loadOwn jA ?_;refine S7 ?_;refine D.move ?_;exact Jc
  case hTF => decide
  refine Y.callVUp (r := Ab (f (Aa r.2)).1) (o := o) (x0 := pr l (Aa r.2)) (x := pr l (f (Aa r.2)).2) hgc (fun B hT hF hB => ⟨by simp only [hB]; exact Ad ho, by simp [upd], rfl, Bg, ?_⟩) ?_
  ·simp only [hB]
   exact hcf o _ (Aa r.2) (Ac (Ad ho)) hon.1 hx.fact.nest
  apply Y.q
  case h1 =>
   intro B hT hF
   exact Z92
  case hTF => decide
  refine Y.tail (tn := [4]) (U := Hp.set o (pr l (f (Aa r.2)).2)) ?_;refine S6 ?_;refine Dh ?_;refine R.fin [0, 1, 2, 6, 7] ?_;refine K.blN ?_
  refine K.lpN (Eu (A9 l r.2.i).text r.1 (f (Aa r.2)).1, (f (Aa r.2)).2) hon.2.2 (by show l.length - (f (Aa r.2)).2.i < l.length - r.2.i; have : r.2.i + 1 ≤ (f (Aa r.2)).2.i := hle; omega) ?_
  simp only [Zb]
  have hlow2 := fun n => jk (n := n) (A9 l r.2.i).text r.1 (f (Aa r.2)).1
  simp only [Af] at hlow2 ⊢
  exact StCut.take (fun _ => .refl _) (by repeat (first | exact B7 | refine B6 (by simp [oid] <;> omega) ?_)) (by intro y hy; rcases List.mem_cons.1 hy with rfl | hy; exact Wr; rw [List.mem_singleton.1 hy]; exact hlow2 _) (by simp)
 have hout := hx.out (by rw [ht21]; simp)
 refine Oj ?_;refine Z28 ?_;refine Y5 ?_;exact K.fin (V.one (V.cellN jA jS)) ⟨by rw [hout, Af], by rw [hout]⟩ (hlow := by have := Ak (Hp.set o (pr l r.2)).length r.1; rw [Af] at this; simpa using this)

theorem u6 (l : List Tok) (S : PS) (f : PS → Expr × PS) (o : Nat) (Hp : List AObj) (ho : Hp[o]? = some (pr l S)) (hi : S.i < l.length) (hl : TokEnd l) (hll : l.length ≤ 1048576) (hf : Cb l S.nest f) (hcf : PC 142 l f S.nest) : ACall Tryz.prog 108 [.ptr o 0] Hp (fun r H' => r = Ab (Cv l orT f S).1 ∧ H' = Hp.set o (pr l (Cv l orT f S).2)) := by
 refine ACall.body [.cell 2 27] [0] Tryz.func108 Tryz.ntmps108 (fun d => ?_)
 refine Z85 ?_;refine Z29 ?_;refine R.makeFunc ?_;refine R.callUp Tryz.call141 ho (by simp) Bg (jm Tryz.call142 l S orT (by decide) f o _ (Ac ho) hi hl hll hf hcf) ?_;refine Z6 ?_;exact K.fin (V.one (V.cellN jA jS)) ⟨by rw [Af], rfl⟩ (hlow := by have := Ak Hp.length (Cv l orT f S).1; rw [Af] at this; simpa using this)

theorem u7 (l : List Tok) (S : PS) (f : PS → Expr × PS) (o : Nat) (Hp : List AObj) (ho : Hp[o]? = some (pr l S)) (hi : S.i < l.length) (hl : TokEnd l) (hll : l.length ≤ 1048576) (hf : Cb l S.nest f) (hcf : PC 172 l f S.nest) : ACall Tryz.prog 142 [.ptr o 0] Hp (fun r H' => r = Ab (Cv l Yw f S).1 ∧ H' = Hp.set o (pr l (Cv l Yw f S).2)) := by
 refine ACall.body [.cell 2 27] [0] Tryz.func142 Tryz.ntmps142 (fun d => ?_)
 refine Z85 ?_;refine Z29 ?_;refine R.makeFunc ?_;refine R.callUp Tryz.call141 ho (by simp) Bg (jm Tryz.call172 l S Yw (by decide) f o _ (Ac ho) hi hl hll hf hcf) ?_;refine Z6 ?_;exact K.fin (V.one (V.cellN jA jS)) ⟨by rw [Af], rfl⟩ (hlow := by have := Ak Hp.length (Cv l Yw f S).1; rw [Af] at this; simpa using this)

theorem ua (l : List Tok) (S : PS) (f : PS → Expr × PS) (o : Nat) (Hp : List AObj) (ho : Hp[o]? = some (pr l S)) (hi : S.i < l.length) (hl : TokEnd l) (hll : l.length ≤ 1048576) (hf : Cb l S.nest f) (hcf : PC 236 l f S.nest) : ACall Tryz.prog 221 [.ptr o 0] Hp (fun r H' => r = Ab (Cv l Yx f S).1 ∧ H' = Hp.set o (pr l (Cv l Yx f S).2)) := by
 refine ACall.body [.cell 2 27] [0] Tryz.func221 Tryz.ntmps221 (fun d => ?_)
 refine Z85 ?_;refine Z29 ?_;refine R.makeFunc ?_;refine R.callUp Tryz.call141 ho (by simp) Bg (jm Tryz.call236 l S Yx (by decide) f o _ (Ac ho) hi hl hll hf hcf) ?_;refine Z6 ?_;exact K.fin (V.one (V.cellN jA jS)) ⟨by rw [Af], rfl⟩ (hlow := by have := Ak Hp.length (Cv l Yx f S).1; rw [Af] at this; simpa using this)

theorem ub (l : List Tok) (S : PS) (f : PS → Expr × PS) (o : Nat) (Hp : List AObj) (ho : Hp[o]? = some (pr l S)) (hi : S.i < l.length) (hl : TokEnd l) (hll : l.length ≤ 1048576) (hf : Cb l S.nest f) (hcf : PC 243 l f S.nest) : ACall Tryz.prog 236 [.ptr o 0] Hp (fun r H' => r = Ab (Cv l Pn f S).1 ∧ H' = Hp.set o (pr l (Cv l Pn f S).2)) := by
 refine ACall.body [.cell 2 27] [0] Tryz.func236 Tryz.ntmps236 (fun d => ?_)
 refine Z85 ?_;refine Z29 ?_;refine R.makeFunc ?_;refine R.callUp Tryz.call141 ho (by simp) Bg (jm Tryz.call243 l S Pn (by decide) f o _ (Ac ho) hi hl hll hf hcf) ?_;refine Z6 ?_;exact K.fin (V.one (V.cellN jA jS)) ⟨by rw [Af], rfl⟩ (hlow := by have := Ak Hp.length (Cv l Pn f S).1; rw [Af] at this; simpa using this)

/-- What is so of the functions one nest deeper. -/
structure DeepC (l : List Tok) (Dv : Fam) (n : Nat) : Prop where
 ei : n ≠ 30 → Cb l (n + 1) Dv.ei ∧ PC 108 l Dv.ei (n + 1)
 no : n ≠ 30 → Cb l (n + 1) Dv.no ∧ PC 172 l Dv.no (n + 1)
 ne : n ≠ 30 → Cb l (n + 1) Dv.ne ∧ PC 243 l Dv.ne (n + 1)
theorem Lv (op : Int) (x : Expr) : Ab (Dk op x) = .agg [A4 op, A8 [], A4 0, A4 0, A8 [], .slice false 6 [Ab x]] := by rw [Af]; rfl
theorem Ws (t : Str) (a b : Expr) : Ab (Eu t a b) = .agg [A4 5, .v (sv t), A4 0, A4 0, A8 [], .slice false 6 [Ab a, Ab b]] := by rw [Af]; rfl
theorem low_agg {n : Nat} (e : Expr) : Low n (.agg [.v (.int .i64 e.op), .v (sv e.text), .v (.int .i64 e.val.kind), .v (.int .i64 e.val.n), .v (sv e.val.s), .slice false 6 (e.kids.map Ab)]) := by
 have := Ak n e
 rwa [Af] at this
theorem uc (l : List Tok) (S : PS) (Dv : Fam) (o : Nat) (Hp : List AObj) (ho : Hp[o]? = some (pr l S)) (hi : S.i < l.length) (hl : TokEnd l) (hll : l.length ≤ 1048576) (hnl : S.nest ≤ 30) (hd : DeepC l Dv S.nest) (hc : PC 253 l (De l Dv) S.nest) : ACall Tryz.prog 243 [.ptr o 0] Hp (fun r H' => r = Ab (Lo l Dv S).1 ∧ H' = Hp.set o (pr l (Lo l Dv S).2)) := by
 refine ACall.body [.cell 2 27] [0] Tryz.func243 Tryz.ntmps243 (fun d => ?_)
 refine Z85 ?_;refine Z9 ?_;refine R.call Tryz.call170 (T9 l S n7 o _ (Ac ho) hi hl (by decide)) ?_;refine R.not ?_;refine R.fin [0, 2, 6] ?_
 refine W.cond (fun ht6 => ?_) (fun ht6 => ?_)
 ·have e : Lo l Dv S = De l Dv S := if_pos ht6
  refine Z0 ?_;refine R.callUp Tryz.call253 ho (by simp) Bg (hc o _ S (Ac ho) hi rfl) ?_;refine Z6 ?_;exact lm
 have his : isM l n7 S = true := by simpa using ht6
 have hi1 : (Aa S).i < l.length := hl.stepIs hi his
 have e : Lo l Dv S = (Dk 3 (B3 (A9 l S.i).at_ Dv.ne (Aa S)).1, (B3 (A9 l S.i).at_ Dv.ne (Aa S)).2) := if_neg (by rw [ht6]; simp)
 refine Z5 ?_;refine Z58 ?_;refine Z16 ?_;refine bn ?_;refine Z91 ?_;refine Au ?_;refine R.makeFunc ?_;refine R.callUp Tryz.call201 (Ad ho) (by simp) Bg (dp Tryz.call243 l (Aa S) (A9 l S.i).at_ Dv.ne o _ (Ac (Ad ho)) hi1 hnl (fun h => (hd.ne h).1) (fun h => (hd.ne h).2)) ?_;refine Mm ?_;refine ls ?_;exact K.fin (V.one (V.cellN jA jS)) ⟨by rw [e, Lv]; simp only [Af], by rw [e, List.set_set]⟩ (hlow := by have := Ak Hp.length (Dk 3 (B3 (A9 l S.i).at_ Dv.ne (Aa S)).1); rw [Lv] at this; simp only [Af] at this; simpa only [List.length_set] using this)

theorem ud (l : List Tok) (S : PS) (Dv : Fam) (o : Nat) (Hp : List AObj) (ho : Hp[o]? = some (pr l S)) (hi : S.i < l.length) (hl : TokEnd l) (hll : l.length ≤ 1048576) (hnl : S.nest ≤ 30) (hd : DeepC l Dv S.nest) (hc : PC 200 l (Ct l Dv) S.nest) : ACall Tryz.prog 172 [.ptr o 0] Hp (fun r H' => r = Ab (Lp l Dv S).1 ∧ H' = Hp.set o (pr l (Lp l Dv S).2)) := by
 refine ACall.body [.cell 2 27] [0] Tryz.func172 Tryz.ntmps172 (fun d => ?_)
 refine Z85 ?_;refine Z9 ?_;refine R.call Tryz.call170 (T9 l S n6 o _ (Ac ho) hi hl (by decide)) ?_;refine R.not ?_;refine R.fin [0, 2, 6] ?_
 refine W.cond (fun ht6 => ?_) (fun ht6 => ?_)
 ·have e : Lp l Dv S = Ct l Dv S := if_pos ht6
  refine Z0 ?_;refine R.callUp Tryz.call200 ho (by simp) Bg (hc o _ S (Ac ho) hi rfl) ?_;refine Z6 ?_;exact lm
 have his : isM l n6 S = true := by simpa using ht6
 have hi1 : (Aa S).i < l.length := hl.stepIs hi his
 have e : Lp l Dv S = (Dk 4 (B3 (A9 l S.i).at_ Dv.no (Aa S)).1, (B3 (A9 l S.i).at_ Dv.no (Aa S)).2) := if_neg (by rw [ht6]; simp)
 refine Z5 ?_;refine Z58 ?_;refine Z16 ?_;refine bn ?_;refine Z91 ?_;refine Au ?_;refine R.makeFunc ?_;refine R.callUp Tryz.call201 (Ad ho) (by simp) Bg (dp Tryz.call172 l (Aa S) (A9 l S.i).at_ Dv.no o _ (Ac (Ad ho)) hi1 hnl (fun h => (hd.no h).1) (fun h => (hd.no h).2)) ?_;refine Mm ?_;refine ls ?_;exact K.fin (V.one (V.cellN jA jS)) ⟨by rw [e, Lv]; simp only [Af], by rw [e, List.set_set]⟩ (hlow := by have := Ak Hp.length (Dk 4 (B3 (A9 l S.i).at_ Dv.no (Aa S)).1); rw [Lv] at this; simp only [Af] at this; simpa only [List.length_set] using this)

theorem ue (l : List Tok) (S : PS) (Dv : Fam) (o : Nat) (Hp : List AObj) (ho : Hp[o]? = some (pr l S)) (hi : S.i < l.length) (hl : TokEnd l) (hll : l.length ≤ 1048576) (hnl : S.nest ≤ 30) (hd : DeepC l Dv S.nest) (hg : Cb l S.nest (Ca l Dv)) (hc : PC 221 l (Ca l Dv) S.nest) : ACall Tryz.prog 200 [.ptr o 0] Hp (fun r H' => r = Ab (Ct l Dv S).1 ∧ H' = Hp.set o (pr l (Ct l Dv S).2)) := by
 have hq := hg S hi rfl
 refine ACall.body [.cell 2 27] [0] Tryz.func200 Tryz.ntmps200 (fun d => ?_)
 refine Z85 ?_;refine Z0 ?_;refine R.callUp Tryz.call221 ho (by simp) Bg (hc o _ S (Ac ho) hi rfl) ?_;refine Z16 ?_;refine ik ?_;refine Qq ?_;refine R.loadUp jA (Ad ho) ?_;refine R.neq ?_;refine Z20 ?_;refine G.call Tryz.call170 (fun hB => T9 l (Ca l Dv S).2 jd o _ (Ac (Ad ho)) hq.lt hl (by decide)) ?_;refine Ud ?_;refine R.fin [0, 2, 3, 17] ?_
 refine W.cond (fun ht17 => ?_) (fun ht17 => ?_)
 ·have e : Ct l Dv S = Ca l Dv S := if_pos ht17
  refine Z28 ?_;refine Z6 ?_;exact lm
 have his : isM l jd (Ca l Dv S).2 = true := by
  have := ht17
  simp only [Bool.or_eq_false_iff, Bool.not_eq_false'] at this
  exact this.2
 have hi1 : (Aa (Ca l Dv S).2).i < l.length := hl.stepIs hq.lt his
 have e : Ct l Dv S = (Eu (A9 l (Ca l Dv S).2.i).text (Ca l Dv S).1 (Ca l Dv (Aa (Ca l Dv S).2)).1, (Ca l Dv (Aa (Ca l Dv S).2)).2) := if_neg (by rw [ht17]; simp)
 refine I7 ?_;refine R.callUp Tryz.call171 (Ad ho) (by simp) Bg (c171 l (Ca l Dv S).2 o _ (Ac (Ad ho)) hq.lt hll) ?_;refine Z16 ?_;refine R.fin [0, 2, 3, 4] ?_;refine W.drawY [0, 1, 0, 0, 8, 28, 63, 127] [4] [.q 4 [] [], .s [25] (some 0) [] [], .q 1 [0] []] (fun B => Hp.set o (if B 0 = true then pr l (Ca l Dv (Aa (Ca l Dv S).2)).2 else pr l (Aa (Ca l Dv S).2))) (fun _ => [.cells 27 [A4 0, A8 [], A4 0, A4 0, A8 [], .nil], .cells 27 (E3 (Ca l Dv S).1), .cells 82 [A4 (A9 l (Ca l Dv S).2.i).kind, A8 (A9 l (Ca l Dv S).2.i).text, A4 (A9 l (Ca l Dv S).2.i).at_]]) Ae (by kernel_rfl) (by simp [List.set_set]) rfl (fun B => by simp) ?_
 apply Y.q
 case h1 =>
  intro B hT hF
  refine D.fieldAddrPtr (fo := 1) jU Tryz.sizeOf9 ?_;refine D.loadOwn jA ?_;refine S7 ?_;refine D.move ?_;exact Jc
 case hTF => decide
 refine Y.callUp (r := Ab (Ca l Dv (Aa (Ca l Dv S).2)).1) (o := o) (x0 := pr l (Aa (Ca l Dv S).2)) (x := pr l (Ca l Dv (Aa (Ca l Dv S).2)).2) Tryz.call221 (fun B hT hF hB => ⟨by simp only [hB]; exact Ad ho, by simp [upd], rfl, Bg, ?_⟩) ?_
 ·simp only [hB]
  exact hc o _ (Aa (Ca l Dv S).2) (Ac (Ad ho)) hi1 hq.nest
 apply Y.q
 case h1 =>
  intro B hT hF
  exact Z92
 case hTF => decide
 refine Y.tail (tn := [4]) (U := Hp.set o (pr l (Ca l Dv (Aa (Ca l Dv S).2)).2)) ?_;refine ls ?_;exact K.fin (V.one (V.cellN jA jS)) ⟨by rw [e, Ws]; simp only [Af], by rw [e]⟩ (hlow := by have := Ak Hp.length (Eu (A9 l (Ca l Dv S).2.i).text (Ca l Dv S).1 (Ca l Dv (Aa (Ca l Dv S).2)).1); rw [Ws] at this; simp only [Af] at this; simpa only [List.length_set] using this)

/-- The contract of the parser of calls. -/
def Ta (l : List Tok) (Dv : Fam) (n : Nat) : Prop := ∀ (o : Nat) (Hp : List AObj) (S : PS) (t : Tok), Hp[o]? = some (pr l S) → (Aa S).i < l.length → S.nest = n → t.text.length ≤ 1048576 → isM l opT S = true → ACall Tryz.prog 260 [.ptr o 0, Et t] Hp (fun r H' => r = Ab (E5 l Dv t S).1 ∧ H' = Hp.set o (pr l (E5 l Dv t S).2))
theorem dq : Ab Ah = .agg [A4 0, A8 [], A4 0, A4 0, A8 [], .slice false 6 []] := by rw [Af]; rfl
theorem uf (l : List Tok) (S : PS) (Dv : Fam) (o : Nat) (Hp : List AObj) (ho : Hp[o]? = some (pr l S)) (hi : S.i < l.length) (hl : TokEnd l) (hll : l.length ≤ 1048576) (hnl : S.nest ≤ 30) (hd : DeepC l Dv S.nest) (hcl : Ta l Dv S.nest) : ACall Tryz.prog 253 [.ptr o 0] Hp (fun r H' => r = Ab (De l Dv S).1 ∧ H' = Hp.set o (pr l (De l Dv S).2)) := by
 refine ACall.body [.cell 2 27] [0] Tryz.func253 Tryz.ntmps253 (fun d => ?_)
 refine Z85 ?_;refine Z0 ?_;refine gm ?_;refine ik ?_;refine Qq ?_;refine R.loadUp jA ho ?_;refine R.neq ?_;refine R.fin [0, 2, 3, 14] ?_
 refine W.cond (fun ht14 => ?_) (fun ht14 => ?_)
 ·have e : De l Dv S = (Ah, S) := if_pos ht14
  refine B9 ?_;refine S6 ?_;refine R.wk 15 _ No ?_;refine Z6 ?_;refine K.thR ?_;exact K.fin (V.one (V.cellN jA jS)) ⟨by rw [e, Af], by rw [e]; exact (B5 ho).symm⟩ (hlow := by have := Ak Hp.length (Ah); simpa only [Af, List.length_set] using this)
 have e0 : ¬ (S.code != 0) = true := by rw [ht14]; simp
 refine Z5 ?_;refine Qr ?_;refine Z61 ?_;refine Y7 ?_;refine G.call Tryz.call170 (fun hB => T9 l S n8 o _ (Ac ho) hi hl (by decide)) ?_;refine bo ?_;refine R.fin [0, 2, 3, 16] ?_
 refine W.cond (fun ht16 => ?_) (fun ht16 => ?_)
 ·have e : De l Dv S = (Fs (Dw (A9 l S.i).text).1, Aa S) := by unfold De; rw [if_neg e0, if_pos ht16]
  refine Z58 ?_;refine R.field1 jU Tryz.isAgg9 ?_;refine R.call Tryz.call168 (c168 (A9 l S.i).text (hl.text _) _) ?_;refine Y8 ?_;refine R.fin [2, 4] ?_;refine Z28 ?_;refine R.call Tryz.call259 (rk (Dw (A9 l S.i).text).1 _) ?_;refine Z6 ?_;refine Z4 ?_;exact K.fin (V.one (V.cellN jA jS)) ⟨by rw [e, Af], by rw [e]⟩ (hlow := by have := Ak Hp.length (Fs (Dw (A9 l S.i).text).1); simpa only [Af, List.length_set] using this)
 have e1 : ¬ (((A9 l S.i).kind == 3) || isM l n8 S) = true := by rw [ht16]; simp
 refine Y4 ?_;refine Z22 ?_;refine R.fin [0, 2, 3, 33] ?_
 refine W.cond (fun ht33 => ?_) (fun ht33 => ?_)
 ·have e : De l Dv S = (Fs ⟨2, 0, (A9 l S.i).text.take 200⟩, Aa S) := by unfold De; rw [if_neg e0, if_neg e1, if_pos ht33]
  refine Z58 ?_;refine R.field1 jU Tryz.isAgg9 ?_;refine R.call Tryz.call215 (Yk (A9 l S.i).text _) ?_;refine R.call Tryz.call259 (rk ⟨2, 0, (A9 l S.i).text.take 200⟩ _) ?_;refine Z6 ?_;refine Z4 ?_;exact K.fin (V.one (V.cellN jA jS)) ⟨by rw [e, Af], by rw [e]⟩ (hlow := by have := Ak Hp.length (Fs ⟨2, 0, (A9 l S.i).text.take 200⟩); simpa only [Af, List.length_set] using this)
 have e2 : ¬ ((A9 l S.i).kind == 4) = true := by rw [ht33]; simp
 refine Y4 ?_;refine Z22 ?_;refine R.fin [0, 2, 3, 42] ?_
 refine W.cond (fun ht42 => ?_) (fun ht42 => ?_)
 ·have hi1 : (Aa S).i < l.length := hl.step hi (by rw [beq_iff_eq] at ht42; rw [ht42]; decide)
  refine Z58 ?_;refine ik ?_;refine R.call Tryz.call170 (T9 l (Aa S) opT o _ (Ac (Ad ho)) hi1 hl (by decide)) ?_;refine R.fin [0, 2, 3, 49] ?_
  refine W.cond (fun ht49 => ?_) (fun ht49 => ?_)
  ·have e : De l Dv S = E5 l Dv (A9 l S.i) (Aa S) := by unfold De; rw [if_neg e0, if_neg e1, if_neg e2, if_pos ht42, if_pos ht49]
   have hi2 : (Aa (Aa S)).i < l.length := hl.stepIs hi1 ht49
   refine Z0 ?_;refine Ml ?_;refine R.callUp Tryz.call260 (Ad ho) (by simp) Bg (hcl o _ (Aa S) (A9 l S.i) (Ac (Ad ho)) hi2 rfl (hl.text _) ht49) ?_;refine Z6 ?_;refine K.thR ?_;refine Z4 ?_;exact K.fin (V.one (V.cellN jA jS)) ⟨by rw [e, Af], by rw [e, List.set_set]⟩ (hlow := by have := Ak Hp.length ((E5 l Dv (A9 l S.i) (Aa S)).1); simpa only [Af, List.length_set] using this)
  have e : De l Dv S = (D8 (A9 l S.i).text, Aa S) := by unfold De; rw [if_neg e0, if_neg e1, if_neg e2, if_pos ht42, if_neg (by rw [ht49]; simp)]
  refine Lk ?_;refine R.fieldAddrPtr (fo := 1) jU Tryz.sizeOf9 ?_;refine pa ?_;refine R.wk 55 _ (Sj _) ?_;refine Z6 ?_;refine Z4 ?_;exact K.fin (V.one (V.cellN jA jS)) ⟨by rw [e, Af], by rw [e]⟩ (hlow := by have := Ak Hp.length (D8 (A9 l S.i).text); simpa only [Af, List.length_set] using this)
 have e3 : ¬ ((A9 l S.i).kind == 1) = true := by rw [ht42]; simp
 refine Z0 ?_;refine R.call Tryz.call170 (T9 l S opT o _ (Ac ho) hi hl (by decide)) ?_;refine Ax ?_;refine R.fin [0, 2, 3, 56] ?_
 refine W.cond (fun ht56 => ?_) (fun ht56 => ?_)
 ·have e : De l Dv S = ((B3 (A9 l S.i).at_ Dv.ei (Aa S)).1, Cs l Cq (B3 (A9 l S.i).at_ Dv.ei (Aa S)).2) := by unfold De; rw [if_neg e0, if_neg e1, if_neg e2, if_neg e3, if_pos ht56]
  have hi1 : (Aa S).i < l.length := hl.stepIs hi ht56
  have hwf := F1 (S := Aa S) (l := l) (f := Dv.ei) (A9 l S.i).at_ hi1 (fun h => (hd.ei h).1)
  refine Z58 ?_;refine bn ?_;refine Z91 ?_;refine Au ?_;refine R.makeFunc ?_;refine R.callUp Tryz.call201 (Ad ho) (by simp) Bg (dp Tryz.call108 l (Aa S) (A9 l S.i).at_ Dv.ei o _ (Ac (Ad ho)) hi1 hnl (fun h => (hd.ei h).1) (fun h => (hd.ei h).2)) ?_;refine Z16 ?_;refine R.fin [0, 2, 6] ?_;refine Z0 ?_;refine R.callUp Tryz.call261 (Ad (Ad ho)) (by simp) Bg (rl l (B3 (A9 l S.i).at_ Dv.ei (Aa S)).2 Cq o _ (Ac (Ad (Ad ho))) hwf.lt hll) ?_;refine R.fin [2, 6] ?_;refine Z28 ?_;refine Z6 ?_;refine Z4 ?_;exact K.fin (V.one (V.cellN jA jS)) ⟨by rw [e, Af], by rw [e, List.set_set, List.set_set]⟩ (hlow := by have := Ak Hp.length ((B3 (A9 l S.i).at_ Dv.ei (Aa S)).1); simpa only [Af, List.length_set] using this)
 have e : De l Dv S = (Ah, C7 8 (A9 l S.i).at_ S) := by unfold De; rw [if_neg e0, if_neg e1, if_neg e2, if_neg e3, if_neg (by rw [ht56]; simp)]
 refine Z17 ?_;refine Z0 ?_;refine pc ?_;refine Z6 ?_;exact K.fin (V.one (V.cellN jA jS)) ⟨by rw [e, Af], by rw [e]⟩ (hlow := by have := Ak Hp.length (Ah); simpa only [Af, List.length_set] using this)

theorem jn {l : List Tok} (hl : TokEnd l) (hll : l.length ≤ 1048576) {d n : Nat} (h : n + (d + 1) = 31) (hp : n ≠ 30 → PC 108 l (Cr l d).ei (n + 1) ∧ PC 172 l (Cr l d).no (n + 1) ∧ PC 243 l (Cr l d).ne (n + 1)) : DeepC l (Cr l d) n := by
 have g : n ≠ 30 → _ := fun h30 => Km hl hll d (n + 1) (by omega) (by omega)
 exact ⟨fun h => ⟨(g h).1, (hp h).1⟩, fun h => ⟨(g h).2.1, (hp h).2.1⟩, fun h => ⟨(g h).2.2, (hp h).2.2⟩⟩
/-- All functions of the parser. -/
theorem Tb {l : List Tok} (hl : TokEnd l) (hll : l.length ≤ 1048576) (hcl : ∀ n Dv, n ≤ 30 → DeepC l Dv n → Ta l Dv n) : ∀ (d n : Nat), n + d = 31 → n ≤ 30 → PC 108 l (Cr l d).ei n ∧ PC 172 l (Cr l d).no n ∧ PC 243 l (Cr l d).ne n
 | 0, n, h, hn => by omega
 | d + 1, n, h, hn => by
  have hd : DeepC l (Cr l d) n := jn hl hll h (fun h30 => Tb hl hll hcl d (n + 1) (by omega) (by omega))
  have g1 : Cb l n (Lo l (Cr l d)) := Kl hl hll (fun h => (hd.ei h).1) (fun h => (hd.ne h).1)
  have g2 : Cb l n (Sy l (Cr l d)) := Dn hl g1
  have g3 : Cb l n (Ca l (Cr l d)) := Dn hl g2
  have g4 : Cb l n (Ct l (Cr l d)) := Id hl hll (fun h => (hd.ei h).1) (fun h => (hd.ne h).1)
  have g5 : Cb l n (Lp l (Cr l d)) := Pq hl hll (fun h => (hd.ei h).1) (fun h => (hd.ne h).1) (fun h => (hd.no h).1)
  have g6 : Cb l n (Sz l (Cr l d)) := Dn hl g5
  have p0 : PC 253 l (De l (Cr l d)) n := fun o Hp S ho hi hS => by
   subst hS
   exact uf l S (Cr l d) o Hp ho hi hl hll hn hd (hcl _ _ hn hd)
  have p1 : PC 243 l (Lo l (Cr l d)) n := fun o Hp S ho hi hS => by
   subst hS
   exact uc l S (Cr l d) o Hp ho hi hl hll hn hd p0
  have p2 : PC 236 l (Sy l (Cr l d)) n := fun o Hp S ho hi hS => by
   subst hS
   exact ub l S (Lo l (Cr l d)) o Hp ho hi hl hll g1 p1
  have p3 : PC 221 l (Ca l (Cr l d)) n := fun o Hp S ho hi hS => by
   subst hS
   exact ua l S (Sy l (Cr l d)) o Hp ho hi hl hll g2 p2
  have p4 : PC 200 l (Ct l (Cr l d)) n := fun o Hp S ho hi hS => by
   subst hS
   exact ue l S (Cr l d) o Hp ho hi hl hll hn hd g3 p3
  have p5 : PC 172 l (Lp l (Cr l d)) n := fun o Hp S ho hi hS => by
   subst hS
   exact ud l S (Cr l d) o Hp ho hi hl hll hn hd p4
  have p6 : PC 142 l (Sz l (Cr l d)) n := fun o Hp S ho hi hS => by
   subst hS
   exact u7 l S (Lp l (Cr l d)) o Hp ho hi hl hll g5 p5
  have p7 : PC 108 l (Lu l (Cr l d)) n := fun o Hp S ho hi hS => by
   subst hS
   exact u6 l S (Sz l (Cr l d)) o Hp ho hi hl hll g6 p6
  exact ⟨p7, p5, p1⟩
theorem Wt {n : Nat} {U F : Nat → List AObj} {H' : List AObj} (h : G6 (fun _ => true) U F n H') : H' = U n := by
 rcases h with ⟨_, h⟩ | ⟨j, _, _, h, _⟩
 ·exact h
 cases h
theorem Zc {α : Type} {l : List α} {k : Nat} {y : α} (h : l[k]? = some y) : l.take (k + 1) = l.take k ++ [y] := by rw [List.take_add_one, h]; rfl
theorem dr {L : List (Int × Expr)} {k : Nat} {it : Int × Expr} (h : L[k]? = some it) : Cm 0 (L.take (k + 1)) = if Cm 0 (L.take k) < it.1 then it.1 else Cm 0 (L.take k) := by
 have e : Cm 0 (L.take (k + 1)) = max (Cm 0 (L.take k)) it.1 := by
  unfold Cm
  rw [Zc h, List.foldl_append]
  rfl
 rw [e]
 split <;> omega
theorem Pt {n k : Nat} {o : Bool} {l : List Str} : Low n (.slice o k (l.map A8)) := by simp [or_imp, forall_and]
theorem ug (n : Nat) (e : Expr) (hok : okE n e) (hn : n ≤ 1048576) (hs : sizeE e ≤ 1048576) (Hp : List AObj) : AFun Tryz.prog 109 [Ab e] Hp (A4 (depthE e : Nat)) := by
 refine ACall.body [.tmp 2] [0, 4] Tryz.func109 Tryz.ntmps109 (fun d => ?_)
 refine Xu ?_;refine R.fin [1, 4] ?_;refine Uf ?_;refine R.fin [1, 3, 4] ?_;refine Z23 ?_
 refine R.assumeLow (fun hlow => ?_)
 refine md ?_;refine R.fin [3, 4, 6] ?_;refine Es ?_
 refine W.rangeV (m := 1) Tryz.call126 (fun FR as' bd' hFR has hbd => ?_)
 have hFRl : ∀ s, Low (Hp.length + 3) (FR s) := by
  intro s
  rw [hFR]
  refine Low.strip ?_
  revert s
  repeat (first | exact B7 | refine B6 (by simp [oid, Ak] <;> try omega) ?_)
 have hOl : ∀ {k : Nat}, ∀ x ∈ [AObj.cells 3 [A4 (Cm 0 ((As 1 e).take k))], AObj.defs, AObj.loop LoopState.ready none FR 13 #[7, 8] as' bd' (oid Hp.length 1)], ObjLow (Hp.length + 3) x := by
  intro k x hx
  simp only [List.mem_cons, List.mem_nil_iff, or_false] at hx
  rcases hx with rfl | rfl | rfl
  ·intro y hy
   rw [List.mem_singleton.1 hy]
   first | exact Pt | simp
  ·trivial
  exact ip
 refine ⟨fun _ H' => G6 (fun _ => true) (fun k => Hp ++ [AObj.cells 3 [A4 (Cm 0 ((As 1 e).take k))], AObj.defs, AObj.loop LoopState.ready none FR 13 #[7, 8] as' bd' (oid Hp.length 1)]) (fun k => Hp ++ [AObj.cells 3 [A4 (Cm 0 ((As 1 e).take k))], AObj.defs, AObj.loop LoopState.ready none FR 13 #[7, 8] as' bd' (oid Hp.length 1)]) (As 1 e).length H', mx (l := oid Hp.length 2) (go := fun _ => true) (U := fun k => Hp ++ [AObj.cells 3 [A4 (Cm 0 ((As 1 e).take k))], AObj.defs, AObj.loop LoopState.ready none FR 13 #[7, 8] as' bd' (oid Hp.length 1)]) (F := fun k => Hp ++ [AObj.cells 3 [A4 (Cm 0 ((As 1 e).take k))], AObj.defs, AObj.loop LoopState.ready none FR 13 #[7, 8] as' bd' (oid Hp.length 1)]) (n0 := Hp.length + 3) ⟨fun k => by simp, fun k => by simp, fun k x hx => ?_, fun k x hx => ?_, by simp [oid], fun X k it hit hgo => ?_⟩ n hok hn, ?_⟩
 ·exact cc
 ·exact cc
 ·have hklt : k < sizeE e := by rw [← D9 1 e]; exact (List.getElem?_eq_some_iff.1 hit).1
  generalize hV : (Hp ++ [AObj.cells 3 [A4 (Cm 0 ((As 1 e).take k))], AObj.defs, AObj.loop LoopState.ready none FR 13 #[7, 8] as' bd' (oid Hp.length 1)] ++ X) = V
  have hL : V[oid Hp.length 2]? = some (AObj.loop LoopState.ready none FR 13 #[7, 8] as' bd' (oid Hp.length 1)) := by rw [← hV, List.append_assoc, An]; rfl
  have hA0 : V[oid Hp.length 0]? = some (AObj.cells 3 [A4 (Cm 0 ((As 1 e).take k))]) := by rw [← hV, List.append_assoc, An]; rfl
  refine AYield.ofRound (pd := none) (fr := FR) (sz := 13) (ps := #[7, 8]) (df := oid Hp.length 1) (asg := as') (bd := bd') hL rfl (by decide) (fun d => ?_)
  subst hFR has hbd
  refine W.keep [3, 7, 8] ?_;refine Xy ?_;refine R.fin [3, 4] ?_
  refine ⟨rfl, none, hL, ?_⟩
  generalize hbz : (AObj.loop LoopState.busy _ _ _ _ _ _ _) = bz
  have hA : (V.set (oid Hp.length 2) bz)[oid Hp.length 0]? = some (AObj.cells 3 [A4 (Cm 0 ((As 1 e).take k))]) := by rw [List.getElem?_set_ne (Bs (by decide))]; exact hA0
  refine Es ?_;refine AW.region ?_;refine R.loadUp jA hA ?_;refine Au ?_;refine R.maxI ?_
  refine R.storeUp jS hA ?_ ?_
  ·simp
  refine R.fin [] ?_;refine K.blN ?_
  subst hbz
  refine K.rdN (Ru hL (Bs (by decide))) ?_
  refine ⟨rfl, ?_⟩
  rw [if_pos rfl]
  subst hV
  simp only [List.append_assoc, Cj, List.cons_append, List.nil_append, List.set_cons_succ, List.set_cons_zero]
  rw [dr hit]
 intro r H' hq
 obtain rfl := Wt hq
 refine ⟨Hp, _, _, _, rfl, rfl, fun h => h, ?_, rfl, by simp, ?_⟩
 ·intro o ho
  have : o = oid Hp.length 1 := by simpa using ho
  subst this
  rw [An]
  rfl
 refine Z13 ?_;refine bl ?_;refine Z82 ?_;exact K.fin (V.one V.tmp) ⟨by rw [List.take_length, L3], rfl⟩

theorem uh (n : Nat) (e : Expr) (hok : okE n e) (hn : n ≤ 1048576) (hs : sizeE e ≤ 1048576) (Hp : List AObj) : AFun Tryz.prog 111 [Ab e] Hp (A4 (sizeE e : Nat)) := by
 refine ACall.body [.tmp 2] [0] Tryz.func111 Tryz.ntmps111 (fun d => ?_)
 refine Of ?_;refine Uf ?_;refine R.fin [1, 3] ?_;refine Z23 ?_
 refine R.assumeLow (fun hlow => ?_)
 refine md ?_;refine R.fin [3, 5] ?_;refine Es ?_
 refine W.rangeV (m := 1) Tryz.call126 (fun FR as' bd' hFR has hbd => ?_)
 have hFRl : ∀ s, Low (Hp.length + 3) (FR s) := by
  intro s
  rw [hFR]
  refine Low.strip ?_
  revert s
  repeat (first | exact B7 | refine B6 (by simp [oid, Ak] <;> try omega) ?_)
 have hOl : ∀ {k : Nat}, ∀ x ∈ [AObj.cells 3 [A4 ((k : Nat))], AObj.defs, AObj.loop LoopState.ready none FR 11 #[6, 7] as' bd' (oid Hp.length 1)], ObjLow (Hp.length + 3) x := by
  intro k x hx
  simp only [List.mem_cons, List.mem_nil_iff, or_false] at hx
  rcases hx with rfl | rfl | rfl
  ·intro y hy
   rw [List.mem_singleton.1 hy]
   first | exact Pt | simp
  ·trivial
  exact ip
 refine ⟨fun _ H' => G6 (fun _ => true) (fun k => Hp ++ [AObj.cells 3 [A4 ((k : Nat))], AObj.defs, AObj.loop LoopState.ready none FR 11 #[6, 7] as' bd' (oid Hp.length 1)]) (fun k => Hp ++ [AObj.cells 3 [A4 ((k : Nat))], AObj.defs, AObj.loop LoopState.ready none FR 11 #[6, 7] as' bd' (oid Hp.length 1)]) (As 1 e).length H', mx (l := oid Hp.length 2) (go := fun _ => true) (U := fun k => Hp ++ [AObj.cells 3 [A4 ((k : Nat))], AObj.defs, AObj.loop LoopState.ready none FR 11 #[6, 7] as' bd' (oid Hp.length 1)]) (F := fun k => Hp ++ [AObj.cells 3 [A4 ((k : Nat))], AObj.defs, AObj.loop LoopState.ready none FR 11 #[6, 7] as' bd' (oid Hp.length 1)]) (n0 := Hp.length + 3) ⟨fun k => by simp, fun k => by simp, fun k x hx => ?_, fun k x hx => ?_, by simp [oid], fun X k it hit hgo => ?_⟩ n hok hn, ?_⟩
 ·exact cc
 ·exact cc
 ·have hklt : k < sizeE e := by rw [← D9 1 e]; exact (List.getElem?_eq_some_iff.1 hit).1
  generalize hV : (Hp ++ [AObj.cells 3 [A4 ((k : Nat))], AObj.defs, AObj.loop LoopState.ready none FR 11 #[6, 7] as' bd' (oid Hp.length 1)] ++ X) = V
  have hL : V[oid Hp.length 2]? = some (AObj.loop LoopState.ready none FR 11 #[6, 7] as' bd' (oid Hp.length 1)) := by rw [← hV, List.append_assoc, An]; rfl
  have hA0 : V[oid Hp.length 0]? = some (AObj.cells 3 [A4 ((k : Nat))]) := by rw [← hV, List.append_assoc, An]; rfl
  refine AYield.ofRound (pd := none) (fr := FR) (sz := 11) (ps := #[6, 7]) (df := oid Hp.length 1) (asg := as') (bd := bd') hL rfl (by decide) (fun d => ?_)
  subst hFR has hbd
  refine W.keep [3, 6, 7] ?_;refine AW.skip ?_
  refine ⟨rfl, none, hL, ?_⟩
  generalize hbz : (AObj.loop LoopState.busy _ _ _ _ _ _ _) = bz
  have hA : (V.set (oid Hp.length 2) bz)[oid Hp.length 0]? = some (AObj.cells 3 [A4 ((k : Nat))]) := by rw [List.getElem?_set_ne (Bs (by decide))]; exact hA0
  refine Es ?_;refine AW.region ?_;refine R.loadUp jA hA ?_;refine R.add64 ?_
  refine R.storeUp jS hA ?_ ?_
  ·simp
  refine R.fin [] ?_;refine K.blN ?_
  subst hbz
  refine K.rdN (Ru hL (Bs (by decide))) ?_
  refine ⟨rfl, ?_⟩
  rw [if_pos rfl]
  subst hV
  simp only [List.append_assoc, Cj, List.cons_append, List.nil_append, List.set_cons_succ, List.set_cons_zero]
  rfl
 intro r H' hq
 obtain rfl := Wt hq
 refine ⟨Hp, _, _, _, rfl, rfl, fun h => h, ?_, rfl, by simp, ?_⟩
 ·intro o ho
  have : o = oid Hp.length 1 := by simpa using ho
  subst this
  rw [An]
  rfl
 refine Z13 ?_;refine bl ?_;refine Z82 ?_;exact K.fin (V.one V.tmp) ⟨by rw [D9], rfl⟩

theorem Tc {l : List Tok} (hl : TokEnd l) (hll : l.length ≤ 1048576) {i : Nat} (hi : i < l.length) : Fact l ⟨i, 0, 0, 0⟩ (atR l i) := (Km hl hll 31 0 rfl (by decide)).1 ⟨i, 0, 0, 0⟩ hi rfl
theorem na {l : List Tok} {i : Nat} (hi : i < l.length) (hl : TokEnd l) (hll : l.length ≤ 1048576) (hcl : ∀ n Dv, n ≤ 30 → DeepC l Dv n → Ta l Dv n) (o : Nat) (Hp : List AObj) (ho : Hp[o]? = some (pr l ⟨i, 0, 0, 0⟩)) : ACall Tryz.prog 108 [.ptr o 0] Hp (fun r H' => r = Ab (atR l i).1 ∧ H' = Hp.set o (pr l (atR l i).2)) := (Tb hl hll hcl 31 0 rfl (by decide)).1 o Hp ⟨i, 0, 0, 0⟩ ho hi rfl
theorem Td {l : List Tok} (hl : TokEnd l) : (A9 l (l.length - 1)).kind = 0 := by
 obtain ⟨L, z, rfl, hz, _⟩ := hl.split
 unfold A9
 simp [hz]
theorem c74 (l : List Tok) (i : Nat) (hi : i < l.length) (hl : TokEnd l) (hll : l.length ≤ 500000) (hcl : ∀ n Dv, n ≤ 30 → DeepC l Dv n → Ta l Dv n) (Hp : List AObj) : AFun Tryz.prog 74 [cy l, A4 (i : Int)] Hp (.tup [Ab (atM l i).1, A4 (atM l i).2.1, .agg [A4 (atM l i).2.2.1, A4 (atM l i).2.2.2]]) := by
 have hmap : (l.map Et).length = l.length := List.length_map ..
 have hll1 : l.length ≤ 1048576 := by omega
 have hq := Tc hl hll1 hi
 have hlast := Td hl
 have hpos := hl.pos
 have hqlt := hq.lt
 have hqs := hq.sz
 have hok0 : okE 1048576 (atR l i).1 := Dx (by have := hq.lt; omega) hq.ok
 have hsz0 : sizeE (atR l i).1 ≤ 1048576 := by have := hq.sz; have := hq.lt; omega
 refine ACall.body [.cell 4 27, .tmp 5, .cell 6 50] [0, 1] Tryz.func74 Tryz.ntmps74 (fun d => ?_)
 refine S3 ?_;refine R.alloc jZ ?_;refine R.fin [0, 1, 4, 6] ?_;refine Ul ?_;refine K6 ?_;refine G.len jU ?_;refine G.geq ?_;refine R.pickOr ?_;refine K6 ?_;refine G.len jU ?_;refine G.sub64 ?_;refine G.indexAddr ((l.length - 1)) (Et (A9 l (l.length - 1))) jU jS (fun _ => Is (by omega)) ?_;refine Z94 ?_;refine Ub ?_;refine R.fin [0, 1, 4, 6, 26] ?_
 refine W.cond (fun ht26 => ?_) (fun ht26 => ?_)
 ·simp only [Bool.or_eq_true, decide_eq_true_eq, bne_iff_ne, ne_eq] at ht26
  rcases ht26 with (h | h) | h
  ·omega
  ·simp at h; omega
  exact absurd hlast h
 refine Z5 ?_;refine Z29 ?_;refine R.build (places := #[(0, 1), (1, 1), (2, 1), (3, 2)]) jU (fun w => by simp) jZ ?_;refine bt ?_;refine R.fin [0, 1, 4, 6, 7] ?_;refine Z0 ?_
 refine R.callOwn (n := 2) (x := pr l (atR l i).2) Tryz.call108 (na hi hl hll1 hcl (oid Hp.length 2) _ (by rw [An]; rfl)) ?_
 refine Z16 ?_;refine R.fin [0, 1, 4, 6, 7, 8] ?_
 refine W.join ⟨81, A5 4 (.ptr (oid Hp.length 0) 0) (A5 6 (.ptr (oid Hp.length 1) 0) (A5 7 (.ptr (oid Hp.length 2) 0) (A5 8 (.ptr (oid Hp.length 3) 0) (fun _ => .any)))), Hp, [.cells 27 [A4 0, A8 [], A4 0, A4 0, A8 [], .nil], .cells 50 [A4 0, A4 0], pr l (atS l i (atR l i)), .cells 27 (E3 (atR l i).1)], [], none⟩ ?_ ?_
 ·refine Es ?_;refine Z0 ?_;refine Qq ?_;refine Im ?_;refine Ry ?_;refine R.fin [0, 1, 4, 6, 7, 8, 35] ?_
  refine W.cond (fun ht35 => ?_) (fun ht35 => ?_)
  ·have e : atS l i (atR l i) = (atR l i).2 := if_pos ht35
   refine W.keep [4, 6, 7, 8] ?_;refine AW.skip ?_;exact i6
  have e0 : ¬ ((atR l i).2.code != 0) = true := by rw [ht35]; simp
  refine Z28 ?_;refine R.call Tryz.call109 (ug 1048576 _ hok0 (Nat.le_refl _) hsz0 _) ?_;refine Y0 ?_;refine R.fin [0, 1, 4, 6, 7, 8, 42] ?_
  refine W.cond (fun ht42 => ?_) (fun ht42 => ?_)
  ·have e : atS l i (atR l i) = C7 18 (A9 l i).at_ (atR l i).2 := by unfold atS; rw [if_neg e0, if_pos ht42]
   refine Z26 ?_;refine Z76 ?_;refine R.indexAddr (i) (Et (A9 l i)) jU jS (Is hi) ?_;refine gj ?_
   refine R.callOwn (n := 2) (x := pr l (C7 18 (A9 l i).at_ (atR l i).2)) Tryz.call110 (Za l (atR l i).2 18 (A9 l i).at_ (oid Hp.length 2) _ (by rw [An]; rfl)) ?_
   refine R.fin [4, 6, 7, 8] ?_;exact i6
  have e1 : ¬ decide ((30 : Int) < depthE (atR l i).1) = true := by rw [ht42]; simp
  refine Z28 ?_;refine R.call Tryz.call111 (uh 1048576 _ hok0 (Nat.le_refl _) hsz0 _) ?_;refine Y0 ?_;refine R.fin [0, 1, 4, 6, 7, 8, 53] ?_
  refine W.cond (fun ht53 => ?_) (fun ht53 => ?_)
  ·have e : atS l i (atR l i) = C7 3 (A9 l i).at_ (atR l i).2 := by unfold atS; rw [if_neg e0, if_neg e1, if_pos ht53]
   refine Z26 ?_;refine Z76 ?_;refine R.indexAddr (i) (Et (A9 l i)) jU jS (Is hi) ?_;refine gj ?_
   refine R.callOwn (n := 2) (x := pr l (C7 3 (A9 l i).at_ (atR l i).2)) Tryz.call110 (Za l (atR l i).2 3 (A9 l i).at_ (oid Hp.length 2) _ (by rw [An]; rfl)) ?_
   refine R.fin [4, 6, 7, 8] ?_;exact i6
  have e : atS l i (atR l i) = (atR l i).2 := by unfold atS; rw [if_neg e0, if_neg e1, if_neg (by rw [ht53]; simp)]
  refine W.keep [4, 6, 7, 8] ?_;refine AW.skip ?_;exact i6
 refine Z9 ?_;refine Qq ?_;refine il ?_;refine R.fin [4, 6, 7, 8, 69] ?_
 refine W.cond (fun ht69 => ?_) (fun ht69 => ?_)
 ·have e : atM l i = (Ah, 0, (atS l i (atR l i)).code, (atS l i (atR l i)).at_) := if_pos ht69
  refine W.drawY [0, 0, 2, 6, 14, 1, 33, 127] [5] [.q 5 [] [], .s [] (some 0) [] [], .q 1 [0] []] (fun _ => Hp) (fun _ => [.cells 27 [A4 0, A8 [], A4 0, A4 0, A8 [], .nil], .cells 50 [A4 0, A4 0], pr l (atS l i (atR l i)), .cells 27 (E3 (atR l i).1)]) Ae (by kernel_rfl) rfl rfl (fun _ => rfl) ?_
  apply Y.q
  case h1 =>
   intro B hT hF
   refine D.build (places := #[(0, 1), (1, 1), (2, 3), (5, 1)]) jU (fun w => by simp) jZ ?_;refine Z44 ?_;refine D.fieldAddrPtr (fo := 3) jU Tryz.sizeOf50 ?_;exact lx
  case hTF => decide
  refine Y.storeOwn (u := Hp.length) (n := 0) (t' := 27) (cs := [A4 0, A8 [], A4 0, A4 0, A8 [], .nil]) (cs' := [A4 0, A8 [], A4 0, A4 0, A8 [], .nil]) Tryz.sizeOf27 (fun B hB => ⟨rfl, rfl, rfl, rfl⟩) ?_
  apply Y.q
  case h1 =>
   intro B hT hF
   exact mf
  case hTF => decide
  refine Y.tail (tn := [5])  ?_;refine R.nilCell 0 5 6 ?_;refine Dh ?_;refine R.fin [4, 5, 6] ?_;refine Z11 ?_;exact K.fin (V.three (V.cellN jA jS) V.tmp (V.cellN jA jS)) ⟨by rw [e, dq] <;> rfl, rfl⟩
 have e : atM l i = ((atR l i).1, ((atS l i (atR l i)).i : Int), 0, 0) := if_neg (by rw [ht69]; simp)
 refine Z5 ?_;refine W.drawY [0, 0, 2, 6, 14, 0, 1, 95, 255] [6] [.q 6 [] [], .s [] (some 0) [] [], .q 1 [0] []] (fun _ => Hp) (fun B => [.cells 27 (if B 0 = true then E3 (atR l i).1 else [A4 0, A8 [], A4 0, A4 0, A8 [], .nil]), .cells 50 [A4 0, A4 0], pr l (atS l i (atR l i)), .cells 27 (E3 (atR l i).1)]) Ae (by kernel_rfl) rfl rfl (fun _ => rfl) ?_
 apply Y.q
 case h1 =>
  intro B hT hF
  refine S7 ?_;refine Z72 ?_;refine D.loadOwn jA ?_;exact om
 case hTF => decide
 refine Y.storeOwn (u := Hp.length) (n := 0) (t' := 27) (cs := [A4 0, A8 [], A4 0, A4 0, A8 [], .nil]) (cs' := E3 (atR l i).1) Tryz.sizeOf27 (fun B hB => ⟨rfl, by simp only [hB]; rfl, by simp [upd], rfl⟩) ?_
 apply Y.q
 case h1 =>
  intro B hT hF
  exact mf
 case hTF => decide
 refine Y.tail (tn := [6]) (O := [.cells 27 (E3 (atR l i).1), .cells 50 [A4 0, A4 0], pr l (atS l i (atR l i)), .cells 27 (E3 (atR l i).1)]) ?_;refine Dh ?_;refine R.fin [4, 5, 6] ?_;refine AW.ret ?_;exact K.fin (V.three (V.cellN jA jS) V.tmp (V.cellN jA jS)) ⟨by rw [e, Af] <;> rfl, rfl⟩ (hlow := by have := low_agg (n := Hp.length) (atR l i).1; simp at this ⊢; exact this)

theorem jo {s : Str} (h : (Ar s).2.1 = 0) : (Ar s).1.length ≤ 4002 := by
 obtain ⟨h1, _, h3⟩ := j9 h
 have h2 := N1 s
 rw [h3]
 simp only [List.length_append, List.length_map, List.length_cons, List.length_nil]
 omega
theorem Wu {l : List Tok} (hl : TokEnd l) (hll : l.length ≤ 1048576) {i : Nat} (hi : i < l.length) (h : (atM l i).2.2.1 = 0) : ∃ k : Nat, (atM l i).2.1 = (k : Int) ∧ k < l.length := by
 have hq := Tc hl hll hi
 unfold atM at h ⊢
 split at h
 ·rename_i h1
  have : (atS l i (atR l i)).code = 0 := h
  rw [this] at h1
  cases h1
 rename_i h1
 rw [if_neg h1]
 refine ⟨(atS l i (atR l i)).i, rfl, ?_⟩
 have e : (atS l i (atR l i)).i = (atR l i).2.i := by
  unfold atS
  repeat' split
  all_goals first | rfl | exact failM_i.1
 rw [e]
 exact hq.lt
theorem Ie {α : Type} {a b : List α} (hl : a.length = b.length) (h : ∀ (j : Nat) (y : α), j < a.length → a[j]? = some y → b[j]? = some y) : a = b := by
 apply List.ext_getElem hl
 intro j h1 h2
 have := h j a[j] h1 (List.getElem?_eq_getElem h1)
 rw [List.getElem?_eq_getElem h2] at this
 injection this with this
 exact this.symm
theorem Cc {n k : Nat} {o : Bool} {l : List Expr} : Low n (.slice o k (l.map Ab)) := low_slice.2 fun y hy => by
 obtain ⟨a, _, rfl⟩ := List.mem_map.1 hy
 exact Ak _ a
theorem Zd {l : List Expr} {n f : Nat} (h0 : l.isEmpty = false) (h : Ic l n = true) : Dj f l n = true := by
 cases f with
 | zero => rw [Dj, h0]; rfl
 | succ f => rw [Dj, if_neg (by rw [h0]; simp), if_pos h]
theorem jp {l : List Expr} {n y : Nat} (hy : y < l.length) (h : 500 < n + y + 1 ∨ Kj l[y] = true) : Ic l n = true := by
 unfold Ic
 rcases h with h | h
 ·rw [decide_eq_true (by omega)]; rfl
 rw [List.any_eq_true.2 ⟨_, List.getElem_mem hy, h⟩, Bool.or_true]
theorem Np {l : List Expr} : ∀ (y : Nat), y ≤ l.length → (∀ (j : Nat) (e : Expr), j < y → l[j]? = some e → Kj e = false) → ((l.take y).flatMap Expr.kids).length ≤ 100 * y
 | 0, _, _ => by simp
 | y + 1, hy, h => by
  rw [List.take_succ_eq_append_getElem hy, List.flatMap_append, List.length_append]
  have h1 := Np y (by omega) (fun j e hj he => h j e (by omega) he)
  have h2 := R6 (h y l[y] (by omega) (List.getElem?_eq_getElem _))
  simp only [List.flatMap_cons, List.flatMap_nil, List.append_nil]
  omega
structure WideAt (l0 : List Expr) (x : List Expr × Nat × Nat) : Prop where
 eq : Dj 61 l0 0 = Dj x.2.2 x.1 x.2.1
 f : x.2.2 ≤ 61
 n : x.2.1 ≤ 500
theorem c46 (l0 : List Expr) (Hp : List AObj) : AFun Tryz.prog 46 [.slice false 6 (l0.map Ab), A4 0] Hp (Al (Dj 61 l0 0)) := by
 refine ACall.body [.tmp 4] [0, 1] Tryz.func46 Tryz.ntmps46 (fun d => ?_)
 refine Z73 ?_;refine Z2 ?_;refine Ok ?_;refine W.seq ?_
 refine AW.loopC (α := List Expr × Nat × Nat) (fun x => ⟨67, A5 0 (.slice false 6 (x.1.map Ab)) (A5 1 (A4 (61 - (x.2.2 : Int))) (A5 5 (A4 (x.2.1 : Nat)) (fun _ => .any))), Hp, [], [], none⟩) (fun x => WideAt l0 x) (fun x => x.2.2) ((l0, 0, 61)) ⟨rfl, Nat.le_refl _, Nat.zero_le _⟩ (StLe.of_eq (by simp)) rfl (fun x hx => ?_)
 refine Z9 ?_;refine Uc ?_;refine R.fin [0, 1, 5, 10] ?_
 refine W.cond (fun ht10 => ?_) (fun ht10 => ?_)
 ·have hpos : 0 < x.1.length := by simpa using ht10
  have hne : x.1.isEmpty = false := by cases hxx : x.1 with
   | nil => rw [hxx] at hpos; simp at hpos
   | cons a r => rfl
  have hxf := hx.f
  refine Z5 ?_;refine Es ?_;refine B9 ?_;refine Mm ?_;refine R.assignT ?_;refine R.fin [0, 1, 5, 6] ?_;refine Um ?_;refine R.fin [0, 1, 5, 6, 7] ?_
  refine AW.loopC (α := Nat) (fun y => ⟨67, A5 0 (.slice false 6 (x.1.map Ab)) (A5 1 (A4 (61 - (x.2.2 : Int))) (A5 5 (A4 ((x.2.1 + y : Nat) : Int)) (A5 6 (.slice true 6 (((x.1.take y).flatMap Expr.kids).map Ab)) (A5 7 (A4 (y : Nat)) (fun _ => .any))))), Hp, [], [], none⟩) (fun y => y ≤ x.1.length ∧ x.2.1 + y ≤ 500 ∧ ∀ (j : Nat) (e : Expr), j < y → x.1[j]? = some e → Kj e = false) (fun y => x.1.length - y) (0) ⟨Nat.zero_le _, hx.n, fun j e h => by omega⟩ (StLe.of_eq (by simp)) rfl (fun y hy => ?_)
  refine Y6 ?_;refine R.fin [0, 1, 5, 6, 7, 15] ?_
  refine W.cond (fun ht15 => ?_) (fun ht15 => ?_)
  ·have hlt : y < x.1.length := by simpa using ht15
   have hyn := hy.2.1
   refine Z5 ?_;refine Gd ?_;refine Xv ?_;refine R.fin [0, 1, 5, 6, 7] ?_;refine Z9 ?_;refine R.gtr ?_;refine lz ?_;refine Z30 ?_;refine G.slen jU ?_;refine Mh ?_;refine lz ?_;refine io ?_;refine G.fieldAddrRo (off := 2) jU Tryz.sizeOf9 ?_;refine G.loadRo jA ?_;refine G.slen jU ?_;refine Mh ?_;refine lz ?_;refine Z51 ?_;refine G.len jU ?_;refine Mh ?_;refine R.fin [0, 1, 5, 6, 7, 49] ?_
   refine W.cond (fun ht49 => ?_) (fun ht49 => ?_)
   ·have hm : Ic x.1 x.2.1 = true := jp hlt (by
     simp only [Bool.or_eq_true, decide_eq_true_eq, List.length_map] at ht49
     unfold Kj
     simp only [Bool.or_eq_true, decide_eq_true_eq]
     omega)
    have hw := Zd (f := x.2.2) hne hm
    refine gg ?_;refine Z11 ?_;refine Og ?_;refine Y3 ?_;exact pg
   have hfat : Kj x.1[y] = false ∧ x.2.1 + y + 1 ≤ 500 := by
    simp only [Bool.or_eq_false_iff, decide_eq_false_iff_not, List.length_map] at ht49
    unfold Kj
    simp only [Bool.or_eq_false_iff, decide_eq_false_iff_not]
    omega
   have hkl := (R6 hfat.1).2.2
   have hfm : (x.1.take (y + 1)).flatMap Expr.kids = (x.1.take y).flatMap Expr.kids ++ x.1[y].kids := by rw [List.take_succ_eq_append_getElem hlt, List.flatMap_append]; simp
   refine Z5 ?_;refine AW.region ?_;refine R.moveT ?_;refine Z76 ?_;refine R.indexAddr (y) (Ab x.1[y]) jU jS (Bf hlt) ?_;refine Z39 ?_
   refine R.append jU Tryz.type27 ?_ ?_ ?_
   ·have h1 := Np y hy.1 hy.2.2; have h2 := hkl; have h3 := hy.2.1; simp only [List.length_map, Tryz.t27]; omega
   ·have h1 := Np y hy.1 hy.2.2; have h2 := hkl; have h3 := hy.2.1; simp only [List.length_map, Tryz.t27]; omega
   refine R.assignT ?_;refine R.fin [0, 1, 5, 6, 7] ?_;refine Z13 ?_;refine Ui ?_;refine R.fin [0, 1, 5, 6, 7] ?_
   refine K.lpN (y + 1) ⟨hlt, by omega, Db hlt hy.2.2 hfat.1⟩ (by omega) (StCut.of_eq ?_)
   rw [hfm, List.map_append]
   rfl
  have hye : x.1.take y = x.1 := List.take_of_length_le (by simp at ht15; omega)
  have hyl : y = x.1.length := by have := hy.1; simp at ht15; omega
  have hmany : Ic x.1 x.2.1 = false := by
   unfold Ic
   rw [decide_eq_false (by have := hy.2.1; omega), Bool.false_or, List.any_eq_false]
   intro e he
   obtain ⟨j, hj⟩ := List.getElem?_of_mem he
   rw [hy.2.2 j e (by have := (List.getElem?_eq_some_iff.1 hj).1; omega) hj]
   simp
  refine Oj ?_;refine Z9 ?_;refine Uc ?_;refine Z20 ?_;refine Mh ?_;refine R.fin [1, 5, 6, 63] ?_
  refine W.cond (fun ht63 => ?_) (fun ht63 => ?_)
  ·have hw : Dj x.2.2 x.1 x.2.1 = true := by
    have h9 := ht63
    rw [hye] at h9
    simp only [Bool.or_eq_true, decide_eq_true_eq, List.length_map] at h9
    cases hf : x.2.2 with
    | zero => rw [Dj, hne]; rfl
    | succ f =>
     rw [Dj, if_neg (by rw [hne]; simp), if_neg (by rw [hmany]; simp), if_pos (by rw [decide_eq_true_eq]; omega)]
   refine gg ?_;refine Z11 ?_;refine Y3 ?_;exact pg
  have h9 := ht63
  rw [hye] at h9
  simp only [Bool.or_eq_false_iff, decide_eq_false_iff_not, List.length_map] at h9
  obtain ⟨f, hf⟩ : ∃ f, x.2.2 = f + 1 := ⟨x.2.2 - 1, by omega⟩
  have hw : Dj x.2.2 x.1 x.2.1 = Dj f (x.1.flatMap Expr.kids) (x.2.1 + x.1.length) := by
   rw [hf, Dj, if_neg (by rw [hne]; simp), if_neg (by rw [hmany]; simp), if_neg (by rw [decide_eq_true_eq]; omega)]
  refine Z5 ?_;refine Z66 ?_;refine Ok ?_;refine Ui ?_;refine Ok ?_;refine K.blN ?_
  refine K.lpN (x.1.flatMap Expr.kids, x.2.1 + x.1.length, f) ⟨hx.eq.trans hw, by show f ≤ 61; omega, by show x.2.1 + x.1.length ≤ 500; have := hy.2.1; omega⟩ (by show f < x.2.2; omega) (StCut.of_eq ?_)
  rw [hye, hyl]
  congr 4
  simp only [AV.v.injEq, Value.int.injEq, true_and]
  omega
 have hnil : x.1 = [] := by have := ht10; simp at this; exact this
 refine Oj ?_;refine Xz ?_;exact K.fin (V.one V.tmp) ⟨by rw [hx.eq, hnil]; cases x.2.2 <;> rfl, rfl⟩

theorem c17 (e : Expr) (Hp : List AObj) : AFun Tryz.prog 17 [Ab e] Hp (Al (Pk e)) := by
 refine ACall.body [.tmp 2] [0] Tryz.func17 Tryz.ntmps17 (fun d => ?_)
 refine Of ?_;refine Z57 ?_;refine Mm ?_;refine R.call Tryz.call46 (c46 [e] _) ?_;exact bg

set_option maxRecDepth 8000
/-! What a tree comes to: eval's model. -/
abbrev Rs := Val × Int
def Bh (e : Int) : Rs := (noV, e)
def Ow (s : Str) : Val := ⟨2, 0, s.take 200⟩
def Eb (x : Int × Int) : Rs := if x.2 != 0 then Bh x.2 else (⟨1, x.1, []⟩, 0)
def Nq (a b : Int) : Int × Int := if decide (P1 .i64 (Kt .i64 a (IntKind.i64.wrap (a + b))) (Kt .i64 b (IntKind.i64.wrap (a + b))) < 0) then (0, 4) else (IntKind.i64.wrap (a + b), 0)
def Hl (a b : Int) : Int × Int := if decide (P1 .i64 (Kt .i64 a b) (Kt .i64 a (IntKind.i64.wrap (a - b))) < 0) then (0, 4) else (IntKind.i64.wrap (a - b), 0)
def L6 (a : Int) : Int := if decide (a < 0) then IntKind.u64.wrap (0 - IntKind.u64.wrap a) else IntKind.u64.wrap a
def Cl : List Val → List Int → Bool
 | _, [] => true
 | [], _ :: _ => false
 | v :: vs, k :: ks => (v.kind == k) && Cl vs ks
def Jq (a b : Val) : Rs := if !Cl [a, b] [2, 2] then Bh 10 else if decide ((200 : Int) < (a.s.length : Int) + (b.s.length : Int)) then Bh 3 else (Ow (a.s ++ b.s), 0)
def Aj (r : Rs) : Rs := if (r.2 == 0) && (r.1.kind != 0) && (r.1.kind != 3) then Bh 10 else r
def Ev (strong : Val) (a b : Rs) : Rs := if ((Aj a).2 != 0) || ((Aj a).1 == strong) then Aj a else if (((Aj b).2 != 0) || ((Aj b).1 == strong)) || ((Aj a).1.kind != 0) then Aj b else ((Aj a).1, 0)
def ifW : Str := [105, 102]
def R7 : Str := [110, 118, 108]
def B4 : Str := [105, 115, 110, 117, 108, 108]
def Cx (t : Str) (a b c : Rs) : Rs :=
 if t == ifW then (if (Aj a).2 != 0 then Bh (Aj a).2 else if (Aj a).1 == E2 true then b else c)
 else if a.2 != 0 then Bh a.2 else if t == B4 then (E2 (a.1.kind == 0), 0) else if a.1.kind != 0 then (a.1, 0) else b
def Nr (strict : List Val → Rs) (l : List Rs) : Rs := match l.find? (fun q => q.2 != 0) with | some q => Bh q.2 | none => if l.any (fun q => q.1.kind == 0) then (noV, 0) else strict (l.map (·.1))
def Hm (c : List Col) (l : List Val) (t : Str) : Rs := if C4 t c < 0 then Bh 9 else (l.getD (C4 t c).toNat noV, 0)
def orW : Str := [111, 114]
def jq : Str := [97, 110, 100]
/-- A node, of what its kids come to; what a strict node comes to is a parameter. -/
def Hn (strict : Int → Str → List Val → Rs) (c : List Col) (l : List Val) (o : Int) (t : Str) (v : Val) (ks : List Rs) : Rs :=
 if o == 1 then (v, 0) else if o == 2 then Hm c l t
 else if (o == 5) && (t == orW) then Ev (E2 true) (ks.getD 0 (noV, 0)) (ks.getD 1 (noV, 0))
 else if (o == 5) && (t == jq) then Ev (E2 false) (ks.getD 0 (noV, 0)) (ks.getD 1 (noV, 0))
 else if (o == 6) && (((t == ifW) || (t == R7)) || (t == B4)) then Cx t (ks.getD 0 (noV, 0)) (ks.getD 1 (noV, 0)) (ks.getD 2 (noV, 0))
 else Nr (strict o t) ks
mutual
def Fe (strict : Int → Str → List Val → Rs) (c : List Col) (l : List Val) : Expr → Rs
 | .mk o t v k => Hn strict c l o t v (If strict c l k)
def If (strict : Int → Str → List Val → Rs) (c : List Col) (l : List Val) : List Expr → List Rs
  | [] => []
  | e :: r => Fe strict c l e :: If strict c l r
 end
theorem Pu (f : Int → Str → List Val → Rs) (c : List Col) (l : List Val) : ∀ k, If f c l k = k.map (Fe f c l)
 | [] => rfl
 | e :: r => by rw [If, Pu f c l r]; rfl
theorem Te (f : Int → Str → List Val → Rs) (c : List Col) (l : List Val) (e : Expr) : Fe f c l e = Hn f c l e.op e.text e.val (e.kids.map (Fe f c l)) := by cases e; rw [Fe, Pu]; rfl
def Iu (c : List Col) (l : List Val) : Bool := (Jj c && (l.length == c.length)) && (l.zip c).all fun p => Bx p.1 && ((p.1.kind == 0) || (p.1.kind == p.2.kind))
/-- eval.Eval. -/
def rm (f : Int → Str → List Val → Rs) (x : Expr) (c : List Col) (l : List Val) : Rs := if (!(Bc x)) || !(Iu c l) then Bh 1 else Fe f c l x
/-! A tree in a column's place comes to what its value would there. -/
mutual
theorem eval_put {f : Int → Str → List Val → Rs} {c : List Col} {l m : List Val} {s : Str} {y : Expr} (hs : Hm c m s = Fe f c l y) (ho : ∀ t, t ≠ s → Hm c m t = Hm c l t) : ∀ x : Expr, Fe f c l (n4 s y x) = Fe f c m x
 | .mk o t v k => by
  rw [n4]
  split
  ·rename_i h
   rw [Bool.and_eq_true, beq_iff_eq, beq_iff_eq] at h
   obtain ⟨rfl, rfl⟩ := h
   rw [← hs, Fe]
   rfl
  rename_i h
  rw [Fe, Fe, Pv hs ho k]
  unfold Hn
  by_cases h2 : (o == 2) = true
  ·have : t ≠ s := fun e => h (by rw [h2, e]; simp)
   rw [ho t this]
  rw [if_neg h2, if_neg h2]
theorem Pv {f : Int → Str → List Val → Rs} {c : List Col} {l m : List Val} {s : Str} {y : Expr} (hs : Hm c m s = Fe f c l y) (ho : ∀ t, t ≠ s → Hm c m t = Hm c l t) : ∀ k : List Expr, If f c l (j6 s y k) = If f c m k
  | [] => rfl
  | e :: r => by rw [j6, If, If, eval_put hs ho e, Pv hs ho r]
 end
/-! Who is not named plays no part. -/
/-! What a strict node comes to. -/
def Iv (a b : Int) : Int × Int :=
 let p := L6 a * L6 b
 let below := decide (a < 0) != decide (b < 0)
 if decide (0 < p / 18446744073709551616) || decide ((if below then 9223372036854775808 else 9223372036854775807) < p % 18446744073709551616) then (0, 4)
 else if below then (IntKind.i64.wrap (IntKind.u64.wrap (0 - p % 18446744073709551616)), 0) else (IntKind.i64.wrap (p % 18446744073709551616), 0)
def Ec (a b : Int) : Int × Int := if b == 0 then (0, 5) else if (a == -9223372036854775808) && (b == -1) then (0, 4) else (IntKind.i64.wrap (a.tdiv b), 0)
def Jr (a b : Int) : Int × Int := if b == 0 then (0, 5) else if b == -1 then (0, 0) else (IntKind.i64.wrap (a.tmod b), 0)
def Am (t : Str) (a b : Int) : Int × Int := if t == [43] then Nq a b else if t == [45] then Hl a b else if t == [42] then Iv a b else if t == [47] then Ec a b else Jr a b
def A6 (t : Str) (c : Int) : Bool × Bool := if t == [61] then (c == 0, true) else if t == [33, 61] then (c != 0, true) else if t == [60] then (decide (c < 0), true) else if t == [60, 61] then (decide (c ≤ 0), true) else if t == [62] then (decide (0 < c), true) else if t == [62, 61] then (decide (0 ≤ c), true) else (false, false)
def Gu (a b : Int) : Int := if decide (a < b) then -1 else if decide (b < a) then 1 else 0
def orI : List Int → Int
 | [] => 0
 | a :: r => if a != 0 then a else orI r
def Ze (a b : Val) : Int := if (!(Bx a)) || !(Bx b) then 0 else orI [Gu a.kind b.kind, Gu a.n b.n, Lib.compareBytes a.s b.s]
def Iw (t : Str) (a b : Val) : Rs := if (A6 t (Ze a b)).2 then (if a.kind != b.kind then Bh 10 else (E2 (A6 t (Ze a b)).1, 0)) else if t == [38] then Jq a b else if !Cl [a, b] [1, 1] then Bh 10 else Eb (Am t a.n b.n)
def Gq (t : Str) (v : Val) : Rs := if (t == [115, 116, 114]) && (v.kind == 1) then (Ow (Lib.itoa v.n), 0) else if (t == [108, 101, 110]) && (v.kind == 2) then (⟨1, v.s.length, []⟩, 0) else if (t == [110, 117, 109]) && (v.kind == 2) then Eb (Bt v.s) else Bh 10
def Ho (t : Str) (s : Str) (n : Int) : Val := if t == [108, 101, 102, 116] then Ow (s.take (max 0 (min n s.length)).toNat) else Ow (s.drop (s.length - (max 0 (min n s.length)).toNat))
def B8 (o : Int) (t : Str) (l : List Val) : Rs :=
 if o == 5 then Iw t (l.getD 0 noV) (l.getD 1 noV) else if (o == 3) && Cl l [1] then Eb (Hl 0 (l.getD 0 noV).n) else if (o == 4) && Cl l [3] then (E2 ((l.getD 0 noV).n == 0), 0)
 else if o != 6 then Bh 10 else if (l.length : Int) == 1 then Gq t (l.getD 0 noV) else if !Cl l [2, 1] then Bh 10 else (Ho t (l.getD 0 noV).s (l.getD 1 noV).n, 0)
abbrev Bm (c : List Col) (l : List Val) (e : Expr) : Rs := Fe B8 c l e
abbrev Ff (x : Expr) (c : List Col) (l : List Val) : Rs := rm B8 x c l
/-! Values are plain, and their numbers have 64 bits. -/
structure Fine (v : Val) : Prop where
 plain : Bx v = true
 lo : -9223372036854775808 ≤ v.n
 hi : v.n ≤ 9223372036854775807
theorem I4 : Fine noV := ⟨rfl, by decide, by decide⟩
theorem Kn (b : Bool) : Fine (E2 b) := by cases b <;> exact ⟨rfl, by decide, by decide⟩
theorem Tf {n : Int} (h0 : -9223372036854775808 ≤ n) (h1 : n ≤ 9223372036854775807) : Fine ⟨1, n, []⟩ := ⟨rfl, h0, h1⟩
theorem Ns (s : Str) : Fine (Ow s) := ⟨by
 unfold Bx Ow
 simp only [show ((2 : Int) == 0) = false from rfl, show ((2 : Int) == 1) = false from rfl, show ((2 : Int) == 2) = true from rfl, Bool.false_eq_true, if_false, if_true, show ((0 : Int) == 0) = true from rfl, Bool.true_and, decide_eq_true_eq, List.length_take]
 omega, by show -9223372036854775808 ≤ (0 : Int); decide, by show (0 : Int) ≤ 9223372036854775807; decide⟩
theorem Fine.len {v : Val} (h : Fine v) : v.s.length ≤ 200 := by
 have h := h.plain
 unfold Bx at h
 split at h
 ·simp only [Bool.and_eq_true, beq_iff_eq] at h; rw [h.2]; exact Nat.zero_le _
 split at h
 ·rw [beq_iff_eq] at h; rw [h]; exact Nat.zero_le _
 split at h
 ·simp only [Bool.and_eq_true, decide_eq_true_eq] at h; omega
 simp only [Bool.and_eq_true, beq_iff_eq] at h; rw [h.1.1.2]; exact Nat.zero_le _
theorem Ix {x : Int × Int} (h0 : x.2 = 0 → -9223372036854775808 ≤ x.1) (h1 : x.2 = 0 → x.1 ≤ 9223372036854775807) : Fine (Eb x).1 := by
 unfold Eb
 split
 ·exact I4
 rename_i h
 have h : x.2 = 0 := by simpa using h
 exact Tf (h0 h) (h1 h)
theorem Nt (e : Int) : Fine (Bh e).1 := I4
theorem Gi (n : Int) : -9223372036854775808 ≤ IntKind.i64.wrap n ∧ IntKind.i64.wrap n ≤ 9223372036854775807 := by rw [IntKind.wrap_i64]; omega
theorem dt (a b : Int) : Fine (Eb (Hl a b)).1 := by
 refine Ix (fun _ => ?_) (fun _ => ?_) <;> unfold Hl <;> split
 ·show -9223372036854775808 ≤ (0 : Int); decide
 ·exact (Gi _).1
 ·show (0 : Int) ≤ 9223372036854775807; decide
 exact (Gi _).2
theorem Tg (t : Str) (a b : Int) : -9223372036854775808 ≤ (Am t a b).1 ∧ (Am t a b).1 ≤ 9223372036854775807 := by
 have z : -9223372036854775808 ≤ (0 : Int) ∧ (0 : Int) ≤ 9223372036854775807 := by decide
 unfold Am
 split
 ·unfold Nq; split; exact z; exact Gi _
 split
 ·unfold Hl; split; exact z; exact Gi _
 split
 ·unfold Iv
  simp only
  repeat' split
  all_goals first | exact z | exact Gi _
 split
 ·unfold Ec; split; exact z; split; exact z; exact Gi _
 unfold Jr; split; exact z; split; exact z; exact Gi _
theorem du {t : Str} {a b : Val} : Fine (Iw t a b).1 := by
 unfold Iw
 split
 ·split
  ·exact Ol
  exact Kn _
 split
 ·unfold Jq
  split
  ·exact Ol
  split
  ·exact Ol
  exact Ns _
 split
 ·exact Ol
 exact Ix (fun _ => (Tg _ _ _).1) (fun _ => (Tg _ _ _).2)
theorem dv (s : Str) : -9223372036854775808 ≤ (Bt s).1 ∧ (Bt s).1 ≤ 9223372036854775807 := by
 unfold Bt
 split
 ·decide
 split
 ·rename_i v h
  have := Lib.parseIntB_bounds h
  simp only [show ((2 ^ (64 - 1) : Nat) : Int) = 9223372036854775808 by decide] at this
  show -9223372036854775808 ≤ v ∧ v ≤ 9223372036854775807
  omega
 ·decide
 decide
theorem dw {t : Str} {v : Val} (h : Fine v) : Fine (Gq t v).1 := by
 unfold Gq
 split
 ·exact Ns _
 split
 ·have := h.len
  exact Tf (by omega) (by omega)
 split
 ·exact Ix (fun _ => (dv _).1) (fun _ => (dv _).2)
 exact Ol
theorem Th {o : Int} {t : Str} {l : List Val} (h : ∀ v ∈ l, Fine v) : Fine (B8 o t l).1 := by
 have h0 : Fine (l.getD 0 noV) := by cases l with | nil => exact I4 | cons a r => exact h a List.mem_cons_self
 unfold B8
 split
 ·exact du
 split
 ·exact dt _ _
 split
 ·exact Kn _
 split
 ·exact Ol
 split
 ·exact dw h0
 split
 ·exact Ol
 unfold Ho
 split <;> exact Ns _
theorem Iy {r : Rs} (h : Fine r.1) : Fine (Aj r).1 := by
 unfold Aj
 split
 ·exact Ol
 exact h
theorem Nu {s : Val} {a b : Rs} (ha : Fine a.1) (hb : Fine b.1) : Fine (Ev s a b).1 := by
 unfold Ev
 split
 ·exact Iy ha
 split
 ·exact Iy hb
 exact Iy ha
theorem Zf {t : Str} {a b c : Rs} (ha : Fine a.1) (hb : Fine b.1) (hc : Fine c.1) : Fine (Cx t a b c).1 := by
 unfold Cx
 repeat' split
 all_goals first | exact Nt _ | exact hb | exact hc | exact ha | exact Kn _
theorem dx {f : List Val → Rs} {l : List Rs} (hf : ∀ k : List Val, (∀ v ∈ k, Fine v) → Fine (f k).1) (h : ∀ r ∈ l, Fine r.1) : Fine (Nr f l).1 := by
 unfold Nr
 split
 ·exact Ol
 split
 ·exact I4
 refine hf _ fun v hv => ?_
 obtain ⟨r, hr, rfl⟩ := List.mem_map.1 hv
 exact h r hr
theorem Zg {c : List Col} {l : List Val} (h : ∀ v ∈ l, Fine v) (t : Str) : Fine (Hm c l t).1 := by
 unfold Hm
 split
 ·exact Ol
 show Fine (l.getD _ noV)
 rw [List.getD_eq_getElem?_getD]
 cases hg : l[(C4 t c).toNat]? with
 | none => exact I4
 | some v => exact h v (List.mem_of_getElem? hg)
def Js (e : Expr) : Bool := !(e.op == 1) || Bx e.val
theorem Ed {k : List Rs} (h : ∀ r ∈ k, Fine r.1) (i : Nat) : Fine (k.getD i (noV, 0)).1 := by
 rw [List.getD_eq_getElem?_getD]
 cases hg : k[i]? with
 | none => exact I4
 | some r => exact h r (List.mem_of_getElem? hg)
mutual
theorem Pw {c : List Col} {l : List Val} (h : ∀ v ∈ l, Fine v) : ∀ e : Expr, Cg Js e = true → Cg F0 e = true → Fine (Bm c l e).1
 | .mk o t v k, h1, h2 => by
  rw [Cg, Bool.and_eq_true] at h1 h2
  have hk := Nv (c := c) h k h1.2 h2.2
  rw [Bm, Fe]
  unfold Hn
  split
  ·rename_i ho
   have p := h1.1
   unfold Js at p
   rw [show (Expr.mk o t v k).op = o from rfl, ho] at p
   have q := h2.1
   unfold F0 at q
   simp only [Bool.and_eq_true, decide_eq_true_eq] at q
   exact ⟨by show Bx (Expr.mk o t v k).val = true; simpa using p, q.1, q.2⟩
  split
  ·exact Zg h t
  split
  ·exact Nu (Ed hk 0) (Ed hk 1)
  split
  ·exact Nu (Ed hk 0) (Ed hk 1)
  split
  ·exact Zf (Ed hk 0) (Ed hk 1) (Ed hk 2)
  exact dx (fun _ hl => Th hl) hk
theorem Nv {c : List Col} {l : List Val} (h : ∀ v ∈ l, Fine v) : ∀ k : List Expr, Hh Js k = true → Hh F0 k = true → ∀ r ∈ If B8 c l k, Fine r.1
  | [], _, _ => fun r hr => by cases hr
  | e :: k, h1, h2 => by
    rw [Hh, Bool.and_eq_true] at h1 h2
    intro r hr
    rw [If] at hr
    rcases List.mem_cons.1 hr with rfl | hr
    · exact Pw h e h1.1 h2.1
    exact Nv h k h1.2 h2.2 r hr
 end
/-! A text between marks. -/
set_option maxRecDepth 4000
theorem dy {a b : List Expr} (hl : a.length = b.length) (h : ∀ (j : Nat) (y z : Expr), j < a.length → a[j]? = some y → b[j]? = some z → eqE y z = true) : eqL a b = true := by
 rw [Jl]
 refine Ie hl fun j y hj hy => ?_
 have hjb : j < b.length := by omega
 have := h j y b[j] hj hy (List.getElem?_eq_getElem hjb)
 rw [List.getElem?_eq_getElem hjb, (R4 _ _).1 this]
theorem nb {a b : List Expr} (h : eqL a b = true) {j : Nat} (hj : j < a.length) (hb : j < b.length) : eqE a[j] b[j] = true := by
 have e := (Jl _ _).1 h
 subst e
 exact dh _
theorem nc {a b : List Expr} {j : Nat} (hj : j < a.length) (hb : j < b.length) (h : eqE a[j] b[j] = false) : eqL a b = false := by
 rw [Bool.eq_false_iff]
 intro h2
 rw [nb h2 hj hb] at h
 cases h
theorem jr {a b : List Expr} (h : a.length ≠ b.length) : eqL a b = false := by
 rw [Bool.eq_false_iff]
 exact fun h2 => h (j7 h2)
theorem rn {a b : List Expr} {x : Nat} (hx : x < a.length) (hb : x < b.length) (h : ∀ (j : Nat) (y z : Expr), j < x → a[j]? = some y → b[j]? = some z → eqE y z = true) (he : eqE a[x] b[x] = true) : ∀ (j : Nat) (y z : Expr), j < x + 1 → a[j]? = some y → b[j]? = some z → eqE y z = true := by
 intro j y z hj h1 h2
 rcases Nat.lt_or_ge j x with h3 | h3
 ·exact h j y z h3 h1 h2
 have : j = x := by omega
 subst this
 rw [List.getElem?_eq_getElem hx] at h1
 rw [List.getElem?_eq_getElem hb] at h2
 injection h1 with h1
 injection h2 with h2
 rw [← h1, ← h2]
 exact he
theorem c95 (n : Nat) (a b : List Expr) (ha : a.length ≤ 1048576) (hok : ∀ y ∈ a, okE n y) (ih : ∀ (x : Expr), okE n x → ∀ (y : Expr) (Hp : List AObj), AFun Tryz.prog 66 [Ab x, Ab y] Hp (Al (eqE x y))) (Hp : List AObj) : AFun Tryz.prog 95 [.slice false 6 (a.map Ab), .slice false 6 (b.map Ab), .fn (.func 66) [] []] Hp (Al (eqL a b)) := by
 refine ACall.body [.tmp 6] [0, 1, 2] Tryz.func95 Tryz.ntmps95 (fun d => ?_)
 refine Z2 ?_;refine R.fin [0, 1, 2] ?_;refine U9 ?_;refine R.len jU ?_;refine R.neq ?_;refine R.fin [0, 1, 2, 14] ?_
 refine W.cond (fun ht14 => ?_) (fun ht14 => ?_)
 ·have hf : eqL a b = false := jr (by have := ht14; simp at this; omega)
  refine Y1 ?_;refine Z11 ?_;exact K.fin (V.one V.tmp) ⟨by rw [hf], rfl⟩
 have hlen : a.length = b.length := by have := ht14; simp at this; omega
 refine Z5 ?_;refine U9 ?_;refine R.fin [1, 2, 15, 16, 17] ?_
 refine AW.loopC (α := Nat) (fun i => ⟨32, A5 1 (.slice false 6 (b.map Ab)) (A5 2 (.fn (.func 66) [] []) (A5 15 (.slice false 6 (a.map Ab)) (A5 16 (A4 (a.length : Nat)) (A5 17 (A4 (i : Nat)) (fun _ => .any))))), Hp, [], [], none⟩) (fun i => i ≤ a.length ∧ ∀ (j : Nat) (y z : Expr), j < i → a[j]? = some y → b[j]? = some z → eqE y z = true) (fun i => a.length - i) (0) ⟨Nat.zero_le _, fun j y z h => by omega⟩ (StLe.of_eq (by simp)) rfl (fun i hi => ?_)
 refine Z89 ?_;refine R.fin [1, 2, 15, 16, 17, 18] ?_
 refine W.condX (fun ht18 => ?_) (fun ht18 => ?_)
 ·have hlt : i < a.length := by simpa using ht18
  have hlb : i < b.length := by omega
  refine Gd ?_;refine R.indexAddr (i) (Ab a[i]) jU jS (Bf hlt) ?_;refine Dq ?_;refine bm ?_;refine R.fin [1, 2, 7, 8, 15, 16, 17] ?_;refine Z29 ?_;refine R.indexAddr (i) (Ab b[i]) jU jS (Bf hlb) ?_;refine Dq ?_;refine Z16 ?_;refine R.fin [1, 2, 8, 9, 15, 16, 17] ?_;refine Z0 ?_;refine Ml ?_;refine Ml ?_;refine R.callV Tryz.call66 (ih a[i] (hok _ (List.getElem_mem hlt)) b[i] _) ?_;refine R.not ?_;refine R.fin [1, 2, 15, 16, 17, 30] ?_
  refine W.cond (fun ht30 => ?_) (fun ht30 => ?_)
  ·have hf : eqL a b = false := nc hlt hlb (by simpa using ht30)
   refine Y1 ?_;refine Z59 ?_;refine K.lpR ?_;refine K.thR ?_;exact K.fin (V.one V.tmp) ⟨by rw [hf], rfl⟩
  have he : eqE a[i] b[i] = true := by simpa using ht30
  refine Mk ?_;refine R.fin [1, 2, 15, 16, 17] ?_;refine K.lpN (i + 1) ⟨hlt, rn hlt hlb hi.2 he⟩ (by omega) ?_
  exact StCut.take (own := []) (fun _ => .refl _) (by repeat (first | exact B7 | refine B6 (by first | exact Cc | (simp; done)) ?_)) (by simp) (by simp)
 have hxe : a.length ≤ i := by simpa using ht18
 refine Z54 ?_;refine Y1 ?_;refine AW.ret ?_;exact K.fin (V.one V.tmp) ⟨by rw [dy hlen (fun j y z hj => hi.2 j y z (by omega))], rfl⟩

theorem c66 : ∀ (n : Nat) (x : Expr), okE n x → ∀ (y : Expr) (Hp : List AObj), AFun Tryz.prog 66 [Ab x, Ab y] Hp (Al (eqE x y)) := by
 intro n
 induction n with
 | zero => exact fun x h => h.elim
 | succ n ih =>
 intro x hok y Hp
 refine ACall.body [.tmp 4] [0, 1] Tryz.func66 Tryz.ntmps66 (fun d => ?_)
 refine Lj ?_;refine Z41 ?_;refine Mf ?_;refine Z15 ?_;refine Mi ?_;refine Z30 ?_;refine Qs ?_;refine U8 ?_;refine io ?_;refine G.loadRoN jA jS ?_;refine io ?_;refine G.loadRoN jA jS ?_;refine G.eqlAgg S8 (fun w => Fl x.val.kind x.val.n y.val.kind y.val.n x.val.s y.val.s w) ?_;refine U8 ?_;refine Z51 ?_;refine Z51 ?_;refine G.call Tryz.call95 (fun hB => c95 n x.kids y.kids hok.2.1 hok.2.2 ih _) ?_;refine Z32 ?_;refine Z36 ?_;exact K.fin (V.one V.tmp) ⟨by rw [n5], rfl⟩

theorem R8 (o : Int) (t : Str) (v : Val) (k : List Expr) : Ab (.mk o t v k) = .agg [A4 o, .v (sv t), A4 v.kind, A4 v.n, .v (sv v.s), .slice false 6 (k.map Ab)] := by rw [Af]; rfl
theorem dz {α β : Type} {f : α → β} {l : List α} {x : Nat} (h : x < l.length) : (l.take (x + 1)).map f = (l.take x).map f ++ [f l[x]] := by rw [List.take_succ_eq_append_getElem h, List.map_append]; rfl
set_option maxRecDepth 8000
/-! Who decides decides: the law's sources, columns and truths. -/
/-! Rows. -/
theorem row_iff {c : List Col} {l : List Val} : Iu c l = true ↔ cl c = true ∧ l.length = c.length ∧ ∀ (i : Nat) (v : Val) (y : Col), l[i]? = some v → c[i]? = some y → Bx v = true ∧ (v.kind = 0 ∨ v.kind = y.kind) := by
 unfold Iu
 rw [Bool.and_eq_true, Bool.and_eq_true, We, beq_iff_eq, List.all_eq_true, and_assoc]
 refine and_congr_right fun _ => and_congr_right fun hl => ⟨fun h i v y hv hy => ?_, fun h p hp => ?_⟩
 ·have := h (v, y) (List.mem_of_getElem? (i := i) (by rw [List.getElem?_zip_eq_some]; exact ⟨hv, hy⟩))
  simpa using this
 obtain ⟨i, hi⟩ := List.getElem?_of_mem hp
 rw [List.getElem?_zip_eq_some] at hi
 have := h i p.1 p.2 hi.1 hi.2
 simpa using this
/-! Rows that differ in what is not named. -/
/-! Who has a kind comes to it. -/
theorem Iz {t : Str} {n : Nat} (h : Aw t = (n : Int)) : (t = [108, 101, 110] ∧ n = 1) ∨ (t = [115, 116, 114] ∧ n = 1) ∨ (t = [110, 117, 109] ∧ n = 1) ∨ (t = B4 ∧ n = 1) ∨ (t = R7 ∧ n = 2) ∨ (t = [108, 101, 102, 116] ∧ n = 2) ∨ (t = [114, 105, 103, 104, 116] ∧ n = 2) ∨ (t = ifW ∧ n = 3) := by
 by_cases hm : t ∈ arityList.map (·.1)
 ·have ha : ∀ s ∈ arityList.map (·.1), (s = [108, 101, 110] ∧ Aw s = 1) ∨ (s = [115, 116, 114] ∧ Aw s = 1) ∨ (s = [110, 117, 109] ∧ Aw s = 1) ∨ (s = B4 ∧ Aw s = 1) ∨ (s = R7 ∧ Aw s = 2) ∨ (s = [108, 101, 102, 116] ∧ Aw s = 2) ∨ (s = [114, 105, 103, 104, 116] ∧ Aw s = 2) ∨ (s = ifW ∧ Aw s = 3) := by
   have : ((arityList.map (·.1)).all fun s => decide ((s = [108, 101, 110] ∧ Aw s = 1) ∨ (s = [115, 116, 114] ∧ Aw s = 1) ∨ (s = [110, 117, 109] ∧ Aw s = 1) ∨ (s = B4 ∧ Aw s = 1) ∨ (s = R7 ∧ Aw s = 2) ∨ (s = [108, 101, 102, 116] ∧ Aw s = 2) ∨ (s = [114, 105, 103, 104, 116] ∧ Aw s = 2) ∨ (s = ifW ∧ Aw s = 3))) = true := by kernel_rfl
   exact fun s hs => of_decide_eq_true (List.all_eq_true.1 this s hs)
  have := ha t hm
  rw [h] at this
  rcases this with ⟨e, h2⟩ | ⟨e, h2⟩ | ⟨e, h2⟩ | ⟨e, h2⟩ | ⟨e, h2⟩ | ⟨e, h2⟩ | ⟨e, h2⟩ | ⟨e, h2⟩
  ·exact .inl ⟨e, by omega⟩
  ·exact .inr (.inl ⟨e, by omega⟩)
  ·exact .inr (.inr (.inl ⟨e, by omega⟩))
  ·exact .inr (.inr (.inr (.inl ⟨e, by omega⟩)))
  ·exact .inr (.inr (.inr (.inr (.inl ⟨e, by omega⟩))))
  ·exact .inr (.inr (.inr (.inr (.inr (.inl ⟨e, by omega⟩)))))
  ·exact .inr (.inr (.inr (.inr (.inr (.inr (.inl ⟨e, by omega⟩))))))
  exact .inr (.inr (.inr (.inr (.inr (.inr (.inr ⟨e, by omega⟩))))))
 have h1 : Aw t = -1 := by
  unfold Aw
  rw [List.find?_eq_none.2 fun p hp => by
   simp only [beq_iff_eq]
   rintro rfl
   exact hm (List.mem_map.2 ⟨p, hp, rfl⟩)]
 omega
theorem R9 {k : List Expr} (h : k.length = 2) : ∃ a b, k = [a, b] := by match k, h with | [a, b], _ => exact ⟨a, b, rfl⟩
/-! The print of a tree, and its words. -/
def Gv (least : Nat) (x : Expr) (s : Str) : Str := if least ≤ levE x then s else 40 :: (s ++ [41])
def Dr : List Str → Str
 | [] => []
 | s :: r => 44 :: 32 :: (s ++ Dr r)
def Jt (o : Int) (t : Str) (v : Val) (k : List Expr) (ss : List Str) : Str :=
 if o == 1 then D7 v else if o == 2 then t
 else if o == 3 then 45 :: Gv 6 (k.getD 0 Ah) (ss.getD 0 [])
 else if o == 4 then Z1 ++ 32 :: Gv 2 (k.getD 0 Ah) (ss.getD 0 [])
 else if o == 5 then Gv (Dy (At t).toNat) (k.getD 0 Ah) (ss.getD 0 []) ++ 32 :: (t ++ 32 :: Gv ((At t).toNat + 1) (k.getD 1 Ah) (ss.getD 1 []))
 else t ++ 40 :: ((Dr ss).drop 2 ++ [41])
mutual
def Ag : Expr → Str
 | .mk o t v k => Jt o t v k (Hq k)
def Hq : List Expr → List Str
  | [] => []
  | e :: r => Ag e :: Hq r
 end
theorem J0 : ∀ l, Hq l = l.map Ag
 | [] => rfl
 | e :: r => by rw [Hq, J0 r]; rfl
theorem nd (v : Val) : Ag (Fs v) = D7 v := by simp [Fs, Ag, Jt]
theorem js (t : Str) : Ag (D8 t) = t := by simp [D8, Ag, Jt]
theorem nf (a : Expr) : Ag (Dk 3 a) = 45 :: Gv 6 a (Ag a) := by simp [Dk, Ag, Hq, Jt]
theorem rp (a : Expr) : Ag (Dk 4 a) = Z1 ++ 32 :: Gv 2 a (Ag a) := by simp [Dk, Ag, Hq, Jt]
theorem ng (t : Str) (a b : Expr) : Ag (Eu t a b) = Gv (Dy (At t).toNat) a (Ag a) ++ 32 :: (t ++ 32 :: Gv ((At t).toNat + 1) b (Ag b)) := by simp [Eu, Ag, Hq, Jt]
theorem jt (t : Str) (k : List Expr) : Ag (.mk 6 t noV k) = t ++ 40 :: ((Dr (Hq k)).drop 2 ++ [41]) := by simp [Ag, Jt]
/-! What was parsed nests no deeper than may be. -/
/-! What nests too deep is told to be too deep. -/
def F2 (l : List Tok) (x : Expr) : Prop := ∀ (k : Nat) (S : PS) (rest : List TK), (k = 0 ∨ k = 1 ∨ k = 4 ∨ k = 5) → k ≤ levE x → S.code = 0 → S.nest ≤ 30 → 30 < S.nest + Wp x → seg l S.i = Nm x ++ rest → dm (k + 1) rest → (Cv l (ofL k) (pf l (fam l S.nest) (k + 1)) S).2.code = 18
/-! What was parsed is right, where the words are the lexer's. -/
/-! The lexer's words. -/
/-! The parse laws where nothing is too deep. -/
/-! The parser from a word on, and of a source. -/
/-! Other trees have other words, and other prints. -/
/-! The laws of printing. -/
/-- show.Print. -/
def Gr (x : Expr) : Str × Int := if !(Bc x) then ([], 1) else if decide ((4000 : Int) < ((Ag x).length : Int)) then ([], 3) else (Ag x, 0)
theorem Wv {x : Expr} (h : C0 x = true) : (Gr x = ([], 3) ∧ 4000 < (Ag x).length) ∨ (Gr x = (Ag x, 0) ∧ (Ag x).length ≤ 4000) := by
 unfold Gr
 rw [Ez, h]
 simp only [Bool.not_true, Bool.false_eq_true, if_false]
 split
 ·rename_i h2; exact .inl ⟨rfl, by simp at h2; omega⟩
 rename_i h2; exact .inr ⟨rfl, by simp at h2; omega⟩
theorem J1 {x : Expr} (h : C0 x = true) : Cg C9 x = true := by
 unfold C0 at h
 rw [Bool.and_eq_true] at h
 exact h.2
set_option maxRecDepth 4000
abbrev xo (own : Bool) (t : Str) (ks : List Expr) : AObj := .cells 27 [A4 6, A8 t, A4 0, A4 0, A8 [], .slice own 6 (ks.map Ab)]
theorem nh {n : Nat} {own : Bool} {t : Str} {ks : List Expr} : ObjLow n (xo own t ks) := by
 show ∀ z ∈ [A4 6, A8 t, A4 0, A4 0, A8 [], AV.slice own 6 (ks.map Ab)], Low n z
 intro z hz
 simp only [List.mem_cons, List.not_mem_nil, or_false] at hz
 rcases hz with rfl | rfl | rfl | rfl | rfl | rfl
 all_goals first | exact Cc | simp
theorem ju : C5 (.agg #[.int .i64 0, .string ⟨#[]⟩, .int .i64 0, .int .i64 0, .string ⟨#[]⟩, .slice none 0 0]) = .agg [A4 0, A8 [], A4 0, A4 0, A8 [], .nil] := rfl
attribute [go_sem] ju
theorem gA {Hp : List AObj} {o ox : Nat} {z A B : AObj} (ho : Hp[o]? = some z) (hne : ox ≠ o) : ((Hp.set o A).set ox B)[o]? = some A := by rw [List.getElem?_set_ne hne]; exact Ad ho
theorem gB {Hp : List AObj} {o ox : Nat} {z A B : AObj} (hox : Hp[ox]? = some z) : ((Hp.set o A).set ox B)[ox]? = some B := by
 have := (List.getElem?_eq_some_iff.1 hox).1
 simp [this]
theorem ni {Hp : List AObj} {o ox : Nat} {A A' B : AObj} (hne : ox ≠ o) : ((Hp.set o A).set ox B).set o A' = (Hp.set o A').set ox B := by rw [List.set_comm _ _ hne, List.set_set]
theorem J2 (ks : List Expr) (x : Expr) : ks.map Ab ++ [.agg [.v (.int .i64 x.op), .v (sv x.text), .v (.int .i64 x.val.kind), .v (.int .i64 x.val.n), .v (sv x.val.s), .slice false 6 (x.kids.map Ab)]] = (ks ++ [x]).map Ab := by rw [List.map_append, List.map_cons, List.map_nil, Af x]
theorem ui (l : List Tok) (S : PS) (t : Str) (Dv : Fam) (o ox : Nat) (Hp : List AObj) (hne : ox ≠ o) (ho : Hp[o]? = some (pr l S)) (hox : Hp[ox]? = some (xo true t [])) (hi : S.i < l.length) (hl : TokEnd l) (hll : l.length ≤ 1048576) (hf : Cb l S.nest Dv.ei) (hcf : PC 108 l Dv.ei S.nest) : ACall Tryz.prog 263 [.ptr ox 0, .ro [.ptr o 0]] Hp (fun r H' => r = Ab (.mk 6 t noV (E4 l Dv.ei S).1) ∧ H' = (Hp.set o (pr l (E4 l Dv.ei S).2)).set ox (xo true t (E4 l Dv.ei S).1)) := by
 have hoxl := (List.getElem?_eq_some_iff.1 hox).1
 have hol := (List.getElem?_eq_some_iff.1 ho).1
 refine ACall.body [.cell 2 27] [0, 1] Tryz.func263 Tryz.ntmps263 (fun d => ?_)
 refine Z31 ?_;refine R.fin [0, 1, 2] ?_
 refine W.drawT [0, 1, 0, 4, 3, 0, 63, 127, 255, 127, 639] [1, 3] [.q 1 [] [0], .s [4] (some 0) [] [], .q 1 [] [1], .s [6] (some 1) [] [], .q 2 [] []] (fun B => (Hp.set o (if B 1 = true then pr l (Dv.ei S).2 else pr l S)).set ox (if B 0 = true then xo false t [] else xo true t [])) (fun _ => [Ft]) Ae (by kernel_rfl) (by simp only [Bool.false_eq_true, if_false]; rw [B5 ho, B5 hox]) rfl (fun B => by simp) ?_
 apply Y.q
 case h1 =>
  intro B hT hF
  exact pj
 case hTF => decide
 refine Y.loadUpT (o := ox) (t' := 27) (cs := [A4 6, A8 t, A4 0, A4 0, A8 [], .slice true 6 ([].map Ab)]) (cs' := [A4 6, A8 t, A4 0, A4 0, A8 [], .slice false 6 ([].map Ab)]) Tryz.isAgg25 (fun B hB => ⟨by simp only [hB]; exact gB hox, by simp [upd, List.set_set] <;> rfl, rfl⟩) ?_
 apply Y.q
 case h1 =>
  intro B hT hF
  refine Gs ?_;exact Jc
 case hTF => decide
 refine Y.callUp (r := Ab (Dv.ei S).1) (o := o) (x0 := pr l S) (x := pr l (Dv.ei S).2) Tryz.call108 (fun B hT hF hB => ⟨by simp only [hB]; exact gA ho hne, ?_, rfl, Bg, ?_⟩) ?_
 ·simp only [upd, hB, Nat.reduceEqDiff, if_false, if_true, Bool.false_eq_true]
  exact (ni hne).symm
 ·simp only [hB]
  exact hcf o _ S (Ac (gA ho hne)) hi rfl
 apply Y.q
 case h1 =>
  intro B hT hF
  refine D.len jU ?_;exact Z92
 case hTF => decide
 refine Y.appendPut (tn := [1, 3]) (U := (Hp.set o (pr l (Dv.ei S).2)).set ox (xo false t [])) (O := [Ft]) (o := ox) (t' := 27) (cs := [A4 6, A8 t, A4 0, A4 0, A8 [], .slice false 6 ([].map Ab)]) (by kernel_rfl) jU Tryz.type27 Tryz.sizeOf27 Tryz.sizeOf25 jU (Ac (gB hox)) ?_ ?_ ?_ (hfsz := Tryz.sizeOf25)
 ·simp [Tryz.t27]
 ·simp [Tryz.t27]
 refine R.fieldAddrPtr (fo := 5) jU Tryz.sizeOf25 ?_
 refine R.storeUpT jS (gB hox) ?_ ?_
 ·first | (rw [J2]; exact Cc) | (have := Cc (n := ((Hp.set o (pr l (Dv.ei S).2)).set ox (xo false t [])).length) (k := 6) (o := true) (l := [(Dv.ei S).1]); simp only [List.map_cons, List.map_nil, Af] at this; exact this)
 refine R.fin [0, 1, 2] ?_;refine W.seq ?_
 refine AW.loopC (α := List Expr × PS) (fun r => ⟨34, A5 0 (.ptr ox 0) (A5 1 (.ro [.ptr o 0]) (A5 2 (.ptr (oid Hp.length 0) 0) (fun _ => .any))), (Hp.set o (pr l r.2)).set ox (xo true t r.1), [Ft], [], none⟩) (fun r => ArgsAt l Dv.ei S r) (fun r => l.length - r.2.i) (([(Dv.ei S).1], (Dv.ei S).2)) (.start (hf S hi rfl)) (StLe.of_eq (by simp [List.set_set, xo, Af])) rfl (fun r hx => ?_)
 refine Z23 ?_;refine Cp ?_;refine Qq ?_;refine R.loadUp jA (gA ho hne) ?_;refine Mi ?_;refine G.loadRo jA ?_;refine G.call Tryz.call170 (fun hB => T9 l r.2 Ni o _ (Ac (gA ho hne)) hx.fact.lt hl (by decide)) ?_;refine R.pickAnd ?_;refine R.fin [0, 1, 2, 21] ?_
 refine W.cond (fun ht21 => ?_) (fun ht21 => ?_)
 ·have hon := hx.on hl ht21 hf
  have hle := hon.2.1.le
  have hlt0 := hx.fact.lt
  refine Z5 ?_;refine Es ?_;refine Qm ?_;refine R.callUp Tryz.call171 (gA ho hne) (by simp) Bg (c171 l r.2 o _ (Ac (gA ho hne)) hx.fact.lt hll) ?_;refine R.fin [0, 1, 2] ?_
  refine W.drawT0 [0, 1, 0, 4, 3, 0, 63, 127, 255, 127, 639] [1, 3] [.q 1 [] [0], .s [25] (some 0) [] [], .q 1 [] [1], .s [27] (some 1) [] [], .q 2 [] []] (fun B => (Hp.set o (if B 1 = true then pr l (Dv.ei (Aa r.2)).2 else pr l (Aa r.2))).set ox (if B 0 = true then xo false t r.1 else xo true t r.1)) (fun _ => [Ft]) Ae (by kernel_rfl) (by simp only [Bool.false_eq_true, if_false]; exact (ni hne).symm) rfl (fun B => by simp) ?_
  apply Y.q
  case h1 =>
   intro B hT hF
   exact pj
  case hTF => decide
  refine Y.loadUpT (o := ox) (t' := 27) (cs := [A4 6, A8 t, A4 0, A4 0, A8 [], .slice true 6 (r.1.map Ab)]) (cs' := [A4 6, A8 t, A4 0, A4 0, A8 [], .slice false 6 (r.1.map Ab)]) Tryz.isAgg25 (fun B hB => ⟨by simp only [hB]; exact gB hox, by simp [upd, List.set_set] <;> rfl, rfl⟩) ?_
  apply Y.q
  case h1 =>
   intro B hT hF
   refine Gs ?_;exact Jc
  case hTF => decide
  refine Y.callUp (r := Ab (Dv.ei (Aa r.2)).1) (o := o) (x0 := pr l (Aa r.2)) (x := pr l (Dv.ei (Aa r.2)).2) Tryz.call108 (fun B hT hF hB => ⟨by simp only [hB]; exact gA ho hne, ?_, rfl, Bg, ?_⟩) ?_
  ·simp only [upd, hB, Nat.reduceEqDiff, if_false, if_true, Bool.false_eq_true]
   exact (ni hne).symm
  ·simp only [hB]
   exact hcf o _ (Aa r.2) (Ac (gA ho hne)) hon.1 hx.fact.nest
  apply Y.q
  case h1 =>
   intro B hT hF
   refine D.len jU ?_;exact Z92
  case hTF => decide
  refine Y.appendPut (tn := [1, 3]) (U := (Hp.set o (pr l (Dv.ei (Aa r.2)).2)).set ox (xo false t r.1)) (O := [Ft]) (o := ox) (t' := 27) (cs := [A4 6, A8 t, A4 0, A4 0, A8 [], .slice false 6 (r.1.map Ab)]) (by kernel_rfl) jU Tryz.type27 Tryz.sizeOf27 Tryz.sizeOf25 jU (Ac (gB hox)) ?_ ?_ ?_ (hfsz := Tryz.sizeOf25)
  ·have := hx.fact.len; have := hx.fact.lt; simp only [List.length_map, Tryz.t27]; omega
  ·have := hx.fact.len; have := hx.fact.lt; simp only [List.length_map, Tryz.t27]; omega
  refine R.fieldAddrPtr (fo := 5) jU Tryz.sizeOf25 ?_
  refine R.storeUpT jS (gB hox) ?_ ?_
  ·first | (rw [J2]; exact Cc) | (have := Cc (n := ((Hp.set o (pr l (Dv.ei S).2)).set ox (xo false t [])).length) (k := 6) (o := true) (l := [(Dv.ei S).1]); simp only [List.map_cons, List.map_nil, Af] at this; exact this)
  refine R.fin [0, 1, 2] ?_;refine K.blN ?_
  refine K.lpN (r.1 ++ [(Dv.ei (Aa r.2)).1], (Dv.ei (Aa r.2)).2) hon.2.2 (by show l.length - (Dv.ei (Aa r.2)).2.i < l.length - r.2.i; have : r.2.i + 1 ≤ (Dv.ei (Aa r.2)).2.i := hle; omega) (StCut.of_eq ?_)
  simp only [show Tryz.t27.size = 6 from rfl, J2, List.set_set]
 have hout := hx.out (by rw [ht21]; simp)
 refine Oj ?_;refine B9 ?_;refine R.loadUpN jA jS (gB hox) ?_;refine Z6 ?_;exact K.fin (V.one (V.cellN jA jS)) ⟨by rw [hout, R8]; rfl, by rw [hout]⟩ (hlow := by have := Ak Hp.length (.mk 6 t noV r.1); rw [R8] at this; simpa using this)

/-- within, with the function that gathers a call's kids. -/
theorem rq (l : List Tok) (S : PS) (a : Int) (t : Str) (Dv : Fam) (o : Nat) (Hp : List AObj) (A0 A1 : AObj) (l0 : ObjLow 0 A0) (ho : Hp[o]? = some (pr l S)) (hi : S.i < l.length) (hl : TokEnd l) (hll : l.length ≤ 1048576) (hnl : S.nest ≤ 30) (hd : DeepC l Dv S.nest) :
  ACall Tryz.prog 201 [.ptr o 0, A4 a, .fn (.func 263) [] [.ptr (oid Hp.length 2) 0, .ro [.ptr o 0]]] (Hp ++ [A0, A1, xo true t []]) (fun r H' => r = Ab (if S.nest = 30 then Ah else .mk 6 t noV (L5 l a Dv.ei S).1) ∧ H' = Hp.set o (pr l (L5 l a Dv.ei S).2) ++ [A0, A1, xo true t (L5 l a Dv.ei S).1]) := by
 have hlt := (List.getElem?_eq_some_iff.1 ho).1
 have ho' : (Hp ++ [A0, A1, xo true t []])[o]? = some (pr l S) := Ac ho
 by_cases h30 : S.nest = 30
 ·refine (jj l S a 263 [] [.ptr (oid Hp.length 2) 0, .ro [.ptr o 0]] Ah (Bo S) o (Hp ++ [A0, A1, xo true t []]) ((Hp ++ [A0, A1, xo true t []]).set o (pr l (Bo S))) ho' (by omega) Tryz.call263 (by simp) (Ad ho') rfl (fun h => h) (fun h => absurd h30 h)).mono fun r H' h => ?_
  have e : L5 l a Dv.ei S = ([], C7 18 a S) := if_pos (by rw [h30]; rfl)
  rw [e, if_pos h30]
  obtain ⟨h1, h2⟩ := h.1 h30
  exact ⟨h1, by rw [h2, List.set_append_left _ _ hlt]⟩
 have hq := Nk (S := Bo S) hl hi (hd.ei h30).1
 refine (jj l S a 263 [] [.ptr (oid Hp.length 2) 0, .ro [.ptr o 0]] (.mk 6 t noV (E4 l Dv.ei (Bo S)).1) (E4 l Dv.ei (Bo S)).2 o (Hp ++ [A0, A1, xo true t []]) (Hp.set o (pr l (E4 l Dv.ei (Bo S)).2) ++ [A0, A1, xo true t (E4 l Dv.ei (Bo S)).1]) ho' (by omega) Tryz.call263 (by simp) (Ac (Ad ho)) hq.nest (fun h y hy => ?_) (fun _ own => ?_)).mono fun r H' h => ?_
 ·rw [List.set_append_left _ _ hlt] at h
  rcases List.mem_append.1 hy with hy | hy
  ·rcases List.mem_or_eq_of_mem_set hy with h1 | h1
   ·obtain ⟨i, hi', rfl⟩ := List.getElem_of_mem h1
    by_cases hio : i = o
    ·subst hio
     have : Hp[i] = pr l S := by rw [List.getElem?_eq_getElem hi'] at ho; injection ho
     rw [this]; exact Bg
    refine h _ (List.mem_append_left _ ?_)
    rw [List.mem_iff_getElem?]
    exact ⟨i, by rw [List.getElem?_set_ne (Ne.symm hio), List.getElem?_eq_getElem hi']⟩
   rw [h1]; exact Bg
  simp only [List.mem_cons, List.not_mem_nil, or_false] at hy
  rcases hy with rfl | rfl | rfl
  ·exact h _ (List.mem_append_right _ (by simp))
  ·exact h _ (List.mem_append_right _ (by simp))
  exact nh
 ·have hoid : oid Hp.length 2 ≠ o := by unfold oid; omega
  have e1 : (Hp ++ [A0, A1, xo true t []]).set o (pr l (Bo S)) ++ own = (Hp.set o (pr l (Bo S)) ++ [A0, A1, xo true t []]) ++ own := by rw [List.set_append_left _ _ hlt]
  rw [e1]
  have g1 : ((Hp.set o (pr l (Bo S)) ++ [A0, A1, xo true t []]) ++ own)[o]? = some (pr l (Bo S)) := Ac (Ac (Ad ho))
  have g2 : ((Hp.set o (pr l (Bo S)) ++ [A0, A1, xo true t []]) ++ own)[oid Hp.length 2]? = some (xo true t []) := Ac (by
   have := An (U := Hp.set o (pr l (Bo S))) (O := [A0, A1, xo true t []]) (n := 2)
   rw [List.length_set] at this
   exact this)
  refine (ui l (Bo S) t Dv o (oid Hp.length 2) _ hoid g1 g2 hi hl hll (hd.ei h30).1 (hd.ei h30).2).mono fun r H' h => ⟨h.1, h.2.trans ?_⟩
  rw [List.append_assoc, List.set_append_left _ _ (by simpa using hlt), List.set_set]
  have := Cj (U := Hp.set o (pr l (E4 l Dv.ei (Bo S)).2)) (O := [A0, A1, xo true t []] ++ own) (n := 2) (x := xo true t (E4 l Dv.ei (Bo S)).1)
  rw [List.length_set] at this
  rw [this]
  simp
 have e : L5 l a Dv.ei S = ((E4 l Dv.ei (Bo S)).1, Pl (E4 l Dv.ei (Bo S)).2) := if_neg (by
  show ¬ (((S.nest : Int) == 30) = true)
  simp
  omega)
 rw [e, if_neg h30]
 obtain ⟨h1, h2⟩ := h.2 h30
 exact ⟨h1, by rw [h2, List.set_append_left _ _ (by simpa using hlt), List.set_set]⟩
theorem uj (l : List Tok) (S : PS) (Dv : Fam) (t : Tok) (o : Nat) (Hp : List AObj) (ho : Hp[o]? = some (pr l S)) (hi : (Aa S).i < l.length) (hl : TokEnd l) (hll : l.length ≤ 1048576) (hnl : S.nest ≤ 30) (hd : DeepC l Dv S.nest) : ACall Tryz.prog 260 [.ptr o 0, Et t] Hp (fun r H' => r = Ab (E5 l Dv t S).1 ∧ H' = Hp.set o (pr l (E5 l Dv t S).2)) := by
 have hi0 : S.i < l.length := by have : S.i + 1 < l.length := hi; omega
 have hol := (List.getElem?_eq_some_iff.1 ho).1
 have hkf : KFact l (Aa S) (C1 l Dv S) := Nl hl _ hi (fun h => (hd.ei h).1)
 refine ACall.body [.cell 4 27] [0, 1] Tryz.func260 Tryz.ntmps260 (fun d => ?_)
 refine Lj ?_;refine R.alloc jZ ?_;refine R.fin [2, 3, 4] ?_;refine S4 ?_;refine R.call Tryz.call129 (r7 t.text _) ?_;refine Ax ?_;refine R.fin [2, 3, 4, 5] ?_;refine Ul ?_;refine R.fin [2, 3, 4, 5, 12] ?_
 refine W.cond (fun ht12 => ?_) (fun ht12 => ?_)
 ·have hlt0 : Aw t.text < 0 := by simpa using ht12
  have e : E5 l Dv t S = (Ah, C7 9 t.at_ S) := if_pos hlt0
  refine Qm ?_;refine gj ?_;refine R.callUp Tryz.call110 ho (by simp) Bg (Za l S 9 t.at_ o _ (Ac ho)) ?_;refine Dh ?_;refine R.fin [4] ?_;refine Z11 ?_;exact qh
 have hge : ¬ Aw t.text < 0 := by simpa using ht12
 refine Z5 ?_;refine Qm ?_;refine R.callUp Tryz.call171 ho (by simp) Bg (c171 l S o _ (Ac ho) hi0 hll) ?_;refine Z16 ?_;refine R.fin [2, 3, 4, 5, 6] ?_;refine S4 ?_;refine S6 ?_;refine Z16 ?_;refine R.fin [2, 3, 4, 5, 6, 7] ?_;refine B9 ?_;refine R.nilCell 2 5 6 ?_;refine Cp ?_;refine Z91 ?_;refine R.makeFunc ?_
 refine R.callX (up' := (Hp.set o (pr l (Aa S))).set o (pr l (C1 l Dv S).2)) (own' := [Ft, .cells 82 [A4 (A9 l S.i).kind, A8 (A9 l S.i).text, A4 (A9 l S.i).at_], xo true t.text (C1 l Dv S).1]) Tryz.call201 (by have := rq l (Aa S) (A9 l S.i).at_ t.text Dv o (Hp.set o (pr l (Aa S))) Ft (.cells 82 [A4 (A9 l S.i).kind, A8 (A9 l S.i).text, A4 (A9 l S.i).at_]) Wr (Ad ho) hi hl hll hnl hd; rw [List.length_set] at this; exact this) (by simp) (fun h => jl h Bg) ?_
 refine R.fin [2, 3, 4, 5, 7] ?_;refine Qm ?_;refine R.callUp Tryz.call261 (Ad (Ad ho)) (by simp) Bg (rl l (C1 l Dv S).2 Cq o _ (Ac (Ad (Ad ho))) hkf.lt hll) ?_;refine R.fin [2, 3, 4, 5, 7] ?_;refine Z23 ?_;refine Cp ?_;refine Qq ?_;refine R.loadUp jA (Ad (Ad (Ad ho))) ?_;refine Mi ?_;refine G.fieldAddrPtr (fo := 5) jU Tryz.sizeOf25 ?_;refine G.loadOwn jA ?_;refine G.len jU ?_;refine G.move ?_;refine G.neq ?_;refine R.pickAnd ?_;refine R.fin [2, 3, 4, 7, 41] ?_
 refine W.cond (fun ht41 => ?_) (fun ht41 => ?_)
 ·have e : E5 l Dv t S = (Ah, C7 8 t.at_ (Cs l Cq (C1 l Dv S).2)) := by
   unfold E5
   rw [if_neg hge, if_pos (by have := ht41; simp only [List.length_map] at this; exact this)]
  refine Qm ?_;refine gj ?_;refine R.callUp Tryz.call110 (Ad (Ad (Ad ho))) (by simp) Bg (Za l (Cs l Cq (C1 l Dv S).2) 8 t.at_ o _ (Ac (Ad (Ad (Ad ho))))) ?_;refine Dh ?_;refine R.fin [4] ?_;refine Z11 ?_;exact K.fin (V.one (V.cellN jA jS)) ⟨by rw [e, Af], by rw [e, List.set_set, List.set_set, List.set_set]⟩ (hlow := low_agg _)
 have e : E5 l Dv t S = (.mk 6 t.text noV (C1 l Dv S).1, (Cs l Cq (C1 l Dv S).2)) := by
  unfold E5
  rw [if_neg hge, if_neg (by have := ht41; simp only [List.length_map] at this; rw [Bool.eq_false_iff] at this; exact this)]
 refine Uq ?_;refine Dh ?_;refine Z36 ?_;exact K.fin (V.one (V.cellN jA jS)) ⟨by rw [e, R8]; rfl, by rw [e, List.set_set, List.set_set]⟩ (hlow := by have := Ak Hp.length (.mk 6 t.text noV (C1 l Dv S).1); rw [R8] at this; simpa using this)

theorem Zh {l : List Tok} (hl : TokEnd l) (hll : l.length ≤ 1048576) (n : Nat) (Dv : Fam) (hn : n ≤ 30) (hd : DeepC l Dv n) : Ta l Dv n := fun o Hp S t ho hi hS _ _ => by
 subst hS
 exact uj l S Dv t o Hp ho hi hl hll hn hd
/-! Queries: what query.Parse, Print, Right, Same answer. -/
structure Qry where
 all : Bool
 cols : List Str
 whr : Expr
 lim : Int
/-- A parser: where it is, and the first fault. -/
structure QS where
 i : Nat
 code : Int
 at_ : Int
def E6 (l : List Tok) (e : Int) (S : QS) : QS := if S.code == 0 then ⟨S.i, e, ((A9 l S.i).at_ : Int)⟩ else S
def isQ (l : List Tok) (s : Str) (S : QS) : Bool := ((S.code == 0) && (((A9 l S.i).kind == 5) || ((A9 l S.i).kind == 2))) && ((A9 l S.i).text == s)
def C8 (S : QS) : QS := ⟨S.i + 1, S.code, S.at_⟩
def Ti (l : List Tok) (s : Str) (S : QS) : QS := if isQ l s S then C8 S else S
def Ju (l : List Tok) (s : Str) (S : QS) : QS := if isQ l s S then C8 S else E6 l 8 S
def Df (l : List Tok) (r : Qry × QS) : Qry × QS :=
 if r.2.code != 0 then r else if (A9 l r.2.i).kind != 1 then (r.1, E6 l 8 r.2) else if (r.1.cols.length : Int) == 12 then (r.1, E6 l 3 r.2)
 else (⟨r.1.all, r.1.cols ++ [(A9 l r.2.i).text], r.1.whr, r.1.lim⟩, C8 r.2)
def Fg (l : List Tok) : Nat → Qry × QS → Qry × QS
 | 0, r => r
 | n + 1, r => if isQ l [44] r.2 then Fg l n (Df l (r.1, C8 r.2)) else r
def Fu (b : Bool) (q : Qry) : Qry := ⟨b, q.cols, q.whr, q.lim⟩
def Gj (l : List Tok) (r : Qry × QS) : Qry × QS := if isQ l [42] r.2 then (Fu true r.1, C8 r.2) else Fg l l.length (Df l (Fu false r.1, r.2))
def Fv : Str := [119, 104, 101, 114, 101]
def Fh : Str := [108, 105, 109, 105, 116]
def Jv : Str := [115, 101, 108, 101, 99, 116]
def Ew (l : List Tok) (r : Qry × QS) : Qry × QS :=
 if isQ l Fv r.2 then
  if (atM l (r.2.i + 1)).2.2.1 != 0 then (r.1, ⟨r.2.i + 1, (atM l (r.2.i + 1)).2.2.1, (atM l (r.2.i + 1)).2.2.2⟩)
  else (⟨r.1.all, r.1.cols, (atM l (r.2.i + 1)).1, r.1.lim⟩, ⟨(atM l (r.2.i + 1)).2.1.toNat, r.2.code, r.2.at_⟩)
 else r
/-- The number that strconv.Atoi hands back. -/
def L7 (s : Str) : Int := match Lib.atoiAll s with | .ok v => v | .range => Lib.atoiSat s | _ => 0
def Dz (l : List Tok) (r : Qry × QS) : Qry × QS :=
 if isQ l Fh r.2 then
  if (A9 l (r.2.i + 1)).kind != 3 then (r.1, E6 l 8 (C8 r.2))
  else if decide ((100000 : Int) < L7 (A9 l (r.2.i + 1)).text) then (r.1, E6 l 3 (C8 r.2))
  else (⟨r.1.all, r.1.cols, r.1.whr, L7 (A9 l (r.2.i + 1)).text⟩, C8 (C8 r.2))
 else r
def Tj : Qry := ⟨false, [], Ah, 0⟩
def rr (l : List Tok) (S : QS) : QS := if (A9 l S.i).kind != 0 then E6 l 8 S else S
def Ww (l : List Tok) : Qry × QS :=
 let r := Dz l (Ew l (Gj l (⟨false, [], Ah, -1⟩, Ju l Jv ⟨0, 0, 0⟩)))
 (r.1, rr l (Ju l [59] r.2))
def Wx (l : List Tok) : Qry × Int × Int := if (Ww l).2.code != 0 then (Tj, (Ww l).2.code, (Ww l).2.at_) else ((Ww l).1, 0, 0)
def Fw (s : Str) : Qry × Int × Int := if (Ar s).2.1 != 0 then (Tj, (Ar s).2.1, ((Ar s).2.2 : Int)) else Wx (Ar s).1
def Ig (q : Qry) : Bool := !(eqE q.whr Ah)
def Dg (q : Qry) : Bool :=
 if (((q.all != ((q.cols.length : Int) == 0)) || decide ((12 : Int) < (q.cols.length : Int))) || decide (q.lim < -1)) || decide ((100000 : Int) < q.lim) then false
 else (q.cols.all Di) && (!(Ig q) || C0 q.whr)
def Ko : List Str → Str
 | [] => []
 | a :: r => [44, 32] ++ a ++ Ko r
def Px (c : List Str) : Str := (Ko c).drop 2
def nj : Str := Jv ++ [32]
def nk : Str := [32] ++ Fv ++ [32]
def nl : Str := [32] ++ Fh ++ [32]
def J3 (q : Qry) : Str :=
 nj ++ (if q.all then [42] else Px q.cols) ++ (if Ig q then nk ++ Ag q.whr else []) ++ (if q.lim != -1 then nl ++ Lib.itoa q.lim else []) ++ [59]
/-! The words of what is printed. -/
/-! What query.Check, query.Run answer. -/
def Wy (e : Expr) (c : List Col) (w : Int) : Bool := ((Gp e c).2 == 0) && (((Gp e c).1 == w) || ((Gp e c).1 == 0))
def Bu (q : Qry) (c : List Col) : Int :=
 if !Dg q || !Jj c then 1 else if q.cols.any (fun s => decide (C4 s c < 0)) then 9 else if !Ig q then 0
 else if (Gp q.whr c).2 != 0 then (Gp q.whr c).2 else if !Wy q.whr c 3 then 10 else 0
def Py (r : Rs) : Int := if (((r.2 == 0) && (r.1.kind != 0)) && (r.1.kind != 3)) = true then 10 else r.2
def Wz (r : Rs) : Bool := (Py r == 0) && (((r.1.kind == 3) && (r.1.n == 1)) && (r.1.s == []))
def Ao (q : Qry) (c : List Col) (l : List Val) : Bool × Int := if !Iu c l then (false, 1) else if !Ig q then (true, 0) else (Wz (Ff q.whr c l), Py (Ff q.whr c l))
def Fi (q : Qry) (c : List Col) (x : Row) : Row := ⟨x.key, if q.all then x.l else q.cols.map fun s => x.l.getD (C4 s c).toNat noV⟩
def En (q : Qry) (c : List Col) : List Row → List Row → List Row × Int
 | [], o => (o, 0)
 | x :: r, o => if (Ao q c x.l).2 != 0 then ([], (Ao q c x.l).2) else if (Ao q c x.l).1 then
   (if ((o.length + 1 : Nat) : Int) == q.lim then (o ++ [Fi q c x], 0) else En q c r (o ++ [Fi q c x])) else En q c r o
def Cy (q : Qry) (c : List Col) (rows : List Row) : List Row × Int := if (Bu q c != 0) || (q.lim == 0) then ([], Bu q c) else En q c rows []
def Ai (q : Qry) (n : Int) : Qry := ⟨q.all, q.cols, q.whr, n⟩
/-- Without a limit. -/
def B1 (q : Qry) (c : List Col) : List Row → List Row × Int
 | [] => ([], 0)
 | x :: r => if (Ao q c x.l).2 != 0 then ([], (Ao q c x.l).2) else if (B1 q c r).2 != 0 then ([], (B1 q c r).2)
   else ((if (Ao q c x.l).1 then [Fi q c x] else []) ++ (B1 q c r).1, 0)
theorem Jw (q : Qry) (n : Int) (c : List Col) : ∀ r, B1 (Ai q n) c r = B1 q c r
 | [] => rfl
 | x :: r => by
  have h := Jw q n c r
  unfold B1
  rw [h]
  rfl
theorem Pz {q : Qry} {c : List Col} (hl : q.lim < 0) : ∀ (r o : List Row), En q c r o = if (B1 q c r).2 != 0 then ([], (B1 q c r).2) else (o ++ (B1 q c r).1, 0)
 | [], o => by simp [En, B1]
 | x :: r, o => by
  have h : ∀ o, En q c r o = _ := fun o => Pz hl r o
  unfold En B1
  by_cases h1 : ((Ao q c x.l).2 != 0) = true
  ·simp only [h1, ↓reduceIte]
  have h3 : ¬ (((o.length + 1 : Nat) : Int) == q.lim) = true := by rw [beq_iff_eq]; omega
  by_cases h2 : (Ao q c x.l).1 = true
  ·simp only [h1, h2, h3, ↓reduceIte, h, Bool.false_eq_true]
   by_cases h4 : ((B1 q c r).2 != 0) = true
   ·simp [h4]
   simp [h4]
  simp only [h1, h2, ↓reduceIte, h, Bool.false_eq_true]
  by_cases h4 : ((B1 q c r).2 != 0) = true
  ·simp [h4]
  simp [h4]
theorem Nw {q : Qry} {c : List Col} : ∀ a b : List Row, B1 q c (a ++ b) = if (B1 q c a).2 != 0 then B1 q c a else if (B1 q c b).2 != 0 then ([], (B1 q c b).2) else ((B1 q c a).1 ++ (B1 q c b).1, 0)
 | [], b => by
  show B1 q c b = _
  simp only [show (B1 q c []) = ([], 0) from rfl, bne_self_eq_false, Bool.false_eq_true, ↓reduceIte, List.nil_append]
  by_cases h : ((B1 q c b).2 != 0) = true
  ·simp only [h, ↓reduceIte]
   cases b with
   | nil => rfl
   | cons x r =>
    unfold B1 at h ⊢
    split
    ·rfl
    split
    ·rfl
    rename_i h1 h2
    simp [h1, h2] at h
  have : (B1 q c b).2 = 0 := by simpa using h
  simp only [h, ↓reduceIte, Bool.false_eq_true]
  exact Prod.ext rfl this
 | x :: a, b => by
  have h := Nw (q := q) (c := c) a b
  show B1 q c (x :: (a ++ b)) = _
  rw [show B1 q c (x :: (a ++ b)) = (if (Ao q c x.l).2 != 0 then ([], (Ao q c x.l).2) else if (B1 q c (a ++ b)).2 != 0 then ([], (B1 q c (a ++ b)).2) else ((if (Ao q c x.l).1 then [Fi q c x] else []) ++ (B1 q c (a ++ b)).1, 0)) from rfl,
   show B1 q c (x :: a) = (if (Ao q c x.l).2 != 0 then ([], (Ao q c x.l).2) else if (B1 q c a).2 != 0 then ([], (B1 q c a).2) else ((if (Ao q c x.l).1 then [Fi q c x] else []) ++ (B1 q c a).1, 0)) from rfl]
  by_cases h1 : ((Ao q c x.l).2 != 0) = true
  ·simp [h1]
  by_cases h2 : ((B1 q c a).2 != 0) = true
  ·simp [h1, h2, h]
  by_cases h3 : ((B1 q c b).2 != 0) = true
  ·simp [h1, h2, h3, h]
  simp [h1, h2, h3, h]
theorem Kp {q : Qry} {c : List Col} {n : Nat} (hl : q.lim = (n : Int)) : ∀ (r o : List Row), o.length < n → (B1 q c r).2 = 0 → En q c r o = (o ++ (B1 q c r).1.take (n - o.length), 0)
 | [], o, _, _ => by simp [En, B1]
 | x :: r, o, ho, h0 => by
  rw [show B1 q c (x :: r) = (if (Ao q c x.l).2 != 0 then ([], (Ao q c x.l).2) else if (B1 q c r).2 != 0 then ([], (B1 q c r).2) else ((if (Ao q c x.l).1 then [Fi q c x] else []) ++ (B1 q c r).1, 0)) from rfl] at h0 ⊢
  unfold En
  by_cases h1 : ((Ao q c x.l).2 != 0) = true
  ·simp [h1] at h0
   simp [h0] at h1
  by_cases h2 : ((B1 q c r).2 != 0) = true
  ·simp [h1, h2] at h0
   simp [h0] at h2
  have h2' : (B1 q c r).2 = 0 := by simpa using h2
  by_cases h3 : (Ao q c x.l).1 = true
  ·simp only [h1, h2, h3, ↓reduceIte, Bool.false_eq_true]
   by_cases h4 : (((o.length + 1 : Nat) : Int) == q.lim) = true
   ·rw [if_pos h4]
    have : n - o.length = 1 := by rw [beq_iff_eq, hl] at h4; omega
    rw [this]
    simp
   rw [if_neg h4, Kp hl r _ (by rw [beq_iff_eq, hl] at h4; simp; omega) h2']
   rw [beq_iff_eq, hl] at h4
   have e : n - o.length = (n - (o ++ [Fi q c x]).length) + 1 := by simp; omega
   rw [e]
   simp
  simp only [h1, h2, h3, ↓reduceIte, Bool.false_eq_true, List.nil_append]
  exact Kp hl r o ho h2'
/-! A limit cuts the answer. -/
theorem Zi {q : Qry} {n : Int} (h1 : -1 ≤ n) (h2 : n ≤ 100000) : Dg (Ai q n) = Dg (Ai q (-1)) := by
 unfold Dg Ai
 have e1 : decide (n < -1) = false := by simp; omega
 have e2 : decide ((100000 : Int) < n) = false := by simp; omega
 simp only [e1, e2]
 rfl
theorem Zj {q : Qry} {c : List Col} {n : Int} (h1 : -1 ≤ n) (h2 : n ≤ 100000) : Bu (Ai q n) c = Bu (Ai q (-1)) c := by
 unfold Bu
 rw [Zi h1 h2]
 rfl
theorem Nx {q : Qry} {c : List Col} {r : List Row} : Cy (Ai q (-1)) c r = if Bu (Ai q (-1)) c != 0 then ([], Bu (Ai q (-1)) c) else if (B1 q c r).2 != 0 then ([], (B1 q c r).2) else ((B1 q c r).1, 0) := by
 unfold Cy
 by_cases h : (Bu (Ai q (-1)) c != 0) = true
 ·simp [h]
 rw [if_neg (by simp only [Bool.or_eq_true, h, false_or]; simp [Ai]), if_neg h, Pz (by simp [Ai]), Jw]
 rfl
theorem Zk {q : Qry} {c : List Col} {a b : List Row} (h : (Cy (Ai q (-1)) c (a ++ b)).2 ≠ 0) :
  (Cy (Ai q (-1)) c a).2 = (Cy (Ai q (-1)) c (a ++ b)).2 ∨ ((Cy (Ai q (-1)) c a).2 = 0 ∧ (Cy (Ai q (-1)) c b).2 = (Cy (Ai q (-1)) c (a ++ b)).2) := by
 simp only [Nx] at h ⊢
 by_cases h1 : (Bu (Ai q (-1)) c != 0) = true
 ·simp [h1]
 simp only [h1, ↓reduceIte, Bool.false_eq_true] at h ⊢
 rw [Nw] at h ⊢
 by_cases h2 : ((B1 q c a).2 != 0) = true
 ·simp [h2]
 simp only [h2, ↓reduceIte, Bool.false_eq_true] at h ⊢
 by_cases h3 : ((B1 q c b).2 != 0) = true
 ·simp [h3]
 simp [h3] at h
theorem ea {q : Qry} {c : List Col} {a b : List Row} (h : (Cy (Ai q (-1)) c (a ++ b)).2 = 0) :
  (Cy (Ai q (-1)) c a).2 = 0 ∧ (Cy (Ai q (-1)) c b).2 = 0 ∧ (Cy (Ai q (-1)) c (a ++ b)).1 = (Cy (Ai q (-1)) c a).1 ++ (Cy (Ai q (-1)) c b).1 := by
 simp only [Nx] at h ⊢
 by_cases h1 : (Bu (Ai q (-1)) c != 0) = true
 ·simp [h1] at h
  simp [h] at h1
 simp only [h1, ↓reduceIte, Bool.false_eq_true] at h ⊢
 rw [Nw] at h ⊢
 by_cases h2 : ((B1 q c a).2 != 0) = true
 ·simp only [h2, ↓reduceIte] at h
  simp [h] at h2
 simp only [h2, ↓reduceIte, Bool.false_eq_true] at h ⊢
 by_cases h3 : ((B1 q c b).2 != 0) = true
 ·simp only [h3, ↓reduceIte] at h
  simp [h] at h3
 simp [h3]
theorem Q0 {q : Qry} {c : List Col} {r : List Row} {n : Nat} (hn : n ≤ 100000) (h : (Cy (Ai q (-1)) c r).2 = 0) :
  Cy (Ai q (n : Int)) c r = ((Cy (Ai q (-1)) c r).1.take n, 0) := by
 rw [Nx] at h ⊢
 unfold Cy
 rw [Zj (by omega) (by omega)]
 by_cases h1 : (Bu (Ai q (-1)) c != 0) = true
 ·simp [h1] at h
  simp [h] at h1
 have h1' : Bu (Ai q (-1)) c = 0 := by simpa using h1
 simp only [h1, ↓reduceIte, Bool.false_eq_true, Bool.false_or] at h ⊢
 by_cases h2 : ((B1 q c r).2 != 0) = true
 ·simp only [h2, ↓reduceIte] at h
  simp [h] at h2
 simp only [h2, ↓reduceIte, Bool.false_eq_true]
 by_cases h3 : n = 0
 ·subst h3
  simp [Ai]
  exact h1'
 rw [if_neg (by simp [Ai, h3]), Kp (n := n) rfl r [] (by simp; omega) (by rw [Jw]; simpa using h2), Jw]
 simp
/-! Some of all. -/
theorem Zl {q : Qry} {c : List Col} {l : List Val} (h : ((Ao q c l).2 != 0) = false) : Iu c l = true := by
 cases hr : Iu c l with
 | true => rfl
 | false => simp [Ao, hr] at h
end Go.SX.Nb
namespace Go.SX
variable [GI : GlobInv]
open Classical
section
variable {P : Program} {d : Nat} {st : St} {ty : TypeId} {pos : String} {aft : Array Edge} {gd : Option (Nat × Bool)}
/-- A variable of its own, not laid yet. -/
theorem AOp.allocP {t : TypeId} {z : Value} {k s : Nat} (hz : ∀ w, (zeroValue t).run P w = .ok z w) (hk : z.cells.size = k) (hs : s < st.sz) :
  AOp P d ⟨some s, .alloc t, ty, pos, aft, gd⟩ st (· = st.set s (.cellp k)) := by
 subst hk
 intro G a w h Q'
 let G' : Gh := { G with tag := fun b o => if b = w.heap.size ∧ o < z.cells.size then .tail (.slot d s) else G.tag b o }
 have hfree : ∀ o, G.tag w.heap.size o = .free := fun o => Ce h.tags _ o (Nat.le_refl _)
 have hne : ∀ b o, G.tag b o ≠ .free → ¬ (b = w.heap.size ∧ o < z.cells.size) := fun b o hb hc => by rw [hc.1] at hb; exact hb (hfree o)
 have hkeep : ∀ b o, G.tag b o ≠ .free → G'.tag b o = G.tag b o := fun b o hb => by simp only [G']; rw [if_neg (hne b o hb)]
 have hcell : ∀ b o, G.tag b o ≠ .free → (w.alloc (.cells z.cells t)).cell? ⟨b, o, none⟩ = w.cell? ⟨b, o, none⟩ := fun b o hb => by
  refine World.cell?_alloc_old _ _ _ ?_
  show b ≠ w.heap.size
  rintro rfl
  exact hb (hfree o)
 have T : Turn G w G' (w.alloc (.cells z.cells t)) := by
  refine ⟨fun b o hb => ⟨by rw [hkeep b o (by rw [hb]; simp)]; exact hb, hcell b o (by rw [hb]; simp)⟩, fun b o L hb => by rw [hkeep b o (by rw [hb]; simp)]; exact hb, fun b o i hb => by rw [hkeep b o (by rw [hb]; simp)]; exact hb, Nat.le_refl _, fun o ho => rfl, rfl, rfl, rfl, by simp, Still.alloc _ (fun b o hb => .inl (by simp only [G']; rw [if_neg (by omega)])) (fun i hi => .inl ⟨hi, rfl⟩)⟩
 have h1 : StRel d G' st a (w.alloc (.cells z.cells t)) := by
  refine h.turn (U := st.up) (O := st.own) T ⟨fun i x hx => T.objRel ?_ ?_ (h.heap.obj i x hx) (fun b hb => ?_), h.heap.n, h.heap.inj⟩ rfl h.defsAt ⟨fun b o hb => ?_, fun b o i hb => ?_, fun b o L hb => ?_, h.tags.globKeep T.old⟩ h.low
  ·rw [h.heap.n]; exact (List.getElem?_eq_some_iff.1 hx).1
  ·have := (h.heap.obj i x hx).blt
   show (w.heap.push _)[G.blk i]? = _
   rw [Array.getElem?_push, if_neg (by omega)]
  ·have := hb.lt
   show (w.heap.push _)[b]? = _
   rw [Array.getElem?_push, if_neg (by omega)]
  ·simp only [G'] at hb
   split at hb
   ·rename_i hc
    obtain ⟨rfl, hlt⟩ := hc
    exact ⟨z.cells[o], by rw [World.cell?_alloc_new]; exact Array.getElem?_eq_getElem hlt⟩
   rw [hcell b o hb]
   exact h.tags.ex b o hb
  ·simp only [G'] at hb
   split at hb
   ·cases hb
   rw [World.frozen?_alloc_old]
   ·exact h.tags.obj b o i hb
   show b ≠ w.heap.size
   rintro rfl
   rw [hfree] at hb; cases hb
  simp only [G'] at hb
  split at hb
  ·rename_i hc
   obtain ⟨rfl, hlt⟩ := hc
   exact World.frozen?_alloc_new _ _ _ _
  rw [World.frozen?_alloc_old]
  ·exact h.tags.tail b o L hb
  show b ≠ w.heap.size
  rintro rfl
  rw [hfree] at hb; cases hb
 have hrun : (execOp a.eval (⟨some s, .alloc t, ty, pos, aft, gd⟩ : Oper)).run P w = .ok (.value (.pointer (some ⟨w.heap.size, 0, none⟩))) (w.alloc (.cells z.cells t)) := by
  simp [execOp, Instr.alloc, hz, newVar, newRow]
 refine Bb (by intro c h; cases h) hrun ⟨G', _, h1.put (s := s) (y := .cellp z.cells.size) hs ?_, T.keep d, rfl, rfl, rfl, rfl⟩
 exact .cellp _ _ _ ⟨_, rfl, fun o ho => by simp [G', ho]⟩

/-- It is laid: from now on nobody writes it. -/
theorem AOp.storeP {t : TypeId} {x : Operand} {r k : Nat} {y : AV} (hsz : ∀ w, (sizeOf t).run P w = .ok k w) (hf : st.fr r = .cellp k) (hx : st.ev x = y) (hk : y.cells.length = k) (hk0 : 0 < k) (h1 : y.cells.all AV.one = true) :
  AOp P d ⟨none, .store t (.tmp r) x, ty, pos, aft, gd⟩ st (· = st.set r (.ro y.cells)) := by
 intro G a w h Q'
 have hone : ∀ c ∈ y.cells, c.one = true := fun c hc => List.all_eq_true.1 h1 c hc
 obtain ⟨hc, hcc⟩ := (hx ▸ h.eval x).cells hone
 have hsl := h.slots r
 rw [hf] at hsl
 generalize hv : a.tmps.getD r undef = v at hsl
 cases hsl with
 | cellp l k b ho =>
  obtain ⟨L, hL, ht⟩ := ho
  injection hL with hL
  subst hL
  let us := (a.eval x).cells.toList
  have hul : us.length = k := by simp only [us, Array.length_toList]; omega
  have huone : ∀ u ∈ us, u.oneCell' = true := fun u hu => by
   obtain ⟨j, hj⟩ := List.getElem?_of_mem hu
   have hj' : (a.eval x).cells[j]? = some u := by rw [← Array.getElem?_toList]; exact hj
   have hlt : j < y.cells.length := by rw [← hc]; exact (Array.getElem?_eq_some_iff.1 hj').1
   exact (hcc j _ u (List.getElem?_eq_getElem hlt) hj').one (hone _ (List.getElem_mem hlt))
  have hrun0 := run_storeCells_cells (P := P) b 0 us 0 w (fun j hj => by
    obtain ⟨u, hu⟩ := h.tags.ex b j (by rw [ht j (by omega)]; simp)
    simp only [Nat.add_zero, Nat.zero_add]; rw [hu]; rfl) (fun j hj => by simpa using h.tags.tail _ _ _ (ht j (by omega))) huone
  simp only [Nat.add_zero] at hrun0
  let W := w.setCells b 0 us
  let G' : Gh := { G with tag := fun b' o => if b' = b ∧ o < k then .fix else G.tag b' o }
  have htag : ∀ b' o, G.tag b' o ≠ .tail (.slot d r) → G'.tag b' o = G.tag b' o := fun b' o hb => by
   simp only [G']
   rw [if_neg]
   rintro ⟨rfl, ho⟩
   exact hb (ht o ho)
  have hout : ∀ b' o, ¬ (b' = b ∧ o < k) → W.cell? ⟨b', o, none⟩ = w.cell? ⟨b', o, none⟩ := fun b' o hn =>
   World.cell?_setCells_out _ us 0 w ⟨b', o, none⟩ (fun hb _ => by
    simp only at hb ⊢
    exact .inr (Nat.le_of_not_lt fun h'' => hn ⟨hb, by omega⟩))
  have hcell : ∀ b' o, G.tag b' o ≠ .tail (.slot d r) → W.cell? ⟨b', o, none⟩ = w.cell? ⟨b', o, none⟩ := fun b' o hb => hout b' o (fun hn => hb (by rw [hn.1]; exact ht o hn.2))
  have hnb : ∀ i, i < G.n → G.blk i ≠ b := Gl h.heap h.tags (ht 0 hk0)
  have hheap : ∀ b', b' ≠ b → W.heap[b']? = w.heap[b']? := fun b' hb => Bq _ _ _ _ _ hb
  have hsize : W.heap.size = w.heap.size := Bp _ _ _ _
  have hstill : Still G w G' W := Still.tags (fun b' hb' => hheap b' (fun e => Eq (ht 0 hk0) (e ▸ hb'))) (Nat.le_of_eq hsize.symm) (fun b' o _ => by
   by_cases hc : b' = b ∧ o < k
   ·exact .inr ⟨_, by rw [hc.1]; exact ht o hc.2⟩
   exact .inl (by simp only [G']; rw [if_neg hc])) (fun i hi => .inl ⟨hi, rfl⟩)
  have hfix : ∀ b' o, G.tag b' o = .fix → G'.tag b' o = .fix ∧ W.cell? ⟨b', o, none⟩ = w.cell? ⟨b', o, none⟩ := fun b' o hb => ⟨by rw [htag b' o (by rw [hb]; simp)]; exact hb, hcell b' o (by rw [hb]; simp)⟩
  have htail : ∀ b' o L, L ≠ .slot d r → G.tag b' o = .tail L → G'.tag b' o = .tail L := fun b' o L hL hb => by
   rw [htag b' o (by rw [hb]; intro e; injection e with e; exact hL e)]; exact hb
  have hobj : ∀ b' o i, G.tag b' o = .obj i → G'.tag b' o = .obj i := fun b' o i hb => by rw [htag b' o (by rw [hb]; simp)]; exact hb
  have hrep : ∀ {l : Option Loc} {z : AV} {u : Value}, l ≠ some (.slot d r) → Rep G w l z u → Rep G' W l z u := fun hl hz =>
   hz.mono (G' := G') hfix (Nat.le_refl _) (fun _ _ => rfl) (fun L hL b' o ht' => htail b' o L (fun e => hl (by rw [hL, e])) ht')
  have hkeep : Keep d G w G' W := ⟨hfix, fun b' o e s he ht' => htail b' o _ (by rintro ⟨⟩; omega) ht', Nat.le_refl _, fun _ _ => rfl, Cz _ _ _ _, Ci _ _ _ _, C2 _ _ _ _, Nat.le_of_eq hsize.symm, hstill⟩
  have hvec : ∀ j u, us[j]? = some u → W.cell? ⟨b, j, none⟩ = some u := fun j u hu => by
   have hj := (List.getElem?_eq_some_iff.1 hu).1
   have hex : ∃ u', w.cell? ⟨b, j, none⟩ = some u' := h.tags.ex b j (by rw [ht j (by omega)]; simp)
   obtain ⟨u', hu'⟩ := hex
   have hbk : ∃ vs e fz, w.heap[b]? = some (.cells vs e fz) := by
    simp only [World.cell?] at hu'
    split at hu'
    ·rename_i vs e fz hb; exact ⟨vs, e, fz, hb⟩
    cases hu'
   obtain ⟨vs, e, fz, hbk⟩ := hbk
   have hlen : 0 + us.length ≤ vs.size := by
    rw [hul, Nat.zero_add]
    rcases Nat.lt_or_ge vs.size k with h' | h'
    ·exfalso
     obtain ⟨u2, hu2⟩ := h.tags.ex b vs.size (by rw [ht _ h']; simp)
     simp [World.cell?, hbk] at hu2
    exact h'
   obtain ⟨vs', b1, b2, b3⟩ := F8 b e fz us 0 w vs hbk hlen
   have b3' := b3 j
   rw [if_pos (by omega)] at b3'
   show (w.setCells b 0 us).cell? ⟨b, j, none⟩ = some u
   simp only [World.cell?, b1]
   rw [b3', Nat.sub_zero]
   exact hu
  have hst : StRel d G' (st.set r (.ro y.cells)) a W := by
   refine ⟨h.size, fun s => ?_, ⟨fun i z hz => ?_, h.heap.n, h.heap.inj⟩, h.defs, h.defsAt, h.defsNodup, h.defsGe, ⟨fun b' o hb => ?_, fun b' o i hb => ?_, fun b' o L hb => ?_, h.tags.globKeep hstill⟩, h.rnd, h.low⟩
   ·show Rep G' W _ (A5 r (.ro y.cells) st.fr s) _
    unfold A5
    by_cases hs : s = r
    ·subst hs
     rw [if_pos rfl, hv]
     refine .ro _ _ ⟨b, 0, none⟩ (fun j => (a.eval x).cells.getD j undef) rfl hone (fun j c hj => ?_) (fun j c hj => ?_)
     all_goals
      have hlt : j < y.cells.length := (List.getElem?_eq_some_iff.1 hj).1
      have hu : (a.eval x).cells[j]? = some ((a.eval x).cells[j]'(by omega)) := Array.getElem?_eq_getElem _
      have e1 : (a.eval x).cells.getD j undef = (a.eval x).cells[j]'(by omega) := by rw [Array.getD_eq_getD_getElem?, hu]; rfl
      rw [e1]
     ·refine ⟨by simp only [G', Nat.zero_add]; rw [if_pos ⟨trivial, by omega⟩], ?_⟩
      rw [Nat.zero_add]
      exact hvec j _ (by simp only [us]; rw [Array.getElem?_toList]; exact hu)
     exact hrep (by simp) (hcc j c _ hj hu)
    rw [if_neg hs]
    exact hrep (by simp; exact fun e => hs e) (h.slots s)
   ·have hob := h.heap.obj i z hz
    have hi : i < G.n := by rw [h.heap.n]; exact (List.getElem?_eq_some_iff.1 hz).1
    have hb := hheap (G.blk i) (hnb i hi)
    cases z with
    | cells t cs =>
     obtain ⟨vs, a1, a2, a3, a4⟩ := hob
     exact ⟨vs, hb.trans a1, a2, fun j y u p q => hrep (by simp) (a3 j y u p q), fun j hj => hobj _ _ _ (a4 j hj)⟩
    | loop sta pd fr sz ps asg bd df =>
     obtain ⟨fn, tmps, a1, a2, a3, a4⟩ := hob
     exact ⟨fn, tmps, hb.trans a1, a2, fun s => hrep (by simp) (a3 s), a4⟩
    | defs => exact hb.trans hob
    | dead => exact hb.trans hob
    | bld t e bs => exact BldRel.turn hob rfl (fun b' o ho => hobj b' o i ho) hb (fun b' ha => hheap b' (fun e => by
      have := ha.tag h.tags (o := 0) (by rw [e, ht 0 hk0]; simp)
      rw [e, ht 0 hk0] at this; cases this))
    | gone =>
     obtain ⟨vs, t, fz, a1, a2⟩ := hob
     exact ⟨vs, t, fz, hb.trans a1, fun j hj => (hfix _ _ (a2 j hj)).1⟩
   ·by_cases hc : b' = b ∧ o < k
    ·obtain ⟨rfl, ho⟩ := hc
     exact ⟨us[o]'(by omega), hvec o _ (List.getElem?_eq_getElem _)⟩
    rw [hout b' o hc]
    simp only [G', if_neg hc] at hb
    exact h.tags.ex b' o hb
   ·rw [World.frozen?_setCells]
    simp only [G'] at hb
    split at hb
    ·cases hb
    exact h.tags.obj b' o i hb
   rw [World.frozen?_setCells]
   simp only [G'] at hb
   split at hb
   ·cases hb
   exact h.tags.tail b' o L hb
  have hrun : (execOp a.eval (⟨none, .store t (.tmp r) x, ty, pos, aft, gd⟩ : Oper)).run P w = .ok .skip W :=
   D3 hsz (show a.eval (.tmp r) = _ from hv) (by omega) hrun0
  exact Cn (by intro c h; cases h) hrun ⟨G', _, hst, hkeep, rfl, rfl, rfl, rfl⟩
end
section
variable {P : Program} {d : Nat} {sz : Nat} {dfs : List Nat} {rnd : Option Nat} {l0 : List Oper} {up own : (Nat → Bool) → List AObj} {E : List Oper → (Nat → AV) → Prop} {S : List SegY} {l : List Oper} {fr : Nat → AV} {ty : TypeId} {pos : String} {aft : Array Edge} {s : Nat} {T F : List Nat}
theorem Y.allocP {t : TypeId} {z : Value} {k : Nat} (hz : ∀ w, (zeroValue t).run P w = .ok z w) (h : ChainY P d l0 sz up own dfs rnd E S l (A5 s (.cellp k) fr)) (hk : z.cells.size = k := by rfl) (hs : Nat.blt s sz = true := by rfl) :
  ChainY P d l0 sz up own dfs rnd E (.s [s] none T F :: S) (⟨some s, .alloc t, ty, pos, aft, none⟩ :: l) fr := by
 refine ⟨_, l, [(s, .cellp k)], rfl, ⟨rfl, rfl, fun B f _ _ _ hf => ?_⟩, h⟩
 exact AOp.allocP (st := ⟨sz, f, up B, own B, dfs, rnd⟩) hz hk (by simpa using hs)
theorem Y.storeP {t : TypeId} {x : Operand} {r k : Nat} {y : AV} {ys : List AV} (hsz : ∀ w, (Go.sizeOf t).run P w = .ok k w) (h : ChainY P d l0 sz up own dfs rnd E S l (A5 r (.ro ys) fr))
  (hf : fr r = .cellp k := by exact sL0) (hx : A7 fr x = y := by exact sL0) (hc : y.cells = ys := by exact sL0)
  (hk : ys.length = k := by rfl) (hk0 : 0 < k := by decide) (h1 : ys.all AV.one = true := by exact sL4) :
  ChainY P d l0 sz up own dfs rnd E (.s [r] none T F :: S) (⟨none, .store t (.tmp r) x, ty, pos, aft, none⟩ :: l) fr := by
 subst hc
 refine ⟨_, l, [(r, .ro y.cells)], rfl, ⟨rfl, rfl, fun B f _ _ _ hfr => ?_⟩, h⟩
 have e : f r = fr r := hfr r (by simp [lk, Qc, Op.operands])
 have ex : A7 f x = y := by rw [agr hfr (by simp [Op.operands])]; exact hx
 exact AOp.storeP (st := ⟨sz, f, up B, own B, dfs, rnd⟩) hsz (e.trans hf) ex hk hk0 h1
end
end Go.SX
