/- Texts on the way to this: EvalTells answers true for whatever it is handed: of any tree, any columns and any values what it comes to, and whether it holds, are what the reference says, or the error. (part 7) -/
import Derived.Lib.ItoaLen
import Derived.Test.YtdpgggmplodldaaGreatDoorEvalTellsCardSaidPart6
set_option linter.all false
namespace Go.SX.Nb
open Go Go.SX Go.Proofs
variable [ErrAt]
set_option maxRecDepth 4000
theorem mulE (a b : Int) (a0 : -9223372036854775808 ≤ a) (a1 : a ≤ 9223372036854775807) (b0 : -9223372036854775808 ≤ b) (b1 : b ≤ 9223372036854775807) : a.natAbs * b.natAbs < B32 ^ 5 := by
 have : a.natAbs * b.natAbs ≤ 9223372036854775808 * 9223372036854775808 := Nat.mul_le_mul (by omega) (by omega)
 have h2 : (9223372036854775808 * 9223372036854775808 : Nat) < B32 ^ 5 := by decide
 omega
theorem abs5 {a : Int} (a0 : -9223372036854775808 ≤ a) (a1 : a ≤ 9223372036854775807) : a.natAbs < B32 ^ 5 ∧ a.natAbs < B32 ^ 2 := by
 have h2 : (9223372036854775809 : Nat) ≤ B32 ^ 5 := by decide
 have h3 : (9223372036854775809 : Nat) ≤ B32 ^ 2 := by decide
 omega
section
variable {t : Str} {a b : Val}
theorem bin_join (h3 : (levelM t == 3) = false) (h : (t == [38]) = true) : binM t a b = joinR a b := by rw [bin_rest h3, if_pos h]
theorem bin_wrong (h3 : (levelM t == 3) = false) (h : (t == [38]) = false) (hk : ((a.kind != 1) || (b.kind != 1)) = true) : binM t a b = (noV, 10) := by
 rw [bin_rest h3, if_neg (by rw [h]; simp)]
 have : (!kindsM [a, b] [1, 1]) = true := by
  simp only [kindsM, Bool.and_true]
  simp only [Bool.or_eq_true, bne_iff_ne, ne_eq] at hk
  simp
  exact hk
 rw [if_pos this]
 rfl
theorem bin_arith (h3 : (levelM t == 3) = false) (h : (t == [38]) = false) (hk : ((a.kind != 1) || (b.kind != 1)) = false) : binM t a b = wholeR (arithI t a.n b.n) := by
 rw [bin_rest h3, if_neg (by rw [h]; simp)]
 have : (!kindsM [a, b] [1, 1]) = false := by
  simp only [Bool.or_eq_false_iff, bne_eq_false_iff_eq] at hk
  simp [kindsM, hk.1, hk.2]
 rw [if_neg (by rw [this]; simp)]
theorem join_1 (h : ((a.kind != 2) || (b.kind != 2)) = true) : joinR a b = (noV, 10) := by
 unfold joinR
 have : (!kindsM [a, b] [2, 2]) = true := by
  simp only [kindsM, Bool.and_true]
  simp only [Bool.or_eq_true, bne_iff_ne, ne_eq] at h
  simp
  exact h
 rw [if_pos this]
 rfl
theorem join_2 (h : ((a.kind != 2) || (b.kind != 2)) = false) (h2 : decide ((200 : Int) < (a.s.length : Int) + (b.s.length : Int)) = true) : joinR a b = (noV, 3) := by
 unfold joinR
 have : (!kindsM [a, b] [2, 2]) = false := by
  simp only [Bool.or_eq_false_iff, bne_eq_false_iff_eq] at h
  simp [kindsM, h.1, h.2]
 rw [if_neg (by rw [this]; simp), if_pos h2]
 rfl
theorem join_3 (h : ((a.kind != 2) || (b.kind != 2)) = false) (h2 : decide ((200 : Int) < (a.s.length : Int) + (b.s.length : Int)) = false) : joinR a b = (⟨2, 0, a.s ++ b.s⟩, 0) := by
 unfold joinR
 have : (!kindsM [a, b] [2, 2]) = false := by
  simp only [Bool.or_eq_false_iff, bne_eq_false_iff_eq] at h
  simp [kindsM, h.1, h.2]
 rw [if_neg (by rw [this]; simp), if_neg (by rw [h2]; simp)]
 unfold cutV
 simp only [decide_eq_false_iff_not] at h2
 rw [List.take_of_length_le (by rw [List.length_append]; omega)]
end
theorem arith_0 {t : Str} {a b : Int} (h1 : (t == [43]) = false) (h2 : (t == [45]) = false) (h3 : (t == [42]) = false) (hb : (b == 0) = true) : wholeR (arithI t a b) = (noV, 5) := by
 unfold arithI divI remI
 rw [if_neg (by rw [h1]; simp), if_neg (by rw [h2]; simp), if_neg (by rw [h3]; simp), if_pos hb, if_pos hb]
 split <;> rfl
theorem c39 (t : Str) (a b : Val) (fa : Fine a) (fb : Fine b) (hal : a.s.length ≤ 1048576) (hbl : b.s.length ≤ 1048576) (Hp : List AObj) : AFun Tryz.prog 39 [strA t, valA a, valA b] Hp (resA (binM t a b)) := by
 have ea := abs5 fa.lo fa.hi
 have eb := abs5 fb.lo fb.hi
 refine ACall.body [.cell 6 23, .tmp 7] [0, 1, 2] Tryz.func39 Tryz.ntmps39 (fun d => ?_)
 refine zz172 ?_;refine zz91 ?_;refine R.fin [0, 4, 5, 6] ?_;refine zz15 ?_;refine R.call Tryz.call60 (c60 t _) ?_;refine R.eql ?_;refine R.fin [0, 4, 5, 6, 16] ?_
 refine W.cond (fun ht16 => ?_) (fun ht16 => ?_)
 ·refine zz11 ?_;refine zz9 ?_;refine zz9 ?_;refine R.neq ?_;refine R.fin [0, 4, 5, 6, 21] ?_
  refine W.cond (fun ht21 => ?_) (fun ht21 => ?_)
  ·refine zz350 ?_;refine K.thR ?_;exact K.fin (V.two (V.cellN jA jS) V.tmp) ⟨by rw [bin_kind ht16 ht21]; try rfl, rfl⟩
  have hbc := bin_cmp fa.plain fb.plain ht16 ht21
  refine zz3 ?_;refine W.draw [0, 0, 3, 0, 0, 31, 63, 127] 5 Tryzmixed (by kernel_rfl) ?_;refine zz203 ?_;refine D.call Tryz.call61 (c61 a b hal _) ?_;refine zz203 ?_;refine D.tail ?_;refine R.call Tryz.call61 (c61 b a hbl _) ?_;refine zz22 ?_;refine R.fin [0, 6, 8, 9] ?_;refine zz15 ?_;refine R.fin [6, 8, 9, 29] ?_;refine zz196 ?_;refine R.fin [6, 8, 9, 29, 30] ?_
  refine W.cond (fun ht30 => ?_) (fun ht30 => ?_)
  ·refine zz0 ?_;refine zz348 ?_;refine G.not ?_;refine R.pickAnd ?_;refine zz369 ?_;exact K.fin (V.two (V.cellN jA jS) V.tmp) ⟨by rw [hbc]; unfold cmpW; rw [if_pos ht30]; try rfl, rfl⟩
  refine zz41 ?_;refine R.fin [6, 8, 9, 29, 39] ?_
  refine W.cond (fun ht39 => ?_) (fun ht39 => ?_)
  ·refine zz0 ?_;refine zz18 ?_;refine R.pickOr ?_;refine zz369 ?_;exact K.fin (V.two (V.cellN jA jS) V.tmp) ⟨by rw [hbc]; unfold cmpW; rw [if_neg (by rw [ht30]; simp), if_pos ht39]; try rfl, rfl⟩
  refine zz41 ?_;refine R.fin [6, 8, 9, 29, 46] ?_
  refine W.cond (fun ht46 => ?_) (fun ht46 => ?_)
  ·refine zz0 ?_;refine zz369 ?_;exact K.fin (V.two (V.cellN jA jS) V.tmp) ⟨by rw [hbc]; unfold cmpW; rw [if_neg (by rw [ht30]; simp), if_neg (by rw [ht39]; simp), if_pos ht46]; try rfl, rfl⟩
  refine zz41 ?_;refine R.fin [6, 8, 9, 29, 50] ?_
  refine W.cond (fun ht50 => ?_) (fun ht50 => ?_)
  ·refine zz0 ?_;refine R.not ?_;refine zz369 ?_;exact K.fin (V.two (V.cellN jA jS) V.tmp) ⟨by rw [hbc]; unfold cmpW; rw [if_neg (by rw [ht30]; simp), if_neg (by rw [ht39]; simp), if_neg (by rw [ht46]; simp), if_pos ht50]; try rfl, rfl⟩
  refine zz41 ?_;refine R.fin [6, 8, 9, 55] ?_
  refine W.cond (fun ht55 => ?_) (fun ht55 => ?_)
  ·refine zz0 ?_;refine zz369 ?_;exact K.fin (V.two (V.cellN jA jS) V.tmp) ⟨by rw [hbc]; unfold cmpW; rw [if_neg (by rw [ht30]; simp), if_neg (by rw [ht39]; simp), if_neg (by rw [ht46]; simp), if_neg (by rw [ht50]; simp), if_pos ht55]; try rfl, rfl⟩
  refine zz28 ?_;refine zz0 ?_;refine R.not ?_;refine zz160 ?_;exact K.fin (V.two (V.cellN jA jS) V.tmp) ⟨by rw [hbc]; unfold cmpW; rw [if_neg (by rw [ht30]; simp), if_neg (by rw [ht39]; simp), if_neg (by rw [ht46]; simp), if_neg (by rw [ht50]; simp), if_neg (by rw [ht55]; simp)]; try rfl, rfl⟩
 refine zz270 ?_;refine R.seql ?_;refine R.fin [0, 4, 5, 6, 63] ?_
 refine W.cond (fun ht63 => ?_) (fun ht63 => ?_)
 ·refine zz11 ?_;refine zz9 ?_;refine R.neq ?_;refine R.move ?_;refine zz125 ?_;refine zz170 ?_;refine R.fin [4, 5, 6, 71] ?_
  refine W.cond (fun ht71 => ?_) (fun ht71 => ?_)
  ·refine zz350 ?_;refine K.thR ?_;exact K.fin (V.two (V.cellN jA jS) V.tmp) ⟨by rw [bin_join ht16 ht63, join_1 ht71]; try rfl, rfl⟩
  refine zz45 ?_;refine zz56 ?_;refine R.slen jU ?_;refine zz56 ?_;refine R.slen jU ?_;refine R.add64 ?_;refine R.gtr ?_;refine R.fin [4, 5, 6, 80] ?_
  refine W.cond (fun ht80 => ?_) (fun ht80 => ?_)
  ·refine zz350 ?_;refine K.thR ?_;exact K.fin (V.two (V.cellN jA jS) V.tmp) ⟨by rw [bin_join ht16 ht63, join_2 ht71 ht80]; try rfl, rfl⟩
  refine zz39 ?_;refine zz56 ?_;refine zz56 ?_;refine R.sadd (hl := by omega) ?_;refine zz122 ?_;exact K.fin (V.two (V.cellN jA jS) V.tmp) ⟨by rw [bin_join ht16 ht63, join_3 ht71 ht80]; try rfl, rfl⟩
 refine zz142 ?_;refine R.neq ?_;refine R.move ?_;refine zz125 ?_;refine zz170 ?_;refine R.fin [0, 4, 5, 6, 95] ?_
 refine W.cond (fun ht95 => ?_) (fun ht95 => ?_)
 ·refine zz350 ?_;exact K.fin (V.two (V.cellN jA jS) V.tmp) ⟨by rw [bin_wrong ht16 ht63 ht95]; try rfl, rfl⟩
 have hba := bin_arith (a := a) (b := b) ht16 ht63 ht95
 refine zz3 ?_;refine W.drawY [0, 1, 3, 0, 8, 31, 0, 0, 255, 511] [] [.q 6 [] [], .s [10] none [] [], .s [11] none [] [], .s [10] none [] [], .s [11] none [] []] (fun _ => Hp) (fun _ => [.cells 23 [intA 0, intA 0, strA []]]) Tryzmixed (by kernel_rfl) rfl rfl (fun _ => rfl) ?_
 apply Y.q
 case h1 =>
  intro B hT hF
  refine zz103 ?_;refine D.call Tryz.call42 (c42w a.n fa.lo fa.hi _) ?_;refine zz103 ?_;refine D.call Tryz.call42 (c42w b.n fb.lo fb.hi _) ?_;exact D.end rfl rfl
 case hTF => decide
 refine Y.allocP Tryz.zeroValue71 ?_;refine Y.allocP Tryz.zeroValue71 ?_;refine Y.storeP Tryz.sizeOf71 ?_;refine Y.storeP Tryz.sizeOf71 ?_;refine Y.tail (tn := [])  ?_;refine R.fin [0, 4, 5, 6, 10, 11] ?_;refine zz15 ?_;refine R.fin [0, 4, 5, 6, 10, 11, 103] ?_;refine zz196 ?_;refine R.fin [0, 4, 5, 6, 10, 11, 103, 104] ?_
 refine W.cond (fun ht104 => ?_) (fun ht104 => ?_)
 ·refine zz282 ?_;refine R.call Tryz.call62 (c62 (decide (a.n < 0)) a.n.natAbs (decide (b.n < 0)) b.n.natAbs ea.1 eb.1 _) ?_;refine R.call Tryz.call40 (c40 _ _ (add_lt fa.lo fa.hi fb.lo fb.hi) _) ?_;refine zz243 ?_;exact K.fin (V.two (V.cellN jA jS) V.tmp) ⟨by rw [hba, show arithI t a.n b.n = addI a.n b.n from if_pos ht104, num_whole, small_add fa.lo fa.hi fb.lo fb.hi]; try rfl, rfl⟩
 refine zz41 ?_;refine R.fin [0, 4, 5, 6, 10, 11, 103, 112] ?_
 refine W.cond (fun ht112 => ?_) (fun ht112 => ?_)
 ·refine W.draw [0, 0, 2, 7, 15, 31, 31, 127, 255] 7 Tryzmixed (by kernel_rfl) ?_;refine zz203 ?_;refine D.call Tryz.call41 (c41 (decide (b.n < 0)) (dig b.n.natAbs) _) ?_;refine D.call Tryz.call62 (c62 (decide (a.n < 0)) a.n.natAbs (!(decide (b.n < 0))) b.n.natAbs ea.1 eb.1 _) ?_;refine D.call Tryz.call40 (c40 _ _ (add_lt fa.lo fa.hi fb.lo fb.hi) _) ?_;refine zz218 ?_;refine zz140 ?_;exact K.fin (V.two (V.cellN jA jS) V.tmp) ⟨by rw [hba, show arithI t a.n b.n = subI a.n b.n from (by unfold arithI; rw [if_neg (by rw [ht104]; simp), if_pos ht112]), num_whole, small_sub fa.lo fa.hi fb.lo fb.hi]; try rfl, rfl⟩
 refine zz41 ?_;refine R.fin [0, 4, 5, 6, 10, 11, 121] ?_
 refine W.cond (fun ht121 => ?_) (fun ht121 => ?_)
 ·refine zz282 ?_;refine R.call Tryz.call63 (c63 (decide (a.n < 0)) a.n.natAbs (decide (b.n < 0)) b.n.natAbs ea.2 eb.2 _) ?_;refine R.call Tryz.call40 (c40 _ _ (mulE a.n b.n fa.lo fa.hi fb.lo fb.hi) _) ?_;refine zz243 ?_;exact K.fin (V.two (V.cellN jA jS) V.tmp) ⟨by rw [hba, show arithI t a.n b.n = mulI a.n b.n from (by unfold arithI; rw [if_neg (by rw [ht104]; simp), if_neg (by rw [ht112]; simp), if_pos ht121]), num_whole, small_mul fa.lo fa.hi fb.lo fb.hi]; try rfl, rfl⟩
 refine zz28 ?_;refine zz11 ?_;refine zz65 ?_;refine R.eql ?_;refine R.fin [0, 4, 5, 6, 131] ?_
 refine W.cond (fun ht131 => ?_) (fun ht131 => ?_)
 ·refine zz350 ?_;exact K.fin (V.two (V.cellN jA jS) V.tmp) ⟨by rw [hba, arith_0 ht104 ht112 ht121 ht131]; try rfl, rfl⟩
 refine zz39 ?_;refine zz65 ?_;refine zz65 ?_;refine R.call Tryz.call64 (c64 a.n b.n fa.lo fa.hi fb.lo fb.hi (by simpa using ht131) _) ?_;refine zz55 ?_;refine zz217 ?_;refine R.fin [0, 6, 12, 13] ?_;refine zz15 ?_;refine R.seql ?_;refine R.fin [6, 12, 13, 142] ?_
 refine W.cond (fun ht142 => ?_) (fun ht142 => ?_)
 ·refine zz8 ?_;refine R.call Tryz.call40 (c40 _ _ (Nat.lt_of_le_of_lt (Nat.div_le_self _ _) ea.1) _) ?_;refine zz294 ?_;exact K.fin (V.two (V.cellN jA jS) V.tmp) ⟨by rw [hba, show arithI t a.n b.n = divI a.n b.n from (by unfold arithI; rw [if_neg (by rw [ht104]; simp), if_neg (by rw [ht112]; simp), if_neg (by rw [ht121]; simp), if_pos ht142]), num_whole, small_div fa.lo fa.hi fb.lo fb.hi ht131]; try rfl, rfl⟩
 refine zz284 ?_;refine R.call Tryz.call40 (c40 _ _ (Nat.lt_of_le_of_lt (Nat.mod_le _ _) ea.1) _) ?_;refine zz10 ?_;refine zz1 ?_;refine zz6 ?_;exact K.fin (V.two (V.cellN jA jS) V.tmp) ⟨by rw [hba, show arithI t a.n b.n = remI a.n b.n from (by unfold arithI; rw [if_neg (by rw [ht104]; simp), if_neg (by rw [ht112]; simp), if_neg (by rw [ht121]; simp), if_neg (by rw [ht142]; simp)]), num_whole, small_rem fa.lo fa.hi fb.lo fb.hi ht131]; try rfl, rfl⟩

end Go.SX.Nb
namespace Go.SX.Nb
open Go Go.SX Go.Proofs
variable [ErrAt]
set_option maxRecDepth 8000
/-! The reference's reading of a number. -/
def rdS (x : Nat × Bool) (c : UInt8) : Nat × Bool := if x.2 then x else (x.1 * 10 + (c.toNat - 48), decide (18446744073709551616 ≤ x.1 * 10 + (c.toNat - 48)))
def rdL (d : Str) : Nat × Bool := d.foldl rdS (0, false)
def digC (c : UInt8) : Bool := (decide (48 ≤ c.toNat) && decide (c.toNat ≤ 57))
theorem rd_over : ∀ (l : Str) (m : Nat), l.foldl rdS (m, true) = (m, true)
 | [], m => rfl
 | c :: r, m => rd_over r m
theorem rd_next {d : Str} {i : Nat} (h : i < d.length) : rdL (d.take (i + 1)) = rdS (rdL (d.take i)) d[i] := by
 unfold rdL
 rw [List.take_succ_eq_append_getElem h, List.foldl_append]
 rfl
theorem rd_low {l : Str} (hl : ∀ c ∈ l, digC c = true) : ∀ x : Nat × Bool, (x.2 = false → x.1 < 18446744073709551616) → (l.foldl rdS x).2 = false → (l.foldl rdS x).1 < 18446744073709551616 := by
 induction l with
 | nil => exact fun x h h2 => h h2
 | cons c r ih =>
  intro x h h2
  refine ih (fun y hy => hl y (List.mem_cons_of_mem _ hy)) (rdS x c) (fun h3 => ?_) h2
  unfold rdS at h3 ⊢
  split
  ·rename_i h4; rw [if_pos h4] at h3; rw [h4] at h3; cases h3
  rename_i h4; rw [if_neg h4] at h3; simp at h3; simpa using h3
theorem rd_parse : ∀ (l : Str) (m : Nat), (∀ c ∈ l, digC c = true) → m < 18446744073709551616 → Lib.parseUintM 18446744073709551615 m l = if (l.foldl rdS (m, false)).2 = true then .range else .ok (l.foldl rdS (m, false)).1
 | [], m, _, _ => by rw [Lib.parseUintM]; rfl
 | c :: r, m, h, hm => by
  have hc := h c (by simp)
  unfold digC at hc
  simp only [Bool.and_eq_true, decide_eq_true_eq] at hc
  have hr := fun y hy => h y (List.mem_cons_of_mem _ hy)
  have e : (c :: r).foldl rdS (m, false) = r.foldl rdS (m * 10 + (c.toNat - 48), decide (18446744073709551616 ≤ m * 10 + (c.toNat - 48))) := rfl
  rw [Lib.parseUintM, if_pos hc, e]
  by_cases h1 : 1844674407370955162 ≤ m
  ·rw [if_pos h1, decide_eq_true (by omega), rd_over, if_pos rfl]
  rw [if_neg h1]
  by_cases h2 : 18446744073709551615 < m * 10 + (c.toNat - 48)
  ·rw [if_pos h2, decide_eq_true (by omega), rd_over, if_pos rfl]
  rw [if_neg h2, decide_eq_false (by omega)]
  exact rd_parse r _ hr (by omega)
theorem digC_eq (c : UInt8) : digC c = digs.contains c := (digs_contains c).symm
/-- What is wrong with a text that is no number. -/
theorem rd_bad0 {s d : Str} (hd : d = numDs s) (h : ((((d.length : Nat) : Int) == 0) || (decide ((1 : Int) < ((s.length : Nat) : Int)) && (((d.headD 0).toNat : Int) == 48))) = true) : numReadM s = (0, 6) := by
 have : numBad s = true := by
  unfold numBad
  rw [← hd]
  simp only [Bool.or_eq_true, Bool.and_eq_true, beq_iff_eq, decide_eq_true_eq] at h
  rcases h with h | ⟨h1, h2⟩
  ·have : d = [] := List.eq_nil_of_length_eq_zero (by omega)
   rw [this]; rfl
  have e : d.headD 0 = 48 := UInt8.toNat_inj.1 (by have : (48 : UInt8).toNat = 48 := rfl; omega)
  rw [e, decide_eq_true (by omega)]
  simp
 unfold numReadM
 rw [if_pos this]
theorem rd_bad1 {s d : Str} (hd : d = numDs s) {i : Nat} (hi : i < d.length) (h : (decide (((d[i].toNat : Nat) : Int) < 48) || decide ((57 : Int) < ((d[i].toNat : Nat) : Int))) = true) : numReadM s = (0, 6) := by
 have : numBad s = true := by
  unfold numBad
  rw [← hd]
  cases hb : Lib.trimS d digs == [] with
  | false => simp
  | true =>
   exfalso
   have hb' := trimS_nil.1 (eq_of_beq hb) d[i] (List.getElem_mem hi)
   rw [← digC_eq] at hb'
   unfold digC at hb'
   simp only [Bool.and_eq_true, decide_eq_true_eq] at hb'
   simp only [Bool.or_eq_true, decide_eq_true_eq] at h
   omega
 unfold numReadM
 rw [if_pos this]
theorem rd_good {s d : Str} (hd : d = numDs s) (h : ((((d.length : Nat) : Int) == 0) || (decide ((1 : Int) < ((s.length : Nat) : Int)) && (((d.headD 0).toNat : Int) == 48))) = false) (ha : ∀ c ∈ d, digC c = true) : numReadM s = if (rdL d).2 = true then (0, 4) else smallW (decide (((d.length : Nat) : Int) < ((s.length : Nat) : Int))) (rdL d).1 := by
 simp only [Bool.or_eq_false_iff, Bool.and_eq_false_iff, beq_eq_false_iff_ne, ne_eq, decide_eq_false_iff_not] at h
 have hne : d ≠ [] := fun e => h.1 (by rw [e]; rfl)
 have hg : numBad s = false := by
  unfold numBad
  rw [← hd]
  have h1 : (d == []) = false := by simpa using hne
  have h2 : (Lib.trimS d digs == []) = true := by
   have := trimS_nil.2 (fun b hb => by rw [← digC_eq]; exact ha b hb)
   simpa using this
  have h3 : ((d.headD 0 == 48) && decide (1 < s.length)) = false := by
   rw [Bool.and_eq_false_iff]
   rcases h.2 with h4 | h4
   ·exact .inr (decide_eq_false (by omega))
   refine .inl ?_
   rw [beq_eq_false_iff_ne]
   intro e
   rw [e] at h4
   exact h4 rfl
  rw [h1, h2, h3]
  rfl
 have hl := rd_low ha (0, false) (fun _ => by decide)
 have hp := rd_parse d 0 ha (by decide)
 have hU : Lib.parseUintB 64 d = if (rdL d).2 = true then .range else .ok (rdL d).1 := by
  unfold Lib.parseUintB
  rw [if_neg hne]
  exact hp
 unfold numReadM
 rw [hg, if_neg (by simp)]
 have p1 : (2 : Nat) ^ (64 - 1) = 9223372036854775808 := rfl
 rcases numDs_cases s with ⟨h3, h4⟩ | ⟨r, h3, h4⟩
 ·have e : d = s := hd.trans h4
  subst e
  cases d with
  | nil => exact absurd rfl hne
  | cons c r =>
   have hc := ha c (by simp)
   unfold digC at hc
   simp only [Bool.and_eq_true, decide_eq_true_eq] at hc
   have n1 : ¬ (c.toNat = 43 ∨ c.toNat = 45) := by omega
   have n2 : ¬ c.toNat = 45 := by omega
   simp only [Lib.parseIntB, if_neg n1, hU]
   cases ho : (rdL (c :: r)).2 with
   | true => simp
   | false =>
    have hm := hl ho
    simp only [Bool.false_eq_true, if_false]
    rw [decide_eq_false (show ¬ (((c :: r).length : Nat) : Int) < (((c :: r).length : Nat) : Int) by omega)]
    unfold smallW
    simp only [n2, not_false_eq_true, true_and, false_and, if_false, Bool.false_and, Bool.not_false, Bool.true_and, Bool.false_eq_true, decide_eq_true_eq]
    by_cases hx : 2 ^ (64 - 1) ≤ (rdL (c :: r)).1
    ·rw [if_pos hx, if_neg (by omega)]
    rw [if_neg hx, if_pos (by omega)]
 have e : d = r := hd.trans h4
 subst e
 subst h3
 have n1 : ((45 : UInt8).toNat = 43 ∨ (45 : UInt8).toNat = 45) := .inr rfl
 have n2 : (45 : UInt8).toNat = 45 := rfl
 simp only [Lib.parseIntB, if_pos n1, hU]
 cases ho : (rdL d).2 with
 | true => simp
 | false =>
  have hm := hl ho
  simp only [Bool.false_eq_true, if_false]
  rw [decide_eq_true (show ((d.length : Nat) : Int) < (((45 :: d : Str).length : Nat) : Int) by simp; omega)]
  unfold smallW
  simp only [n2, not_true_eq_false, true_and, false_and, if_false, if_true, Bool.not_true, Bool.false_and, Bool.true_and, Bool.false_eq_true, decide_eq_true_eq]
  by_cases hx : 2 ^ (64 - 1) < (rdL d).1
  ·rw [if_pos hx, if_neg (by omega)]
  rw [if_neg hx, if_pos (by omega)]
end Go.SX.Nb
namespace Go.SX.Nb
open Go Go.SX Go.Proofs
variable [ErrAt]
set_option maxRecDepth 4000
theorem gd1 {s : Str} (h : (decide ((0 : Int) < ((s.length : Nat) : Int)) == true) = true) : s ≠ [] := by rintro rfl; simp at h
theorem gd2 {d : Str} {b : Bool} (h : (((((d.length : Nat) : Int) == 0) == false) && b) = true) : d ≠ [] := by rintro rfl; simp at h
theorem c62f (a b : Nat) (ha : a < B32 ^ 5) (hb : b < B32 ^ 5) (Hp : List AObj) : AFun Tryz.prog 62 [.agg (wF false (dig a)), .agg (wF false (dig b))] Hp (.agg (wF false (dig (a + b)))) := c62 false a false b ha hb Hp
theorem c63f (a b : Nat) (ha : a < B32 ^ 2) (hb : b < B32 ^ 2) (Hp : List AObj) : AFun Tryz.prog 63 [.agg (wF false (dig a)), .agg (wF false (dig b))] Hp (.agg (wF false (dig (a * b)))) := c63 false a false b ha hb Hp
theorem c42t (Hp : List AObj) : AFun Tryz.prog 42 [intA 10] Hp (.agg (wF false (dig 10))) := c42w 10 (by decide) (by decide) Hp
theorem one_put {p q : Nat} (hp : p < 256) (hq : q < 256) : putCells (wF false (dig p)) 1 [u64A (q : Nat)] = wF false (dig q) := by
 have h0 : dig q 0 = q := by rw [dig_0]; omega
 refine wF_put (k := 0) (by decide) h0 fun i hi => ?_
 have hb : B32 ^ 1 ≤ B32 ^ i := Nat.pow_le_pow_right (by decide) (by omega)
 have hb1 : (256 : Nat) ≤ B32 ^ 1 := by decide
 rw [dig_small (m := q) (i := i) (by omega), dig_small (m := p) (i := i) (by omega)]
theorem wF_zero : wF false (dig 0) = [boolA false, u64A 0, u64A 0, u64A 0, u64A 0, u64A 0] := by
 have : ∀ i, dig 0 i = 0 := fun i => by unfold dig; simp
 unfold wF
 rw [this, this, this, this, this]
 rfl
theorem w48 {c : UInt8} (h : 48 ≤ c.toNat) : IntKind.u64.wrap (IntKind.u64.wrap ((c.toNat : Nat) : Int) - 48) = ((c.toNat - 48 : Nat) : Int) := by
 have := c.toNat_lt
 simp only [IntKind.wrap_u64]
 omega
theorem over_iff {m : Nat} (h : m < B32 ^ 3) : decide (0 < ((dig m 2 : Nat) : Int)) = decide (18446744073709551616 ≤ m) := by
 rw [decide_eq_decide]
 unfold dig
 simp only [B32, Nat.reducePow] at h ⊢
 omega
structure RdAt (d : Str) (x : Nat × Nat) : Prop where
 le : x.1 ≤ d.length
 dg : ∀ (j : Nat) (c : UInt8), j < x.1 → d[j]? = some c → digC c = true
 one : x.2 < 256
theorem RdAt.low {d : Str} {x : Nat × Nat} (h : RdAt d x) (ho : (rdL (d.take x.1)).2 = false) : (rdL (d.take x.1)).1 < 18446744073709551616 := by
 refine rd_low (l := d.take x.1) (fun c hc => ?_) (0, false) (fun _ => by decide) ho
 obtain ⟨j, hj⟩ := List.getElem?_of_mem hc
 have hj1 : j < x.1 := by
  have := (List.getElem?_eq_some_iff.1 hj).1
  rw [List.length_take] at this
  omega
 rw [List.getElem?_take, if_pos hj1] at hj
 exact h.dg j c hj1 hj
theorem c44 (s : Str) (hs : s.length ≤ 1048576) (Hp : List AObj) : AFun Tryz.prog 44 [strA s] Hp (.tup [intA (numReadM s).1, intA (numReadM s).2]) := by
 refine ACall.body [.tmp 2, .tmp 3] [0] Tryz.func44 Tryz.ntmps44 (fun d => ?_)
 refine zz66 ?_;refine R.fin [0] ?_;refine zz0 ?_;refine R.assign ?_;refine R.fin [0, 4] ?_;refine zz15 ?_;refine zz287 ?_;refine zz18 ?_;refine G.sindex 0 (s.headD 0) jU (fun hB => headD_get (gd1 hB))  ?_;refine zz237 ?_;refine R.fin [0, 4, 18] ?_
 refine W.cond (fun ht18 => ?_) (fun ht18 => ?_)
 ·have h45 : s.headD 0 = 45 := by
   simp only [Bool.and_eq_true, decide_eq_true_eq, beq_iff_eq] at ht18
   exact UInt8.toNat_inj.1 (by have : (45 : UInt8).toNat = 45 := rfl; have := ht18.2; omega)
  have h1s : 1 ≤ s.length := by simp only [Bool.and_eq_true, decide_eq_true_eq] at ht18; have := ht18.1; omega
  obtain ⟨d, hd0⟩ : ∃ d, d = s.drop 1 := ⟨_, rfl⟩
  have hd : d = numDs s := by
   rw [hd0]
   rcases numDs_cases s with ⟨h3, h4⟩ | ⟨r, h3, h4⟩
   ·exfalso
    cases s with
    | nil => simp at h1s
    | cons c r => simp at h3 h45; exact h3 h45
   rw [h4, h3]; rfl
  have hdl : d.length ≤ 1048576 := by rw [hd0, List.length_drop]; omega
  refine zz34 ?_;refine R.scutL 1 jU h1s (Nat.le_refl _) ?_;refine R.assign ?_;refine R.fin [0, 4] ?_;refine zz207 ?_
  refine R.wk 4 (strA d) (by rw [hd0]; exact Le.refl _) ?_
  refine R.move ?_;refine R.slen jU ?_;refine zz269 ?_;refine G.slen jU ?_;refine G.gtr ?_;refine zz370 ?_;refine G.sindex 0 (d.headD 0) jU (fun hB => headD_get (gd2 hB))  ?_;refine G.eql ?_;refine zz244 ?_;refine R.fin [0, 4, 33] ?_
  refine W.cond (fun ht33 => ?_) (fun ht33 => ?_)
  ·exact zz344
  refine zz39 ?_;refine zz79 ?_;refine R.fin [0, 4, 5] ?_;refine zz2 ?_;refine R.fin [0, 4, 5, 6] ?_;refine AW.seqR ?_;refine zz327 ?_;refine R.alloc jZ ?_;refine zz217 ?_;refine R.fin [0, 4, 5, 6, 7, 8] ?_;refine zz118 ?_;refine R.fin [0, 4, 5, 6, 7, 8, 9] ?_
  refine AW.loopC (α := Nat × Nat) (fun x => ⟨82, setF 0 (strA s) (setF 4 (strA d) (setF 5 (.ptr (oid Hp.length 0) 0) (setF 6 (boolA (rdL (d.take x.1)).2) (setF 7 (.ptr (oid Hp.length 1) 0) (setF 8 (.ptr (oid Hp.length 2) 0) (setF 9 (intA (x.1 : Nat)) (fun _ => .any))))))), Hp, [.cells 71 (wF false (dig (rdL (d.take x.1)).1)), .cells 71 (wF false (dig 10)), .cells 71 (wF false (dig x.2))], [], none⟩) (fun x => RdAt d x) (fun x => d.length - x.1) ((0, 0)) ⟨Nat.zero_le _, fun j c hj => by omega, by decide⟩ (StLe.of_eq (by simp only [List.take_zero, show rdL [] = (0, false) from rfl, wF_zero] <;> rfl)) rfl (fun x hx => ?_)
  obtain ⟨i, p⟩ := x
  simp only at hx ⊢
  refine zz87 ?_;refine zz188 ?_;refine R.fin [0, 4, 5, 6, 7, 8, 9, 40] ?_
  refine W.cond (fun ht40 => ?_) (fun ht40 => ?_)
  ·have hil : i < d.length := by simp at ht40; omega
   refine zz93 ?_;refine zz87 ?_
   refine R.sindex i d[i] jU (List.getElem?_eq_getElem hil)  ?_
   refine R.lss ?_;refine zz77 ?_
   refine G.sindex i d[i] jU (fun _ => List.getElem?_eq_getElem hil)  ?_
   refine zz127 ?_;refine R.fin [0, 4, 5, 6, 7, 8, 9, 52] ?_
   refine W.cond (fun ht52 => ?_) (fun ht52 => ?_)
   ·refine zz204 ?_;refine K.thR ?_;refine zz81 ?_;exact zz53
   have hdc : 48 ≤ d[i].toNat ∧ d[i].toNat ≤ 57 := by
    simp only [Bool.or_eq_false_iff, decide_eq_false_iff_not] at ht52
    omega
   have hnx := rd_next hil
   refine zz293 ?_
   refine R.sindex i d[i] jU (List.getElem?_eq_getElem hil)  ?_
   refine R.iconv jU jU ?_;refine R.sub ?_
   rw [w48 hdc.1]
   refine zz59 ?_
   refine R.storeOwn jS (hput := one_put hx.one (q := (d[i].toNat - 48)) (by have := (d[i]).toNat_lt; omega)) (hfit := by simp) ?_
   refine R.fin [0, 4, 5, 6, 7, 8, 9] ?_;refine zz0 ?_;refine R.not ?_;refine R.fin [0, 4, 5, 6, 7, 8, 9, 61] ?_
   refine W.cond (fun ht61 => ?_) (fun ht61 => ?_)
   ·have ho : (rdL (d.take i)).2 = false := by simpa using ht61
    have hml := hx.low ho
    simp only at hml
    have hm2 : (rdL (d.take i)).1 < B32 ^ 2 := hml
    have hm5 : (rdL (d.take i)).1 * 10 < B32 ^ 5 := Nat.lt_of_lt_of_le (show (rdL (d.take i)).1 * 10 < 184467440737095516170 by omega) (by decide)
    have hm3 : (rdL (d.take i)).1 * 10 + (d[i].toNat - 48) < B32 ^ 3 := Nat.lt_of_lt_of_le (show (rdL (d.take i)).1 * 10 + (d[i].toNat - 48) < 184467440737095516170 by omega) (by decide)
    have hst : rdL (d.take (i + 1)) = ((rdL (d.take i)).1 * 10 + (d[i].toNat - 48), decide (18446744073709551616 ≤ (rdL (d.take i)).1 * 10 + (d[i].toNat - 48))) := by rw [hnx]; exact if_neg (by rw [ho]; simp)
    refine zz362 ?_;refine zz339 ?_;refine D.loadOwnN jA jS ?_;refine D.tail ?_
    refine R.call Tryz.call62 (c62f ((rdL (d.take i)).1 * 10) (d[i].toNat - 48) hm5 (Nat.lt_of_lt_of_le (show (d[i].toNat - 48) < 256 by have := (d[i]).toNat_lt; omega) (by decide)) _) ?_
    refine R.storeOwn jS ?_;refine R.fin [0, 4, 5, 7, 8, 9] ?_;refine AW.region ?_;refine zz323 ?_;refine R.loadOwn jA ?_;refine R.gtr ?_
    rw [over_iff hm3]
    refine R.assign ?_;refine R.fin [0, 4, 5, 6, 7, 8, 9] ?_;refine zz168 ?_;refine R.fin [0, 4, 5, 6, 7, 8, 9] ?_
    refine K.lpN (i + 1, (d[i].toNat - 48)) ⟨hil, fun j c hj hc => ?_, by have := (d[i]).toNat_lt; show d[i].toNat - 48 < 256; omega⟩ (by show d.length - (i + 1) < d.length - i; omega) (StCut.of_eq (by rw [hst] <;> rfl))
    rcases Nat.lt_or_ge j i with h | h
    ·exact hx.dg j c h hc
    have : j = i := by have hj' : j < i + 1 := hj; omega
    subst this
    rw [List.getElem?_eq_getElem hil] at hc
    injection hc with hc
    rw [← hc]
    unfold digC
    simp only [Bool.and_eq_true, decide_eq_true_eq]
    exact hdc
   have ho : (rdL (d.take i)).2 = true := by simpa using ht61
   have hst : rdL (d.take (i + 1)) = rdL (d.take i) := by rw [hnx]; exact if_pos ho
   refine zz176 ?_;refine R.fin [0, 4, 5, 6, 7, 8, 9] ?_
   refine K.lpN (i + 1, (d[i].toNat - 48)) ⟨hil, fun j c hj hc => ?_, by have := (d[i]).toNat_lt; show d[i].toNat - 48 < 256; omega⟩ (by show d.length - (i + 1) < d.length - i; omega) (StCut.of_eq (by rw [hst] <;> rfl))
   rcases Nat.lt_or_ge j i with h | h
   ·exact hx.dg j c h hc
   have : j = i := by have hj' : j < i + 1 := hj; omega
   subst this
   rw [List.getElem?_eq_getElem hil] at hc
   injection hc with hc
   rw [← hc]
   unfold digC
   simp only [Bool.and_eq_true, decide_eq_true_eq]
   exact hdc
  have hie : d.take i = d := List.take_of_length_le (by simp at ht40; omega)
  have hall : ∀ c ∈ d, digC c = true := fun c hc => by
   obtain ⟨j, hj⟩ := List.getElem?_of_mem hc
   exact hx.dg j c (by have := (List.getElem?_eq_some_iff.1 hj).1; simp at ht40; omega) hj
  have hgood := rd_good hd ht33 hall
  have hlow := hx.low
  simp only at hlow
  rw [hie] at hlow ⊢
  refine zz98 ?_;refine zz0 ?_;refine zz123 ?_;refine zz188 ?_;refine zz179 ?_;refine R.fin [5, 6] ?_;refine zz15 ?_;refine R.fin [5, 77] ?_
  refine W.cond (fun ht77 => ?_) (fun ht77 => ?_)
  ·rw [if_pos ht77] at hgood
   exact zz344
  rw [if_neg (by rw [ht77]; simp)] at hgood
  refine zz329 ?_;refine zz10 ?_;refine zz22 ?_;exact zz209
 obtain ⟨d, hd0⟩ : ∃ d, d = s := ⟨_, rfl⟩
 have hd : d = numDs s := by
  rw [hd0]
  rcases numDs_cases s with ⟨h3, h4⟩ | ⟨r, h3, h4⟩
  ·exact h4.symm
  exfalso
  rw [h3] at ht18
  simp at ht18 <;> omega
 have hdl : d.length ≤ 1048576 := by rw [hd0]; exact hs
 refine zz45 ?_
 refine R.wk 4 (strA d) (by rw [hd0]; exact Le.refl _) ?_
 refine R.move ?_;refine R.slen jU ?_;refine zz269 ?_;refine G.slen jU ?_;refine G.gtr ?_;refine zz370 ?_;refine G.sindex 0 (d.headD 0) jU (fun hB => headD_get (gd2 hB))  ?_;refine G.eql ?_;refine zz244 ?_;refine R.fin [0, 4, 33] ?_
 refine W.cond (fun ht33 => ?_) (fun ht33 => ?_)
 ·exact zz344
 refine zz39 ?_;refine zz79 ?_;refine R.fin [0, 4, 5] ?_;refine zz2 ?_;refine R.fin [0, 4, 5, 6] ?_;refine AW.seqR ?_;refine zz327 ?_;refine R.alloc jZ ?_;refine zz217 ?_;refine R.fin [0, 4, 5, 6, 7, 8] ?_;refine zz118 ?_;refine R.fin [0, 4, 5, 6, 7, 8, 9] ?_
 refine AW.loopC (α := Nat × Nat) (fun x => ⟨82, setF 0 (strA s) (setF 4 (strA d) (setF 5 (.ptr (oid Hp.length 0) 0) (setF 6 (boolA (rdL (d.take x.1)).2) (setF 7 (.ptr (oid Hp.length 1) 0) (setF 8 (.ptr (oid Hp.length 2) 0) (setF 9 (intA (x.1 : Nat)) (fun _ => .any))))))), Hp, [.cells 71 (wF false (dig (rdL (d.take x.1)).1)), .cells 71 (wF false (dig 10)), .cells 71 (wF false (dig x.2))], [], none⟩) (fun x => RdAt d x) (fun x => d.length - x.1) ((0, 0)) ⟨Nat.zero_le _, fun j c hj => by omega, by decide⟩ (StLe.of_eq (by simp only [List.take_zero, show rdL [] = (0, false) from rfl, wF_zero] <;> rfl)) rfl (fun x hx => ?_)
 obtain ⟨i, p⟩ := x
 simp only at hx ⊢
 refine zz87 ?_;refine zz188 ?_;refine R.fin [0, 4, 5, 6, 7, 8, 9, 40] ?_
 refine W.cond (fun ht40 => ?_) (fun ht40 => ?_)
 ·have hil : i < d.length := by simp at ht40; omega
  refine zz93 ?_;refine zz87 ?_
  refine R.sindex i d[i] jU (List.getElem?_eq_getElem hil)  ?_
  refine R.lss ?_;refine zz77 ?_
  refine G.sindex i d[i] jU (fun _ => List.getElem?_eq_getElem hil)  ?_
  refine zz127 ?_;refine R.fin [0, 4, 5, 6, 7, 8, 9, 52] ?_
  refine W.cond (fun ht52 => ?_) (fun ht52 => ?_)
  ·refine zz204 ?_;refine K.thR ?_;refine zz81 ?_;exact zz53
  have hdc : 48 ≤ d[i].toNat ∧ d[i].toNat ≤ 57 := by
   simp only [Bool.or_eq_false_iff, decide_eq_false_iff_not] at ht52
   omega
  have hnx := rd_next hil
  refine zz293 ?_
  refine R.sindex i d[i] jU (List.getElem?_eq_getElem hil)  ?_
  refine R.iconv jU jU ?_;refine R.sub ?_
  rw [w48 hdc.1]
  refine zz59 ?_
  refine R.storeOwn jS (hput := one_put hx.one (q := (d[i].toNat - 48)) (by have := (d[i]).toNat_lt; omega)) (hfit := by simp) ?_
  refine R.fin [0, 4, 5, 6, 7, 8, 9] ?_;refine zz0 ?_;refine R.not ?_;refine R.fin [0, 4, 5, 6, 7, 8, 9, 61] ?_
  refine W.cond (fun ht61 => ?_) (fun ht61 => ?_)
  ·have ho : (rdL (d.take i)).2 = false := by simpa using ht61
   have hml := hx.low ho
   simp only at hml
   have hm2 : (rdL (d.take i)).1 < B32 ^ 2 := hml
   have hm5 : (rdL (d.take i)).1 * 10 < B32 ^ 5 := Nat.lt_of_lt_of_le (show (rdL (d.take i)).1 * 10 < 184467440737095516170 by omega) (by decide)
   have hm3 : (rdL (d.take i)).1 * 10 + (d[i].toNat - 48) < B32 ^ 3 := Nat.lt_of_lt_of_le (show (rdL (d.take i)).1 * 10 + (d[i].toNat - 48) < 184467440737095516170 by omega) (by decide)
   have hst : rdL (d.take (i + 1)) = ((rdL (d.take i)).1 * 10 + (d[i].toNat - 48), decide (18446744073709551616 ≤ (rdL (d.take i)).1 * 10 + (d[i].toNat - 48))) := by rw [hnx]; exact if_neg (by rw [ho]; simp)
   refine zz362 ?_;refine zz339 ?_;refine D.loadOwnN jA jS ?_;refine D.tail ?_
   refine R.call Tryz.call62 (c62f ((rdL (d.take i)).1 * 10) (d[i].toNat - 48) hm5 (Nat.lt_of_lt_of_le (show (d[i].toNat - 48) < 256 by have := (d[i]).toNat_lt; omega) (by decide)) _) ?_
   refine R.storeOwn jS ?_;refine R.fin [0, 4, 5, 7, 8, 9] ?_;refine AW.region ?_;refine zz323 ?_;refine R.loadOwn jA ?_;refine R.gtr ?_
   rw [over_iff hm3]
   refine R.assign ?_;refine R.fin [0, 4, 5, 6, 7, 8, 9] ?_;refine zz168 ?_;refine R.fin [0, 4, 5, 6, 7, 8, 9] ?_
   refine K.lpN (i + 1, (d[i].toNat - 48)) ⟨hil, fun j c hj hc => ?_, by have := (d[i]).toNat_lt; show d[i].toNat - 48 < 256; omega⟩ (by show d.length - (i + 1) < d.length - i; omega) (StCut.of_eq (by rw [hst] <;> rfl))
   rcases Nat.lt_or_ge j i with h | h
   ·exact hx.dg j c h hc
   have : j = i := by have hj' : j < i + 1 := hj; omega
   subst this
   rw [List.getElem?_eq_getElem hil] at hc
   injection hc with hc
   rw [← hc]
   unfold digC
   simp only [Bool.and_eq_true, decide_eq_true_eq]
   exact hdc
  have ho : (rdL (d.take i)).2 = true := by simpa using ht61
  have hst : rdL (d.take (i + 1)) = rdL (d.take i) := by rw [hnx]; exact if_pos ho
  refine zz176 ?_;refine R.fin [0, 4, 5, 6, 7, 8, 9] ?_
  refine K.lpN (i + 1, (d[i].toNat - 48)) ⟨hil, fun j c hj hc => ?_, by have := (d[i]).toNat_lt; show d[i].toNat - 48 < 256; omega⟩ (by show d.length - (i + 1) < d.length - i; omega) (StCut.of_eq (by rw [hst] <;> rfl))
  rcases Nat.lt_or_ge j i with h | h
  ·exact hx.dg j c h hc
  have : j = i := by have hj' : j < i + 1 := hj; omega
  subst this
  rw [List.getElem?_eq_getElem hil] at hc
  injection hc with hc
  rw [← hc]
  unfold digC
  simp only [Bool.and_eq_true, decide_eq_true_eq]
  exact hdc
 have hie : d.take i = d := List.take_of_length_le (by simp at ht40; omega)
 have hall : ∀ c ∈ d, digC c = true := fun c hc => by
  obtain ⟨j, hj⟩ := List.getElem?_of_mem hc
  exact hx.dg j c (by have := (List.getElem?_eq_some_iff.1 hj).1; simp at ht40; omega) hj
 have hgood := rd_good hd ht33 hall
 have hlow := hx.low
 simp only at hlow
 rw [hie] at hlow ⊢
 refine zz98 ?_;refine zz0 ?_;refine zz123 ?_;refine zz188 ?_;refine zz179 ?_;refine R.fin [5, 6] ?_;refine zz15 ?_;refine R.fin [5, 77] ?_
 refine W.cond (fun ht77 => ?_) (fun ht77 => ?_)
 ·rw [if_pos ht77] at hgood
  exact zz344
 rw [if_neg (by rw [ht77]; simp)] at hgood
 refine zz329 ?_;refine zz10 ?_;refine zz22 ?_;exact zz209

end Go.SX.Nb
namespace Go.SX.Nb
open Go Go.SX Go.Proofs
variable [ErrAt]
set_option maxRecDepth 8000
/-! The reference's Eval. -/
def strT : Str := [115, 116, 114]
def lenT : Str := [108, 101, 110]
def numT : Str := [110, 117, 109]
def leftT : Str := [108, 101, 102, 116]
def clampI (n k : Int) : Int := if decide (n < 0) = true then 0 else if decide (n < k) = true then n else k
def refP (t : Str) (a b : Val) : Rs := if (t == leftT) = true then (⟨2, 0, a.s.take (clampI b.n a.s.length).toNat⟩, 0) else (⟨2, 0, a.s.drop (a.s.length - (clampI b.n a.s.length).toNat)⟩, 0)
def refC (t : Str) (a b : Val) : Rs :=
 if (t == strT) = true then (if (a.kind != 1) = true then (noV, 10) else (⟨2, 0, Lib.itoa a.n⟩, 0))
 else if (a.kind != 2) = true then (noV, 10)
 else if (t == lenT) = true then (⟨1, a.s.length, []⟩, 0)
 else if (t == numT) = true then (if ((numReadM a.s).2 != 0) = true then (noV, (numReadM a.s).2) else (⟨1, (numReadM a.s).1, []⟩, 0))
 else if (b.kind != 1) = true then (noV, 10) else refP t a b
def refG (o : Int) (t : Str) (a b : Val) : Rs :=
 if ((a.kind == 0) || (b.kind == 0)) = true then (noV, 0)
 else if (o == 5) = true then binM t a b
 else if (o == 3) = true then (if (a.kind != 1) = true then (noV, 10) else numW (!decide (a.n < 0)) a.n.natAbs)
 else if (o == 4) = true then (if (a.kind != 3) = true then (noV, 10) else (boolV (a.n == 0), 0))
 else refC t a b
def refB (k : Int) (o : Int) (t : Str) (a : Val) (rb : Rs) : Rs := if (k == 2) = true then (if (rb.2 != 0) = true then (noV, rb.2) else refG o t a rb.1) else refG o t a ⟨9, 0, []⟩
def refL (t : Str) (a : Val) (rb : Rs) : Rs :=
 if (!((a.kind == 0) || (a.kind == 3))) = true then (noV, 10)
 else if (a == boolV (t == orW)) = true then (a, 0)
 else if (rb.2 != 0) = true then (noV, rb.2)
 else if ((rb.1.kind != 0) && (rb.1.kind != 3)) = true then (noV, 10)
 else if (rb.1 == boolV (t == orW)) = true then (rb.1, 0)
 else if ((a.kind == 0) || (rb.1.kind == 0)) = true then (noV, 0)
 else (boolV (t == andW), 0)
def refF (k : Int) (o : Int) (t : Str) (ra rb rc : Rs) : Rs :=
 if (ra.2 != 0) = true then (noV, ra.2)
 else if ((o == 5) && ((t == orW) || (t == andW))) = true then refL t ra.1 rb
 else if (o == 6) = true then
  (if (t == isnullW) = true then (boolV (ra.1.kind == 0), 0)
  else if (t == nvlW) = true then (if (ra.1.kind != 0) = true then (ra.1, 0) else rb)
  else if (t == ifW) = true then (if (!((ra.1.kind == 0) || (ra.1.kind == 3))) = true then (noV, 10) else if (ra.1.n == 1) = true then rb else rc)
  else refB k o t ra.1 rb)
 else refB k o t ra.1 rb
/-- Who ends in an error has no value. -/
def ErrNo (r : Rs) : Prop := r.2 ≠ 0 → r.1 = noV
theorem errNo_wrong (e : Int) : ErrNo (wrongR e) := fun _ => rfl
theorem errNo_fine (v : Val) : ErrNo (v, 0) := fun h => absurd rfl h
theorem errNo_whole (x : Int × Int) : ErrNo (wholeR x) := by
 unfold wholeR
 split
 ·exact errNo_wrong _
 exact errNo_fine _
theorem errNo_truth {r : Rs} (h : ErrNo r) : ErrNo (truthR r) := by
 unfold truthR
 split
 ·exact errNo_wrong _
 exact h
theorem errNo_bin (t : Str) (a b : Val) : ErrNo (binM t a b) := by
 unfold binM
 split
 ·split
  ·exact errNo_wrong _
  exact errNo_fine _
 split
 ·unfold joinR
  split
  ·exact errNo_wrong _
  split
  ·exact errNo_wrong _
  exact errNo_fine _
 split
 ·exact errNo_wrong _
 exact errNo_whole _
theorem errNo_strict (o : Int) (t : Str) (l : List Val) : ErrNo (strictM o t l) := by
 unfold strictM
 split
 ·exact errNo_bin _ _ _
 split
 ·exact errNo_whole _
 split
 ·exact errNo_fine _
 split
 ·exact errNo_wrong _
 split
 ·unfold fun1M
  split
  ·exact errNo_fine _
  split
  ·exact errNo_fine _
  split
  ·exact errNo_whole _
  exact errNo_wrong _
 split
 ·exact errNo_wrong _
 exact errNo_fine _
theorem errNo_node {c : List Col} {l : List Val} {o : Int} {t : Str} {v : Val} {ks : List Rs} (h : ∀ i, ErrNo (ks.getD i (noV, 0))) : ErrNo (evalN strictM c l o t v ks) := by
 unfold evalN
 split
 ·exact errNo_fine _
 split
 ·unfold nameR
  split
  ·exact errNo_wrong _
  exact errNo_fine _
 have hlog : ∀ s, ErrNo (logicR s (ks.getD 0 (noV, 0)) (ks.getD 1 (noV, 0))) := fun s => by
  unfold logicR
  split
  ·exact errNo_truth (h 0)
  split
  ·exact errNo_truth (h 1)
  exact errNo_fine _
 split
 ·exact hlog _
 split
 ·exact hlog _
 split
 ·unfold callR
  split
  ·split
   ·exact errNo_wrong _
   split
   ·exact h 1
   exact h 2
  split
  ·exact errNo_wrong _
  split
  ·exact errNo_fine _
  split
  ·exact errNo_fine _
  exact h 1
 unfold allR
 split
 ·exact errNo_wrong _
 split
 ·exact errNo_fine _
 exact errNo_strict _ _ _
theorem errNo_eval (c : List Col) (l : List Val) : ∀ (n : Nat) (e : Expr), sizeE e ≤ n → ErrNo (evalE c l e)
 | 0, e, h => by rw [sizeE_eq] at h; omega
 | n + 1, e, h => by
  obtain ⟨o, t, v, k⟩ := e
  rw [evalE, evalS_eq]
  refine errNo_node fun i => ?_
  rw [List.getD_eq_getElem?_getD, List.getElem?_map]
  cases hk : (Expr.mk o t v k).kids[i]? with
  | none => exact errNo_fine _
  | some y =>
   have hlt := (List.getElem?_eq_some_iff.1 hk).1
   have hy := (List.getElem?_eq_some_iff.1 hk).2
   have := size_kid (.mk o t v k) hlt
   rw [hy] at this
   exact errNo_eval c l n y (by omega)
end Go.SX.Nb
namespace Go.SX.Nb
open Go Go.SX Go.Proofs
variable [ErrAt]
set_option maxRecDepth 8000
theorem allR1 (S : List Val → Rs) (ra : Rs) : allR S [ra] = if (ra.2 != 0) = true then (noV, ra.2) else if (ra.1.kind == 0) = true then (noV, 0) else S [ra.1] := by
 unfold allR
 cases h : ra.2 != 0 with
 | true => simp [h, wrongR]
 | false => simp [h]
theorem allR2 (S : List Val → Rs) (ra rb : Rs) : allR S [ra, rb] = if (ra.2 != 0) = true then (noV, ra.2) else if (rb.2 != 0) = true then (noV, rb.2) else if ((ra.1.kind == 0) || (rb.1.kind == 0)) = true then (noV, 0) else S [ra.1, rb.1] := by
 unfold allR
 cases h : ra.2 != 0 with
 | true => simp [h, wrongR]
 | false =>
  cases h2 : rb.2 != 0 with
  | true => simp [h, h2, wrongR]
  | false => simp [h, h2]
theorem truth_err {r : Rs} (h : (r.2 != 0) = true) : truthR r = r := by
 unfold truthR
 have : (r.2 == 0) = false := by simpa using h
 rw [this]
 simp
theorem truth_bad {v : Val} (h : ((v.kind == 0) || (v.kind == 3)) = false) : truthR (v, 0) = (noV, 10) := by
 simp only [Bool.or_eq_false_iff, beq_eq_false_iff_ne, ne_eq] at h
 unfold truthR
 rw [if_pos (by simp [h.1, h.2])]
 rfl
theorem truth_ok {v : Val} (h : ((v.kind == 0) || (v.kind == 3)) = true) : truthR (v, 0) = (v, 0) := by
 unfold truthR
 rw [if_neg]
 simp only [Bool.or_eq_true, beq_iff_eq] at h
 simp
 intro h0
 rcases h with h | h
 ·exact absurd h h0
 exact h
theorem rs_fine {r : Rs} (h : (r.2 != 0) = false) : r = (r.1, 0) := by
 obtain ⟨v, e⟩ := r
 have : e = 0 := by simpa using h
 rw [this]
theorem rs_err {r : Rs} (h : ErrNo r) (h2 : (r.2 != 0) = true) : r = (noV, r.2) := by
 obtain ⟨v, e⟩ := r
 have := h (by simpa using h2)
 simp only at this ⊢
 rw [this]
theorem logic_ref {t : Str} (ht : t = orW ∨ t = andW) {a : Val} {rb : Rs} (fa : Fine a) (fb : Fine rb.1) (eb : ErrNo rb) : logicR (boolV (t == orW)) (a, 0) rb = refL t a rb := by
 unfold refL logicR
 cases h3 : (a.kind == 0) || (a.kind == 3) with
 | false => rw [truth_bad h3]; rfl
 | true =>
  rw [truth_ok h3]
  simp only [Bool.not_true, Bool.false_eq_true, if_false, show ((0 : Int) != 0) = false from rfl, Bool.false_or]
  cases h4 : a == boolV (t == orW) with
  | true => simp
  | false =>
   simp only [Bool.false_eq_true, if_false]
   cases h5 : rb.2 != 0 with
   | true =>
    rw [truth_err h5, h5]
    simp only [Bool.true_or, if_true]
    exact rs_err eb h5
   | false =>
    simp only [Bool.false_eq_true, if_false]
    rw [rs_fine h5]
    generalize rb.1 = b at fb
    try simp only
    cases h6 : (b.kind == 0) || (b.kind == 3) with
    | false =>
     rw [truth_bad h6]
     have : ((b.kind != 0) && (b.kind != 3)) = true := by
      simp only [Bool.or_eq_false_iff, beq_eq_false_iff_ne, ne_eq] at h6
      simp [h6.1, h6.2]
     rw [if_pos this]
     rfl
    | true =>
     rw [truth_ok h6]
     have : ((b.kind != 0) && (b.kind != 3)) = false := by
      simp only [Bool.or_eq_true, beq_iff_eq] at h6
      rcases h6 with h | h <;> simp [h]
     rw [this]
     simp only [Bool.false_eq_true, if_false, show ((0 : Int) != 0) = false from rfl, Bool.false_or]
     cases h7 : b == boolV (t == orW) with
     | true => simp
     | false =>
      simp only [Bool.false_or, Bool.false_eq_true, if_false]
      by_cases ha0 : a.kind = 0
      ·have e : a = noV := kind0_no fa.plain ha0
       rw [e]
       rfl
      rw [if_pos (by simpa using ha0)]
      by_cases hb0 : b.kind = 0
      ·rw [if_pos (by simp [hb0]), kind0_no fb.plain hb0]
      rw [if_neg (by simp [ha0, hb0])]
      have hb3 : b.kind = 3 := by simpa [hb0] using h6
      rcases kind3_bool fb.plain hb3 with rfl | rfl
      ·rcases ht with rfl | rfl
       ·cases h7
       rfl
      rcases ht with rfl | rfl
      ·rfl
      cases h7
theorem if_ref {ra rb rc : Rs} (fa : Fine ra.1) (h : (ra.2 != 0) = false) : callR ifW ra rb rc = if (!((ra.1.kind == 0) || (ra.1.kind == 3))) = true then (noV, 10) else if (ra.1.n == 1) = true then rb else rc := by
 have e := rs_fine h
 generalize ra.1 = a at fa e ⊢
 subst e
 unfold callR
 rw [if_pos (show (ifW == ifW) = true from rfl)]
 cases h3 : (a.kind == 0) || (a.kind == 3) with
 | false => rw [truth_bad h3]; rfl
 | true =>
  rw [truth_ok h3, if_neg (by simp)]
  simp only [Bool.not_true, Bool.false_eq_true, if_false]
  have e2 : (a == boolV true) = (a.n == 1) := by
   simp only [Bool.or_eq_true, beq_iff_eq] at h3
   rcases h3 with h3 | h3
   ·rw [kind0_no fa.plain h3]; rfl
   rcases kind3_bool fa.plain h3 with rfl | rfl <;> rfl
  rw [e2]
theorem itoa_200 {n : Int} (h0 : -9223372036854775808 ≤ n) (h1 : n ≤ 9223372036854775807) : cutV (Lib.itoa n) = ⟨2, 0, Lib.itoa n⟩ := by
 have := Lib.itoa_length_le n (by omega) (by omega)
 unfold cutV
 rw [List.take_of_length_le (by omega)]
theorem clamp_eq (n : Int) (k : Nat) : (max 0 (min n k)) = clampI n k := by
 unfold clampI
 by_cases h : n < 0
 ·rw [if_pos (by simpa using h)]; omega
 rw [if_neg (by simpa using h)]
 by_cases h2 : n < k
 ·rw [if_pos (by simpa using h2)]; omega
 rw [if_neg (by simpa using h2)]; omega
theorem piece_ref {t : Str} (a b : Val) (hl : a.s.length ≤ 200) : pieceM t a.s b.n = (refP t a b).1 ∧ (refP t a b).2 = 0 := by
 unfold pieceM refP
 rw [clamp_eq]
 show (if (t == leftT) = true then _ else _) = _ ∧ _
 cases t == leftT with
 | true =>
  simp only [if_true, and_true]
  unfold cutV
  rw [List.take_of_length_le (by rw [List.length_take]; omega)]
 | false =>
  simp only [Bool.false_eq_true, if_false, and_true]
  unfold cutV
  rw [List.take_of_length_le (by rw [List.length_drop]; omega)]
end Go.SX.Nb
namespace Go.SX.Nb
open Go Go.SX Go.Proofs
variable [ErrAt]
set_option maxRecDepth 8000
section
variable {a b : Val}
theorem one_neg (fa : Fine a) : strictM 3 [] [a] = (if (a.kind != 1) = true then (noV, 10) else numW (!decide (a.n < 0)) a.n.natAbs) := by
 show (if (((3 : Int) == 5)) = true then _ else if (((3 : Int) == 3) && kindsM [a] [1]) = true then wholeR (subI 0 a.n) else _) = _
 rw [if_neg (by decide)]
 have e : kindsM [a] [1] = (a.kind == 1) := by simp [kindsM]
 rw [e]
 cases h : a.kind == 1 with
 | true =>
  have h' : (a.kind != 1) = false := by rw [bne, h]; rfl
  rw [if_pos (by rfl), h', num_whole, smallW_eq, wide_neg, wide_abs, subI_eq (by decide) (by decide) fa.lo fa.hi]
  simp
 | false =>
  have h' : (a.kind != 1) = true := by rw [bne, h]; rfl
  rw [if_neg (by simp), h']
  rfl
theorem one_not : strictM 4 [] [a] = (if (a.kind != 3) = true then (noV, 10) else (boolV (a.n == 0), 0)) := by
 show (if (((4 : Int) == 5)) = true then _ else if (((4 : Int) == 3) && kindsM [a] [1]) = true then _ else if (((4 : Int) == 4) && kindsM [a] [3]) = true then (boolV (a.n == 0), 0) else _) = _
 rw [if_neg (by decide), if_neg (by simp)]
 have e : kindsM [a] [3] = (a.kind == 3) := by simp [kindsM]
 rw [e]
 cases h : a.kind == 3 with
 | true =>
  have h' : (a.kind != 3) = false := by rw [bne, h]; rfl
  rw [if_pos (by rfl), h']
  rfl
 | false =>
  have h' : (a.kind != 3) = true := by rw [bne, h]; rfl
  rw [if_neg (by simp), h']
  rfl
theorem fun_len : strictM 6 lenT [a] = refC lenT a ⟨9, 0, []⟩ := by
 show fun1M lenT a = _
 unfold fun1M refC
 simp only [show (lenT == [115, 116, 114]) = false from rfl, show (lenT == [108, 101, 110]) = true from rfl, show (lenT == [110, 117, 109]) = false from rfl, show (lenT == strT) = false from rfl, show (lenT == lenT) = true from rfl, Bool.false_and, Bool.true_and, Bool.false_eq_true, if_false, if_true]
 cases h : a.kind == 2 with
 | true => rw [show (a.kind != 2) = false by rw [bne, h]; rfl]; rfl
 | false => rw [show (a.kind != 2) = true by rw [bne, h]; rfl]; rfl
theorem fun_num : strictM 6 numT [a] = refC numT a ⟨9, 0, []⟩ := by
 show fun1M numT a = _
 unfold fun1M refC
 simp only [show (numT == [115, 116, 114]) = false from rfl, show (numT == [108, 101, 110]) = false from rfl, show (numT == [110, 117, 109]) = true from rfl, show (numT == strT) = false from rfl, show (numT == lenT) = false from rfl, show (numT == numT) = true from rfl, Bool.false_and, Bool.true_and, Bool.false_eq_true, if_false, if_true]
 cases h : a.kind == 2 with
 | true => rw [show (a.kind != 2) = false by rw [bne, h]; rfl]; rfl
 | false => rw [show (a.kind != 2) = true by rw [bne, h]; rfl]; rfl
theorem fun_str (fa : Fine a) : strictM 6 strT [a] = refC strT a ⟨9, 0, []⟩ := by
 show fun1M strT a = _
 unfold fun1M refC
 simp only [show (strT == [115, 116, 114]) = true from rfl, show (strT == [108, 101, 110]) = false from rfl, show (strT == [110, 117, 109]) = false from rfl, show (strT == strT) = true from rfl, Bool.false_and, Bool.true_and, Bool.false_eq_true, if_false, if_true]
 cases h : a.kind == 1 with
 | true => rw [show (a.kind != 1) = false by rw [bne, h]; rfl, itoa_200 fa.lo fa.hi]; rfl
 | false => rw [show (a.kind != 1) = true by rw [bne, h]; rfl]; rfl
theorem fun_piece (fa : Fine a) {t : Str} (ht : t = leftT ∨ t = [114, 105, 103, 104, 116]) : strictM 6 t [a, b] = refC t a b := by
 show (if (!kindsM [a, b] [2, 1]) = true then wrongR 10 else (pieceM t a.s b.n, 0)) = _
 have e1 : (t == strT) = false := by rcases ht with rfl | rfl <;> rfl
 have e2 : (t == lenT) = false := by rcases ht with rfl | rfl <;> rfl
 have e3 : (t == numT) = false := by rcases ht with rfl | rfl <;> rfl
 unfold refC
 rw [e1, e2, e3]
 simp only [Bool.false_eq_true, if_false]
 have e : kindsM [a, b] [2, 1] = ((a.kind == 2) && (b.kind == 1)) := by simp [kindsM]
 rw [e]
 have hp := piece_ref (t := t) a b fa.len
 cases h : a.kind == 2 with
 | false => rw [show (a.kind != 2) = true by rw [bne, h]; rfl]; rfl
 | true =>
  rw [show (a.kind != 2) = false by rw [bne, h]; rfl]
  cases h2 : b.kind == 1 with
  | false => rw [show (b.kind != 1) = true by rw [bne, h2]; rfl]; rfl
  | true =>
   rw [show (b.kind != 1) = false by rw [bne, h2]; rfl]
   show (pieceM t a.s b.n, (0 : Int)) = refP t a b
   rw [hp.1, ← hp.2]
end
theorem fine9 {a : Val} : ((a.kind == 0) || ((⟨9, 0, []⟩ : Val).kind == 0)) = (a.kind == 0) := by simp
/-- The reference's way is the tree's value. -/
theorem ref_eq {c : List Col} {l : List Val} {e : Expr} (hn : nodeM e = true) (hf : ∀ y ∈ e.kids, Fine (evalE c l y).1 ∧ ErrNo (evalE c l y)) (h1 : (e.op == 1) = false) (h2 : (e.op == 2) = false) : evalE c l e = refF (e.kids.length : Int) e.op e.text (evalE c l (e.kids.getD 0 nullX)) (evalE c l (e.kids.getD 1 nullX)) (evalE c l (e.kids.getD 2 nullX)) := by
 cases node_cases hn with
 | val v hp h0 => cases h1
 | name t ht => cases h2
 | neg x =>
  obtain ⟨fa, _⟩ := hf x (by simp [oneX, Expr.kids])
  show allR (strictM 3 []) [evalE c l x] = refF 1 3 [] (evalE c l x) _ _
  rw [allR1]
  generalize evalE c l x = ra at fa ⊢
  unfold refF
  cases h : ra.2 != 0 with
  | true => rfl
  | false =>
   show _ = refG 3 [] ra.1 ⟨9, 0, []⟩
   unfold refG
   rw [fine9, one_neg fa]
   rfl
 | no x =>
  obtain ⟨fa, _⟩ := hf x (by simp [oneX, Expr.kids])
  show allR (strictM 4 []) [evalE c l x] = refF 1 4 [] (evalE c l x) _ _
  rw [allR1]
  generalize evalE c l x = ra at fa ⊢
  unfold refF
  cases h : ra.2 != 0 with
  | true => rfl
  | false =>
   show _ = refG 4 [] ra.1 ⟨9, 0, []⟩
   unfold refG
   rw [fine9, one_not]
   rfl
 | bin t x y ht =>
  obtain ⟨fa, ea⟩ := hf x (by simp [binX, Expr.kids])
  obtain ⟨fb, eb⟩ := hf y (by simp [binX, Expr.kids])
  show evalN strictM c l 5 t noV [evalE c l x, evalE c l y] = refF 2 5 t (evalE c l x) (evalE c l y) _
  generalize evalE c l x = ra at fa ea ⊢
  generalize evalE c l y = rb at fb eb ⊢
  have hlog : (t = orW ∨ t = andW) → logicR (boolV (t == orW)) ra rb = if (ra.2 != 0) = true then (noV, ra.2) else refL t ra.1 rb := fun h => by
   cases h5 : ra.2 != 0 with
   | true =>
    unfold logicR
    rw [truth_err h5, h5]
    simp only [Bool.true_or, if_true]
    exact rs_err ea h5
   | false =>
    rw [if_neg (by simp)]
    have e := rs_fine h5
    rw [e]
    exact logic_ref h fa fb eb
  unfold refF evalN
  simp only [show ((5 : Int) == 1) = false from rfl, show ((5 : Int) == 2) = false from rfl, show ((5 : Int) == 5) = true from rfl, show ((5 : Int) == 6) = false from rfl, Bool.true_and, Bool.false_and, Bool.false_eq_true, if_false]
  cases ho : t == orW with
  | true =>
   have et : t = orW := eq_of_beq ho
   have := hlog (.inl et)
   rw [ho] at this
   simp only [Bool.true_or, if_true]
   exact this
  | false =>
   cases hw : t == andW with
   | true =>
    have et : t = andW := eq_of_beq hw
    have := hlog (.inr et)
    rw [ho] at this
    simp only [Bool.false_or, Bool.false_eq_true, if_false, if_true]
    exact this
   | false =>
    simp only [Bool.false_or, Bool.false_eq_true, if_false]
    show allR (strictM 5 t) [ra, rb] = _
    rw [allR2]
    cases h5 : ra.2 != 0 with
    | true => rfl
    | false =>
     show _ = (if (rb.2 != 0) = true then (noV, rb.2) else refG 5 t ra.1 rb.1)
     rfl
 | call t k ha =>
  rcases call_names ha with ⟨e, hk⟩ | ⟨e, hk⟩ | ⟨e, hk⟩ | ⟨e, hk⟩ | ⟨e, hk⟩ | ⟨e, hk⟩ | ⟨e, hk⟩ | ⟨e, hk⟩ <;> subst e
  ·match k, hk with
   | [x], _ =>
    obtain ⟨fa, _⟩ := hf x (by simp [Expr.kids])
    show allR (strictM 6 lenT) [evalE c l x] = refF 1 6 lenT (evalE c l x) _ _
    rw [allR1, fun_len]
    cases h : (evalE c l x).2 != 0 with
    | true => unfold refF; rw [h]; rfl
    | false =>
     unfold refF
     rw [h]
     show _ = refG 6 lenT (evalE c l x).1 ⟨9, 0, []⟩
     unfold refG
     rw [fine9]
     rfl
  ·match k, hk with
   | [x], _ =>
    obtain ⟨fa, _⟩ := hf x (by simp [Expr.kids])
    show allR (strictM 6 strT) [evalE c l x] = refF 1 6 strT (evalE c l x) _ _
    rw [allR1, fun_str fa]
    cases h : (evalE c l x).2 != 0 with
    | true => unfold refF; rw [h]; rfl
    | false =>
     unfold refF
     rw [h]
     show _ = refG 6 strT (evalE c l x).1 ⟨9, 0, []⟩
     unfold refG
     rw [fine9]
     rfl
  ·match k, hk with
   | [x], _ =>
    obtain ⟨fa, _⟩ := hf x (by simp [Expr.kids])
    show allR (strictM 6 numT) [evalE c l x] = refF 1 6 numT (evalE c l x) _ _
    rw [allR1, fun_num]
    cases h : (evalE c l x).2 != 0 with
    | true => unfold refF; rw [h]; rfl
    | false =>
     unfold refF
     rw [h]
     show _ = refG 6 numT (evalE c l x).1 ⟨9, 0, []⟩
     unfold refG
     rw [fine9]
     rfl
  ·match k, hk with
   | [x], _ =>
    obtain ⟨fa, ea⟩ := hf x (by simp [Expr.kids])
    show callR isnullW (evalE c l x) (noV, 0) (noV, 0) = refF 1 6 isnullW (evalE c l x) _ _
    unfold callR refF
    cases h : (evalE c l x).2 != 0 with
    | true => rfl
    | false => rfl
  ·match k, hk with
   | [x, y], _ =>
    obtain ⟨fa, ea⟩ := hf x (by simp [Expr.kids])
    show callR nvlW (evalE c l x) (evalE c l y) (noV, 0) = refF 2 6 nvlW (evalE c l x) (evalE c l y) _
    unfold callR refF
    cases h : (evalE c l x).2 != 0 with
    | true => rfl
    | false => rfl
  ·match k, hk with
   | [x, y], _ =>
    obtain ⟨fa, _⟩ := hf x (by simp [Expr.kids])
    show allR (strictM 6 leftT) [evalE c l x, evalE c l y] = refF 2 6 leftT (evalE c l x) (evalE c l y) _
    rw [allR2, fun_piece fa (.inl rfl)]
    unfold refF
    cases h : (evalE c l x).2 != 0 with
    | true => rfl
    | false => rfl
  ·match k, hk with
   | [x, y], _ =>
    obtain ⟨fa, _⟩ := hf x (by simp [Expr.kids])
    show allR (strictM 6 [114, 105, 103, 104, 116]) [evalE c l x, evalE c l y] = refF 2 6 [114, 105, 103, 104, 116] (evalE c l x) (evalE c l y) _
    rw [allR2, fun_piece fa (.inr rfl)]
    unfold refF
    cases h : (evalE c l x).2 != 0 with
    | true => rfl
    | false => rfl
  match k, hk with
  | [x, y, z], _ =>
   obtain ⟨fa, ea⟩ := hf x (by simp [Expr.kids])
   show callR ifW (evalE c l x) (evalE c l y) (evalE c l z) = refF 3 6 ifW (evalE c l x) (evalE c l y) (evalE c l z)
   unfold refF
   cases h : (evalE c l x).2 != 0 with
   | true =>
    unfold callR
    rw [truth_err h, h]
    rfl
   | false =>
    rw [if_ref fa h]
    rfl
end Go.SX.Nb
namespace Go.SX.Nb
open Go Go.SX Go.Proofs
variable [ErrAt]
set_option maxRecDepth 4000
theorem size_abs6 {a : Int} (h : i64R a) : sizeI a = (a.natAbs : Int) := size_abs h.1 h.2
theorem halves {u : Int} (h : 0 ≤ u) (h2 : u < 18446744073709551616) : IntKind.u64.wrap (IntKind.u64.wrap (IntKind.u64.wrap (u.tdiv 4294967296) * 4294967296) + u.tmod 4294967296) = u := by
 simp only [IntKind.wrap_u64]
 rw [Int.tdiv_eq_ediv_of_nonneg h, Int.tmod_eq_emod_of_nonneg h]
 omega
/-- How far the digits have come. -/
def DG (n : Nat) (x : Nat × Str) : Prop := (x.1 = n ∧ x.2 = []) ∨ (x.2 ≠ [] ∧ (if x.1 = 0 then [] else Lib.decDigits x.1) ++ x.2 = Lib.decDigits n)
theorem DG.step {n : Nat} {x : Nat × Str} (h : DG n x) (hc : 0 < x.1 ∨ x.2 = []) : DG n (x.1 / 10, UInt8.ofNat (48 + x.1 % 10) :: x.2) := by
 obtain ⟨u, s⟩ := x
 refine .inr ⟨by simp, ?_⟩
 simp only at *
 have key : (if u / 10 = 0 then [] else Lib.decDigits (u / 10)) ++ [UInt8.ofNat (48 + u % 10)] = Lib.decDigits u := by
  rw [Lib.decDigits.eq_1 u]
  by_cases h10 : u < 10
  ·rw [dif_pos h10, if_pos (by omega), Nat.mod_eq_of_lt h10]; rfl
  rw [dif_neg h10, if_neg (by omega)]
 rw [show UInt8.ofNat (48 + u % 10) :: s = [UInt8.ofNat (48 + u % 10)] ++ s from rfl, ← List.append_assoc, key]
 rcases h with ⟨h1, h2⟩ | ⟨h1, h2⟩
 ·simp only at h1 h2
  rw [h1, h2, List.append_nil]
 simp only at h1 h2
 rw [← h2, if_neg (by rcases hc with hc | hc; omega; exact absurd hc h1)]
theorem DG.done {n : Nat} {x : Nat × Str} (h : DG n x) (h1 : ¬ 0 < x.1) (h2 : x.2 ≠ []) : x.2 = Lib.decDigits n := by
 rcases h with ⟨_, h⟩ | ⟨_, h⟩
 ·exact absurd h h2
 rw [if_pos (by omega)] at h
 simpa using h
theorem DG.len {n : Nat} {x : Nat × Str} (h : DG n x) (hn : n ≤ 9223372036854775808) : x.2.length ≤ 21 := by
 have h2 : (Lib.decDigits n).length ≤ 21 := by
  have := Lib.itoa_length_le (-(n : Int)) (by omega) (by omega)
  unfold Lib.itoa at this
  split at this
  ·have e : (-(n : Int)).natAbs = n := by omega
   rw [e] at this
   simp at this
   omega
  have : n = 0 := by omega
  rw [this]
  rw [Lib.decDigits_one (by omega)]
  simp
 rcases h with ⟨_, h⟩ | ⟨_, h⟩
 ·rw [h]; simp
 have := congrArg List.length h
 rw [List.length_append] at this
 omega
theorem DG.le {n : Nat} {x : Nat × Str} (h : x.1 ≤ n) : x.1 / 10 ≤ n := by omega
theorem dig8 (u : Nat) : IntKind.u8.wrap (48 + IntKind.u8.wrap ((u : Int).tmod 10)) = ((UInt8.ofNat (48 + u % 10)).toNat : Int) := by
 rw [Int.tmod_eq_emod_of_nonneg (by omega)]
 simp [IntKind.wrap, IntKind.bits, IntKind.signed, UInt8.toNat_ofNat']
theorem quo10 {u n : Nat} (h : u ≤ n) (hn : n ≤ 9223372036854775808) : IntKind.u64.wrap ((u : Int).tdiv 10) = ((u / 10 : Nat) : Int) := by
 rw [Int.tdiv_eq_ediv_of_nonneg (by omega), IntKind.wrap_u64]
 omega
theorem itoa_abs (a : Int) : Lib.itoa a = if decide (a < 0) then 45 :: Lib.decDigits a.natAbs else Lib.decDigits a.natAbs := by
 unfold Lib.itoa
 by_cases h : a < 0
 ·simp [h]
 have : a.toNat = a.natAbs := by omega
 simp [h, this]
theorem c43 (a : Int) (ha : i64R a) (Hp : List AObj) : AFun Tryz.prog 43 [intA a] Hp (strA (Lib.itoa a)) := by
 have hs := size_abs6 ha
 have hn : a.natAbs ≤ 9223372036854775808 := by have := ha.1; have := ha.2; omega
 have hh := halves (u := sizeI a) (by rw [hs]; omega) (by rw [hs]; omega)
 refine ACall.body [.tmp 2] [0] Tryz.func43 Tryz.ntmps43 (fun d => ?_)
 refine zz345 ?_;refine R.call Tryz.call42 (c42 a _) ?_;refine zz24 ?_;refine R.fin [3] ?_;refine AW.seqR ?_;refine zz95 ?_;refine R.loadOwn jA ?_;refine R.mul ?_;refine zz59 ?_;refine R.loadOwn jA ?_;refine R.add ?_
 rw [hh, hs]
 refine R.assign ?_;refine R.fin [3, 4] ?_;refine zz2 ?_;refine R.fin [3, 4, 5] ?_;refine W.seq ?_
 refine AW.loopC (α := Nat × Str) (fun x => ⟨37, setF 3 (.ptr (oid Hp.length 0) 0) (setF 4 (u64A (x.1 : Nat)) (setF 5 (strA x.2) (fun _ => .any))), Hp, [.cells 71 (wideC a)], [], none⟩) (fun x => x.1 ≤ a.natAbs ∧ DG a.natAbs x) (fun x => 2 * x.1 + (if x.2 = [] then 1 else 0)) ((a.natAbs, [])) ⟨Nat.le_refl _, .inl ⟨rfl, rfl⟩⟩ (StLe.of_eq (by simp)) rfl (fun x hx => ?_)
 refine zz15 ?_;refine R.gtr ?_;refine zz18 ?_;refine G.seql ?_;refine R.pickOr ?_;refine R.fin [3, 4, 5, 21] ?_
 refine W.cond (fun ht21 => ?_) (fun ht21 => ?_)
 ·have hc : 0 < x.1 ∨ x.2 = [] := by
   have h := ht21
   simp only [Bool.or_eq_true, decide_eq_true_eq, beq_iff_eq] at h
   rcases h with h | h
   ·exact .inl (by omega)
   exact .inr h
  have hl21 := hx.2.len hn
  refine zz3 ?_;refine AW.block ?_;refine zz0 ?_;refine R.rem ?_;refine R.iconv jU jU ?_;refine R.add ?_;refine R.buildSl jU jS jZ ?_
  rw [dig8]
  refine R.bytesStr [UInt8.ofNat (48 + x.1 % 10)] jU jU jU ?_;refine R.move ?_
  refine R.sadd (hl := by simp only [List.length_cons, List.length_nil]; omega) ?_
  refine R.assign ?_;refine R.fin [3, 4, 5] ?_;refine zz332 ?_
  rw [quo10 hx.1 hn]
  refine R.assign ?_;refine R.fin [3, 4, 5] ?_;refine K.blN ?_
  refine K.lpN (x.1 / 10, UInt8.ofNat (48 + x.1 % 10) :: x.2) ⟨DG.le hx.1, hx.2.step hc⟩ (by rw [if_neg (by simp)]; rcases hc with h | h; omega; rw [if_pos h]; omega) (StCut.of_eq rfl)
 have hl21 := hx.2.len hn
 have hD : x.2 = Lib.decDigits a.natAbs := by
  have h := ht21
  simp only [Bool.or_eq_false_iff, decide_eq_false_iff_not, beq_eq_false_iff_ne] at h
  exact hx.2.done (by omega) h.2
 refine zz98 ?_;refine zz11 ?_;refine zz74 ?_;refine R.fin [5, 33] ?_
 refine W.cond (fun ht33 => ?_) (fun ht33 => ?_)
 ·have hm := itoa_abs a
  rw [if_pos ht33] at hm
  refine zz34 ?_
  refine R.sadd (hl := by simp only [List.length_cons, List.length_nil]; omega) ?_
  refine R.assign ?_;refine R.fin [5] ?_;refine K.thN ?_;refine zz0 ?_;exact zz324
 have hm := itoa_abs a
 rw [if_neg (by rw [ht33]; simp)] at hm
 refine zz139 ?_;exact zz324

end Go.SX.Nb
namespace Go.SX.Nb
open Go Go.SX Go.Proofs
variable [ErrAt]
set_option maxRecDepth 4000
theorem val_eqb (v s : Val) : (v.kind == s.kind && v.n == s.n && v.s == s.s) = (v == s) := val_is v s.kind s.n s.s
theorem len_nvl {x : Expr} (k6 : x.op = 6 → arityM x.text = (x.kids.length : Int)) (h : (x.op == 6) = true) (ht : (x.text == nvlW) = true) : 1 < x.kids.length := by
 have e := eq_of_beq ht
 rcases call_names (k6 (eq_of_beq h)) with ⟨q, _⟩ | ⟨q, _⟩ | ⟨q, _⟩ | ⟨q, _⟩ | ⟨_, q⟩ | ⟨q, _⟩ | ⟨q, _⟩ | ⟨q, _⟩
 all_goals first | omega | (rw [e] at q; exact absurd q (by decide))
theorem len_if {x : Expr} (k6 : x.op = 6 → arityM x.text = (x.kids.length : Int)) (h : (x.op == 6) = true) (ht : (x.text == ifW) = true) : 2 < x.kids.length := by
 have e := eq_of_beq ht
 rcases call_names (k6 (eq_of_beq h)) with ⟨q, _⟩ | ⟨q, _⟩ | ⟨q, _⟩ | ⟨q, _⟩ | ⟨q, _⟩ | ⟨q, _⟩ | ⟨q, _⟩ | ⟨_, q⟩
 all_goals first | omega | (rw [e] at q; exact absurd q (by decide))
theorem clamp_1 {n : Int} {k : Nat} (h : decide (n < 0) = true) : clampI n k = ((0 : Nat) : Int) := if_pos h
theorem clamp_2 {n : Int} {k : Nat} (h : decide (n < 0) = false) (h2 : decide (n < (k : Int)) = true) : clampI n k = n := by unfold clampI; rw [if_neg (by rw [h]; simp), if_pos h2]
theorem clamp_3 {n : Int} {k : Nat} (h : decide (n < 0) = false) (h2 : decide (n < (k : Int)) = false) : clampI n k = k := by unfold clampI; rw [if_neg (by rw [h]; simp), if_neg (by rw [h2]; simp)]
theorem getD_val {l : List Val} {i : Nat} (h : i < l.length) : (l.map valA)[i]? = some (valA (l.getD i noV)) := by
 rw [List.getElem?_map, List.getElem?_eq_getElem h, List.getD_eq_getElem?_getD, List.getElem?_eq_getElem h]
 rfl
set_option maxHeartbeats 8000000 in
theorem c15 (c : List Col) (l : List Val) (hc : OkCols c) (hl : l.length = c.length) (hf : ∀ v ∈ l, Fine v) : ∀ (n : Nat) (x : Expr), okE n x → allE nodeM x = true → allE rngN x = true → ∀ Hp : List AObj, AFun Tryz.prog 15 [exprA x, colsA c, valsA l] Hp (resA (evalE c l x)) := by
 intro n
 induction n with
 | zero => exact fun x h => h.elim
 | succ n ih =>
 intro x hok hnode hrng Hp
 have hn0 := hnode
 have hr0 := hrng
 rw [allE_eq, Bool.and_eq_true] at hn0 hr0
 have hev : ∀ y ∈ x.kids, ∀ Hp : List AObj, AFun Tryz.prog 15 [exprA y, colsA c, valsA l] Hp (resA (evalE c l y)) := fun y hy => ih y (hok.2.2 y hy) ((allL_iff _ _).1 hn0.2 y hy) ((allL_iff _ _).1 hr0.2 y hy)
 have hfe : ∀ y ∈ x.kids, Fine (evalE c l y).1 ∧ ErrNo (evalE c l y) := fun y hy => ⟨fine_eval hf y (val_all y ((allL_iff _ _).1 hn0.2 y hy)) ((allL_iff _ _).1 hr0.2 y hy), errNo_eval c l _ y (Nat.le_refl _)⟩
 obtain ⟨k5, k34, k6, kall⟩ := kids_len hn0.1
 have hev0 : evalE c l x = evalN strictM c l x.op x.text x.val (x.kids.map (evalE c l)) := evalS_eq _ _ _ _
 refine ACall.body [.cell 6 23, .tmp 7] [0, 1, 2] Tryz.func15 Tryz.ntmps15 (fun d => ?_)
 refine zz289 ?_;refine R.fin [1, 2, 3, 6] ?_;refine zz71 ?_;refine zz24 ?_;refine R.fin [1, 2, 3, 6, 8] ?_;refine zz35 ?_;refine zz233 ?_;refine R.fin [1, 2, 3, 6, 8, 23] ?_
 refine W.cond (fun ht23 => ?_) (fun ht23 => ?_)
 ·have hm : evalE c l x = (x.val, 0) := by rw [hev0]; unfold evalN; rw [if_pos ht23]
  refine zz368 ?_;refine zz1 ?_;refine zz6 ?_;exact zz17
 refine zz233 ?_;refine R.fin [1, 2, 3, 6, 8, 29] ?_
 refine W.cond (fun ht29 => ?_) (fun ht29 => ?_)
 ·have hm0 : evalE c l x = nameR c l x.text := by rw [hev0]; unfold evalN; rw [if_neg (by rw [ht23]; simp), if_pos ht29]
  refine zz0 ?_;refine zz14 ?_;refine R.call Tryz.call37 (c37 c hc x.text _) ?_;refine R.assign ?_;refine R.fin [2, 6, 8, 9] ?_;refine zz146 ?_;refine R.fin [2, 6, 8, 9, 38] ?_
  refine W.cond (fun ht38 => ?_) (fun ht38 => ?_)
  ·have hm : evalE c l x = (noV, 9) := by rw [hm0]; exact if_pos (by simpa using ht38)
   refine zz64 ?_;exact zz17
  have hnn : ¬ findM x.text c < 0 := by simpa using ht38
  obtain ⟨j, hj, hjc⟩ := find_col hnn
  have hm : evalE c l x = (l.getD j noV, 0) := by
   rw [hm0]
   unfold nameR
   rw [if_neg hnn, hj]
   rfl
  rw [hj]
  refine zz293 ?_;refine R.indexAddr (j) (valA (l.getD j noV)) jU jS (getD_val (by omega)) ?_;refine R.loadRoN jA jS ?_;refine zz1 ?_;refine zz6 ?_;exact zz17
 have href := ref_eq hn0.1 hfe ht23 ht29
 simp only [refF, refL, refB, refG, refC, ifW, nvlW, isnullW, orW, andW, strT, lenT, numT, leftT] at href
 have hk0 : 0 < x.kids.length := by
  simp only [beq_eq_false_iff_ne, ne_eq] at ht23 ht29
  rcases kall with h | h | h | h | h | h
  ·exact absurd h ht23
  ·exact absurd h ht29
  ·have := k34 (.inl h); omega
  ·have := k34 (.inr h); omega
  ·have := k5 h; omega
  have := k6 h
  rcases call_names this with ⟨_, e⟩ | ⟨_, e⟩ | ⟨_, e⟩ | ⟨_, e⟩ | ⟨_, e⟩ | ⟨_, e⟩ | ⟨_, e⟩ | ⟨_, e⟩ <;> omega
 have fa := (hfe _ (getD_in hk0)).1
 refine zz28 ?_;refine zz135 ?_;refine R.indexAddr (0) (exprA (x.kids.getD 0 nullX)) jU jS (getE_at hk0) ?_;refine R.loadRoN jA jS ?_;refine zz52 ?_;refine R.call Tryz.call15 (hev (x.kids.getD 0 nullX) (getD_in hk0) _) ?_;refine zz110 ?_;refine R.fin [1, 2, 3, 6, 8, 10, 11] ?_;refine zz120 ?_;refine R.fin [1, 2, 3, 6, 8, 10, 11, 55] ?_
 refine W.cond (fun ht55 => ?_) (fun ht55 => ?_)
 ·refine zz230 ?_
  simp only [ht23, ht29, ht55, ↓reduceIte, Bool.false_eq_true, Bool.not_true, Bool.not_false] at href
  exact K.fin (V.two (V.cellN jA jS) V.tmp) ⟨by first | (rw [href]; done) | (rw [href]; rfl), rfl⟩
 refine zz39 ?_;refine zz276 ?_;refine zz214 ?_;refine R.assign ?_;refine R.fin [1, 2, 3, 6, 8, 10, 12] ?_;refine zz11 ?_;refine zz9 ?_;refine zz229 ?_;refine G.move ?_;refine zz124 ?_;refine G.pickOr ?_;refine R.pickAnd ?_;refine R.fin [1, 2, 3, 6, 8, 10, 12, 78] ?_
 refine W.cond (fun ht78 => ?_) (fun ht78 => ?_)
 ·have hk2l : x.kids.length = 2 := k5 (by simp only [Bool.and_eq_true, beq_iff_eq] at ht78; exact ht78.1)
  refine AW.seqR ?_;refine zz116 ?_;refine R.call Tryz.call38 (c38 _ _) ?_;refine zz24 ?_;refine R.fin [1, 2, 3, 6, 8, 10, 12, 13] ?_;refine zz15 ?_;refine R.not ?_;refine R.fin [1, 2, 3, 6, 8, 10, 13, 84] ?_
  refine W.cond (fun ht84 => ?_) (fun ht84 => ?_)
  ·refine zz117 ?_
   simp only [ht23, ht29, ht55, ht78, ht84, ↓reduceIte, Bool.false_eq_true, Bool.not_true, Bool.not_false] at href
   exact K.fin (V.two (V.cellN jA jS) V.tmp) ⟨by first | (rw [href]; done) | (rw [href]; rfl), rfl⟩
  refine zz3 ?_;refine W.seq ?_;refine zz8 ?_;refine R.loadOwnN jA jS ?_;refine R.eqlAgg eg23 (fun w => equal23 (evalE c l (x.kids.getD 0 nullX)).1.kind (evalE c l (x.kids.getD 0 nullX)).1.n (boolV (x.text == [111, 114])).kind (boolV (x.text == [111, 114])).n (evalE c l (x.kids.getD 0 nullX)).1.s (boolV (x.text == [111, 114])).s w) ?_;refine R.fin [1, 2, 3, 6, 8, 10, 13, 88] ?_
  refine W.cond (fun ht88 => ?_) (fun ht88 => ?_)
  ·rw [val_eqb] at ht88
   refine zz117 ?_
   simp only [ht23, ht29, ht55, ht78, ht84, ht88, ↓reduceIte, Bool.false_eq_true, Bool.not_true, Bool.not_false] at href
   exact K.fin (V.two (V.cellN jA jS) V.tmp) ⟨by first | (rw [href]; done) | (rw [href]; rfl), rfl⟩
  rw [val_eqb] at ht88
  refine zz39 ?_;refine zz19 ?_;refine R.indexAddr (1) (exprA (x.kids.getD 1 nullX)) jU jS (getE_at (by omega)) ?_;refine R.loadRoN jA jS ?_;refine zz52 ?_;refine R.call Tryz.call15 (hev (x.kids.getD 1 nullX) (getD_in (by omega)) _) ?_;refine zz110 ?_;refine R.fin [3, 6, 8, 10, 13, 14, 15] ?_;refine zz120 ?_;refine R.fin [3, 6, 8, 10, 13, 14, 15, 101] ?_
  refine W.cond (fun ht101 => ?_) (fun ht101 => ?_)
  ·refine zz230 ?_;refine K.thR ?_
   simp only [ht23, ht29, ht55, ht78, ht84, ht88, ht101, ↓reduceIte, Bool.false_eq_true, Bool.not_true, Bool.not_false] at href
   exact K.fin (V.two (V.cellN jA jS) V.tmp) ⟨by first | (rw [href]; done) | (rw [href]; rfl), rfl⟩
  refine zz45 ?_;refine zz83 ?_;refine R.move ?_;refine zz32 ?_;refine zz286 ?_;refine R.fin [3, 6, 8, 10, 13, 14, 111] ?_
  refine W.cond (fun ht111 => ?_) (fun ht111 => ?_)
  ·refine zz117 ?_
   simp only [ht23, ht29, ht55, ht78, ht84, ht88, ht101, ht111, ↓reduceIte, Bool.false_eq_true, Bool.not_true, Bool.not_false] at href
   exact K.fin (V.two (V.cellN jA jS) V.tmp) ⟨by first | (rw [href]; done) | (rw [href]; rfl), rfl⟩
  refine zz3 ?_;refine W.seq ?_;refine zz8 ?_;refine R.loadOwnN jA jS ?_;refine R.eqlAgg eg23 (fun w => equal23 (evalE c l (x.kids.getD 1 nullX)).1.kind (evalE c l (x.kids.getD 1 nullX)).1.n (boolV (x.text == [111, 114])).kind (boolV (x.text == [111, 114])).n (evalE c l (x.kids.getD 1 nullX)).1.s (boolV (x.text == [111, 114])).s w) ?_;refine R.fin [3, 6, 8, 10, 14, 115] ?_
  refine W.cond (fun ht115 => ?_) (fun ht115 => ?_)
  ·rw [val_eqb] at ht115
   refine zz117 ?_
   simp only [ht23, ht29, ht55, ht78, ht84, ht88, ht101, ht111, ht115, ↓reduceIte, Bool.false_eq_true, Bool.not_true, Bool.not_false] at href
   exact K.fin (V.two (V.cellN jA jS) V.tmp) ⟨by first | (rw [href]; done) | (rw [href]; rfl), rfl⟩
  rw [val_eqb] at ht115
  refine zz45 ?_;refine zz276 ?_;refine zz214 ?_;refine R.fin [3, 6, 8, 124] ?_
  refine W.cond (fun ht124 => ?_) (fun ht124 => ?_)
  ·refine zz117 ?_
   simp only [ht23, ht29, ht55, ht78, ht84, ht88, ht101, ht111, ht115, ht124, ↓reduceIte, Bool.false_eq_true, Bool.not_true, Bool.not_false] at href
   exact K.fin (V.two (V.cellN jA jS) V.tmp) ⟨by first | (rw [href]; done) | (rw [href]; rfl), rfl⟩
  refine zz39 ?_;refine zz116 ?_;refine zz160 ?_
  simp only [ht23, ht29, ht55, ht78, ht84, ht88, ht101, ht111, ht115, ht124, ↓reduceIte, Bool.false_eq_true, Bool.not_true, Bool.not_false] at href
  exact K.fin (V.two (V.cellN jA jS) V.tmp) ⟨by first | (rw [href]; done) | (rw [href]; rfl), rfl⟩
 have h78 : (x.op == 5) = true → ((x.text == [111, 114]) || (x.text == [97, 110, 100])) = false := fun h => by rw [h] at ht78; exact ht78
 refine zz148 ?_;refine R.fin [1, 2, 3, 6, 8, 10, 12, 132] ?_
 refine W.cond (fun ht132 => ?_) (fun ht132 => ?_)
 ·refine zz164 ?_;refine R.fin [1, 2, 3, 6, 8, 10, 12, 134] ?_;refine zz196 ?_;refine R.fin [1, 2, 3, 6, 8, 10, 12, 134, 135] ?_
  refine W.cond (fun ht135 => ?_) (fun ht135 => ?_)
  ·refine zz371 ?_;refine R.eql ?_;refine zz154 ?_
   simp only [ht23, ht29, ht55, ht78, ht132, ht135, ↓reduceIte, Bool.false_eq_true, Bool.not_true, Bool.not_false] at href
   exact K.fin (V.two (V.cellN jA jS) V.tmp) ⟨by first | (rw [href]; done) | (rw [href]; rfl), rfl⟩
  refine zz41 ?_;refine R.fin [1, 2, 3, 6, 8, 10, 12, 134, 141] ?_
  refine W.cond (fun ht141 => ?_) (fun ht141 => ?_)
  ·have hk1 : 1 < x.kids.length := len_nvl k6 ht132 ht141
   refine zz128 ?_;refine R.fin [1, 2, 3, 6, 10, 145] ?_
   refine W.cond (fun ht145 => ?_) (fun ht145 => ?_)
   ·refine zz64 ?_;refine zz5 ?_
    simp only [ht23, ht29, ht55, ht78, ht132, ht135, ht141, ht145, ↓reduceIte, Bool.false_eq_true, Bool.not_true, Bool.not_false] at href
    exact K.fin (V.two (V.cellN jA jS) V.tmp) ⟨by first | (rw [href]; done) | (rw [href]; rfl), rfl⟩
   refine zz39 ?_;refine zz19 ?_;refine zz130 ?_;refine zz147 ?_;refine zz243 ?_
   simp only [ht23, ht29, ht55, ht78, ht132, ht135, ht141, ht145, ↓reduceIte, Bool.false_eq_true, Bool.not_true, Bool.not_false] at href
   exact K.fin (V.two (V.cellN jA jS) V.tmp) ⟨by first | (rw [href]; done) | (rw [href]; rfl), rfl⟩
  refine zz41 ?_;refine R.fin [1, 2, 3, 6, 8, 10, 12, 156] ?_
  refine W.cond (fun ht156 => ?_) (fun ht156 => ?_)
  ·have hk2 : 2 < x.kids.length := len_if k6 ht132 ht156
   have hk1 : 1 < x.kids.length := by omega
   refine zz15 ?_;refine R.not ?_;refine R.fin [1, 2, 3, 6, 8, 10, 159] ?_
   refine W.cond (fun ht159 => ?_) (fun ht159 => ?_)
   ·refine zz64 ?_;refine zz5 ?_
    simp only [ht23, ht29, ht55, ht78, ht132, ht135, ht141, ht156, ht159, ↓reduceIte, Bool.false_eq_true, Bool.not_true, Bool.not_false] at href
    exact K.fin (V.two (V.cellN jA jS) V.tmp) ⟨by first | (rw [href]; done) | (rw [href]; rfl), rfl⟩
   refine zz45 ?_;refine zz25 ?_;refine R.eql ?_;refine R.fin [1, 2, 3, 6, 163] ?_
   refine W.cond (fun ht163 => ?_) (fun ht163 => ?_)
   ·refine zz135 ?_;refine zz130 ?_;refine zz147 ?_;refine zz294 ?_;refine zz5 ?_
    simp only [ht23, ht29, ht55, ht78, ht132, ht135, ht141, ht156, ht159, ht163, ↓reduceIte, Bool.false_eq_true, Bool.not_true, Bool.not_false] at href
    exact K.fin (V.two (V.cellN jA jS) V.tmp) ⟨by first | (rw [href]; done) | (rw [href]; rfl), rfl⟩
   refine zz39 ?_;refine zz19 ?_;refine R.indexAddr (2) (exprA (x.kids.getD 2 nullX)) jU jS (getE_at hk2) ?_;refine R.loadRoN jA jS ?_;refine zz52 ?_;refine R.call Tryz.call15 (hev (x.kids.getD 2 nullX) (getD_in hk2) _) ?_;refine zz243 ?_
   simp only [ht23, ht29, ht55, ht78, ht132, ht135, ht141, ht156, ht159, ht163, ↓reduceIte, Bool.false_eq_true, Bool.not_true, Bool.not_false] at href
   exact K.fin (V.two (V.cellN jA jS) V.tmp) ⟨by first | (rw [href]; done) | (rw [href]; rfl), rfl⟩
  refine zz28 ?_;refine zz71 ?_;refine zz24 ?_;refine R.fin [1, 2, 3, 6, 8, 10, 16] ?_;refine zz11 ?_;refine zz19 ?_;refine R.len jU ?_;refine R.eql ?_;refine R.fin [1, 2, 3, 6, 8, 10, 16, 186] ?_
  refine W.cond (fun ht186 => ?_) (fun ht186 => ?_)
  ·rw [List.length_map] at ht186
   have hk1 : 1 < x.kids.length := by simp only [beq_iff_eq] at ht186; omega
   refine zz135 ?_;refine zz130 ?_;refine zz147 ?_;refine zz110 ?_;refine R.fin [3, 6, 8, 10, 16, 17, 18] ?_;refine zz120 ?_;refine R.fin [3, 6, 8, 10, 16, 17, 18, 198] ?_
   refine W.cond (fun ht198 => ?_) (fun ht198 => ?_)
   ·refine zz230 ?_;refine K.thR ?_
    simp only [ht23, ht29, ht55, ht78, ht132, ht135, ht141, ht156, ht186, ht198, ↓reduceIte, Bool.false_eq_true, Bool.not_true, Bool.not_false] at href
    exact K.fin (V.two (V.cellN jA jS) V.tmp) ⟨by first | (rw [href]; done) | (rw [href]; rfl), rfl⟩
   have fb := (hfe _ (getD_in hk1)).1
   refine zz3 ?_;refine AW.region ?_;refine zz175 ?_;refine R.fin [3, 6, 8, 10, 16] ?_;refine zz207 ?_;refine zz276 ?_;refine zz250 ?_
   refine W.cond (fun ht209 => ?_) (fun ht209 => ?_)
   ·refine zz64 ?_
    simp only [ht23, ht29, ht55, ht78, ht132, ht135, ht141, ht156, ht186, ht198, ht209, ↓reduceIte, Bool.false_eq_true, Bool.not_true, Bool.not_false] at href
    exact K.fin (V.two (V.cellN jA jS) V.tmp) ⟨by first | (rw [href]; done) | (rw [href]; rfl), rfl⟩
   refine zz251 ?_
   refine W.cond (fun ht213 => ?_) (fun ht213 => ?_)
   ·exact absurd ((eq_of_beq ht132).symm.trans (eq_of_beq ht213)) (by decide)
   refine zz252 ?_
   refine W.cond (fun ht223 => ?_) (fun ht223 => ?_)
   ·refine zz295 ?_
    refine W.cond (fun ht226 => ?_) (fun ht226 => ?_)
    ·refine zz117 ?_
     simp only [ht23, ht29, ht55, ht78, ht132, ht135, ht141, ht156, ht186, ht198, ht209, ht213, ht223, ht226, ↓reduceIte, Bool.false_eq_true, Bool.not_true, Bool.not_false] at href
     exact K.fin (V.two (V.cellN jA jS) V.tmp) ⟨by first | (rw [href]; done) | (rw [href]; rfl), rfl⟩
    refine zz165 ?_;refine zz166 ?_;refine zz294 ?_
    simp only [ht23, ht29, ht55, ht78, ht132, ht135, ht141, ht156, ht186, ht198, ht209, ht213, ht223, ht226, ↓reduceIte, Bool.false_eq_true, Bool.not_true, Bool.not_false] at href
    exact K.fin (V.two (V.cellN jA jS) V.tmp) ⟨by first | (rw [href]; done) | (rw [href]; rfl), rfl⟩
   refine zz253 ?_
   refine W.cond (fun ht237 => ?_) (fun ht237 => ?_)
   ·refine zz296 ?_
    refine W.cond (fun ht240 => ?_) (fun ht240 => ?_)
    ·refine zz117 ?_
     simp only [ht23, ht29, ht55, ht78, ht132, ht135, ht141, ht156, ht186, ht198, ht209, ht213, ht223, ht237, ht240, ↓reduceIte, Bool.false_eq_true, Bool.not_true, Bool.not_false] at href
     exact K.fin (V.two (V.cellN jA jS) V.tmp) ⟨by first | (rw [href]; done) | (rw [href]; rfl), rfl⟩
    refine zz165 ?_;refine R.eql ?_;refine zz160 ?_
    simp only [ht23, ht29, ht55, ht78, ht132, ht135, ht141, ht156, ht186, ht198, ht209, ht213, ht223, ht237, ht240, ↓reduceIte, Bool.false_eq_true, Bool.not_true, Bool.not_false] at href
    exact K.fin (V.two (V.cellN jA jS) V.tmp) ⟨by first | (rw [href]; done) | (rw [href]; rfl), rfl⟩
   refine zz45 ?_;refine zz254 ?_
   refine W.cond (fun ht248 => ?_) (fun ht248 => ?_)
   ·refine zz297 ?_
    refine W.cond (fun ht251 => ?_) (fun ht251 => ?_)
    ·refine zz117 ?_
     simp only [ht23, ht29, ht55, ht78, ht132, ht135, ht141, ht156, ht186, ht198, ht209, ht213, ht223, ht237, ht248, ht251, ↓reduceIte, Bool.false_eq_true, Bool.not_true, Bool.not_false] at href
     exact K.fin (V.two (V.cellN jA jS) V.tmp) ⟨by first | (rw [href]; done) | (rw [href]; rfl), rfl⟩
    refine zz165 ?_;refine zz126 ?_
    simp only [ht23, ht29, ht55, ht78, ht132, ht135, ht141, ht156, ht186, ht198, ht209, ht213, ht223, ht237, ht248, ht251, ↓reduceIte, Bool.false_eq_true, Bool.not_true, Bool.not_false] at href
    exact K.fin (V.two (V.cellN jA jS) V.tmp) ⟨by first | (rw [href]; done) | (rw [href]; rfl), rfl⟩
   refine zz45 ?_;refine zz260 ?_
   refine W.cond (fun ht259 => ?_) (fun ht259 => ?_)
   ·refine zz64 ?_
    simp only [ht23, ht29, ht55, ht78, ht132, ht135, ht141, ht156, ht186, ht198, ht209, ht213, ht223, ht237, ht248, ht259, ↓reduceIte, Bool.false_eq_true, Bool.not_true, Bool.not_false] at href
    exact K.fin (V.two (V.cellN jA jS) V.tmp) ⟨by first | (rw [href]; done) | (rw [href]; rfl), rfl⟩
   refine zz45 ?_;refine zz14 ?_;refine zz255 ?_
   refine W.cond (fun ht263 => ?_) (fun ht263 => ?_)
   ·refine zz94 ?_;refine R.slen jU ?_;refine zz245 ?_
    simp only [ht23, ht29, ht55, ht78, ht132, ht135, ht141, ht156, ht186, ht198, ht209, ht213, ht223, ht237, ht248, ht259, ht263, ↓reduceIte, Bool.false_eq_true, Bool.not_true, Bool.not_false] at href
    exact K.fin (V.two (V.cellN jA jS) V.tmp) ⟨by first | (rw [href]; done) | (rw [href]; rfl), rfl⟩
   refine zz261 ?_
   refine W.cond (fun ht269 => ?_) (fun ht269 => ?_)
   ·refine zz94 ?_
    refine R.call Tryz.call44 (c44 (evalE c l (x.kids.getD 0 nullX)).1.s (by have := fa.len; omega) _) ?_
    refine zz302 ?_;refine zz264 ?_
    refine W.cond (fun ht278 => ?_) (fun ht278 => ?_)
    ·refine zz230 ?_;refine zz5 ?_
     simp only [ht23, ht29, ht55, ht78, ht132, ht135, ht141, ht156, ht186, ht198, ht209, ht213, ht223, ht237, ht248, ht259, ht263, ht269, ht278, ↓reduceIte, Bool.false_eq_true, Bool.not_true, Bool.not_false] at href
     exact K.fin (V.two (V.cellN jA jS) V.tmp) ⟨by first | (rw [href]; done) | (rw [href]; rfl), rfl⟩
    refine zz139 ?_;refine zz245 ?_
    simp only [ht23, ht29, ht55, ht78, ht132, ht135, ht141, ht156, ht186, ht198, ht209, ht213, ht223, ht237, ht248, ht259, ht263, ht269, ht278, ↓reduceIte, Bool.false_eq_true, Bool.not_true, Bool.not_false] at href
    exact K.fin (V.two (V.cellN jA jS) V.tmp) ⟨by first | (rw [href]; done) | (rw [href]; rfl), rfl⟩
   refine zz28 ?_;refine zz256 ?_
   refine W.cond (fun ht285 => ?_) (fun ht285 => ?_)
   ·refine zz64 ?_
    simp only [ht23, ht29, ht55, ht78, ht132, ht135, ht141, ht156, ht186, ht198, ht209, ht213, ht223, ht237, ht248, ht259, ht263, ht269, ht285, ↓reduceIte, Bool.false_eq_true, Bool.not_true, Bool.not_false] at href
    exact K.fin (V.two (V.cellN jA jS) V.tmp) ⟨by first | (rw [href]; done) | (rw [href]; rfl), rfl⟩
   refine zz195 ?_;refine R.slen jU ?_;refine zz246 ?_;refine zz11 ?_;refine zz25 ?_;refine R.move ?_;refine R.lss ?_;refine R.fin [3, 6, 10, 16, 21, 293] ?_
   refine W.cond (fun ht293 => ?_) (fun ht293 => ?_)
   ·obtain ⟨m1, hm1⟩ : ∃ m1 : Int, m1 = (evalE c l (x.kids.getD 1 nullX)).1.n := ⟨_, rfl⟩
    refine AW.region ?_;refine zz25 ?_;refine zz246 ?_;refine zz207 ?_;refine zz25 ?_;refine zz265 ?_
    refine W.cond (fun ht298 => ?_) (fun ht298 => ?_)
    ·obtain ⟨n0, hI0⟩ : ∃ n0 : Nat, n0 = 0 := ⟨_, rfl⟩
     have hcl : clampI (evalE c l (x.kids.getD 1 nullX)).1.n (((evalE c l (x.kids.getD 0 nullX)).1.s.length : Nat) : Int) = ((n0 : Nat) : Int) := by rw [hI0]; exact clamp_1 ht298
     have hI : ((n0 : Nat) : Int) = 0 := by omega
     have hn0l : n0 ≤ (evalE c l (x.kids.getD 0 nullX)).1.s.length := by omega
     refine zz292 ?_;refine zz207 ?_
     refine R.wk 21 (intA (n0 : Nat)) (by first | (rw [hI, hm1]; exact Le.refl _) | (rw [hI]; exact Le.refl _)) ?_
     refine zz134 ?_
     refine W.cond (fun ht301 => ?_) (fun ht301 => ?_)
     ·refine zz221 ?_
      simp only [ht23, ht29, ht55, ht78, ht132, ht135, ht141, ht156, ht186, ht198, ht209, ht213, ht223, ht237, ht248, ht259, ht263, ht269, ht285, ht293, ht298, ht301, ↓reduceIte, Bool.false_eq_true, Bool.not_true, Bool.not_false, refP, leftT, Bool.false_and, hcl, Int.toNat_natCast] at href
      exact K.fin (V.two (V.cellN jA jS) V.tmp) ⟨by first | (rw [href]; done) | (rw [href]; rfl), rfl⟩
     refine zz232 ?_
     refine R.sub64 (h1 := by omega) (h2 := by have := fa.len; omega) ?_
     rw [show (((evalE c l (x.kids.getD 0 nullX)).1.s.length : Int) - (n0 : Int)) = (((evalE c l (x.kids.getD 0 nullX)).1.s.length - n0 : Nat) : Int) by omega]
     refine zz259 ?_
     simp only [ht23, ht29, ht55, ht78, ht132, ht135, ht141, ht156, ht186, ht198, ht209, ht213, ht223, ht237, ht248, ht259, ht263, ht269, ht285, ht293, ht298, ht301, ↓reduceIte, Bool.false_eq_true, Bool.not_true, Bool.not_false, refP, leftT, Bool.false_and, hcl, Int.toNat_natCast] at href
     exact K.fin (V.two (V.cellN jA jS) V.tmp) ⟨by first | (rw [href]; done) | (rw [href]; rfl), rfl⟩
    obtain ⟨n0, hI⟩ : ∃ n0 : Nat, (n0 : Int) = m1 := ⟨m1.toNat, by have := of_decide_eq_false ht298; omega⟩
    have hcl : clampI (evalE c l (x.kids.getD 1 nullX)).1.n (((evalE c l (x.kids.getD 0 nullX)).1.s.length : Nat) : Int) = ((n0 : Nat) : Int) := by rw [hI, hm1]; first | exact clamp_2 ht298 ht293 | exact clamp_3 ht298 ht293
    have hn0l : n0 ≤ (evalE c l (x.kids.getD 0 nullX)).1.s.length := by first | (have := of_decide_eq_true ht293; omega) | (have := of_decide_eq_false ht293; omega)
    refine zz45 ?_
    refine R.wk 21 (intA (n0 : Nat)) (by first | (rw [hI, hm1]; exact Le.refl _) | (rw [hI]; exact Le.refl _)) ?_
    refine zz134 ?_
    refine W.cond (fun ht301 => ?_) (fun ht301 => ?_)
    ·refine zz221 ?_
     simp only [ht23, ht29, ht55, ht78, ht132, ht135, ht141, ht156, ht186, ht198, ht209, ht213, ht223, ht237, ht248, ht259, ht263, ht269, ht285, ht293, ht298, ht301, ↓reduceIte, Bool.false_eq_true, Bool.not_true, Bool.not_false, refP, leftT, Bool.false_and, hcl, Int.toNat_natCast] at href
     exact K.fin (V.two (V.cellN jA jS) V.tmp) ⟨by first | (rw [href]; done) | (rw [href]; rfl), rfl⟩
    refine zz232 ?_
    refine R.sub64 (h1 := by omega) (h2 := by have := fa.len; omega) ?_
    rw [show (((evalE c l (x.kids.getD 0 nullX)).1.s.length : Int) - (n0 : Int)) = (((evalE c l (x.kids.getD 0 nullX)).1.s.length - n0 : Nat) : Int) by omega]
    refine zz259 ?_
    simp only [ht23, ht29, ht55, ht78, ht132, ht135, ht141, ht156, ht186, ht198, ht209, ht213, ht223, ht237, ht248, ht259, ht263, ht269, ht285, ht293, ht298, ht301, ↓reduceIte, Bool.false_eq_true, Bool.not_true, Bool.not_false, refP, leftT, Bool.false_and, hcl, Int.toNat_natCast] at href
    exact K.fin (V.two (V.cellN jA jS) V.tmp) ⟨by first | (rw [href]; done) | (rw [href]; rfl), rfl⟩
   obtain ⟨m1, hm1⟩ : ∃ m1 : Int, m1 = (((evalE c l (x.kids.getD 0 nullX)).1.s.length : Nat) : Int) := ⟨_, rfl⟩
   refine zz45 ?_;refine zz25 ?_;refine zz265 ?_
   refine W.cond (fun ht298 => ?_) (fun ht298 => ?_)
   ·obtain ⟨n0, hI0⟩ : ∃ n0 : Nat, n0 = 0 := ⟨_, rfl⟩
    have hcl : clampI (evalE c l (x.kids.getD 1 nullX)).1.n (((evalE c l (x.kids.getD 0 nullX)).1.s.length : Nat) : Int) = ((n0 : Nat) : Int) := by rw [hI0]; exact clamp_1 ht298
    have hI : ((n0 : Nat) : Int) = 0 := by omega
    have hn0l : n0 ≤ (evalE c l (x.kids.getD 0 nullX)).1.s.length := by omega
    refine zz292 ?_;refine zz207 ?_
    refine R.wk 21 (intA (n0 : Nat)) (by first | (rw [hI, hm1]; exact Le.refl _) | (rw [hI]; exact Le.refl _)) ?_
    refine zz134 ?_
    refine W.cond (fun ht301 => ?_) (fun ht301 => ?_)
    ·refine zz221 ?_
     simp only [ht23, ht29, ht55, ht78, ht132, ht135, ht141, ht156, ht186, ht198, ht209, ht213, ht223, ht237, ht248, ht259, ht263, ht269, ht285, ht293, ht298, ht301, ↓reduceIte, Bool.false_eq_true, Bool.not_true, Bool.not_false, refP, leftT, Bool.false_and, hcl, Int.toNat_natCast] at href
     exact K.fin (V.two (V.cellN jA jS) V.tmp) ⟨by first | (rw [href]; done) | (rw [href]; rfl), rfl⟩
    refine zz232 ?_
    refine R.sub64 (h1 := by omega) (h2 := by have := fa.len; omega) ?_
    rw [show (((evalE c l (x.kids.getD 0 nullX)).1.s.length : Int) - (n0 : Int)) = (((evalE c l (x.kids.getD 0 nullX)).1.s.length - n0 : Nat) : Int) by omega]
    refine zz259 ?_
    simp only [ht23, ht29, ht55, ht78, ht132, ht135, ht141, ht156, ht186, ht198, ht209, ht213, ht223, ht237, ht248, ht259, ht263, ht269, ht285, ht293, ht298, ht301, ↓reduceIte, Bool.false_eq_true, Bool.not_true, Bool.not_false, refP, leftT, Bool.false_and, hcl, Int.toNat_natCast] at href
    exact K.fin (V.two (V.cellN jA jS) V.tmp) ⟨by first | (rw [href]; done) | (rw [href]; rfl), rfl⟩
   obtain ⟨n0, hI⟩ : ∃ n0 : Nat, (n0 : Int) = m1 := ⟨m1.toNat, by have := of_decide_eq_false ht298; omega⟩
   have hcl : clampI (evalE c l (x.kids.getD 1 nullX)).1.n (((evalE c l (x.kids.getD 0 nullX)).1.s.length : Nat) : Int) = ((n0 : Nat) : Int) := by rw [hI, hm1]; first | exact clamp_2 ht298 ht293 | exact clamp_3 ht298 ht293
   have hn0l : n0 ≤ (evalE c l (x.kids.getD 0 nullX)).1.s.length := by first | (have := of_decide_eq_true ht293; omega) | (have := of_decide_eq_false ht293; omega)
   refine zz45 ?_
   refine R.wk 21 (intA (n0 : Nat)) (by first | (rw [hI, hm1]; exact Le.refl _) | (rw [hI]; exact Le.refl _)) ?_
   refine zz134 ?_
   refine W.cond (fun ht301 => ?_) (fun ht301 => ?_)
   ·refine zz221 ?_
    simp only [ht23, ht29, ht55, ht78, ht132, ht135, ht141, ht156, ht186, ht198, ht209, ht213, ht223, ht237, ht248, ht259, ht263, ht269, ht285, ht293, ht298, ht301, ↓reduceIte, Bool.false_eq_true, Bool.not_true, Bool.not_false, refP, leftT, Bool.false_and, hcl, Int.toNat_natCast] at href
    exact K.fin (V.two (V.cellN jA jS) V.tmp) ⟨by first | (rw [href]; done) | (rw [href]; rfl), rfl⟩
   refine zz232 ?_
   refine R.sub64 (h1 := by omega) (h2 := by have := fa.len; omega) ?_
   rw [show (((evalE c l (x.kids.getD 0 nullX)).1.s.length : Int) - (n0 : Int)) = (((evalE c l (x.kids.getD 0 nullX)).1.s.length - n0 : Nat) : Int) by omega]
   refine zz259 ?_
   simp only [ht23, ht29, ht55, ht78, ht132, ht135, ht141, ht156, ht186, ht198, ht209, ht213, ht223, ht237, ht248, ht259, ht263, ht269, ht285, ht293, ht298, ht301, ↓reduceIte, Bool.false_eq_true, Bool.not_true, Bool.not_false, refP, leftT, Bool.false_and, hcl, Int.toNat_natCast] at href
   exact K.fin (V.two (V.cellN jA jS) V.tmp) ⟨by first | (rw [href]; done) | (rw [href]; rfl), rfl⟩
  rw [List.length_map] at ht186
  refine zz45 ?_;refine zz276 ?_;refine zz250 ?_
  refine W.cond (fun ht209 => ?_) (fun ht209 => ?_)
  ·refine zz64 ?_
   simp only [ht23, ht29, ht55, ht78, ht132, ht135, ht141, ht156, ht186, ht209, ↓reduceIte, Bool.false_eq_true, Bool.not_true, Bool.not_false] at href
   exact K.fin (V.two (V.cellN jA jS) V.tmp) ⟨by first | (rw [href]; done) | (rw [href]; rfl), rfl⟩
  refine zz251 ?_
  refine W.cond (fun ht213 => ?_) (fun ht213 => ?_)
  ·exact absurd ((eq_of_beq ht132).symm.trans (eq_of_beq ht213)) (by decide)
  refine zz252 ?_
  refine W.cond (fun ht223 => ?_) (fun ht223 => ?_)
  ·refine zz295 ?_
   refine W.cond (fun ht226 => ?_) (fun ht226 => ?_)
   ·refine zz117 ?_
    simp only [ht23, ht29, ht55, ht78, ht132, ht135, ht141, ht156, ht186, ht209, ht213, ht223, ht226, ↓reduceIte, Bool.false_eq_true, Bool.not_true, Bool.not_false] at href
    exact K.fin (V.two (V.cellN jA jS) V.tmp) ⟨by first | (rw [href]; done) | (rw [href]; rfl), rfl⟩
   refine zz165 ?_;refine zz166 ?_;refine zz294 ?_
   simp only [ht23, ht29, ht55, ht78, ht132, ht135, ht141, ht156, ht186, ht209, ht213, ht223, ht226, ↓reduceIte, Bool.false_eq_true, Bool.not_true, Bool.not_false] at href
   exact K.fin (V.two (V.cellN jA jS) V.tmp) ⟨by first | (rw [href]; done) | (rw [href]; rfl), rfl⟩
  refine zz253 ?_
  refine W.cond (fun ht237 => ?_) (fun ht237 => ?_)
  ·refine zz296 ?_
   refine W.cond (fun ht240 => ?_) (fun ht240 => ?_)
   ·refine zz117 ?_
    simp only [ht23, ht29, ht55, ht78, ht132, ht135, ht141, ht156, ht186, ht209, ht213, ht223, ht237, ht240, ↓reduceIte, Bool.false_eq_true, Bool.not_true, Bool.not_false] at href
    exact K.fin (V.two (V.cellN jA jS) V.tmp) ⟨by first | (rw [href]; done) | (rw [href]; rfl), rfl⟩
   refine zz165 ?_;refine R.eql ?_;refine zz160 ?_
   simp only [ht23, ht29, ht55, ht78, ht132, ht135, ht141, ht156, ht186, ht209, ht213, ht223, ht237, ht240, ↓reduceIte, Bool.false_eq_true, Bool.not_true, Bool.not_false] at href
   exact K.fin (V.two (V.cellN jA jS) V.tmp) ⟨by first | (rw [href]; done) | (rw [href]; rfl), rfl⟩
  refine zz45 ?_;refine zz254 ?_
  refine W.cond (fun ht248 => ?_) (fun ht248 => ?_)
  ·refine zz297 ?_
   refine W.cond (fun ht251 => ?_) (fun ht251 => ?_)
   ·refine zz117 ?_
    simp only [ht23, ht29, ht55, ht78, ht132, ht135, ht141, ht156, ht186, ht209, ht213, ht223, ht237, ht248, ht251, ↓reduceIte, Bool.false_eq_true, Bool.not_true, Bool.not_false] at href
    exact K.fin (V.two (V.cellN jA jS) V.tmp) ⟨by first | (rw [href]; done) | (rw [href]; rfl), rfl⟩
   refine zz165 ?_;refine zz126 ?_
   simp only [ht23, ht29, ht55, ht78, ht132, ht135, ht141, ht156, ht186, ht209, ht213, ht223, ht237, ht248, ht251, ↓reduceIte, Bool.false_eq_true, Bool.not_true, Bool.not_false] at href
   exact K.fin (V.two (V.cellN jA jS) V.tmp) ⟨by first | (rw [href]; done) | (rw [href]; rfl), rfl⟩
  refine zz45 ?_;refine zz260 ?_
  refine W.cond (fun ht259 => ?_) (fun ht259 => ?_)
  ·refine zz64 ?_
   simp only [ht23, ht29, ht55, ht78, ht132, ht135, ht141, ht156, ht186, ht209, ht213, ht223, ht237, ht248, ht259, ↓reduceIte, Bool.false_eq_true, Bool.not_true, Bool.not_false] at href
   exact K.fin (V.two (V.cellN jA jS) V.tmp) ⟨by first | (rw [href]; done) | (rw [href]; rfl), rfl⟩
  refine zz45 ?_;refine zz14 ?_;refine zz255 ?_
  refine W.cond (fun ht263 => ?_) (fun ht263 => ?_)
  ·refine zz94 ?_;refine R.slen jU ?_;refine zz245 ?_
   simp only [ht23, ht29, ht55, ht78, ht132, ht135, ht141, ht156, ht186, ht209, ht213, ht223, ht237, ht248, ht259, ht263, ↓reduceIte, Bool.false_eq_true, Bool.not_true, Bool.not_false] at href
   exact K.fin (V.two (V.cellN jA jS) V.tmp) ⟨by first | (rw [href]; done) | (rw [href]; rfl), rfl⟩
  refine zz261 ?_
  refine W.cond (fun ht269 => ?_) (fun ht269 => ?_)
  ·refine zz94 ?_
   refine R.call Tryz.call44 (c44 (evalE c l (x.kids.getD 0 nullX)).1.s (by have := fa.len; omega) _) ?_
   refine zz302 ?_;refine zz264 ?_
   refine W.cond (fun ht278 => ?_) (fun ht278 => ?_)
   ·refine zz230 ?_;refine zz5 ?_
    simp only [ht23, ht29, ht55, ht78, ht132, ht135, ht141, ht156, ht186, ht209, ht213, ht223, ht237, ht248, ht259, ht263, ht269, ht278, ↓reduceIte, Bool.false_eq_true, Bool.not_true, Bool.not_false] at href
    exact K.fin (V.two (V.cellN jA jS) V.tmp) ⟨by first | (rw [href]; done) | (rw [href]; rfl), rfl⟩
   refine zz139 ?_;refine zz245 ?_
   simp only [ht23, ht29, ht55, ht78, ht132, ht135, ht141, ht156, ht186, ht209, ht213, ht223, ht237, ht248, ht259, ht263, ht269, ht278, ↓reduceIte, Bool.false_eq_true, Bool.not_true, Bool.not_false] at href
   exact K.fin (V.two (V.cellN jA jS) V.tmp) ⟨by first | (rw [href]; done) | (rw [href]; rfl), rfl⟩
  refine zz28 ?_;refine zz256 ?_
  refine W.cond (fun ht285 => ?_) (fun ht285 => ?_)
  ·refine zz64 ?_
   simp only [ht23, ht29, ht55, ht78, ht132, ht135, ht141, ht156, ht186, ht209, ht213, ht223, ht237, ht248, ht259, ht263, ht269, ht285, ↓reduceIte, Bool.false_eq_true, Bool.not_true, Bool.not_false] at href
   exact K.fin (V.two (V.cellN jA jS) V.tmp) ⟨by first | (rw [href]; done) | (rw [href]; rfl), rfl⟩
  exact absurd ht285 (by decide)
 refine zz39 ?_;refine R.build (places := #[(0, 1), (1, 1), (2, 1)]) jU (fun w => by simp) jZ ?_;refine zz24 ?_;refine R.fin [1, 2, 3, 6, 8, 10, 16] ?_;refine zz11 ?_;refine zz19 ?_;refine R.len jU ?_;refine R.eql ?_;refine R.fin [1, 2, 3, 6, 8, 10, 16, 186] ?_
 refine W.cond (fun ht186 => ?_) (fun ht186 => ?_)
 ·rw [List.length_map] at ht186
  have hk1 : 1 < x.kids.length := by simp only [beq_iff_eq] at ht186; omega
  refine zz135 ?_;refine zz130 ?_;refine zz147 ?_;refine zz110 ?_;refine R.fin [3, 6, 8, 10, 16, 17, 18] ?_;refine zz120 ?_;refine R.fin [3, 6, 8, 10, 16, 17, 18, 198] ?_
  refine W.cond (fun ht198 => ?_) (fun ht198 => ?_)
  ·refine zz230 ?_;refine K.thR ?_
   simp only [ht23, ht29, ht55, ht78, ht132, ht186, ht198, ↓reduceIte, Bool.false_eq_true, Bool.not_true, Bool.not_false] at href
   exact K.fin (V.two (V.cellN jA jS) V.tmp) ⟨by first | (rw [href]; done) | (rw [href]; rfl), rfl⟩
  have fb := (hfe _ (getD_in hk1)).1
  refine zz3 ?_;refine AW.region ?_;refine zz175 ?_;refine R.fin [3, 6, 8, 10, 16] ?_;refine zz207 ?_;refine zz276 ?_;refine zz250 ?_
  refine W.cond (fun ht209 => ?_) (fun ht209 => ?_)
  ·refine zz64 ?_
   simp only [ht23, ht29, ht55, ht78, ht132, ht186, ht198, ht209, ↓reduceIte, Bool.false_eq_true, Bool.not_true, Bool.not_false] at href
   exact K.fin (V.two (V.cellN jA jS) V.tmp) ⟨by first | (rw [href]; done) | (rw [href]; rfl), rfl⟩
  refine zz251 ?_
  refine W.cond (fun ht213 => ?_) (fun ht213 => ?_)
  ·have h79 := h78 ht213
   refine zz164 ?_;refine R.loadOwnN jA jS ?_;refine R.loadOwnN jA jS ?_
   refine R.call Tryz.call39 (c39 x.text (evalE c l (x.kids.getD 0 nullX)).1 (evalE c l (x.kids.getD 1 nullX)).1 fa fb (by have := fa.len; omega) (by have := fb.len; omega) _) ?_
   refine zz294 ?_
   simp only [ht23, ht29, ht55, ht78, ht132, ht186, ht198, ht209, ht213, ↓reduceIte, Bool.false_eq_true, Bool.not_true, Bool.not_false, h79, Bool.true_and] at href
   exact K.fin (V.two (V.cellN jA jS) V.tmp) ⟨by first | (rw [href]; done) | (rw [href]; rfl), rfl⟩
  refine zz252 ?_
  refine W.cond (fun ht223 => ?_) (fun ht223 => ?_)
  ·refine zz295 ?_
   refine W.cond (fun ht226 => ?_) (fun ht226 => ?_)
   ·refine zz117 ?_
    simp only [ht23, ht29, ht55, ht78, ht132, ht186, ht198, ht209, ht213, ht223, ht226, ↓reduceIte, Bool.false_eq_true, Bool.not_true, Bool.not_false] at href
    exact K.fin (V.two (V.cellN jA jS) V.tmp) ⟨by first | (rw [href]; done) | (rw [href]; rfl), rfl⟩
   refine zz165 ?_;refine zz166 ?_;refine zz294 ?_
   simp only [ht23, ht29, ht55, ht78, ht132, ht186, ht198, ht209, ht213, ht223, ht226, ↓reduceIte, Bool.false_eq_true, Bool.not_true, Bool.not_false] at href
   exact K.fin (V.two (V.cellN jA jS) V.tmp) ⟨by first | (rw [href]; done) | (rw [href]; rfl), rfl⟩
  refine zz253 ?_
  refine W.cond (fun ht237 => ?_) (fun ht237 => ?_)
  ·refine zz296 ?_
   refine W.cond (fun ht240 => ?_) (fun ht240 => ?_)
   ·refine zz117 ?_
    simp only [ht23, ht29, ht55, ht78, ht132, ht186, ht198, ht209, ht213, ht223, ht237, ht240, ↓reduceIte, Bool.false_eq_true, Bool.not_true, Bool.not_false] at href
    exact K.fin (V.two (V.cellN jA jS) V.tmp) ⟨by first | (rw [href]; done) | (rw [href]; rfl), rfl⟩
   refine zz165 ?_;refine R.eql ?_;refine zz160 ?_
   simp only [ht23, ht29, ht55, ht78, ht132, ht186, ht198, ht209, ht213, ht223, ht237, ht240, ↓reduceIte, Bool.false_eq_true, Bool.not_true, Bool.not_false] at href
   exact K.fin (V.two (V.cellN jA jS) V.tmp) ⟨by first | (rw [href]; done) | (rw [href]; rfl), rfl⟩
  refine zz45 ?_;refine zz254 ?_
  refine W.cond (fun ht248 => ?_) (fun ht248 => ?_)
  ·refine zz297 ?_
   refine W.cond (fun ht251 => ?_) (fun ht251 => ?_)
   ·refine zz117 ?_
    simp only [ht23, ht29, ht55, ht78, ht132, ht186, ht198, ht209, ht213, ht223, ht237, ht248, ht251, ↓reduceIte, Bool.false_eq_true, Bool.not_true, Bool.not_false] at href
    exact K.fin (V.two (V.cellN jA jS) V.tmp) ⟨by first | (rw [href]; done) | (rw [href]; rfl), rfl⟩
   refine zz165 ?_;refine zz126 ?_
   simp only [ht23, ht29, ht55, ht78, ht132, ht186, ht198, ht209, ht213, ht223, ht237, ht248, ht251, ↓reduceIte, Bool.false_eq_true, Bool.not_true, Bool.not_false] at href
   exact K.fin (V.two (V.cellN jA jS) V.tmp) ⟨by first | (rw [href]; done) | (rw [href]; rfl), rfl⟩
  refine zz45 ?_;refine zz260 ?_
  refine W.cond (fun ht259 => ?_) (fun ht259 => ?_)
  ·refine zz64 ?_
   simp only [ht23, ht29, ht55, ht78, ht132, ht186, ht198, ht209, ht213, ht223, ht237, ht248, ht259, ↓reduceIte, Bool.false_eq_true, Bool.not_true, Bool.not_false] at href
   exact K.fin (V.two (V.cellN jA jS) V.tmp) ⟨by first | (rw [href]; done) | (rw [href]; rfl), rfl⟩
  refine zz45 ?_;refine zz14 ?_;refine zz255 ?_
  refine W.cond (fun ht263 => ?_) (fun ht263 => ?_)
  ·refine zz94 ?_;refine R.slen jU ?_;refine zz245 ?_
   simp only [ht23, ht29, ht55, ht78, ht132, ht186, ht198, ht209, ht213, ht223, ht237, ht248, ht259, ht263, ↓reduceIte, Bool.false_eq_true, Bool.not_true, Bool.not_false] at href
   exact K.fin (V.two (V.cellN jA jS) V.tmp) ⟨by first | (rw [href]; done) | (rw [href]; rfl), rfl⟩
  refine zz261 ?_
  refine W.cond (fun ht269 => ?_) (fun ht269 => ?_)
  ·refine zz94 ?_
   refine R.call Tryz.call44 (c44 (evalE c l (x.kids.getD 0 nullX)).1.s (by have := fa.len; omega) _) ?_
   refine zz302 ?_;refine zz264 ?_
   refine W.cond (fun ht278 => ?_) (fun ht278 => ?_)
   ·refine zz230 ?_;refine zz5 ?_
    simp only [ht23, ht29, ht55, ht78, ht132, ht186, ht198, ht209, ht213, ht223, ht237, ht248, ht259, ht263, ht269, ht278, ↓reduceIte, Bool.false_eq_true, Bool.not_true, Bool.not_false] at href
    exact K.fin (V.two (V.cellN jA jS) V.tmp) ⟨by first | (rw [href]; done) | (rw [href]; rfl), rfl⟩
   refine zz139 ?_;refine zz245 ?_
   simp only [ht23, ht29, ht55, ht78, ht132, ht186, ht198, ht209, ht213, ht223, ht237, ht248, ht259, ht263, ht269, ht278, ↓reduceIte, Bool.false_eq_true, Bool.not_true, Bool.not_false] at href
   exact K.fin (V.two (V.cellN jA jS) V.tmp) ⟨by first | (rw [href]; done) | (rw [href]; rfl), rfl⟩
  refine zz28 ?_;refine zz256 ?_
  refine W.cond (fun ht285 => ?_) (fun ht285 => ?_)
  ·refine zz64 ?_
   simp only [ht23, ht29, ht55, ht78, ht132, ht186, ht198, ht209, ht213, ht223, ht237, ht248, ht259, ht263, ht269, ht285, ↓reduceIte, Bool.false_eq_true, Bool.not_true, Bool.not_false] at href
   exact K.fin (V.two (V.cellN jA jS) V.tmp) ⟨by first | (rw [href]; done) | (rw [href]; rfl), rfl⟩
  refine zz195 ?_;refine R.slen jU ?_;refine zz246 ?_;refine zz11 ?_;refine zz25 ?_;refine R.move ?_;refine R.lss ?_;refine R.fin [3, 6, 10, 16, 21, 293] ?_
  refine W.cond (fun ht293 => ?_) (fun ht293 => ?_)
  ·obtain ⟨m1, hm1⟩ : ∃ m1 : Int, m1 = (evalE c l (x.kids.getD 1 nullX)).1.n := ⟨_, rfl⟩
   refine AW.region ?_;refine zz25 ?_;refine zz246 ?_;refine zz207 ?_;refine zz25 ?_;refine zz265 ?_
   refine W.cond (fun ht298 => ?_) (fun ht298 => ?_)
   ·obtain ⟨n0, hI0⟩ : ∃ n0 : Nat, n0 = 0 := ⟨_, rfl⟩
    have hcl : clampI (evalE c l (x.kids.getD 1 nullX)).1.n (((evalE c l (x.kids.getD 0 nullX)).1.s.length : Nat) : Int) = ((n0 : Nat) : Int) := by rw [hI0]; exact clamp_1 ht298
    have hI : ((n0 : Nat) : Int) = 0 := by omega
    have hn0l : n0 ≤ (evalE c l (x.kids.getD 0 nullX)).1.s.length := by omega
    refine zz292 ?_;refine zz207 ?_
    refine R.wk 21 (intA (n0 : Nat)) (by first | (rw [hI, hm1]; exact Le.refl _) | (rw [hI]; exact Le.refl _)) ?_
    refine zz134 ?_
    refine W.cond (fun ht301 => ?_) (fun ht301 => ?_)
    ·refine zz221 ?_
     simp only [ht23, ht29, ht55, ht78, ht132, ht186, ht198, ht209, ht213, ht223, ht237, ht248, ht259, ht263, ht269, ht285, ht293, ht298, ht301, ↓reduceIte, Bool.false_eq_true, Bool.not_true, Bool.not_false, refP, leftT, Bool.false_and, hcl, Int.toNat_natCast] at href
     exact K.fin (V.two (V.cellN jA jS) V.tmp) ⟨by first | (rw [href]; done) | (rw [href]; rfl), rfl⟩
    refine zz232 ?_
    refine R.sub64 (h1 := by omega) (h2 := by have := fa.len; omega) ?_
    rw [show (((evalE c l (x.kids.getD 0 nullX)).1.s.length : Int) - (n0 : Int)) = (((evalE c l (x.kids.getD 0 nullX)).1.s.length - n0 : Nat) : Int) by omega]
    refine zz259 ?_
    simp only [ht23, ht29, ht55, ht78, ht132, ht186, ht198, ht209, ht213, ht223, ht237, ht248, ht259, ht263, ht269, ht285, ht293, ht298, ht301, ↓reduceIte, Bool.false_eq_true, Bool.not_true, Bool.not_false, refP, leftT, Bool.false_and, hcl, Int.toNat_natCast] at href
    exact K.fin (V.two (V.cellN jA jS) V.tmp) ⟨by first | (rw [href]; done) | (rw [href]; rfl), rfl⟩
   obtain ⟨n0, hI⟩ : ∃ n0 : Nat, (n0 : Int) = m1 := ⟨m1.toNat, by have := of_decide_eq_false ht298; omega⟩
   have hcl : clampI (evalE c l (x.kids.getD 1 nullX)).1.n (((evalE c l (x.kids.getD 0 nullX)).1.s.length : Nat) : Int) = ((n0 : Nat) : Int) := by rw [hI, hm1]; first | exact clamp_2 ht298 ht293 | exact clamp_3 ht298 ht293
   have hn0l : n0 ≤ (evalE c l (x.kids.getD 0 nullX)).1.s.length := by first | (have := of_decide_eq_true ht293; omega) | (have := of_decide_eq_false ht293; omega)
   refine zz45 ?_
   refine R.wk 21 (intA (n0 : Nat)) (by first | (rw [hI, hm1]; exact Le.refl _) | (rw [hI]; exact Le.refl _)) ?_
   refine zz134 ?_
   refine W.cond (fun ht301 => ?_) (fun ht301 => ?_)
   ·refine zz221 ?_
    simp only [ht23, ht29, ht55, ht78, ht132, ht186, ht198, ht209, ht213, ht223, ht237, ht248, ht259, ht263, ht269, ht285, ht293, ht298, ht301, ↓reduceIte, Bool.false_eq_true, Bool.not_true, Bool.not_false, refP, leftT, Bool.false_and, hcl, Int.toNat_natCast] at href
    exact K.fin (V.two (V.cellN jA jS) V.tmp) ⟨by first | (rw [href]; done) | (rw [href]; rfl), rfl⟩
   refine zz232 ?_
   refine R.sub64 (h1 := by omega) (h2 := by have := fa.len; omega) ?_
   rw [show (((evalE c l (x.kids.getD 0 nullX)).1.s.length : Int) - (n0 : Int)) = (((evalE c l (x.kids.getD 0 nullX)).1.s.length - n0 : Nat) : Int) by omega]
   refine zz259 ?_
   simp only [ht23, ht29, ht55, ht78, ht132, ht186, ht198, ht209, ht213, ht223, ht237, ht248, ht259, ht263, ht269, ht285, ht293, ht298, ht301, ↓reduceIte, Bool.false_eq_true, Bool.not_true, Bool.not_false, refP, leftT, Bool.false_and, hcl, Int.toNat_natCast] at href
   exact K.fin (V.two (V.cellN jA jS) V.tmp) ⟨by first | (rw [href]; done) | (rw [href]; rfl), rfl⟩
  obtain ⟨m1, hm1⟩ : ∃ m1 : Int, m1 = (((evalE c l (x.kids.getD 0 nullX)).1.s.length : Nat) : Int) := ⟨_, rfl⟩
  refine zz45 ?_;refine zz25 ?_;refine zz265 ?_
  refine W.cond (fun ht298 => ?_) (fun ht298 => ?_)
  ·obtain ⟨n0, hI0⟩ : ∃ n0 : Nat, n0 = 0 := ⟨_, rfl⟩
   have hcl : clampI (evalE c l (x.kids.getD 1 nullX)).1.n (((evalE c l (x.kids.getD 0 nullX)).1.s.length : Nat) : Int) = ((n0 : Nat) : Int) := by rw [hI0]; exact clamp_1 ht298
   have hI : ((n0 : Nat) : Int) = 0 := by omega
   have hn0l : n0 ≤ (evalE c l (x.kids.getD 0 nullX)).1.s.length := by omega
   refine zz292 ?_;refine zz207 ?_
   refine R.wk 21 (intA (n0 : Nat)) (by first | (rw [hI, hm1]; exact Le.refl _) | (rw [hI]; exact Le.refl _)) ?_
   refine zz134 ?_
   refine W.cond (fun ht301 => ?_) (fun ht301 => ?_)
   ·refine zz221 ?_
    simp only [ht23, ht29, ht55, ht78, ht132, ht186, ht198, ht209, ht213, ht223, ht237, ht248, ht259, ht263, ht269, ht285, ht293, ht298, ht301, ↓reduceIte, Bool.false_eq_true, Bool.not_true, Bool.not_false, refP, leftT, Bool.false_and, hcl, Int.toNat_natCast] at href
    exact K.fin (V.two (V.cellN jA jS) V.tmp) ⟨by first | (rw [href]; done) | (rw [href]; rfl), rfl⟩
   refine zz232 ?_
   refine R.sub64 (h1 := by omega) (h2 := by have := fa.len; omega) ?_
   rw [show (((evalE c l (x.kids.getD 0 nullX)).1.s.length : Int) - (n0 : Int)) = (((evalE c l (x.kids.getD 0 nullX)).1.s.length - n0 : Nat) : Int) by omega]
   refine zz259 ?_
   simp only [ht23, ht29, ht55, ht78, ht132, ht186, ht198, ht209, ht213, ht223, ht237, ht248, ht259, ht263, ht269, ht285, ht293, ht298, ht301, ↓reduceIte, Bool.false_eq_true, Bool.not_true, Bool.not_false, refP, leftT, Bool.false_and, hcl, Int.toNat_natCast] at href
   exact K.fin (V.two (V.cellN jA jS) V.tmp) ⟨by first | (rw [href]; done) | (rw [href]; rfl), rfl⟩
  obtain ⟨n0, hI⟩ : ∃ n0 : Nat, (n0 : Int) = m1 := ⟨m1.toNat, by have := of_decide_eq_false ht298; omega⟩
  have hcl : clampI (evalE c l (x.kids.getD 1 nullX)).1.n (((evalE c l (x.kids.getD 0 nullX)).1.s.length : Nat) : Int) = ((n0 : Nat) : Int) := by rw [hI, hm1]; first | exact clamp_2 ht298 ht293 | exact clamp_3 ht298 ht293
  have hn0l : n0 ≤ (evalE c l (x.kids.getD 0 nullX)).1.s.length := by first | (have := of_decide_eq_true ht293; omega) | (have := of_decide_eq_false ht293; omega)
  refine zz45 ?_
  refine R.wk 21 (intA (n0 : Nat)) (by first | (rw [hI, hm1]; exact Le.refl _) | (rw [hI]; exact Le.refl _)) ?_
  refine zz134 ?_
  refine W.cond (fun ht301 => ?_) (fun ht301 => ?_)
  ·refine zz221 ?_
   simp only [ht23, ht29, ht55, ht78, ht132, ht186, ht198, ht209, ht213, ht223, ht237, ht248, ht259, ht263, ht269, ht285, ht293, ht298, ht301, ↓reduceIte, Bool.false_eq_true, Bool.not_true, Bool.not_false, refP, leftT, Bool.false_and, hcl, Int.toNat_natCast] at href
   exact K.fin (V.two (V.cellN jA jS) V.tmp) ⟨by first | (rw [href]; done) | (rw [href]; rfl), rfl⟩
  refine zz232 ?_
  refine R.sub64 (h1 := by omega) (h2 := by have := fa.len; omega) ?_
  rw [show (((evalE c l (x.kids.getD 0 nullX)).1.s.length : Int) - (n0 : Int)) = (((evalE c l (x.kids.getD 0 nullX)).1.s.length - n0 : Nat) : Int) by omega]
  refine zz259 ?_
  simp only [ht23, ht29, ht55, ht78, ht132, ht186, ht198, ht209, ht213, ht223, ht237, ht248, ht259, ht263, ht269, ht285, ht293, ht298, ht301, ↓reduceIte, Bool.false_eq_true, Bool.not_true, Bool.not_false, refP, leftT, Bool.false_and, hcl, Int.toNat_natCast] at href
  exact K.fin (V.two (V.cellN jA jS) V.tmp) ⟨by first | (rw [href]; done) | (rw [href]; rfl), rfl⟩
 rw [List.length_map] at ht186
 refine zz45 ?_;refine zz276 ?_;refine zz250 ?_
 refine W.cond (fun ht209 => ?_) (fun ht209 => ?_)
 ·refine zz64 ?_
  simp only [ht23, ht29, ht55, ht78, ht132, ht186, ht209, ↓reduceIte, Bool.false_eq_true, Bool.not_true, Bool.not_false] at href
  exact K.fin (V.two (V.cellN jA jS) V.tmp) ⟨by first | (rw [href]; done) | (rw [href]; rfl), rfl⟩
 refine zz251 ?_
 refine W.cond (fun ht213 => ?_) (fun ht213 => ?_)
 ·exact absurd (k5 (eq_of_beq ht213)) (by simp at ht186; omega)
 refine zz252 ?_
 refine W.cond (fun ht223 => ?_) (fun ht223 => ?_)
 ·refine zz295 ?_
  refine W.cond (fun ht226 => ?_) (fun ht226 => ?_)
  ·refine zz117 ?_
   simp only [ht23, ht29, ht55, ht78, ht132, ht186, ht209, ht213, ht223, ht226, ↓reduceIte, Bool.false_eq_true, Bool.not_true, Bool.not_false] at href
   exact K.fin (V.two (V.cellN jA jS) V.tmp) ⟨by first | (rw [href]; done) | (rw [href]; rfl), rfl⟩
  refine zz165 ?_;refine zz166 ?_;refine zz294 ?_
  simp only [ht23, ht29, ht55, ht78, ht132, ht186, ht209, ht213, ht223, ht226, ↓reduceIte, Bool.false_eq_true, Bool.not_true, Bool.not_false] at href
  exact K.fin (V.two (V.cellN jA jS) V.tmp) ⟨by first | (rw [href]; done) | (rw [href]; rfl), rfl⟩
 refine zz253 ?_
 refine W.cond (fun ht237 => ?_) (fun ht237 => ?_)
 ·refine zz296 ?_
  refine W.cond (fun ht240 => ?_) (fun ht240 => ?_)
  ·refine zz117 ?_
   simp only [ht23, ht29, ht55, ht78, ht132, ht186, ht209, ht213, ht223, ht237, ht240, ↓reduceIte, Bool.false_eq_true, Bool.not_true, Bool.not_false] at href
   exact K.fin (V.two (V.cellN jA jS) V.tmp) ⟨by first | (rw [href]; done) | (rw [href]; rfl), rfl⟩
  refine zz165 ?_;refine R.eql ?_;refine zz160 ?_
  simp only [ht23, ht29, ht55, ht78, ht132, ht186, ht209, ht213, ht223, ht237, ht240, ↓reduceIte, Bool.false_eq_true, Bool.not_true, Bool.not_false] at href
  exact K.fin (V.two (V.cellN jA jS) V.tmp) ⟨by first | (rw [href]; done) | (rw [href]; rfl), rfl⟩
 refine zz45 ?_;refine zz254 ?_
 refine W.cond (fun ht248 => ?_) (fun ht248 => ?_)
 ·refine zz297 ?_
  refine W.cond (fun ht251 => ?_) (fun ht251 => ?_)
  ·refine zz117 ?_
   simp only [ht23, ht29, ht55, ht78, ht132, ht186, ht209, ht213, ht223, ht237, ht248, ht251, ↓reduceIte, Bool.false_eq_true, Bool.not_true, Bool.not_false] at href
   exact K.fin (V.two (V.cellN jA jS) V.tmp) ⟨by first | (rw [href]; done) | (rw [href]; rfl), rfl⟩
  refine zz165 ?_;refine zz126 ?_
  simp only [ht23, ht29, ht55, ht78, ht132, ht186, ht209, ht213, ht223, ht237, ht248, ht251, ↓reduceIte, Bool.false_eq_true, Bool.not_true, Bool.not_false] at href
  exact K.fin (V.two (V.cellN jA jS) V.tmp) ⟨by first | (rw [href]; done) | (rw [href]; rfl), rfl⟩
 refine zz45 ?_;refine zz260 ?_
 refine W.cond (fun ht259 => ?_) (fun ht259 => ?_)
 ·refine zz64 ?_
  simp only [ht23, ht29, ht55, ht78, ht132, ht186, ht209, ht213, ht223, ht237, ht248, ht259, ↓reduceIte, Bool.false_eq_true, Bool.not_true, Bool.not_false] at href
  exact K.fin (V.two (V.cellN jA jS) V.tmp) ⟨by first | (rw [href]; done) | (rw [href]; rfl), rfl⟩
 refine zz45 ?_;refine zz14 ?_;refine zz255 ?_
 refine W.cond (fun ht263 => ?_) (fun ht263 => ?_)
 ·refine zz94 ?_;refine R.slen jU ?_;refine zz245 ?_
  simp only [ht23, ht29, ht55, ht78, ht132, ht186, ht209, ht213, ht223, ht237, ht248, ht259, ht263, ↓reduceIte, Bool.false_eq_true, Bool.not_true, Bool.not_false] at href
  exact K.fin (V.two (V.cellN jA jS) V.tmp) ⟨by first | (rw [href]; done) | (rw [href]; rfl), rfl⟩
 refine zz261 ?_
 refine W.cond (fun ht269 => ?_) (fun ht269 => ?_)
 ·refine zz94 ?_
  refine R.call Tryz.call44 (c44 (evalE c l (x.kids.getD 0 nullX)).1.s (by have := fa.len; omega) _) ?_
  refine zz302 ?_;refine zz264 ?_
  refine W.cond (fun ht278 => ?_) (fun ht278 => ?_)
  ·refine zz230 ?_;refine zz5 ?_
   simp only [ht23, ht29, ht55, ht78, ht132, ht186, ht209, ht213, ht223, ht237, ht248, ht259, ht263, ht269, ht278, ↓reduceIte, Bool.false_eq_true, Bool.not_true, Bool.not_false] at href
   exact K.fin (V.two (V.cellN jA jS) V.tmp) ⟨by first | (rw [href]; done) | (rw [href]; rfl), rfl⟩
  refine zz139 ?_;refine zz245 ?_
  simp only [ht23, ht29, ht55, ht78, ht132, ht186, ht209, ht213, ht223, ht237, ht248, ht259, ht263, ht269, ht278, ↓reduceIte, Bool.false_eq_true, Bool.not_true, Bool.not_false] at href
  exact K.fin (V.two (V.cellN jA jS) V.tmp) ⟨by first | (rw [href]; done) | (rw [href]; rfl), rfl⟩
 refine zz28 ?_;refine zz256 ?_
 refine W.cond (fun ht285 => ?_) (fun ht285 => ?_)
 ·refine zz64 ?_
  simp only [ht23, ht29, ht55, ht78, ht132, ht186, ht209, ht213, ht223, ht237, ht248, ht259, ht263, ht269, ht285, ↓reduceIte, Bool.false_eq_true, Bool.not_true, Bool.not_false] at href
  exact K.fin (V.two (V.cellN jA jS) V.tmp) ⟨by first | (rw [href]; done) | (rw [href]; rfl), rfl⟩
 exact absurd ht285 (by decide)

end Go.SX.Nb

namespace Go.SX.Nb
open Go Go.SX Go.Proofs
variable [ErrAt]
set_option maxRecDepth 4000
/-- eval.Holds, behind Eval. -/
def holdE (r : Rs) : Int := if (((r.2 == 0) && (r.1.kind != 0)) && (r.1.kind != 3)) = true then 10 else r.2
def holdB (r : Rs) : Bool := (holdE r == 0) && (((r.1.kind == 3) && (r.1.n == 1)) && (r.1.s == []))
structure RowAtT (c : List Col) (l : List Val) (k : Nat) : Prop where
 le : k ≤ l.length
 ok : ∀ (i : Nat) (v : Val) (y : Col), i < k → l[i]? = some v → c[i]? = some y → plainM v = true ∧ (v.kind = 0 ∨ v.kind = y.kind)
theorem row_no {c : List Col} {l : List Val} (h : ((!(colsM c)) || (((l.length : Nat) : Int) != ((c.length : Nat) : Int))) = true) : rowP c l = false := by
 cases hr : rowP c l with
 | false => rfl
 | true =>
  obtain ⟨h1, h2, _⟩ := row_iff.1 hr
  rw [h1, h2] at h
  simp at h
theorem row_bad {c : List Col} {l : List Val} {k : Nat} (hl : k < l.length) (hc : k < c.length) (h : ((!(plainM l[k])) || ((l[k].kind != 0) && (l[k].kind != c[k].kind))) = true) : rowP c l = false := by
 cases hr : rowP c l with
 | false => rfl
 | true =>
  obtain ⟨_, _, h3⟩ := row_iff.1 hr
  obtain ⟨h4, h5⟩ := h3 k _ _ (List.getElem?_eq_getElem hl) (List.getElem?_eq_getElem hc)
  rw [h4] at h
  rcases h5 with h5 | h5 <;> simp [h5] at h
theorem c12 (c : List Col) (hc : OkCols c) (l : List Val) (hll : l.length ≤ 1048576) (Hp : List AObj) : AFun Tryz.prog 12 [colsA c, valsA l] Hp (boolA (rowP c l)) := by
 refine ACall.body [.tmp 4] [0, 1] Tryz.func12 Tryz.ntmps12 (fun d => ?_)
 refine zz129 ?_;refine zz15 ?_;refine R.call Tryz.call31 (c31 c hc _) ?_;refine zz348 ?_;refine G.len jU ?_;refine G.move ?_;refine G.len jU ?_;refine zz170 ?_;refine R.fin [0, 1, 15] ?_
 refine W.cond (fun ht15 => ?_) (fun ht15 => ?_)
 ·simp only [List.length_map] at ht15
  have hm := row_no ht15
  exact zz224
 simp only [List.length_map] at ht15
 have hcl : colsM c = true ∧ l.length = c.length := by simp only [Bool.or_eq_false_iff, Bool.not_eq_false', bne_eq_false_iff_eq] at ht15; exact ⟨ht15.1, by have := ht15.2; omega⟩
 refine zz374 ?_;refine R.fin [0, 1, 5] ?_
 refine AW.loopC (α := Nat) (fun k => ⟨49, setF 0 (colsA c) (setF 1 (valsA l) (setF 5 (intA (k : Nat)) (fun _ => .any))), Hp, [], [], none⟩) (fun k => RowAtT c l k) (fun k => l.length - k) (0) ⟨Nat.zero_le _, fun i v y hi => by omega⟩ (StLe.of_eq rfl) rfl (fun k hx => ?_)
 refine zz268 ?_;refine R.fin [0, 1, 5, 19] ?_
 refine W.cond (fun ht19 => ?_) (fun ht19 => ?_)
 ·have hlt : k < l.length := by simp at ht19; omega
  have hltc : k < c.length := by omega
  refine zz93 ?_;refine W.draw [0, 0, 3, 7, 15, 31, 63, 127, 127, 511, 1023, 2047, 4095, 8191, 16383, 16383, 65535, 131071, 262143, 16383, 16383, 1589247, 3686399, 7880703, 16777215, 33554431, 67108863] 24 Tryzmixed (by kernel_rfl) ?_;refine zz304 ?_;refine D.indexAddr (k) (valA l[k]) jU jS (getMap hlt) ?_;refine D.loadRoN jA jS ?_;refine D.call Tryz.call32 (c32 l[k] _) ?_;refine D.not ?_;refine D.move ?_;refine H.move ?_;refine H.move ?_;refine zz308 ?_;refine H.loadRo jA ?_;refine H.neq ?_;refine H.move ?_;refine H.move ?_;refine H.move ?_;refine zz308 ?_;refine H.loadRo jA ?_;refine H.move ?_;refine H.move ?_;refine H.indexAddr (k) (colA c[k]) jU jS (fun _ => getMap hltc) ?_;refine H.fieldAddrRo (off := 1) jU Tryz.sizeOf3 ?_;refine H.loadRo jA ?_;refine D.tail ?_;refine G.neq ?_;refine zz244 ?_;refine R.fin [0, 1, 5, 48] ?_
  refine W.cond (fun ht48 => ?_) (fun ht48 => ?_)
  ·have hm := row_bad hlt hltc ht48
   refine zz113 ?_;exact zz300
  refine zz176 ?_;refine R.fin [0, 1, 5] ?_
  refine K.lpN (k + 1) ⟨hlt, fun i v y hi hv hy => ?_⟩ (by omega) (StCut.of_eq rfl)
  rcases Nat.lt_or_ge i k with h | h
  ·exact hx.ok i v y h hv hy
  have e : i = k := by omega
  subst e
  rw [List.getElem?_eq_getElem hlt] at hv
  rw [List.getElem?_eq_getElem hltc] at hy
  injection hv with hv
  injection hy with hy
  subst hv
  subst hy
  simp only [Bool.or_eq_false_iff, Bool.not_eq_false', Bool.and_eq_false_iff, bne_eq_false_iff_eq] at ht48
  exact ht48
 have hke : k = l.length := by have := hx.le; simp at ht19; omega
 have hm : rowP c l = true := row_iff.2 ⟨hcl.1, hcl.2, fun i v y hv hy => hx.ok i v y (by have := (List.getElem?_eq_some_iff.1 hv).1; omega) hv hy⟩
 refine zz98 ?_;exact zz138

theorem c11 (n : Nat) (x : Expr) (hok : okE n x) (hn : n ≤ 1048576) (hrg : allE rngN x = true) (c : List Col) (hc : OkCols c) (l : List Val) (hll : l.length ≤ 1048576) (hlr : ∀ v ∈ l, -9223372036854775808 ≤ v.n ∧ v.n ≤ 9223372036854775807) (Hp : List AObj) : AFun Tryz.prog 11 [exprA x, colsA c, valsA l] Hp (.tup [boolA (holdB (evalM x c l)), intA (holdE (evalM x c l))]) := by
 refine ACall.body [.tmp 6, .tmp 7] [0, 1, 2] Tryz.func11 Tryz.ntmps11 (fun d => ?_)
 refine zz37 ?_;refine zz22 ?_;refine R.fin [1, 2, 3] ?_;refine zz70 ?_;refine zz52 ?_;refine R.call Tryz.call10 (c10 n x hok hn hrg c hc l hll hlr _) ?_;refine zz110 ?_;refine R.fin [8, 9] ?_;refine zz15 ?_;refine zz73 ?_;refine zz32 ?_;refine G.neq ?_;refine zz88 ?_;refine zz32 ?_;refine zz286 ?_;refine R.fin [8, 9, 28] ?_
 refine W.cond (fun ht28 => ?_) (fun ht28 => ?_)
 ·have hm : holdE (evalM x c l) = 10 := if_pos ht28
  refine zz174 ?_;refine R.fin [8, 9] ?_;refine K.thN ?_;refine zz352 ?_;refine D.eql ?_;refine D.move ?_;refine H.loadOwnN jA jS ?_;refine zz219 ?_;refine D.pickAnd ?_;refine D.move ?_;refine zz356 ?_;exact zz279
 have hm : holdE (evalM x c l) = (evalM x c l).2 := if_neg (by rw [ht28]; simp)
 refine zz3 ?_;refine zz352 ?_;refine D.eql ?_;refine D.move ?_;refine H.loadOwnN jA jS ?_;refine zz219 ?_;refine D.pickAnd ?_;refine D.move ?_;refine zz356 ?_;exact zz279

end Go.SX.Nb
namespace Go.SX.Nb
open Go Go.SX Go.Proofs
variable [ErrAt]
set_option maxRecDepth 4000
theorem bool_s {v : Val} (h : plainM v = true) : (((v.kind == 3) && (v.n == 1)) && (v.s == [])) = ((v.kind == 3) && (v.n == 1)) := by
 by_cases h3 : v.kind = 3
 ·rcases kind3_bool h h3 with rfl | rfl <;> rfl
 have : (v.kind == 3) = false := by simpa using h3
 rw [this]
 rfl
theorem ev_not {x : Expr} {c : List Col} {l : List Val} (h : ((!(rowP c l)) || (!(refRightM x))) = true) : evalM x c l = (noV, 1) := by
 unfold evalM evalR
 rw [exprRight_eq]
 rw [if_pos (by rw [Bool.or_comm]; exact h)]
 rfl
theorem ev_yes {x : Expr} {c : List Col} {l : List Val} (h : ((!(rowP c l)) || (!(refRightM x))) = false) : rowP c l = true ∧ exprRightM x = true ∧ evalM x c l = evalE c l x := by
 simp only [Bool.or_eq_false_iff, Bool.not_eq_false'] at h
 have h2 := h.2
 rw [← exprRight_eq] at h2
 exact ⟨h.1, h2, eval_of h2 h.1⟩
theorem c3 (x : Expr) (gx : allE rngN x = true) (c : List Col) (l : List Val) (hlr : ∀ v ∈ l, -9223372036854775808 ≤ v.n ∧ v.n ≤ 9223372036854775807) (Hp : List AObj) : AFun Tryz.prog 3 [exprA x, colsA c, valsA l] Hp (boolA true) := by
 refine ACall.body [.tmp 6] [0, 1, 2] Tryz.func3 Tryz.ntmps3 (fun d => ?_)
 refine zz375 ?_;refine R.fin [1, 2, 3] ?_;refine zz11 ?_;refine R.call Tryz.call6 (c6 _) ?_;refine R.not ?_;refine R.fin [1, 2, 3, 16] ?_
 refine W.cond (fun ht16 => ?_) (fun ht16 => ?_)
 ·cases ht16
 refine zz45 ?_;refine R.loadRoN jA jS ?_;refine R.call Tryz.call7 (c7 x _) ?_;refine zz18 ?_;refine G.call Tryz.call8 (fun hB => c21u c _) ?_;refine R.pickOr ?_;refine zz18 ?_;refine G.call Tryz.call9 (fun hB => c9 l _) ?_;refine R.pickOr ?_;refine R.fin [1, 2, 3, 26] ?_
 refine W.cond (fun ht26 => ?_) (fun ht26 => ?_)
 ·refine zz2 ?_;refine zz96 ?_;refine K.thR ?_;exact K.fin (V.one V.tmp)
 simp only [Bool.or_eq_false_iff] at ht26
 obtain ⟨⟨hwx, hmc⟩, hlg⟩ := ht26
 have hs := slim_of hwx
 have hc := many_ok hmc
 have hl1 := long_len hlg
 have hz : sizeE x ≤ 1048576 := by have := hs.size; omega
 refine zz200 ?_;refine zz52 ?_;refine zz376 ?_;refine R.fin [1, 2, 3, 7, 8] ?_;refine zz70 ?_;refine zz52 ?_;refine R.call Tryz.call11 (c11 61 x hs.ok (by decide) gx c hc l hl1 hlr _) ?_;refine zz236 ?_;refine R.fin [1, 2, 3, 7, 8, 9, 10] ?_;refine zz43 ?_;refine R.call Tryz.call12 (c12 c hc l hl1 _) ?_;refine R.assign ?_;refine R.fin [1, 2, 3, 7, 8, 9, 10, 11] ?_;refine zz87 ?_;refine R.call Tryz.call13 (c13 c hc l hl1 _) ?_;refine R.move ?_;refine R.bneq jU ?_;refine R.fin [1, 2, 3, 7, 8, 9, 10, 11, 48] ?_
 refine W.cond (fun ht48 => ?_) (fun ht48 => ?_)
 ·simp at ht48
 refine zz270 ?_;refine R.not ?_;refine R.move ?_;refine G.loadRoN jA jS ?_;refine G.call Tryz.call14 (fun hB => c14 61 x hs.ok (by decide) hz _) ?_;refine zz357 ?_;refine R.fin [1, 2, 3, 7, 8, 9, 10, 55] ?_
 refine W.cond (fun ht55 => ?_) (fun ht55 => ?_)
 ·have hm := ev_not ht55
  refine zz363 ?_;refine R.eqlAgg eg23 (fun w => equal23 (evalM x c l).1.kind (evalM x c l).1.n 0 0 (evalM x c l).1.s [] w) ?_;refine zz18 ?_;refine G.eql ?_;refine zz137 ?_;refine G.not ?_;refine zz137 ?_;refine zz97 ?_;refine zz96 ?_;refine K.thR ?_;exact K.fin (V.one V.tmp) ⟨by rw [hm]; rfl, rfl⟩
 have hyes := ev_yes ht55
 have hlc : l.length = c.length := (row_iff.1 hyes.1).2.1
 have hfine := row_fine hyes.1 hlr
 have hnode := rightE_node hyes.2.1
 have hfr : Fine (evalE c l x).1 := fine_eval hfine x (val_all x hnode) gx
 refine zz200 ?_;refine zz52 ?_;refine R.call Tryz.call15 (c15 c l hc hlc hfine 61 x hs.ok hnode gx _) ?_;refine zz110 ?_;refine R.fin [7, 8, 9, 10, 12, 13] ?_;refine AW.seqR ?_
 rw [hyes.2.2]
 generalize evalE c l x = r at hfr ⊢
 refine R.move ?_;refine R.assign ?_;refine R.fin [7, 8, 9, 10, 12, 13, 14] ?_;refine zz15 ?_;refine zz73 ?_;refine zz32 ?_;refine G.neq ?_;refine zz88 ?_;refine zz32 ?_;refine zz286 ?_;refine R.fin [7, 8, 9, 10, 12, 13, 14, 90] ?_
 refine W.cond (fun ht90 => ?_) (fun ht90 => ?_)
 ·have hE : holdE r = 10 := if_pos ht90
  refine zz174 ?_;refine R.fin [7, 8, 9, 10, 12, 13, 14] ?_;refine K.thN ?_;refine zz8 ?_;refine zz316 ?_;refine zz77 ?_;refine zz237 ?_;refine zz77 ?_;refine zz237 ?_;refine zz77 ?_;refine G.eql ?_;refine G.move ?_;refine zz169 ?_;refine G.pickAnd ?_;refine G.move ?_;refine zz101 ?_;refine G.eql ?_;refine G.pickAnd ?_;refine G.beql jU ?_;refine zz31 ?_;exact zz225
 have hE : holdE r = r.2 := if_neg (by rw [ht90]; simp)
 refine zz284 ?_;refine zz316 ?_;refine zz77 ?_;refine zz237 ?_;refine zz77 ?_;refine zz237 ?_;refine zz77 ?_;refine G.eql ?_;refine G.move ?_;refine zz169 ?_;refine G.pickAnd ?_;refine G.move ?_;refine zz101 ?_;refine G.eql ?_;refine G.pickAnd ?_;refine G.beql jU ?_;refine zz31 ?_;exact zz225

end Go.SX.Nb
