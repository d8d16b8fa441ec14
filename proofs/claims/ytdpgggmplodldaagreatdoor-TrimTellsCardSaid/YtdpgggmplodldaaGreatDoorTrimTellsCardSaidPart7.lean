/- Texts on the way to this: TrimTells answers true for whatever it is handed: of any tree the trimmed one, its value, and how many nodes it saves, are what the reference says; trimmed again it stays, and it names no other columns. (part 7) -/
import Derived.Lib.ItoaLen
import Derived.Test.YtdpgggmplodldaaGreatDoorTrimTellsCardSaidPart6
set_option linter.all false
namespace Go.SX.Nb
open Go Go.SX Go.Proofs
variable [ErrAt]
set_option maxRecDepth 4000
theorem mulE (a b : Int) (a0 : -9223372036854775808 ≤ a) (a1 : a ≤ 9223372036854775807) (b0 : -9223372036854775808 ≤ b) (b1 : b ≤ 9223372036854775807) : a.natAbs * b.natAbs < B32 ^ 5 := by
 have : a.natAbs * b.natAbs ≤ 9223372036854775808 * 9223372036854775808 := Nat.mul_le_mul (by omega) (by omega)
 have h2 : (9223372036854775808 * 9223372036854775808 : Nat) < B32 ^ 5 := by decide
 omega
theorem abs5 {a : Int} (a0 : -9223372036854775808 ≤ a) (a1 : a ≤ 9223372036854775807) : a.natAbs < B32 ^ 5 ∧ a.natAbs < B32 ^ 2 := by
 have h2 : (9223372036854775809 : Nat) ≤ B32 ^ 5 := by decide
 have h3 : (9223372036854775809 : Nat) ≤ B32 ^ 2 := by decide
 omega
section
variable {t : Str} {a b : Val}
theorem bin_join (h3 : (levelM t == 3) = false) (h : (t == [38]) = true) : binM t a b = joinR a b := by rw [bin_rest h3, if_pos h]
theorem bin_wrong (h3 : (levelM t == 3) = false) (h : (t == [38]) = false) (hk : ((a.kind != 1) || (b.kind != 1)) = true) : binM t a b = (noV, 10) := by
 rw [bin_rest h3, if_neg (by rw [h]; simp)]
 have : (!kindsM [a, b] [1, 1]) = true := by
  simp only [kindsM, Bool.and_true]
  simp only [Bool.or_eq_true, bne_iff_ne, ne_eq] at hk
  simp
  exact hk
 rw [if_pos this]
 rfl
theorem bin_arith (h3 : (levelM t == 3) = false) (h : (t == [38]) = false) (hk : ((a.kind != 1) || (b.kind != 1)) = false) : binM t a b = wholeR (arithI t a.n b.n) := by
 rw [bin_rest h3, if_neg (by rw [h]; simp)]
 have : (!kindsM [a, b] [1, 1]) = false := by
  simp only [Bool.or_eq_false_iff, bne_eq_false_iff_eq] at hk
  simp [kindsM, hk.1, hk.2]
 rw [if_neg (by rw [this]; simp)]
theorem join_1 (h : ((a.kind != 2) || (b.kind != 2)) = true) : joinR a b = (noV, 10) := by
 unfold joinR
 have : (!kindsM [a, b] [2, 2]) = true := by
  simp only [kindsM, Bool.and_true]
  simp only [Bool.or_eq_true, bne_iff_ne, ne_eq] at h
  simp
  exact h
 rw [if_pos this]
 rfl
theorem join_2 (h : ((a.kind != 2) || (b.kind != 2)) = false) (h2 : decide ((200 : Int) < (a.s.length : Int) + (b.s.length : Int)) = true) : joinR a b = (noV, 3) := by
 unfold joinR
 have : (!kindsM [a, b] [2, 2]) = false := by
  simp only [Bool.or_eq_false_iff, bne_eq_false_iff_eq] at h
  simp [kindsM, h.1, h.2]
 rw [if_neg (by rw [this]; simp), if_pos h2]
 rfl
theorem join_3 (h : ((a.kind != 2) || (b.kind != 2)) = false) (h2 : decide ((200 : Int) < (a.s.length : Int) + (b.s.length : Int)) = false) : joinR a b = (⟨2, 0, a.s ++ b.s⟩, 0) := by
 unfold joinR
 have : (!kindsM [a, b] [2, 2]) = false := by
  simp only [Bool.or_eq_false_iff, bne_eq_false_iff_eq] at h
  simp [kindsM, h.1, h.2]
 rw [if_neg (by rw [this]; simp), if_neg (by rw [h2]; simp)]
 unfold cutV
 simp only [decide_eq_false_iff_not] at h2
 rw [List.take_of_length_le (by rw [List.length_append]; omega)]
end
theorem arith_0 {t : Str} {a b : Int} (h1 : (t == [43]) = false) (h2 : (t == [45]) = false) (h3 : (t == [42]) = false) (hb : (b == 0) = true) : wholeR (arithI t a b) = (noV, 5) := by
 unfold arithI divI remI
 rw [if_neg (by rw [h1]; simp), if_neg (by rw [h2]; simp), if_neg (by rw [h3]; simp), if_pos hb, if_pos hb]
 split <;> rfl
theorem c39 (t : Str) (a b : Val) (fa : Fine a) (fb : Fine b) (hal : a.s.length ≤ 1048576) (hbl : b.s.length ≤ 1048576) (Hp : List AObj) : AFun Tryz.prog 39 [strA t, valA a, valA b] Hp (resA (binM t a b)) := by
 have ea := abs5 fa.lo fa.hi
 have eb := abs5 fb.lo fb.hi
 refine ACall.body [.cell 6 23, .tmp 7] [0, 1, 2] Tryz.func39 Tryz.ntmps39 (fun d => ?_)
 refine Z165 ?_;refine Z92 ?_;refine R.fin [0, 4, 5, 6] ?_;refine Z14 ?_;refine R.call Tryz.call60 (c60 t _) ?_;refine R.eql ?_;refine R.fin [0, 4, 5, 6, 16] ?_
 refine W.cond (fun ht16 => ?_) (fun ht16 => ?_)
 ·refine Z337 ?_;refine Z8 ?_;refine R.neq ?_;refine R.fin [0, 4, 5, 6, 21] ?_
  refine W.cond (fun ht21 => ?_) (fun ht21 => ?_)
  ·refine Z368 ?_;refine K.thR ?_;exact K.fin (V.two (V.cellN jA jS) V.tmp) ⟨by rw [bin_kind ht16 ht21]; try rfl, rfl⟩
  have hbc := bin_cmp fa.plain fb.plain ht16 ht21
  refine Z2 ?_;refine W.draw [0, 0, 3, 0, 0, 31, 63, 127] 5 Tryzmixed (by kernel_rfl) ?_;refine Z207 ?_;refine D.call Tryz.call61 (c61 a b hal _) ?_;refine Z207 ?_;refine D.tail ?_;refine R.call Tryz.call61 (c61 b a hbl _) ?_;refine Z23 ?_;refine R.fin [0, 6, 8, 9] ?_;refine Z14 ?_;refine R.fin [6, 8, 9, 29] ?_;refine Z206 ?_;refine R.fin [6, 8, 9, 29, 30] ?_
  refine W.cond (fun ht30 => ?_) (fun ht30 => ?_)
  ·refine Z0 ?_;refine R.not ?_;refine Z21 ?_;refine G.not ?_;refine Z398 ?_;refine Z388 ?_;exact K.fin (V.two (V.cellN jA jS) V.tmp) ⟨by rw [hbc]; unfold cmpW; rw [if_pos ht30]; try rfl, rfl⟩
  refine Z41 ?_;refine R.fin [6, 8, 9, 29, 39] ?_
  refine W.cond (fun ht39 => ?_) (fun ht39 => ?_)
  ·refine Z0 ?_;refine Z21 ?_;refine R.pickOr ?_;refine Z388 ?_;exact K.fin (V.two (V.cellN jA jS) V.tmp) ⟨by rw [hbc]; unfold cmpW; rw [if_neg (by rw [ht30]; simp), if_pos ht39]; try rfl, rfl⟩
  refine Z41 ?_;refine R.fin [6, 8, 9, 29, 46] ?_
  refine W.cond (fun ht46 => ?_) (fun ht46 => ?_)
  ·refine Z0 ?_;refine Z388 ?_;exact K.fin (V.two (V.cellN jA jS) V.tmp) ⟨by rw [hbc]; unfold cmpW; rw [if_neg (by rw [ht30]; simp), if_neg (by rw [ht39]; simp), if_pos ht46]; try rfl, rfl⟩
  refine Z41 ?_;refine R.fin [6, 8, 9, 29, 50] ?_
  refine W.cond (fun ht50 => ?_) (fun ht50 => ?_)
  ·refine Z0 ?_;refine R.not ?_;refine Z388 ?_;exact K.fin (V.two (V.cellN jA jS) V.tmp) ⟨by rw [hbc]; unfold cmpW; rw [if_neg (by rw [ht30]; simp), if_neg (by rw [ht39]; simp), if_neg (by rw [ht46]; simp), if_pos ht50]; try rfl, rfl⟩
  refine Z41 ?_;refine R.fin [6, 8, 9, 55] ?_
  refine W.cond (fun ht55 => ?_) (fun ht55 => ?_)
  ·refine Z0 ?_;refine Z388 ?_;exact K.fin (V.two (V.cellN jA jS) V.tmp) ⟨by rw [hbc]; unfold cmpW; rw [if_neg (by rw [ht30]; simp), if_neg (by rw [ht39]; simp), if_neg (by rw [ht46]; simp), if_neg (by rw [ht50]; simp), if_pos ht55]; try rfl, rfl⟩
  refine Z30 ?_;refine Z0 ?_;refine R.not ?_;refine Z167 ?_;exact K.fin (V.two (V.cellN jA jS) V.tmp) ⟨by rw [hbc]; unfold cmpW; rw [if_neg (by rw [ht30]; simp), if_neg (by rw [ht39]; simp), if_neg (by rw [ht46]; simp), if_neg (by rw [ht50]; simp), if_neg (by rw [ht55]; simp)]; try rfl, rfl⟩
 refine Z254 ?_;refine R.seql ?_;refine R.fin [0, 4, 5, 6, 63] ?_
 refine W.cond (fun ht63 => ?_) (fun ht63 => ?_)
 ·refine Z337 ?_;refine R.neq ?_;refine Z405 ?_;refine Z105 ?_;refine Z172 ?_;refine R.fin [4, 5, 6, 71] ?_
  refine W.cond (fun ht71 => ?_) (fun ht71 => ?_)
  ·refine Z368 ?_;refine K.thR ?_;exact K.fin (V.two (V.cellN jA jS) V.tmp) ⟨by rw [bin_join ht16 ht63, join_1 ht71]; try rfl, rfl⟩
  refine Z50 ?_;refine Z58 ?_;refine Z397 ?_;refine Z58 ?_;refine Z397 ?_;refine R.add64 ?_;refine R.gtr ?_;refine R.fin [4, 5, 6, 80] ?_
  refine W.cond (fun ht80 => ?_) (fun ht80 => ?_)
  ·refine Z368 ?_;refine K.thR ?_;exact K.fin (V.two (V.cellN jA jS) V.tmp) ⟨by rw [bin_join ht16 ht63, join_2 ht71 ht80]; try rfl, rfl⟩
  refine Z38 ?_;refine Z58 ?_;refine Z58 ?_;refine R.sadd (hl := by omega) ?_;refine Z132 ?_;exact K.fin (V.two (V.cellN jA jS) V.tmp) ⟨by rw [bin_join ht16 ht63, join_3 ht71 ht80]; try rfl, rfl⟩
 refine Z157 ?_;refine R.neq ?_;refine Z405 ?_;refine Z105 ?_;refine Z172 ?_;refine R.fin [0, 4, 5, 6, 95] ?_
 refine W.cond (fun ht95 => ?_) (fun ht95 => ?_)
 ·refine Z368 ?_;exact K.fin (V.two (V.cellN jA jS) V.tmp) ⟨by rw [bin_wrong ht16 ht63 ht95]; try rfl, rfl⟩
 have hba := bin_arith (a := a) (b := b) ht16 ht63 ht95
 refine Z2 ?_;refine W.drawY [0, 1, 3, 0, 8, 31, 0, 0, 255, 511] [] [.q 6 [] [], .s [10] none [] [], .s [11] none [] [], .s [10] none [] [], .s [11] none [] []] (fun _ => Hp) (fun _ => [.cells 23 [intA 0, intA 0, strA []]]) Tryzmixed (by kernel_rfl) rfl rfl (fun _ => rfl) ?_
 apply Y.q
 case h1 =>
  intro B hT hF
  refine Z104 ?_;refine D.call Tryz.call42 (c42w a.n fa.lo fa.hi _) ?_;refine Z104 ?_;refine D.call Tryz.call42 (c42w b.n fb.lo fb.hi _) ?_;exact Z421
 case hTF => decide
 refine Y.allocP Tryz.zeroValue71 ?_;refine Y.allocP Tryz.zeroValue71 ?_;refine Y.storeP Tryz.sizeOf71 ?_;refine Y.storeP Tryz.sizeOf71 ?_;refine Y.tail (tn := [])  ?_;refine R.fin [0, 4, 5, 6, 10, 11] ?_;refine Z14 ?_;refine R.fin [0, 4, 5, 6, 10, 11, 103] ?_;refine Z206 ?_;refine R.fin [0, 4, 5, 6, 10, 11, 103, 104] ?_
 refine W.cond (fun ht104 => ?_) (fun ht104 => ?_)
 ·refine Z300 ?_;refine R.call Tryz.call62 (c62 (decide (a.n < 0)) a.n.natAbs (decide (b.n < 0)) b.n.natAbs ea.1 eb.1 _) ?_;refine R.call Tryz.call40 (c40 _ _ (add_lt fa.lo fa.hi fb.lo fb.hi) _) ?_;refine Z273 ?_;exact K.fin (V.two (V.cellN jA jS) V.tmp) ⟨by rw [hba, show arithI t a.n b.n = addI a.n b.n from if_pos ht104, num_whole, small_add fa.lo fa.hi fb.lo fb.hi]; try rfl, rfl⟩
 refine Z41 ?_;refine R.fin [0, 4, 5, 6, 10, 11, 103, 112] ?_
 refine W.cond (fun ht112 => ?_) (fun ht112 => ?_)
 ·refine W.draw [0, 0, 2, 7, 15, 31, 31, 127, 255] 7 Tryzmixed (by kernel_rfl) ?_;refine Z207 ?_;refine D.call Tryz.call41 (c41 (decide (b.n < 0)) (dig b.n.natAbs) _) ?_;refine D.call Tryz.call62 (c62 (decide (a.n < 0)) a.n.natAbs (!(decide (b.n < 0))) b.n.natAbs ea.1 eb.1 _) ?_;refine D.call Tryz.call40 (c40 _ _ (add_lt fa.lo fa.hi fb.lo fb.hi) _) ?_;refine Z227 ?_;refine Z146 ?_;exact K.fin (V.two (V.cellN jA jS) V.tmp) ⟨by rw [hba, show arithI t a.n b.n = subI a.n b.n from (by unfold arithI; rw [if_neg (by rw [ht104]; simp), if_pos ht112]), num_whole, small_sub fa.lo fa.hi fb.lo fb.hi]; try rfl, rfl⟩
 refine Z41 ?_;refine R.fin [0, 4, 5, 6, 10, 11, 121] ?_
 refine W.cond (fun ht121 => ?_) (fun ht121 => ?_)
 ·refine Z300 ?_;refine R.call Tryz.call63 (c63 (decide (a.n < 0)) a.n.natAbs (decide (b.n < 0)) b.n.natAbs ea.2 eb.2 _) ?_;refine R.call Tryz.call40 (c40 _ _ (mulE a.n b.n fa.lo fa.hi fb.lo fb.hi) _) ?_;refine Z273 ?_;exact K.fin (V.two (V.cellN jA jS) V.tmp) ⟨by rw [hba, show arithI t a.n b.n = mulI a.n b.n from (by unfold arithI; rw [if_neg (by rw [ht104]; simp), if_neg (by rw [ht112]; simp), if_pos ht121]), num_whole, small_mul fa.lo fa.hi fb.lo fb.hi]; try rfl, rfl⟩
 refine Z30 ?_;refine Z11 ?_;refine Z67 ?_;refine R.eql ?_;refine R.fin [0, 4, 5, 6, 131] ?_
 refine W.cond (fun ht131 => ?_) (fun ht131 => ?_)
 ·refine Z368 ?_;exact K.fin (V.two (V.cellN jA jS) V.tmp) ⟨by rw [hba, arith_0 ht104 ht112 ht121 ht131]; try rfl, rfl⟩
 refine Z38 ?_;refine Z67 ?_;refine Z67 ?_;refine R.call Tryz.call64 (c64 a.n b.n fa.lo fa.hi fb.lo fb.hi (by simpa using ht131) _) ?_;refine Z60 ?_;refine Z333 ?_;refine R.fin [0, 6, 12, 13] ?_;refine Z14 ?_;refine R.seql ?_;refine R.fin [6, 12, 13, 142] ?_
 refine W.cond (fun ht142 => ?_) (fun ht142 => ?_)
 ·refine Z7 ?_;refine R.call Tryz.call40 (c40 _ _ (Nat.lt_of_le_of_lt (Nat.div_le_self _ _) ea.1) _) ?_;refine Z324 ?_;exact K.fin (V.two (V.cellN jA jS) V.tmp) ⟨by rw [hba, show arithI t a.n b.n = divI a.n b.n from (by unfold arithI; rw [if_neg (by rw [ht104]; simp), if_neg (by rw [ht112]; simp), if_neg (by rw [ht121]; simp), if_pos ht142]), num_whole, small_div fa.lo fa.hi fb.lo fb.hi ht131]; try rfl, rfl⟩
 refine Z154 ?_;refine R.call Tryz.call40 (c40 _ _ (Nat.lt_of_le_of_lt (Nat.mod_le _ _) ea.1) _) ?_;refine Z12 ?_;refine Z1 ?_;refine Z6 ?_;exact K.fin (V.two (V.cellN jA jS) V.tmp) ⟨by rw [hba, show arithI t a.n b.n = remI a.n b.n from (by unfold arithI; rw [if_neg (by rw [ht104]; simp), if_neg (by rw [ht112]; simp), if_neg (by rw [ht121]; simp), if_neg (by rw [ht142]; simp)]), num_whole, small_rem fa.lo fa.hi fb.lo fb.hi ht131]; try rfl, rfl⟩

set_option maxRecDepth 8000
/-! The reference's reading of a number. -/
def rdS (x : Nat × Bool) (c : UInt8) : Nat × Bool := if x.2 then x else (x.1 * 10 + (c.toNat - 48), decide (18446744073709551616 ≤ x.1 * 10 + (c.toNat - 48)))
def rdL (d : Str) : Nat × Bool := d.foldl rdS (0, false)
def digC (c : UInt8) : Bool := (decide (48 ≤ c.toNat) && decide (c.toNat ≤ 57))
theorem rd_over : ∀ (l : Str) (m : Nat), l.foldl rdS (m, true) = (m, true)
 | [], m => rfl
 | c :: r, m => rd_over r m
theorem rd_next {d : Str} {i : Nat} (h : i < d.length) : rdL (d.take (i + 1)) = rdS (rdL (d.take i)) d[i] := by
 unfold rdL
 rw [List.take_succ_eq_append_getElem h, List.foldl_append]
 rfl
theorem rd_low {l : Str} (hl : ∀ c ∈ l, digC c = true) : ∀ x : Nat × Bool, (x.2 = false → x.1 < 18446744073709551616) → (l.foldl rdS x).2 = false → (l.foldl rdS x).1 < 18446744073709551616 := by
 induction l with
 | nil => exact fun x h h2 => h h2
 | cons c r ih =>
  intro x h h2
  refine ih (fun y hy => hl y (List.mem_cons_of_mem _ hy)) (rdS x c) (fun h3 => ?_) h2
  unfold rdS at h3 ⊢
  split
  ·rename_i h4; rw [if_pos h4] at h3; rw [h4] at h3; cases h3
  rename_i h4; rw [if_neg h4] at h3; simp at h3; simpa using h3
theorem rd_parse : ∀ (l : Str) (m : Nat), (∀ c ∈ l, digC c = true) → m < 18446744073709551616 → Lib.parseUintM 18446744073709551615 m l = if (l.foldl rdS (m, false)).2 = true then .range else .ok (l.foldl rdS (m, false)).1
 | [], m, _, _ => by rw [Lib.parseUintM]; rfl
 | c :: r, m, h, hm => by
  have hc := h c (by simp)
  unfold digC at hc
  simp only [Bool.and_eq_true, decide_eq_true_eq] at hc
  have hr := fun y hy => h y (List.mem_cons_of_mem _ hy)
  have e : (c :: r).foldl rdS (m, false) = r.foldl rdS (m * 10 + (c.toNat - 48), decide (18446744073709551616 ≤ m * 10 + (c.toNat - 48))) := rfl
  rw [Lib.parseUintM, if_pos hc, e]
  by_cases h1 : 1844674407370955162 ≤ m
  ·rw [if_pos h1, decide_eq_true (by omega), rd_over, if_pos rfl]
  rw [if_neg h1]
  by_cases h2 : 18446744073709551615 < m * 10 + (c.toNat - 48)
  ·rw [if_pos h2, decide_eq_true (by omega), rd_over, if_pos rfl]
  rw [if_neg h2, decide_eq_false (by omega)]
  exact rd_parse r _ hr (by omega)
theorem digC_eq (c : UInt8) : digC c = digs.contains c := (digs_contains c).symm
/-- What is wrong with a text that is no number. -/
theorem rd_bad0 {s d : Str} (hd : d = numDs s) (h : ((((d.length : Nat) : Int) == 0) || (decide ((1 : Int) < ((s.length : Nat) : Int)) && (((d.headD 0).toNat : Int) == 48))) = true) : numReadM s = (0, 6) := by
 have : numBad s = true := by
  unfold numBad
  rw [← hd]
  simp only [Bool.or_eq_true, Bool.and_eq_true, beq_iff_eq, decide_eq_true_eq] at h
  rcases h with h | ⟨h1, h2⟩
  ·have : d = [] := List.eq_nil_of_length_eq_zero (by omega)
   rw [this]; rfl
  have e : d.headD 0 = 48 := UInt8.toNat_inj.1 (by have : (48 : UInt8).toNat = 48 := rfl; omega)
  rw [e, decide_eq_true (by omega)]
  simp
 unfold numReadM
 rw [if_pos this]
theorem rd_bad1 {s d : Str} (hd : d = numDs s) {i : Nat} (hi : i < d.length) (h : (decide (((d[i].toNat : Nat) : Int) < 48) || decide ((57 : Int) < ((d[i].toNat : Nat) : Int))) = true) : numReadM s = (0, 6) := by
 have : numBad s = true := by
  unfold numBad
  rw [← hd]
  cases hb : Lib.trimS d digs == [] with
  | false => simp
  | true =>
   exfalso
   have hb' := trimS_nil.1 (eq_of_beq hb) d[i] (List.getElem_mem hi)
   rw [← digC_eq] at hb'
   unfold digC at hb'
   simp only [Bool.and_eq_true, decide_eq_true_eq] at hb'
   simp only [Bool.or_eq_true, decide_eq_true_eq] at h
   omega
 unfold numReadM
 rw [if_pos this]
theorem rd_good {s d : Str} (hd : d = numDs s) (h : ((((d.length : Nat) : Int) == 0) || (decide ((1 : Int) < ((s.length : Nat) : Int)) && (((d.headD 0).toNat : Int) == 48))) = false) (ha : ∀ c ∈ d, digC c = true) : numReadM s = if (rdL d).2 = true then (0, 4) else smallW (decide (((d.length : Nat) : Int) < ((s.length : Nat) : Int))) (rdL d).1 := by
 simp only [Bool.or_eq_false_iff, Bool.and_eq_false_iff, beq_eq_false_iff_ne, ne_eq, decide_eq_false_iff_not] at h
 have hne : d ≠ [] := fun e => h.1 (by rw [e]; rfl)
 have hg : numBad s = false := by
  unfold numBad
  rw [← hd]
  have h1 : (d == []) = false := by simpa using hne
  have h2 : (Lib.trimS d digs == []) = true := by
   have := trimS_nil.2 (fun b hb => by rw [← digC_eq]; exact ha b hb)
   simpa using this
  have h3 : ((d.headD 0 == 48) && decide (1 < s.length)) = false := by
   rw [Bool.and_eq_false_iff]
   rcases h.2 with h4 | h4
   ·exact .inr (decide_eq_false (by omega))
   refine .inl ?_
   rw [beq_eq_false_iff_ne]
   intro e
   rw [e] at h4
   exact h4 rfl
  rw [h1, h2, h3]
  rfl
 have hl := rd_low ha (0, false) (fun _ => by decide)
 have hp := rd_parse d 0 ha (by decide)
 have hU : Lib.parseUintB 64 d = if (rdL d).2 = true then .range else .ok (rdL d).1 := by
  unfold Lib.parseUintB
  rw [if_neg hne]
  exact hp
 unfold numReadM
 rw [hg, if_neg (by simp)]
 have p1 : (2 : Nat) ^ (64 - 1) = 9223372036854775808 := rfl
 rcases numDs_cases s with ⟨h3, h4⟩ | ⟨r, h3, h4⟩
 ·have e : d = s := hd.trans h4
  subst e
  cases d with
  | nil => exact absurd rfl hne
  | cons c r =>
   have hc := ha c (by simp)
   unfold digC at hc
   simp only [Bool.and_eq_true, decide_eq_true_eq] at hc
   have n1 : ¬ (c.toNat = 43 ∨ c.toNat = 45) := by omega
   have n2 : ¬ c.toNat = 45 := by omega
   simp only [Lib.parseIntB, if_neg n1, hU]
   cases ho : (rdL (c :: r)).2 with
   | true => simp
   | false =>
    have hm := hl ho
    simp only [Bool.false_eq_true, if_false]
    rw [decide_eq_false (show ¬ (((c :: r).length : Nat) : Int) < (((c :: r).length : Nat) : Int) by omega)]
    unfold smallW
    simp only [n2, not_false_eq_true, true_and, false_and, if_false, Bool.false_and, Bool.not_false, Bool.true_and, Bool.false_eq_true, decide_eq_true_eq]
    by_cases hx : 2 ^ (64 - 1) ≤ (rdL (c :: r)).1
    ·rw [if_pos hx, if_neg (by omega)]
    rw [if_neg hx, if_pos (by omega)]
 have e : d = r := hd.trans h4
 subst e
 subst h3
 have n1 : ((45 : UInt8).toNat = 43 ∨ (45 : UInt8).toNat = 45) := .inr rfl
 have n2 : (45 : UInt8).toNat = 45 := rfl
 simp only [Lib.parseIntB, if_pos n1, hU]
 cases ho : (rdL d).2 with
 | true => simp
 | false =>
  have hm := hl ho
  simp only [Bool.false_eq_true, if_false]
  rw [decide_eq_true (show ((d.length : Nat) : Int) < (((45 :: d : Str).length : Nat) : Int) by simp; omega)]
  unfold smallW
  simp only [n2, not_true_eq_false, true_and, false_and, if_false, if_true, Bool.not_true, Bool.false_and, Bool.true_and, Bool.false_eq_true, decide_eq_true_eq]
  by_cases hx : 2 ^ (64 - 1) < (rdL d).1
  ·rw [if_pos hx, if_neg (by omega)]
  rw [if_neg hx, if_pos (by omega)]
set_option maxRecDepth 4000
theorem gd1 {s : Str} (h : (decide ((0 : Int) < ((s.length : Nat) : Int)) == true) = true) : s ≠ [] := by rintro rfl; simp at h
theorem gd2 {d : Str} {b : Bool} (h : (((((d.length : Nat) : Int) == 0) == false) && b) = true) : d ≠ [] := by rintro rfl; simp at h
theorem c62f (a b : Nat) (ha : a < B32 ^ 5) (hb : b < B32 ^ 5) (Hp : List AObj) : AFun Tryz.prog 62 [.agg (wF false (dig a)), .agg (wF false (dig b))] Hp (.agg (wF false (dig (a + b)))) := c62 false a false b ha hb Hp
theorem c63f (a b : Nat) (ha : a < B32 ^ 2) (hb : b < B32 ^ 2) (Hp : List AObj) : AFun Tryz.prog 63 [.agg (wF false (dig a)), .agg (wF false (dig b))] Hp (.agg (wF false (dig (a * b)))) := c63 false a false b ha hb Hp
theorem c42t (Hp : List AObj) : AFun Tryz.prog 42 [intA 10] Hp (.agg (wF false (dig 10))) := c42w 10 (by decide) (by decide) Hp
theorem one_put {p q : Nat} (hp : p < 256) (hq : q < 256) : putCells (wF false (dig p)) 1 [u64A (q : Nat)] = wF false (dig q) := by
 have h0 : dig q 0 = q := by rw [dig_0]; omega
 refine wF_put (k := 0) (by decide) h0 fun i hi => ?_
 have hb : B32 ^ 1 ≤ B32 ^ i := Nat.pow_le_pow_right (by decide) (by omega)
 have hb1 : (256 : Nat) ≤ B32 ^ 1 := by decide
 rw [dig_small (m := q) (i := i) (by omega), dig_small (m := p) (i := i) (by omega)]
theorem wF_zero : wF false (dig 0) = [boolA false, u64A 0, u64A 0, u64A 0, u64A 0, u64A 0] := by
 have : ∀ i, dig 0 i = 0 := fun i => by unfold dig; simp
 unfold wF
 rw [this, this, this, this, this]
 rfl
theorem w48 {c : UInt8} (h : 48 ≤ c.toNat) : IntKind.u64.wrap (IntKind.u64.wrap ((c.toNat : Nat) : Int) - 48) = ((c.toNat - 48 : Nat) : Int) := by
 have := c.toNat_lt
 simp only [IntKind.wrap_u64]
 omega
theorem over_iff {m : Nat} (h : m < B32 ^ 3) : decide (0 < ((dig m 2 : Nat) : Int)) = decide (18446744073709551616 ≤ m) := by
 rw [decide_eq_decide]
 unfold dig
 simp only [B32, Nat.reducePow] at h ⊢
 omega
structure RdAt (d : Str) (x : Nat × Nat) : Prop where
 le : x.1 ≤ d.length
 dg : ∀ (j : Nat) (c : UInt8), j < x.1 → d[j]? = some c → digC c = true
 one : x.2 < 256
theorem RdAt.low {d : Str} {x : Nat × Nat} (h : RdAt d x) (ho : (rdL (d.take x.1)).2 = false) : (rdL (d.take x.1)).1 < 18446744073709551616 := by
 refine rd_low (l := d.take x.1) (fun c hc => ?_) (0, false) (fun _ => by decide) ho
 obtain ⟨j, hj⟩ := List.getElem?_of_mem hc
 have hj1 : j < x.1 := by
  have := (List.getElem?_eq_some_iff.1 hj).1
  rw [List.length_take] at this
  omega
 rw [List.getElem?_take, if_pos hj1] at hj
 exact h.dg j c hj1 hj
theorem c44 (s : Str) (hs : s.length ≤ 1048576) (Hp : List AObj) : AFun Tryz.prog 44 [strA s] Hp (.tup [intA (numReadM s).1, intA (numReadM s).2]) := by
 refine ACall.body [.tmp 2, .tmp 3] [0] Tryz.func44 Tryz.ntmps44 (fun d => ?_)
 refine Z64 ?_;refine R.fin [0] ?_;refine Z0 ?_;refine Z404 ?_;refine R.fin [0, 4] ?_;refine Z14 ?_;refine Z289 ?_;refine Z21 ?_;refine G.sindex 0 (s.headD 0) jU (fun hB => headD_get (gd1 hB))  ?_;refine G.eql ?_;refine Z398 ?_;refine R.fin [0, 4, 18] ?_
 refine W.cond (fun ht18 => ?_) (fun ht18 => ?_)
 ·have h45 : s.headD 0 = 45 := by
   simp only [Bool.and_eq_true, decide_eq_true_eq, beq_iff_eq] at ht18
   exact UInt8.toNat_inj.1 (by have : (45 : UInt8).toNat = 45 := rfl; have := ht18.2; omega)
  have h1s : 1 ≤ s.length := by simp only [Bool.and_eq_true, decide_eq_true_eq] at ht18; have := ht18.1; omega
  obtain ⟨d, hd0⟩ : ∃ d, d = s.drop 1 := ⟨_, rfl⟩
  have hd : d = numDs s := by
   rw [hd0]
   rcases numDs_cases s with ⟨h3, h4⟩ | ⟨r, h3, h4⟩
   ·exfalso
    cases s with
    | nil => simp at h1s
    | cons c r => simp at h3 h45; exact h3 h45
   rw [h4, h3]; rfl
  have hdl : d.length ≤ 1048576 := by rw [hd0, List.length_drop]; omega
  refine Z31 ?_;refine R.scutL 1 jU h1s (Nat.le_refl _) ?_;refine Z404 ?_;refine R.fin [0, 4] ?_;refine Z219 ?_
  refine R.wk 4 (strA d) (by rw [hd0]; exact Le.refl _) ?_
  refine Z405 ?_;refine Z397 ?_;refine Z181 ?_;refine G.slen jU ?_;refine G.gtr ?_;refine Z374 ?_;refine G.sindex 0 (d.headD 0) jU (fun hB => headD_get (gd2 hB))  ?_;refine G.eql ?_;refine Z213 ?_;refine R.fin [0, 4, 33] ?_
  refine W.cond (fun ht33 => ?_) (fun ht33 => ?_)
  ·exact Z377
  refine Z38 ?_;refine Z86 ?_;refine R.fin [0, 4, 5] ?_;refine Z3 ?_;refine R.fin [0, 4, 5, 6] ?_;refine Z396 ?_;refine Z342 ?_;refine Z420 ?_;refine Z333 ?_;refine R.fin [0, 4, 5, 6, 7, 8] ?_;refine Z97 ?_;refine Z449 ?_
  refine AW.loopC (α := Nat × Nat) (fun x => ⟨82, setF 0 (strA s) (setF 4 (strA d) (setF 5 (.ptr (oid Hp.length 0) 0) (setF 6 (boolA (rdL (d.take x.1)).2) (setF 7 (.ptr (oid Hp.length 1) 0) (setF 8 (.ptr (oid Hp.length 2) 0) (setF 9 (intA (x.1 : Nat)) (fun _ => .any))))))), Hp, [.cells 71 (wF false (dig (rdL (d.take x.1)).1)), .cells 71 (wF false (dig 10)), .cells 71 (wF false (dig x.2))], [], none⟩) (fun x => RdAt d x) (fun x => d.length - x.1) ((0, 0)) ⟨Nat.zero_le _, fun j c hj => by omega, by decide⟩ (StLe.of_eq (by simp only [List.take_zero, show rdL [] = (0, false) from rfl, wF_zero] <;> rfl)) rfl (fun x hx => ?_)
  obtain ⟨i, p⟩ := x
  simp only at hx ⊢
  refine Z80 ?_;refine Z184 ?_;refine R.fin [0, 4, 5, 6, 7, 8, 9, 40] ?_
  refine W.cond (fun ht40 => ?_) (fun ht40 => ?_)
  ·have hil : i < d.length := by simp at ht40; omega
   refine Z88 ?_;refine Z80 ?_
   refine R.sindex i d[i] jU (List.getElem?_eq_getElem hil)  ?_
   refine R.lss ?_;refine Z114 ?_
   refine G.sindex i d[i] jU (fun _ => List.getElem?_eq_getElem hil)  ?_
   refine Z127 ?_;refine R.fin [0, 4, 5, 6, 7, 8, 9, 52] ?_
   refine W.cond (fun ht52 => ?_) (fun ht52 => ?_)
   ·refine Z64 ?_;refine Z205 ?_;refine Z83 ?_;exact Z54
   have hdc : 48 ≤ d[i].toNat ∧ d[i].toNat ≤ 57 := by
    simp only [Bool.or_eq_false_iff, decide_eq_false_iff_not] at ht52
    omega
   have hnx := rd_next hil
   refine Z326 ?_
   refine R.sindex i d[i] jU (List.getElem?_eq_getElem hil)  ?_
   refine Z408 ?_;refine R.sub ?_
   rw [w48 hdc.1]
   refine Z61 ?_
   refine R.storeOwn jS (hput := one_put hx.one (q := (d[i].toNat - 48)) (by have := (d[i]).toNat_lt; omega)) (hfit := by simp) ?_
   refine Z449 ?_;refine Z0 ?_;refine R.not ?_;refine R.fin [0, 4, 5, 6, 7, 8, 9, 61] ?_
   refine W.cond (fun ht61 => ?_) (fun ht61 => ?_)
   ·have ho : (rdL (d.take i)).2 = false := by simpa using ht61
    have hml := hx.low ho
    simp only at hml
    have hm2 : (rdL (d.take i)).1 < B32 ^ 2 := hml
    have hm5 : (rdL (d.take i)).1 * 10 < B32 ^ 5 := Nat.lt_of_lt_of_le (show (rdL (d.take i)).1 * 10 < 184467440737095516170 by omega) (by decide)
    have hm3 : (rdL (d.take i)).1 * 10 + (d[i].toNat - 48) < B32 ^ 3 := Nat.lt_of_lt_of_le (show (rdL (d.take i)).1 * 10 + (d[i].toNat - 48) < 184467440737095516170 by omega) (by decide)
    have hst : rdL (d.take (i + 1)) = ((rdL (d.take i)).1 * 10 + (d[i].toNat - 48), decide (18446744073709551616 ≤ (rdL (d.take i)).1 * 10 + (d[i].toNat - 48))) := by rw [hnx]; exact if_neg (by rw [ho]; simp)
    refine Z378 ?_;refine Z356 ?_;refine Z343 ?_
    refine R.call Tryz.call62 (c62f ((rdL (d.take i)).1 * 10) (d[i].toNat - 48) hm5 (Nat.lt_of_lt_of_le (show (d[i].toNat - 48) < 256 by have := (d[i]).toNat_lt; omega) (by decide)) _) ?_
    refine Z409 ?_;refine R.fin [0, 4, 5, 7, 8, 9] ?_;refine Z411 ?_;refine Z334 ?_;refine Z427 ?_;refine R.gtr ?_
    rw [over_iff hm3]
    refine Z404 ?_;refine Z449 ?_;refine Z141 ?_;refine Z449 ?_
    refine K.lpN (i + 1, (d[i].toNat - 48)) ⟨hil, fun j c hj hc => ?_, by have := (d[i]).toNat_lt; show d[i].toNat - 48 < 256; omega⟩ (by show d.length - (i + 1) < d.length - i; omega) (StCut.of_eq (by rw [hst] <;> rfl))
    rcases Nat.lt_or_ge j i with h | h
    ·exact hx.dg j c h hc
    have : j = i := by have hj' : j < i + 1 := hj; omega
    subst this
    rw [List.getElem?_eq_getElem hil] at hc
    injection hc with hc
    rw [← hc]
    unfold digC
    simp only [Bool.and_eq_true, decide_eq_true_eq]
    exact hdc
   have ho : (rdL (d.take i)).2 = true := by simpa using ht61
   have hst : rdL (d.take (i + 1)) = rdL (d.take i) := by rw [hnx]; exact if_pos ho
   refine Z177 ?_;refine Z449 ?_
   refine K.lpN (i + 1, (d[i].toNat - 48)) ⟨hil, fun j c hj hc => ?_, by have := (d[i]).toNat_lt; show d[i].toNat - 48 < 256; omega⟩ (by show d.length - (i + 1) < d.length - i; omega) (StCut.of_eq (by rw [hst] <;> rfl))
   rcases Nat.lt_or_ge j i with h | h
   ·exact hx.dg j c h hc
   have : j = i := by have hj' : j < i + 1 := hj; omega
   subst this
   rw [List.getElem?_eq_getElem hil] at hc
   injection hc with hc
   rw [← hc]
   unfold digC
   simp only [Bool.and_eq_true, decide_eq_true_eq]
   exact hdc
  have hie : d.take i = d := List.take_of_length_le (by simp at ht40; omega)
  have hall : ∀ c ∈ d, digC c = true := fun c hc => by
   obtain ⟨j, hj⟩ := List.getElem?_of_mem hc
   exact hx.dg j c (by have := (List.getElem?_eq_some_iff.1 hj).1; simp at ht40; omega) hj
  have hgood := rd_good hd ht33 hall
  have hlow := hx.low
  simp only at hlow
  rw [hie] at hlow ⊢
  refine Z296 ?_;refine Z121 ?_;refine Z184 ?_;refine Z183 ?_;refine R.fin [5, 6] ?_;refine Z14 ?_;refine R.fin [5, 77] ?_
  refine W.cond (fun ht77 => ?_) (fun ht77 => ?_)
  ·rw [if_pos ht77] at hgood
   exact Z377
  rw [if_neg (by rw [ht77]; simp)] at hgood
  refine Z348 ?_;refine Z12 ?_;refine Z23 ?_;exact Z223
 obtain ⟨d, hd0⟩ : ∃ d, d = s := ⟨_, rfl⟩
 have hd : d = numDs s := by
  rw [hd0]
  rcases numDs_cases s with ⟨h3, h4⟩ | ⟨r, h3, h4⟩
  ·exact h4.symm
  exfalso
  rw [h3] at ht18
  simp at ht18 <;> omega
 have hdl : d.length ≤ 1048576 := by rw [hd0]; exact hs
 refine Z50 ?_
 refine R.wk 4 (strA d) (by rw [hd0]; exact Le.refl _) ?_
 refine Z405 ?_;refine Z397 ?_;refine Z181 ?_;refine G.slen jU ?_;refine G.gtr ?_;refine Z374 ?_;refine G.sindex 0 (d.headD 0) jU (fun hB => headD_get (gd2 hB))  ?_;refine G.eql ?_;refine Z213 ?_;refine R.fin [0, 4, 33] ?_
 refine W.cond (fun ht33 => ?_) (fun ht33 => ?_)
 ·exact Z377
 refine Z38 ?_;refine Z86 ?_;refine R.fin [0, 4, 5] ?_;refine Z3 ?_;refine R.fin [0, 4, 5, 6] ?_;refine Z396 ?_;refine Z342 ?_;refine Z420 ?_;refine Z333 ?_;refine R.fin [0, 4, 5, 6, 7, 8] ?_;refine Z97 ?_;refine Z449 ?_
 refine AW.loopC (α := Nat × Nat) (fun x => ⟨82, setF 0 (strA s) (setF 4 (strA d) (setF 5 (.ptr (oid Hp.length 0) 0) (setF 6 (boolA (rdL (d.take x.1)).2) (setF 7 (.ptr (oid Hp.length 1) 0) (setF 8 (.ptr (oid Hp.length 2) 0) (setF 9 (intA (x.1 : Nat)) (fun _ => .any))))))), Hp, [.cells 71 (wF false (dig (rdL (d.take x.1)).1)), .cells 71 (wF false (dig 10)), .cells 71 (wF false (dig x.2))], [], none⟩) (fun x => RdAt d x) (fun x => d.length - x.1) ((0, 0)) ⟨Nat.zero_le _, fun j c hj => by omega, by decide⟩ (StLe.of_eq (by simp only [List.take_zero, show rdL [] = (0, false) from rfl, wF_zero] <;> rfl)) rfl (fun x hx => ?_)
 obtain ⟨i, p⟩ := x
 simp only at hx ⊢
 refine Z80 ?_;refine Z184 ?_;refine R.fin [0, 4, 5, 6, 7, 8, 9, 40] ?_
 refine W.cond (fun ht40 => ?_) (fun ht40 => ?_)
 ·have hil : i < d.length := by simp at ht40; omega
  refine Z88 ?_;refine Z80 ?_
  refine R.sindex i d[i] jU (List.getElem?_eq_getElem hil)  ?_
  refine R.lss ?_;refine Z114 ?_
  refine G.sindex i d[i] jU (fun _ => List.getElem?_eq_getElem hil)  ?_
  refine Z127 ?_;refine R.fin [0, 4, 5, 6, 7, 8, 9, 52] ?_
  refine W.cond (fun ht52 => ?_) (fun ht52 => ?_)
  ·refine Z64 ?_;refine Z205 ?_;refine Z83 ?_;exact Z54
  have hdc : 48 ≤ d[i].toNat ∧ d[i].toNat ≤ 57 := by
   simp only [Bool.or_eq_false_iff, decide_eq_false_iff_not] at ht52
   omega
  have hnx := rd_next hil
  refine Z326 ?_
  refine R.sindex i d[i] jU (List.getElem?_eq_getElem hil)  ?_
  refine Z408 ?_;refine R.sub ?_
  rw [w48 hdc.1]
  refine Z61 ?_
  refine R.storeOwn jS (hput := one_put hx.one (q := (d[i].toNat - 48)) (by have := (d[i]).toNat_lt; omega)) (hfit := by simp) ?_
  refine Z449 ?_;refine Z0 ?_;refine R.not ?_;refine R.fin [0, 4, 5, 6, 7, 8, 9, 61] ?_
  refine W.cond (fun ht61 => ?_) (fun ht61 => ?_)
  ·have ho : (rdL (d.take i)).2 = false := by simpa using ht61
   have hml := hx.low ho
   simp only at hml
   have hm2 : (rdL (d.take i)).1 < B32 ^ 2 := hml
   have hm5 : (rdL (d.take i)).1 * 10 < B32 ^ 5 := Nat.lt_of_lt_of_le (show (rdL (d.take i)).1 * 10 < 184467440737095516170 by omega) (by decide)
   have hm3 : (rdL (d.take i)).1 * 10 + (d[i].toNat - 48) < B32 ^ 3 := Nat.lt_of_lt_of_le (show (rdL (d.take i)).1 * 10 + (d[i].toNat - 48) < 184467440737095516170 by omega) (by decide)
   have hst : rdL (d.take (i + 1)) = ((rdL (d.take i)).1 * 10 + (d[i].toNat - 48), decide (18446744073709551616 ≤ (rdL (d.take i)).1 * 10 + (d[i].toNat - 48))) := by rw [hnx]; exact if_neg (by rw [ho]; simp)
   refine Z378 ?_;refine Z356 ?_;refine Z343 ?_
   refine R.call Tryz.call62 (c62f ((rdL (d.take i)).1 * 10) (d[i].toNat - 48) hm5 (Nat.lt_of_lt_of_le (show (d[i].toNat - 48) < 256 by have := (d[i]).toNat_lt; omega) (by decide)) _) ?_
   refine Z409 ?_;refine R.fin [0, 4, 5, 7, 8, 9] ?_;refine Z411 ?_;refine Z334 ?_;refine Z427 ?_;refine R.gtr ?_
   rw [over_iff hm3]
   refine Z404 ?_;refine Z449 ?_;refine Z141 ?_;refine Z449 ?_
   refine K.lpN (i + 1, (d[i].toNat - 48)) ⟨hil, fun j c hj hc => ?_, by have := (d[i]).toNat_lt; show d[i].toNat - 48 < 256; omega⟩ (by show d.length - (i + 1) < d.length - i; omega) (StCut.of_eq (by rw [hst] <;> rfl))
   rcases Nat.lt_or_ge j i with h | h
   ·exact hx.dg j c h hc
   have : j = i := by have hj' : j < i + 1 := hj; omega
   subst this
   rw [List.getElem?_eq_getElem hil] at hc
   injection hc with hc
   rw [← hc]
   unfold digC
   simp only [Bool.and_eq_true, decide_eq_true_eq]
   exact hdc
  have ho : (rdL (d.take i)).2 = true := by simpa using ht61
  have hst : rdL (d.take (i + 1)) = rdL (d.take i) := by rw [hnx]; exact if_pos ho
  refine Z177 ?_;refine Z449 ?_
  refine K.lpN (i + 1, (d[i].toNat - 48)) ⟨hil, fun j c hj hc => ?_, by have := (d[i]).toNat_lt; show d[i].toNat - 48 < 256; omega⟩ (by show d.length - (i + 1) < d.length - i; omega) (StCut.of_eq (by rw [hst] <;> rfl))
  rcases Nat.lt_or_ge j i with h | h
  ·exact hx.dg j c h hc
  have : j = i := by have hj' : j < i + 1 := hj; omega
  subst this
  rw [List.getElem?_eq_getElem hil] at hc
  injection hc with hc
  rw [← hc]
  unfold digC
  simp only [Bool.and_eq_true, decide_eq_true_eq]
  exact hdc
 have hie : d.take i = d := List.take_of_length_le (by simp at ht40; omega)
 have hall : ∀ c ∈ d, digC c = true := fun c hc => by
  obtain ⟨j, hj⟩ := List.getElem?_of_mem hc
  exact hx.dg j c (by have := (List.getElem?_eq_some_iff.1 hj).1; simp at ht40; omega) hj
 have hgood := rd_good hd ht33 hall
 have hlow := hx.low
 simp only at hlow
 rw [hie] at hlow ⊢
 refine Z296 ?_;refine Z121 ?_;refine Z184 ?_;refine Z183 ?_;refine R.fin [5, 6] ?_;refine Z14 ?_;refine R.fin [5, 77] ?_
 refine W.cond (fun ht77 => ?_) (fun ht77 => ?_)
 ·rw [if_pos ht77] at hgood
  exact Z377
 rw [if_neg (by rw [ht77]; simp)] at hgood
 refine Z348 ?_;refine Z12 ?_;refine Z23 ?_;exact Z223

set_option maxRecDepth 8000
/-! The reference's Eval. -/
def strT : Str := [115, 116, 114]
def lenT : Str := [108, 101, 110]
def numT : Str := [110, 117, 109]
def leftT : Str := [108, 101, 102, 116]
def clampI (n k : Int) : Int := if decide (n < 0) = true then 0 else if decide (n < k) = true then n else k
def refP (t : Str) (a b : Val) : Rs := if (t == leftT) = true then (⟨2, 0, a.s.take (clampI b.n a.s.length).toNat⟩, 0) else (⟨2, 0, a.s.drop (a.s.length - (clampI b.n a.s.length).toNat)⟩, 0)
def refC (t : Str) (a b : Val) : Rs :=
 if (t == strT) = true then (if (a.kind != 1) = true then (noV, 10) else (⟨2, 0, Lib.itoa a.n⟩, 0))
 else if (a.kind != 2) = true then (noV, 10)
 else if (t == lenT) = true then (⟨1, a.s.length, []⟩, 0)
 else if (t == numT) = true then (if ((numReadM a.s).2 != 0) = true then (noV, (numReadM a.s).2) else (⟨1, (numReadM a.s).1, []⟩, 0))
 else if (b.kind != 1) = true then (noV, 10) else refP t a b
def refG (o : Int) (t : Str) (a b : Val) : Rs :=
 if ((a.kind == 0) || (b.kind == 0)) = true then (noV, 0)
 else if (o == 5) = true then binM t a b
 else if (o == 3) = true then (if (a.kind != 1) = true then (noV, 10) else numW (!decide (a.n < 0)) a.n.natAbs)
 else if (o == 4) = true then (if (a.kind != 3) = true then (noV, 10) else (boolV (a.n == 0), 0))
 else refC t a b
def refB (k : Int) (o : Int) (t : Str) (a : Val) (rb : Rs) : Rs := if (k == 2) = true then (if (rb.2 != 0) = true then (noV, rb.2) else refG o t a rb.1) else refG o t a ⟨9, 0, []⟩
def refL (t : Str) (a : Val) (rb : Rs) : Rs :=
 if (!((a.kind == 0) || (a.kind == 3))) = true then (noV, 10)
 else if (a == boolV (t == orW)) = true then (a, 0)
 else if (rb.2 != 0) = true then (noV, rb.2)
 else if ((rb.1.kind != 0) && (rb.1.kind != 3)) = true then (noV, 10)
 else if (rb.1 == boolV (t == orW)) = true then (rb.1, 0)
 else if ((a.kind == 0) || (rb.1.kind == 0)) = true then (noV, 0)
 else (boolV (t == andW), 0)
def refF (k : Int) (o : Int) (t : Str) (ra rb rc : Rs) : Rs :=
 if (ra.2 != 0) = true then (noV, ra.2)
 else if ((o == 5) && ((t == orW) || (t == andW))) = true then refL t ra.1 rb
 else if (o == 6) = true then
  (if (t == isnullW) = true then (boolV (ra.1.kind == 0), 0)
  else if (t == nvlW) = true then (if (ra.1.kind != 0) = true then (ra.1, 0) else rb)
  else if (t == ifW) = true then (if (!((ra.1.kind == 0) || (ra.1.kind == 3))) = true then (noV, 10) else if (ra.1.n == 1) = true then rb else rc)
  else refB k o t ra.1 rb)
 else refB k o t ra.1 rb
/-- Who ends in an error has no value. -/
def ErrNo (r : Rs) : Prop := r.2 ≠ 0 → r.1 = noV
theorem errNo_wrong (e : Int) : ErrNo (wrongR e) := fun _ => rfl
theorem errNo_fine (v : Val) : ErrNo (v, 0) := fun h => absurd rfl h
theorem errNo_whole (x : Int × Int) : ErrNo (wholeR x) := by
 unfold wholeR
 split
 ·exact Z450
 exact Z451
theorem errNo_truth {r : Rs} (h : ErrNo r) : ErrNo (truthR r) := by
 unfold truthR
 split
 ·exact Z450
 exact h
theorem errNo_bin (t : Str) (a b : Val) : ErrNo (binM t a b) := by
 unfold binM
 split
 ·split
  ·exact Z450
  exact Z451
 split
 ·unfold joinR
  split
  ·exact Z450
  split
  ·exact Z450
  exact Z451
 split
 ·exact Z450
 exact errNo_whole _
theorem errNo_strict (o : Int) (t : Str) (l : List Val) : ErrNo (strictM o t l) := by
 unfold strictM
 split
 ·exact errNo_bin _ _ _
 split
 ·exact errNo_whole _
 split
 ·exact Z451
 split
 ·exact Z450
 split
 ·unfold fun1M
  split
  ·exact Z451
  split
  ·exact Z451
  split
  ·exact errNo_whole _
  exact Z450
 split
 ·exact Z450
 exact Z451
theorem errNo_node {c : List Col} {l : List Val} {o : Int} {t : Str} {v : Val} {ks : List Rs} (h : ∀ i, ErrNo (ks.getD i (noV, 0))) : ErrNo (evalN strictM c l o t v ks) := by
 unfold evalN
 split
 ·exact Z451
 split
 ·unfold nameR
  split
  ·exact Z450
  exact Z451
 have hlog : ∀ s, ErrNo (logicR s (ks.getD 0 (noV, 0)) (ks.getD 1 (noV, 0))) := fun s => by
  unfold logicR
  split
  ·exact errNo_truth (h 0)
  split
  ·exact errNo_truth (h 1)
  exact Z451
 split
 ·exact hlog _
 split
 ·exact hlog _
 split
 ·unfold callR
  split
  ·split
   ·exact Z450
   split
   ·exact h 1
   exact h 2
  split
  ·exact Z450
  split
  ·exact Z451
  split
  ·exact Z451
  exact h 1
 unfold allR
 split
 ·exact Z450
 split
 ·exact Z451
 exact errNo_strict _ _ _
theorem errNo_eval (c : List Col) (l : List Val) : ∀ (n : Nat) (e : Expr), sizeE e ≤ n → ErrNo (evalE c l e)
 | 0, e, h => by rw [sizeE_eq] at h; omega
 | n + 1, e, h => by
  obtain ⟨o, t, v, k⟩ := e
  rw [evalE, evalS_eq]
  refine errNo_node fun i => ?_
  rw [List.getD_eq_getElem?_getD, List.getElem?_map]
  cases hk : (Expr.mk o t v k).kids[i]? with
  | none => exact errNo_fine _
  | some y =>
   have hlt := (List.getElem?_eq_some_iff.1 hk).1
   have hy := (List.getElem?_eq_some_iff.1 hk).2
   have := size_kid (.mk o t v k) hlt
   rw [hy] at this
   exact errNo_eval c l n y (by omega)
theorem allR1 (S : List Val → Rs) (ra : Rs) : allR S [ra] = if (ra.2 != 0) = true then (noV, ra.2) else if (ra.1.kind == 0) = true then (noV, 0) else S [ra.1] := by
 unfold allR
 cases h : ra.2 != 0 with
 | true => simp [h, wrongR]
 | false => simp [h]
theorem allR2 (S : List Val → Rs) (ra rb : Rs) : allR S [ra, rb] = if (ra.2 != 0) = true then (noV, ra.2) else if (rb.2 != 0) = true then (noV, rb.2) else if ((ra.1.kind == 0) || (rb.1.kind == 0)) = true then (noV, 0) else S [ra.1, rb.1] := by
 unfold allR
 cases h : ra.2 != 0 with
 | true => simp [h, wrongR]
 | false =>
  cases h2 : rb.2 != 0 with
  | true => simp [h, h2, wrongR]
  | false => simp [h, h2]
theorem truth_err {r : Rs} (h : (r.2 != 0) = true) : truthR r = r := by
 unfold truthR
 have : (r.2 == 0) = false := by simpa using h
 rw [this]
 simp
theorem truth_bad {v : Val} (h : ((v.kind == 0) || (v.kind == 3)) = false) : truthR (v, 0) = (noV, 10) := by
 simp only [Bool.or_eq_false_iff, beq_eq_false_iff_ne, ne_eq] at h
 unfold truthR
 rw [if_pos (by simp [h.1, h.2])]
 rfl
theorem truth_ok {v : Val} (h : ((v.kind == 0) || (v.kind == 3)) = true) : truthR (v, 0) = (v, 0) := by
 unfold truthR
 rw [if_neg]
 simp only [Bool.or_eq_true, beq_iff_eq] at h
 simp
 intro h0
 rcases h with h | h
 ·exact absurd h h0
 exact h
theorem rs_fine {r : Rs} (h : (r.2 != 0) = false) : r = (r.1, 0) := by
 obtain ⟨v, e⟩ := r
 have : e = 0 := by simpa using h
 rw [this]
theorem rs_err {r : Rs} (h : ErrNo r) (h2 : (r.2 != 0) = true) : r = (noV, r.2) := by
 obtain ⟨v, e⟩ := r
 have := h (by simpa using h2)
 simp only at this ⊢
 rw [this]
theorem logic_ref {t : Str} (ht : t = orW ∨ t = andW) {a : Val} {rb : Rs} (fa : Fine a) (fb : Fine rb.1) (eb : ErrNo rb) : logicR (boolV (t == orW)) (a, 0) rb = refL t a rb := by
 unfold refL logicR
 cases h3 : (a.kind == 0) || (a.kind == 3) with
 | false => rw [truth_bad h3]; rfl
 | true =>
  rw [truth_ok h3]
  simp only [Bool.not_true, Bool.false_eq_true, if_false, show ((0 : Int) != 0) = false from rfl, Bool.false_or]
  cases h4 : a == boolV (t == orW) with
  | true => simp
  | false =>
   simp only [Bool.false_eq_true, if_false]
   cases h5 : rb.2 != 0 with
   | true =>
    rw [truth_err h5, h5]
    simp only [Bool.true_or, if_true]
    exact rs_err eb h5
   | false =>
    simp only [Bool.false_eq_true, if_false]
    rw [rs_fine h5]
    generalize rb.1 = b at fb
    try simp only
    cases h6 : (b.kind == 0) || (b.kind == 3) with
    | false =>
     rw [truth_bad h6]
     have : ((b.kind != 0) && (b.kind != 3)) = true := by
      simp only [Bool.or_eq_false_iff, beq_eq_false_iff_ne, ne_eq] at h6
      simp [h6.1, h6.2]
     rw [if_pos this]
     rfl
    | true =>
     rw [truth_ok h6]
     have : ((b.kind != 0) && (b.kind != 3)) = false := by
      simp only [Bool.or_eq_true, beq_iff_eq] at h6
      rcases h6 with h | h <;> simp [h]
     rw [this]
     simp only [Bool.false_eq_true, if_false, show ((0 : Int) != 0) = false from rfl, Bool.false_or]
     cases h7 : b == boolV (t == orW) with
     | true => simp
     | false =>
      simp only [Bool.false_or, Bool.false_eq_true, if_false]
      by_cases ha0 : a.kind = 0
      ·have e : a = noV := kind0_no fa.plain ha0
       rw [e]
       rfl
      rw [if_pos (by simpa using ha0)]
      by_cases hb0 : b.kind = 0
      ·rw [if_pos (by simp [hb0]), kind0_no fb.plain hb0]
      rw [if_neg (by simp [ha0, hb0])]
      have hb3 : b.kind = 3 := by simpa [hb0] using h6
      rcases kind3_bool fb.plain hb3 with rfl | rfl
      ·rcases ht with rfl | rfl
       ·cases h7
       rfl
      rcases ht with rfl | rfl
      ·rfl
      cases h7
theorem if_ref {ra rb rc : Rs} (fa : Fine ra.1) (h : (ra.2 != 0) = false) : callR ifW ra rb rc = if (!((ra.1.kind == 0) || (ra.1.kind == 3))) = true then (noV, 10) else if (ra.1.n == 1) = true then rb else rc := by
 have e := rs_fine h
 generalize ra.1 = a at fa e ⊢
 subst e
 unfold callR
 rw [if_pos (show (ifW == ifW) = true from rfl)]
 cases h3 : (a.kind == 0) || (a.kind == 3) with
 | false => rw [truth_bad h3]; rfl
 | true =>
  rw [truth_ok h3, if_neg (by simp)]
  simp only [Bool.not_true, Bool.false_eq_true, if_false]
  have e2 : (a == boolV true) = (a.n == 1) := by
   simp only [Bool.or_eq_true, beq_iff_eq] at h3
   rcases h3 with h3 | h3
   ·rw [kind0_no fa.plain h3]; rfl
   rcases kind3_bool fa.plain h3 with rfl | rfl <;> rfl
  rw [e2]
theorem itoa_200 {n : Int} (h0 : -9223372036854775808 ≤ n) (h1 : n ≤ 9223372036854775807) : cutV (Lib.itoa n) = ⟨2, 0, Lib.itoa n⟩ := by
 have := Lib.itoa_length_le n (by omega) (by omega)
 unfold cutV
 rw [List.take_of_length_le (by omega)]
theorem clamp_eq (n : Int) (k : Nat) : (max 0 (min n k)) = clampI n k := by
 unfold clampI
 by_cases h : n < 0
 ·rw [if_pos (by simpa using h)]; omega
 rw [if_neg (by simpa using h)]
 by_cases h2 : n < k
 ·rw [if_pos (by simpa using h2)]; omega
 rw [if_neg (by simpa using h2)]; omega
theorem piece_ref {t : Str} (a b : Val) (hl : a.s.length ≤ 200) : pieceM t a.s b.n = (refP t a b).1 ∧ (refP t a b).2 = 0 := by
 unfold pieceM refP
 rw [clamp_eq]
 show (if (t == leftT) = true then _ else _) = _ ∧ _
 cases t == leftT with
 | true =>
  simp only [if_true, and_true]
  unfold cutV
  rw [List.take_of_length_le (by rw [List.length_take]; omega)]
 | false =>
  simp only [Bool.false_eq_true, if_false, and_true]
  unfold cutV
  rw [List.take_of_length_le (by rw [List.length_drop]; omega)]
section
variable {a b : Val}
theorem one_neg (fa : Fine a) : strictM 3 [] [a] = (if (a.kind != 1) = true then (noV, 10) else numW (!decide (a.n < 0)) a.n.natAbs) := by
 show (if (((3 : Int) == 5)) = true then _ else if (((3 : Int) == 3) && kindsM [a] [1]) = true then wholeR (subI 0 a.n) else _) = _
 rw [if_neg (by decide)]
 have e : kindsM [a] [1] = (a.kind == 1) := by simp [kindsM]
 rw [e]
 cases h : a.kind == 1 with
 | true =>
  have h' : (a.kind != 1) = false := by rw [bne, h]; rfl
  rw [if_pos (by rfl), h', num_whole, smallW_eq, wide_neg, wide_abs, subI_eq (by decide) (by decide) fa.lo fa.hi]
  simp
 | false =>
  have h' : (a.kind != 1) = true := by rw [bne, h]; rfl
  rw [if_neg (by simp), h']
  rfl
theorem one_not : strictM 4 [] [a] = (if (a.kind != 3) = true then (noV, 10) else (boolV (a.n == 0), 0)) := by
 show (if (((4 : Int) == 5)) = true then _ else if (((4 : Int) == 3) && kindsM [a] [1]) = true then _ else if (((4 : Int) == 4) && kindsM [a] [3]) = true then (boolV (a.n == 0), 0) else _) = _
 rw [if_neg (by decide), if_neg (by simp)]
 have e : kindsM [a] [3] = (a.kind == 3) := by simp [kindsM]
 rw [e]
 cases h : a.kind == 3 with
 | true =>
  have h' : (a.kind != 3) = false := by rw [bne, h]; rfl
  rw [if_pos (by rfl), h']
  rfl
 | false =>
  have h' : (a.kind != 3) = true := by rw [bne, h]; rfl
  rw [if_neg (by simp), h']
  rfl
theorem fun_len : strictM 6 lenT [a] = refC lenT a ⟨9, 0, []⟩ := by
 show fun1M lenT a = _
 unfold fun1M refC
 simp only [show (lenT == [115, 116, 114]) = false from rfl, show (lenT == [108, 101, 110]) = true from rfl, show (lenT == [110, 117, 109]) = false from rfl, show (lenT == strT) = false from rfl, show (lenT == lenT) = true from rfl, Bool.false_and, Bool.true_and, Bool.false_eq_true, if_false, if_true]
 cases h : a.kind == 2 with
 | true => rw [show (a.kind != 2) = false by rw [bne, h]; rfl]; rfl
 | false => rw [show (a.kind != 2) = true by rw [bne, h]; rfl]; rfl
theorem fun_num : strictM 6 numT [a] = refC numT a ⟨9, 0, []⟩ := by
 show fun1M numT a = _
 unfold fun1M refC
 simp only [show (numT == [115, 116, 114]) = false from rfl, show (numT == [108, 101, 110]) = false from rfl, show (numT == [110, 117, 109]) = true from rfl, show (numT == strT) = false from rfl, show (numT == lenT) = false from rfl, show (numT == numT) = true from rfl, Bool.false_and, Bool.true_and, Bool.false_eq_true, if_false, if_true]
 cases h : a.kind == 2 with
 | true => rw [show (a.kind != 2) = false by rw [bne, h]; rfl]; rfl
 | false => rw [show (a.kind != 2) = true by rw [bne, h]; rfl]; rfl
theorem fun_str (fa : Fine a) : strictM 6 strT [a] = refC strT a ⟨9, 0, []⟩ := by
 show fun1M strT a = _
 unfold fun1M refC
 simp only [show (strT == [115, 116, 114]) = true from rfl, show (strT == [108, 101, 110]) = false from rfl, show (strT == [110, 117, 109]) = false from rfl, show (strT == strT) = true from rfl, Bool.false_and, Bool.true_and, Bool.false_eq_true, if_false, if_true]
 cases h : a.kind == 1 with
 | true => rw [show (a.kind != 1) = false by rw [bne, h]; rfl, itoa_200 fa.lo fa.hi]; rfl
 | false => rw [show (a.kind != 1) = true by rw [bne, h]; rfl]; rfl
theorem fun_piece (fa : Fine a) {t : Str} (ht : t = leftT ∨ t = [114, 105, 103, 104, 116]) : strictM 6 t [a, b] = refC t a b := by
 show (if (!kindsM [a, b] [2, 1]) = true then wrongR 10 else (pieceM t a.s b.n, 0)) = _
 have e1 : (t == strT) = false := by rcases ht with rfl | rfl <;> rfl
 have e2 : (t == lenT) = false := by rcases ht with rfl | rfl <;> rfl
 have e3 : (t == numT) = false := by rcases ht with rfl | rfl <;> rfl
 unfold refC
 rw [e1, e2, e3]
 simp only [Bool.false_eq_true, if_false]
 have e : kindsM [a, b] [2, 1] = ((a.kind == 2) && (b.kind == 1)) := by simp [kindsM]
 rw [e]
 have hp := piece_ref (t := t) a b fa.len
 cases h : a.kind == 2 with
 | false => rw [show (a.kind != 2) = true by rw [bne, h]; rfl]; rfl
 | true =>
  rw [show (a.kind != 2) = false by rw [bne, h]; rfl]
  cases h2 : b.kind == 1 with
  | false => rw [show (b.kind != 1) = true by rw [bne, h2]; rfl]; rfl
  | true =>
   rw [show (b.kind != 1) = false by rw [bne, h2]; rfl]
   show (pieceM t a.s b.n, (0 : Int)) = refP t a b
   rw [hp.1, ← hp.2]
end
theorem fine9 {a : Val} : ((a.kind == 0) || ((⟨9, 0, []⟩ : Val).kind == 0)) = (a.kind == 0) := by simp
/-- The reference's way is the tree's value. -/
theorem ref_eq {c : List Col} {l : List Val} {e : Expr} (hn : nodeM e = true) (hf : ∀ y ∈ e.kids, Fine (evalE c l y).1 ∧ ErrNo (evalE c l y)) (h1 : (e.op == 1) = false) (h2 : (e.op == 2) = false) : evalE c l e = refF (e.kids.length : Int) e.op e.text (evalE c l (e.kids.getD 0 nullX)) (evalE c l (e.kids.getD 1 nullX)) (evalE c l (e.kids.getD 2 nullX)) := by
 cases node_cases hn with
 | val v hp h0 => cases h1
 | name t ht => cases h2
 | neg x =>
  obtain ⟨fa, _⟩ := hf x (by simp [oneX, Expr.kids])
  show allR (strictM 3 []) [evalE c l x] = refF 1 3 [] (evalE c l x) _ _
  rw [allR1]
  generalize evalE c l x = ra at fa ⊢
  unfold refF
  cases h : ra.2 != 0 with
  | true => rfl
  | false =>
   show _ = refG 3 [] ra.1 ⟨9, 0, []⟩
   unfold refG
   rw [fine9, one_neg fa]
   rfl
 | no x =>
  obtain ⟨fa, _⟩ := hf x (by simp [oneX, Expr.kids])
  show allR (strictM 4 []) [evalE c l x] = refF 1 4 [] (evalE c l x) _ _
  rw [allR1]
  generalize evalE c l x = ra at fa ⊢
  unfold refF
  cases h : ra.2 != 0 with
  | true => rfl
  | false =>
   show _ = refG 4 [] ra.1 ⟨9, 0, []⟩
   unfold refG
   rw [fine9, one_not]
   rfl
 | bin t x y ht =>
  obtain ⟨fa, ea⟩ := hf x (by simp [binX, Expr.kids])
  obtain ⟨fb, eb⟩ := hf y (by simp [binX, Expr.kids])
  show evalN strictM c l 5 t noV [evalE c l x, evalE c l y] = refF 2 5 t (evalE c l x) (evalE c l y) _
  generalize evalE c l x = ra at fa ea ⊢
  generalize evalE c l y = rb at fb eb ⊢
  have hlog : (t = orW ∨ t = andW) → logicR (boolV (t == orW)) ra rb = if (ra.2 != 0) = true then (noV, ra.2) else refL t ra.1 rb := fun h => by
   cases h5 : ra.2 != 0 with
   | true =>
    unfold logicR
    rw [truth_err h5, h5]
    simp only [Bool.true_or, if_true]
    exact rs_err ea h5
   | false =>
    rw [if_neg (by simp)]
    have e := rs_fine h5
    rw [e]
    exact logic_ref h fa fb eb
  unfold refF evalN
  simp only [show ((5 : Int) == 1) = false from rfl, show ((5 : Int) == 2) = false from rfl, show ((5 : Int) == 5) = true from rfl, show ((5 : Int) == 6) = false from rfl, Bool.true_and, Bool.false_and, Bool.false_eq_true, if_false]
  cases ho : t == orW with
  | true =>
   have et : t = orW := eq_of_beq ho
   have := hlog (.inl et)
   rw [ho] at this
   simp only [Bool.true_or, if_true]
   exact this
  | false =>
   cases hw : t == andW with
   | true =>
    have et : t = andW := eq_of_beq hw
    have := hlog (.inr et)
    rw [ho] at this
    simp only [Bool.false_or, Bool.false_eq_true, if_false, if_true]
    exact this
   | false =>
    simp only [Bool.false_or, Bool.false_eq_true, if_false]
    show allR (strictM 5 t) [ra, rb] = _
    rw [allR2]
    cases h5 : ra.2 != 0 with
    | true => rfl
    | false =>
     show _ = (if (rb.2 != 0) = true then (noV, rb.2) else refG 5 t ra.1 rb.1)
     rfl
 | call t k ha =>
  rcases call_names ha with ⟨e, hk⟩ | ⟨e, hk⟩ | ⟨e, hk⟩ | ⟨e, hk⟩ | ⟨e, hk⟩ | ⟨e, hk⟩ | ⟨e, hk⟩ | ⟨e, hk⟩ <;> subst e
  ·match k, hk with
   | [x], _ =>
    obtain ⟨fa, _⟩ := hf x (by simp [Expr.kids])
    show allR (strictM 6 lenT) [evalE c l x] = refF 1 6 lenT (evalE c l x) _ _
    rw [allR1, fun_len]
    cases h : (evalE c l x).2 != 0 with
    | true => unfold refF; rw [h]; rfl
    | false =>
     unfold refF
     rw [h]
     show _ = refG 6 lenT (evalE c l x).1 ⟨9, 0, []⟩
     unfold refG
     rw [fine9]
     rfl
  ·match k, hk with
   | [x], _ =>
    obtain ⟨fa, _⟩ := hf x (by simp [Expr.kids])
    show allR (strictM 6 strT) [evalE c l x] = refF 1 6 strT (evalE c l x) _ _
    rw [allR1, fun_str fa]
    cases h : (evalE c l x).2 != 0 with
    | true => unfold refF; rw [h]; rfl
    | false =>
     unfold refF
     rw [h]
     show _ = refG 6 strT (evalE c l x).1 ⟨9, 0, []⟩
     unfold refG
     rw [fine9]
     rfl
  ·match k, hk with
   | [x], _ =>
    obtain ⟨fa, _⟩ := hf x (by simp [Expr.kids])
    show allR (strictM 6 numT) [evalE c l x] = refF 1 6 numT (evalE c l x) _ _
    rw [allR1, fun_num]
    cases h : (evalE c l x).2 != 0 with
    | true => unfold refF; rw [h]; rfl
    | false =>
     unfold refF
     rw [h]
     show _ = refG 6 numT (evalE c l x).1 ⟨9, 0, []⟩
     unfold refG
     rw [fine9]
     rfl
  ·match k, hk with
   | [x], _ =>
    obtain ⟨fa, ea⟩ := hf x (by simp [Expr.kids])
    show callR isnullW (evalE c l x) (noV, 0) (noV, 0) = refF 1 6 isnullW (evalE c l x) _ _
    unfold callR refF
    cases h : (evalE c l x).2 != 0 with
    | true => rfl
    | false => rfl
  ·match k, hk with
   | [x, y], _ =>
    obtain ⟨fa, ea⟩ := hf x (by simp [Expr.kids])
    show callR nvlW (evalE c l x) (evalE c l y) (noV, 0) = refF 2 6 nvlW (evalE c l x) (evalE c l y) _
    unfold callR refF
    cases h : (evalE c l x).2 != 0 with
    | true => rfl
    | false => rfl
  ·match k, hk with
   | [x, y], _ =>
    obtain ⟨fa, _⟩ := hf x (by simp [Expr.kids])
    show allR (strictM 6 leftT) [evalE c l x, evalE c l y] = refF 2 6 leftT (evalE c l x) (evalE c l y) _
    rw [allR2, fun_piece fa (.inl rfl)]
    unfold refF
    cases h : (evalE c l x).2 != 0 with
    | true => rfl
    | false => rfl
  ·match k, hk with
   | [x, y], _ =>
    obtain ⟨fa, _⟩ := hf x (by simp [Expr.kids])
    show allR (strictM 6 [114, 105, 103, 104, 116]) [evalE c l x, evalE c l y] = refF 2 6 [114, 105, 103, 104, 116] (evalE c l x) (evalE c l y) _
    rw [allR2, fun_piece fa (.inr rfl)]
    unfold refF
    cases h : (evalE c l x).2 != 0 with
    | true => rfl
    | false => rfl
  match k, hk with
  | [x, y, z], _ =>
   obtain ⟨fa, ea⟩ := hf x (by simp [Expr.kids])
   show callR ifW (evalE c l x) (evalE c l y) (evalE c l z) = refF 3 6 ifW (evalE c l x) (evalE c l y) (evalE c l z)
   unfold refF
   cases h : (evalE c l x).2 != 0 with
   | true =>
    unfold callR
    rw [truth_err h, h]
    rfl
   | false =>
    rw [if_ref fa h]
    rfl
set_option maxRecDepth 4000
theorem size_abs6 {a : Int} (h : i64R a) : sizeI a = (a.natAbs : Int) := size_abs h.1 h.2
theorem halves {u : Int} (h : 0 ≤ u) (h2 : u < 18446744073709551616) : IntKind.u64.wrap (IntKind.u64.wrap (IntKind.u64.wrap (u.tdiv 4294967296) * 4294967296) + u.tmod 4294967296) = u := by
 simp only [IntKind.wrap_u64]
 rw [Int.tdiv_eq_ediv_of_nonneg h, Int.tmod_eq_emod_of_nonneg h]
 omega
/-- How far the digits have come. -/
def DG (n : Nat) (x : Nat × Str) : Prop := (x.1 = n ∧ x.2 = []) ∨ (x.2 ≠ [] ∧ (if x.1 = 0 then [] else Lib.decDigits x.1) ++ x.2 = Lib.decDigits n)
theorem DG.step {n : Nat} {x : Nat × Str} (h : DG n x) (hc : 0 < x.1 ∨ x.2 = []) : DG n (x.1 / 10, UInt8.ofNat (48 + x.1 % 10) :: x.2) := by
 obtain ⟨u, s⟩ := x
 refine .inr ⟨by simp, ?_⟩
 simp only at *
 have key : (if u / 10 = 0 then [] else Lib.decDigits (u / 10)) ++ [UInt8.ofNat (48 + u % 10)] = Lib.decDigits u := by
  rw [Lib.decDigits.eq_1 u]
  by_cases h10 : u < 10
  ·rw [dif_pos h10, if_pos (by omega), Nat.mod_eq_of_lt h10]; rfl
  rw [dif_neg h10, if_neg (by omega)]
 rw [show UInt8.ofNat (48 + u % 10) :: s = [UInt8.ofNat (48 + u % 10)] ++ s from rfl, ← List.append_assoc, key]
 rcases h with ⟨h1, h2⟩ | ⟨h1, h2⟩
 ·simp only at h1 h2
  rw [h1, h2, List.append_nil]
 simp only at h1 h2
 rw [← h2, if_neg (by rcases hc with hc | hc; omega; exact absurd hc h1)]
theorem DG.done {n : Nat} {x : Nat × Str} (h : DG n x) (h1 : ¬ 0 < x.1) (h2 : x.2 ≠ []) : x.2 = Lib.decDigits n := by
 rcases h with ⟨_, h⟩ | ⟨_, h⟩
 ·exact absurd h h2
 rw [if_pos (by omega)] at h
 simpa using h
theorem DG.len {n : Nat} {x : Nat × Str} (h : DG n x) (hn : n ≤ 9223372036854775808) : x.2.length ≤ 21 := by
 have h2 : (Lib.decDigits n).length ≤ 21 := by
  have := Lib.itoa_length_le (-(n : Int)) (by omega) (by omega)
  unfold Lib.itoa at this
  split at this
  ·have e : (-(n : Int)).natAbs = n := by omega
   rw [e] at this
   simp at this
   omega
  have : n = 0 := by omega
  rw [this]
  rw [Lib.decDigits_one (by omega)]
  simp
 rcases h with ⟨_, h⟩ | ⟨_, h⟩
 ·rw [h]; simp
 have := congrArg List.length h
 rw [List.length_append] at this
 omega
theorem DG.le {n : Nat} {x : Nat × Str} (h : x.1 ≤ n) : x.1 / 10 ≤ n := by omega
theorem dig8 (u : Nat) : IntKind.u8.wrap (48 + IntKind.u8.wrap ((u : Int).tmod 10)) = ((UInt8.ofNat (48 + u % 10)).toNat : Int) := by
 rw [Int.tmod_eq_emod_of_nonneg (by omega)]
 simp [IntKind.wrap, IntKind.bits, IntKind.signed, UInt8.toNat_ofNat']
theorem quo10 {u n : Nat} (h : u ≤ n) (hn : n ≤ 9223372036854775808) : IntKind.u64.wrap ((u : Int).tdiv 10) = ((u / 10 : Nat) : Int) := by
 rw [Int.tdiv_eq_ediv_of_nonneg (by omega), IntKind.wrap_u64]
 omega
theorem itoa_abs (a : Int) : Lib.itoa a = if decide (a < 0) then 45 :: Lib.decDigits a.natAbs else Lib.decDigits a.natAbs := by
 unfold Lib.itoa
 by_cases h : a < 0
 ·simp [h]
 have : a.toNat = a.natAbs := by omega
 simp [h, this]
theorem c43 (a : Int) (ha : i64R a) (Hp : List AObj) : AFun Tryz.prog 43 [intA a] Hp (strA (Lib.itoa a)) := by
 have hs := size_abs6 ha
 have hn : a.natAbs ≤ 9223372036854775808 := by have := ha.1; have := ha.2; omega
 have hh := halves (u := sizeI a) (by rw [hs]; omega) (by rw [hs]; omega)
 refine ACall.body [.tmp 2] [0] Tryz.func43 Tryz.ntmps43 (fun d => ?_)
 refine Z361 ?_;refine R.call Tryz.call42 (c42 a _) ?_;refine Z22 ?_;refine R.fin [3] ?_;refine Z396 ?_;refine Z100 ?_;refine Z427 ?_;refine R.mul ?_;refine Z61 ?_;refine Z427 ?_;refine R.add ?_
 rw [hh, hs]
 refine Z404 ?_;refine R.fin [3, 4] ?_;refine Z3 ?_;refine R.fin [3, 4, 5] ?_;refine W.seq ?_
 refine AW.loopC (α := Nat × Str) (fun x => ⟨37, setF 3 (.ptr (oid Hp.length 0) 0) (setF 4 (u64A (x.1 : Nat)) (setF 5 (strA x.2) (fun _ => .any))), Hp, [.cells 71 (wideC a)], [], none⟩) (fun x => x.1 ≤ a.natAbs ∧ DG a.natAbs x) (fun x => 2 * x.1 + (if x.2 = [] then 1 else 0)) ((a.natAbs, [])) ⟨Nat.le_refl _, .inl ⟨rfl, rfl⟩⟩ (StLe.of_eq (by simp)) rfl (fun x hx => ?_)
 refine Z14 ?_;refine R.gtr ?_;refine Z21 ?_;refine Z345 ?_;refine R.fin [3, 4, 5, 21] ?_
 refine W.cond (fun ht21 => ?_) (fun ht21 => ?_)
 ·have hc : 0 < x.1 ∨ x.2 = [] := by
   have h := ht21
   simp only [Bool.or_eq_true, decide_eq_true_eq, beq_iff_eq] at h
   rcases h with h | h
   ·exact .inl (by omega)
   exact .inr h
  have hl21 := hx.2.len hn
  refine Z389 ?_;refine Z0 ?_;refine R.rem ?_;refine Z408 ?_;refine R.add ?_;refine R.buildSl jU jS jZ ?_
  rw [dig8]
  refine R.bytesStr [UInt8.ofNat (48 + x.1 % 10)] jU jU jU ?_;refine Z405 ?_
  refine R.sadd (hl := by simp only [List.length_cons, List.length_nil]; omega) ?_
  refine Z404 ?_;refine R.fin [3, 4, 5] ?_;refine Z351 ?_
  rw [quo10 hx.1 hn]
  refine Z404 ?_;refine R.fin [3, 4, 5] ?_;refine K.blN ?_
  refine K.lpN (x.1 / 10, UInt8.ofNat (48 + x.1 % 10) :: x.2) ⟨DG.le hx.1, hx.2.step hc⟩ (by rw [if_neg (by simp)]; rcases hc with h | h; omega; rw [if_pos h]; omega) (StCut.of_eq rfl)
 have hl21 := hx.2.len hn
 have hD : x.2 = Lib.decDigits a.natAbs := by
  have h := ht21
  simp only [Bool.or_eq_false_iff, decide_eq_false_iff_not, beq_eq_false_iff_ne] at h
  exact hx.2.done (by omega) h.2
 refine Z90 ?_;refine Z11 ?_;refine Z77 ?_;refine R.fin [5, 33] ?_
 refine W.cond (fun ht33 => ?_) (fun ht33 => ?_)
 ·have hm := itoa_abs a
  rw [if_pos ht33] at hm
  refine Z31 ?_
  refine R.sadd (hl := by simp only [List.length_cons, List.length_nil]; omega) ?_
  refine Z404 ?_;refine R.fin [5] ?_;refine K.thN ?_;refine Z0 ?_;exact Z340
 have hm := itoa_abs a
 rw [if_neg (by rw [ht33]; simp)] at hm
 refine Z149 ?_;exact Z340

theorem val_eqb (v s : Val) : (v.kind == s.kind && v.n == s.n && v.s == s.s) = (v == s) := val_is v s.kind s.n s.s
theorem len_nvl {x : Expr} (k6 : x.op = 6 → arityM x.text = (x.kids.length : Int)) (h : (x.op == 6) = true) (ht : (x.text == nvlW) = true) : 1 < x.kids.length := by
 have e := eq_of_beq ht
 rcases call_names (k6 (eq_of_beq h)) with ⟨q, _⟩ | ⟨q, _⟩ | ⟨q, _⟩ | ⟨q, _⟩ | ⟨_, q⟩ | ⟨q, _⟩ | ⟨q, _⟩ | ⟨q, _⟩
 all_goals first | omega | (rw [e] at q; exact absurd q (by decide))
theorem len_if {x : Expr} (k6 : x.op = 6 → arityM x.text = (x.kids.length : Int)) (h : (x.op == 6) = true) (ht : (x.text == ifW) = true) : 2 < x.kids.length := by
 have e := eq_of_beq ht
 rcases call_names (k6 (eq_of_beq h)) with ⟨q, _⟩ | ⟨q, _⟩ | ⟨q, _⟩ | ⟨q, _⟩ | ⟨q, _⟩ | ⟨q, _⟩ | ⟨q, _⟩ | ⟨_, q⟩
 all_goals first | omega | (rw [e] at q; exact absurd q (by decide))
theorem clamp_1 {n : Int} {k : Nat} (h : decide (n < 0) = true) : clampI n k = ((0 : Nat) : Int) := if_pos h
theorem clamp_2 {n : Int} {k : Nat} (h : decide (n < 0) = false) (h2 : decide (n < (k : Int)) = true) : clampI n k = n := by unfold clampI; rw [if_neg (by rw [h]; simp), if_pos h2]
theorem clamp_3 {n : Int} {k : Nat} (h : decide (n < 0) = false) (h2 : decide (n < (k : Int)) = false) : clampI n k = k := by unfold clampI; rw [if_neg (by rw [h]; simp), if_neg (by rw [h2]; simp)]
theorem getD_val {l : List Val} {i : Nat} (h : i < l.length) : (l.map valA)[i]? = some (valA (l.getD i noV)) := by
 rw [List.getElem?_map, List.getElem?_eq_getElem h, List.getD_eq_getElem?_getD, List.getElem?_eq_getElem h]
 rfl
set_option maxHeartbeats 8000000 in
theorem c15 (c : List Col) (l : List Val) (hc : OkCols c) (hl : l.length = c.length) (hf : ∀ v ∈ l, Fine v) : ∀ (n : Nat) (x : Expr), okE n x → allE nodeM x = true → allE rngN x = true → ∀ Hp : List AObj, AFun Tryz.prog 15 [exprA x, colsA c, valsA l] Hp (resA (evalE c l x)) := by
 intro n
 induction n with
 | zero => exact fun x h => h.elim
 | succ n ih =>
 intro x hok hnode hrng Hp
 have hn0 := hnode
 have hr0 := hrng
 rw [allE_eq, Bool.and_eq_true] at hn0 hr0
 have hev : ∀ y ∈ x.kids, ∀ Hp : List AObj, AFun Tryz.prog 15 [exprA y, colsA c, valsA l] Hp (resA (evalE c l y)) := fun y hy => ih y (hok.2.2 y hy) ((allL_iff _ _).1 hn0.2 y hy) ((allL_iff _ _).1 hr0.2 y hy)
 have hfe : ∀ y ∈ x.kids, Fine (evalE c l y).1 ∧ ErrNo (evalE c l y) := fun y hy => ⟨fine_eval hf y (val_all y ((allL_iff _ _).1 hn0.2 y hy)) ((allL_iff _ _).1 hr0.2 y hy), errNo_eval c l _ y (Nat.le_refl _)⟩
 obtain ⟨k5, k34, k6, kall⟩ := kids_len hn0.1
 have hev0 : evalE c l x = evalN strictM c l x.op x.text x.val (x.kids.map (evalE c l)) := evalS_eq _ _ _ _
 refine ACall.body [.cell 6 23, .tmp 7] [0, 1, 2] Tryz.func15 Tryz.ntmps15 (fun d => ?_)
 refine Z283 ?_;refine R.fin [1, 2, 3, 6] ?_;refine Z71 ?_;refine Z22 ?_;refine R.fin [1, 2, 3, 6, 8] ?_;refine Z33 ?_;refine Z249 ?_;refine R.fin [1, 2, 3, 6, 8, 23] ?_
 refine W.cond (fun ht23 => ?_) (fun ht23 => ?_)
 ·have hm : evalE c l x = (x.val, 0) := by rw [hev0]; unfold evalN; rw [if_pos ht23]
  refine Z396 ?_;refine Z96 ?_;refine Z1 ?_;refine Z6 ?_;exact Z19
 refine Z249 ?_;refine R.fin [1, 2, 3, 6, 8, 29] ?_
 refine W.cond (fun ht29 => ?_) (fun ht29 => ?_)
 ·have hm0 : evalE c l x = nameR c l x.text := by rw [hev0]; unfold evalN; rw [if_neg (by rw [ht23]; simp), if_pos ht29]
  refine Z0 ?_;refine Z15 ?_;refine R.call Tryz.call37 (c37 c hc x.text _) ?_;refine Z404 ?_;refine R.fin [2, 6, 8, 9] ?_;refine Z151 ?_;refine R.fin [2, 6, 8, 9, 38] ?_
  refine W.cond (fun ht38 => ?_) (fun ht38 => ?_)
  ·have hm : evalE c l x = (noV, 9) := by rw [hm0]; exact if_pos (by simpa using ht38)
   refine Z72 ?_;exact Z19
  have hnn : ¬ findM x.text c < 0 := by simpa using ht38
  obtain ⟨j, hj, hjc⟩ := find_col hnn
  have hm : evalE c l x = (l.getD j noV, 0) := by
   rw [hm0]
   unfold nameR
   rw [if_neg hnn, hj]
   rfl
  rw [hj]
  refine Z326 ?_;refine R.indexAddr (j) (valA (l.getD j noV)) jU jS (getD_val (by omega)) ?_;refine Z407 ?_;refine Z1 ?_;refine Z6 ?_;exact Z19
 have href := ref_eq hn0.1 hfe ht23 ht29
 clear hev0
 simp only [refF, refL, refB, refG, refC, ifW, nvlW, isnullW, orW, andW, strT, lenT, numT, leftT] at href
 have hk0 : 0 < x.kids.length := by
  simp only [beq_eq_false_iff_ne, ne_eq] at ht23 ht29
  rcases kall with h | h | h | h | h | h
  ·exact absurd h ht23
  ·exact absurd h ht29
  ·have := k34 (.inl h); omega
  ·have := k34 (.inr h); omega
  ·have := k5 h; omega
  have := k6 h
  rcases call_names this with ⟨_, e⟩ | ⟨_, e⟩ | ⟨_, e⟩ | ⟨_, e⟩ | ⟨_, e⟩ | ⟨_, e⟩ | ⟨_, e⟩ | ⟨_, e⟩ <;> omega
 have fa := (hfe _ (getD_in hk0)).1
 refine Z30 ?_;refine Z134 ?_;refine R.indexAddr (0) (exprA (x.kids.getD 0 nullX)) jU jS (getE_at hk0) ?_;refine Z407 ?_;refine Z56 ?_;refine R.call Tryz.call15 (hev (x.kids.getD 0 nullX) (getD_in hk0) _) ?_;refine Z112 ?_;refine R.fin [1, 2, 3, 6, 8, 10, 11] ?_;refine Z98 ?_;refine R.fin [1, 2, 3, 6, 8, 10, 11, 55] ?_
 refine W.cond (fun ht55 => ?_) (fun ht55 => ?_)
 ·refine Z243 ?_
  simp only [*, ↓reduceIte, Bool.false_eq_true, Bool.not_true, Bool.not_false] at href
  exact Z452
 refine Z38 ?_;refine Z354 ?_;refine Z226 ?_;refine Z404 ?_;refine R.fin [1, 2, 3, 6, 8, 10, 12] ?_;refine Z337 ?_;refine Z247 ?_;refine G.move ?_;refine Z128 ?_;refine G.pickOr ?_;refine Z398 ?_;refine R.fin [1, 2, 3, 6, 8, 10, 12, 78] ?_
 refine W.cond (fun ht78 => ?_) (fun ht78 => ?_)
 ·have hk2l : x.kids.length = 2 := k5 (by simp only [Bool.and_eq_true, beq_iff_eq] at ht78; exact ht78.1)
  refine Z396 ?_;refine Z119 ?_;refine R.call Tryz.call38 (c38 _ _) ?_;refine Z22 ?_;refine R.fin [1, 2, 3, 6, 8, 10, 12, 13] ?_;refine Z14 ?_;refine R.not ?_;refine R.fin [1, 2, 3, 6, 8, 10, 13, 84] ?_
  refine W.cond (fun ht84 => ?_) (fun ht84 => ?_)
  ·refine Z120 ?_
   simp only [*, ↓reduceIte, Bool.false_eq_true, Bool.not_true, Bool.not_false] at href
   exact Z452
  refine Z2 ?_;refine W.seq ?_;refine Z7 ?_;refine Z430 ?_;refine R.eqlAgg eg23 (fun w => equal23 (evalE c l (x.kids.getD 0 nullX)).1.kind (evalE c l (x.kids.getD 0 nullX)).1.n (boolV (x.text == [111, 114])).kind (boolV (x.text == [111, 114])).n (evalE c l (x.kids.getD 0 nullX)).1.s (boolV (x.text == [111, 114])).s w) ?_;refine R.fin [1, 2, 3, 6, 8, 10, 13, 88] ?_
  refine W.cond (fun ht88 => ?_) (fun ht88 => ?_)
  ·rw [val_eqb] at ht88
   refine Z120 ?_
   simp only [*, ↓reduceIte, Bool.false_eq_true, Bool.not_true, Bool.not_false] at href
   exact Z452
  rw [val_eqb] at ht88
  refine Z38 ?_;refine Z16 ?_;refine R.indexAddr (1) (exprA (x.kids.getD 1 nullX)) jU jS (getE_at (by omega)) ?_;refine Z407 ?_;refine Z56 ?_;refine R.call Tryz.call15 (hev (x.kids.getD 1 nullX) (getD_in (by omega)) _) ?_;refine Z112 ?_;refine R.fin [3, 6, 8, 10, 13, 14, 15] ?_;refine Z98 ?_;refine R.fin [3, 6, 8, 10, 13, 14, 15, 101] ?_
  refine W.cond (fun ht101 => ?_) (fun ht101 => ?_)
  ·refine Z243 ?_;refine K.thR ?_
   simp only [*, ↓reduceIte, Bool.false_eq_true, Bool.not_true, Bool.not_false] at href
   exact Z452
  refine Z50 ?_;refine Z85 ?_;refine Z405 ?_;refine Z35 ?_;refine G.neq ?_;refine Z398 ?_;refine R.fin [3, 6, 8, 10, 13, 14, 111] ?_
  refine W.cond (fun ht111 => ?_) (fun ht111 => ?_)
  ·refine Z120 ?_
   simp only [*, ↓reduceIte, Bool.false_eq_true, Bool.not_true, Bool.not_false] at href
   exact Z452
  refine Z2 ?_;refine W.seq ?_;refine Z7 ?_;refine Z430 ?_;refine R.eqlAgg eg23 (fun w => equal23 (evalE c l (x.kids.getD 1 nullX)).1.kind (evalE c l (x.kids.getD 1 nullX)).1.n (boolV (x.text == [111, 114])).kind (boolV (x.text == [111, 114])).n (evalE c l (x.kids.getD 1 nullX)).1.s (boolV (x.text == [111, 114])).s w) ?_;refine R.fin [3, 6, 8, 10, 14, 115] ?_
  refine W.cond (fun ht115 => ?_) (fun ht115 => ?_)
  ·rw [val_eqb] at ht115
   refine Z120 ?_
   simp only [*, ↓reduceIte, Bool.false_eq_true, Bool.not_true, Bool.not_false] at href
   exact Z452
  rw [val_eqb] at ht115
  refine Z50 ?_;refine Z354 ?_;refine Z226 ?_;refine R.fin [3, 6, 8, 124] ?_
  refine W.cond (fun ht124 => ?_) (fun ht124 => ?_)
  ·refine Z120 ?_
   simp only [*, ↓reduceIte, Bool.false_eq_true, Bool.not_true, Bool.not_false] at href
   exact Z452
  refine Z38 ?_;refine Z119 ?_;refine Z167 ?_
  simp only [*, ↓reduceIte, Bool.false_eq_true, Bool.not_true, Bool.not_false] at href
  exact Z452
 have h78 : (x.op == 5) = true → ((x.text == [111, 114]) || (x.text == [97, 110, 100])) = false := fun h => by rw [h] at ht78; exact ht78
 refine Z158 ?_;refine R.fin [1, 2, 3, 6, 8, 10, 12, 132] ?_
 refine W.cond (fun ht132 => ?_) (fun ht132 => ?_)
 ·refine Z171 ?_;refine R.fin [1, 2, 3, 6, 8, 10, 12, 134] ?_;refine Z206 ?_;refine R.fin [1, 2, 3, 6, 8, 10, 12, 134, 135] ?_
  refine W.cond (fun ht135 => ?_) (fun ht135 => ?_)
  ·refine Z280 ?_;refine R.eql ?_;refine Z160 ?_
   simp only [*, ↓reduceIte, Bool.false_eq_true, Bool.not_true, Bool.not_false] at href
   exact Z452
  refine Z41 ?_;refine R.fin [1, 2, 3, 6, 8, 10, 12, 134, 141] ?_
  refine W.cond (fun ht141 => ?_) (fun ht141 => ?_)
  ·have hk1 : 1 < x.kids.length := len_nvl k6 ht132 ht141
   refine Z131 ?_;refine R.fin [1, 2, 3, 6, 10, 145] ?_
   refine W.cond (fun ht145 => ?_) (fun ht145 => ?_)
   ·refine Z72 ?_;refine Z5 ?_
    simp only [*, ↓reduceIte, Bool.false_eq_true, Bool.not_true, Bool.not_false] at href
    exact Z452
   refine Z38 ?_;refine Z16 ?_;refine Z135 ?_;refine Z152 ?_;refine Z273 ?_
   simp only [*, ↓reduceIte, Bool.false_eq_true, Bool.not_true, Bool.not_false] at href
   exact Z452
  refine Z41 ?_;refine R.fin [1, 2, 3, 6, 8, 10, 12, 156] ?_
  refine W.cond (fun ht156 => ?_) (fun ht156 => ?_)
  ·have hk2 : 2 < x.kids.length := len_if k6 ht132 ht156
   have hk1 : 1 < x.kids.length := by omega
   refine Z14 ?_;refine R.not ?_;refine R.fin [1, 2, 3, 6, 8, 10, 159] ?_
   refine W.cond (fun ht159 => ?_) (fun ht159 => ?_)
   ·refine Z72 ?_;refine Z5 ?_
    simp only [*, ↓reduceIte, Bool.false_eq_true, Bool.not_true, Bool.not_false] at href
    exact Z452
   refine Z50 ?_;refine Z24 ?_;refine R.eql ?_;refine R.fin [1, 2, 3, 6, 163] ?_
   refine W.cond (fun ht163 => ?_) (fun ht163 => ?_)
   ·refine Z134 ?_;refine Z135 ?_;refine Z152 ?_;refine Z324 ?_;refine Z5 ?_
    simp only [*, ↓reduceIte, Bool.false_eq_true, Bool.not_true, Bool.not_false] at href
    exact Z452
   refine Z38 ?_;refine Z16 ?_;refine R.indexAddr (2) (exprA (x.kids.getD 2 nullX)) jU jS (getE_at hk2) ?_;refine Z407 ?_;refine Z56 ?_;refine R.call Tryz.call15 (hev (x.kids.getD 2 nullX) (getD_in hk2) _) ?_;refine Z273 ?_
   simp only [*, ↓reduceIte, Bool.false_eq_true, Bool.not_true, Bool.not_false] at href
   exact Z452
  refine Z30 ?_;refine Z71 ?_;refine Z22 ?_;refine R.fin [1, 2, 3, 6, 8, 10, 16] ?_;refine Z11 ?_;refine Z16 ?_;refine R.len jU ?_;refine R.eql ?_;refine R.fin [1, 2, 3, 6, 8, 10, 16, 186] ?_
  refine W.cond (fun ht186 => ?_) (fun ht186 => ?_)
  ·rw [List.length_map] at ht186
   have hk1 : 1 < x.kids.length := by simp only [beq_iff_eq] at ht186; omega
   refine Z134 ?_;refine Z135 ?_;refine Z152 ?_;refine Z112 ?_;refine R.fin [3, 6, 8, 10, 16, 17, 18] ?_;refine Z98 ?_;refine R.fin [3, 6, 8, 10, 16, 17, 18, 198] ?_
   refine W.cond (fun ht198 => ?_) (fun ht198 => ?_)
   ·refine Z243 ?_;refine K.thR ?_
    simp only [*, ↓reduceIte, Bool.false_eq_true, Bool.not_true, Bool.not_false] at href
    exact Z452
   have fb := (hfe _ (getD_in hk1)).1
   refine Z370 ?_;refine Z176 ?_;refine R.fin [3, 6, 8, 10, 16] ?_;refine Z219 ?_;refine Z354 ?_;refine Z257 ?_
   refine W.cond (fun ht209 => ?_) (fun ht209 => ?_)
   ·refine Z72 ?_
    simp only [*, ↓reduceIte, Bool.false_eq_true, Bool.not_true, Bool.not_false] at href
    exact Z452
   refine Z258 ?_
   refine W.cond (fun ht213 => ?_) (fun ht213 => ?_)
   ·exact Z453
   refine Z259 ?_
   refine W.cond (fun ht223 => ?_) (fun ht223 => ?_)
   ·refine Z309 ?_
    refine W.cond (fun ht226 => ?_) (fun ht226 => ?_)
    ·refine Z120 ?_
     simp only [*, ↓reduceIte, Bool.false_eq_true, Bool.not_true, Bool.not_false] at href
     exact Z452
    refine Z277 ?_;refine Z174 ?_;refine Z324 ?_
    simp only [*, ↓reduceIte, Bool.false_eq_true, Bool.not_true, Bool.not_false] at href
    exact Z452
   refine Z260 ?_
   refine W.cond (fun ht237 => ?_) (fun ht237 => ?_)
   ·refine Z310 ?_
    refine W.cond (fun ht240 => ?_) (fun ht240 => ?_)
    ·refine Z120 ?_
     simp only [*, ↓reduceIte, Bool.false_eq_true, Bool.not_true, Bool.not_false] at href
     exact Z452
    refine Z277 ?_;refine R.eql ?_;refine Z167 ?_
    simp only [*, ↓reduceIte, Bool.false_eq_true, Bool.not_true, Bool.not_false] at href
    exact Z452
   refine Z50 ?_;refine Z261 ?_
   refine W.cond (fun ht248 => ?_) (fun ht248 => ?_)
   ·refine Z311 ?_
    refine W.cond (fun ht251 => ?_) (fun ht251 => ?_)
    ·refine Z120 ?_
     simp only [*, ↓reduceIte, Bool.false_eq_true, Bool.not_true, Bool.not_false] at href
     exact Z452
    refine Z38 ?_;refine Z130 ?_;refine Z132 ?_
    simp only [*, ↓reduceIte, Bool.false_eq_true, Bool.not_true, Bool.not_false] at href
    exact Z452
   refine Z50 ?_;refine Z269 ?_
   refine W.cond (fun ht259 => ?_) (fun ht259 => ?_)
   ·refine Z72 ?_
    simp only [*, ↓reduceIte, Bool.false_eq_true, Bool.not_true, Bool.not_false] at href
    exact Z452
   refine Z50 ?_;refine Z15 ?_;refine Z262 ?_
   refine W.cond (fun ht263 => ?_) (fun ht263 => ?_)
   ·refine Z99 ?_;refine Z397 ?_;refine Z278 ?_
    simp only [*, ↓reduceIte, Bool.false_eq_true, Bool.not_true, Bool.not_false] at href
    exact Z452
   refine Z270 ?_
   refine W.cond (fun ht269 => ?_) (fun ht269 => ?_)
   ·refine Z99 ?_
    refine R.call Tryz.call44 (c44 (evalE c l (x.kids.getD 0 nullX)).1.s (by have := fa.len; omega) _) ?_
    refine Z315 ?_;refine Z284 ?_
    refine W.cond (fun ht278 => ?_) (fun ht278 => ?_)
    ·refine Z243 ?_;refine Z5 ?_
     simp only [*, ↓reduceIte, Bool.false_eq_true, Bool.not_true, Bool.not_false] at href
     exact Z452
    refine Z149 ?_;refine Z278 ?_
    simp only [*, ↓reduceIte, Bool.false_eq_true, Bool.not_true, Bool.not_false] at href
    exact Z452
   refine Z30 ?_;refine Z263 ?_
   refine W.cond (fun ht285 => ?_) (fun ht285 => ?_)
   ·refine Z72 ?_
    simp only [*, ↓reduceIte, Bool.false_eq_true, Bool.not_true, Bool.not_false] at href
    exact Z452
   refine Z215 ?_;refine Z397 ?_;refine Z248 ?_;refine Z11 ?_;refine Z24 ?_;refine Z405 ?_;refine R.lss ?_;refine R.fin [3, 6, 10, 16, 21, 293] ?_
   refine W.cond (fun ht293 => ?_) (fun ht293 => ?_)
   ·obtain ⟨m1, hm1⟩ : ∃ m1 : Int, m1 = (evalE c l (x.kids.getD 1 nullX)).1.n := ⟨_, rfl⟩
    refine Z411 ?_;refine Z24 ?_;refine Z248 ?_;refine Z219 ?_;refine Z24 ?_;refine Z265 ?_
    refine W.cond (fun ht298 => ?_) (fun ht298 => ?_)
    ·obtain ⟨n0, hI0⟩ : ∃ n0 : Nat, n0 = 0 := ⟨_, rfl⟩
     have hcl : clampI (evalE c l (x.kids.getD 1 nullX)).1.n (((evalE c l (x.kids.getD 0 nullX)).1.s.length : Nat) : Int) = ((n0 : Nat) : Int) := by rw [hI0]; exact clamp_1 ht298
     have hI : ((n0 : Nat) : Int) = 0 := by omega
     have hn0l : n0 ≤ (evalE c l (x.kids.getD 0 nullX)).1.s.length := by omega
     refine Z306 ?_;refine Z219 ?_
     refine R.wk 21 (intA (n0 : Nat)) (by first | (rw [hI, hm1]; exact Le.refl _) | (rw [hI]; exact Le.refl _)) ?_
     refine Z137 ?_
     refine W.cond (fun ht301 => ?_) (fun ht301 => ?_)
     ·refine Z237 ?_
      simp only [ht23, ht29, ht55, ht78, ht132, ht135, ht141, ht156, ht186, ht198, ht209, ht213, ht223, ht237, ht248, ht259, ht263, ht269, ht285, ht293, ht298, ht301, ↓reduceIte, Bool.false_eq_true, Bool.not_true, Bool.not_false, refP, leftT, Bool.false_and, hcl, Int.toNat_natCast] at href
      exact Z452
     refine Z245 ?_
     refine R.sub64 (h1 := by omega) (h2 := by have := fa.len; omega) ?_
     rw [show (((evalE c l (x.kids.getD 0 nullX)).1.s.length : Int) - (n0 : Int)) = (((evalE c l (x.kids.getD 0 nullX)).1.s.length - n0 : Nat) : Int) by omega]
     refine Z287 ?_
     simp only [ht23, ht29, ht55, ht78, ht132, ht135, ht141, ht156, ht186, ht198, ht209, ht213, ht223, ht237, ht248, ht259, ht263, ht269, ht285, ht293, ht298, ht301, ↓reduceIte, Bool.false_eq_true, Bool.not_true, Bool.not_false, refP, leftT, Bool.false_and, hcl, Int.toNat_natCast] at href
     exact Z452
    obtain ⟨n0, hI⟩ : ∃ n0 : Nat, (n0 : Int) = m1 := ⟨m1.toNat, by have := of_decide_eq_false ht298; omega⟩
    have hcl : clampI (evalE c l (x.kids.getD 1 nullX)).1.n (((evalE c l (x.kids.getD 0 nullX)).1.s.length : Nat) : Int) = ((n0 : Nat) : Int) := by rw [hI, hm1]; first | exact clamp_2 ht298 ht293 | exact clamp_3 ht298 ht293
    have hn0l : n0 ≤ (evalE c l (x.kids.getD 0 nullX)).1.s.length := by first | (have := of_decide_eq_true ht293; omega) | (have := of_decide_eq_false ht293; omega)
    refine Z50 ?_
    refine R.wk 21 (intA (n0 : Nat)) (by first | (rw [hI, hm1]; exact Le.refl _) | (rw [hI]; exact Le.refl _)) ?_
    refine Z137 ?_
    refine W.cond (fun ht301 => ?_) (fun ht301 => ?_)
    ·refine Z237 ?_
     simp only [ht23, ht29, ht55, ht78, ht132, ht135, ht141, ht156, ht186, ht198, ht209, ht213, ht223, ht237, ht248, ht259, ht263, ht269, ht285, ht293, ht298, ht301, ↓reduceIte, Bool.false_eq_true, Bool.not_true, Bool.not_false, refP, leftT, Bool.false_and, hcl, Int.toNat_natCast] at href
     exact Z452
    refine Z245 ?_
    refine R.sub64 (h1 := by omega) (h2 := by have := fa.len; omega) ?_
    rw [show (((evalE c l (x.kids.getD 0 nullX)).1.s.length : Int) - (n0 : Int)) = (((evalE c l (x.kids.getD 0 nullX)).1.s.length - n0 : Nat) : Int) by omega]
    refine Z287 ?_
    simp only [ht23, ht29, ht55, ht78, ht132, ht135, ht141, ht156, ht186, ht198, ht209, ht213, ht223, ht237, ht248, ht259, ht263, ht269, ht285, ht293, ht298, ht301, ↓reduceIte, Bool.false_eq_true, Bool.not_true, Bool.not_false, refP, leftT, Bool.false_and, hcl, Int.toNat_natCast] at href
    exact Z452
   obtain ⟨m1, hm1⟩ : ∃ m1 : Int, m1 = (((evalE c l (x.kids.getD 0 nullX)).1.s.length : Nat) : Int) := ⟨_, rfl⟩
   refine Z50 ?_;refine Z24 ?_;refine Z265 ?_
   refine W.cond (fun ht298 => ?_) (fun ht298 => ?_)
   ·obtain ⟨n0, hI0⟩ : ∃ n0 : Nat, n0 = 0 := ⟨_, rfl⟩
    have hcl : clampI (evalE c l (x.kids.getD 1 nullX)).1.n (((evalE c l (x.kids.getD 0 nullX)).1.s.length : Nat) : Int) = ((n0 : Nat) : Int) := by rw [hI0]; exact clamp_1 ht298
    have hI : ((n0 : Nat) : Int) = 0 := by omega
    have hn0l : n0 ≤ (evalE c l (x.kids.getD 0 nullX)).1.s.length := by omega
    refine Z306 ?_;refine Z219 ?_
    refine R.wk 21 (intA (n0 : Nat)) (by first | (rw [hI, hm1]; exact Le.refl _) | (rw [hI]; exact Le.refl _)) ?_
    refine Z137 ?_
    refine W.cond (fun ht301 => ?_) (fun ht301 => ?_)
    ·refine Z237 ?_
     simp only [ht23, ht29, ht55, ht78, ht132, ht135, ht141, ht156, ht186, ht198, ht209, ht213, ht223, ht237, ht248, ht259, ht263, ht269, ht285, ht293, ht298, ht301, ↓reduceIte, Bool.false_eq_true, Bool.not_true, Bool.not_false, refP, leftT, Bool.false_and, hcl, Int.toNat_natCast] at href
     exact Z452
    refine Z245 ?_
    refine R.sub64 (h1 := by omega) (h2 := by have := fa.len; omega) ?_
    rw [show (((evalE c l (x.kids.getD 0 nullX)).1.s.length : Int) - (n0 : Int)) = (((evalE c l (x.kids.getD 0 nullX)).1.s.length - n0 : Nat) : Int) by omega]
    refine Z287 ?_
    simp only [ht23, ht29, ht55, ht78, ht132, ht135, ht141, ht156, ht186, ht198, ht209, ht213, ht223, ht237, ht248, ht259, ht263, ht269, ht285, ht293, ht298, ht301, ↓reduceIte, Bool.false_eq_true, Bool.not_true, Bool.not_false, refP, leftT, Bool.false_and, hcl, Int.toNat_natCast] at href
    exact Z452
   obtain ⟨n0, hI⟩ : ∃ n0 : Nat, (n0 : Int) = m1 := ⟨m1.toNat, by have := of_decide_eq_false ht298; omega⟩
   have hcl : clampI (evalE c l (x.kids.getD 1 nullX)).1.n (((evalE c l (x.kids.getD 0 nullX)).1.s.length : Nat) : Int) = ((n0 : Nat) : Int) := by rw [hI, hm1]; first | exact clamp_2 ht298 ht293 | exact clamp_3 ht298 ht293
   have hn0l : n0 ≤ (evalE c l (x.kids.getD 0 nullX)).1.s.length := by first | (have := of_decide_eq_true ht293; omega) | (have := of_decide_eq_false ht293; omega)
   refine Z50 ?_
   refine R.wk 21 (intA (n0 : Nat)) (by first | (rw [hI, hm1]; exact Le.refl _) | (rw [hI]; exact Le.refl _)) ?_
   refine Z137 ?_
   refine W.cond (fun ht301 => ?_) (fun ht301 => ?_)
   ·refine Z237 ?_
    simp only [ht23, ht29, ht55, ht78, ht132, ht135, ht141, ht156, ht186, ht198, ht209, ht213, ht223, ht237, ht248, ht259, ht263, ht269, ht285, ht293, ht298, ht301, ↓reduceIte, Bool.false_eq_true, Bool.not_true, Bool.not_false, refP, leftT, Bool.false_and, hcl, Int.toNat_natCast] at href
    exact Z452
   refine Z245 ?_
   refine R.sub64 (h1 := by omega) (h2 := by have := fa.len; omega) ?_
   rw [show (((evalE c l (x.kids.getD 0 nullX)).1.s.length : Int) - (n0 : Int)) = (((evalE c l (x.kids.getD 0 nullX)).1.s.length - n0 : Nat) : Int) by omega]
   refine Z287 ?_
   simp only [ht23, ht29, ht55, ht78, ht132, ht135, ht141, ht156, ht186, ht198, ht209, ht213, ht223, ht237, ht248, ht259, ht263, ht269, ht285, ht293, ht298, ht301, ↓reduceIte, Bool.false_eq_true, Bool.not_true, Bool.not_false, refP, leftT, Bool.false_and, hcl, Int.toNat_natCast] at href
   exact Z452
  rw [List.length_map] at ht186
  refine Z50 ?_;refine Z354 ?_;refine Z257 ?_
  refine W.cond (fun ht209 => ?_) (fun ht209 => ?_)
  ·refine Z72 ?_
   simp only [*, ↓reduceIte, Bool.false_eq_true, Bool.not_true, Bool.not_false] at href
   exact Z452
  refine Z258 ?_
  refine W.cond (fun ht213 => ?_) (fun ht213 => ?_)
  ·exact Z453
  refine Z259 ?_
  refine W.cond (fun ht223 => ?_) (fun ht223 => ?_)
  ·refine Z309 ?_
   refine W.cond (fun ht226 => ?_) (fun ht226 => ?_)
   ·refine Z120 ?_
    simp only [*, ↓reduceIte, Bool.false_eq_true, Bool.not_true, Bool.not_false] at href
    exact Z452
   refine Z277 ?_;refine Z174 ?_;refine Z324 ?_
   simp only [*, ↓reduceIte, Bool.false_eq_true, Bool.not_true, Bool.not_false] at href
   exact Z452
  refine Z260 ?_
  refine W.cond (fun ht237 => ?_) (fun ht237 => ?_)
  ·refine Z310 ?_
   refine W.cond (fun ht240 => ?_) (fun ht240 => ?_)
   ·refine Z120 ?_
    simp only [*, ↓reduceIte, Bool.false_eq_true, Bool.not_true, Bool.not_false] at href
    exact Z452
   refine Z277 ?_;refine R.eql ?_;refine Z167 ?_
   simp only [*, ↓reduceIte, Bool.false_eq_true, Bool.not_true, Bool.not_false] at href
   exact Z452
  refine Z50 ?_;refine Z261 ?_
  refine W.cond (fun ht248 => ?_) (fun ht248 => ?_)
  ·refine Z311 ?_
   refine W.cond (fun ht251 => ?_) (fun ht251 => ?_)
   ·refine Z120 ?_
    simp only [*, ↓reduceIte, Bool.false_eq_true, Bool.not_true, Bool.not_false] at href
    exact Z452
   refine Z38 ?_;refine Z130 ?_;refine Z132 ?_
   simp only [*, ↓reduceIte, Bool.false_eq_true, Bool.not_true, Bool.not_false] at href
   exact Z452
  refine Z50 ?_;refine Z269 ?_
  refine W.cond (fun ht259 => ?_) (fun ht259 => ?_)
  ·refine Z72 ?_
   simp only [*, ↓reduceIte, Bool.false_eq_true, Bool.not_true, Bool.not_false] at href
   exact Z452
  refine Z50 ?_;refine Z15 ?_;refine Z262 ?_
  refine W.cond (fun ht263 => ?_) (fun ht263 => ?_)
  ·refine Z99 ?_;refine Z397 ?_;refine Z278 ?_
   simp only [*, ↓reduceIte, Bool.false_eq_true, Bool.not_true, Bool.not_false] at href
   exact Z452
  refine Z270 ?_
  refine W.cond (fun ht269 => ?_) (fun ht269 => ?_)
  ·refine Z99 ?_
   refine R.call Tryz.call44 (c44 (evalE c l (x.kids.getD 0 nullX)).1.s (by have := fa.len; omega) _) ?_
   refine Z315 ?_;refine Z284 ?_
   refine W.cond (fun ht278 => ?_) (fun ht278 => ?_)
   ·refine Z243 ?_;refine Z5 ?_
    simp only [*, ↓reduceIte, Bool.false_eq_true, Bool.not_true, Bool.not_false] at href
    exact Z452
   refine Z149 ?_;refine Z278 ?_
   simp only [*, ↓reduceIte, Bool.false_eq_true, Bool.not_true, Bool.not_false] at href
   exact Z452
  refine Z30 ?_;refine Z263 ?_
  refine W.cond (fun ht285 => ?_) (fun ht285 => ?_)
  ·refine Z72 ?_
   simp only [*, ↓reduceIte, Bool.false_eq_true, Bool.not_true, Bool.not_false] at href
   exact Z452
  exact absurd ht285 (by decide)
 refine Z38 ?_;refine Z401 ?_;refine Z22 ?_;refine R.fin [1, 2, 3, 6, 8, 10, 16] ?_;refine Z11 ?_;refine Z16 ?_;refine R.len jU ?_;refine R.eql ?_;refine R.fin [1, 2, 3, 6, 8, 10, 16, 186] ?_
 refine W.cond (fun ht186 => ?_) (fun ht186 => ?_)
 ·rw [List.length_map] at ht186
  have hk1 : 1 < x.kids.length := by simp only [beq_iff_eq] at ht186; omega
  refine Z134 ?_;refine Z135 ?_;refine Z152 ?_;refine Z112 ?_;refine R.fin [3, 6, 8, 10, 16, 17, 18] ?_;refine Z98 ?_;refine R.fin [3, 6, 8, 10, 16, 17, 18, 198] ?_
  refine W.cond (fun ht198 => ?_) (fun ht198 => ?_)
  ·refine Z243 ?_;refine K.thR ?_
   simp only [*, ↓reduceIte, Bool.false_eq_true, Bool.not_true, Bool.not_false] at href
   exact Z452
  have fb := (hfe _ (getD_in hk1)).1
  refine Z370 ?_;refine Z176 ?_;refine R.fin [3, 6, 8, 10, 16] ?_;refine Z219 ?_;refine Z354 ?_;refine Z257 ?_
  refine W.cond (fun ht209 => ?_) (fun ht209 => ?_)
  ·refine Z72 ?_
   simp only [*, ↓reduceIte, Bool.false_eq_true, Bool.not_true, Bool.not_false] at href
   exact Z452
  refine Z258 ?_
  refine W.cond (fun ht213 => ?_) (fun ht213 => ?_)
  ·have h79 := h78 ht213
   refine Z171 ?_;refine Z430 ?_;refine Z430 ?_
   refine R.call Tryz.call39 (c39 x.text (evalE c l (x.kids.getD 0 nullX)).1 (evalE c l (x.kids.getD 1 nullX)).1 fa fb (by have := fa.len; omega) (by have := fb.len; omega) _) ?_
   refine Z324 ?_
   simp only [*, ↓reduceIte, Bool.false_eq_true, Bool.not_true, Bool.not_false, h79, Bool.true_and] at href
   exact Z452
  refine Z259 ?_
  refine W.cond (fun ht223 => ?_) (fun ht223 => ?_)
  ·refine Z309 ?_
   refine W.cond (fun ht226 => ?_) (fun ht226 => ?_)
   ·refine Z120 ?_
    simp only [*, ↓reduceIte, Bool.false_eq_true, Bool.not_true, Bool.not_false] at href
    exact Z452
   refine Z277 ?_;refine Z174 ?_;refine Z324 ?_
   simp only [*, ↓reduceIte, Bool.false_eq_true, Bool.not_true, Bool.not_false] at href
   exact Z452
  refine Z260 ?_
  refine W.cond (fun ht237 => ?_) (fun ht237 => ?_)
  ·refine Z310 ?_
   refine W.cond (fun ht240 => ?_) (fun ht240 => ?_)
   ·refine Z120 ?_
    simp only [*, ↓reduceIte, Bool.false_eq_true, Bool.not_true, Bool.not_false] at href
    exact Z452
   refine Z277 ?_;refine R.eql ?_;refine Z167 ?_
   simp only [*, ↓reduceIte, Bool.false_eq_true, Bool.not_true, Bool.not_false] at href
   exact Z452
  refine Z50 ?_;refine Z261 ?_
  refine W.cond (fun ht248 => ?_) (fun ht248 => ?_)
  ·refine Z311 ?_
   refine W.cond (fun ht251 => ?_) (fun ht251 => ?_)
   ·refine Z120 ?_
    simp only [*, ↓reduceIte, Bool.false_eq_true, Bool.not_true, Bool.not_false] at href
    exact Z452
   refine Z38 ?_;refine Z130 ?_;refine Z132 ?_
   simp only [*, ↓reduceIte, Bool.false_eq_true, Bool.not_true, Bool.not_false] at href
   exact Z452
  refine Z50 ?_;refine Z269 ?_
  refine W.cond (fun ht259 => ?_) (fun ht259 => ?_)
  ·refine Z72 ?_
   simp only [*, ↓reduceIte, Bool.false_eq_true, Bool.not_true, Bool.not_false] at href
   exact Z452
  refine Z50 ?_;refine Z15 ?_;refine Z262 ?_
  refine W.cond (fun ht263 => ?_) (fun ht263 => ?_)
  ·refine Z99 ?_;refine Z397 ?_;refine Z278 ?_
   simp only [*, ↓reduceIte, Bool.false_eq_true, Bool.not_true, Bool.not_false] at href
   exact Z452
  refine Z270 ?_
  refine W.cond (fun ht269 => ?_) (fun ht269 => ?_)
  ·refine Z99 ?_
   refine R.call Tryz.call44 (c44 (evalE c l (x.kids.getD 0 nullX)).1.s (by have := fa.len; omega) _) ?_
   refine Z315 ?_;refine Z284 ?_
   refine W.cond (fun ht278 => ?_) (fun ht278 => ?_)
   ·refine Z243 ?_;refine Z5 ?_
    simp only [*, ↓reduceIte, Bool.false_eq_true, Bool.not_true, Bool.not_false] at href
    exact Z452
   refine Z149 ?_;refine Z278 ?_
   simp only [*, ↓reduceIte, Bool.false_eq_true, Bool.not_true, Bool.not_false] at href
   exact Z452
  refine Z30 ?_;refine Z263 ?_
  refine W.cond (fun ht285 => ?_) (fun ht285 => ?_)
  ·refine Z72 ?_
   simp only [*, ↓reduceIte, Bool.false_eq_true, Bool.not_true, Bool.not_false] at href
   exact Z452
  refine Z215 ?_;refine Z397 ?_;refine Z248 ?_;refine Z11 ?_;refine Z24 ?_;refine Z405 ?_;refine R.lss ?_;refine R.fin [3, 6, 10, 16, 21, 293] ?_
  refine W.cond (fun ht293 => ?_) (fun ht293 => ?_)
  ·obtain ⟨m1, hm1⟩ : ∃ m1 : Int, m1 = (evalE c l (x.kids.getD 1 nullX)).1.n := ⟨_, rfl⟩
   refine Z411 ?_;refine Z24 ?_;refine Z248 ?_;refine Z219 ?_;refine Z24 ?_;refine Z265 ?_
   refine W.cond (fun ht298 => ?_) (fun ht298 => ?_)
   ·obtain ⟨n0, hI0⟩ : ∃ n0 : Nat, n0 = 0 := ⟨_, rfl⟩
    have hcl : clampI (evalE c l (x.kids.getD 1 nullX)).1.n (((evalE c l (x.kids.getD 0 nullX)).1.s.length : Nat) : Int) = ((n0 : Nat) : Int) := by rw [hI0]; exact clamp_1 ht298
    have hI : ((n0 : Nat) : Int) = 0 := by omega
    have hn0l : n0 ≤ (evalE c l (x.kids.getD 0 nullX)).1.s.length := by omega
    refine Z306 ?_;refine Z219 ?_
    refine R.wk 21 (intA (n0 : Nat)) (by first | (rw [hI, hm1]; exact Le.refl _) | (rw [hI]; exact Le.refl _)) ?_
    refine Z137 ?_
    refine W.cond (fun ht301 => ?_) (fun ht301 => ?_)
    ·refine Z237 ?_
     simp only [ht23, ht29, ht55, ht78, ht132, ht186, ht198, ht209, ht213, ht223, ht237, ht248, ht259, ht263, ht269, ht285, ht293, ht298, ht301, ↓reduceIte, Bool.false_eq_true, Bool.not_true, Bool.not_false, refP, leftT, Bool.false_and, hcl, Int.toNat_natCast] at href
     exact Z452
    refine Z245 ?_
    refine R.sub64 (h1 := by omega) (h2 := by have := fa.len; omega) ?_
    rw [show (((evalE c l (x.kids.getD 0 nullX)).1.s.length : Int) - (n0 : Int)) = (((evalE c l (x.kids.getD 0 nullX)).1.s.length - n0 : Nat) : Int) by omega]
    refine Z287 ?_
    simp only [ht23, ht29, ht55, ht78, ht132, ht186, ht198, ht209, ht213, ht223, ht237, ht248, ht259, ht263, ht269, ht285, ht293, ht298, ht301, ↓reduceIte, Bool.false_eq_true, Bool.not_true, Bool.not_false, refP, leftT, Bool.false_and, hcl, Int.toNat_natCast] at href
    exact Z452
   obtain ⟨n0, hI⟩ : ∃ n0 : Nat, (n0 : Int) = m1 := ⟨m1.toNat, by have := of_decide_eq_false ht298; omega⟩
   have hcl : clampI (evalE c l (x.kids.getD 1 nullX)).1.n (((evalE c l (x.kids.getD 0 nullX)).1.s.length : Nat) : Int) = ((n0 : Nat) : Int) := by rw [hI, hm1]; first | exact clamp_2 ht298 ht293 | exact clamp_3 ht298 ht293
   have hn0l : n0 ≤ (evalE c l (x.kids.getD 0 nullX)).1.s.length := by first | (have := of_decide_eq_true ht293; omega) | (have := of_decide_eq_false ht293; omega)
   refine Z50 ?_
   refine R.wk 21 (intA (n0 : Nat)) (by first | (rw [hI, hm1]; exact Le.refl _) | (rw [hI]; exact Le.refl _)) ?_
   refine Z137 ?_
   refine W.cond (fun ht301 => ?_) (fun ht301 => ?_)
   ·refine Z237 ?_
    simp only [ht23, ht29, ht55, ht78, ht132, ht186, ht198, ht209, ht213, ht223, ht237, ht248, ht259, ht263, ht269, ht285, ht293, ht298, ht301, ↓reduceIte, Bool.false_eq_true, Bool.not_true, Bool.not_false, refP, leftT, Bool.false_and, hcl, Int.toNat_natCast] at href
    exact Z452
   refine Z245 ?_
   refine R.sub64 (h1 := by omega) (h2 := by have := fa.len; omega) ?_
   rw [show (((evalE c l (x.kids.getD 0 nullX)).1.s.length : Int) - (n0 : Int)) = (((evalE c l (x.kids.getD 0 nullX)).1.s.length - n0 : Nat) : Int) by omega]
   refine Z287 ?_
   simp only [ht23, ht29, ht55, ht78, ht132, ht186, ht198, ht209, ht213, ht223, ht237, ht248, ht259, ht263, ht269, ht285, ht293, ht298, ht301, ↓reduceIte, Bool.false_eq_true, Bool.not_true, Bool.not_false, refP, leftT, Bool.false_and, hcl, Int.toNat_natCast] at href
   exact Z452
  obtain ⟨m1, hm1⟩ : ∃ m1 : Int, m1 = (((evalE c l (x.kids.getD 0 nullX)).1.s.length : Nat) : Int) := ⟨_, rfl⟩
  refine Z50 ?_;refine Z24 ?_;refine Z265 ?_
  refine W.cond (fun ht298 => ?_) (fun ht298 => ?_)
  ·obtain ⟨n0, hI0⟩ : ∃ n0 : Nat, n0 = 0 := ⟨_, rfl⟩
   have hcl : clampI (evalE c l (x.kids.getD 1 nullX)).1.n (((evalE c l (x.kids.getD 0 nullX)).1.s.length : Nat) : Int) = ((n0 : Nat) : Int) := by rw [hI0]; exact clamp_1 ht298
   have hI : ((n0 : Nat) : Int) = 0 := by omega
   have hn0l : n0 ≤ (evalE c l (x.kids.getD 0 nullX)).1.s.length := by omega
   refine Z306 ?_;refine Z219 ?_
   refine R.wk 21 (intA (n0 : Nat)) (by first | (rw [hI, hm1]; exact Le.refl _) | (rw [hI]; exact Le.refl _)) ?_
   refine Z137 ?_
   refine W.cond (fun ht301 => ?_) (fun ht301 => ?_)
   ·refine Z237 ?_
    simp only [ht23, ht29, ht55, ht78, ht132, ht186, ht198, ht209, ht213, ht223, ht237, ht248, ht259, ht263, ht269, ht285, ht293, ht298, ht301, ↓reduceIte, Bool.false_eq_true, Bool.not_true, Bool.not_false, refP, leftT, Bool.false_and, hcl, Int.toNat_natCast] at href
    exact Z452
   refine Z245 ?_
   refine R.sub64 (h1 := by omega) (h2 := by have := fa.len; omega) ?_
   rw [show (((evalE c l (x.kids.getD 0 nullX)).1.s.length : Int) - (n0 : Int)) = (((evalE c l (x.kids.getD 0 nullX)).1.s.length - n0 : Nat) : Int) by omega]
   refine Z287 ?_
   simp only [ht23, ht29, ht55, ht78, ht132, ht186, ht198, ht209, ht213, ht223, ht237, ht248, ht259, ht263, ht269, ht285, ht293, ht298, ht301, ↓reduceIte, Bool.false_eq_true, Bool.not_true, Bool.not_false, refP, leftT, Bool.false_and, hcl, Int.toNat_natCast] at href
   exact Z452
  obtain ⟨n0, hI⟩ : ∃ n0 : Nat, (n0 : Int) = m1 := ⟨m1.toNat, by have := of_decide_eq_false ht298; omega⟩
  have hcl : clampI (evalE c l (x.kids.getD 1 nullX)).1.n (((evalE c l (x.kids.getD 0 nullX)).1.s.length : Nat) : Int) = ((n0 : Nat) : Int) := by rw [hI, hm1]; first | exact clamp_2 ht298 ht293 | exact clamp_3 ht298 ht293
  have hn0l : n0 ≤ (evalE c l (x.kids.getD 0 nullX)).1.s.length := by first | (have := of_decide_eq_true ht293; omega) | (have := of_decide_eq_false ht293; omega)
  refine Z50 ?_
  refine R.wk 21 (intA (n0 : Nat)) (by first | (rw [hI, hm1]; exact Le.refl _) | (rw [hI]; exact Le.refl _)) ?_
  refine Z137 ?_
  refine W.cond (fun ht301 => ?_) (fun ht301 => ?_)
  ·refine Z237 ?_
   simp only [ht23, ht29, ht55, ht78, ht132, ht186, ht198, ht209, ht213, ht223, ht237, ht248, ht259, ht263, ht269, ht285, ht293, ht298, ht301, ↓reduceIte, Bool.false_eq_true, Bool.not_true, Bool.not_false, refP, leftT, Bool.false_and, hcl, Int.toNat_natCast] at href
   exact Z452
  refine Z245 ?_
  refine R.sub64 (h1 := by omega) (h2 := by have := fa.len; omega) ?_
  rw [show (((evalE c l (x.kids.getD 0 nullX)).1.s.length : Int) - (n0 : Int)) = (((evalE c l (x.kids.getD 0 nullX)).1.s.length - n0 : Nat) : Int) by omega]
  refine Z287 ?_
  simp only [ht23, ht29, ht55, ht78, ht132, ht186, ht198, ht209, ht213, ht223, ht237, ht248, ht259, ht263, ht269, ht285, ht293, ht298, ht301, ↓reduceIte, Bool.false_eq_true, Bool.not_true, Bool.not_false, refP, leftT, Bool.false_and, hcl, Int.toNat_natCast] at href
  exact Z452
 rw [List.length_map] at ht186
 refine Z50 ?_;refine Z354 ?_;refine Z257 ?_
 refine W.cond (fun ht209 => ?_) (fun ht209 => ?_)
 ·refine Z72 ?_
  simp only [*, ↓reduceIte, Bool.false_eq_true, Bool.not_true, Bool.not_false] at href
  exact Z452
 refine Z258 ?_
 refine W.cond (fun ht213 => ?_) (fun ht213 => ?_)
 ·exact absurd (k5 (eq_of_beq ht213)) (by simp at ht186; omega)
 refine Z259 ?_
 refine W.cond (fun ht223 => ?_) (fun ht223 => ?_)
 ·refine Z309 ?_
  refine W.cond (fun ht226 => ?_) (fun ht226 => ?_)
  ·refine Z120 ?_
   simp only [*, ↓reduceIte, Bool.false_eq_true, Bool.not_true, Bool.not_false] at href
   exact Z452
  refine Z277 ?_;refine Z174 ?_;refine Z324 ?_
  simp only [*, ↓reduceIte, Bool.false_eq_true, Bool.not_true, Bool.not_false] at href
  exact Z452
 refine Z260 ?_
 refine W.cond (fun ht237 => ?_) (fun ht237 => ?_)
 ·refine Z310 ?_
  refine W.cond (fun ht240 => ?_) (fun ht240 => ?_)
  ·refine Z120 ?_
   simp only [*, ↓reduceIte, Bool.false_eq_true, Bool.not_true, Bool.not_false] at href
   exact Z452
  refine Z277 ?_;refine R.eql ?_;refine Z167 ?_
  simp only [*, ↓reduceIte, Bool.false_eq_true, Bool.not_true, Bool.not_false] at href
  exact Z452
 refine Z50 ?_;refine Z261 ?_
 refine W.cond (fun ht248 => ?_) (fun ht248 => ?_)
 ·refine Z311 ?_
  refine W.cond (fun ht251 => ?_) (fun ht251 => ?_)
  ·refine Z120 ?_
   simp only [*, ↓reduceIte, Bool.false_eq_true, Bool.not_true, Bool.not_false] at href
   exact Z452
  refine Z38 ?_;refine Z130 ?_;refine Z132 ?_
  simp only [*, ↓reduceIte, Bool.false_eq_true, Bool.not_true, Bool.not_false] at href
  exact Z452
 refine Z50 ?_;refine Z269 ?_
 refine W.cond (fun ht259 => ?_) (fun ht259 => ?_)
 ·refine Z72 ?_
  simp only [*, ↓reduceIte, Bool.false_eq_true, Bool.not_true, Bool.not_false] at href
  exact Z452
 refine Z50 ?_;refine Z15 ?_;refine Z262 ?_
 refine W.cond (fun ht263 => ?_) (fun ht263 => ?_)
 ·refine Z99 ?_;refine Z397 ?_;refine Z278 ?_
  simp only [*, ↓reduceIte, Bool.false_eq_true, Bool.not_true, Bool.not_false] at href
  exact Z452
 refine Z270 ?_
 refine W.cond (fun ht269 => ?_) (fun ht269 => ?_)
 ·refine Z99 ?_
  refine R.call Tryz.call44 (c44 (evalE c l (x.kids.getD 0 nullX)).1.s (by have := fa.len; omega) _) ?_
  refine Z315 ?_;refine Z284 ?_
  refine W.cond (fun ht278 => ?_) (fun ht278 => ?_)
  ·refine Z243 ?_;refine Z5 ?_
   simp only [*, ↓reduceIte, Bool.false_eq_true, Bool.not_true, Bool.not_false] at href
   exact Z452
  refine Z149 ?_;refine Z278 ?_
  simp only [*, ↓reduceIte, Bool.false_eq_true, Bool.not_true, Bool.not_false] at href
  exact Z452
 refine Z30 ?_;refine Z263 ?_
 refine W.cond (fun ht285 => ?_) (fun ht285 => ?_)
 ·refine Z72 ?_
  simp only [*, ↓reduceIte, Bool.false_eq_true, Bool.not_true, Bool.not_false] at href
  exact Z452
 exact absurd ht285 (by decide)

/-! Trimmed again it stays; it names no other columns. -/
theorem getD_all {Q : Expr → Prop} {k : List Expr} (h : ∀ y ∈ k, Q y) (h0 : Q nullX) (i : Nat) : Q (k.getD i nullX) := by
 rw [List.getD_eq_getElem?_getD]
 cases e : k[i]? with
 | none => exact h0
 | some y => exact h y (List.mem_of_getElem? e)
theorem chosen_kid {o : Int} {t : Str} {k : List Expr} {z : Expr} (h : chosenM o t k = some z) : ∃ i, z = k.getD i nullX := by
 unfold chosenM at h
 split at h
 ·exact ⟨1, (Option.some.inj h).symm⟩
 split at h
 ·exact ⟨2, (Option.some.inj h).symm⟩
 split at h
 ·exact ⟨1, (Option.some.inj h).symm⟩
 split at h
 ·exact ⟨0, (Option.some.inj h).symm⟩
 split at h
 ·exact ⟨0, (Option.some.inj h).symm⟩
 cases h
theorem reck_val {y z : Expr} (h : reckM y = some z) : ∃ v, z = valX v := by
 unfold reckM at h
 split at h
 ·cases h
 split at h
 ·cases h
 exact ⟨_, (Option.some.inj h).symm⟩
/-- What a node is trimmed to: one of its kids, a value, or itself. -/
theorem trimN_is (o : Int) (t : Str) (k : List Expr) : (∃ i, trimN o t k = k.getD i nullX) ∨ (∃ v, trimN o t k = valX v) ∨ trimN o t k = .mk o t noV k := by
 unfold trimN
 split
 ·rename_i z hz
  split at hz
  ·exact .inl (chosen_kid hz)
  cases hz
 split
 ·rename_i z hz
  exact .inr (.inl (reck_val hz))
 exact .inr (.inr rfl)
theorem trim_again : ∀ (n : Nat) (x : Expr), sizeE x ≤ n → trimE (trimE x) = trimE x := by
 intro n
 induction n with
 | zero => intro x h; have := sizeE_eq x; omega
 | succ n ih =>
 intro x hs
 have hk : ∀ y ∈ x.kids.map trimE, trimE y = y := fun y hy => by
  obtain ⟨z, hz, rfl⟩ := List.mem_map.1 hy
  exact ih z (by have := size_in hz; have := sizeE_eq x; omega)
 have e0 := trimE_eq x
 split at e0
 ·rename_i h0
  rw [e0]; exact e0
 rename_i h0
 rw [e0]
 rcases trimN_is x.op x.text (x.kids.map trimE) with ⟨i, h⟩ | ⟨v, h⟩ | h
 ·rw [h]
  exact getD_all (Q := fun y => trimE y = y) hk rfl i
 ·rw [h]; rfl
 have hm : (x.kids.map trimE).map trimE = x.kids.map trimE := by
  conv => rhs; rw [← List.map_id (x.kids.map trimE)]
  exact List.map_congr_left fun y hy => hk y hy
 have e1 := trimE_eq (.mk x.op x.text noV (x.kids.map trimE))
 rw [if_neg (by show ¬ ((((x.kids.map trimE).length : Nat) : Int) == 0) = true; rw [List.length_map]; exact h0)] at e1
 rw [h, e1]
 show trimN x.op x.text ((x.kids.map trimE).map trimE) = _
 rw [hm, h]
theorem namedL_iff (s : Str) : ∀ l : List Expr, namedL s l = true ↔ ∃ y ∈ l, named s y = true
 | [] => by unfold namedL; simp [nodesL]
 | e :: r => by rw [namedL_cons, Bool.or_eq_true, namedL_iff s r]; simp
theorem named_val (s : Str) (v : Val) : named s (valX v) = false := by rw [named_eq]; unfold namedL; rfl
theorem named_null (s : Str) : named s nullX = false := by rw [named_eq]; unfold namedL; rfl
theorem trim_named (s : Str) : ∀ (n : Nat) (x : Expr), sizeE x ≤ n → named s (trimE x) = true → named s x = true := by
 intro n
 induction n with
 | zero => intro x h; have := sizeE_eq x; omega
 | succ n ih =>
 intro x hs hn
 have hk : ∀ y ∈ x.kids.map trimE, named s y = true → namedL s x.kids = true := fun y hy h => by
  obtain ⟨z, hz, rfl⟩ := List.mem_map.1 hy
  exact (namedL_iff s _).2 ⟨z, hz, ih z (by have := size_in hz; have := sizeE_eq x; omega) h⟩
 have e0 := trimE_eq x
 split at e0
 ·rw [e0] at hn; exact hn
 rw [e0] at hn
 rw [named_eq, Bool.or_eq_true]
 rcases trimN_is x.op x.text (x.kids.map trimE) with ⟨i, h⟩ | ⟨v, h⟩ | h
 ·rw [h] at hn
  exact .inr (getD_all (Q := fun y => named s y = true → namedL s x.kids = true) hk (fun h => by rw [named_null] at h; cases h) i hn)
 ·rw [h, named_val] at hn; cases hn
 rw [h, named_eq, Bool.or_eq_true] at hn
 rcases hn with hn | hn
 ·exact .inl hn
 obtain ⟨y, hy, h2⟩ := (namedL_iff s _).1 hn
 exact .inr (hk y hy h2)
theorem trim_names (x : Expr) (s : Str) (h : s ∈ exprNamesM (trimE x)) : s ∈ exprNamesM x := by
 have h1 : named s (trimE x) = true := by rw [← names_mem, List.contains_iff_mem]; exact h
 have h2 := trim_named s _ x (Nat.le_refl _) h1
 rw [← names_mem, List.contains_iff_mem] at h2
 exact h2
/-! ref33.Trim. -/
section
variable {o : Int} {t : Str} {ks : List Expr}
theorem plain_ways {v : Val} (hp : plainM v = true) : v = noV ∨ v = boolV true ∨ v = boolV false ∨ (v.kind ≠ 0 ∧ v.kind ≠ 3) := by
 by_cases h0 : v.kind = 0
 ·exact .inl (kind0_no hp h0)
 by_cases h3 : v.kind = 3
 ·rcases kind3_bool hp h3 with h | h
  ·exact .inr (.inl h)
  exact .inr (.inr (.inl h))
 exact .inr (.inr (.inr ⟨h0, h3⟩))
theorem plain_other {v : Val} (h : v.kind ≠ 0 ∧ v.kind ≠ 3) : (v == boolV true) = false ∧ (v == boolV false) = false ∧ (v == noV) = false := by
 refine ⟨?_, ?_, ?_⟩ <;> rw [beq_eq_false_iff_ne] <;> rintro rfl
 ·exact h.2 rfl
 ·exact h.2 rfl
 exact h.1 rfl
theorem ch_if1 (hp : plainM (ks.getD 0 nullX).val = true) (h : (((t == ifW) && (o == 6)) && (((ks.getD 0 nullX).val.kind == 3) || ((ks.getD 0 nullX).val.kind == 0))) = true) (h2 : (((ks.getD 0 nullX).val.kind == 3) && ((ks.getD 0 nullX).val.n == 1)) = true) : chosenM o t ks = some (ks.getD 1 nullX) := by
 unfold chosenM
 generalize (ks.getD 0 nullX).val = v at *
 simp only [Bool.and_eq_true] at h
 obtain ⟨⟨h3, h4⟩, _⟩ := h
 rw [h3, h4]
 rcases plain_ways hp with rfl | rfl | rfl | hv
 ·cases h2
 ·rfl
 ·cases h2
 simp only [Bool.and_eq_true, beq_iff_eq] at h2; exact absurd h2.1 hv.2
theorem ch_if2 (hp : plainM (ks.getD 0 nullX).val = true) (h : (((t == ifW) && (o == 6)) && (((ks.getD 0 nullX).val.kind == 3) || ((ks.getD 0 nullX).val.kind == 0))) = true) (h2 : (((ks.getD 0 nullX).val.kind == 3) && ((ks.getD 0 nullX).val.n == 1)) = false) : chosenM o t ks = some (ks.getD 2 nullX) := by
 unfold chosenM
 generalize (ks.getD 0 nullX).val = v at *
 simp only [Bool.and_eq_true] at h
 obtain ⟨⟨h3, h4⟩, h5⟩ := h
 rw [h3, h4]
 rcases plain_ways hp with rfl | rfl | rfl | hv
 ·rfl
 ·cases h2
 ·rfl
 simp only [Bool.or_eq_true, beq_iff_eq] at h5; exact h5.elim (fun e => absurd e hv.2) (fun e => absurd e hv.1)
theorem not_if (h : (((t == ifW) && (o == 6)) && (((ks.getD 0 nullX).val.kind == 3) || ((ks.getD 0 nullX).val.kind == 0))) = false) : (((o == 6) && (t == ifW)) && ((ks.getD 0 nullX).val == boolV true)) = false ∧ (((o == 6) && (t == ifW)) && (((ks.getD 0 nullX).val == boolV false) || ((ks.getD 0 nullX).val == noV))) = false := by
 generalize (ks.getD 0 nullX).val = v at *
 cases h3 : t == ifW <;> cases h4 : o == 6
 ·exact ⟨rfl, rfl⟩
 ·exact ⟨rfl, rfl⟩
 ·exact ⟨rfl, rfl⟩
 rw [h3, h4] at h
 simp only [Bool.and_self, Bool.true_and, Bool.or_eq_false_iff, beq_eq_false_iff_ne, ne_eq] at h
 obtain ⟨q1, q2, q3⟩ := plain_other (v := v) ⟨h.2, h.1⟩
 rw [q1, q2, q3]
 exact ⟨rfl, rfl⟩
theorem ch_nvl1 (hp : plainM (ks.getD 0 nullX).val = true) (h0 : (((t == ifW) && (o == 6)) && (((ks.getD 0 nullX).val.kind == 3) || ((ks.getD 0 nullX).val.kind == 0))) = false) (h : ((t == nvlW) && (o == 6)) = true) (h2 : ((ks.getD 0 nullX).val.kind == 0) = true) : chosenM o t ks = some (ks.getD 1 nullX) := by
 obtain ⟨q1, q2⟩ := not_if h0
 unfold chosenM
 rw [q1, q2]
 simp only [Bool.and_eq_true] at h
 rw [h.1, h.2, kind0_no hp (eq_of_beq h2)]
 rfl
theorem ch_nvl2 (h0 : (((t == ifW) && (o == 6)) && (((ks.getD 0 nullX).val.kind == 3) || ((ks.getD 0 nullX).val.kind == 0))) = false) (h : ((t == nvlW) && (o == 6)) = true) (h2 : ((ks.getD 0 nullX).val.kind == 0) = false) : chosenM o t ks = some (ks.getD 0 nullX) := by
 obtain ⟨q1, q2⟩ := not_if h0
 unfold chosenM
 rw [q1, q2]
 simp only [Bool.and_eq_true] at h
 have hn : ((ks.getD 0 nullX).val == noV) = false := by
  rw [beq_eq_false_iff_ne]
  intro e
  rw [e] at h2
  cases h2
 rw [h.1, h.2, hn]
 rfl
theorem not_nvl (h : ((t == nvlW) && (o == 6)) = false) : ((o == 6) && (t == nvlW)) = false := by rw [Bool.and_comm]; exact h
theorem ch_bin (hp : plainM (ks.getD 0 nullX).val = true) (h : (((o == 5) && ((ks.getD 0 nullX).val.kind == 3)) && (((t == orW) && ((ks.getD 0 nullX).val.n == 1)) || ((t == andW) && ((ks.getD 0 nullX).val.n == 0)))) = true) : chosenM o t ks = some (ks.getD 0 nullX) := by
 simp only [Bool.and_eq_true, beq_iff_eq] at h
 obtain ⟨⟨rfl, h3⟩, h4⟩ := h
 have e : (((t == orW) && ((ks.getD 0 nullX).val == boolV true)) || ((t == andW) && ((ks.getD 0 nullX).val == boolV false))) = true := by
  generalize (ks.getD 0 nullX).val = v at *
  rcases kind3_bool hp h3 with rfl | rfl
  ·simpa [boolV] using h4
  simpa [boolV] using h4
 unfold chosenM
 rw [e]
 rfl
theorem ch_none (hp : plainM (ks.getD 0 nullX).val = true) (h0 : (((t == ifW) && (o == 6)) && (((ks.getD 0 nullX).val.kind == 3) || ((ks.getD 0 nullX).val.kind == 0))) = false) (h1 : ((t == nvlW) && (o == 6)) = false) (h : (((o == 5) && ((ks.getD 0 nullX).val.kind == 3)) && (((t == orW) && ((ks.getD 0 nullX).val.n == 1)) || ((t == andW) && ((ks.getD 0 nullX).val.n == 0)))) = false) : chosenM o t ks = none := by
 obtain ⟨q1, q2⟩ := not_if h0
 have e : ((o == 5) && (((t == orW) && ((ks.getD 0 nullX).val == boolV true)) || ((t == andW) && ((ks.getD 0 nullX).val == boolV false)))) = false := by
  generalize (ks.getD 0 nullX).val = v at *
  cases h5 : o == 5
  ·rfl
  rw [h5] at h
  rcases plain_ways hp with rfl | rfl | rfl | hv
  ·simp only [show (noV == boolV true) = false from rfl, show (noV == boolV false) = false from rfl, Bool.and_false, Bool.or_false]
  ·simpa [boolV] using h
  ·simpa [boolV] using h
  obtain ⟨r1, r2, _⟩ := plain_other hv
  rw [r1, r2]
  simp
 unfold chosenM
 rw [q1, q2, not_nvl h1, e]
 rfl
theorem tN_ch (h : ((ks.getD 0 nullX).op == 1) = true) (hc : chosenM o t ks = none) : trimN o t ks = (reckM (.mk o t noV ks)).getD (.mk o t noV ks) := by
 unfold trimN
 rw [if_pos h, hc]
 simp only
 cases reckM (.mk o t noV ks) <;> rfl
theorem tN_no (h : ((ks.getD 0 nullX).op == 1) = false) : trimN o t ks = (reckM (.mk o t noV ks)).getD (.mk o t noV ks) := by
 unfold trimN
 rw [if_neg (by rw [h]; simp)]
 simp only
 cases reckM (.mk o t noV ks) <;> rfl
theorem all_any {l : List Expr} : (l.any fun k => !(k.op == 1)) = !(l.all fun k => k.op == 1) := by
 induction l with
 | nil => rfl
 | cons a r ih => rw [List.any_cons, List.all_cons, ih, Bool.not_and]
theorem rk_1 (h : (ks.all fun k => k.op == 1) = false) : reckM (.mk o t noV ks) = none := if_pos (by show (ks.any fun k => !(k.op == 1)) = true; rw [all_any, h]; rfl)
theorem rk_2 (h : (ks.all fun k => k.op == 1) = true) (hr : exprRightM (.mk o t noV ks) = true) (h2 : (((evalE [] [] (.mk o t noV ks)).2 != 0) || (((evalE [] [] (.mk o t noV ks)).1.kind == 1) && decide ((evalE [] [] (.mk o t noV ks)).1.n < 0))) = true) : reckM (.mk o t noV ks) = none := by
 have he : evalM (.mk o t noV ks) [] [] = evalE [] [] (.mk o t noV ks) := eval_of hr (by kernel_rfl)
 unfold reckM
 rw [if_neg (by show ¬ (ks.any fun k => !(k.op == 1)) = true; rw [all_any, h]; simp), he, if_pos h2]
theorem rk_3 (h : (ks.all fun k => k.op == 1) = true) (hr : exprRightM (.mk o t noV ks) = true) (h2 : (((evalE [] [] (.mk o t noV ks)).2 != 0) || (((evalE [] [] (.mk o t noV ks)).1.kind == 1) && decide ((evalE [] [] (.mk o t noV ks)).1.n < 0))) = false) : reckM (.mk o t noV ks) = some (valX (evalE [] [] (.mk o t noV ks)).1) := by
 have he : evalM (.mk o t noV ks) [] [] = evalE [] [] (.mk o t noV ks) := eval_of hr (by kernel_rfl)
 unfold reckM
 rw [if_neg (by show ¬ (ks.any fun k => !(k.op == 1)) = true; rw [all_any, h]; simp), he, if_neg (by rw [h2]; simp)]
theorem all_step {l : List Expr} {x : Nat} (h : x < l.length) : ((l.take (x + 1)).map trimE).all (fun k => k.op == 1) = (((l.take x).map trimE).all (fun k => k.op == 1) && ((trimE l[x]).op == 1)) := by rw [take_map h, List.all_append]; simp
end
theorem leaf_trim {x : Expr} (hn : allE nodeM x = true) (h : ((x.op == 1) || (x.op == 2)) = true) : trimE x = x := by
 rw [allE_eq, Bool.and_eq_true] at hn
 have hk : x.kids.length = 0 := by
  have hnn := hn.1
  obtain ⟨o, t, v, k⟩ := x
  rw [node_one, nodeOne_mk] at hnn
  simp only [Expr.op, Expr.kids] at h ⊢
  split at hnn
  ·simp only [Bool.and_eq_true, beq_iff_eq] at hnn
   have := hnn.2
   omega
  rename_i h1
  have h2 : (o == 2) = true := by
   cases e : o == 1 with
   | true => exact absurd e h1
   | false => rw [e] at h; exact h
  have h2' := eq_of_beq h2
  subst h2'
  split at hnn
  ·cases hnn
  simp only [show ((2 : Int) == 2) = true from rfl, if_true, Bool.and_eq_true, beq_iff_eq] at hnn
  have := hnn.2
  omega
 exact trimE_0 (by rw [hk]; rfl)
theorem ev_nil15 {n : Nat} {x : Expr} (hok : okE n x) (hnode : allE nodeM x = true) (hrg : allE rngN x = true) (Hp : List AObj) : AFun Tryz.prog 15 [exprA x, .nil, .nil] Hp (resA (evalE [] [] x)) := by
 have := c15 [] [] ⟨by decide, by decide⟩ rfl (fun v hv => by cases hv) n x hok hnode hrg Hp
 refine ACall.argLe this rfl fun i y y' h1 h2 => ?_
 match i with
 | 0 => simp at h1 h2; subst h1; subst h2; exact .refl _
 | 1 => simp at h1 h2; subst h1; subst h2; exact .nil false 2
 | 2 => simp at h1 h2; subst h1; subst h2; exact .nil false 3
 | i + 3 => simp at h1
theorem c20  : ∀ (n : Nat) (x : Expr), okE n x → n ≤ 1000000 → allE nodeM x = true → allE rngN x = true → sizeE x ≤ 300 → depthE x ≤ 30 → ∀ Hp : List AObj, AFun Tryz.prog 20 [exprA x] Hp (exprA (trimE x)) := by
 intro n
 induction n with
 | zero => exact fun x h => h.elim
 | succ n ih =>
 intro x hok hn hnode hrng hsz hdp Hp
 have hkid : ∀ y ∈ x.kids, ∀ Hp : List AObj, AFun Tryz.prog 20 [exprA y] Hp (exprA (trimE y)) := fun y hy => ih y (hok.2.2 y hy) (by omega) (by rw [allE_eq, Bool.and_eq_true] at hnode; exact (allL_iff _ _).1 hnode.2 y hy) (by rw [allE_eq, Bool.and_eq_true] at hrng; exact (allL_iff _ _).1 hrng.2 y hy) (by have := size_in hy; have := sizeE_eq x; omega) (by have := depth_in hy; have := depthE_eq x; omega)
 have hn0 := hnode
 rw [allE_eq, Bool.and_eq_true] at hn0
 obtain ⟨k5, k34, k6, kall⟩ := kids_len hn0.1
 refine ACall.body [.cell 2 26] [0] Tryz.func20 Tryz.ntmps20 (fun d => ?_)
 refine Z37 ?_;refine Z359 ?_;refine Z337 ?_;refine Z82 ?_;refine Z105 ?_;refine G.eql ?_;refine R.pickOr ?_;refine R.fin [1, 2, 18] ?_
 refine W.cond (fun ht18 => ?_) (fun ht18 => ?_)
 ·refine Z55 ?_;refine Z133 ?_;exact K.fin (V.one (V.cellN jA jS)) ⟨by rw [leaf_trim hnode ht18]; simp only [exprA_eq]; try rfl, rfl⟩ (hlow := by simp [exprA_low])
 have hk1 : 0 < x.kids.length := by
  simp only [Bool.or_eq_false_iff, beq_eq_false_iff_ne, ne_eq] at ht18
  rcases kall with h | h | h | h | h | h
  ·exact absurd h ht18.1
  ·exact absurd h ht18.2
  ·have := k34 (.inl h); omega
  ·have := k34 (.inr h); omega
  ·have := k5 h; omega
  have := k6 h
  rcases call_names this with ⟨_, e⟩ | ⟨_, e⟩ | ⟨_, e⟩ | ⟨_, e⟩ | ⟨_, e⟩ | ⟨_, e⟩ | ⟨_, e⟩ | ⟨_, e⟩ <;> omega
 have hte := trimE_1 (x := x) (by cases h : ((x.kids.length : Int) == 0) with | false => rfl | true => simp at h; rw [h] at hk1; exact absurd hk1 (by decide))
 have hk0 : 0 < (x.kids.map trimE).length := by simpa using hk1
 obtain ⟨hyn, hyr, hys, hyd⟩ := trim_kids hnode hrng hk1
 obtain ⟨hy3, hy2⟩ := trim_lens hyn
 have hyok : okE (n + 1) (Expr.mk x.op x.text noV (x.kids.map trimE)) := node_okT (n + 1) _ (Nat.le_trans hyd (okE_depth _ _ hok)) hyn
 have hyR : exprRightM (Expr.mk x.op x.text noV (x.kids.map trimE)) = true := by
  rw [exprRight_eq]
  unfold refRightM
  simp only [Bool.and_eq_true, decide_eq_true_eq]
  exact ⟨⟨by omega, by omega⟩, hyn⟩
 have hya : plainM ((x.kids.map trimE).getD 0 nullX).val = true ∨ (((x.kids.map trimE).getD 0 nullX).op == 1) = false := by
  cases h : ((x.kids.map trimE).getD 0 nullX).op == 1 with
  | false => exact .inr rfl
  | true =>
   rw [allE, Bool.and_eq_true] at hyn
   have := (allL_iff _ _).1 hyn.2 _ (getD_in hk0)
   rw [allE_eq, Bool.and_eq_true] at this
   exact .inl (node_plain this.1 h)
 refine Z38 ?_;refine Z8 ?_;refine Z15 ?_;refine Z192 ?_;refine R.fin [1, 2, 3] ?_;refine Z396 ?_;refine R.nilCell 1 5 6 ?_;refine Z404 ?_;refine R.fin [1, 2, 3, 4] ?_;refine Z97 ?_;refine R.fin [1, 2, 3, 4, 5] ?_
 refine AW.loopC (α := Nat) (fun i => ⟨162, setF 1 (.ro (exprC x)) (setF 2 (.ptr (oid Hp.length 0) 0) (setF 3 (.ptr (oid Hp.length 1) 0) (setF 4 (boolA (((x.kids.take i).map trimE).all fun k => k.op == 1)) (setF 5 (intA (i : Nat)) (fun _ => .any))))), Hp, [.cells 26 [intA 0, strA [], intA 0, intA 0, strA [], .nil], .cells 26 [intA x.op, strA x.text, intA 0, intA 0, strA [], .slice true 6 (((x.kids.take i).map trimE).map exprA)]], [], none⟩) (fun i => i ≤ x.kids.length) (fun i => x.kids.length - i) (0) (Nat.zero_le _) (StLe.of_eq (by simp)) rfl (fun i hi => ?_)
 refine Z14 ?_;refine Z16 ?_;refine Z106 ?_;refine R.fin [1, 2, 3, 4, 5, 29] ?_
 refine W.cond (fun ht29 => ?_) (fun ht29 => ?_)
 ·have hlt : i < x.kids.length := by simpa using ht29
  have hkl := hok.2.1
  refine Z88 ?_;refine Z134 ?_;refine Z405 ?_;refine R.indexAddr (i) (exprA x.kids[i]) jU jS (getMap hlt) ?_;refine Z407 ?_;refine R.call Tryz.call20 (hkid x.kids[i] (List.getElem_mem hlt) _) ?_;refine Z22 ?_;refine R.fin [1, 2, 3, 4, 5, 6] ?_;refine Z44 ?_;refine Z35 ?_;refine Z94 ?_;refine R.fin [1, 2, 3, 4, 5, 6] ?_;refine Z411 ?_;refine Z440 ?_;refine R.loadOwnT jA ?_;refine Z233 ?_
  refine R.append jU Tryz.type26 ?_ ?_ ?_
  ·simp only [List.length_map, List.length_take, List.length_cons, List.length_nil, Tryz.t26]; omega
  ·simp only [List.length_map, List.length_take, List.length_cons, List.length_nil, Tryz.t26]; omega
  refine Z440 ?_;refine R.storeOwnT jS ?_;refine R.fin [1, 2, 3, 4, 5] ?_;refine Z141 ?_;refine R.fin [1, 2, 3, 4, 5] ?_;refine K.lpN (i + 1) hlt (by omega) ?_
  have hlo : ∀ m, ObjLow m (.cells 26 [intA x.op, strA x.text, intA 0, intA 0, strA [], .slice true 6 (((x.kids.take i).map trimE ++ [trimE x.kids[i]]).map exprA)]) := fun m => low_yo
  simp only [List.map_append, List.map_cons, List.map_nil, exprA_eq] at hlo
  try simp only [show Tryz.t26.size = 6 from rfl]
  rw [all_step hlt, take_map hlt, List.map_append, List.map_cons, List.map_nil, exprA_eq]
  exact StCut.take (fun _ => .refl _) (by repeat (first | exact lowF_any | refine lowF_set (by first | exact low_exprs | (simp [oid, exprA_low]; done) | (simp [oid] <;> omega)) ?_)) (mem2 low_z69 (hlo _)) (by simp)
 have hxe : x.kids.length ≤ i := by simpa using ht29
 rw [List.take_of_length_le hxe]
 refine Z347 ?_;refine Z139 ?_;refine Z332 ?_;refine Z22 ?_;refine R.fin [2, 3, 4, 7] ?_;refine Z11 ?_;refine Z10 ?_;refine R.eql ?_;refine R.fin [2, 3, 4, 7, 56] ?_
 refine W.cond (fun ht56 => ?_) (fun ht56 => ?_)
 ·have hp : plainM ((x.kids.map trimE).getD 0 nullX).val = true := hya.resolve_right (by rw [ht56]; simp)
  refine Z396 ?_;refine R.fieldAddrPtr (fo := 2) jU Tryz.sizeOf23 ?_;refine Z10 ?_;refine Z43 ?_;refine R.fin [2, 3, 4, 7, 8] ?_;refine Z11 ?_;refine Z182 ?_;refine Z313 ?_;refine Z142 ?_;refine Z398 ?_;refine Z114 ?_;refine G.fieldAddrPtr (fo := 2) jU Tryz.sizeOf23 ?_;refine Z142 ?_;refine G.pickOr ?_;refine Z398 ?_;refine R.fin [2, 3, 4, 7, 8, 77] ?_
  refine W.cond (fun ht77 => ?_) (fun ht77 => ?_)
  ·have h3 := hy3 (by have := ht77; simp only [Bool.and_eq_true] at this; rw [this.1.2]; exact this.1.1)
   have h1k : 1 < (x.kids.map trimE).length := by omega
   have h2k : 2 < (x.kids.map trimE).length := by omega
   refine Z80 ?_;refine Z312 ?_;refine G.eql ?_;refine Z398 ?_;refine R.fin [2, 3, 84] ?_
   refine W.cond (fun ht84 => ?_) (fun ht84 => ?_)
   ·have hc := ch_if1 hp ht77 ht84
    refine Z396 ?_;refine Z139 ?_;refine Z316 ?_;refine Z133 ?_;refine K.thR ?_;exact Z57
   have hc := ch_if2 hp ht77 ht84
   refine Z38 ?_;refine Z139 ?_;refine R.indexAddr (2) (exprA ((x.kids.map trimE).getD 2 nullX)) jU jS (getE_at h2k) ?_;refine Z407 ?_;refine Z133 ?_;exact Z57
  refine Z50 ?_;refine Z182 ?_;refine Z313 ?_;refine Z142 ?_;refine Z398 ?_;refine R.fin [2, 3, 4, 7, 8, 100] ?_
  refine W.cond (fun ht100 => ?_) (fun ht100 => ?_)
  ·have h2 := hy2 (by have := ht100; simp only [Bool.and_eq_true] at this; rw [this.2]; exact this.1)
   have h1k : 1 < (x.kids.map trimE).length := by omega
   refine Z11 ?_;refine R.fieldAddrPtr (fo := 2) jU Tryz.sizeOf23 ?_;refine Z10 ?_;refine R.eql ?_;refine R.fin [2, 3, 7, 104] ?_
   refine W.cond (fun ht104 => ?_) (fun ht104 => ?_)
   ·have hc := ch_nvl1 hp ht77 ht100 ht104
    refine Z396 ?_;refine Z139 ?_;refine Z316 ?_;refine Z133 ?_;refine K.thR ?_;exact Z57
   have hc := ch_nvl2 ht77 ht100 ht104
   refine Z154 ?_;refine Z133 ?_;exact Z57
  refine Z38 ?_;refine Z10 ?_;refine Z181 ?_;refine Z95 ?_;refine Z143 ?_;refine G.seql ?_;refine G.move ?_;refine Z312 ?_;refine G.eql ?_;refine G.pickAnd ?_;refine G.move ?_;refine Z143 ?_;refine G.seql ?_;refine G.move ?_;refine Z312 ?_;refine G.eql ?_;refine G.pickAnd ?_;refine G.pickOr ?_;refine Z398 ?_;refine R.fin [2, 3, 4, 7, 137] ?_
  refine W.cond (fun ht137 => ?_) (fun ht137 => ?_)
  ·have hc := ch_bin hp ht137
   refine Z7 ?_;refine Z34 ?_;exact Z57
  have htr := tN_ch ht56 (ch_none hp ht77 ht100 ht137)
  refine Z254 ?_;refine R.not ?_;refine R.fin [2, 3, 140] ?_
  refine W.cond (fun ht140 => ?_) (fun ht140 => ?_)
  ·have hal := rk_1 (o := x.op) (t := x.text) (show ((x.kids.map trimE).all fun k => k.op == 1) = false by simpa using ht140)
   refine Z7 ?_;exact Z198
  have hal : ((x.kids.map trimE).all fun k => k.op == 1) = true := by simpa using ht140
  refine Z154 ?_;refine R.call Tryz.call15 (ev_nil15 hyok hyn hyr _) ?_;refine Z112 ?_;refine R.fin [2, 3, 9, 10] ?_;refine Z98 ?_;refine Z405 ?_;refine Z142 ?_;refine G.move ?_;refine Z63 ?_;refine G.lss ?_;refine Z213 ?_;refine R.fin [2, 3, 9, 158] ?_
  refine W.cond (fun ht158 => ?_) (fun ht158 => ?_)
  ·have hrk := rk_2 hal hyR ht158
   refine Z7 ?_;exact Z199
  have hrk := rk_3 hal hyR ht158
  refine Z154 ?_;refine Z195 ?_;exact Z232
 have htr := tN_no (o := x.op) (t := x.text) ht56
 refine Z254 ?_;refine R.not ?_;refine R.fin [2, 3, 140] ?_
 refine W.cond (fun ht140 => ?_) (fun ht140 => ?_)
 ·have hal := rk_1 (o := x.op) (t := x.text) (show ((x.kids.map trimE).all fun k => k.op == 1) = false by simpa using ht140)
  refine Z7 ?_;exact Z198
 have hal : ((x.kids.map trimE).all fun k => k.op == 1) = true := by simpa using ht140
 refine Z154 ?_;refine R.call Tryz.call15 (ev_nil15 hyok hyn hyr _) ?_;refine Z112 ?_;refine R.fin [2, 3, 9, 10] ?_;refine Z98 ?_;refine Z405 ?_;refine Z142 ?_;refine G.move ?_;refine Z63 ?_;refine G.lss ?_;refine Z213 ?_;refine R.fin [2, 3, 9, 158] ?_
 refine W.cond (fun ht158 => ?_) (fun ht158 => ?_)
 ·have hrk := rk_2 hal hyR ht158
  refine Z7 ?_;exact Z199
 have hrk := rk_3 hal hyR ht158
 refine Z154 ?_;refine Z195 ?_;exact Z232

/-- trim.Constant, trim.All. -/
def constM (x : Expr) : Val × Bool := if (((trimM x).2 != 0) || !((trimM x).1.op == 1)) = true then (noV, false) else ((trimM x).1.val, true)
def allT (l : List Expr) : List Expr × Int := if l.all exprRightM = true then (l.map trimE, 0) else ([], 1)
abbrev exprsA (l : List Expr) : AV := .slice false 6 (l.map exprA)
theorem allT_bad {l : List Expr} {y : Expr} (h : y ∈ l) (hy : exprRightM y = false) : allT l = ([], 1) := if_neg (fun e => by rw [List.all_eq_true.1 e y h] at hy; cases hy)
theorem allT_good {l : List Expr} (h : ∀ y ∈ l, exprRightM y = true) : allT l = (l.map trimE, 0) := if_pos (List.all_eq_true.2 h)
theorem all_upto {l : List Expr} {i : Nat} (h : i < l.length) (hx : ∀ y ∈ l.take i, exprRightM y = true) (hr : exprRightM l[i] = true) : ∀ y ∈ l.take (i + 1), exprRightM y = true := by
 intro y hy
 rw [List.take_succ_eq_append_getElem h, List.mem_append] at hy
 rcases hy with hy | hy
 ·exact hx y hy
 rw [List.mem_singleton] at hy; subst hy; exact hr
theorem c18 (n : Nat) (x : Expr) (hok : okE n x) (hn : n ≤ 1000000) (hg : allE rngN x = true) (Hp : List AObj) : AFun Tryz.prog 18 [exprA x] Hp (.tup [valA (constM x).1, boolA (constM x).2]) := by
 refine ACall.body [.cell 2 23, .tmp 3] [0] Tryz.func18 Tryz.ntmps18 (fun d => ?_)
 refine Z339 ?_;refine Z55 ?_;refine R.call Tryz.call17 (c17 n x hok hn hg _) ?_;refine Z112 ?_;refine R.fin [2, 4, 5] ?_;refine Z98 ?_;refine Z267 ?_;refine G.call Tryz.call46 (fun hB => c46 (trimM x).1 _) ?_;refine Z221 ?_;refine R.fin [2, 4, 17] ?_
 refine W.cond (fun ht17 => ?_) (fun ht17 => ?_)
 ·have hm : constM x = (noV, false) := if_pos ht17
  refine Z396 ?_;refine Z9 ?_;refine Z27 ?_;exact Z45
 have hm : constM x = ((trimM x).1.val, true) := if_neg (by rw [ht17]; simp)
 refine Z38 ?_;refine R.fieldAddrPtr (fo := 2) jU Tryz.sizeOf23 ?_;refine Z430 ?_;exact Z302

theorem c24 (n : Nat) (l : List Expr) (hl : l.length ≤ 1048576) (hn : n ≤ 1000000) (hok : ∀ y ∈ l, okE n y) (hg : ∀ y ∈ l, allE rngN y = true) (Hp : List AObj) : AFun Tryz.prog 24 [exprsA l] Hp (.tup [exprsA (allT l).1, intA (allT l).2]) := by
 refine ACall.body [.tmp 2, .tmp 3] [0] Tryz.func24 Tryz.ntmps24 (fun d => ?_)
 refine Z64 ?_;refine R.fin [0] ?_;refine Z3 ?_;refine R.fin [0, 4] ?_;refine Z11 ?_;refine R.wk 4 (.slice true 6 []) (.nil true 6) ?_;refine Z405 ?_;refine Z150 ?_;refine R.fin [4, 9, 10, 11] ?_
 refine AW.loopC (α := Nat) (fun i => ⟨29, setF 4 (.slice true 6 (((l.take i).map trimE).map exprA)) (setF 9 (exprsA l) (setF 10 (intA (l.length : Nat)) (setF 11 (intA (i : Nat)) (fun _ => .any)))), Hp, [], [], none⟩) (fun i => i ≤ l.length ∧ ∀ y ∈ l.take i, exprRightM y = true) (fun i => l.length - i) (0) ⟨Nat.zero_le _, fun y hy => by simp at hy⟩ (StLe.of_eq (by simp)) rfl (fun i hi => ?_)
 refine Z166 ?_;refine R.fin [4, 9, 10, 11, 12] ?_
 refine W.condX (fun ht12 => ?_) (fun ht12 => ?_)
 ·have hlt : i < l.length := by simpa using ht12
  refine Z279 ?_;refine R.indexAddr (i) (exprA l[i]) jU jS (getMap hlt) ?_;refine Z407 ?_;refine Z22 ?_;refine R.fin [4, 6, 9, 10, 11] ?_;refine Z7 ?_;refine R.call Tryz.call17 (c17 n l[i] (hok _ (List.getElem_mem hlt)) hn (hg _ (List.getElem_mem hlt)) _) ?_;refine Z112 ?_;refine R.fin [4, 7, 8, 9, 10, 11] ?_;refine Z98 ?_;refine R.fin [4, 7, 8, 9, 10, 11, 21] ?_
  refine W.cond (fun ht21 => ?_) (fun ht21 => ?_)
  ·have hb := trimM_err ht21
   have hm := allT_bad (List.getElem_mem hlt) hb
   rw [trimM_0 hb]
   refine Z0 ?_;refine Z404 ?_;refine R.wk 2 (.slice false 6 []) (.nil false 6) ?_;refine Z404 ?_;refine Z205 ?_;refine Z123 ?_;exact K.fin (V.two V.tmp V.tmp) ⟨by rw [hm]; try rfl, rfl⟩
  have hr := trimM_fine ht21
  rw [trimM_1 hr]
  refine Z370 ?_;refine R.moveT ?_;refine Z233 ?_
  refine R.append jU Tryz.type26 ?_ ?_ ?_
  ·simp only [List.length_map, List.length_take, List.length_cons, List.length_nil, Tryz.t26]; omega
  ·simp only [List.length_map, List.length_take, List.length_cons, List.length_nil, Tryz.t26]; omega
  refine R.assignT ?_;refine R.fin [4, 9, 10, 11] ?_;refine Z17 ?_;refine Z148 ?_;refine R.fin [4, 9, 10, 11] ?_;refine K.lpN (i + 1) ⟨hlt, all_upto hlt hi.2 hr⟩ (by omega) ?_
  have hlo : ∀ m, Low m (.slice true 6 (((l.take i).map trimE ++ [trimE l[i]]).map exprA)) := fun m => low_exprs
  simp only [List.map_append, List.map_cons, List.map_nil, exprA_eq] at hlo
  try simp only [show Tryz.t26.size = 6 from rfl]
  rw [take_map hlt, List.map_append, List.map_cons, List.map_nil, exprA_eq]
  exact StCut.take (own := []) (fun _ => .refl _) (by repeat (first | exact lowF_any | refine lowF_set (by first | exact hlo _ | exact low_exprs | (simp [oid, exprA_low]; done) | (simp [oid] <;> omega)) ?_)) (by simp) (by simp)
 have hxe : l.length ≤ i := by simpa using ht12
 have hm := allT_good (l := l) (by have := hi.2; rwa [List.take_of_length_le hxe] at this)
 rw [List.take_of_length_le hxe]
 refine Z48 ?_;refine Z0 ?_;refine Z23 ?_;refine Z27 ?_;exact K.fin (V.two V.tmp V.tmp) ⟨by rw [hm]; try rfl, rfl⟩ (hlow := by simp [exprA_low])

theorem const_bad {x : Expr} (h : exprRightM x = false) : constM x = (noV, false) := by unfold constM; rw [trimM_0 h]; rfl
theorem const_good {x : Expr} (h : exprRightM x = true) : constM x = if (trimE x).op == 1 then ((trimE x).val, true) else (noV, false) := by
 unfold constM
 rw [trimM_1 h]
 cases hE : (trimE x).op == 1 <;> simp [hE]
theorem saved_bad {x : Expr} (h : exprRightM x = false) : savedM x = 0 := if_neg (by rw [h]; simp)
theorem saved_good {x : Expr} (h : exprRightM x = true) : savedM x = (sizeE x : Int) - sizeE (trimE x) := by unfold savedM; rw [if_pos h, trimM_1 h]
structure TrimmedR (x : Expr) : Prop where
 node : allE nodeM (trimE x) = true
 rng : allE rngN (trimE x) = true
 size : sizeE (trimE x) ≤ sizeE x
 depth : depthE (trimE x) ≤ depthE x
 right : exprRightM (trimE x) = true
 ok : okE 61 (trimE x)
theorem right_parts {x : Expr} (h : exprRightM x = true) : depthE x ≤ 30 ∧ sizeE x ≤ 300 ∧ allE nodeM x = true := by
 rw [exprRight_eq] at h
 unfold refRightM at h
 simp only [Bool.and_eq_true, decide_eq_true_eq] at h
 exact ⟨h.1.1, h.1.2, h.2⟩
theorem trimmed_r {x : Expr} (h : exprRightM x = true) (hg : allE rngN x = true) : TrimmedR x := by
 obtain ⟨h1, h2, h3⟩ := right_parts h
 have t := trim_ok (c := []) (l := []) (fun v hv => by cases hv) _ x (Nat.le_refl _) h3 hg
 refine ⟨t.node, t.rng, t.size, t.depth, ?_, node_okT 61 _ (by have := t.depth; omega) t.node⟩
 rw [exprRight_eq]
 unfold refRightM
 simp only [Bool.and_eq_true, decide_eq_true_eq]
 exact ⟨⟨by have := t.depth; omega, by have := t.size; omega⟩, t.node⟩
theorem has_step {l : List Str} {s : Str} {k : Nat} (h : k < l.length) : (l.take (k + 1)).contains s = ((l.take k).contains s || (l[k] == s)) := by
 rw [List.take_succ_eq_append_getElem h]
 simp only [List.contains_eq_any_beq, List.any_append, List.any_cons, List.any_nil, Bool.or_false]
 rw [show (s == l[k]) = (l[k] == s) from Bool.beq_comm]
theorem rights_step {l : List Expr} {k : Nat} (h : k < l.length) : (l.take (k + 1)).all refRightM = ((l.take k).all refRightM && refRightM l[k]) := by
 rw [List.take_succ_eq_append_getElem h, List.all_append, List.all_cons, List.all_nil, Bool.and_true]
theorem allT_0 {l : List Expr} (h : l.all refRightM = false) : allT l = ([], 1) := if_neg (by rw [show exprRightM = refRightM from funext exprRight_eq, h]; simp)
theorem allT_1 {l : List Expr} (h : l.all refRightM = true) : allT l = (l.map trimE, 0) := if_pos (by rw [show exprRightM = refRightM from funext exprRight_eq, h])
theorem wide_upto {l : List Expr} {i : Nat} (h : i < l.length) (hx : ∀ y ∈ l.take i, wideM y = false) (hr : wideM l[i] = false) : ∀ y ∈ l.take (i + 1), wideM y = false := by
 intro y hy
 rw [List.take_succ_eq_append_getElem h, List.mem_append] at hy
 rcases hy with hy | hy
 ·exact hx y hy
 rw [List.mem_singleton] at hy; subst hy; exact hr
theorem c5 (x : Expr) (gx : allE rngN x = true) (l : List Expr) (gl : ∀ y ∈ l, allE rngN y = true) (Hp : List AObj) : AFun Tryz.prog 5 [exprA x, exprsA l] Hp (boolA true) := by
 refine ACall.body [.tmp 4] [0, 1] Tryz.func5 Tryz.ntmps5 (fun d => ?_)
 refine Z391 ?_;refine R.fin [1, 2] ?_;refine Z11 ?_;refine R.call Tryz.call16 (c16 _) ?_;refine R.not ?_;refine R.fin [1, 2, 24] ?_
 refine W.cond (fun ht24 => ?_) (fun ht24 => ?_)
 ·cases ht24
 refine Z50 ?_;refine Z407 ?_;refine R.call Tryz.call7 (c7 x _) ?_;refine Z21 ?_;refine G.len jU ?_;refine Z127 ?_;refine R.fin [1, 2, 31] ?_
 refine W.cond (fun ht31 => ?_) (fun ht31 => ?_)
 ·refine Z113 ?_;exact Z202
 simp only [Bool.or_eq_false_iff, decide_eq_false_iff_not, List.length_map] at ht31
 obtain ⟨hwx, hl12⟩ := ht31
 have hs := slim_of hwx
 have hz : sizeE x ≤ 1048576 := by have := hs.size; omega
 refine Z211 ?_;refine R.call Tryz.call17 (c17 61 x hs.ok (by decide) gx _) ?_;refine Z112 ?_;refine R.fin [1, 2, 5, 6] ?_;refine Z55 ?_;refine R.call Tryz.call18 (c18 61 x hs.ok (by decide) gx _) ?_;refine Z112 ?_;refine R.fin [1, 2, 5, 6, 7, 8] ?_;refine Z55 ?_;refine R.call Tryz.call19 (c19s 61 x hs.ok (by decide) hz gx _) ?_;refine Z404 ?_;refine R.fin [1, 2, 5, 6, 7, 8, 9] ?_;refine Z314 ?_;refine R.call Tryz.call14 (c14 61 x hs.ok (by decide) hz _) ?_;refine R.not ?_;refine R.fin [1, 2, 5, 6, 7, 8, 9, 46] ?_
 refine W.cond (fun ht46 => ?_) (fun ht46 => ?_)
 ·have hb : exprRightM x = false := by rw [exprRight_eq]; simpa using ht46
  rw [trimM_0 hb, const_bad hb, saved_bad hb]
  refine Z280 ?_;refine Z181 ?_;refine G.eql ?_;refine Z95 ?_;refine G.loadOwnN jA jS ?_;refine G.build (places := #[(0, 1), (1, 1), (2, 1)]) jU (fun w => by simp) jZ ?_;refine G.eqlAgg eg23 (fun w => equal23 0 0 0 0 [] [] w) ?_;refine Z164 ?_;refine G.not ?_;refine Z164 ?_;refine Z94 ?_;refine Z36 ?_;exact Z202
 have hr : exprRightM x = true := by rw [exprRight_eq]; simpa using ht46
 have ht0 := trimmed_r hr gx
 have hcg := const_good hr
 rw [trimM_1 hr, saved_good hr]
 obtain ⟨h30, h300, hnode⟩ := right_parts hr
 have hc20 : ∀ Hp : List AObj, AFun Tryz.prog 20 [exprA x] Hp (exprA (trimE x)) := c20 61 x hs.ok (by decide) hnode gx h300 h30
 have hnm := trim_names x
 have hE2 := trim_again _ x (Nat.le_refl _)
 have ht : okE 61 (trimE x) ∧ allE rngN (trimE x) = true ∧ sizeE (trimE x) ≤ sizeE x ∧ exprRightM (trimE x) = true := ⟨ht0.ok, ht0.rng, ht0.size, ht0.right⟩
 clear ht0
 generalize trimE x = E at *
 obtain ⟨⟨cv, cb⟩, hcs⟩ : ∃ q, constM x = q := ⟨_, rfl⟩
 rw [hcs] at hcg ⊢
 have hzE : sizeE E ≤ 1048576 := by have := ht.2.2.1; omega
 have hnl1 := names_len x
 have hnl2 := names_len E
 have hc17 : ∀ Hp : List AObj, AFun Tryz.prog 17 [exprA E] Hp (.tup [exprA E, intA 0]) := fun Hp => by
  have := c17 61 E ht.1 (by decide) ht.2.1 Hp
  rw [trimM_1 ht.2.2.2, hE2] at this
  exact this
 refine Z211 ?_;refine R.call Tryz.call20 (hc20 _) ?_;refine Z22 ?_;refine R.fin [1, 2, 5, 6, 7, 8, 9, 10] ?_;refine W.seq ?_;refine W.draw [0, 1, 3, 7, 7, 31, 63, 127, 255, 511, 511, 1535, 3583, 8191, 16383, 32767, 65535, 131071, 262143, 262143, 786431, 2097151, 4194303, 8388607, 16777215, 33554431, 67108863, 134217727, 268435455, 268435455, 1073741823, 2147483647, 4294967295, 8589934591, 17179869183, 17179869183, 51539607551, 17179869183, 257698037759, 532575944703, 1099511627775, 2199023255551, 4398046511103, 8796093022207, 17592186044415, 35184372088831, 70368744177663] 40 Tryzmixed (by kernel_rfl) ?_;refine Z415 ?_;refine D.neq ?_;refine Z415 ?_;refine H.loadOwnN jA jS ?_;refine H.loadOwnN jA jS ?_;refine H.call Tryz.call21 (fun hB => c21 61 E ht.1 E _) ?_;refine H.not ?_;refine D.pickOr ?_;refine Z415 ?_;refine H.move ?_;refine Z268 ?_;refine H.eql ?_;refine H.bneq jU ?_
 refine D.pickOr ?_;refine Z415 ?_;refine Z241 ?_;refine H.loadOwnN jA jS ?_;refine H.fieldAddrPtr (fo := 2) jU Tryz.sizeOf23 ?_;refine H.loadOwnN jA jS ?_;refine H.neqAgg eg23 (fun w => equal23 cv.kind cv.n E.val.kind E.val.n cv.s E.val.s w) ?_;refine H.pickAnd ?_;refine D.pickOr ?_;refine Z415 ?_;refine H.move ?_;refine H.not ?_;refine H.move ?_;refine H.loadOwnN jA jS ?_;refine H.build (places := #[(0, 1), (1, 1), (2, 1)]) jU (fun w => by simp) jZ ?_;refine H.neqAgg eg23 (fun w => equal23 cv.kind cv.n 0 0 cv.s [] w) ?_;refine H.pickAnd ?_;refine D.pickOr ?_;refine Z415 ?_;refine H.move ?_;refine H.loadRoN jA jS ?_;refine H.call Tryz.call22 (fun hB => c22 61 x hs.ok hz _) ?_;refine H.loadOwnN jA jS ?_;refine H.call Tryz.call22 (fun hB => c22 61 E ht.1 hzE _) ?_;refine H.sub64 ?_;refine D.tail ?_;refine Z172 ?_;refine Z267 ?_
 refine G.call Tryz.call14 (fun hB => c14 61 E ht.1 (by decide) hzE _) ?_;refine Z221 ?_;refine R.fin [1, 2, 5, 115] ?_
 refine W.cond (fun ht115 => ?_) (fun ht115 => ?_)
 ·have hR : refRightM E = true := by rw [← exprRight_eq]; exact ht.2.2.2
  cases hop : E.op == 1 with
  | true =>
   rw [hop] at hcg
   simp only [if_true, Prod.mk.injEq] at hcg
   obtain ⟨rfl, rfl⟩ := hcg
   simp [hop, hR, eqE_refl] at ht115
  | false =>
   rw [hop] at hcg
   simp only [Bool.false_eq_true, if_false, Prod.mk.injEq] at hcg
   obtain ⟨rfl, rfl⟩ := hcg
   simp [hop, hR, eqE_refl, noV] at ht115
 refine Z154 ?_;refine R.call Tryz.call17 (hc17 _) ?_;refine Z112 ?_;refine R.fin [1, 2, 5, 11, 12] ?_;refine Z98 ?_;refine Z267 ?_;refine G.loadOwnN jA jS ?_;refine G.call Tryz.call21 (fun hB => c21 61 E ht.1 E _) ?_;refine Z221 ?_;refine R.fin [1, 2, 5, 128] ?_
 refine W.cond (fun ht128 => ?_) (fun ht128 => ?_)
 ·rw [eqE_refl] at ht128; cases ht128
 refine Z2 ?_;refine Z393 ?_;refine D.call Tryz.call23 (c23 x hz _) ?_;refine Z343 ?_;refine R.call Tryz.call23 (c23 E hzE _) ?_;refine Z23 ?_;refine R.fin [1, 13, 14] ?_;refine Z97 ?_;refine R.fin [1, 13, 14, 15] ?_
 refine AW.loopC (α := Nat) (fun i => ⟨225, setF 1 (exprsA l) (setF 13 (strsA (exprNamesM x)) (setF 14 (strsA (exprNamesM E)) (setF 15 (intA (i : Nat)) (fun _ => .any)))), Hp, [.cells 26 (exprC E), .cells 23 [intA cv.kind, intA cv.n, .v (sv cv.s)], .cells 26 (exprC E), .cells 26 (exprC E)], [], none⟩) (fun i => i ≤ (exprNamesM E).length) (fun i => (exprNamesM E).length - i) (0) (Nat.zero_le _) (StLe.of_eq (by simp)) rfl (fun i hi => ?_)
 refine Z210 ?_;refine R.fin [1, 13, 14, 15, 136] ?_
 refine W.cond (fun ht136 => ?_) (fun ht136 => ?_)
 ·have hlt : i < (exprNamesM E).length := by simpa using ht136
  refine Z88 ?_;refine Z3 ?_;refine R.fin [1, 13, 14, 15, 16] ?_;refine Z97 ?_;refine R.fin [1, 13, 14, 15, 16, 17] ?_
  refine AW.loopC (α := Nat) (fun k => ⟨225, setF 1 (exprsA l) (setF 13 (strsA (exprNamesM x)) (setF 14 (strsA (exprNamesM E)) (setF 15 (intA (i : Nat)) (setF 16 (boolA (((exprNamesM x).take k).contains (exprNamesM E)[i])) (setF 17 (intA (k : Nat)) (fun _ => .any)))))), Hp, [.cells 26 (exprC E), .cells 23 [intA cv.kind, intA cv.n, .v (sv cv.s)], .cells 26 (exprC E), .cells 26 (exprC E)], [], none⟩) (fun k => k ≤ (exprNamesM x).length) (fun k => (exprNamesM x).length - k) (0) (Nat.zero_le _) (StLe.of_eq (by simp)) rfl (fun k hkx => ?_)
  refine Z210 ?_;refine R.fin [1, 13, 14, 15, 16, 17, 142] ?_
  refine W.cond (fun ht142 => ?_) (fun ht142 => ?_)
  ·have hk : k < (exprNamesM x).length := by simpa using ht142
   refine Z88 ?_;refine W.draw0 [0, 1, 3, 3, 15, 31, 3, 3, 195, 451, 1023, 2047, 4095] 10 Tryzmixed (by kernel_rfl) ?_;refine Z240 ?_;refine Z241 ?_;refine H.indexAddr (k) (strA (exprNamesM x)[k]) jU jS (fun _ => getMap hk) ?_;refine H.loadRo jA ?_;refine Z241 ?_;refine H.indexAddr (i) (strA (exprNamesM E)[i]) jU jS (fun _ => getMap hlt) ?_;refine H.loadRo jA ?_;refine D.tail ?_;refine Z345 ?_;refine Z404 ?_;refine R.fin [1, 13, 14, 15, 16, 17] ?_;refine Z141 ?_;refine R.fin [1, 13, 14, 15, 16, 17] ?_
   rw [← has_step hk]
   exact Z441
  have hke : (exprNamesM x).length ≤ k := by simpa using ht142
  have hin : (exprNamesM x).contains (exprNamesM E)[i] = true := by rw [List.contains_iff_mem]; exact hnm _ (List.getElem_mem hlt)
  rw [List.take_of_length_le hke, hin]
  refine Z296 ?_;refine R.not ?_;refine R.fin [1, 13, 14, 15, 158] ?_
  refine W.cond (fun ht158 => ?_) (fun ht158 => ?_)
  ·cases ht158
  refine Z177 ?_;refine R.fin [1, 13, 14, 15] ?_;exact K.lpN (i + 1) hlt (by omega) (StCut.of_eq rfl)
 refine Z90 ?_;refine Z3 ?_;refine R.fin [1, 18] ?_;refine Z97 ?_;refine R.fin [1, 18, 19] ?_
 refine AW.loopC (α := Nat) (fun i => ⟨225, setF 1 (exprsA l) (setF 18 (boolA ((l.take i).all refRightM)) (setF 19 (intA (i : Nat)) (fun _ => .any))), Hp, [.cells 26 (exprC E), .cells 23 [intA cv.kind, intA cv.n, .v (sv cv.s)], .cells 26 (exprC E), .cells 26 (exprC E)], [], none⟩) (fun i => i ≤ l.length ∧ ∀ y ∈ l.take i, wideM y = false) (fun i => l.length - i) (0) ⟨Nat.zero_le _, fun y hy => by simp at hy⟩ (StLe.of_eq (by simp)) rfl (fun i hi => ?_)
 refine Z210 ?_;refine R.fin [1, 18, 19, 162] ?_
 refine W.cond (fun ht162 => ?_) (fun ht162 => ?_)
 ·have hlt : i < l.length := by simpa using ht162
  refine Z88 ?_;refine Z80 ?_;refine R.indexAddr (i) (exprA l[i]) jU jS (getMap hlt) ?_;refine Z407 ?_;refine R.call Tryz.call7 (c7 l[i] _) ?_;refine R.fin [1, 18, 19, 169] ?_
  refine W.cond (fun ht169 => ?_) (fun ht169 => ?_)
  ·refine Z113 ?_;refine K.thR ?_;refine Z123 ?_;exact Z454
  have hsi := slim_of ht169
  have hzi : sizeE l[i] ≤ 1048576 := by have := hsi.size; omega
  refine Z2 ?_;refine Z31 ?_;refine Z114 ?_;refine G.indexAddr (i) (exprA l[i]) jU jS (fun _ => getMap hlt) ?_;refine G.loadRoN jA jS ?_;refine G.call Tryz.call14 (fun hB => c14 61 l[i] hsi.ok (by decide) hzi _) ?_;refine Z32 ?_;refine R.fin [1, 18, 19] ?_;refine Z141 ?_;refine R.fin [1, 18, 19] ?_
  rw [← rights_step hlt]
  exact K.lpN (i + 1) ⟨hlt, wide_upto hlt hi.2 ht169⟩ (by omega) (StCut.of_eq rfl)
 have hle : l.length ≤ i := by simpa using ht162
 have hwl : ∀ y ∈ l, wideM y = false := by have := hi.2; rwa [List.take_of_length_le hle] at this
 have hlok : ∀ y ∈ l, okE 61 y := fun y hy => (slim_of (hwl y hy)).ok
 rw [List.take_of_length_le hle]
 refine Z296 ?_;refine R.call Tryz.call24 (c24 61 l (by omega) (by decide) hlok gl _) ?_;refine Z252 ?_;refine R.fin [1, 18, 20, 21] ?_;refine Z14 ?_;refine R.not ?_;refine R.fin [1, 20, 21, 184] ?_
 refine W.cond (fun ht184 => ?_) (fun ht184 => ?_)
 ·have hb2 : l.all refRightM = false := by simpa using ht184
  rw [allT_0 hb2]
  refine Z0 ?_;refine R.len jU ?_;refine Z181 ?_;refine Z94 ?_;refine Z36 ?_;exact Z202
 have hr2 : l.all refRightM = true := by simpa using ht184
 rw [allT_1 hr2]
 refine Z379 ?_;refine R.fin [1, 20, 21, 22] ?_
 refine AW.loopC (α := Nat) (fun i => ⟨225, setF 1 (exprsA l) (setF 20 (exprsA (l.map trimE)) (setF 21 (intA 0) (setF 22 (intA (i : Nat)) (fun _ => .any)))), Hp, [.cells 26 (exprC E), .cells 23 [intA cv.kind, intA cv.n, .v (sv cv.s)], .cells 26 (exprC E), .cells 26 (exprC E)], [], none⟩) (fun i => i ≤ l.length) (fun i => l.length - i) (0) (Nat.zero_le _) (StLe.of_eq rfl) rfl (fun i hi => ?_)
 refine Z210 ?_;refine R.fin [1, 20, 21, 22, 195] ?_
 refine W.cond (fun ht195 => ?_) (fun ht195 => ?_)
 ·have hlt : i < l.length := by simpa using ht195
  have hri : exprRightM l[i] = true := by rw [exprRight_eq]; exact List.all_eq_true.1 hr2 _ (List.getElem_mem hlt)
  have gli := gl _ (List.getElem_mem hlt)
  have hti := trimmed_r hri gli
  obtain ⟨q30, q300, qnode⟩ := right_parts hri
  have hc20i : ∀ Hp : List AObj, AFun Tryz.prog 20 [exprA l[i]] Hp (exprA (trimE l[i])) := c20 61 l[i] (hlok _ (List.getElem_mem hlt)) (by decide) qnode gli q300 q30
  refine Z88 ?_;refine W.draw [0, 1, 0, 4, 15, 31, 63, 63, 255, 511, 63, 63, 3135, 7231, 15423, 32767, 65535, 131071] 15 Tryzmixed (by kernel_rfl) ?_;refine Z415 ?_;refine D.len jU ?_;refine Z415 ?_;refine D.len jU ?_;refine D.neq ?_;refine Z415 ?_;refine Z241 ?_
  refine H.indexAddr (i) (exprA (trimE l[i])) jU jS (fun _ => by rw [List.getElem?_map, List.getElem?_map, List.getElem?_eq_getElem hlt]; rfl) ?_
  refine H.loadRoN jA jS ?_;refine Z241 ?_;refine H.indexAddr (i) (exprA l[i]) jU jS (fun _ => getMap hlt) ?_;refine H.loadRoN jA jS ?_;refine H.call Tryz.call20 (fun hB => hc20i _) ?_;refine D.tail ?_;refine G.call Tryz.call21 (fun hB => c21 61 (trimE l[i]) hti.ok (trimE l[i]) _) ?_;refine Z221 ?_;refine R.fin [1, 20, 21, 22, 215] ?_
  refine W.cond (fun ht215 => ?_) (fun ht215 => ?_)
  ·simp [eqE_refl] at ht215
  refine Z177 ?_;refine R.fin [1, 20, 21, 22] ?_;exact K.lpN (i + 1) hlt (by omega) (StCut.of_eq rfl)
 refine Z296 ?_;refine Z181 ?_;refine G.len jU ?_;refine G.move ?_;refine G.len jU ?_;refine Z94 ?_;refine Z36 ?_;exact Z454

end Go.SX.Nb
