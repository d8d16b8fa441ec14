/- Texts on the way to this: EvalLogic answers true for whatever it is handed: or and and are their tables, and who decides decides. (part 7) -/
import Derived.Test.YtmagaphdmgpneaaGreatDoorEvalLogicCardSaidPart6
set_option linter.all false
namespace Go.SX.Nb
open Go Go.SX Go.Proofs
variable [ErrAt]
set_option maxRecDepth 4000
end Go.SX.Nb
namespace Go.SX.Nb
open Go Go.SX Go.Proofs
variable [ErrAt]
set_option maxRecDepth 4000
theorem c20 (s : Str) (hs : s.length ≤ 1048576) (X : Expr) (hp : parseM s = (X, 0, 0)) (n : Nat) (hok : okE n X) (hn : n ≤ 1048576) (hg : allE rngN X = true) (c : List Col) (hc : OkCols c) (hf : findM [97] c = 0) (l : List Val) (hll : l.length ≤ 1048576) (hlr : ∀ v ∈ l, -9223372036854775808 ≤ v.n ∧ v.n ≤ 9223372036854775807) (Hp : List AObj) : AFun Tryz.prog 20 [strA s, colsA c, valsA l] Hp (resA (evalM X c l)) := by
 refine ACall.body [.cell 6 24, .tmp 7] [0, 1, 2] Tryz.func20 Tryz.ntmps20 (fun d => ?_)
 refine AW.seqR ?_
 refine R.alloc Tryz.zeroValue24 ?_
 refine R.assign ?_
 refine R.fin [0, 1, 2, 6] ?_
 refine AW.seqR ?_
 refine R.move ?_
 refine R.call Tryz.call10 (c87p s hs _) ?_
 rw [hp]
 refine R.move ?_
 refine R.extract ?_
 refine R.extract ?_
 refine R.alloc Tryz.zeroValue27 ?_
 refine R.alloc Tryz.zeroValue30 ?_
 refine R.storeOwn Tryz.sizeOf27 ?_
 refine R.storeOwn Tryz.sizeOf30 ?_
 refine R.fin [1, 2, 6, 8, 9] ?_
 refine W.seq ?_
 refine AW.seqR ?_
 refine R.fieldAddrPtr (fo := 0) Tryz.underlying30 Tryz.sizeOf28 ?_
 refine R.loadOwn Tryz.isAgg28 ?_
 refine R.neq ?_
 refine R.fin [1, 2, 6, 8, 9, 17] ?_
 refine W.cond (fun ht17 => ?_) (fun ht17 => ?_)
 ·skip
  cases ht17
 ·skip
  refine AW.skip ?_
  refine K.thN ?_
  refine W.seq ?_
  refine AW.seqR ?_
  refine R.move ?_
  refine R.call Tryz.call25 (c25 c hc [97] _) ?_
  refine R.neq ?_
  refine R.fin [1, 2, 6, 8, 23] ?_
  refine W.cond (fun ht23 => ?_) (fun ht23 => ?_)
  ·skip
   rw [hf] at ht23
   cases ht23
  ·skip
   refine AW.skip ?_
   refine K.thN ?_
   refine AW.seqR ?_
   refine R.loadOwnN Tryz.isAgg27 Tryz.sizeOf27 ?_
   refine R.move ?_
   refine R.move ?_
   refine R.call Tryz.call26 (c26 n X hok hn hg c hc l hll hlr _) ?_
   refine R.extract ?_
   refine R.extract ?_
   refine R.storeOwn Tryz.sizeOf24 ?_
   refine R.assign ?_
   refine R.fin [6, 7] ?_
   refine AW.ret ?_
   exact K.fin (V.two (V.cellN Tryz.isAgg24 Tryz.sizeOf24) V.tmp) ⟨rfl, rfl⟩

theorem node_len {e : Expr} (h : nodeM e = true) : e.text.length ≤ 1048576 ∧ e.kids.length ≤ 1048576 := by
 cases node_cases h with
 | val v hp h0 => exact ⟨by simp [valX, Expr.text], by simp [valX, Expr.kids]⟩
 | name t ht =>
  refine ⟨?_, by simp [nameE, Expr.kids]⟩
  show t.length ≤ 1048576
  cases t with
  | nil => simp
  | cons c r =>
   simp only [nameM, Bool.and_eq_true, decide_eq_true_eq] at ht
   have := ht.1.1.1
   omega
 | neg a => exact ⟨by simp [oneX, Expr.text], by simp [oneX, Expr.kids]⟩
 | no a => exact ⟨by simp [oneX, Expr.text], by simp [oneX, Expr.kids]⟩
 | bin t a b ht =>
  refine ⟨?_, by simp [binX, Expr.kids]⟩
  show t.length ≤ 1048576
  rcases level_cases t with hm | ⟨hm, _⟩
  ·have h3 : (levels.flatten.all fun s => decide (s.length ≤ 3)) = true := by kernel_rfl
   have := of_decide_eq_true (List.all_eq_true.1 h3 t hm)
   omega
  ·omega
 | call t k ha =>
  rcases call_names ha with ⟨e1, e⟩ | ⟨e1, e⟩ | ⟨e1, e⟩ | ⟨e1, e⟩ | ⟨e1, e⟩ | ⟨e1, e⟩ | ⟨e1, e⟩ | ⟨e1, e⟩ <;> subst e1 <;> exact ⟨by simp [Expr.text, isnullW, nvlW, ifW], by show k.length ≤ _; omega⟩
theorem depth_memD : ∀ {l : List Expr} {y : Expr}, y ∈ l → depthE y ≤ depthL l
 | a :: r, y, h => by
  rw [depthL]
  rcases List.mem_cons.1 h with rfl | h
  ·omega
  ·have := depth_memD h
   omega
theorem node_okD : ∀ (n : Nat) (e : Expr), depthE e ≤ n → allE nodeM e = true → okE n e
 | 0, e, h, _ => by rw [depthE_eq] at h; omega
 | n + 1, e, h, hn => by
  rw [allE_eq, Bool.and_eq_true] at hn
  rw [depthE_eq] at h
  have hs := node_len hn.1
  exact ⟨hs.1, hs.2, fun y hy => node_okD n y (by have := depth_memD hy; omega) ((allL_iff _ _).1 hn.2 y hy)⟩
theorem right_okD {e : Expr} (h : refRightM e = true) : okE 30 e := by
 unfold refRightM at h
 simp only [Bool.and_eq_true, decide_eq_true_eq] at h
 exact node_okD 30 e h.1.1 h.2
def lazyR (x : Val) : Rs := if x.n == 1 then (x, 0) else (noV, 5)
theorem lC_ok : OkCols lC := ⟨by decide, fun y hy => by
 simp only [lC, List.mem_cons, List.not_mem_nil, or_false] at hy
 rcases hy with rfl | rfl | rfl <;> decide⟩
theorem lT_rng {x : Val} (h : x ∈ lT) : -9223372036854775808 ≤ x.n ∧ x.n ≤ 9223372036854775807 := by
 simp only [lT, List.mem_cons, List.not_mem_nil, or_false] at h
 rcases h with rfl | rfl | rfl <;> decide
theorem row_rng {x y : Val} (hx : x ∈ lT) (hy : y ∈ lT) {n : Int} (h : i64R n) : ∀ v ∈ [x, y, (⟨1, n, []⟩ : Val)], -9223372036854775808 ≤ v.n ∧ v.n ≤ 9223372036854775807 := fun v hv => by
 simp only [List.mem_cons, List.not_mem_nil, or_false] at hv
 rcases hv with rfl | rfl | rfl
 ·exact lT_rng hx
 ·exact lT_rng hy
 ·exact h
theorem l_right : refRightM lX1 = true ∧ refRightM lX2 = true ∧ refRightM lX3 = true ∧ refRightM lX4 = true := ⟨by kernel_rfl, by kernel_rfl, by kernel_rfl, by kernel_rfl⟩
theorem l_ok (X : Expr) (h : refRightM X = true) : okE 30 X := right_okD h
theorem ask1 {x y : Val} (hx : x ∈ lT) (hy : y ∈ lT) {n : Int} (h : i64R n) (Hp : List AObj) : AFun Tryz.prog 20 [strA lS1, colsA lC, valsA [x, y, ⟨1, n, []⟩]] Hp (resA (orV x y, 0)) := by
 have := c20 lS1 (by decide) lX1 l_parse1 30 (l_ok _ l_right.1) (by decide) (by kernel_rfl) lC lC_ok (by kernel_rfl) [x, y, ⟨1, n, []⟩] (by simp) (row_rng hx hy h) Hp
 rw [l_eval1 hx hy n] at this
 exact this
theorem ask2 {x y : Val} (hx : x ∈ lT) (hy : y ∈ lT) {n : Int} (h : i64R n) (Hp : List AObj) : AFun Tryz.prog 20 [strA lS2, colsA lC, valsA [x, y, ⟨1, n, []⟩]] Hp (resA (andV x y, 0)) := by
 have := c20 lS2 (by decide) lX2 l_parse2 30 (l_ok _ l_right.2.1) (by decide) (by kernel_rfl) lC lC_ok (by kernel_rfl) [x, y, ⟨1, n, []⟩] (by simp) (row_rng hx hy h) Hp
 rw [l_eval2 hx hy n] at this
 exact this
theorem ask3 {x y : Val} (hx : x ∈ lT) (hy : y ∈ lT) {n : Int} (h : i64R n) (Hp : List AObj) : AFun Tryz.prog 20 [strA lS3, colsA lC, valsA [x, y, ⟨1, n, []⟩]] Hp (resA (orV x y, 0)) := by
 have := c20 lS3 (by decide) lX3 l_parse3 30 (l_ok _ l_right.2.2.1) (by decide) (by kernel_rfl) lC lC_ok (by kernel_rfl) [x, y, ⟨1, n, []⟩] (by simp) (row_rng hx hy h) Hp
 rw [l_eval3 hx hy n] at this
 exact this
theorem ask4 {x y : Val} (hx : x ∈ lT) (hy : y ∈ lT) {n : Int} (h : i64R n) (Hp : List AObj) : AFun Tryz.prog 20 [strA lS4, colsA lC, valsA [x, y, ⟨1, n, []⟩]] Hp (resA (lazyR x)) := by
 have := c20 lS4 (by decide) lX4 l_parse4 30 (l_ok _ l_right.2.2.2) (by decide) (by kernel_rfl) lC lC_ok (by kernel_rfl) [x, y, ⟨1, n, []⟩] (by simp) (row_rng hx hy h) Hp
 rw [l_eval4 hx hy n] at this
 exact this
theorem c6 (a b n : Int) (ha : 0 ≤ a) (hb : 0 ≤ b) (hn : i64R n) (Hp : List AObj) : AFun Tryz.prog 6 [.v (.int .u8 a), .v (.int .u8 b), intA n] Hp (boolA true) := by
 obtain ⟨na, hna, hqa⟩ : ∃ na : Nat, na < 3 ∧ a.tmod 3 = (na : Int) := ⟨(a.tmod 3).toNat, by rw [Int.tmod_eq_emod_of_nonneg ha]; omega, by rw [Int.tmod_eq_emod_of_nonneg ha]; omega⟩
 obtain ⟨nb, hnb, hqb⟩ : ∃ nb : Nat, nb < 3 ∧ b.tmod 3 = (nb : Int) := ⟨(b.tmod 3).toNat, by rw [Int.tmod_eq_emod_of_nonneg hb]; omega, by rw [Int.tmod_eq_emod_of_nonneg hb]; omega⟩
 obtain ⟨vX, hX⟩ : ∃ vX, lT[na]? = some vX := ⟨_, List.getElem?_eq_getElem (show na < lT.length from hna)⟩
 obtain ⟨vY, hY⟩ : ∃ vY, lT[nb]? = some vY := ⟨_, List.getElem?_eq_getElem (show nb < lT.length from hnb)⟩
 have hXm : vX ∈ lT := List.mem_of_getElem? hX
 have hYm : vY ∈ lT := List.mem_of_getElem? hY
 refine ACall.body [.tmp 6] [0, 1, 2] Tryz.func6 Tryz.ntmps6 (fun d => ?_)
 refine AW.seqR ?_
 refine R.assign ?_
 refine R.fin [0, 1, 2] ?_
 refine W.seq ?_
 refine AW.seqR ?_
 refine R.call Tryz.call19 (c19 _) ?_
 refine R.not ?_
 refine R.fin [0, 1, 2, 23] ?_
 refine W.cond (fun ht23 => ?_) (fun ht23 => ?_)
 ·skip
  cases ht23
 ·skip
  refine AW.skip ?_
  refine K.thN ?_
  refine AW.seqR ?_
  refine R.build (places := #[(0, 1), (1, 1), (2, 1)]) Tryz.underlying24 (fun w => by simp) Tryz.zeroValue24 ?_
  refine R.build (places := #[(0, 1), (1, 1), (2, 1)]) Tryz.underlying24 (fun w => by simp) Tryz.zeroValue24 ?_
  refine R.build (places := #[(0, 1), (1, 1), (2, 1)]) Tryz.underlying24 (fun w => by simp) Tryz.zeroValue24 ?_
  refine R.buildSl Tryz.underlying42 Tryz.sizeOf24 Tryz.zeroValue24 ?_
  refine R.assign ?_
  refine R.fin [0, 1, 2, 7] ?_
  refine W.drawY [0, 0, 2, 7, 15, 0, 0, 64, 224, 480, 0, 0, 3103, 8191] [] [.q 10 [] [], .s [8] none [] [], .s [9] none [] [], .s [8] none [] [], .s [9] none [] []] (fun _ => Hp) (fun _ => []) Tryzmixed (by kernel_rfl) rfl rfl (fun _ => rfl) ?_
  apply Y.q
  case h1 =>
   intro B hT hF
   refine D.move ?_
   refine D.move ?_
   refine D.rem ?_
   rw [hqa]
   refine D.indexAddr (na) (valA vX) Tryz.underlying42 Tryz.sizeOf24 (show (lT.map valA)[na]? = some (valA vX) by rw [List.getElem?_map, hX]; rfl) ?_
   refine D.loadRoN Tryz.isAgg24 Tryz.sizeOf24 ?_
   refine D.move ?_
   refine D.move ?_
   refine D.rem ?_
   rw [hqb]
   refine D.indexAddr (nb) (valA vY) Tryz.underlying42 Tryz.sizeOf24 (show (lT.map valA)[nb]? = some (valA vY) by rw [List.getElem?_map, hY]; rfl) ?_
   refine D.loadRoN Tryz.isAgg24 Tryz.sizeOf24 ?_
   exact D.end rfl rfl
  case hTF => decide
  refine Y.allocP Tryz.zeroValue24 ?_
  refine Y.allocP Tryz.zeroValue24 ?_
  refine Y.storeP Tryz.sizeOf24 ?_
  refine Y.storeP Tryz.sizeOf24 ?_
  refine Y.tail (tn := [])  ?_
  refine R.fin [2, 8, 9] ?_
  refine AW.seqR ?_
  refine R.build (places := #[(0, 1), (1, 1)]) Tryz.underlying44 (fun w => by simp) Tryz.zeroValue44 ?_
  refine R.build (places := #[(0, 1), (1, 1)]) Tryz.underlying44 (fun w => by simp) Tryz.zeroValue44 ?_
  refine R.build (places := #[(0, 1), (1, 1)]) Tryz.underlying44 (fun w => by simp) Tryz.zeroValue44 ?_
  refine R.buildSl Tryz.underlying45 Tryz.sizeOf44 Tryz.zeroValue44 ?_
  refine R.assign ?_
  refine R.fin [2, 8, 9, 10] ?_
  refine AW.seqR ?_
  refine R.loadRoN Tryz.isAgg24 Tryz.sizeOf24 ?_
  refine R.loadRoN Tryz.isAgg24 Tryz.sizeOf24 ?_
  refine R.move ?_
  refine R.build (places := #[(0, 1), (1, 1), (2, 1)]) Tryz.underlying24 (fun w => by simp) Tryz.zeroValue24 ?_
  refine R.buildSl Tryz.underlying42 Tryz.sizeOf24 Tryz.zeroValue24 ?_
  refine R.assign ?_
  refine R.fin [8, 9, 10, 11] ?_
  refine AW.seqR ?_
  refine R.move ?_
  refine R.move ?_
  refine R.call Tryz.call20 (ask1 hXm hYm hn _) ?_
  refine R.move ?_
  refine R.extract ?_
  refine R.extract ?_
  refine R.alloc Tryz.zeroValue24 ?_
  refine R.storeOwn Tryz.sizeOf24 ?_
  refine R.assign ?_
  refine R.fin [8, 9, 10, 11, 12, 13] ?_
  refine AW.seqR ?_
  refine R.move ?_
  refine R.move ?_
  refine R.call Tryz.call20 (ask2 hXm hYm hn _) ?_
  refine R.move ?_
  refine R.extract ?_
  refine R.extract ?_
  refine R.alloc Tryz.zeroValue24 ?_
  refine R.storeOwn Tryz.sizeOf24 ?_
  refine R.assign ?_
  refine R.fin [8, 9, 10, 11, 12, 13, 14, 15] ?_
  refine AW.seqR ?_
  refine R.move ?_
  refine R.move ?_
  refine R.call Tryz.call20 (ask3 hXm hYm hn _) ?_
  refine R.move ?_
  refine R.extract ?_
  refine R.extract ?_
  refine R.alloc Tryz.zeroValue24 ?_
  refine R.storeOwn Tryz.sizeOf24 ?_
  refine R.assign ?_
  refine R.fin [8, 9, 10, 11, 12, 13, 14, 15, 16, 17] ?_
  refine AW.seqR ?_
  refine R.move ?_
  refine R.move ?_
  refine R.call Tryz.call20 (ask4 hXm hYm hn _) ?_
  refine R.move ?_
  refine R.extract ?_
  refine R.extract ?_
  refine R.alloc Tryz.zeroValue24 ?_
  refine R.storeOwn Tryz.sizeOf24 ?_
  refine R.assign ?_
  refine R.fin [8, 9, 12, 13, 14, 15, 16, 17, 18, 19] ?_
  refine AW.seqR ?_
  refine R.loadRoN Tryz.isAgg24 Tryz.sizeOf24 ?_
  refine R.alloc Tryz.zeroValue24 ?_
  refine R.storeOwn Tryz.sizeOf24 ?_
  refine R.fin [8, 9, 12, 13, 14, 15, 16, 17, 18, 19, 20] ?_
  refine W.join ⟨148, setF 8 (.ro [intA vX.kind, intA vX.n, strA vX.s]) (setF 9 (.ro [intA vY.kind, intA vY.n, strA vY.s]) (setF 12 (.ptr (oid Hp.length 0) 0) (setF 13 (intA 0) (setF 14 (.ptr (oid Hp.length 1) 0) (setF 15 (intA 0) (setF 16 (.ptr (oid Hp.length 2) 0) (setF 17 (intA 0) (setF 18 (.ptr (oid Hp.length 3) 0) (setF 19 (intA (lazyR vX).2) (setF 20 (.ptr (oid Hp.length 4) 0) (fun _ => .any))))))))))), Hp, [.cells 24 [intA (orV vX vY).kind, intA (orV vX vY).n, strA (orV vX vY).s], .cells 24 [intA (andV vX vY).kind, intA (andV vX vY).n, strA (andV vX vY).s], .cells 24 [intA (orV vX vY).kind, intA (orV vX vY).n, strA (orV vX vY).s], .cells 24 [intA (lazyR vX).1.kind, intA (lazyR vX).1.n, strA (lazyR vX).1.s], .cells 24 [intA (orV vX vY).kind, intA (orV vX vY).n, strA (orV vX vY).s]], [], none⟩ ?_ ?_
  ·skip
   refine AW.seqR ?_
   refine R.fieldAddrRo (off := 1) Tryz.underlying24 Tryz.sizeOf2 ?_
   refine R.loadRo Tryz.isAgg2 ?_
   refine R.eql ?_
   refine R.move ?_
   refine G.fieldAddrRo (off := 0) Tryz.underlying24 Tryz.sizeOf3 ?_
   refine G.loadRo Tryz.isAgg3 ?_
   refine G.eql ?_
   refine G.move ?_
   refine G.fieldAddrRo (off := 1) Tryz.underlying24 Tryz.sizeOf2 ?_
   refine G.loadRo Tryz.isAgg2 ?_
   refine G.eql ?_
   refine G.pickAnd ?_
   refine R.pickOr ?_
   refine R.fin [8, 9, 12, 13, 14, 15, 16, 17, 18, 19, 20, 84] ?_
   refine W.cond (fun ht84 => ?_) (fun ht84 => ?_)
   ·skip
    have hw : orV vX vY = vX := if_pos ht84
    refine AW.region ?_
    refine R.loadRoN Tryz.isAgg24 Tryz.sizeOf24 ?_
    refine R.storeOwn Tryz.sizeOf24 ?_
    refine R.fin [8, 9, 12, 13, 14, 15, 16, 17, 18, 19, 20] ?_
    refine K.thJ ?_
    exact StLe.of_eq (by rw [hw] <;> rfl)
   ·skip
    have hw : orV vX vY = vY := if_neg (by rw [ht84]; simp)
    refine W.keep [8, 9, 12, 13, 14, 15, 16, 17, 18, 19, 20] ?_
    refine AW.skip ?_
    refine K.thJ ?_
    exact StLe.of_eq (by rw [hw] <;> rfl)
  ·skip
   refine AW.seqR ?_
   refine R.loadRoN Tryz.isAgg24 Tryz.sizeOf24 ?_
   refine R.alloc Tryz.zeroValue24 ?_
   refine R.storeOwn Tryz.sizeOf24 ?_
   refine R.fin [8, 9, 12, 13, 14, 15, 16, 17, 18, 19, 20, 21] ?_
   refine W.join ⟨148, setF 8 (.ro [intA vX.kind, intA vX.n, strA vX.s]) (setF 12 (.ptr (oid Hp.length 0) 0) (setF 13 (intA 0) (setF 14 (.ptr (oid Hp.length 1) 0) (setF 15 (intA 0) (setF 16 (.ptr (oid Hp.length 2) 0) (setF 17 (intA 0) (setF 18 (.ptr (oid Hp.length 3) 0) (setF 19 (intA (lazyR vX).2) (setF 20 (.ptr (oid Hp.length 4) 0) (setF 21 (.ptr (oid Hp.length 5) 0) (fun _ => .any))))))))))), Hp, [.cells 24 [intA (orV vX vY).kind, intA (orV vX vY).n, strA (orV vX vY).s], .cells 24 [intA (andV vX vY).kind, intA (andV vX vY).n, strA (andV vX vY).s], .cells 24 [intA (orV vX vY).kind, intA (orV vX vY).n, strA (orV vX vY).s], .cells 24 [intA (lazyR vX).1.kind, intA (lazyR vX).1.n, strA (lazyR vX).1.s], .cells 24 [intA (orV vX vY).kind, intA (orV vX vY).n, strA (orV vX vY).s], .cells 24 [intA (andV vX vY).kind, intA (andV vX vY).n, strA (andV vX vY).s]], [], none⟩ ?_ ?_
   ·skip
    refine AW.seqR ?_
    refine R.fieldAddrRo (off := 0) Tryz.underlying24 Tryz.sizeOf3 ?_
    refine R.loadRo Tryz.isAgg3 ?_
    refine R.eql ?_
    refine R.move ?_
    refine G.fieldAddrRo (off := 1) Tryz.underlying24 Tryz.sizeOf2 ?_
    refine G.loadRo Tryz.isAgg2 ?_
    refine G.eql ?_
    refine R.pickAnd ?_
    refine R.move ?_
    refine G.fieldAddrRo (off := 0) Tryz.underlying24 Tryz.sizeOf3 ?_
    refine G.loadRo Tryz.isAgg3 ?_
    refine G.eql ?_
    refine G.move ?_
    refine G.fieldAddrRo (off := 0) Tryz.underlying24 Tryz.sizeOf3 ?_
    refine G.loadRo Tryz.isAgg3 ?_
    refine G.eql ?_
    refine G.move ?_
    refine G.fieldAddrRo (off := 1) Tryz.underlying24 Tryz.sizeOf2 ?_
    refine G.loadRo Tryz.isAgg2 ?_
    refine G.eql ?_
    refine G.pickOr ?_
    refine G.pickAnd ?_
    refine R.pickOr ?_
    refine R.fin [8, 12, 13, 14, 15, 16, 17, 18, 19, 20, 21, 109] ?_
    refine W.cond (fun ht109 => ?_) (fun ht109 => ?_)
    ·skip
     have hw : andV vX vY = vX := if_pos ht109
     refine AW.region ?_
     refine R.loadRoN Tryz.isAgg24 Tryz.sizeOf24 ?_
     refine R.storeOwn Tryz.sizeOf24 ?_
     refine R.fin [8, 12, 13, 14, 15, 16, 17, 18, 19, 20, 21] ?_
     refine K.thJ ?_
     exact StLe.of_eq (by rw [hw] <;> rfl)
    ·skip
     have hw : andV vX vY = vY := if_neg (by rw [ht109]; simp)
     refine W.keep [8, 12, 13, 14, 15, 16, 17, 18, 19, 20, 21] ?_
     refine AW.skip ?_
     refine K.thJ ?_
     exact StLe.of_eq (by rw [hw] <;> rfl)
   ·skip
    refine W.seq ?_
    refine AW.seqR ?_
    refine R.move ?_
    refine R.neq ?_
    refine R.move ?_
    refine G.move ?_
    refine G.neq ?_
    refine R.pickOr ?_
    refine R.move ?_
    refine G.move ?_
    refine G.neq ?_
    refine R.pickOr ?_
    refine R.move ?_
    refine G.loadOwnN Tryz.isAgg24 Tryz.sizeOf24 ?_
    refine G.loadOwnN Tryz.isAgg24 Tryz.sizeOf24 ?_
    refine G.neqAgg eg24 (fun w => equal24 (orV vX vY).kind (orV vX vY).n (orV vX vY).kind (orV vX vY).n (orV vX vY).s (orV vX vY).s w) ?_
    refine R.pickOr ?_
    refine R.move ?_
    refine G.loadOwnN Tryz.isAgg24 Tryz.sizeOf24 ?_
    refine G.loadOwnN Tryz.isAgg24 Tryz.sizeOf24 ?_
    refine G.neqAgg eg24 (fun w => equal24 (andV vX vY).kind (andV vX vY).n (andV vX vY).kind (andV vX vY).n (andV vX vY).s (andV vX vY).s w) ?_
    refine R.pickOr ?_
    refine R.move ?_
    refine G.loadOwnN Tryz.isAgg24 Tryz.sizeOf24 ?_
    refine G.loadOwnN Tryz.isAgg24 Tryz.sizeOf24 ?_
    refine G.neqAgg eg24 (fun w => equal24 (orV vX vY).kind (orV vX vY).n (orV vX vY).kind (orV vX vY).n (orV vX vY).s (orV vX vY).s w) ?_
    refine R.pickOr ?_
    refine R.fin [8, 18, 19, 135] ?_
    refine W.cond (fun ht135 => ?_) (fun ht135 => ?_)
    ·skip
     simp at ht135
    ·skip
     refine AW.skip ?_
     refine K.thN ?_
     refine W.seq ?_
     refine AW.seqR ?_
     refine R.fieldAddrRo (off := 1) Tryz.underlying24 Tryz.sizeOf2 ?_
     refine R.loadRo Tryz.isAgg2 ?_
     refine R.eql ?_
     refine R.fin [8, 18, 19, 138] ?_
     refine W.cond (fun ht138 => ?_) (fun ht138 => ?_)
     ·skip
      have hlz : lazyR vX = (vX, 0) := if_pos ht138
      rw [hlz]
      refine AW.seqR ?_
      refine R.move ?_
      refine R.eql ?_
      refine R.move ?_
      refine G.loadOwnN Tryz.isAgg24 Tryz.sizeOf24 ?_
      refine G.loadRoN Tryz.isAgg24 Tryz.sizeOf24 ?_
      refine G.eqlAgg eg24 (fun w => equal24 vX.kind vX.n vX.kind vX.n vX.s vX.s w) ?_
      refine R.pickAnd ?_
      refine R.assign ?_
      refine R.fin [6] ?_
      refine AW.ret ?_
      refine K.thR ?_
      exact K.fin (V.one V.tmp) ⟨by simp, rfl⟩
     ·skip
      have hlz : lazyR vX = (noV, 5) := if_neg (by rw [ht138]; simp)
      rw [hlz]
      refine AW.skip ?_
      refine K.thN ?_
      refine AW.seqR ?_
      refine R.move ?_
      refine R.eql ?_
      refine R.assign ?_
      refine R.fin [6] ?_
      refine AW.ret ?_
      exact K.fin (V.one V.tmp) ⟨by simp, rfl⟩

end Go.SX.Nb
