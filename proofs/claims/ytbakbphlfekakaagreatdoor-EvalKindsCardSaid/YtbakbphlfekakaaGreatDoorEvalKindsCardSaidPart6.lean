/- Texts on the way to this: Whatever the tree, the columns and the values, the law of kinds and values answers true. (part 6) -/
import Derived.Test.YtbakbphlfekakaaGreatDoorEvalKindsCardSaidPart5
set_option linter.all false
namespace Go.SX.Nb
open Go Go.SX Go.Proofs
variable [ErrAt]
set_option maxRecDepth 4000
theorem c100 (t : Str) (a b : Int) (ha : -9223372036854775808 ≤ a ∧ a ≤ 9223372036854775807) (Hp : List AObj) : AFun Tryz.prog 100 [strA t, intA a, intA b] Hp (resA (wholeR (arithI t a b))) := by
  refine ACall.body [.cell 6 24, .tmp 7] [0, 1, 2] Tryz.func100 Tryz.ntmps100 (fun d => ?_)
  refine AW.seqR ?_
  refine R.alloc Tryz.zeroValue24 ?_
  refine R.assign ?_
  refine R.fin [0, 1, 2, 6] ?_
  refine W.seq ?_
  refine AW.seqR ?_
  refine R.move ?_
  refine R.fin [1, 2, 6, 8] ?_
  refine AW.block ?_
  refine AW.seqR ?_
  refine R.seql ?_
  refine R.assign ?_
  refine R.fin [1, 2, 6, 8, 9] ?_
  refine W.cond (fun ht9 => ?_) (fun ht9 => ?_)
  · skip
    refine AW.seqR ?_
    refine R.move ?_
    refine R.move ?_
    refine R.call Tryz.call123 (c123 _ _ _) ?_
    refine R.extract ?_
    refine R.extract ?_
    refine R.call Tryz.call78 (c78 _ _ _) ?_
    refine R.extract ?_
    refine R.extract ?_
    refine R.storeOwn Tryz.sizeOf24 ?_
    refine R.assign ?_
    refine R.fin [6, 7] ?_
    refine AW.ret ?_
    refine K.blR ?_
    refine K.thR ?_
    first | (by_cases e0 : arithI t a b = addI a b; exact K.fin (V.two (V.cellN Tryz.isAgg24 Tryz.sizeOf24) V.tmp) ⟨by rw [e0]; try rfl, rfl⟩; exfalso; refine e0 ?_; clear e0; simp_all [arithI]; done) | (by_cases e0 : arithI t a b = subI a b; exact K.fin (V.two (V.cellN Tryz.isAgg24 Tryz.sizeOf24) V.tmp) ⟨by rw [e0]; try rfl, rfl⟩; exfalso; refine e0 ?_; clear e0; simp_all [arithI]; done) | (by_cases e0 : arithI t a b = mulI a b; exact K.fin (V.two (V.cellN Tryz.isAgg24 Tryz.sizeOf24) V.tmp) ⟨by rw [e0]; try rfl, rfl⟩; exfalso; refine e0 ?_; clear e0; simp_all [arithI]; done) | (by_cases e0 : arithI t a b = divI a b; exact K.fin (V.two (V.cellN Tryz.isAgg24 Tryz.sizeOf24) V.tmp) ⟨by rw [e0]; try rfl, rfl⟩; exfalso; refine e0 ?_; clear e0; simp_all [arithI]; done) | (by_cases e0 : arithI t a b = remI a b; exact K.fin (V.two (V.cellN Tryz.isAgg24 Tryz.sizeOf24) V.tmp) ⟨by rw [e0]; try rfl, rfl⟩; exfalso; refine e0 ?_; clear e0; simp_all [arithI]; done)
  · skip
    refine AW.seqR ?_
    refine R.seql ?_
    refine R.assign ?_
    refine R.fin [1, 2, 6, 8, 19] ?_
    refine W.cond (fun ht19 => ?_) (fun ht19 => ?_)
    · skip
      refine AW.seqR ?_
      refine R.move ?_
      refine R.move ?_
      refine R.call Tryz.call102 (c102 _ _ _) ?_
      refine R.extract ?_
      refine R.extract ?_
      refine R.call Tryz.call78 (c78 _ _ _) ?_
      refine R.extract ?_
      refine R.extract ?_
      refine R.storeOwn Tryz.sizeOf24 ?_
      refine R.assign ?_
      refine R.fin [6, 7] ?_
      refine AW.ret ?_
      refine K.blR ?_
      refine K.thR ?_
      first | (by_cases e0 : arithI t a b = addI a b; exact K.fin (V.two (V.cellN Tryz.isAgg24 Tryz.sizeOf24) V.tmp) ⟨by rw [e0]; try rfl, rfl⟩; exfalso; refine e0 ?_; clear e0; simp_all [arithI]; done) | (by_cases e0 : arithI t a b = subI a b; exact K.fin (V.two (V.cellN Tryz.isAgg24 Tryz.sizeOf24) V.tmp) ⟨by rw [e0]; try rfl, rfl⟩; exfalso; refine e0 ?_; clear e0; simp_all [arithI]; done) | (by_cases e0 : arithI t a b = mulI a b; exact K.fin (V.two (V.cellN Tryz.isAgg24 Tryz.sizeOf24) V.tmp) ⟨by rw [e0]; try rfl, rfl⟩; exfalso; refine e0 ?_; clear e0; simp_all [arithI]; done) | (by_cases e0 : arithI t a b = divI a b; exact K.fin (V.two (V.cellN Tryz.isAgg24 Tryz.sizeOf24) V.tmp) ⟨by rw [e0]; try rfl, rfl⟩; exfalso; refine e0 ?_; clear e0; simp_all [arithI]; done) | (by_cases e0 : arithI t a b = remI a b; exact K.fin (V.two (V.cellN Tryz.isAgg24 Tryz.sizeOf24) V.tmp) ⟨by rw [e0]; try rfl, rfl⟩; exfalso; refine e0 ?_; clear e0; simp_all [arithI]; done)
    · skip
      refine AW.seqR ?_
      refine R.seql ?_
      refine R.assign ?_
      refine R.fin [1, 2, 6, 8, 29] ?_
      refine W.cond (fun ht29 => ?_) (fun ht29 => ?_)
      · skip
        refine AW.seqR ?_
        refine R.move ?_
        refine R.move ?_
        refine R.call Tryz.call124 (c124 _ _ _) ?_
        refine R.extract ?_
        refine R.extract ?_
        refine R.call Tryz.call78 (c78 _ _ _) ?_
        refine R.extract ?_
        refine R.extract ?_
        refine R.storeOwn Tryz.sizeOf24 ?_
        refine R.assign ?_
        refine R.fin [6, 7] ?_
        refine AW.ret ?_
        refine K.blR ?_
        refine K.thR ?_
        first | (by_cases e0 : arithI t a b = addI a b; exact K.fin (V.two (V.cellN Tryz.isAgg24 Tryz.sizeOf24) V.tmp) ⟨by rw [e0]; try rfl, rfl⟩; exfalso; refine e0 ?_; clear e0; simp_all [arithI]; done) | (by_cases e0 : arithI t a b = subI a b; exact K.fin (V.two (V.cellN Tryz.isAgg24 Tryz.sizeOf24) V.tmp) ⟨by rw [e0]; try rfl, rfl⟩; exfalso; refine e0 ?_; clear e0; simp_all [arithI]; done) | (by_cases e0 : arithI t a b = mulI a b; exact K.fin (V.two (V.cellN Tryz.isAgg24 Tryz.sizeOf24) V.tmp) ⟨by rw [e0]; try rfl, rfl⟩; exfalso; refine e0 ?_; clear e0; simp_all [arithI]; done) | (by_cases e0 : arithI t a b = divI a b; exact K.fin (V.two (V.cellN Tryz.isAgg24 Tryz.sizeOf24) V.tmp) ⟨by rw [e0]; try rfl, rfl⟩; exfalso; refine e0 ?_; clear e0; simp_all [arithI]; done) | (by_cases e0 : arithI t a b = remI a b; exact K.fin (V.two (V.cellN Tryz.isAgg24 Tryz.sizeOf24) V.tmp) ⟨by rw [e0]; try rfl, rfl⟩; exfalso; refine e0 ?_; clear e0; simp_all [arithI]; done)
      · skip
        refine AW.seqR ?_
        refine R.seql ?_
        refine R.assign ?_
        refine R.fin [1, 2, 6, 39] ?_
        refine W.cond (fun ht39 => ?_) (fun ht39 => ?_)
        · skip
          refine AW.seqR ?_
          refine R.move ?_
          refine R.move ?_
          refine R.call Tryz.call125 (c125 _ _ _) ?_
          refine R.extract ?_
          refine R.extract ?_
          refine R.call Tryz.call78 (c78 _ _ _) ?_
          refine R.extract ?_
          refine R.extract ?_
          refine R.storeOwn Tryz.sizeOf24 ?_
          refine R.assign ?_
          refine R.fin [6, 7] ?_
          refine AW.ret ?_
          refine K.blR ?_
          refine K.thR ?_
          first | (by_cases e0 : arithI t a b = addI a b; exact K.fin (V.two (V.cellN Tryz.isAgg24 Tryz.sizeOf24) V.tmp) ⟨by rw [e0]; try rfl, rfl⟩; exfalso; refine e0 ?_; clear e0; simp_all [arithI]; done) | (by_cases e0 : arithI t a b = subI a b; exact K.fin (V.two (V.cellN Tryz.isAgg24 Tryz.sizeOf24) V.tmp) ⟨by rw [e0]; try rfl, rfl⟩; exfalso; refine e0 ?_; clear e0; simp_all [arithI]; done) | (by_cases e0 : arithI t a b = mulI a b; exact K.fin (V.two (V.cellN Tryz.isAgg24 Tryz.sizeOf24) V.tmp) ⟨by rw [e0]; try rfl, rfl⟩; exfalso; refine e0 ?_; clear e0; simp_all [arithI]; done) | (by_cases e0 : arithI t a b = divI a b; exact K.fin (V.two (V.cellN Tryz.isAgg24 Tryz.sizeOf24) V.tmp) ⟨by rw [e0]; try rfl, rfl⟩; exfalso; refine e0 ?_; clear e0; simp_all [arithI]; done) | (by_cases e0 : arithI t a b = remI a b; exact K.fin (V.two (V.cellN Tryz.isAgg24 Tryz.sizeOf24) V.tmp) ⟨by rw [e0]; try rfl, rfl⟩; exfalso; refine e0 ?_; clear e0; simp_all [arithI]; done)
        · skip
          refine AW.skip ?_
          refine K.blN ?_
          refine K.thN ?_
          refine AW.seqR ?_
          refine R.move ?_
          refine R.move ?_
          refine R.call Tryz.call126 (c126 _ _ ha _) ?_
          refine R.extract ?_
          refine R.extract ?_
          refine R.call Tryz.call78 (c78 _ _ _) ?_
          refine R.extract ?_
          refine R.extract ?_
          refine R.storeOwn Tryz.sizeOf24 ?_
          refine R.assign ?_
          refine R.fin [6, 7] ?_
          refine AW.ret ?_
          first | (by_cases e0 : arithI t a b = addI a b; exact K.fin (V.two (V.cellN Tryz.isAgg24 Tryz.sizeOf24) V.tmp) ⟨by rw [e0]; try rfl, rfl⟩; exfalso; refine e0 ?_; clear e0; simp_all [arithI]; done) | (by_cases e0 : arithI t a b = subI a b; exact K.fin (V.two (V.cellN Tryz.isAgg24 Tryz.sizeOf24) V.tmp) ⟨by rw [e0]; try rfl, rfl⟩; exfalso; refine e0 ?_; clear e0; simp_all [arithI]; done) | (by_cases e0 : arithI t a b = mulI a b; exact K.fin (V.two (V.cellN Tryz.isAgg24 Tryz.sizeOf24) V.tmp) ⟨by rw [e0]; try rfl, rfl⟩; exfalso; refine e0 ?_; clear e0; simp_all [arithI]; done) | (by_cases e0 : arithI t a b = divI a b; exact K.fin (V.two (V.cellN Tryz.isAgg24 Tryz.sizeOf24) V.tmp) ⟨by rw [e0]; try rfl, rfl⟩; exfalso; refine e0 ?_; clear e0; simp_all [arithI]; done) | (by_cases e0 : arithI t a b = remI a b; exact K.fin (V.two (V.cellN Tryz.isAgg24 Tryz.sizeOf24) V.tmp) ⟨by rw [e0]; try rfl, rfl⟩; exfalso; refine e0 ?_; clear e0; simp_all [arithI]; done)

theorem c99 (a b : Val) (fa : Fine a) (fb : Fine b) (Hp : List AObj) : AFun Tryz.prog 99 [.slice false 3 [valA a, valA b]] Hp (resA (joinR a b)) := by
  refine ACall.body [.cell 2 24, .tmp 3] [0] Tryz.func99 Tryz.ntmps99 (fun d => ?_)
  refine AW.seqR ?_
  refine R.alloc Tryz.zeroValue24 ?_
  refine R.assign ?_
  refine R.fin [0, 2] ?_
  refine W.seq ?_
  refine AW.block ?_
  refine AW.seqR ?_
  refine R.move ?_
  refine R.buildSl Tryz.underlying76 Tryz.sizeOf3 Tryz.zeroValue3 ?_
  refine R.call Tryz.call77 (c77 [a, b] [2, 2] (by simp) (by simp) _) ?_
  refine R.not ?_
  refine R.assign ?_
  refine R.fin [0, 2, 4] ?_
  refine W.cond (fun ht4 => ?_) (fun ht4 => ?_)
  · skip
    have hm : joinR a b = wrongR 10 := if_pos ht4
    refine AW.seqR ?_
    refine R.call Tryz.call24 (c24 _ _) ?_
    refine R.extract ?_
    refine R.extract ?_
    refine R.storeOwn Tryz.sizeOf24 ?_
    refine R.assign ?_
    refine R.fin [2, 3] ?_
    refine AW.ret ?_
    refine K.blR ?_
    refine K.thR ?_
    exact K.fin (V.two (V.cellN Tryz.isAgg24 Tryz.sizeOf24) V.tmp) ⟨by rw [hm]; try rfl, rfl⟩
  · skip
    have hla := fa.len
    have hlb := fb.len
    refine W.draw [0, 1, 3, 7, 15, 0, 32, 96, 224, 480, 1023, 2047, 4095] 10 Tryzmixed (by kernel_rfl) ?_
    refine D.move ?_
    refine D.indexAddr (0) (valA a) Tryz.underlying25 Tryz.sizeOf24 (show ([valA a, valA b] : List AV)[0]? = some (valA a) from rfl) ?_
    refine D.fieldAddrRo (off := 2) Tryz.underlying24 Tryz.sizeOf9 ?_
    refine D.loadRo Tryz.isAgg9 ?_
    refine D.slen Tryz.underlying9 ?_
    refine D.move ?_
    refine D.indexAddr (1) (valA b) Tryz.underlying25 Tryz.sizeOf24 (show ([valA a, valA b] : List AV)[1]? = some (valA b) from rfl) ?_
    refine D.fieldAddrRo (off := 2) Tryz.underlying24 Tryz.sizeOf9 ?_
    refine D.loadRo Tryz.isAgg9 ?_
    refine D.slen Tryz.underlying9 ?_
    refine D.tail ?_
    refine R.add64 (h1 := by omega) (h2 := by omega) ?_
    refine R.gtr ?_
    refine R.assign ?_
    refine R.fin [0, 2, 12] ?_
    refine W.cond (fun ht12 => ?_) (fun ht12 => ?_)
    · skip
      have hm : joinR a b = wrongR 3 := by unfold joinR; rw [if_neg (by rw [ht4]; simp), if_pos ht12]
      refine AW.seqR ?_
      refine R.call Tryz.call24 (c24 _ _) ?_
      refine R.extract ?_
      refine R.extract ?_
      refine R.storeOwn Tryz.sizeOf24 ?_
      refine R.assign ?_
      refine R.fin [2, 3] ?_
      refine AW.ret ?_
      refine K.blR ?_
      refine K.thR ?_
      exact K.fin (V.two (V.cellN Tryz.isAgg24 Tryz.sizeOf24) V.tmp) ⟨by rw [hm]; try rfl, rfl⟩
    · skip
      have hm : joinR a b = (cutV (a.s ++ b.s), 0) := by unfold joinR; rw [if_neg (by rw [ht4]; simp), if_neg (by rw [ht12]; simp)]
      refine AW.skip ?_
      refine K.blN ?_
      refine K.thN ?_
      refine W.draw [0, 1, 3, 7, 0, 16, 48, 112, 255, 511, 1023, 2047] 8 Tryzmixed (by kernel_rfl) ?_
      refine D.move ?_
      refine D.indexAddr (0) (valA a) Tryz.underlying25 Tryz.sizeOf24 (show ([valA a, valA b] : List AV)[0]? = some (valA a) from rfl) ?_
      refine D.fieldAddrRo (off := 2) Tryz.underlying24 Tryz.sizeOf9 ?_
      refine D.loadRo Tryz.isAgg9 ?_
      refine D.move ?_
      refine D.indexAddr (1) (valA b) Tryz.underlying25 Tryz.sizeOf24 (show ([valA a, valA b] : List AV)[1]? = some (valA b) from rfl) ?_
      refine D.fieldAddrRo (off := 2) Tryz.underlying24 Tryz.sizeOf9 ?_
      refine D.loadRo Tryz.isAgg9 ?_
      refine D.tail ?_
      refine R.sadd (hl := by omega) ?_
      refine R.call Tryz.call103 (c103 _ _) ?_
      refine R.storeOwn Tryz.sizeOf24 ?_
      refine R.assign ?_
      refine R.fin [2, 3] ?_
      refine AW.ret ?_
      exact K.fin (V.two (V.cellN Tryz.isAgg24 Tryz.sizeOf24) V.tmp) ⟨by rw [hm]; try rfl, rfl⟩

theorem c76 (t : Str) (a b : Val) (fa : Fine a) (fb : Fine b) (Hp : List AObj) : AFun Tryz.prog 76 [strA t, .slice false 3 [valA a, valA b]] Hp (resA (binM t a b)) := by
  refine ACall.body [.cell 4 24, .tmp 5] [0, 1] Tryz.func76 Tryz.ntmps76 (fun d => ?_)
  refine AW.seqR ?_
  refine R.alloc Tryz.zeroValue24 ?_
  refine R.assign ?_
  refine R.fin [0, 1, 4] ?_
  refine W.seq ?_
  refine W.draw [0, 0, 2, 6, 0, 16, 48, 126, 255, 511, 1023, 1023, 2047, 8191] 13 Tryzmixed (by kernel_rfl) ?_
  refine D.move ?_
  refine D.move ?_
  refine D.indexAddr (0) (valA a) Tryz.underlying25 Tryz.sizeOf24 (show ([valA a, valA b] : List AV)[0]? = some (valA a) from rfl) ?_
  refine D.loadRoN Tryz.isAgg24 Tryz.sizeOf24 ?_
  refine D.move ?_
  refine D.indexAddr (1) (valA b) Tryz.underlying25 Tryz.sizeOf24 (show ([valA a, valA b] : List AV)[1]? = some (valA b) from rfl) ?_
  refine D.loadRoN Tryz.isAgg24 Tryz.sizeOf24 ?_
  refine D.call Tryz.call98 (c98 _ _ _) ?_
  refine D.call Tryz.call97 (c97 _ _ _) ?_
  refine D.move ?_
  refine D.extract ?_
  refine D.extract ?_
  refine D.assign ?_
  refine D.tail ?_
  refine R.assign ?_
  refine R.fin [0, 1, 4, 6, 7] ?_
  refine AW.seqR ?_
  refine R.move ?_
  refine R.fin [0, 1, 4, 6, 20] ?_
  refine W.cond (fun ht20 => ?_) (fun ht20 => ?_)
  · skip
    refine W.seq ?_
    refine W.draw [0, 1, 3, 7, 0, 16, 48, 112, 255] 8 Tryzmixed (by kernel_rfl) ?_
    refine D.move ?_
    refine D.indexAddr (0) (valA a) Tryz.underlying25 Tryz.sizeOf24 (show ([valA a, valA b] : List AV)[0]? = some (valA a) from rfl) ?_
    refine D.fieldAddrRo (off := 0) Tryz.underlying24 Tryz.sizeOf3 ?_
    refine D.loadRo Tryz.isAgg3 ?_
    refine D.move ?_
    refine D.indexAddr (1) (valA b) Tryz.underlying25 Tryz.sizeOf24 (show ([valA a, valA b] : List AV)[1]? = some (valA b) from rfl) ?_
    refine D.fieldAddrRo (off := 0) Tryz.underlying24 Tryz.sizeOf3 ?_
    refine D.loadRo Tryz.isAgg3 ?_
    refine D.tail ?_
    refine R.neq ?_
    refine R.fin [4, 6, 29] ?_
    refine W.cond (fun ht29 => ?_) (fun ht29 => ?_)
    · skip
      have hm : binM t a b = wrongR 10 := by unfold binM; rw [if_pos ht20, if_pos ht29]
      refine AW.seqR ?_
      refine R.call Tryz.call24 (c24 _ _) ?_
      refine R.extract ?_
      refine R.extract ?_
      refine R.storeOwn Tryz.sizeOf24 ?_
      refine R.assign ?_
      refine R.fin [4, 5] ?_
      refine AW.ret ?_
      refine K.thR ?_
      refine K.thR ?_
      exact K.fin (V.two (V.cellN Tryz.isAgg24 Tryz.sizeOf24) V.tmp) ⟨by rw [hm]; try rfl, rfl⟩
    · skip
      have hm : binM t a b = (boolV (comparedM t (cmpV a b)).1, 0) := by unfold binM; rw [if_pos ht20, if_neg (by rw [ht29]; simp)]
      refine AW.skip ?_
      refine K.thN ?_
      refine AW.seqR ?_
      refine R.move ?_
      refine R.call Tryz.call38 (c38 _ _) ?_
      refine R.storeOwn Tryz.sizeOf24 ?_
      refine R.assign ?_
      refine R.fin [4, 5] ?_
      refine AW.ret ?_
      refine K.thR ?_
      exact K.fin (V.two (V.cellN Tryz.isAgg24 Tryz.sizeOf24) V.tmp) ⟨by rw [hm]; try rfl, rfl⟩
  · skip
    refine AW.skip ?_
    refine K.thN ?_
    refine W.seq ?_
    refine AW.seqR ?_
    refine R.move ?_
    refine R.seql ?_
    refine R.fin [0, 1, 4, 36] ?_
    refine W.cond (fun ht36 => ?_) (fun ht36 => ?_)
    · skip
      have hm : binM t a b = joinR a b := by unfold binM; rw [if_neg (by rw [ht20]; simp), if_pos ht36]
      refine AW.seqR ?_
      refine R.move ?_
      refine R.call Tryz.call99 (c99 a b fa fb _) ?_
      refine R.extract ?_
      refine R.extract ?_
      refine R.storeOwn Tryz.sizeOf24 ?_
      refine R.assign ?_
      refine R.fin [4, 5] ?_
      refine AW.ret ?_
      refine K.thR ?_
      exact K.fin (V.two (V.cellN Tryz.isAgg24 Tryz.sizeOf24) V.tmp) ⟨by rw [hm]; try rfl, rfl⟩
    · skip
      refine AW.skip ?_
      refine K.thN ?_
      refine W.seq ?_
      refine AW.seqR ?_
      refine R.move ?_
      refine R.buildSl Tryz.underlying76 Tryz.sizeOf3 Tryz.zeroValue3 ?_
      refine R.call Tryz.call77 (c77 [a, b] [1, 1] (by simp) (by simp) _) ?_
      refine R.not ?_
      refine R.fin [0, 1, 4, 44] ?_
      refine W.cond (fun ht44 => ?_) (fun ht44 => ?_)
      · skip
        have hm : binM t a b = wrongR 10 := by unfold binM; rw [if_neg (by rw [ht20]; simp), if_neg (by rw [ht36]; simp), if_pos ht44]
        refine AW.seqR ?_
        refine R.call Tryz.call24 (c24 _ _) ?_
        refine R.extract ?_
        refine R.extract ?_
        refine R.storeOwn Tryz.sizeOf24 ?_
        refine R.assign ?_
        refine R.fin [4, 5] ?_
        refine AW.ret ?_
        refine K.thR ?_
        exact K.fin (V.two (V.cellN Tryz.isAgg24 Tryz.sizeOf24) V.tmp) ⟨by rw [hm]; try rfl, rfl⟩
      · skip
        have hm : binM t a b = wholeR (arithI t a.n b.n) := by unfold binM; rw [if_neg (by rw [ht20]; simp), if_neg (by rw [ht36]; simp), if_neg (by rw [ht44]; simp)]
        refine AW.skip ?_
        refine K.thN ?_
        refine W.draw [0, 0, 2, 6, 14, 0, 32, 96, 224, 511, 1023, 1023, 4095, 8191] 12 Tryzmixed (by kernel_rfl) ?_
        refine D.move ?_
        refine D.move ?_
        refine D.indexAddr (0) (valA a) Tryz.underlying25 Tryz.sizeOf24 (show ([valA a, valA b] : List AV)[0]? = some (valA a) from rfl) ?_
        refine D.fieldAddrRo (off := 1) Tryz.underlying24 Tryz.sizeOf2 ?_
        refine D.loadRo Tryz.isAgg2 ?_
        refine D.move ?_
        refine D.indexAddr (1) (valA b) Tryz.underlying25 Tryz.sizeOf24 (show ([valA a, valA b] : List AV)[1]? = some (valA b) from rfl) ?_
        refine D.fieldAddrRo (off := 1) Tryz.underlying24 Tryz.sizeOf2 ?_
        refine D.loadRo Tryz.isAgg2 ?_
        refine D.call Tryz.call100 (c100 _ _ _ ⟨fa.lo, fa.hi⟩ _) ?_
        refine D.extract ?_
        refine D.extract ?_
        refine D.tail ?_
        refine R.storeOwn Tryz.sizeOf24 ?_
        refine R.assign ?_
        refine R.fin [4, 5] ?_
        refine AW.ret ?_
        exact K.fin (V.two (V.cellN Tryz.isAgg24 Tryz.sizeOf24) V.tmp) ⟨by rw [hm]; try rfl, rfl⟩

theorem pieceK (s : Str) (n : Int) : ∃ k : Nat, (if (0 : Int) < (if (s.length : Int) < n then (s.length : Int) else n) then (if (s.length : Int) < n then (s.length : Int) else n) else 0) = (k : Int) ∧ k ≤ s.length ∧ k = (max 0 (min n s.length)).toNat := by
  refine ⟨(max 0 (min n s.length)).toNat, ?_, ?_, rfl⟩ <;> repeat' split
  all_goals omega
theorem c81 (t s : Str) (n : Int) (hs : s.length ≤ 1048576) (Hp : List AObj) : AFun Tryz.prog 81 [strA t, strA s, intA n] Hp (valA (pieceM t s n)) := by
  refine ACall.body [.cell 6 24] [0, 1, 2] Tryz.func81 Tryz.ntmps81 (fun d => ?_)
  refine AW.seqR ?_
  refine R.alloc Tryz.zeroValue24 ?_
  refine R.fin [0, 1, 2, 6] ?_
  refine AW.seqR ?_
  refine R.move ?_
  refine R.move ?_
  refine R.slen Tryz.underlying9 ?_
  refine R.minI ?_
  refine R.maxI ?_
  obtain ⟨k, hk, hks, hke⟩ := pieceK s n
  simp only [hk]
  refine R.assign ?_
  refine R.fin [0, 1, 6, 7] ?_
  refine W.seq ?_
  refine AW.seqR ?_
  refine R.move ?_
  refine R.seql ?_
  refine R.fin [1, 6, 7, 14] ?_
  refine W.cond (fun ht14 => ?_) (fun ht14 => ?_)
  · skip
    have hm : pieceM t s n = cutV (s.take k) := by unfold pieceM; rw [if_pos ht14, ← hke]
    refine AW.seqR ?_
    refine R.move ?_
    refine R.move ?_
    refine R.scutH k Tryz.underlying9 (Nat.zero_le _) hks ?_
    refine R.call Tryz.call103 (c103 _ _) ?_
    refine R.storeOwn Tryz.sizeOf24 ?_
    refine R.fin [6] ?_
    refine AW.ret ?_
    refine K.thR ?_
    exact K.fin (V.one (V.cellN Tryz.isAgg24 Tryz.sizeOf24)) ⟨by rw [hm]; try rfl, rfl⟩
  · skip
    have hm : pieceM t s n = cutV (s.drop (s.length - k)) := by unfold pieceM; rw [if_neg (by rw [ht14]; simp), ← hke]
    refine AW.skip ?_
    refine K.thN ?_
    refine AW.seqR ?_
    refine R.move ?_
    refine R.move ?_
    refine R.slen Tryz.underlying9 ?_
    refine R.move ?_
    refine R.sub64 (h1 := by omega) (h2 := by omega) ?_
    refine R.scutL (s.length - k) Tryz.underlying9 (show s.length - k ≤ s.length by omega) (Nat.le_refl _) ?_
    refine R.call Tryz.call103 (c103 _ _) ?_
    refine R.storeOwn Tryz.sizeOf24 ?_
    refine R.fin [6] ?_
    refine AW.ret ?_
    exact K.fin (V.one (V.cellN Tryz.isAgg24 Tryz.sizeOf24)) ⟨by rw [hm]; try rfl, rfl⟩

theorem c80 (t : Str) (v : Val) (h : Fine v) (Hp : List AObj) : AFun Tryz.prog 80 [strA t, valA v] Hp (resA (fun1M t v)) := by
  have hlen := h.len
  refine ACall.body [.cell 4 24, .tmp 5] [0, 1] Tryz.func80 Tryz.ntmps80 (fun d => ?_)
  refine AW.seqR ?_
  refine R.boxRo ?_
  refine R.alloc Tryz.zeroValue24 ?_
  refine R.assign ?_
  refine R.fin [0, 3, 4] ?_
  refine W.seq ?_
  refine AW.block ?_
  refine AW.seqR ?_
  refine R.move ?_
  refine R.seql ?_
  refine R.move ?_
  refine G.fieldAddrRo (off := 0) Tryz.underlying24 Tryz.sizeOf3 ?_
  refine G.loadRo Tryz.isAgg3 ?_
  refine G.eql ?_
  refine R.pickAnd ?_
  refine R.assign ?_
  refine R.fin [0, 3, 4, 6] ?_
  refine W.cond (fun ht6 => ?_) (fun ht6 => ?_)
  · skip
    have hm : fun1M t v = (cutV (Lib.itoa v.n), 0) := if_pos ht6
    refine AW.seqR ?_
    refine R.fieldAddrRo (off := 1) Tryz.underlying24 Tryz.sizeOf2 ?_
    refine R.loadRo Tryz.isAgg2 ?_
    refine R.call Tryz.call104 (c104 _ h.lo h.hi _) ?_
    refine R.call Tryz.call103 (c103 _ _) ?_
    refine R.storeOwn Tryz.sizeOf24 ?_
    refine R.assign ?_
    refine R.fin [4, 5] ?_
    refine AW.ret ?_
    refine K.blR ?_
    refine K.thR ?_
    exact K.fin (V.two (V.cellN Tryz.isAgg24 Tryz.sizeOf24) V.tmp) ⟨by rw [hm]; try rfl, rfl⟩
  · skip
    refine AW.seqR ?_
    refine R.move ?_
    refine R.seql ?_
    refine R.move ?_
    refine G.fieldAddrRo (off := 0) Tryz.underlying24 Tryz.sizeOf3 ?_
    refine G.loadRo Tryz.isAgg3 ?_
    refine G.eql ?_
    refine R.pickAnd ?_
    refine R.assign ?_
    refine R.fin [0, 3, 4, 18] ?_
    refine W.cond (fun ht18 => ?_) (fun ht18 => ?_)
    · skip
      have hm : fun1M t v = (⟨1, v.s.length, []⟩, 0) := by unfold fun1M; rw [if_neg (by rw [ht6]; simp), if_pos ht18]
      refine AW.seqR ?_
      refine R.fieldAddrRo (off := 2) Tryz.underlying24 Tryz.sizeOf9 ?_
      refine R.loadRo Tryz.isAgg9 ?_
      refine R.slen Tryz.underlying9 ?_
      refine R.call Tryz.call101 (c101 _ _) ?_
      refine R.storeOwn Tryz.sizeOf24 ?_
      refine R.assign ?_
      refine R.fin [4, 5] ?_
      refine AW.ret ?_
      refine K.blR ?_
      refine K.thR ?_
      exact K.fin (V.two (V.cellN Tryz.isAgg24 Tryz.sizeOf24) V.tmp) ⟨by rw [hm]; try rfl, rfl⟩
    · skip
      refine AW.seqR ?_
      refine R.move ?_
      refine R.seql ?_
      refine R.move ?_
      refine G.fieldAddrRo (off := 0) Tryz.underlying24 Tryz.sizeOf3 ?_
      refine G.loadRo Tryz.isAgg3 ?_
      refine G.eql ?_
      refine R.pickAnd ?_
      refine R.assign ?_
      refine R.fin [3, 4, 30] ?_
      refine W.cond (fun ht30 => ?_) (fun ht30 => ?_)
      · skip
        have hm : fun1M t v = wholeR (numReadM v.s) := by unfold fun1M; rw [if_neg (by rw [ht6]; simp), if_neg (by rw [ht18]; simp), if_pos ht30]
        refine AW.seqR ?_
        refine R.fieldAddrRo (off := 2) Tryz.underlying24 Tryz.sizeOf9 ?_
        refine R.loadRo Tryz.isAgg9 ?_
        refine R.call Tryz.call105 (c105 v.s (by omega) _) ?_
        refine R.extract ?_
        refine R.extract ?_
        refine R.call Tryz.call78 (c78 _ _ _) ?_
        refine R.extract ?_
        refine R.extract ?_
        refine R.storeOwn Tryz.sizeOf24 ?_
        refine R.assign ?_
        refine R.fin [4, 5] ?_
        refine AW.ret ?_
        refine K.blR ?_
        refine K.thR ?_
        exact K.fin (V.two (V.cellN Tryz.isAgg24 Tryz.sizeOf24) V.tmp) ⟨by rw [hm]; try rfl, rfl⟩
      · skip
        have hm : fun1M t v = wrongR 10 := by unfold fun1M; rw [if_neg (by rw [ht6]; simp), if_neg (by rw [ht18]; simp), if_neg (by rw [ht30]; simp)]
        refine AW.skip ?_
        refine K.blN ?_
        refine K.thN ?_
        refine AW.seqR ?_
        refine R.call Tryz.call24 (c24 _ _) ?_
        refine R.extract ?_
        refine R.extract ?_
        refine R.storeOwn Tryz.sizeOf24 ?_
        refine R.assign ?_
        refine R.fin [4, 5] ?_
        refine AW.ret ?_
        exact K.fin (V.two (V.cellN Tryz.isAgg24 Tryz.sizeOf24) V.tmp) ⟨by rw [hm]; try rfl, rfl⟩

theorem getV {vs : List Val} (h : 0 < vs.length) : vs.getD 0 noV = vs[0] := by rw [List.getD_eq_getElem?_getD, List.getElem?_eq_getElem h]; rfl
/-- As many values as a node asks for. -/
structure ArgsOk (o : Int) (vs : List Val) : Prop where
  two : o = 5 → ∃ a b, vs = [a, b]
  one : o = 3 ∨ o = 4 → vs.length = 1
  call : o = 6 → vs.length = 1 ∨ ∃ a b, vs = [a, b]
  fine : ∀ v ∈ vs, Fine v
theorem c58 (e : Expr) (vs : List Val) (h : ArgsOk e.op vs) (Hp : List AObj) : AFun Tryz.prog 58 [exprA e, valsA vs] Hp (resA (strictM e.op e.text vs)) := by
  refine ACall.body [.cell 4 24, .tmp 5] [0, 1] Tryz.func58 Tryz.ntmps58 (fun d => ?_)
  refine AW.seqR ?_
  refine R.boxRo ?_
  refine R.alloc Tryz.zeroValue24 ?_
  refine R.assign ?_
  refine R.fin [1, 2, 4] ?_
  refine W.seq ?_
  refine AW.block ?_
  refine AW.seqR ?_
  refine R.fieldAddrRo (off := 0) Tryz.underlying35 Tryz.sizeOf3 ?_
  refine R.loadRo Tryz.isAgg3 ?_
  refine R.eql ?_
  refine R.assign ?_
  refine R.fin [1, 2, 4, 6] ?_
  refine W.cond (fun ht6 => ?_) (fun ht6 => ?_)
  · skip
    obtain ⟨a, b, rfl⟩ := h.two (by simpa using ht6)
    have hm : strictM e.op e.text [a, b] = binM e.text a b := if_pos ht6
    refine AW.seqR ?_
    refine R.fieldAddrRo (off := 1) Tryz.underlying35 Tryz.sizeOf9 ?_
    refine R.loadRo Tryz.isAgg9 ?_
    refine R.move ?_
    refine R.call Tryz.call76 (c76 e.text a b (h.fine a (by simp)) (h.fine b (by simp)) _) ?_
    refine R.extract ?_
    refine R.extract ?_
    refine R.storeOwn Tryz.sizeOf24 ?_
    refine R.assign ?_
    refine R.fin [4, 5] ?_
    refine AW.ret ?_
    refine K.blR ?_
    refine K.thR ?_
    exact K.fin (V.two (V.cellN Tryz.isAgg24 Tryz.sizeOf24) V.tmp) ⟨by rw [hm]; try rfl, rfl⟩
  · skip
    refine AW.seqR ?_
    refine R.fieldAddrRo (off := 0) Tryz.underlying35 Tryz.sizeOf3 ?_
    refine R.loadRo Tryz.isAgg3 ?_
    refine R.eql ?_
    refine R.move ?_
    refine G.move ?_
    refine G.buildSl Tryz.underlying76 Tryz.sizeOf3 Tryz.zeroValue3 ?_
    refine G.call Tryz.call77 (C := ((e.op == 3) == true)) (fun hB => c77 vs [1] (by have := h.one (.inl (by simpa using hB)); simp [this]) (by simp) _) ?_
    refine R.pickAnd ?_
    refine R.assign ?_
    refine R.fin [1, 2, 4, 16] ?_
    refine W.cond (fun ht16 => ?_) (fun ht16 => ?_)
    · skip
      have hm0 : ((e.op == 3) && kindsM vs [1]) = true := ht16
      have hop : e.op = 3 := by simp only [Bool.and_eq_true, beq_iff_eq] at hm0; exact hm0.1
      have hln := h.one (.inl hop)
      have hg0 : (vs.map valA)[0]? = some (valA (vs.getD 0 noV)) := by rw [getV (by omega)]; exact getMap (by omega)
      have hm : strictM e.op e.text vs = wholeR (subI 0 (vs.getD 0 noV).n) := by unfold strictM; rw [if_neg (by rw [ht6]; simp), if_pos ht16]
      refine AW.seqR ?_
      refine R.move ?_
      refine R.indexAddr (0) (valA (vs.getD 0 noV)) Tryz.underlying25 Tryz.sizeOf24 hg0 ?_
      refine R.fieldAddrRo (off := 1) Tryz.underlying24 Tryz.sizeOf2 ?_
      refine R.loadRo Tryz.isAgg2 ?_
      refine R.call Tryz.call79 (c79 _ _) ?_
      refine R.extract ?_
      refine R.extract ?_
      refine R.call Tryz.call78 (c78 _ _ _) ?_
      refine R.extract ?_
      refine R.extract ?_
      refine R.storeOwn Tryz.sizeOf24 ?_
      refine R.assign ?_
      refine R.fin [4, 5] ?_
      refine AW.ret ?_
      refine K.blR ?_
      refine K.thR ?_
      exact K.fin (V.two (V.cellN Tryz.isAgg24 Tryz.sizeOf24) V.tmp) ⟨by rw [hm]; try rfl, rfl⟩
    · skip
      refine AW.seqR ?_
      refine R.fieldAddrRo (off := 0) Tryz.underlying35 Tryz.sizeOf3 ?_
      refine R.loadRo Tryz.isAgg3 ?_
      refine R.eql ?_
      refine R.move ?_
      refine G.move ?_
      refine G.buildSl Tryz.underlying76 Tryz.sizeOf3 Tryz.zeroValue3 ?_
      refine G.call Tryz.call77 (C := ((e.op == 4) == true)) (fun hB => c77 vs [3] (by have := h.one (.inr (by simpa using hB)); simp [this]) (by simp) _) ?_
      refine R.pickAnd ?_
      refine R.assign ?_
      refine R.fin [1, 2, 4, 35] ?_
      refine W.cond (fun ht35 => ?_) (fun ht35 => ?_)
      · skip
        have hm0 : ((e.op == 4) && kindsM vs [3]) = true := ht35
        have hop : e.op = 4 := by simp only [Bool.and_eq_true, beq_iff_eq] at hm0; exact hm0.1
        have hln := h.one (.inr hop)
        have hg0 : (vs.map valA)[0]? = some (valA (vs.getD 0 noV)) := by rw [getV (by omega)]; exact getMap (by omega)
        have hm : strictM e.op e.text vs = (boolV ((vs.getD 0 noV).n == 0), 0) := by unfold strictM; rw [if_neg (by rw [ht6]; simp), if_neg (by rw [ht16]; simp), if_pos ht35]
        refine AW.seqR ?_
        refine R.move ?_
        refine R.indexAddr (0) (valA (vs.getD 0 noV)) Tryz.underlying25 Tryz.sizeOf24 hg0 ?_
        refine R.fieldAddrRo (off := 1) Tryz.underlying24 Tryz.sizeOf2 ?_
        refine R.loadRo Tryz.isAgg2 ?_
        refine R.eql ?_
        refine R.call Tryz.call38 (c38 _ _) ?_
        refine R.storeOwn Tryz.sizeOf24 ?_
        refine R.assign ?_
        refine R.fin [4, 5] ?_
        refine AW.ret ?_
        refine K.blR ?_
        refine K.thR ?_
        exact K.fin (V.two (V.cellN Tryz.isAgg24 Tryz.sizeOf24) V.tmp) ⟨by rw [hm]; try rfl, rfl⟩
      · skip
        refine AW.seqR ?_
        refine R.fieldAddrRo (off := 0) Tryz.underlying35 Tryz.sizeOf3 ?_
        refine R.loadRo Tryz.isAgg3 ?_
        refine R.neq ?_
        refine R.assign ?_
        refine R.fin [1, 2, 4, 50] ?_
        refine W.cond (fun ht50 => ?_) (fun ht50 => ?_)
        · skip
          have hm : strictM e.op e.text vs = wrongR 10 := by unfold strictM; rw [if_neg (by rw [ht6]; simp), if_neg (by rw [ht16]; simp), if_neg (by rw [ht35]; simp), if_pos ht50]
          refine AW.seqR ?_
          refine R.call Tryz.call24 (c24 _ _) ?_
          refine R.extract ?_
          refine R.extract ?_
          refine R.storeOwn Tryz.sizeOf24 ?_
          refine R.assign ?_
          refine R.fin [4, 5] ?_
          refine AW.ret ?_
          refine K.blR ?_
          refine K.thR ?_
          exact K.fin (V.two (V.cellN Tryz.isAgg24 Tryz.sizeOf24) V.tmp) ⟨by rw [hm]; try rfl, rfl⟩
        · skip
          have hop : e.op = 6 := by simpa using ht50
          have hcl := h.call hop
          refine AW.seqR ?_
          refine R.move ?_
          refine R.len Tryz.underlying25 ?_
          refine R.eql ?_
          refine R.assign ?_
          refine R.fin [1, 2, 4, 57] ?_
          refine W.cond (fun ht57 => ?_) (fun ht57 => ?_)
          · skip
            rw [List.length_map] at ht57
            have hln : vs.length = 1 := by have := ht57; simp only [beq_iff_eq] at this; omega
            have hg0 : (vs.map valA)[0]? = some (valA (vs.getD 0 noV)) := by rw [getV (by omega)]; exact getMap (by omega)
            have hf0 : Fine (vs.getD 0 noV) := by rw [getV (by omega)]; exact h.fine _ (List.getElem_mem _)
            have hm : strictM e.op e.text vs = fun1M e.text (vs.getD 0 noV) := by unfold strictM; rw [if_neg (by rw [ht6]; simp), if_neg (by rw [ht16]; simp), if_neg (by rw [ht35]; simp), if_neg (by rw [ht50]; simp), if_pos ht57]
            refine W.draw [0, 1, 0, 4, 12, 31, 63, 63, 255, 511] 8 Tryzmixed (by kernel_rfl) ?_
            refine D.fieldAddrRo (off := 1) Tryz.underlying35 Tryz.sizeOf9 ?_
            refine D.loadRo Tryz.isAgg9 ?_
            refine D.move ?_
            refine D.indexAddr (0) (valA (vs.getD 0 noV)) Tryz.underlying25 Tryz.sizeOf24 hg0 ?_
            refine D.loadRoN Tryz.isAgg24 Tryz.sizeOf24 ?_
            refine D.call Tryz.call80 (c80 _ _ hf0 _) ?_
            refine D.extract ?_
            refine D.extract ?_
            refine D.tail ?_
            refine R.storeOwn Tryz.sizeOf24 ?_
            refine R.assign ?_
            refine R.fin [4, 5] ?_
            refine AW.ret ?_
            refine K.blR ?_
            refine K.thR ?_
            exact K.fin (V.two (V.cellN Tryz.isAgg24 Tryz.sizeOf24) V.tmp) ⟨by rw [hm]; try rfl, rfl⟩
          · skip
            rw [List.length_map] at ht57
            obtain ⟨a, b, rfl⟩ : ∃ a b, vs = [a, b] := by
              rcases hcl with h1 | h1
              · exfalso
                have := ht57
                rw [h1] at this
                simp at this
              · exact h1
            refine AW.seqR ?_
            refine R.move ?_
            refine R.buildSl Tryz.underlying76 Tryz.sizeOf3 Tryz.zeroValue3 ?_
            refine R.call Tryz.call77 (c77 [a, b] [2, 1] (by simp) (by simp) _) ?_
            refine R.not ?_
            refine R.assign ?_
            refine R.fin [1, 2, 4, 69] ?_
            refine W.cond (fun ht69 => ?_) (fun ht69 => ?_)
            · skip
              have hm : strictM e.op e.text [a, b] = wrongR 10 := by unfold strictM; rw [if_neg (by rw [ht6]; simp), if_neg (by rw [ht16]; simp), if_neg (by rw [ht35]; simp), if_neg (by rw [ht50]; simp), if_neg (by rw [ht57]; simp), if_pos ht69]
              refine AW.seqR ?_
              refine R.call Tryz.call24 (c24 _ _) ?_
              refine R.extract ?_
              refine R.extract ?_
              refine R.storeOwn Tryz.sizeOf24 ?_
              refine R.assign ?_
              refine R.fin [4, 5] ?_
              refine AW.ret ?_
              refine K.blR ?_
              refine K.thR ?_
              exact K.fin (V.two (V.cellN Tryz.isAgg24 Tryz.sizeOf24) V.tmp) ⟨by rw [hm]; try rfl, rfl⟩
            · skip
              have hm : strictM e.op e.text [a, b] = (pieceM e.text a.s b.n, 0) := by unfold strictM; rw [if_neg (by rw [ht6]; simp), if_neg (by rw [ht16]; simp), if_neg (by rw [ht35]; simp), if_neg (by rw [ht50]; simp), if_neg (by rw [ht57]; simp), if_neg (by rw [ht69]; simp)]; rfl
              refine AW.skip ?_
              refine K.blN ?_
              refine K.thN ?_
              refine W.draw [0, 1, 0, 4, 12, 28, 0, 64, 192, 448, 1023, 2047, 4095] 10 Tryzmixed (by kernel_rfl) ?_
              refine D.fieldAddrRo (off := 1) Tryz.underlying35 Tryz.sizeOf9 ?_
              refine D.loadRo Tryz.isAgg9 ?_
              refine D.move ?_
              refine D.indexAddr (0) (valA a) Tryz.underlying25 Tryz.sizeOf24 (show ([valA a, valA b] : List AV)[0]? = some (valA a) from rfl) ?_
              refine D.fieldAddrRo (off := 2) Tryz.underlying24 Tryz.sizeOf9 ?_
              refine D.loadRo Tryz.isAgg9 ?_
              refine D.move ?_
              refine D.indexAddr (1) (valA b) Tryz.underlying25 Tryz.sizeOf24 (show ([valA a, valA b] : List AV)[1]? = some (valA b) from rfl) ?_
              refine D.fieldAddrRo (off := 1) Tryz.underlying24 Tryz.sizeOf2 ?_
              refine D.loadRo Tryz.isAgg2 ?_
              refine D.tail ?_
              refine R.call Tryz.call81 (c81 e.text a.s b.n (by have := (h.fine a (by simp)).len; omega) _) ?_
              refine R.storeOwn Tryz.sizeOf24 ?_
              refine R.assign ?_
              refine R.fin [4, 5] ?_
              refine AW.ret ?_
              exact K.fin (V.two (V.cellN Tryz.isAgg24 Tryz.sizeOf24) V.tmp) ⟨by rw [hm]; try rfl, rfl⟩

end Go.SX.Nb
namespace Go.SX.Nb
open Go Go.SX Go.Proofs
variable [ErrAt]
set_option maxRecDepth 4000
theorem val_beq (a b : Val) : ((a.kind == b.kind && a.n == b.n) && a.s == b.s) = (a == b) := by
  obtain ⟨k, n, s⟩ := a
  obtain ⟨k', n', s'⟩ := b
  by_cases h : (⟨k, n, s⟩ : Val) = ⟨k', n', s'⟩
  · injection h with h1 h2 h3
    subst h1; subst h2; subst h3
    simp
  · have : ((⟨k, n, s⟩ : Val) == ⟨k', n', s'⟩) = false := by simpa using h
    rw [this]
    simp only [Bool.and_eq_false_iff, beq_eq_false_iff_ne]
    by_cases h1 : k = k'
    · by_cases h2 : n = n'
      · right
        rintro rfl
        exact h (by rw [h1, h2])
      · exact .inl (.inr h2)
    · exact .inl (.inl h1)
/-- What eval answers for a tree, over any heap. -/
abbrev EvalsTo (c : List Col) (l : List Val) (e : Expr) (r : Rs) : Prop := ∀ Hp, AFun Tryz.prog 25 [scopeA c l, exprA e] Hp (resA r)
theorem c57 (c : List Col) (l : List Val) (x : Expr) (r : Rs) (h : EvalsTo c l x r) (Hp : List AObj) : AFun Tryz.prog 57 [scopeA c l, exprA x] Hp (resA (truthR r)) := by
  refine ACall.body [.cell 4 24, .tmp 5] [0, 1] Tryz.func57 Tryz.ntmps57 (fun d => ?_)
  refine AW.seqR ?_
  refine R.boxRo ?_
  refine R.boxRo ?_
  refine R.alloc Tryz.zeroValue24 ?_
  refine R.assign ?_
  refine R.fin [2, 3, 4] ?_
  refine AW.seqR ?_
  refine R.loadRoN Tryz.isAgg59 Tryz.sizeOf59 ?_
  refine R.loadRoN Tryz.isAgg35 Tryz.sizeOf35 ?_
  refine R.call Tryz.call25 (h _) ?_
  refine R.move ?_
  refine R.extract ?_
  refine R.extract ?_
  refine R.alloc Tryz.zeroValue24 ?_
  refine R.storeOwn Tryz.sizeOf24 ?_
  refine R.assign ?_
  refine R.fin [4, 6, 7] ?_
  refine W.seq ?_
  refine AW.seqR ?_
  refine R.move ?_
  refine R.eql ?_
  refine R.move ?_
  refine G.fieldAddrPtr (fo := 0) Tryz.underlying24 Tryz.sizeOf3 ?_
  refine G.loadOwn Tryz.isAgg3 ?_
  refine G.neq ?_
  refine R.pickAnd ?_
  refine R.move ?_
  refine G.fieldAddrPtr (fo := 0) Tryz.underlying24 Tryz.sizeOf3 ?_
  refine G.loadOwn Tryz.isAgg3 ?_
  refine G.neq ?_
  refine R.pickAnd ?_
  refine R.fin [4, 6, 7, 25] ?_
  refine W.cond (fun ht25 => ?_) (fun ht25 => ?_)
  · skip
    have hm : truthR r = wrongR 10 := if_pos ht25
    refine AW.seqR ?_
    refine R.call Tryz.call24 (c24 _ _) ?_
    refine R.extract ?_
    refine R.extract ?_
    refine R.storeOwn Tryz.sizeOf24 ?_
    refine R.assign ?_
    refine R.fin [4, 5] ?_
    refine AW.ret ?_
    refine K.thR ?_
    exact K.fin (V.two (V.cellN Tryz.isAgg24 Tryz.sizeOf24) V.tmp) ⟨by rw [hm]; try rfl, rfl⟩
  · skip
    have hm : truthR r = r := if_neg (by rw [ht25]; simp)
    refine AW.skip ?_
    refine K.thN ?_
    refine AW.seqR ?_
    refine R.loadOwnN Tryz.isAgg24 Tryz.sizeOf24 ?_
    refine R.move ?_
    refine R.storeOwn Tryz.sizeOf24 ?_
    refine R.assign ?_
    refine R.fin [4, 5] ?_
    refine AW.ret ?_
    exact K.fin (V.two (V.cellN Tryz.isAgg24 Tryz.sizeOf24) V.tmp) ⟨by rw [hm]; try rfl, rfl⟩

theorem c37 (c : List Col) (l : List Val) (x k0 k1 : Expr) (s : Val) (ra rb : Rs) (h0 : (x.kids.map exprA)[0]? = some (exprA k0)) (h1 : (x.kids.map exprA)[1]? = some (exprA k1)) (ha : EvalsTo c l k0 ra) (hb : EvalsTo c l k1 rb) (Hp : List AObj) : AFun Tryz.prog 37 [scopeA c l, exprA x, valA s] Hp (resA (logicR s ra rb)) := by
  refine ACall.body [.cell 6 24, .tmp 7] [0, 1, 2] Tryz.func37 Tryz.ntmps37 (fun d => ?_)
  refine AW.seqR ?_
  refine R.boxRo ?_
  refine R.boxRo ?_
  refine R.boxRo ?_
  refine R.alloc Tryz.zeroValue24 ?_
  refine R.assign ?_
  refine R.fin [3, 4, 5, 6] ?_
  refine W.drawY [0, 0, 2, 6, 14, 31, 63, 127, 127, 0, 767, 2047] [9, 10] [.q 9 [] [], .s [8] (some 0) [] [1], .s [] (some 1) [0] []] (fun _ => Hp) (fun B => if B 0 = true then [.cells 24 [intA 0, intA 0, strA []], (if B 1 = true then .cells 24 [intA (truthR ra).1.kind, intA (truthR ra).1.n, strA (truthR ra).1.s] else .cells 24 [intA 0, intA 0, strA []] : AObj)] else [.cells 24 [intA 0, intA 0, strA []]]) Tryzmixed (by kernel_rfl) rfl rfl (fun _ => rfl) ?_
  apply Y.q
  case h1 =>
    intro B hT hF
    refine D.loadRoN Tryz.isAgg59 Tryz.sizeOf59 ?_
    refine D.fieldAddrRo (off := 5) Tryz.underlying35 Tryz.sizeOf33 ?_
    refine D.loadRo Tryz.isAgg33 ?_
    refine D.indexAddr (0) (exprA k0) Tryz.underlying33 Tryz.sizeOf35 h0 ?_
    refine D.loadRoN Tryz.isAgg35 Tryz.sizeOf35 ?_
    refine D.call Tryz.call57 (c57 c l k0 ra ha _) ?_
    refine D.move ?_
    refine D.extract ?_
    refine D.extract ?_
    exact D.end rfl rfl
  case hTF => decide
  refine Y.alloc (zs := [intA 0, intA 0, strA []]) (n := 1) (u := Hp.length) Tryz.zeroValue24 (fun B hT hF hB => ⟨rfl, by simp [hB], by simp [upd, hB, hF 1 (by simp)], rfl⟩) ?_
  refine Y.storeOwnT (u := Hp.length) (n := 1) (t' := 24) (cs := [intA 0, intA 0, strA []]) (cs' := [intA (truthR ra).1.kind, intA (truthR ra).1.n, strA (truthR ra).1.s]) Tryz.sizeOf24 (fun B hT hF hB => ⟨rfl, by simp [hT 0 (by simp), hB], by simp [upd, hT 0 (by simp), hB], rfl⟩) ?_
  refine Y.tail (tn := [9, 10]) (O := [.cells 24 [intA 0, intA 0, strA []], .cells 24 [intA (truthR ra).1.kind, intA (truthR ra).1.n, strA (truthR ra).1.s]]) ?_
  refine R.assign ?_
  refine R.fin [3, 4, 5, 6, 8, 9] ?_
  refine W.seq ?_
  refine AW.seqR ?_
  refine R.move ?_
  refine R.neq ?_
  refine R.move ?_
  refine G.loadOwnN Tryz.isAgg24 Tryz.sizeOf24 ?_
  refine G.loadRoN Tryz.isAgg24 Tryz.sizeOf24 ?_
  refine G.eqlAgg eg24 (fun w => equal24 (truthR ra).1.kind (truthR ra).1.n s.kind s.n (truthR ra).1.s s.s w) ?_
  refine R.pickOr ?_
  refine R.fin [3, 4, 5, 6, 8, 9, 26] ?_
  refine W.cond (fun ht26 => ?_) (fun ht26 => ?_)
  · skip
    rw [val_beq] at ht26
    have hm : logicR s ra rb = truthR ra := if_pos ht26
    refine AW.seqR ?_
    refine R.loadOwnN Tryz.isAgg24 Tryz.sizeOf24 ?_
    refine R.move ?_
    refine R.storeOwn Tryz.sizeOf24 ?_
    refine R.assign ?_
    refine R.fin [6, 7] ?_
    refine AW.ret ?_
    refine K.thR ?_
    exact K.fin (V.two (V.cellN Tryz.isAgg24 Tryz.sizeOf24) V.tmp) ⟨by rw [hm]; try rfl, rfl⟩
  · skip
    rw [val_beq] at ht26
    refine AW.skip ?_
    refine K.thN ?_
    refine W.drawY [0, 0, 2, 6, 14, 31, 63, 127, 127, 0, 767, 2047] [9, 10] [.q 9 [] [], .s [10] (some 0) [] [1], .s [] (some 1) [0] []] (fun _ => Hp) (fun B => if B 0 = true then [.cells 24 [intA 0, intA 0, strA []], .cells 24 [intA (truthR ra).1.kind, intA (truthR ra).1.n, strA (truthR ra).1.s], (if B 1 = true then .cells 24 [intA (truthR rb).1.kind, intA (truthR rb).1.n, strA (truthR rb).1.s] else .cells 24 [intA 0, intA 0, strA []] : AObj)] else [.cells 24 [intA 0, intA 0, strA []], .cells 24 [intA (truthR ra).1.kind, intA (truthR ra).1.n, strA (truthR ra).1.s]]) Tryzmixed (by kernel_rfl) rfl rfl (fun _ => rfl) ?_
    apply Y.q
    case h1 =>
      intro B hT hF
      refine D.loadRoN Tryz.isAgg59 Tryz.sizeOf59 ?_
      refine D.fieldAddrRo (off := 5) Tryz.underlying35 Tryz.sizeOf33 ?_
      refine D.loadRo Tryz.isAgg33 ?_
      refine D.indexAddr (1) (exprA k1) Tryz.underlying33 Tryz.sizeOf35 h1 ?_
      refine D.loadRoN Tryz.isAgg35 Tryz.sizeOf35 ?_
      refine D.call Tryz.call57 (c57 c l k1 rb hb _) ?_
      refine D.move ?_
      refine D.extract ?_
      refine D.extract ?_
      exact D.end rfl rfl
    case hTF => decide
    refine Y.alloc (zs := [intA 0, intA 0, strA []]) (n := 2) (u := Hp.length) Tryz.zeroValue24 (fun B hT hF hB => ⟨rfl, by simp [hB], by simp [upd, hB, hF 1 (by simp)], rfl⟩) ?_
    refine Y.storeOwnT (u := Hp.length) (n := 2) (t' := 24) (cs := [intA 0, intA 0, strA []]) (cs' := [intA (truthR rb).1.kind, intA (truthR rb).1.n, strA (truthR rb).1.s]) Tryz.sizeOf24 (fun B hT hF hB => ⟨rfl, by simp [hT 0 (by simp), hB], by simp [upd, hT 0 (by simp), hB], rfl⟩) ?_
    refine Y.tail (tn := [9, 10]) (O := [.cells 24 [intA 0, intA 0, strA []], .cells 24 [intA (truthR ra).1.kind, intA (truthR ra).1.n, strA (truthR ra).1.s], .cells 24 [intA (truthR rb).1.kind, intA (truthR rb).1.n, strA (truthR rb).1.s]]) ?_
    refine R.assign ?_
    refine R.fin [5, 6, 8, 9, 10] ?_
    refine W.seq ?_
    refine AW.seqR ?_
    refine R.move ?_
    refine R.neq ?_
    refine R.move ?_
    refine G.loadOwnN Tryz.isAgg24 Tryz.sizeOf24 ?_
    refine G.loadRoN Tryz.isAgg24 Tryz.sizeOf24 ?_
    refine G.eqlAgg eg24 (fun w => equal24 (truthR rb).1.kind (truthR rb).1.n s.kind s.n (truthR rb).1.s s.s w) ?_
    refine R.pickOr ?_
    refine R.move ?_
    refine G.fieldAddrPtr (fo := 0) Tryz.underlying24 Tryz.sizeOf3 ?_
    refine G.loadOwn Tryz.isAgg3 ?_
    refine G.neq ?_
    refine R.pickOr ?_
    refine R.fin [6, 8, 9, 10, 49] ?_
    refine W.cond (fun ht49 => ?_) (fun ht49 => ?_)
    · skip
      rw [val_beq] at ht49
      have hm : logicR s ra rb = truthR rb := by unfold logicR; rw [if_neg (by rw [ht26]; simp), if_pos ht49]
      refine AW.seqR ?_
      refine R.loadOwnN Tryz.isAgg24 Tryz.sizeOf24 ?_
      refine R.move ?_
      refine R.storeOwn Tryz.sizeOf24 ?_
      refine R.assign ?_
      refine R.fin [6, 7] ?_
      refine AW.ret ?_
      refine K.thR ?_
      exact K.fin (V.two (V.cellN Tryz.isAgg24 Tryz.sizeOf24) V.tmp) ⟨by rw [hm]; try rfl, rfl⟩
    · skip
      rw [val_beq] at ht49
      have hm : logicR s ra rb = ((truthR ra).1, 0) := by unfold logicR; rw [if_neg (by rw [ht26]; simp), if_neg (by rw [ht49]; simp)]
      refine AW.skip ?_
      refine K.thN ?_
      refine AW.seqR ?_
      refine R.loadOwnN Tryz.isAgg24 Tryz.sizeOf24 ?_
      refine R.storeOwn Tryz.sizeOf24 ?_
      refine R.assign ?_
      refine R.fin [6, 7] ?_
      refine AW.ret ?_
      exact K.fin (V.two (V.cellN Tryz.isAgg24 Tryz.sizeOf24) V.tmp) ⟨by rw [hm]; try rfl, rfl⟩

theorem c39 (c : List Col) (l : List Val) (x k0 k1 k2 : Expr) (ra rb d2 : Rs) (h0 : (x.kids.map exprA)[0]? = some (exprA k0)) (h1 : (x.text == isnullW) = false → (x.kids.map exprA)[1]? = some (exprA k1)) (h2 : (x.text == ifW) = true → (x.kids.map exprA)[2]? = some (exprA k2)) (ha : EvalsTo c l k0 ra) (hb : (x.text == isnullW) = false → EvalsTo c l k1 rb) (hd : (x.text == ifW) = true → EvalsTo c l k2 d2) (Hp : List AObj) : AFun Tryz.prog 39 [scopeA c l, exprA x] Hp (resA (callR x.text ra rb d2)) := by
  refine ACall.body [.cell 4 24, .tmp 5] [0, 1] Tryz.func39 Tryz.ntmps39 (fun d => ?_)
  refine AW.seqR ?_
  refine R.boxRo ?_
  refine R.boxRo ?_
  refine R.alloc Tryz.zeroValue24 ?_
  refine R.assign ?_
  refine R.fin [2, 3, 4] ?_
  refine W.seq ?_
  refine AW.seqR ?_
  refine R.fieldAddrRo (off := 1) Tryz.underlying35 Tryz.sizeOf9 ?_
  refine R.loadRo Tryz.isAgg9 ?_
  refine R.seql ?_
  refine R.fin [2, 3, 4, 12] ?_
  refine W.cond (fun ht12 => ?_) (fun ht12 => ?_)
  · skip
    have hni : (x.text == isnullW) = false := by have e : x.text = ifW := by simpa [ifW] using ht12
                                                 rw [e]; rfl
    have hc : callR x.text ra rb d2 = (if (truthR ra).2 != 0 then wrongR (truthR ra).2 else if (truthR ra).1 == boolV true then rb else d2) := if_pos ht12
    refine W.drawY [0, 0, 2, 6, 14, 31, 63, 127, 127, 0, 767, 2047] [9, 10] [.q 9 [] [], .s [6] (some 0) [] [1], .s [] (some 1) [0] []] (fun _ => Hp) (fun B => if B 0 = true then [.cells 24 [intA 0, intA 0, strA []], (if B 1 = true then .cells 24 [intA (truthR ra).1.kind, intA (truthR ra).1.n, strA (truthR ra).1.s] else .cells 24 [intA 0, intA 0, strA []] : AObj)] else [.cells 24 [intA 0, intA 0, strA []]]) Tryzmixed (by kernel_rfl) rfl rfl (fun _ => rfl) ?_
    apply Y.q
    case h1 =>
      intro B hT hF
      refine D.loadRoN Tryz.isAgg59 Tryz.sizeOf59 ?_
      refine D.fieldAddrRo (off := 5) Tryz.underlying35 Tryz.sizeOf33 ?_
      refine D.loadRo Tryz.isAgg33 ?_
      refine D.indexAddr (0) (exprA k0) Tryz.underlying33 Tryz.sizeOf35 h0 ?_
      refine D.loadRoN Tryz.isAgg35 Tryz.sizeOf35 ?_
      refine D.call Tryz.call57 (c57 c l k0 ra ha _) ?_
      refine D.move ?_
      refine D.extract ?_
      refine D.extract ?_
      exact D.end rfl rfl
    case hTF => decide
    refine Y.alloc (zs := [intA 0, intA 0, strA []]) (n := 1) (u := Hp.length) Tryz.zeroValue24 (fun B hT hF hB => ⟨rfl, by simp [hB], by simp [upd, hB, hF 1 (by simp)], rfl⟩) ?_
    refine Y.storeOwnT (u := Hp.length) (n := 1) (t' := 24) (cs := [intA 0, intA 0, strA []]) (cs' := [intA (truthR ra).1.kind, intA (truthR ra).1.n, strA (truthR ra).1.s]) Tryz.sizeOf24 (fun B hT hF hB => ⟨rfl, by simp [hT 0 (by simp), hB], by simp [upd, hT 0 (by simp), hB], rfl⟩) ?_
    refine Y.tail (tn := [9, 10]) (O := [.cells 24 [intA 0, intA 0, strA []], .cells 24 [intA (truthR ra).1.kind, intA (truthR ra).1.n, strA (truthR ra).1.s]]) ?_
    refine R.assign ?_
    refine R.fin [2, 3, 4, 6, 7] ?_
    refine W.seq ?_
    refine AW.block ?_
    refine AW.seqR ?_
    refine R.move ?_
    refine R.neq ?_
    refine R.assign ?_
    refine R.fin [2, 3, 4, 6, 7, 22] ?_
    refine W.cond (fun ht22 => ?_) (fun ht22 => ?_)
    · skip
      have hm : callR x.text ra rb d2 = wrongR (truthR ra).2 := by rw [hc, if_pos ht22]
      refine AW.seqR ?_
      refine R.move ?_
      refine R.call Tryz.call24 (c24 _ _) ?_
      refine R.extract ?_
      refine R.extract ?_
      refine R.storeOwn Tryz.sizeOf24 ?_
      refine R.assign ?_
      refine R.fin [4, 5] ?_
      refine AW.ret ?_
      refine K.blR ?_
      refine K.thR ?_
      refine K.thR ?_
      exact K.fin (V.two (V.cellN Tryz.isAgg24 Tryz.sizeOf24) V.tmp) ⟨by rw [hm]; try rfl, rfl⟩
    · skip
      refine W.draw [0, 0, 3, 7] 2 Tryzmixed (by kernel_rfl) ?_
      refine D.loadOwnN Tryz.isAgg24 Tryz.sizeOf24 ?_
      refine D.call Tryz.call38 (c38 true _) ?_
      refine D.tail ?_
      refine R.eqlAgg eg24 (fun w => equal24 (truthR ra).1.kind (truthR ra).1.n 3 1 (truthR ra).1.s [] w) ?_
      refine R.assign ?_
      refine R.fin [2, 3, 4, 29] ?_
      refine W.cond (fun ht29 => ?_) (fun ht29 => ?_)
      · skip
        rw [val_beq (truthR ra).1 ⟨3, 1, []⟩] at ht29
        have ht29b : ((truthR ra).1 == boolV true) = true := ht29
        have hm : callR x.text ra rb d2 = rb := by rw [hc, if_neg (by rw [ht22]; simp), if_pos ht29b]
        refine W.draw [0, 0, 2, 6, 14, 31, 63, 63, 255, 511] 8 Tryzmixed (by kernel_rfl) ?_
        refine D.loadRoN Tryz.isAgg59 Tryz.sizeOf59 ?_
        refine D.fieldAddrRo (off := 5) Tryz.underlying35 Tryz.sizeOf33 ?_
        refine D.loadRo Tryz.isAgg33 ?_
        refine D.indexAddr (1) (exprA k1) Tryz.underlying33 Tryz.sizeOf35 (h1 hni) ?_
        refine D.loadRoN Tryz.isAgg35 Tryz.sizeOf35 ?_
        refine D.call Tryz.call25 (hb hni _) ?_
        refine D.extract ?_
        refine D.extract ?_
        refine D.tail ?_
        refine R.storeOwn Tryz.sizeOf24 ?_
        refine R.assign ?_
        refine R.fin [4, 5] ?_
        refine AW.ret ?_
        refine K.blR ?_
        refine K.thR ?_
        refine K.thR ?_
        exact K.fin (V.two (V.cellN Tryz.isAgg24 Tryz.sizeOf24) V.tmp) ⟨by rw [hm]; try rfl, rfl⟩
      · skip
        rw [val_beq (truthR ra).1 ⟨3, 1, []⟩] at ht29
        have hm : callR x.text ra rb d2 = d2 := by rw [hc, if_neg (by rw [ht22]; simp), if_neg (by show ¬ ((truthR ra).1 == ⟨3, 1, []⟩) = true; rw [ht29]; simp)]
        refine AW.skip ?_
        refine K.blN ?_
        refine K.thN ?_
        refine W.draw [0, 0, 2, 6, 14, 31, 63, 63, 255, 511] 8 Tryzmixed (by kernel_rfl) ?_
        refine D.loadRoN Tryz.isAgg59 Tryz.sizeOf59 ?_
        refine D.fieldAddrRo (off := 5) Tryz.underlying35 Tryz.sizeOf33 ?_
        refine D.loadRo Tryz.isAgg33 ?_
        refine D.indexAddr (2) (exprA k2) Tryz.underlying33 Tryz.sizeOf35 (h2 ht12) ?_
        refine D.loadRoN Tryz.isAgg35 Tryz.sizeOf35 ?_
        refine D.call Tryz.call25 (hd ht12 _) ?_
        refine D.extract ?_
        refine D.extract ?_
        refine D.tail ?_
        refine R.storeOwn Tryz.sizeOf24 ?_
        refine R.assign ?_
        refine R.fin [4, 5] ?_
        refine AW.ret ?_
        refine K.thR ?_
        exact K.fin (V.two (V.cellN Tryz.isAgg24 Tryz.sizeOf24) V.tmp) ⟨by rw [hm]; try rfl, rfl⟩
  · skip
    have hc : callR x.text ra rb d2 = (if ra.2 != 0 then wrongR ra.2 else if x.text == isnullW then (boolV (ra.1.kind == 0), 0) else if ra.1.kind != 0 then (ra.1, 0) else rb) := if_neg (by show ¬ (x.text == ifW) = true; rw [show (x.text == ifW) = false from ht12]; simp)
    refine AW.skip ?_
    refine K.thN ?_
    refine W.drawY [0, 0, 2, 6, 14, 31, 63, 127, 127, 0, 767, 2047] [9, 10] [.q 9 [] [], .s [8] (some 0) [] [1], .s [] (some 1) [0] []] (fun _ => Hp) (fun B => if B 0 = true then [.cells 24 [intA 0, intA 0, strA []], (if B 1 = true then .cells 24 [intA ra.1.kind, intA ra.1.n, strA ra.1.s] else .cells 24 [intA 0, intA 0, strA []] : AObj)] else [.cells 24 [intA 0, intA 0, strA []]]) Tryzmixed (by kernel_rfl) rfl rfl (fun _ => rfl) ?_
    apply Y.q
    case h1 =>
      intro B hT hF
      refine D.loadRoN Tryz.isAgg59 Tryz.sizeOf59 ?_
      refine D.fieldAddrRo (off := 5) Tryz.underlying35 Tryz.sizeOf33 ?_
      refine D.loadRo Tryz.isAgg33 ?_
      refine D.indexAddr (0) (exprA k0) Tryz.underlying33 Tryz.sizeOf35 h0 ?_
      refine D.loadRoN Tryz.isAgg35 Tryz.sizeOf35 ?_
      refine D.call Tryz.call25 (ha _) ?_
      refine D.move ?_
      refine D.extract ?_
      refine D.extract ?_
      exact D.end rfl rfl
    case hTF => decide
    refine Y.alloc (zs := [intA 0, intA 0, strA []]) (n := 1) (u := Hp.length) Tryz.zeroValue24 (fun B hT hF hB => ⟨rfl, by simp [hB], by simp [upd, hB, hF 1 (by simp)], rfl⟩) ?_
    refine Y.storeOwnT (u := Hp.length) (n := 1) (t' := 24) (cs := [intA 0, intA 0, strA []]) (cs' := [intA ra.1.kind, intA ra.1.n, strA ra.1.s]) Tryz.sizeOf24 (fun B hT hF hB => ⟨rfl, by simp [hT 0 (by simp), hB], by simp [upd, hT 0 (by simp), hB], rfl⟩) ?_
    refine Y.tail (tn := [9, 10]) (O := [.cells 24 [intA 0, intA 0, strA []], .cells 24 [intA ra.1.kind, intA ra.1.n, strA ra.1.s]]) ?_
    refine R.assign ?_
    refine R.fin [2, 3, 4, 8, 9] ?_
    refine W.seq ?_
    refine AW.block ?_
    refine AW.seqR ?_
    refine R.move ?_
    refine R.neq ?_
    refine R.assign ?_
    refine R.fin [2, 3, 4, 8, 9, 58] ?_
    refine W.cond (fun ht58 => ?_) (fun ht58 => ?_)
    · skip
      have hm : callR x.text ra rb d2 = wrongR ra.2 := by rw [hc, if_pos ht58]
      refine AW.seqR ?_
      refine R.move ?_
      refine R.call Tryz.call24 (c24 _ _) ?_
      refine R.extract ?_
      refine R.extract ?_
      refine R.storeOwn Tryz.sizeOf24 ?_
      refine R.assign ?_
      refine R.fin [4, 5] ?_
      refine AW.ret ?_
      refine K.blR ?_
      refine K.thR ?_
      exact K.fin (V.two (V.cellN Tryz.isAgg24 Tryz.sizeOf24) V.tmp) ⟨by rw [hm]; try rfl, rfl⟩
    · skip
      refine AW.seqR ?_
      refine R.fieldAddrRo (off := 1) Tryz.underlying35 Tryz.sizeOf9 ?_
      refine R.loadRo Tryz.isAgg9 ?_
      refine R.seql ?_
      refine R.assign ?_
      refine R.fin [2, 3, 4, 8, 65] ?_
      refine W.cond (fun ht65 => ?_) (fun ht65 => ?_)
      · skip
        have hm : callR x.text ra rb d2 = (boolV (ra.1.kind == 0), 0) := by rw [hc, if_neg (by rw [ht58]; simp), if_pos (show (x.text == isnullW) = true from ht65)]
        refine AW.seqR ?_
        refine R.fieldAddrPtr (fo := 0) Tryz.underlying24 Tryz.sizeOf3 ?_
        refine R.loadOwn Tryz.isAgg3 ?_
        refine R.eql ?_
        refine R.call Tryz.call38 (c38 _ _) ?_
        refine R.storeOwn Tryz.sizeOf24 ?_
        refine R.assign ?_
        refine R.fin [4, 5] ?_
        refine AW.ret ?_
        refine K.blR ?_
        refine K.thR ?_
        exact K.fin (V.two (V.cellN Tryz.isAgg24 Tryz.sizeOf24) V.tmp) ⟨by rw [hm]; try rfl, rfl⟩
      · skip
        refine AW.seqR ?_
        refine R.fieldAddrPtr (fo := 0) Tryz.underlying24 Tryz.sizeOf3 ?_
        refine R.loadOwn Tryz.isAgg3 ?_
        refine R.neq ?_
        refine R.assign ?_
        refine R.fin [2, 3, 4, 8, 73] ?_
        refine W.cond (fun ht73 => ?_) (fun ht73 => ?_)
        · skip
          have hm : callR x.text ra rb d2 = (ra.1, 0) := by rw [hc, if_neg (by rw [ht58]; simp), if_neg (by show ¬ (x.text == isnullW) = true; rw [show (x.text == isnullW) = false from ht65]; simp), if_pos ht73]
          refine AW.seqR ?_
          refine R.loadOwnN Tryz.isAgg24 Tryz.sizeOf24 ?_
          refine R.storeOwn Tryz.sizeOf24 ?_
          refine R.assign ?_
          refine R.fin [4, 5] ?_
          refine AW.ret ?_
          refine K.blR ?_
          refine K.thR ?_
          exact K.fin (V.two (V.cellN Tryz.isAgg24 Tryz.sizeOf24) V.tmp) ⟨by rw [hm]; try rfl, rfl⟩
        · skip
          have hm : callR x.text ra rb d2 = rb := by rw [hc, if_neg (by rw [ht58]; simp), if_neg (by show ¬ (x.text == isnullW) = true; rw [show (x.text == isnullW) = false from ht65]; simp), if_neg (by rw [ht73]; simp)]
          refine AW.skip ?_
          refine K.blN ?_
          refine K.thN ?_
          refine W.draw [0, 0, 2, 6, 14, 31, 63, 63, 255, 511] 8 Tryzmixed (by kernel_rfl) ?_
          refine D.loadRoN Tryz.isAgg59 Tryz.sizeOf59 ?_
          refine D.fieldAddrRo (off := 5) Tryz.underlying35 Tryz.sizeOf33 ?_
          refine D.loadRo Tryz.isAgg33 ?_
          refine D.indexAddr (1) (exprA k1) Tryz.underlying33 Tryz.sizeOf35 (h1 ht65) ?_
          refine D.loadRoN Tryz.isAgg35 Tryz.sizeOf35 ?_
          refine D.call Tryz.call25 (hb ht65 _) ?_
          refine D.extract ?_
          refine D.extract ?_
          refine D.tail ?_
          refine R.storeOwn Tryz.sizeOf24 ?_
          refine R.assign ?_
          refine R.fin [4, 5] ?_
          refine AW.ret ?_
          exact K.fin (V.two (V.cellN Tryz.isAgg24 Tryz.sizeOf24) V.tmp) ⟨by rw [hm]; try rfl, rfl⟩

end Go.SX.Nb
namespace Go.SX.Nb
open Go Go.SX Go.Proofs
variable [ErrAt]
set_option maxRecDepth 4000
end Go.SX.Nb
namespace Go.SX.Nb
open Go Go.SX Go.Proofs
variable [ErrAt]
set_option maxRecDepth 4000
abbrev signA (s : Sign) : AV := .agg [.slice false 1 (s.kids.map intA), intA s.own]
theorem low_sign {n : Nat} (s : Sign) : Low n (signA s) := by simp [or_imp, forall_and]
theorem c63 (s : Str) (Hp : List AObj) : AFun Tryz.prog 63 [strA s] Hp (signA (markedM s)) := by
  refine ACall.body [.cell 2 78] [0] Tryz.func63 Tryz.ntmps63 (fun d => ?_)
  refine AW.seqR ?_
  refine R.alloc Tryz.zeroValue78 ?_
  refine R.fin [0, 2] ?_
  refine W.seq ?_
  refine AW.seqR ?_
  refine R.move ?_
  refine R.fin [2, 3] ?_
  refine AW.block ?_
  refine W.seq ?_
  refine AW.seqR ?_
  refine R.seql ?_
  refine R.assign ?_
  refine R.fin [2, 3, 4] ?_
  refine W.cond (fun ht4 => ?_) (fun ht4 => ?_)
  · skip
    refine AW.skip ?_
    refine K.thN ?_
    refine W.cond (fun ht4 => ?_) (fun ht4 => ?_)
    · skip
      refine AW.seqR ?_
      refine R.buildSlice Tryz.underlying76 Tryz.sizeOf3 Tryz.zeroValue3 ?_
      refine R.build (places := #[(0, 1), (1, 1)]) Tryz.underlying78 (fun w => by simp) Tryz.zeroValue78 ?_
      refine R.storeOwn Tryz.sizeOf78 ?_
      refine R.fin [2] ?_
      refine AW.ret ?_
      refine K.blR ?_
      refine K.thR ?_
      first | (by_cases e0 : markedM s = ⟨[3, 3], 3⟩; exact K.fin (V.one (V.cellN Tryz.isAgg78 Tryz.sizeOf78)) ⟨by rw [e0]; rfl, rfl⟩; exfalso; apply e0; simp_all [markedM]; done) | (by_cases e0 : markedM s = ⟨[-1, -1], 3⟩; exact K.fin (V.one (V.cellN Tryz.isAgg78 Tryz.sizeOf78)) ⟨by rw [e0]; rfl, rfl⟩; exfalso; apply e0; simp_all [markedM]; done) | (by_cases e0 : markedM s = ⟨[2, 2], 2⟩; exact K.fin (V.one (V.cellN Tryz.isAgg78 Tryz.sizeOf78)) ⟨by rw [e0]; rfl, rfl⟩; exfalso; apply e0; simp_all [markedM]; done) | (by_cases e0 : markedM s = ⟨[1, 1], 1⟩; exact K.fin (V.one (V.cellN Tryz.isAgg78 Tryz.sizeOf78)) ⟨by rw [e0]; rfl, rfl⟩; exfalso; apply e0; simp_all [markedM]; done)
    · skip
      refine W.seq ?_
      refine AW.seqR ?_
      refine R.seql ?_
      refine R.assign ?_
      refine R.fin [2, 3, 9] ?_
      refine W.cond (fun ht9 => ?_) (fun ht9 => ?_)
      · skip
        refine AW.skip ?_
        refine K.thN ?_
        refine W.cond (fun ht9 => ?_) (fun ht9 => ?_)
        · skip
          refine AW.seqR ?_
          refine R.buildSlice Tryz.underlying76 Tryz.sizeOf3 Tryz.zeroValue3 ?_
          refine R.build (places := #[(0, 1), (1, 1)]) Tryz.underlying78 (fun w => by simp) Tryz.zeroValue78 ?_
          refine R.storeOwn Tryz.sizeOf78 ?_
          refine R.fin [2] ?_
          refine AW.ret ?_
          refine K.blR ?_
          refine K.thR ?_
          first | (by_cases e0 : markedM s = ⟨[3, 3], 3⟩; exact K.fin (V.one (V.cellN Tryz.isAgg78 Tryz.sizeOf78)) ⟨by rw [e0]; rfl, rfl⟩; exfalso; apply e0; simp_all [markedM]; done) | (by_cases e0 : markedM s = ⟨[-1, -1], 3⟩; exact K.fin (V.one (V.cellN Tryz.isAgg78 Tryz.sizeOf78)) ⟨by rw [e0]; rfl, rfl⟩; exfalso; apply e0; simp_all [markedM]; done) | (by_cases e0 : markedM s = ⟨[2, 2], 2⟩; exact K.fin (V.one (V.cellN Tryz.isAgg78 Tryz.sizeOf78)) ⟨by rw [e0]; rfl, rfl⟩; exfalso; apply e0; simp_all [markedM]; done) | (by_cases e0 : markedM s = ⟨[1, 1], 1⟩; exact K.fin (V.one (V.cellN Tryz.isAgg78 Tryz.sizeOf78)) ⟨by rw [e0]; rfl, rfl⟩; exfalso; apply e0; simp_all [markedM]; done)
        · skip
          refine AW.seqR ?_
          refine R.seql ?_
          refine R.assign ?_
          refine R.fin [2, 18] ?_
          refine W.cond (fun ht18 => ?_) (fun ht18 => ?_)
          · skip
            refine AW.seqR ?_
            refine R.buildSlice Tryz.underlying76 Tryz.sizeOf3 Tryz.zeroValue3 ?_
            refine R.build (places := #[(0, 1), (1, 1)]) Tryz.underlying78 (fun w => by simp) Tryz.zeroValue78 ?_
            refine R.storeOwn Tryz.sizeOf78 ?_
            refine R.fin [2] ?_
            refine AW.ret ?_
            refine K.blR ?_
            refine K.thR ?_
            first | (by_cases e0 : markedM s = ⟨[3, 3], 3⟩; exact K.fin (V.one (V.cellN Tryz.isAgg78 Tryz.sizeOf78)) ⟨by rw [e0]; rfl, rfl⟩; exfalso; apply e0; simp_all [markedM]; done) | (by_cases e0 : markedM s = ⟨[-1, -1], 3⟩; exact K.fin (V.one (V.cellN Tryz.isAgg78 Tryz.sizeOf78)) ⟨by rw [e0]; rfl, rfl⟩; exfalso; apply e0; simp_all [markedM]; done) | (by_cases e0 : markedM s = ⟨[2, 2], 2⟩; exact K.fin (V.one (V.cellN Tryz.isAgg78 Tryz.sizeOf78)) ⟨by rw [e0]; rfl, rfl⟩; exfalso; apply e0; simp_all [markedM]; done) | (by_cases e0 : markedM s = ⟨[1, 1], 1⟩; exact K.fin (V.one (V.cellN Tryz.isAgg78 Tryz.sizeOf78)) ⟨by rw [e0]; rfl, rfl⟩; exfalso; apply e0; simp_all [markedM]; done)
          · skip
            refine AW.skip ?_
            refine K.blN ?_
            refine K.thN ?_
            refine AW.seqR ?_
            refine R.buildSlice Tryz.underlying76 Tryz.sizeOf3 Tryz.zeroValue3 ?_
            refine R.build (places := #[(0, 1), (1, 1)]) Tryz.underlying78 (fun w => by simp) Tryz.zeroValue78 ?_
            refine R.storeOwn Tryz.sizeOf78 ?_
            refine R.fin [2] ?_
            refine AW.ret ?_
            first | (by_cases e0 : markedM s = ⟨[3, 3], 3⟩; exact K.fin (V.one (V.cellN Tryz.isAgg78 Tryz.sizeOf78)) ⟨by rw [e0]; rfl, rfl⟩; exfalso; apply e0; simp_all [markedM]; done) | (by_cases e0 : markedM s = ⟨[-1, -1], 3⟩; exact K.fin (V.one (V.cellN Tryz.isAgg78 Tryz.sizeOf78)) ⟨by rw [e0]; rfl, rfl⟩; exfalso; apply e0; simp_all [markedM]; done) | (by_cases e0 : markedM s = ⟨[2, 2], 2⟩; exact K.fin (V.one (V.cellN Tryz.isAgg78 Tryz.sizeOf78)) ⟨by rw [e0]; rfl, rfl⟩; exfalso; apply e0; simp_all [markedM]; done) | (by_cases e0 : markedM s = ⟨[1, 1], 1⟩; exact K.fin (V.one (V.cellN Tryz.isAgg78 Tryz.sizeOf78)) ⟨by rw [e0]; rfl, rfl⟩; exfalso; apply e0; simp_all [markedM]; done)
      · skip
        refine AW.seqR ?_
        refine R.seql ?_
        refine R.assign ?_
        refine R.fin [2, 3, 9] ?_
        refine W.cond (fun ht9 => ?_) (fun ht9 => ?_)
        · skip
          refine AW.skip ?_
          refine K.thN ?_
          refine W.cond (fun ht9 => ?_) (fun ht9 => ?_)
          · skip
            refine AW.seqR ?_
            refine R.buildSlice Tryz.underlying76 Tryz.sizeOf3 Tryz.zeroValue3 ?_
            refine R.build (places := #[(0, 1), (1, 1)]) Tryz.underlying78 (fun w => by simp) Tryz.zeroValue78 ?_
            refine R.storeOwn Tryz.sizeOf78 ?_
            refine R.fin [2] ?_
            refine AW.ret ?_
            refine K.blR ?_
            refine K.thR ?_
            first | (by_cases e0 : markedM s = ⟨[3, 3], 3⟩; exact K.fin (V.one (V.cellN Tryz.isAgg78 Tryz.sizeOf78)) ⟨by rw [e0]; rfl, rfl⟩; exfalso; apply e0; simp_all [markedM]; done) | (by_cases e0 : markedM s = ⟨[-1, -1], 3⟩; exact K.fin (V.one (V.cellN Tryz.isAgg78 Tryz.sizeOf78)) ⟨by rw [e0]; rfl, rfl⟩; exfalso; apply e0; simp_all [markedM]; done) | (by_cases e0 : markedM s = ⟨[2, 2], 2⟩; exact K.fin (V.one (V.cellN Tryz.isAgg78 Tryz.sizeOf78)) ⟨by rw [e0]; rfl, rfl⟩; exfalso; apply e0; simp_all [markedM]; done) | (by_cases e0 : markedM s = ⟨[1, 1], 1⟩; exact K.fin (V.one (V.cellN Tryz.isAgg78 Tryz.sizeOf78)) ⟨by rw [e0]; rfl, rfl⟩; exfalso; apply e0; simp_all [markedM]; done)
          · skip
            refine AW.seqR ?_
            refine R.seql ?_
            refine R.assign ?_
            refine R.fin [2, 18] ?_
            refine W.cond (fun ht18 => ?_) (fun ht18 => ?_)
            · skip
              refine AW.seqR ?_
              refine R.buildSlice Tryz.underlying76 Tryz.sizeOf3 Tryz.zeroValue3 ?_
              refine R.build (places := #[(0, 1), (1, 1)]) Tryz.underlying78 (fun w => by simp) Tryz.zeroValue78 ?_
              refine R.storeOwn Tryz.sizeOf78 ?_
              refine R.fin [2] ?_
              refine AW.ret ?_
              refine K.blR ?_
              refine K.thR ?_
              first | (by_cases e0 : markedM s = ⟨[3, 3], 3⟩; exact K.fin (V.one (V.cellN Tryz.isAgg78 Tryz.sizeOf78)) ⟨by rw [e0]; rfl, rfl⟩; exfalso; apply e0; simp_all [markedM]; done) | (by_cases e0 : markedM s = ⟨[-1, -1], 3⟩; exact K.fin (V.one (V.cellN Tryz.isAgg78 Tryz.sizeOf78)) ⟨by rw [e0]; rfl, rfl⟩; exfalso; apply e0; simp_all [markedM]; done) | (by_cases e0 : markedM s = ⟨[2, 2], 2⟩; exact K.fin (V.one (V.cellN Tryz.isAgg78 Tryz.sizeOf78)) ⟨by rw [e0]; rfl, rfl⟩; exfalso; apply e0; simp_all [markedM]; done) | (by_cases e0 : markedM s = ⟨[1, 1], 1⟩; exact K.fin (V.one (V.cellN Tryz.isAgg78 Tryz.sizeOf78)) ⟨by rw [e0]; rfl, rfl⟩; exfalso; apply e0; simp_all [markedM]; done)
            · skip
              refine AW.skip ?_
              refine K.blN ?_
              refine K.thN ?_
              refine AW.seqR ?_
              refine R.buildSlice Tryz.underlying76 Tryz.sizeOf3 Tryz.zeroValue3 ?_
              refine R.build (places := #[(0, 1), (1, 1)]) Tryz.underlying78 (fun w => by simp) Tryz.zeroValue78 ?_
              refine R.storeOwn Tryz.sizeOf78 ?_
              refine R.fin [2] ?_
              refine AW.ret ?_
              first | (by_cases e0 : markedM s = ⟨[3, 3], 3⟩; exact K.fin (V.one (V.cellN Tryz.isAgg78 Tryz.sizeOf78)) ⟨by rw [e0]; rfl, rfl⟩; exfalso; apply e0; simp_all [markedM]; done) | (by_cases e0 : markedM s = ⟨[-1, -1], 3⟩; exact K.fin (V.one (V.cellN Tryz.isAgg78 Tryz.sizeOf78)) ⟨by rw [e0]; rfl, rfl⟩; exfalso; apply e0; simp_all [markedM]; done) | (by_cases e0 : markedM s = ⟨[2, 2], 2⟩; exact K.fin (V.one (V.cellN Tryz.isAgg78 Tryz.sizeOf78)) ⟨by rw [e0]; rfl, rfl⟩; exfalso; apply e0; simp_all [markedM]; done) | (by_cases e0 : markedM s = ⟨[1, 1], 1⟩; exact K.fin (V.one (V.cellN Tryz.isAgg78 Tryz.sizeOf78)) ⟨by rw [e0]; rfl, rfl⟩; exfalso; apply e0; simp_all [markedM]; done)
        · skip
          refine AW.seqR ?_
          refine R.seql ?_
          refine R.assign ?_
          refine R.fin [2, 3, 9] ?_
          refine W.cond (fun ht9 => ?_) (fun ht9 => ?_)
          · skip
            refine AW.skip ?_
            refine K.thN ?_
            refine W.cond (fun ht9 => ?_) (fun ht9 => ?_)
            · skip
              refine AW.seqR ?_
              refine R.buildSlice Tryz.underlying76 Tryz.sizeOf3 Tryz.zeroValue3 ?_
              refine R.build (places := #[(0, 1), (1, 1)]) Tryz.underlying78 (fun w => by simp) Tryz.zeroValue78 ?_
              refine R.storeOwn Tryz.sizeOf78 ?_
              refine R.fin [2] ?_
              refine AW.ret ?_
              refine K.blR ?_
              refine K.thR ?_
              first | (by_cases e0 : markedM s = ⟨[3, 3], 3⟩; exact K.fin (V.one (V.cellN Tryz.isAgg78 Tryz.sizeOf78)) ⟨by rw [e0]; rfl, rfl⟩; exfalso; apply e0; simp_all [markedM]; done) | (by_cases e0 : markedM s = ⟨[-1, -1], 3⟩; exact K.fin (V.one (V.cellN Tryz.isAgg78 Tryz.sizeOf78)) ⟨by rw [e0]; rfl, rfl⟩; exfalso; apply e0; simp_all [markedM]; done) | (by_cases e0 : markedM s = ⟨[2, 2], 2⟩; exact K.fin (V.one (V.cellN Tryz.isAgg78 Tryz.sizeOf78)) ⟨by rw [e0]; rfl, rfl⟩; exfalso; apply e0; simp_all [markedM]; done) | (by_cases e0 : markedM s = ⟨[1, 1], 1⟩; exact K.fin (V.one (V.cellN Tryz.isAgg78 Tryz.sizeOf78)) ⟨by rw [e0]; rfl, rfl⟩; exfalso; apply e0; simp_all [markedM]; done)
            · skip
              refine AW.seqR ?_
              refine R.seql ?_
              refine R.assign ?_
              refine R.fin [2, 18] ?_
              refine W.cond (fun ht18 => ?_) (fun ht18 => ?_)
              · skip
                refine AW.seqR ?_
                refine R.buildSlice Tryz.underlying76 Tryz.sizeOf3 Tryz.zeroValue3 ?_
                refine R.build (places := #[(0, 1), (1, 1)]) Tryz.underlying78 (fun w => by simp) Tryz.zeroValue78 ?_
                refine R.storeOwn Tryz.sizeOf78 ?_
                refine R.fin [2] ?_
                refine AW.ret ?_
                refine K.blR ?_
                refine K.thR ?_
                first | (by_cases e0 : markedM s = ⟨[3, 3], 3⟩; exact K.fin (V.one (V.cellN Tryz.isAgg78 Tryz.sizeOf78)) ⟨by rw [e0]; rfl, rfl⟩; exfalso; apply e0; simp_all [markedM]; done) | (by_cases e0 : markedM s = ⟨[-1, -1], 3⟩; exact K.fin (V.one (V.cellN Tryz.isAgg78 Tryz.sizeOf78)) ⟨by rw [e0]; rfl, rfl⟩; exfalso; apply e0; simp_all [markedM]; done) | (by_cases e0 : markedM s = ⟨[2, 2], 2⟩; exact K.fin (V.one (V.cellN Tryz.isAgg78 Tryz.sizeOf78)) ⟨by rw [e0]; rfl, rfl⟩; exfalso; apply e0; simp_all [markedM]; done) | (by_cases e0 : markedM s = ⟨[1, 1], 1⟩; exact K.fin (V.one (V.cellN Tryz.isAgg78 Tryz.sizeOf78)) ⟨by rw [e0]; rfl, rfl⟩; exfalso; apply e0; simp_all [markedM]; done)
              · skip
                refine AW.skip ?_
                refine K.blN ?_
                refine K.thN ?_
                refine AW.seqR ?_
                refine R.buildSlice Tryz.underlying76 Tryz.sizeOf3 Tryz.zeroValue3 ?_
                refine R.build (places := #[(0, 1), (1, 1)]) Tryz.underlying78 (fun w => by simp) Tryz.zeroValue78 ?_
                refine R.storeOwn Tryz.sizeOf78 ?_
                refine R.fin [2] ?_
                refine AW.ret ?_
                first | (by_cases e0 : markedM s = ⟨[3, 3], 3⟩; exact K.fin (V.one (V.cellN Tryz.isAgg78 Tryz.sizeOf78)) ⟨by rw [e0]; rfl, rfl⟩; exfalso; apply e0; simp_all [markedM]; done) | (by_cases e0 : markedM s = ⟨[-1, -1], 3⟩; exact K.fin (V.one (V.cellN Tryz.isAgg78 Tryz.sizeOf78)) ⟨by rw [e0]; rfl, rfl⟩; exfalso; apply e0; simp_all [markedM]; done) | (by_cases e0 : markedM s = ⟨[2, 2], 2⟩; exact K.fin (V.one (V.cellN Tryz.isAgg78 Tryz.sizeOf78)) ⟨by rw [e0]; rfl, rfl⟩; exfalso; apply e0; simp_all [markedM]; done) | (by_cases e0 : markedM s = ⟨[1, 1], 1⟩; exact K.fin (V.one (V.cellN Tryz.isAgg78 Tryz.sizeOf78)) ⟨by rw [e0]; rfl, rfl⟩; exfalso; apply e0; simp_all [markedM]; done)
          · skip
            refine AW.seqR ?_
            refine R.seql ?_
            refine R.assign ?_
            refine R.fin [2, 3, 9] ?_
            refine W.cond (fun ht9 => ?_) (fun ht9 => ?_)
            · skip
              refine AW.skip ?_
              refine K.thN ?_
              refine W.cond (fun ht9 => ?_) (fun ht9 => ?_)
              · skip
                refine AW.seqR ?_
                refine R.buildSlice Tryz.underlying76 Tryz.sizeOf3 Tryz.zeroValue3 ?_
                refine R.build (places := #[(0, 1), (1, 1)]) Tryz.underlying78 (fun w => by simp) Tryz.zeroValue78 ?_
                refine R.storeOwn Tryz.sizeOf78 ?_
                refine R.fin [2] ?_
                refine AW.ret ?_
                refine K.blR ?_
                refine K.thR ?_
                first | (by_cases e0 : markedM s = ⟨[3, 3], 3⟩; exact K.fin (V.one (V.cellN Tryz.isAgg78 Tryz.sizeOf78)) ⟨by rw [e0]; rfl, rfl⟩; exfalso; apply e0; simp_all [markedM]; done) | (by_cases e0 : markedM s = ⟨[-1, -1], 3⟩; exact K.fin (V.one (V.cellN Tryz.isAgg78 Tryz.sizeOf78)) ⟨by rw [e0]; rfl, rfl⟩; exfalso; apply e0; simp_all [markedM]; done) | (by_cases e0 : markedM s = ⟨[2, 2], 2⟩; exact K.fin (V.one (V.cellN Tryz.isAgg78 Tryz.sizeOf78)) ⟨by rw [e0]; rfl, rfl⟩; exfalso; apply e0; simp_all [markedM]; done) | (by_cases e0 : markedM s = ⟨[1, 1], 1⟩; exact K.fin (V.one (V.cellN Tryz.isAgg78 Tryz.sizeOf78)) ⟨by rw [e0]; rfl, rfl⟩; exfalso; apply e0; simp_all [markedM]; done)
              · skip
                refine AW.seqR ?_
                refine R.seql ?_
                refine R.assign ?_
                refine R.fin [2, 18] ?_
                refine W.cond (fun ht18 => ?_) (fun ht18 => ?_)
                · skip
                  refine AW.seqR ?_
                  refine R.buildSlice Tryz.underlying76 Tryz.sizeOf3 Tryz.zeroValue3 ?_
                  refine R.build (places := #[(0, 1), (1, 1)]) Tryz.underlying78 (fun w => by simp) Tryz.zeroValue78 ?_
                  refine R.storeOwn Tryz.sizeOf78 ?_
                  refine R.fin [2] ?_
                  refine AW.ret ?_
                  refine K.blR ?_
                  refine K.thR ?_
                  first | (by_cases e0 : markedM s = ⟨[3, 3], 3⟩; exact K.fin (V.one (V.cellN Tryz.isAgg78 Tryz.sizeOf78)) ⟨by rw [e0]; rfl, rfl⟩; exfalso; apply e0; simp_all [markedM]; done) | (by_cases e0 : markedM s = ⟨[-1, -1], 3⟩; exact K.fin (V.one (V.cellN Tryz.isAgg78 Tryz.sizeOf78)) ⟨by rw [e0]; rfl, rfl⟩; exfalso; apply e0; simp_all [markedM]; done) | (by_cases e0 : markedM s = ⟨[2, 2], 2⟩; exact K.fin (V.one (V.cellN Tryz.isAgg78 Tryz.sizeOf78)) ⟨by rw [e0]; rfl, rfl⟩; exfalso; apply e0; simp_all [markedM]; done) | (by_cases e0 : markedM s = ⟨[1, 1], 1⟩; exact K.fin (V.one (V.cellN Tryz.isAgg78 Tryz.sizeOf78)) ⟨by rw [e0]; rfl, rfl⟩; exfalso; apply e0; simp_all [markedM]; done)
                · skip
                  refine AW.skip ?_
                  refine K.blN ?_
                  refine K.thN ?_
                  refine AW.seqR ?_
                  refine R.buildSlice Tryz.underlying76 Tryz.sizeOf3 Tryz.zeroValue3 ?_
                  refine R.build (places := #[(0, 1), (1, 1)]) Tryz.underlying78 (fun w => by simp) Tryz.zeroValue78 ?_
                  refine R.storeOwn Tryz.sizeOf78 ?_
                  refine R.fin [2] ?_
                  refine AW.ret ?_
                  first | (by_cases e0 : markedM s = ⟨[3, 3], 3⟩; exact K.fin (V.one (V.cellN Tryz.isAgg78 Tryz.sizeOf78)) ⟨by rw [e0]; rfl, rfl⟩; exfalso; apply e0; simp_all [markedM]; done) | (by_cases e0 : markedM s = ⟨[-1, -1], 3⟩; exact K.fin (V.one (V.cellN Tryz.isAgg78 Tryz.sizeOf78)) ⟨by rw [e0]; rfl, rfl⟩; exfalso; apply e0; simp_all [markedM]; done) | (by_cases e0 : markedM s = ⟨[2, 2], 2⟩; exact K.fin (V.one (V.cellN Tryz.isAgg78 Tryz.sizeOf78)) ⟨by rw [e0]; rfl, rfl⟩; exfalso; apply e0; simp_all [markedM]; done) | (by_cases e0 : markedM s = ⟨[1, 1], 1⟩; exact K.fin (V.one (V.cellN Tryz.isAgg78 Tryz.sizeOf78)) ⟨by rw [e0]; rfl, rfl⟩; exfalso; apply e0; simp_all [markedM]; done)
            · skip
              refine AW.seqR ?_
              refine R.seql ?_
              refine R.assign ?_
              refine R.fin [2, 3, 9] ?_
              refine W.cond (fun ht9 => ?_) (fun ht9 => ?_)
              · skip
                refine AW.skip ?_
                refine K.thN ?_
                refine W.cond (fun ht9 => ?_) (fun ht9 => ?_)
                · skip
                  refine AW.seqR ?_
                  refine R.buildSlice Tryz.underlying76 Tryz.sizeOf3 Tryz.zeroValue3 ?_
                  refine R.build (places := #[(0, 1), (1, 1)]) Tryz.underlying78 (fun w => by simp) Tryz.zeroValue78 ?_
                  refine R.storeOwn Tryz.sizeOf78 ?_
                  refine R.fin [2] ?_
                  refine AW.ret ?_
                  refine K.blR ?_
                  refine K.thR ?_
                  first | (by_cases e0 : markedM s = ⟨[3, 3], 3⟩; exact K.fin (V.one (V.cellN Tryz.isAgg78 Tryz.sizeOf78)) ⟨by rw [e0]; rfl, rfl⟩; exfalso; apply e0; simp_all [markedM]; done) | (by_cases e0 : markedM s = ⟨[-1, -1], 3⟩; exact K.fin (V.one (V.cellN Tryz.isAgg78 Tryz.sizeOf78)) ⟨by rw [e0]; rfl, rfl⟩; exfalso; apply e0; simp_all [markedM]; done) | (by_cases e0 : markedM s = ⟨[2, 2], 2⟩; exact K.fin (V.one (V.cellN Tryz.isAgg78 Tryz.sizeOf78)) ⟨by rw [e0]; rfl, rfl⟩; exfalso; apply e0; simp_all [markedM]; done) | (by_cases e0 : markedM s = ⟨[1, 1], 1⟩; exact K.fin (V.one (V.cellN Tryz.isAgg78 Tryz.sizeOf78)) ⟨by rw [e0]; rfl, rfl⟩; exfalso; apply e0; simp_all [markedM]; done)
                · skip
                  refine AW.seqR ?_
                  refine R.seql ?_
                  refine R.assign ?_
                  refine R.fin [2, 18] ?_
                  refine W.cond (fun ht18 => ?_) (fun ht18 => ?_)
                  · skip
                    refine AW.seqR ?_
                    refine R.buildSlice Tryz.underlying76 Tryz.sizeOf3 Tryz.zeroValue3 ?_
                    refine R.build (places := #[(0, 1), (1, 1)]) Tryz.underlying78 (fun w => by simp) Tryz.zeroValue78 ?_
                    refine R.storeOwn Tryz.sizeOf78 ?_
                    refine R.fin [2] ?_
                    refine AW.ret ?_
                    refine K.blR ?_
                    refine K.thR ?_
                    first | (by_cases e0 : markedM s = ⟨[3, 3], 3⟩; exact K.fin (V.one (V.cellN Tryz.isAgg78 Tryz.sizeOf78)) ⟨by rw [e0]; rfl, rfl⟩; exfalso; apply e0; simp_all [markedM]; done) | (by_cases e0 : markedM s = ⟨[-1, -1], 3⟩; exact K.fin (V.one (V.cellN Tryz.isAgg78 Tryz.sizeOf78)) ⟨by rw [e0]; rfl, rfl⟩; exfalso; apply e0; simp_all [markedM]; done) | (by_cases e0 : markedM s = ⟨[2, 2], 2⟩; exact K.fin (V.one (V.cellN Tryz.isAgg78 Tryz.sizeOf78)) ⟨by rw [e0]; rfl, rfl⟩; exfalso; apply e0; simp_all [markedM]; done) | (by_cases e0 : markedM s = ⟨[1, 1], 1⟩; exact K.fin (V.one (V.cellN Tryz.isAgg78 Tryz.sizeOf78)) ⟨by rw [e0]; rfl, rfl⟩; exfalso; apply e0; simp_all [markedM]; done)
                  · skip
                    refine AW.skip ?_
                    refine K.blN ?_
                    refine K.thN ?_
                    refine AW.seqR ?_
                    refine R.buildSlice Tryz.underlying76 Tryz.sizeOf3 Tryz.zeroValue3 ?_
                    refine R.build (places := #[(0, 1), (1, 1)]) Tryz.underlying78 (fun w => by simp) Tryz.zeroValue78 ?_
                    refine R.storeOwn Tryz.sizeOf78 ?_
                    refine R.fin [2] ?_
                    refine AW.ret ?_
                    first | (by_cases e0 : markedM s = ⟨[3, 3], 3⟩; exact K.fin (V.one (V.cellN Tryz.isAgg78 Tryz.sizeOf78)) ⟨by rw [e0]; rfl, rfl⟩; exfalso; apply e0; simp_all [markedM]; done) | (by_cases e0 : markedM s = ⟨[-1, -1], 3⟩; exact K.fin (V.one (V.cellN Tryz.isAgg78 Tryz.sizeOf78)) ⟨by rw [e0]; rfl, rfl⟩; exfalso; apply e0; simp_all [markedM]; done) | (by_cases e0 : markedM s = ⟨[2, 2], 2⟩; exact K.fin (V.one (V.cellN Tryz.isAgg78 Tryz.sizeOf78)) ⟨by rw [e0]; rfl, rfl⟩; exfalso; apply e0; simp_all [markedM]; done) | (by_cases e0 : markedM s = ⟨[1, 1], 1⟩; exact K.fin (V.one (V.cellN Tryz.isAgg78 Tryz.sizeOf78)) ⟨by rw [e0]; rfl, rfl⟩; exfalso; apply e0; simp_all [markedM]; done)
              · skip
                refine AW.region ?_
                refine R.seql ?_
                refine R.assign ?_
                refine R.fin [2, 3, 9] ?_
                refine K.thN ?_
                refine W.cond (fun ht9 => ?_) (fun ht9 => ?_)
                · skip
                  refine AW.seqR ?_
                  refine R.buildSlice Tryz.underlying76 Tryz.sizeOf3 Tryz.zeroValue3 ?_
                  refine R.build (places := #[(0, 1), (1, 1)]) Tryz.underlying78 (fun w => by simp) Tryz.zeroValue78 ?_
                  refine R.storeOwn Tryz.sizeOf78 ?_
                  refine R.fin [2] ?_
                  refine AW.ret ?_
                  refine K.blR ?_
                  refine K.thR ?_
                  first | (by_cases e0 : markedM s = ⟨[3, 3], 3⟩; exact K.fin (V.one (V.cellN Tryz.isAgg78 Tryz.sizeOf78)) ⟨by rw [e0]; rfl, rfl⟩; exfalso; apply e0; simp_all [markedM]; done) | (by_cases e0 : markedM s = ⟨[-1, -1], 3⟩; exact K.fin (V.one (V.cellN Tryz.isAgg78 Tryz.sizeOf78)) ⟨by rw [e0]; rfl, rfl⟩; exfalso; apply e0; simp_all [markedM]; done) | (by_cases e0 : markedM s = ⟨[2, 2], 2⟩; exact K.fin (V.one (V.cellN Tryz.isAgg78 Tryz.sizeOf78)) ⟨by rw [e0]; rfl, rfl⟩; exfalso; apply e0; simp_all [markedM]; done) | (by_cases e0 : markedM s = ⟨[1, 1], 1⟩; exact K.fin (V.one (V.cellN Tryz.isAgg78 Tryz.sizeOf78)) ⟨by rw [e0]; rfl, rfl⟩; exfalso; apply e0; simp_all [markedM]; done)
                · skip
                  refine AW.seqR ?_
                  refine R.seql ?_
                  refine R.assign ?_
                  refine R.fin [2, 18] ?_
                  refine W.cond (fun ht18 => ?_) (fun ht18 => ?_)
                  · skip
                    refine AW.seqR ?_
                    refine R.buildSlice Tryz.underlying76 Tryz.sizeOf3 Tryz.zeroValue3 ?_
                    refine R.build (places := #[(0, 1), (1, 1)]) Tryz.underlying78 (fun w => by simp) Tryz.zeroValue78 ?_
                    refine R.storeOwn Tryz.sizeOf78 ?_
                    refine R.fin [2] ?_
                    refine AW.ret ?_
                    refine K.blR ?_
                    refine K.thR ?_
                    first | (by_cases e0 : markedM s = ⟨[3, 3], 3⟩; exact K.fin (V.one (V.cellN Tryz.isAgg78 Tryz.sizeOf78)) ⟨by rw [e0]; rfl, rfl⟩; exfalso; apply e0; simp_all [markedM]; done) | (by_cases e0 : markedM s = ⟨[-1, -1], 3⟩; exact K.fin (V.one (V.cellN Tryz.isAgg78 Tryz.sizeOf78)) ⟨by rw [e0]; rfl, rfl⟩; exfalso; apply e0; simp_all [markedM]; done) | (by_cases e0 : markedM s = ⟨[2, 2], 2⟩; exact K.fin (V.one (V.cellN Tryz.isAgg78 Tryz.sizeOf78)) ⟨by rw [e0]; rfl, rfl⟩; exfalso; apply e0; simp_all [markedM]; done) | (by_cases e0 : markedM s = ⟨[1, 1], 1⟩; exact K.fin (V.one (V.cellN Tryz.isAgg78 Tryz.sizeOf78)) ⟨by rw [e0]; rfl, rfl⟩; exfalso; apply e0; simp_all [markedM]; done)
                  · skip
                    refine AW.skip ?_
                    refine K.blN ?_
                    refine K.thN ?_
                    refine AW.seqR ?_
                    refine R.buildSlice Tryz.underlying76 Tryz.sizeOf3 Tryz.zeroValue3 ?_
                    refine R.build (places := #[(0, 1), (1, 1)]) Tryz.underlying78 (fun w => by simp) Tryz.zeroValue78 ?_
                    refine R.storeOwn Tryz.sizeOf78 ?_
                    refine R.fin [2] ?_
                    refine AW.ret ?_
                    first | (by_cases e0 : markedM s = ⟨[3, 3], 3⟩; exact K.fin (V.one (V.cellN Tryz.isAgg78 Tryz.sizeOf78)) ⟨by rw [e0]; rfl, rfl⟩; exfalso; apply e0; simp_all [markedM]; done) | (by_cases e0 : markedM s = ⟨[-1, -1], 3⟩; exact K.fin (V.one (V.cellN Tryz.isAgg78 Tryz.sizeOf78)) ⟨by rw [e0]; rfl, rfl⟩; exfalso; apply e0; simp_all [markedM]; done) | (by_cases e0 : markedM s = ⟨[2, 2], 2⟩; exact K.fin (V.one (V.cellN Tryz.isAgg78 Tryz.sizeOf78)) ⟨by rw [e0]; rfl, rfl⟩; exfalso; apply e0; simp_all [markedM]; done) | (by_cases e0 : markedM s = ⟨[1, 1], 1⟩; exact K.fin (V.one (V.cellN Tryz.isAgg78 Tryz.sizeOf78)) ⟨by rw [e0]; rfl, rfl⟩; exfalso; apply e0; simp_all [markedM]; done)
  · skip
    refine AW.region ?_
    refine R.seql ?_
    refine R.assign ?_
    refine R.fin [2, 3, 4] ?_
    refine K.thN ?_
    refine W.cond (fun ht4 => ?_) (fun ht4 => ?_)
    · skip
      refine AW.seqR ?_
      refine R.buildSlice Tryz.underlying76 Tryz.sizeOf3 Tryz.zeroValue3 ?_
      refine R.build (places := #[(0, 1), (1, 1)]) Tryz.underlying78 (fun w => by simp) Tryz.zeroValue78 ?_
      refine R.storeOwn Tryz.sizeOf78 ?_
      refine R.fin [2] ?_
      refine AW.ret ?_
      refine K.blR ?_
      refine K.thR ?_
      first | (by_cases e0 : markedM s = ⟨[3, 3], 3⟩; exact K.fin (V.one (V.cellN Tryz.isAgg78 Tryz.sizeOf78)) ⟨by rw [e0]; rfl, rfl⟩; exfalso; apply e0; simp_all [markedM]; done) | (by_cases e0 : markedM s = ⟨[-1, -1], 3⟩; exact K.fin (V.one (V.cellN Tryz.isAgg78 Tryz.sizeOf78)) ⟨by rw [e0]; rfl, rfl⟩; exfalso; apply e0; simp_all [markedM]; done) | (by_cases e0 : markedM s = ⟨[2, 2], 2⟩; exact K.fin (V.one (V.cellN Tryz.isAgg78 Tryz.sizeOf78)) ⟨by rw [e0]; rfl, rfl⟩; exfalso; apply e0; simp_all [markedM]; done) | (by_cases e0 : markedM s = ⟨[1, 1], 1⟩; exact K.fin (V.one (V.cellN Tryz.isAgg78 Tryz.sizeOf78)) ⟨by rw [e0]; rfl, rfl⟩; exfalso; apply e0; simp_all [markedM]; done)
    · skip
      refine W.seq ?_
      refine AW.seqR ?_
      refine R.seql ?_
      refine R.assign ?_
      refine R.fin [2, 3, 9] ?_
      refine W.cond (fun ht9 => ?_) (fun ht9 => ?_)
      · skip
        refine AW.skip ?_
        refine K.thN ?_
        refine W.cond (fun ht9 => ?_) (fun ht9 => ?_)
        · skip
          refine AW.seqR ?_
          refine R.buildSlice Tryz.underlying76 Tryz.sizeOf3 Tryz.zeroValue3 ?_
          refine R.build (places := #[(0, 1), (1, 1)]) Tryz.underlying78 (fun w => by simp) Tryz.zeroValue78 ?_
          refine R.storeOwn Tryz.sizeOf78 ?_
          refine R.fin [2] ?_
          refine AW.ret ?_
          refine K.blR ?_
          refine K.thR ?_
          first | (by_cases e0 : markedM s = ⟨[3, 3], 3⟩; exact K.fin (V.one (V.cellN Tryz.isAgg78 Tryz.sizeOf78)) ⟨by rw [e0]; rfl, rfl⟩; exfalso; apply e0; simp_all [markedM]; done) | (by_cases e0 : markedM s = ⟨[-1, -1], 3⟩; exact K.fin (V.one (V.cellN Tryz.isAgg78 Tryz.sizeOf78)) ⟨by rw [e0]; rfl, rfl⟩; exfalso; apply e0; simp_all [markedM]; done) | (by_cases e0 : markedM s = ⟨[2, 2], 2⟩; exact K.fin (V.one (V.cellN Tryz.isAgg78 Tryz.sizeOf78)) ⟨by rw [e0]; rfl, rfl⟩; exfalso; apply e0; simp_all [markedM]; done) | (by_cases e0 : markedM s = ⟨[1, 1], 1⟩; exact K.fin (V.one (V.cellN Tryz.isAgg78 Tryz.sizeOf78)) ⟨by rw [e0]; rfl, rfl⟩; exfalso; apply e0; simp_all [markedM]; done)
        · skip
          refine AW.seqR ?_
          refine R.seql ?_
          refine R.assign ?_
          refine R.fin [2, 18] ?_
          refine W.cond (fun ht18 => ?_) (fun ht18 => ?_)
          · skip
            refine AW.seqR ?_
            refine R.buildSlice Tryz.underlying76 Tryz.sizeOf3 Tryz.zeroValue3 ?_
            refine R.build (places := #[(0, 1), (1, 1)]) Tryz.underlying78 (fun w => by simp) Tryz.zeroValue78 ?_
            refine R.storeOwn Tryz.sizeOf78 ?_
            refine R.fin [2] ?_
            refine AW.ret ?_
            refine K.blR ?_
            refine K.thR ?_
            first | (by_cases e0 : markedM s = ⟨[3, 3], 3⟩; exact K.fin (V.one (V.cellN Tryz.isAgg78 Tryz.sizeOf78)) ⟨by rw [e0]; rfl, rfl⟩; exfalso; apply e0; simp_all [markedM]; done) | (by_cases e0 : markedM s = ⟨[-1, -1], 3⟩; exact K.fin (V.one (V.cellN Tryz.isAgg78 Tryz.sizeOf78)) ⟨by rw [e0]; rfl, rfl⟩; exfalso; apply e0; simp_all [markedM]; done) | (by_cases e0 : markedM s = ⟨[2, 2], 2⟩; exact K.fin (V.one (V.cellN Tryz.isAgg78 Tryz.sizeOf78)) ⟨by rw [e0]; rfl, rfl⟩; exfalso; apply e0; simp_all [markedM]; done) | (by_cases e0 : markedM s = ⟨[1, 1], 1⟩; exact K.fin (V.one (V.cellN Tryz.isAgg78 Tryz.sizeOf78)) ⟨by rw [e0]; rfl, rfl⟩; exfalso; apply e0; simp_all [markedM]; done)
          · skip
            refine AW.skip ?_
            refine K.blN ?_
            refine K.thN ?_
            refine AW.seqR ?_
            refine R.buildSlice Tryz.underlying76 Tryz.sizeOf3 Tryz.zeroValue3 ?_
            refine R.build (places := #[(0, 1), (1, 1)]) Tryz.underlying78 (fun w => by simp) Tryz.zeroValue78 ?_
            refine R.storeOwn Tryz.sizeOf78 ?_
            refine R.fin [2] ?_
            refine AW.ret ?_
            first | (by_cases e0 : markedM s = ⟨[3, 3], 3⟩; exact K.fin (V.one (V.cellN Tryz.isAgg78 Tryz.sizeOf78)) ⟨by rw [e0]; rfl, rfl⟩; exfalso; apply e0; simp_all [markedM]; done) | (by_cases e0 : markedM s = ⟨[-1, -1], 3⟩; exact K.fin (V.one (V.cellN Tryz.isAgg78 Tryz.sizeOf78)) ⟨by rw [e0]; rfl, rfl⟩; exfalso; apply e0; simp_all [markedM]; done) | (by_cases e0 : markedM s = ⟨[2, 2], 2⟩; exact K.fin (V.one (V.cellN Tryz.isAgg78 Tryz.sizeOf78)) ⟨by rw [e0]; rfl, rfl⟩; exfalso; apply e0; simp_all [markedM]; done) | (by_cases e0 : markedM s = ⟨[1, 1], 1⟩; exact K.fin (V.one (V.cellN Tryz.isAgg78 Tryz.sizeOf78)) ⟨by rw [e0]; rfl, rfl⟩; exfalso; apply e0; simp_all [markedM]; done)
      · skip
        refine AW.seqR ?_
        refine R.seql ?_
        refine R.assign ?_
        refine R.fin [2, 3, 9] ?_
        refine W.cond (fun ht9 => ?_) (fun ht9 => ?_)
        · skip
          refine AW.skip ?_
          refine K.thN ?_
          refine W.cond (fun ht9 => ?_) (fun ht9 => ?_)
          · skip
            refine AW.seqR ?_
            refine R.buildSlice Tryz.underlying76 Tryz.sizeOf3 Tryz.zeroValue3 ?_
            refine R.build (places := #[(0, 1), (1, 1)]) Tryz.underlying78 (fun w => by simp) Tryz.zeroValue78 ?_
            refine R.storeOwn Tryz.sizeOf78 ?_
            refine R.fin [2] ?_
            refine AW.ret ?_
            refine K.blR ?_
            refine K.thR ?_
            first | (by_cases e0 : markedM s = ⟨[3, 3], 3⟩; exact K.fin (V.one (V.cellN Tryz.isAgg78 Tryz.sizeOf78)) ⟨by rw [e0]; rfl, rfl⟩; exfalso; apply e0; simp_all [markedM]; done) | (by_cases e0 : markedM s = ⟨[-1, -1], 3⟩; exact K.fin (V.one (V.cellN Tryz.isAgg78 Tryz.sizeOf78)) ⟨by rw [e0]; rfl, rfl⟩; exfalso; apply e0; simp_all [markedM]; done) | (by_cases e0 : markedM s = ⟨[2, 2], 2⟩; exact K.fin (V.one (V.cellN Tryz.isAgg78 Tryz.sizeOf78)) ⟨by rw [e0]; rfl, rfl⟩; exfalso; apply e0; simp_all [markedM]; done) | (by_cases e0 : markedM s = ⟨[1, 1], 1⟩; exact K.fin (V.one (V.cellN Tryz.isAgg78 Tryz.sizeOf78)) ⟨by rw [e0]; rfl, rfl⟩; exfalso; apply e0; simp_all [markedM]; done)
          · skip
            refine AW.seqR ?_
            refine R.seql ?_
            refine R.assign ?_
            refine R.fin [2, 18] ?_
            refine W.cond (fun ht18 => ?_) (fun ht18 => ?_)
            · skip
              refine AW.seqR ?_
              refine R.buildSlice Tryz.underlying76 Tryz.sizeOf3 Tryz.zeroValue3 ?_
              refine R.build (places := #[(0, 1), (1, 1)]) Tryz.underlying78 (fun w => by simp) Tryz.zeroValue78 ?_
              refine R.storeOwn Tryz.sizeOf78 ?_
              refine R.fin [2] ?_
              refine AW.ret ?_
              refine K.blR ?_
              refine K.thR ?_
              first | (by_cases e0 : markedM s = ⟨[3, 3], 3⟩; exact K.fin (V.one (V.cellN Tryz.isAgg78 Tryz.sizeOf78)) ⟨by rw [e0]; rfl, rfl⟩; exfalso; apply e0; simp_all [markedM]; done) | (by_cases e0 : markedM s = ⟨[-1, -1], 3⟩; exact K.fin (V.one (V.cellN Tryz.isAgg78 Tryz.sizeOf78)) ⟨by rw [e0]; rfl, rfl⟩; exfalso; apply e0; simp_all [markedM]; done) | (by_cases e0 : markedM s = ⟨[2, 2], 2⟩; exact K.fin (V.one (V.cellN Tryz.isAgg78 Tryz.sizeOf78)) ⟨by rw [e0]; rfl, rfl⟩; exfalso; apply e0; simp_all [markedM]; done) | (by_cases e0 : markedM s = ⟨[1, 1], 1⟩; exact K.fin (V.one (V.cellN Tryz.isAgg78 Tryz.sizeOf78)) ⟨by rw [e0]; rfl, rfl⟩; exfalso; apply e0; simp_all [markedM]; done)
            · skip
              refine AW.skip ?_
              refine K.blN ?_
              refine K.thN ?_
              refine AW.seqR ?_
              refine R.buildSlice Tryz.underlying76 Tryz.sizeOf3 Tryz.zeroValue3 ?_
              refine R.build (places := #[(0, 1), (1, 1)]) Tryz.underlying78 (fun w => by simp) Tryz.zeroValue78 ?_
              refine R.storeOwn Tryz.sizeOf78 ?_
              refine R.fin [2] ?_
              refine AW.ret ?_
              first | (by_cases e0 : markedM s = ⟨[3, 3], 3⟩; exact K.fin (V.one (V.cellN Tryz.isAgg78 Tryz.sizeOf78)) ⟨by rw [e0]; rfl, rfl⟩; exfalso; apply e0; simp_all [markedM]; done) | (by_cases e0 : markedM s = ⟨[-1, -1], 3⟩; exact K.fin (V.one (V.cellN Tryz.isAgg78 Tryz.sizeOf78)) ⟨by rw [e0]; rfl, rfl⟩; exfalso; apply e0; simp_all [markedM]; done) | (by_cases e0 : markedM s = ⟨[2, 2], 2⟩; exact K.fin (V.one (V.cellN Tryz.isAgg78 Tryz.sizeOf78)) ⟨by rw [e0]; rfl, rfl⟩; exfalso; apply e0; simp_all [markedM]; done) | (by_cases e0 : markedM s = ⟨[1, 1], 1⟩; exact K.fin (V.one (V.cellN Tryz.isAgg78 Tryz.sizeOf78)) ⟨by rw [e0]; rfl, rfl⟩; exfalso; apply e0; simp_all [markedM]; done)
        · skip
          refine AW.seqR ?_
          refine R.seql ?_
          refine R.assign ?_
          refine R.fin [2, 3, 9] ?_
          refine W.cond (fun ht9 => ?_) (fun ht9 => ?_)
          · skip
            refine AW.skip ?_
            refine K.thN ?_
            refine W.cond (fun ht9 => ?_) (fun ht9 => ?_)
            · skip
              refine AW.seqR ?_
              refine R.buildSlice Tryz.underlying76 Tryz.sizeOf3 Tryz.zeroValue3 ?_
              refine R.build (places := #[(0, 1), (1, 1)]) Tryz.underlying78 (fun w => by simp) Tryz.zeroValue78 ?_
              refine R.storeOwn Tryz.sizeOf78 ?_
              refine R.fin [2] ?_
              refine AW.ret ?_
              refine K.blR ?_
              refine K.thR ?_
              first | (by_cases e0 : markedM s = ⟨[3, 3], 3⟩; exact K.fin (V.one (V.cellN Tryz.isAgg78 Tryz.sizeOf78)) ⟨by rw [e0]; rfl, rfl⟩; exfalso; apply e0; simp_all [markedM]; done) | (by_cases e0 : markedM s = ⟨[-1, -1], 3⟩; exact K.fin (V.one (V.cellN Tryz.isAgg78 Tryz.sizeOf78)) ⟨by rw [e0]; rfl, rfl⟩; exfalso; apply e0; simp_all [markedM]; done) | (by_cases e0 : markedM s = ⟨[2, 2], 2⟩; exact K.fin (V.one (V.cellN Tryz.isAgg78 Tryz.sizeOf78)) ⟨by rw [e0]; rfl, rfl⟩; exfalso; apply e0; simp_all [markedM]; done) | (by_cases e0 : markedM s = ⟨[1, 1], 1⟩; exact K.fin (V.one (V.cellN Tryz.isAgg78 Tryz.sizeOf78)) ⟨by rw [e0]; rfl, rfl⟩; exfalso; apply e0; simp_all [markedM]; done)
            · skip
              refine AW.seqR ?_
              refine R.seql ?_
              refine R.assign ?_
              refine R.fin [2, 18] ?_
              refine W.cond (fun ht18 => ?_) (fun ht18 => ?_)
              · skip
                refine AW.seqR ?_
                refine R.buildSlice Tryz.underlying76 Tryz.sizeOf3 Tryz.zeroValue3 ?_
                refine R.build (places := #[(0, 1), (1, 1)]) Tryz.underlying78 (fun w => by simp) Tryz.zeroValue78 ?_
                refine R.storeOwn Tryz.sizeOf78 ?_
                refine R.fin [2] ?_
                refine AW.ret ?_
                refine K.blR ?_
                refine K.thR ?_
                first | (by_cases e0 : markedM s = ⟨[3, 3], 3⟩; exact K.fin (V.one (V.cellN Tryz.isAgg78 Tryz.sizeOf78)) ⟨by rw [e0]; rfl, rfl⟩; exfalso; apply e0; simp_all [markedM]; done) | (by_cases e0 : markedM s = ⟨[-1, -1], 3⟩; exact K.fin (V.one (V.cellN Tryz.isAgg78 Tryz.sizeOf78)) ⟨by rw [e0]; rfl, rfl⟩; exfalso; apply e0; simp_all [markedM]; done) | (by_cases e0 : markedM s = ⟨[2, 2], 2⟩; exact K.fin (V.one (V.cellN Tryz.isAgg78 Tryz.sizeOf78)) ⟨by rw [e0]; rfl, rfl⟩; exfalso; apply e0; simp_all [markedM]; done) | (by_cases e0 : markedM s = ⟨[1, 1], 1⟩; exact K.fin (V.one (V.cellN Tryz.isAgg78 Tryz.sizeOf78)) ⟨by rw [e0]; rfl, rfl⟩; exfalso; apply e0; simp_all [markedM]; done)
              · skip
                refine AW.skip ?_
                refine K.blN ?_
                refine K.thN ?_
                refine AW.seqR ?_
                refine R.buildSlice Tryz.underlying76 Tryz.sizeOf3 Tryz.zeroValue3 ?_
                refine R.build (places := #[(0, 1), (1, 1)]) Tryz.underlying78 (fun w => by simp) Tryz.zeroValue78 ?_
                refine R.storeOwn Tryz.sizeOf78 ?_
                refine R.fin [2] ?_
                refine AW.ret ?_
                first | (by_cases e0 : markedM s = ⟨[3, 3], 3⟩; exact K.fin (V.one (V.cellN Tryz.isAgg78 Tryz.sizeOf78)) ⟨by rw [e0]; rfl, rfl⟩; exfalso; apply e0; simp_all [markedM]; done) | (by_cases e0 : markedM s = ⟨[-1, -1], 3⟩; exact K.fin (V.one (V.cellN Tryz.isAgg78 Tryz.sizeOf78)) ⟨by rw [e0]; rfl, rfl⟩; exfalso; apply e0; simp_all [markedM]; done) | (by_cases e0 : markedM s = ⟨[2, 2], 2⟩; exact K.fin (V.one (V.cellN Tryz.isAgg78 Tryz.sizeOf78)) ⟨by rw [e0]; rfl, rfl⟩; exfalso; apply e0; simp_all [markedM]; done) | (by_cases e0 : markedM s = ⟨[1, 1], 1⟩; exact K.fin (V.one (V.cellN Tryz.isAgg78 Tryz.sizeOf78)) ⟨by rw [e0]; rfl, rfl⟩; exfalso; apply e0; simp_all [markedM]; done)
          · skip
            refine AW.seqR ?_
            refine R.seql ?_
            refine R.assign ?_
            refine R.fin [2, 3, 9] ?_
            refine W.cond (fun ht9 => ?_) (fun ht9 => ?_)
            · skip
              refine AW.skip ?_
              refine K.thN ?_
              refine W.cond (fun ht9 => ?_) (fun ht9 => ?_)
              · skip
                refine AW.seqR ?_
                refine R.buildSlice Tryz.underlying76 Tryz.sizeOf3 Tryz.zeroValue3 ?_
                refine R.build (places := #[(0, 1), (1, 1)]) Tryz.underlying78 (fun w => by simp) Tryz.zeroValue78 ?_
                refine R.storeOwn Tryz.sizeOf78 ?_
                refine R.fin [2] ?_
                refine AW.ret ?_
                refine K.blR ?_
                refine K.thR ?_
                first | (by_cases e0 : markedM s = ⟨[3, 3], 3⟩; exact K.fin (V.one (V.cellN Tryz.isAgg78 Tryz.sizeOf78)) ⟨by rw [e0]; rfl, rfl⟩; exfalso; apply e0; simp_all [markedM]; done) | (by_cases e0 : markedM s = ⟨[-1, -1], 3⟩; exact K.fin (V.one (V.cellN Tryz.isAgg78 Tryz.sizeOf78)) ⟨by rw [e0]; rfl, rfl⟩; exfalso; apply e0; simp_all [markedM]; done) | (by_cases e0 : markedM s = ⟨[2, 2], 2⟩; exact K.fin (V.one (V.cellN Tryz.isAgg78 Tryz.sizeOf78)) ⟨by rw [e0]; rfl, rfl⟩; exfalso; apply e0; simp_all [markedM]; done) | (by_cases e0 : markedM s = ⟨[1, 1], 1⟩; exact K.fin (V.one (V.cellN Tryz.isAgg78 Tryz.sizeOf78)) ⟨by rw [e0]; rfl, rfl⟩; exfalso; apply e0; simp_all [markedM]; done)
              · skip
                refine AW.seqR ?_
                refine R.seql ?_
                refine R.assign ?_
                refine R.fin [2, 18] ?_
                refine W.cond (fun ht18 => ?_) (fun ht18 => ?_)
                · skip
                  refine AW.seqR ?_
                  refine R.buildSlice Tryz.underlying76 Tryz.sizeOf3 Tryz.zeroValue3 ?_
                  refine R.build (places := #[(0, 1), (1, 1)]) Tryz.underlying78 (fun w => by simp) Tryz.zeroValue78 ?_
                  refine R.storeOwn Tryz.sizeOf78 ?_
                  refine R.fin [2] ?_
                  refine AW.ret ?_
                  refine K.blR ?_
                  refine K.thR ?_
                  first | (by_cases e0 : markedM s = ⟨[3, 3], 3⟩; exact K.fin (V.one (V.cellN Tryz.isAgg78 Tryz.sizeOf78)) ⟨by rw [e0]; rfl, rfl⟩; exfalso; apply e0; simp_all [markedM]; done) | (by_cases e0 : markedM s = ⟨[-1, -1], 3⟩; exact K.fin (V.one (V.cellN Tryz.isAgg78 Tryz.sizeOf78)) ⟨by rw [e0]; rfl, rfl⟩; exfalso; apply e0; simp_all [markedM]; done) | (by_cases e0 : markedM s = ⟨[2, 2], 2⟩; exact K.fin (V.one (V.cellN Tryz.isAgg78 Tryz.sizeOf78)) ⟨by rw [e0]; rfl, rfl⟩; exfalso; apply e0; simp_all [markedM]; done) | (by_cases e0 : markedM s = ⟨[1, 1], 1⟩; exact K.fin (V.one (V.cellN Tryz.isAgg78 Tryz.sizeOf78)) ⟨by rw [e0]; rfl, rfl⟩; exfalso; apply e0; simp_all [markedM]; done)
                · skip
                  refine AW.skip ?_
                  refine K.blN ?_
                  refine K.thN ?_
                  refine AW.seqR ?_
                  refine R.buildSlice Tryz.underlying76 Tryz.sizeOf3 Tryz.zeroValue3 ?_
                  refine R.build (places := #[(0, 1), (1, 1)]) Tryz.underlying78 (fun w => by simp) Tryz.zeroValue78 ?_
                  refine R.storeOwn Tryz.sizeOf78 ?_
                  refine R.fin [2] ?_
                  refine AW.ret ?_
                  first | (by_cases e0 : markedM s = ⟨[3, 3], 3⟩; exact K.fin (V.one (V.cellN Tryz.isAgg78 Tryz.sizeOf78)) ⟨by rw [e0]; rfl, rfl⟩; exfalso; apply e0; simp_all [markedM]; done) | (by_cases e0 : markedM s = ⟨[-1, -1], 3⟩; exact K.fin (V.one (V.cellN Tryz.isAgg78 Tryz.sizeOf78)) ⟨by rw [e0]; rfl, rfl⟩; exfalso; apply e0; simp_all [markedM]; done) | (by_cases e0 : markedM s = ⟨[2, 2], 2⟩; exact K.fin (V.one (V.cellN Tryz.isAgg78 Tryz.sizeOf78)) ⟨by rw [e0]; rfl, rfl⟩; exfalso; apply e0; simp_all [markedM]; done) | (by_cases e0 : markedM s = ⟨[1, 1], 1⟩; exact K.fin (V.one (V.cellN Tryz.isAgg78 Tryz.sizeOf78)) ⟨by rw [e0]; rfl, rfl⟩; exfalso; apply e0; simp_all [markedM]; done)
            · skip
              refine AW.seqR ?_
              refine R.seql ?_
              refine R.assign ?_
              refine R.fin [2, 3, 9] ?_
              refine W.cond (fun ht9 => ?_) (fun ht9 => ?_)
              · skip
                refine AW.skip ?_
                refine K.thN ?_
                refine W.cond (fun ht9 => ?_) (fun ht9 => ?_)
                · skip
                  refine AW.seqR ?_
                  refine R.buildSlice Tryz.underlying76 Tryz.sizeOf3 Tryz.zeroValue3 ?_
                  refine R.build (places := #[(0, 1), (1, 1)]) Tryz.underlying78 (fun w => by simp) Tryz.zeroValue78 ?_
                  refine R.storeOwn Tryz.sizeOf78 ?_
                  refine R.fin [2] ?_
                  refine AW.ret ?_
                  refine K.blR ?_
                  refine K.thR ?_
                  first | (by_cases e0 : markedM s = ⟨[3, 3], 3⟩; exact K.fin (V.one (V.cellN Tryz.isAgg78 Tryz.sizeOf78)) ⟨by rw [e0]; rfl, rfl⟩; exfalso; apply e0; simp_all [markedM]; done) | (by_cases e0 : markedM s = ⟨[-1, -1], 3⟩; exact K.fin (V.one (V.cellN Tryz.isAgg78 Tryz.sizeOf78)) ⟨by rw [e0]; rfl, rfl⟩; exfalso; apply e0; simp_all [markedM]; done) | (by_cases e0 : markedM s = ⟨[2, 2], 2⟩; exact K.fin (V.one (V.cellN Tryz.isAgg78 Tryz.sizeOf78)) ⟨by rw [e0]; rfl, rfl⟩; exfalso; apply e0; simp_all [markedM]; done) | (by_cases e0 : markedM s = ⟨[1, 1], 1⟩; exact K.fin (V.one (V.cellN Tryz.isAgg78 Tryz.sizeOf78)) ⟨by rw [e0]; rfl, rfl⟩; exfalso; apply e0; simp_all [markedM]; done)
                · skip
                  refine AW.seqR ?_
                  refine R.seql ?_
                  refine R.assign ?_
                  refine R.fin [2, 18] ?_
                  refine W.cond (fun ht18 => ?_) (fun ht18 => ?_)
                  · skip
                    refine AW.seqR ?_
                    refine R.buildSlice Tryz.underlying76 Tryz.sizeOf3 Tryz.zeroValue3 ?_
                    refine R.build (places := #[(0, 1), (1, 1)]) Tryz.underlying78 (fun w => by simp) Tryz.zeroValue78 ?_
                    refine R.storeOwn Tryz.sizeOf78 ?_
                    refine R.fin [2] ?_
                    refine AW.ret ?_
                    refine K.blR ?_
                    refine K.thR ?_
                    first | (by_cases e0 : markedM s = ⟨[3, 3], 3⟩; exact K.fin (V.one (V.cellN Tryz.isAgg78 Tryz.sizeOf78)) ⟨by rw [e0]; rfl, rfl⟩; exfalso; apply e0; simp_all [markedM]; done) | (by_cases e0 : markedM s = ⟨[-1, -1], 3⟩; exact K.fin (V.one (V.cellN Tryz.isAgg78 Tryz.sizeOf78)) ⟨by rw [e0]; rfl, rfl⟩; exfalso; apply e0; simp_all [markedM]; done) | (by_cases e0 : markedM s = ⟨[2, 2], 2⟩; exact K.fin (V.one (V.cellN Tryz.isAgg78 Tryz.sizeOf78)) ⟨by rw [e0]; rfl, rfl⟩; exfalso; apply e0; simp_all [markedM]; done) | (by_cases e0 : markedM s = ⟨[1, 1], 1⟩; exact K.fin (V.one (V.cellN Tryz.isAgg78 Tryz.sizeOf78)) ⟨by rw [e0]; rfl, rfl⟩; exfalso; apply e0; simp_all [markedM]; done)
                  · skip
                    refine AW.skip ?_
                    refine K.blN ?_
                    refine K.thN ?_
                    refine AW.seqR ?_
                    refine R.buildSlice Tryz.underlying76 Tryz.sizeOf3 Tryz.zeroValue3 ?_
                    refine R.build (places := #[(0, 1), (1, 1)]) Tryz.underlying78 (fun w => by simp) Tryz.zeroValue78 ?_
                    refine R.storeOwn Tryz.sizeOf78 ?_
                    refine R.fin [2] ?_
                    refine AW.ret ?_
                    first | (by_cases e0 : markedM s = ⟨[3, 3], 3⟩; exact K.fin (V.one (V.cellN Tryz.isAgg78 Tryz.sizeOf78)) ⟨by rw [e0]; rfl, rfl⟩; exfalso; apply e0; simp_all [markedM]; done) | (by_cases e0 : markedM s = ⟨[-1, -1], 3⟩; exact K.fin (V.one (V.cellN Tryz.isAgg78 Tryz.sizeOf78)) ⟨by rw [e0]; rfl, rfl⟩; exfalso; apply e0; simp_all [markedM]; done) | (by_cases e0 : markedM s = ⟨[2, 2], 2⟩; exact K.fin (V.one (V.cellN Tryz.isAgg78 Tryz.sizeOf78)) ⟨by rw [e0]; rfl, rfl⟩; exfalso; apply e0; simp_all [markedM]; done) | (by_cases e0 : markedM s = ⟨[1, 1], 1⟩; exact K.fin (V.one (V.cellN Tryz.isAgg78 Tryz.sizeOf78)) ⟨by rw [e0]; rfl, rfl⟩; exfalso; apply e0; simp_all [markedM]; done)
              · skip
                refine AW.region ?_
                refine R.seql ?_
                refine R.assign ?_
                refine R.fin [2, 3, 9] ?_
                refine K.thN ?_
                refine W.cond (fun ht9 => ?_) (fun ht9 => ?_)
                · skip
                  refine AW.seqR ?_
                  refine R.buildSlice Tryz.underlying76 Tryz.sizeOf3 Tryz.zeroValue3 ?_
                  refine R.build (places := #[(0, 1), (1, 1)]) Tryz.underlying78 (fun w => by simp) Tryz.zeroValue78 ?_
                  refine R.storeOwn Tryz.sizeOf78 ?_
                  refine R.fin [2] ?_
                  refine AW.ret ?_
                  refine K.blR ?_
                  refine K.thR ?_
                  first | (by_cases e0 : markedM s = ⟨[3, 3], 3⟩; exact K.fin (V.one (V.cellN Tryz.isAgg78 Tryz.sizeOf78)) ⟨by rw [e0]; rfl, rfl⟩; exfalso; apply e0; simp_all [markedM]; done) | (by_cases e0 : markedM s = ⟨[-1, -1], 3⟩; exact K.fin (V.one (V.cellN Tryz.isAgg78 Tryz.sizeOf78)) ⟨by rw [e0]; rfl, rfl⟩; exfalso; apply e0; simp_all [markedM]; done) | (by_cases e0 : markedM s = ⟨[2, 2], 2⟩; exact K.fin (V.one (V.cellN Tryz.isAgg78 Tryz.sizeOf78)) ⟨by rw [e0]; rfl, rfl⟩; exfalso; apply e0; simp_all [markedM]; done) | (by_cases e0 : markedM s = ⟨[1, 1], 1⟩; exact K.fin (V.one (V.cellN Tryz.isAgg78 Tryz.sizeOf78)) ⟨by rw [e0]; rfl, rfl⟩; exfalso; apply e0; simp_all [markedM]; done)
                · skip
                  refine AW.seqR ?_
                  refine R.seql ?_
                  refine R.assign ?_
                  refine R.fin [2, 18] ?_
                  refine W.cond (fun ht18 => ?_) (fun ht18 => ?_)
                  · skip
                    refine AW.seqR ?_
                    refine R.buildSlice Tryz.underlying76 Tryz.sizeOf3 Tryz.zeroValue3 ?_
                    refine R.build (places := #[(0, 1), (1, 1)]) Tryz.underlying78 (fun w => by simp) Tryz.zeroValue78 ?_
                    refine R.storeOwn Tryz.sizeOf78 ?_
                    refine R.fin [2] ?_
                    refine AW.ret ?_
                    refine K.blR ?_
                    refine K.thR ?_
                    first | (by_cases e0 : markedM s = ⟨[3, 3], 3⟩; exact K.fin (V.one (V.cellN Tryz.isAgg78 Tryz.sizeOf78)) ⟨by rw [e0]; rfl, rfl⟩; exfalso; apply e0; simp_all [markedM]; done) | (by_cases e0 : markedM s = ⟨[-1, -1], 3⟩; exact K.fin (V.one (V.cellN Tryz.isAgg78 Tryz.sizeOf78)) ⟨by rw [e0]; rfl, rfl⟩; exfalso; apply e0; simp_all [markedM]; done) | (by_cases e0 : markedM s = ⟨[2, 2], 2⟩; exact K.fin (V.one (V.cellN Tryz.isAgg78 Tryz.sizeOf78)) ⟨by rw [e0]; rfl, rfl⟩; exfalso; apply e0; simp_all [markedM]; done) | (by_cases e0 : markedM s = ⟨[1, 1], 1⟩; exact K.fin (V.one (V.cellN Tryz.isAgg78 Tryz.sizeOf78)) ⟨by rw [e0]; rfl, rfl⟩; exfalso; apply e0; simp_all [markedM]; done)
                  · skip
                    refine AW.skip ?_
                    refine K.blN ?_
                    refine K.thN ?_
                    refine AW.seqR ?_
                    refine R.buildSlice Tryz.underlying76 Tryz.sizeOf3 Tryz.zeroValue3 ?_
                    refine R.build (places := #[(0, 1), (1, 1)]) Tryz.underlying78 (fun w => by simp) Tryz.zeroValue78 ?_
                    refine R.storeOwn Tryz.sizeOf78 ?_
                    refine R.fin [2] ?_
                    refine AW.ret ?_
                    first | (by_cases e0 : markedM s = ⟨[3, 3], 3⟩; exact K.fin (V.one (V.cellN Tryz.isAgg78 Tryz.sizeOf78)) ⟨by rw [e0]; rfl, rfl⟩; exfalso; apply e0; simp_all [markedM]; done) | (by_cases e0 : markedM s = ⟨[-1, -1], 3⟩; exact K.fin (V.one (V.cellN Tryz.isAgg78 Tryz.sizeOf78)) ⟨by rw [e0]; rfl, rfl⟩; exfalso; apply e0; simp_all [markedM]; done) | (by_cases e0 : markedM s = ⟨[2, 2], 2⟩; exact K.fin (V.one (V.cellN Tryz.isAgg78 Tryz.sizeOf78)) ⟨by rw [e0]; rfl, rfl⟩; exfalso; apply e0; simp_all [markedM]; done) | (by_cases e0 : markedM s = ⟨[1, 1], 1⟩; exact K.fin (V.one (V.cellN Tryz.isAgg78 Tryz.sizeOf78)) ⟨by rw [e0]; rfl, rfl⟩; exfalso; apply e0; simp_all [markedM]; done)

theorem c64 (s : Str) (Hp : List AObj) : AFun Tryz.prog 64 [strA s] Hp (signA (calledM s)) := by
  refine ACall.body [.cell 2 78] [0] Tryz.func64 Tryz.ntmps64 (fun d => ?_)
  refine AW.seqR ?_
  refine R.alloc Tryz.zeroValue78 ?_
  refine R.fin [0, 2] ?_
  refine W.seq ?_
  refine AW.seqR ?_
  refine R.move ?_
  refine R.fin [2, 3] ?_
  refine AW.block ?_
  refine W.seq ?_
  refine AW.seqR ?_
  refine R.seql ?_
  refine R.assign ?_
  refine R.fin [2, 3, 4] ?_
  refine W.cond (fun ht4 => ?_) (fun ht4 => ?_)
  · skip
    refine AW.skip ?_
    refine K.thN ?_
    refine W.cond (fun ht4 => ?_) (fun ht4 => ?_)
    · skip
      refine AW.seqR ?_
      refine R.buildSlice Tryz.underlying76 Tryz.sizeOf3 Tryz.zeroValue3 ?_
      refine R.build (places := #[(0, 1), (1, 1)]) Tryz.underlying78 (fun w => by simp) Tryz.zeroValue78 ?_
      refine R.storeOwn Tryz.sizeOf78 ?_
      refine R.fin [2] ?_
      refine AW.ret ?_
      refine K.blR ?_
      refine K.thR ?_
      first | (by_cases e0 : calledM s = ⟨[2], 1⟩; exact K.fin (V.one (V.cellN Tryz.isAgg78 Tryz.sizeOf78)) ⟨by rw [e0]; rfl, rfl⟩; exfalso; apply e0; simp_all [calledM]; done) | (by_cases e0 : calledM s = ⟨[1], 2⟩; exact K.fin (V.one (V.cellN Tryz.isAgg78 Tryz.sizeOf78)) ⟨by rw [e0]; rfl, rfl⟩; exfalso; apply e0; simp_all [calledM]; done) | (by_cases e0 : calledM s = ⟨[2, 1], 2⟩; exact K.fin (V.one (V.cellN Tryz.isAgg78 Tryz.sizeOf78)) ⟨by rw [e0]; rfl, rfl⟩; exfalso; apply e0; simp_all [calledM]; done) | (by_cases e0 : calledM s = ⟨[-2], 3⟩; exact K.fin (V.one (V.cellN Tryz.isAgg78 Tryz.sizeOf78)) ⟨by rw [e0]; rfl, rfl⟩; exfalso; apply e0; simp_all [calledM]; done) | (by_cases e0 : calledM s = ⟨[-1, -1], -1⟩; exact K.fin (V.one (V.cellN Tryz.isAgg78 Tryz.sizeOf78)) ⟨by rw [e0]; rfl, rfl⟩; exfalso; apply e0; simp_all [calledM]; done) | (by_cases e0 : calledM s = ⟨[3, -1, -1], -1⟩; exact K.fin (V.one (V.cellN Tryz.isAgg78 Tryz.sizeOf78)) ⟨by rw [e0]; rfl, rfl⟩; exfalso; apply e0; simp_all [calledM]; done)
    · skip
      refine AW.seqR ?_
      refine R.seql ?_
      refine R.assign ?_
      refine R.fin [2, 3, 9] ?_
      refine W.cond (fun ht9 => ?_) (fun ht9 => ?_)
      · skip
        refine AW.seqR ?_
        refine R.buildSlice Tryz.underlying76 Tryz.sizeOf3 Tryz.zeroValue3 ?_
        refine R.build (places := #[(0, 1), (1, 1)]) Tryz.underlying78 (fun w => by simp) Tryz.zeroValue78 ?_
        refine R.storeOwn Tryz.sizeOf78 ?_
        refine R.fin [2] ?_
        refine AW.ret ?_
        refine K.blR ?_
        refine K.thR ?_
        first | (by_cases e0 : calledM s = ⟨[2], 1⟩; exact K.fin (V.one (V.cellN Tryz.isAgg78 Tryz.sizeOf78)) ⟨by rw [e0]; rfl, rfl⟩; exfalso; apply e0; simp_all [calledM]; done) | (by_cases e0 : calledM s = ⟨[1], 2⟩; exact K.fin (V.one (V.cellN Tryz.isAgg78 Tryz.sizeOf78)) ⟨by rw [e0]; rfl, rfl⟩; exfalso; apply e0; simp_all [calledM]; done) | (by_cases e0 : calledM s = ⟨[2, 1], 2⟩; exact K.fin (V.one (V.cellN Tryz.isAgg78 Tryz.sizeOf78)) ⟨by rw [e0]; rfl, rfl⟩; exfalso; apply e0; simp_all [calledM]; done) | (by_cases e0 : calledM s = ⟨[-2], 3⟩; exact K.fin (V.one (V.cellN Tryz.isAgg78 Tryz.sizeOf78)) ⟨by rw [e0]; rfl, rfl⟩; exfalso; apply e0; simp_all [calledM]; done) | (by_cases e0 : calledM s = ⟨[-1, -1], -1⟩; exact K.fin (V.one (V.cellN Tryz.isAgg78 Tryz.sizeOf78)) ⟨by rw [e0]; rfl, rfl⟩; exfalso; apply e0; simp_all [calledM]; done) | (by_cases e0 : calledM s = ⟨[3, -1, -1], -1⟩; exact K.fin (V.one (V.cellN Tryz.isAgg78 Tryz.sizeOf78)) ⟨by rw [e0]; rfl, rfl⟩; exfalso; apply e0; simp_all [calledM]; done)
      · skip
        refine W.seq ?_
        refine AW.seqR ?_
        refine R.seql ?_
        refine R.assign ?_
        refine R.fin [2, 3, 13] ?_
        refine W.cond (fun ht13 => ?_) (fun ht13 => ?_)
        · skip
          refine AW.skip ?_
          refine K.thN ?_
          refine W.cond (fun ht13 => ?_) (fun ht13 => ?_)
          · skip
            refine AW.seqR ?_
            refine R.buildSlice Tryz.underlying76 Tryz.sizeOf3 Tryz.zeroValue3 ?_
            refine R.build (places := #[(0, 1), (1, 1)]) Tryz.underlying78 (fun w => by simp) Tryz.zeroValue78 ?_
            refine R.storeOwn Tryz.sizeOf78 ?_
            refine R.fin [2] ?_
            refine AW.ret ?_
            refine K.blR ?_
            refine K.thR ?_
            first | (by_cases e0 : calledM s = ⟨[2], 1⟩; exact K.fin (V.one (V.cellN Tryz.isAgg78 Tryz.sizeOf78)) ⟨by rw [e0]; rfl, rfl⟩; exfalso; apply e0; simp_all [calledM]; done) | (by_cases e0 : calledM s = ⟨[1], 2⟩; exact K.fin (V.one (V.cellN Tryz.isAgg78 Tryz.sizeOf78)) ⟨by rw [e0]; rfl, rfl⟩; exfalso; apply e0; simp_all [calledM]; done) | (by_cases e0 : calledM s = ⟨[2, 1], 2⟩; exact K.fin (V.one (V.cellN Tryz.isAgg78 Tryz.sizeOf78)) ⟨by rw [e0]; rfl, rfl⟩; exfalso; apply e0; simp_all [calledM]; done) | (by_cases e0 : calledM s = ⟨[-2], 3⟩; exact K.fin (V.one (V.cellN Tryz.isAgg78 Tryz.sizeOf78)) ⟨by rw [e0]; rfl, rfl⟩; exfalso; apply e0; simp_all [calledM]; done) | (by_cases e0 : calledM s = ⟨[-1, -1], -1⟩; exact K.fin (V.one (V.cellN Tryz.isAgg78 Tryz.sizeOf78)) ⟨by rw [e0]; rfl, rfl⟩; exfalso; apply e0; simp_all [calledM]; done) | (by_cases e0 : calledM s = ⟨[3, -1, -1], -1⟩; exact K.fin (V.one (V.cellN Tryz.isAgg78 Tryz.sizeOf78)) ⟨by rw [e0]; rfl, rfl⟩; exfalso; apply e0; simp_all [calledM]; done)
          · skip
            refine AW.seqR ?_
            refine R.seql ?_
            refine R.assign ?_
            refine R.fin [2, 3, 18] ?_
            refine W.cond (fun ht18 => ?_) (fun ht18 => ?_)
            · skip
              refine AW.seqR ?_
              refine R.buildSlice Tryz.underlying76 Tryz.sizeOf3 Tryz.zeroValue3 ?_
              refine R.build (places := #[(0, 1), (1, 1)]) Tryz.underlying78 (fun w => by simp) Tryz.zeroValue78 ?_
              refine R.storeOwn Tryz.sizeOf78 ?_
              refine R.fin [2] ?_
              refine AW.ret ?_
              refine K.blR ?_
              refine K.thR ?_
              first | (by_cases e0 : calledM s = ⟨[2], 1⟩; exact K.fin (V.one (V.cellN Tryz.isAgg78 Tryz.sizeOf78)) ⟨by rw [e0]; rfl, rfl⟩; exfalso; apply e0; simp_all [calledM]; done) | (by_cases e0 : calledM s = ⟨[1], 2⟩; exact K.fin (V.one (V.cellN Tryz.isAgg78 Tryz.sizeOf78)) ⟨by rw [e0]; rfl, rfl⟩; exfalso; apply e0; simp_all [calledM]; done) | (by_cases e0 : calledM s = ⟨[2, 1], 2⟩; exact K.fin (V.one (V.cellN Tryz.isAgg78 Tryz.sizeOf78)) ⟨by rw [e0]; rfl, rfl⟩; exfalso; apply e0; simp_all [calledM]; done) | (by_cases e0 : calledM s = ⟨[-2], 3⟩; exact K.fin (V.one (V.cellN Tryz.isAgg78 Tryz.sizeOf78)) ⟨by rw [e0]; rfl, rfl⟩; exfalso; apply e0; simp_all [calledM]; done) | (by_cases e0 : calledM s = ⟨[-1, -1], -1⟩; exact K.fin (V.one (V.cellN Tryz.isAgg78 Tryz.sizeOf78)) ⟨by rw [e0]; rfl, rfl⟩; exfalso; apply e0; simp_all [calledM]; done) | (by_cases e0 : calledM s = ⟨[3, -1, -1], -1⟩; exact K.fin (V.one (V.cellN Tryz.isAgg78 Tryz.sizeOf78)) ⟨by rw [e0]; rfl, rfl⟩; exfalso; apply e0; simp_all [calledM]; done)
            · skip
              refine AW.seqR ?_
              refine R.seql ?_
              refine R.assign ?_
              refine R.fin [2, 22] ?_
              refine W.cond (fun ht22 => ?_) (fun ht22 => ?_)
              · skip
                refine AW.seqR ?_
                refine R.buildSlice Tryz.underlying76 Tryz.sizeOf3 Tryz.zeroValue3 ?_
                refine R.build (places := #[(0, 1), (1, 1)]) Tryz.underlying78 (fun w => by simp) Tryz.zeroValue78 ?_
                refine R.storeOwn Tryz.sizeOf78 ?_
                refine R.fin [2] ?_
                refine AW.ret ?_
                refine K.blR ?_
                refine K.thR ?_
                first | (by_cases e0 : calledM s = ⟨[2], 1⟩; exact K.fin (V.one (V.cellN Tryz.isAgg78 Tryz.sizeOf78)) ⟨by rw [e0]; rfl, rfl⟩; exfalso; apply e0; simp_all [calledM]; done) | (by_cases e0 : calledM s = ⟨[1], 2⟩; exact K.fin (V.one (V.cellN Tryz.isAgg78 Tryz.sizeOf78)) ⟨by rw [e0]; rfl, rfl⟩; exfalso; apply e0; simp_all [calledM]; done) | (by_cases e0 : calledM s = ⟨[2, 1], 2⟩; exact K.fin (V.one (V.cellN Tryz.isAgg78 Tryz.sizeOf78)) ⟨by rw [e0]; rfl, rfl⟩; exfalso; apply e0; simp_all [calledM]; done) | (by_cases e0 : calledM s = ⟨[-2], 3⟩; exact K.fin (V.one (V.cellN Tryz.isAgg78 Tryz.sizeOf78)) ⟨by rw [e0]; rfl, rfl⟩; exfalso; apply e0; simp_all [calledM]; done) | (by_cases e0 : calledM s = ⟨[-1, -1], -1⟩; exact K.fin (V.one (V.cellN Tryz.isAgg78 Tryz.sizeOf78)) ⟨by rw [e0]; rfl, rfl⟩; exfalso; apply e0; simp_all [calledM]; done) | (by_cases e0 : calledM s = ⟨[3, -1, -1], -1⟩; exact K.fin (V.one (V.cellN Tryz.isAgg78 Tryz.sizeOf78)) ⟨by rw [e0]; rfl, rfl⟩; exfalso; apply e0; simp_all [calledM]; done)
              · skip
                refine AW.skip ?_
                refine K.blN ?_
                refine K.thN ?_
                refine AW.seqR ?_
                refine R.buildSlice Tryz.underlying76 Tryz.sizeOf3 Tryz.zeroValue3 ?_
                refine R.build (places := #[(0, 1), (1, 1)]) Tryz.underlying78 (fun w => by simp) Tryz.zeroValue78 ?_
                refine R.storeOwn Tryz.sizeOf78 ?_
                refine R.fin [2] ?_
                refine AW.ret ?_
                first | (by_cases e0 : calledM s = ⟨[2], 1⟩; exact K.fin (V.one (V.cellN Tryz.isAgg78 Tryz.sizeOf78)) ⟨by rw [e0]; rfl, rfl⟩; exfalso; apply e0; simp_all [calledM]; done) | (by_cases e0 : calledM s = ⟨[1], 2⟩; exact K.fin (V.one (V.cellN Tryz.isAgg78 Tryz.sizeOf78)) ⟨by rw [e0]; rfl, rfl⟩; exfalso; apply e0; simp_all [calledM]; done) | (by_cases e0 : calledM s = ⟨[2, 1], 2⟩; exact K.fin (V.one (V.cellN Tryz.isAgg78 Tryz.sizeOf78)) ⟨by rw [e0]; rfl, rfl⟩; exfalso; apply e0; simp_all [calledM]; done) | (by_cases e0 : calledM s = ⟨[-2], 3⟩; exact K.fin (V.one (V.cellN Tryz.isAgg78 Tryz.sizeOf78)) ⟨by rw [e0]; rfl, rfl⟩; exfalso; apply e0; simp_all [calledM]; done) | (by_cases e0 : calledM s = ⟨[-1, -1], -1⟩; exact K.fin (V.one (V.cellN Tryz.isAgg78 Tryz.sizeOf78)) ⟨by rw [e0]; rfl, rfl⟩; exfalso; apply e0; simp_all [calledM]; done) | (by_cases e0 : calledM s = ⟨[3, -1, -1], -1⟩; exact K.fin (V.one (V.cellN Tryz.isAgg78 Tryz.sizeOf78)) ⟨by rw [e0]; rfl, rfl⟩; exfalso; apply e0; simp_all [calledM]; done)
        · skip
          refine AW.region ?_
          refine R.seql ?_
          refine R.assign ?_
          refine R.fin [2, 3, 13] ?_
          refine K.thN ?_
          refine W.cond (fun ht13 => ?_) (fun ht13 => ?_)
          · skip
            refine AW.seqR ?_
            refine R.buildSlice Tryz.underlying76 Tryz.sizeOf3 Tryz.zeroValue3 ?_
            refine R.build (places := #[(0, 1), (1, 1)]) Tryz.underlying78 (fun w => by simp) Tryz.zeroValue78 ?_
            refine R.storeOwn Tryz.sizeOf78 ?_
            refine R.fin [2] ?_
            refine AW.ret ?_
            refine K.blR ?_
            refine K.thR ?_
            first | (by_cases e0 : calledM s = ⟨[2], 1⟩; exact K.fin (V.one (V.cellN Tryz.isAgg78 Tryz.sizeOf78)) ⟨by rw [e0]; rfl, rfl⟩; exfalso; apply e0; simp_all [calledM]; done) | (by_cases e0 : calledM s = ⟨[1], 2⟩; exact K.fin (V.one (V.cellN Tryz.isAgg78 Tryz.sizeOf78)) ⟨by rw [e0]; rfl, rfl⟩; exfalso; apply e0; simp_all [calledM]; done) | (by_cases e0 : calledM s = ⟨[2, 1], 2⟩; exact K.fin (V.one (V.cellN Tryz.isAgg78 Tryz.sizeOf78)) ⟨by rw [e0]; rfl, rfl⟩; exfalso; apply e0; simp_all [calledM]; done) | (by_cases e0 : calledM s = ⟨[-2], 3⟩; exact K.fin (V.one (V.cellN Tryz.isAgg78 Tryz.sizeOf78)) ⟨by rw [e0]; rfl, rfl⟩; exfalso; apply e0; simp_all [calledM]; done) | (by_cases e0 : calledM s = ⟨[-1, -1], -1⟩; exact K.fin (V.one (V.cellN Tryz.isAgg78 Tryz.sizeOf78)) ⟨by rw [e0]; rfl, rfl⟩; exfalso; apply e0; simp_all [calledM]; done) | (by_cases e0 : calledM s = ⟨[3, -1, -1], -1⟩; exact K.fin (V.one (V.cellN Tryz.isAgg78 Tryz.sizeOf78)) ⟨by rw [e0]; rfl, rfl⟩; exfalso; apply e0; simp_all [calledM]; done)
          · skip
            refine AW.seqR ?_
            refine R.seql ?_
            refine R.assign ?_
            refine R.fin [2, 3, 18] ?_
            refine W.cond (fun ht18 => ?_) (fun ht18 => ?_)
            · skip
              refine AW.seqR ?_
              refine R.buildSlice Tryz.underlying76 Tryz.sizeOf3 Tryz.zeroValue3 ?_
              refine R.build (places := #[(0, 1), (1, 1)]) Tryz.underlying78 (fun w => by simp) Tryz.zeroValue78 ?_
              refine R.storeOwn Tryz.sizeOf78 ?_
              refine R.fin [2] ?_
              refine AW.ret ?_
              refine K.blR ?_
              refine K.thR ?_
              first | (by_cases e0 : calledM s = ⟨[2], 1⟩; exact K.fin (V.one (V.cellN Tryz.isAgg78 Tryz.sizeOf78)) ⟨by rw [e0]; rfl, rfl⟩; exfalso; apply e0; simp_all [calledM]; done) | (by_cases e0 : calledM s = ⟨[1], 2⟩; exact K.fin (V.one (V.cellN Tryz.isAgg78 Tryz.sizeOf78)) ⟨by rw [e0]; rfl, rfl⟩; exfalso; apply e0; simp_all [calledM]; done) | (by_cases e0 : calledM s = ⟨[2, 1], 2⟩; exact K.fin (V.one (V.cellN Tryz.isAgg78 Tryz.sizeOf78)) ⟨by rw [e0]; rfl, rfl⟩; exfalso; apply e0; simp_all [calledM]; done) | (by_cases e0 : calledM s = ⟨[-2], 3⟩; exact K.fin (V.one (V.cellN Tryz.isAgg78 Tryz.sizeOf78)) ⟨by rw [e0]; rfl, rfl⟩; exfalso; apply e0; simp_all [calledM]; done) | (by_cases e0 : calledM s = ⟨[-1, -1], -1⟩; exact K.fin (V.one (V.cellN Tryz.isAgg78 Tryz.sizeOf78)) ⟨by rw [e0]; rfl, rfl⟩; exfalso; apply e0; simp_all [calledM]; done) | (by_cases e0 : calledM s = ⟨[3, -1, -1], -1⟩; exact K.fin (V.one (V.cellN Tryz.isAgg78 Tryz.sizeOf78)) ⟨by rw [e0]; rfl, rfl⟩; exfalso; apply e0; simp_all [calledM]; done)
            · skip
              refine AW.seqR ?_
              refine R.seql ?_
              refine R.assign ?_
              refine R.fin [2, 22] ?_
              refine W.cond (fun ht22 => ?_) (fun ht22 => ?_)
              · skip
                refine AW.seqR ?_
                refine R.buildSlice Tryz.underlying76 Tryz.sizeOf3 Tryz.zeroValue3 ?_
                refine R.build (places := #[(0, 1), (1, 1)]) Tryz.underlying78 (fun w => by simp) Tryz.zeroValue78 ?_
                refine R.storeOwn Tryz.sizeOf78 ?_
                refine R.fin [2] ?_
                refine AW.ret ?_
                refine K.blR ?_
                refine K.thR ?_
                first | (by_cases e0 : calledM s = ⟨[2], 1⟩; exact K.fin (V.one (V.cellN Tryz.isAgg78 Tryz.sizeOf78)) ⟨by rw [e0]; rfl, rfl⟩; exfalso; apply e0; simp_all [calledM]; done) | (by_cases e0 : calledM s = ⟨[1], 2⟩; exact K.fin (V.one (V.cellN Tryz.isAgg78 Tryz.sizeOf78)) ⟨by rw [e0]; rfl, rfl⟩; exfalso; apply e0; simp_all [calledM]; done) | (by_cases e0 : calledM s = ⟨[2, 1], 2⟩; exact K.fin (V.one (V.cellN Tryz.isAgg78 Tryz.sizeOf78)) ⟨by rw [e0]; rfl, rfl⟩; exfalso; apply e0; simp_all [calledM]; done) | (by_cases e0 : calledM s = ⟨[-2], 3⟩; exact K.fin (V.one (V.cellN Tryz.isAgg78 Tryz.sizeOf78)) ⟨by rw [e0]; rfl, rfl⟩; exfalso; apply e0; simp_all [calledM]; done) | (by_cases e0 : calledM s = ⟨[-1, -1], -1⟩; exact K.fin (V.one (V.cellN Tryz.isAgg78 Tryz.sizeOf78)) ⟨by rw [e0]; rfl, rfl⟩; exfalso; apply e0; simp_all [calledM]; done) | (by_cases e0 : calledM s = ⟨[3, -1, -1], -1⟩; exact K.fin (V.one (V.cellN Tryz.isAgg78 Tryz.sizeOf78)) ⟨by rw [e0]; rfl, rfl⟩; exfalso; apply e0; simp_all [calledM]; done)
              · skip
                refine AW.skip ?_
                refine K.blN ?_
                refine K.thN ?_
                refine AW.seqR ?_
                refine R.buildSlice Tryz.underlying76 Tryz.sizeOf3 Tryz.zeroValue3 ?_
                refine R.build (places := #[(0, 1), (1, 1)]) Tryz.underlying78 (fun w => by simp) Tryz.zeroValue78 ?_
                refine R.storeOwn Tryz.sizeOf78 ?_
                refine R.fin [2] ?_
                refine AW.ret ?_
                first | (by_cases e0 : calledM s = ⟨[2], 1⟩; exact K.fin (V.one (V.cellN Tryz.isAgg78 Tryz.sizeOf78)) ⟨by rw [e0]; rfl, rfl⟩; exfalso; apply e0; simp_all [calledM]; done) | (by_cases e0 : calledM s = ⟨[1], 2⟩; exact K.fin (V.one (V.cellN Tryz.isAgg78 Tryz.sizeOf78)) ⟨by rw [e0]; rfl, rfl⟩; exfalso; apply e0; simp_all [calledM]; done) | (by_cases e0 : calledM s = ⟨[2, 1], 2⟩; exact K.fin (V.one (V.cellN Tryz.isAgg78 Tryz.sizeOf78)) ⟨by rw [e0]; rfl, rfl⟩; exfalso; apply e0; simp_all [calledM]; done) | (by_cases e0 : calledM s = ⟨[-2], 3⟩; exact K.fin (V.one (V.cellN Tryz.isAgg78 Tryz.sizeOf78)) ⟨by rw [e0]; rfl, rfl⟩; exfalso; apply e0; simp_all [calledM]; done) | (by_cases e0 : calledM s = ⟨[-1, -1], -1⟩; exact K.fin (V.one (V.cellN Tryz.isAgg78 Tryz.sizeOf78)) ⟨by rw [e0]; rfl, rfl⟩; exfalso; apply e0; simp_all [calledM]; done) | (by_cases e0 : calledM s = ⟨[3, -1, -1], -1⟩; exact K.fin (V.one (V.cellN Tryz.isAgg78 Tryz.sizeOf78)) ⟨by rw [e0]; rfl, rfl⟩; exfalso; apply e0; simp_all [calledM]; done)
  · skip
    refine AW.region ?_
    refine R.seql ?_
    refine R.assign ?_
    refine R.fin [2, 3, 4] ?_
    refine K.thN ?_
    refine W.cond (fun ht4 => ?_) (fun ht4 => ?_)
    · skip
      refine AW.seqR ?_
      refine R.buildSlice Tryz.underlying76 Tryz.sizeOf3 Tryz.zeroValue3 ?_
      refine R.build (places := #[(0, 1), (1, 1)]) Tryz.underlying78 (fun w => by simp) Tryz.zeroValue78 ?_
      refine R.storeOwn Tryz.sizeOf78 ?_
      refine R.fin [2] ?_
      refine AW.ret ?_
      refine K.blR ?_
      refine K.thR ?_
      first | (by_cases e0 : calledM s = ⟨[2], 1⟩; exact K.fin (V.one (V.cellN Tryz.isAgg78 Tryz.sizeOf78)) ⟨by rw [e0]; rfl, rfl⟩; exfalso; apply e0; simp_all [calledM]; done) | (by_cases e0 : calledM s = ⟨[1], 2⟩; exact K.fin (V.one (V.cellN Tryz.isAgg78 Tryz.sizeOf78)) ⟨by rw [e0]; rfl, rfl⟩; exfalso; apply e0; simp_all [calledM]; done) | (by_cases e0 : calledM s = ⟨[2, 1], 2⟩; exact K.fin (V.one (V.cellN Tryz.isAgg78 Tryz.sizeOf78)) ⟨by rw [e0]; rfl, rfl⟩; exfalso; apply e0; simp_all [calledM]; done) | (by_cases e0 : calledM s = ⟨[-2], 3⟩; exact K.fin (V.one (V.cellN Tryz.isAgg78 Tryz.sizeOf78)) ⟨by rw [e0]; rfl, rfl⟩; exfalso; apply e0; simp_all [calledM]; done) | (by_cases e0 : calledM s = ⟨[-1, -1], -1⟩; exact K.fin (V.one (V.cellN Tryz.isAgg78 Tryz.sizeOf78)) ⟨by rw [e0]; rfl, rfl⟩; exfalso; apply e0; simp_all [calledM]; done) | (by_cases e0 : calledM s = ⟨[3, -1, -1], -1⟩; exact K.fin (V.one (V.cellN Tryz.isAgg78 Tryz.sizeOf78)) ⟨by rw [e0]; rfl, rfl⟩; exfalso; apply e0; simp_all [calledM]; done)
    · skip
      refine AW.seqR ?_
      refine R.seql ?_
      refine R.assign ?_
      refine R.fin [2, 3, 9] ?_
      refine W.cond (fun ht9 => ?_) (fun ht9 => ?_)
      · skip
        refine AW.seqR ?_
        refine R.buildSlice Tryz.underlying76 Tryz.sizeOf3 Tryz.zeroValue3 ?_
        refine R.build (places := #[(0, 1), (1, 1)]) Tryz.underlying78 (fun w => by simp) Tryz.zeroValue78 ?_
        refine R.storeOwn Tryz.sizeOf78 ?_
        refine R.fin [2] ?_
        refine AW.ret ?_
        refine K.blR ?_
        refine K.thR ?_
        first | (by_cases e0 : calledM s = ⟨[2], 1⟩; exact K.fin (V.one (V.cellN Tryz.isAgg78 Tryz.sizeOf78)) ⟨by rw [e0]; rfl, rfl⟩; exfalso; apply e0; simp_all [calledM]; done) | (by_cases e0 : calledM s = ⟨[1], 2⟩; exact K.fin (V.one (V.cellN Tryz.isAgg78 Tryz.sizeOf78)) ⟨by rw [e0]; rfl, rfl⟩; exfalso; apply e0; simp_all [calledM]; done) | (by_cases e0 : calledM s = ⟨[2, 1], 2⟩; exact K.fin (V.one (V.cellN Tryz.isAgg78 Tryz.sizeOf78)) ⟨by rw [e0]; rfl, rfl⟩; exfalso; apply e0; simp_all [calledM]; done) | (by_cases e0 : calledM s = ⟨[-2], 3⟩; exact K.fin (V.one (V.cellN Tryz.isAgg78 Tryz.sizeOf78)) ⟨by rw [e0]; rfl, rfl⟩; exfalso; apply e0; simp_all [calledM]; done) | (by_cases e0 : calledM s = ⟨[-1, -1], -1⟩; exact K.fin (V.one (V.cellN Tryz.isAgg78 Tryz.sizeOf78)) ⟨by rw [e0]; rfl, rfl⟩; exfalso; apply e0; simp_all [calledM]; done) | (by_cases e0 : calledM s = ⟨[3, -1, -1], -1⟩; exact K.fin (V.one (V.cellN Tryz.isAgg78 Tryz.sizeOf78)) ⟨by rw [e0]; rfl, rfl⟩; exfalso; apply e0; simp_all [calledM]; done)
      · skip
        refine W.seq ?_
        refine AW.seqR ?_
        refine R.seql ?_
        refine R.assign ?_
        refine R.fin [2, 3, 13] ?_
        refine W.cond (fun ht13 => ?_) (fun ht13 => ?_)
        · skip
          refine AW.skip ?_
          refine K.thN ?_
          refine W.cond (fun ht13 => ?_) (fun ht13 => ?_)
          · skip
            refine AW.seqR ?_
            refine R.buildSlice Tryz.underlying76 Tryz.sizeOf3 Tryz.zeroValue3 ?_
            refine R.build (places := #[(0, 1), (1, 1)]) Tryz.underlying78 (fun w => by simp) Tryz.zeroValue78 ?_
            refine R.storeOwn Tryz.sizeOf78 ?_
            refine R.fin [2] ?_
            refine AW.ret ?_
            refine K.blR ?_
            refine K.thR ?_
            first | (by_cases e0 : calledM s = ⟨[2], 1⟩; exact K.fin (V.one (V.cellN Tryz.isAgg78 Tryz.sizeOf78)) ⟨by rw [e0]; rfl, rfl⟩; exfalso; apply e0; simp_all [calledM]; done) | (by_cases e0 : calledM s = ⟨[1], 2⟩; exact K.fin (V.one (V.cellN Tryz.isAgg78 Tryz.sizeOf78)) ⟨by rw [e0]; rfl, rfl⟩; exfalso; apply e0; simp_all [calledM]; done) | (by_cases e0 : calledM s = ⟨[2, 1], 2⟩; exact K.fin (V.one (V.cellN Tryz.isAgg78 Tryz.sizeOf78)) ⟨by rw [e0]; rfl, rfl⟩; exfalso; apply e0; simp_all [calledM]; done) | (by_cases e0 : calledM s = ⟨[-2], 3⟩; exact K.fin (V.one (V.cellN Tryz.isAgg78 Tryz.sizeOf78)) ⟨by rw [e0]; rfl, rfl⟩; exfalso; apply e0; simp_all [calledM]; done) | (by_cases e0 : calledM s = ⟨[-1, -1], -1⟩; exact K.fin (V.one (V.cellN Tryz.isAgg78 Tryz.sizeOf78)) ⟨by rw [e0]; rfl, rfl⟩; exfalso; apply e0; simp_all [calledM]; done) | (by_cases e0 : calledM s = ⟨[3, -1, -1], -1⟩; exact K.fin (V.one (V.cellN Tryz.isAgg78 Tryz.sizeOf78)) ⟨by rw [e0]; rfl, rfl⟩; exfalso; apply e0; simp_all [calledM]; done)
          · skip
            refine AW.seqR ?_
            refine R.seql ?_
            refine R.assign ?_
            refine R.fin [2, 3, 18] ?_
            refine W.cond (fun ht18 => ?_) (fun ht18 => ?_)
            · skip
              refine AW.seqR ?_
              refine R.buildSlice Tryz.underlying76 Tryz.sizeOf3 Tryz.zeroValue3 ?_
              refine R.build (places := #[(0, 1), (1, 1)]) Tryz.underlying78 (fun w => by simp) Tryz.zeroValue78 ?_
              refine R.storeOwn Tryz.sizeOf78 ?_
              refine R.fin [2] ?_
              refine AW.ret ?_
              refine K.blR ?_
              refine K.thR ?_
              first | (by_cases e0 : calledM s = ⟨[2], 1⟩; exact K.fin (V.one (V.cellN Tryz.isAgg78 Tryz.sizeOf78)) ⟨by rw [e0]; rfl, rfl⟩; exfalso; apply e0; simp_all [calledM]; done) | (by_cases e0 : calledM s = ⟨[1], 2⟩; exact K.fin (V.one (V.cellN Tryz.isAgg78 Tryz.sizeOf78)) ⟨by rw [e0]; rfl, rfl⟩; exfalso; apply e0; simp_all [calledM]; done) | (by_cases e0 : calledM s = ⟨[2, 1], 2⟩; exact K.fin (V.one (V.cellN Tryz.isAgg78 Tryz.sizeOf78)) ⟨by rw [e0]; rfl, rfl⟩; exfalso; apply e0; simp_all [calledM]; done) | (by_cases e0 : calledM s = ⟨[-2], 3⟩; exact K.fin (V.one (V.cellN Tryz.isAgg78 Tryz.sizeOf78)) ⟨by rw [e0]; rfl, rfl⟩; exfalso; apply e0; simp_all [calledM]; done) | (by_cases e0 : calledM s = ⟨[-1, -1], -1⟩; exact K.fin (V.one (V.cellN Tryz.isAgg78 Tryz.sizeOf78)) ⟨by rw [e0]; rfl, rfl⟩; exfalso; apply e0; simp_all [calledM]; done) | (by_cases e0 : calledM s = ⟨[3, -1, -1], -1⟩; exact K.fin (V.one (V.cellN Tryz.isAgg78 Tryz.sizeOf78)) ⟨by rw [e0]; rfl, rfl⟩; exfalso; apply e0; simp_all [calledM]; done)
            · skip
              refine AW.seqR ?_
              refine R.seql ?_
              refine R.assign ?_
              refine R.fin [2, 22] ?_
              refine W.cond (fun ht22 => ?_) (fun ht22 => ?_)
              · skip
                refine AW.seqR ?_
                refine R.buildSlice Tryz.underlying76 Tryz.sizeOf3 Tryz.zeroValue3 ?_
                refine R.build (places := #[(0, 1), (1, 1)]) Tryz.underlying78 (fun w => by simp) Tryz.zeroValue78 ?_
                refine R.storeOwn Tryz.sizeOf78 ?_
                refine R.fin [2] ?_
                refine AW.ret ?_
                refine K.blR ?_
                refine K.thR ?_
                first | (by_cases e0 : calledM s = ⟨[2], 1⟩; exact K.fin (V.one (V.cellN Tryz.isAgg78 Tryz.sizeOf78)) ⟨by rw [e0]; rfl, rfl⟩; exfalso; apply e0; simp_all [calledM]; done) | (by_cases e0 : calledM s = ⟨[1], 2⟩; exact K.fin (V.one (V.cellN Tryz.isAgg78 Tryz.sizeOf78)) ⟨by rw [e0]; rfl, rfl⟩; exfalso; apply e0; simp_all [calledM]; done) | (by_cases e0 : calledM s = ⟨[2, 1], 2⟩; exact K.fin (V.one (V.cellN Tryz.isAgg78 Tryz.sizeOf78)) ⟨by rw [e0]; rfl, rfl⟩; exfalso; apply e0; simp_all [calledM]; done) | (by_cases e0 : calledM s = ⟨[-2], 3⟩; exact K.fin (V.one (V.cellN Tryz.isAgg78 Tryz.sizeOf78)) ⟨by rw [e0]; rfl, rfl⟩; exfalso; apply e0; simp_all [calledM]; done) | (by_cases e0 : calledM s = ⟨[-1, -1], -1⟩; exact K.fin (V.one (V.cellN Tryz.isAgg78 Tryz.sizeOf78)) ⟨by rw [e0]; rfl, rfl⟩; exfalso; apply e0; simp_all [calledM]; done) | (by_cases e0 : calledM s = ⟨[3, -1, -1], -1⟩; exact K.fin (V.one (V.cellN Tryz.isAgg78 Tryz.sizeOf78)) ⟨by rw [e0]; rfl, rfl⟩; exfalso; apply e0; simp_all [calledM]; done)
              · skip
                refine AW.skip ?_
                refine K.blN ?_
                refine K.thN ?_
                refine AW.seqR ?_
                refine R.buildSlice Tryz.underlying76 Tryz.sizeOf3 Tryz.zeroValue3 ?_
                refine R.build (places := #[(0, 1), (1, 1)]) Tryz.underlying78 (fun w => by simp) Tryz.zeroValue78 ?_
                refine R.storeOwn Tryz.sizeOf78 ?_
                refine R.fin [2] ?_
                refine AW.ret ?_
                first | (by_cases e0 : calledM s = ⟨[2], 1⟩; exact K.fin (V.one (V.cellN Tryz.isAgg78 Tryz.sizeOf78)) ⟨by rw [e0]; rfl, rfl⟩; exfalso; apply e0; simp_all [calledM]; done) | (by_cases e0 : calledM s = ⟨[1], 2⟩; exact K.fin (V.one (V.cellN Tryz.isAgg78 Tryz.sizeOf78)) ⟨by rw [e0]; rfl, rfl⟩; exfalso; apply e0; simp_all [calledM]; done) | (by_cases e0 : calledM s = ⟨[2, 1], 2⟩; exact K.fin (V.one (V.cellN Tryz.isAgg78 Tryz.sizeOf78)) ⟨by rw [e0]; rfl, rfl⟩; exfalso; apply e0; simp_all [calledM]; done) | (by_cases e0 : calledM s = ⟨[-2], 3⟩; exact K.fin (V.one (V.cellN Tryz.isAgg78 Tryz.sizeOf78)) ⟨by rw [e0]; rfl, rfl⟩; exfalso; apply e0; simp_all [calledM]; done) | (by_cases e0 : calledM s = ⟨[-1, -1], -1⟩; exact K.fin (V.one (V.cellN Tryz.isAgg78 Tryz.sizeOf78)) ⟨by rw [e0]; rfl, rfl⟩; exfalso; apply e0; simp_all [calledM]; done) | (by_cases e0 : calledM s = ⟨[3, -1, -1], -1⟩; exact K.fin (V.one (V.cellN Tryz.isAgg78 Tryz.sizeOf78)) ⟨by rw [e0]; rfl, rfl⟩; exfalso; apply e0; simp_all [calledM]; done)
        · skip
          refine AW.region ?_
          refine R.seql ?_
          refine R.assign ?_
          refine R.fin [2, 3, 13] ?_
          refine K.thN ?_
          refine W.cond (fun ht13 => ?_) (fun ht13 => ?_)
          · skip
            refine AW.seqR ?_
            refine R.buildSlice Tryz.underlying76 Tryz.sizeOf3 Tryz.zeroValue3 ?_
            refine R.build (places := #[(0, 1), (1, 1)]) Tryz.underlying78 (fun w => by simp) Tryz.zeroValue78 ?_
            refine R.storeOwn Tryz.sizeOf78 ?_
            refine R.fin [2] ?_
            refine AW.ret ?_
            refine K.blR ?_
            refine K.thR ?_
            first | (by_cases e0 : calledM s = ⟨[2], 1⟩; exact K.fin (V.one (V.cellN Tryz.isAgg78 Tryz.sizeOf78)) ⟨by rw [e0]; rfl, rfl⟩; exfalso; apply e0; simp_all [calledM]; done) | (by_cases e0 : calledM s = ⟨[1], 2⟩; exact K.fin (V.one (V.cellN Tryz.isAgg78 Tryz.sizeOf78)) ⟨by rw [e0]; rfl, rfl⟩; exfalso; apply e0; simp_all [calledM]; done) | (by_cases e0 : calledM s = ⟨[2, 1], 2⟩; exact K.fin (V.one (V.cellN Tryz.isAgg78 Tryz.sizeOf78)) ⟨by rw [e0]; rfl, rfl⟩; exfalso; apply e0; simp_all [calledM]; done) | (by_cases e0 : calledM s = ⟨[-2], 3⟩; exact K.fin (V.one (V.cellN Tryz.isAgg78 Tryz.sizeOf78)) ⟨by rw [e0]; rfl, rfl⟩; exfalso; apply e0; simp_all [calledM]; done) | (by_cases e0 : calledM s = ⟨[-1, -1], -1⟩; exact K.fin (V.one (V.cellN Tryz.isAgg78 Tryz.sizeOf78)) ⟨by rw [e0]; rfl, rfl⟩; exfalso; apply e0; simp_all [calledM]; done) | (by_cases e0 : calledM s = ⟨[3, -1, -1], -1⟩; exact K.fin (V.one (V.cellN Tryz.isAgg78 Tryz.sizeOf78)) ⟨by rw [e0]; rfl, rfl⟩; exfalso; apply e0; simp_all [calledM]; done)
          · skip
            refine AW.seqR ?_
            refine R.seql ?_
            refine R.assign ?_
            refine R.fin [2, 3, 18] ?_
            refine W.cond (fun ht18 => ?_) (fun ht18 => ?_)
            · skip
              refine AW.seqR ?_
              refine R.buildSlice Tryz.underlying76 Tryz.sizeOf3 Tryz.zeroValue3 ?_
              refine R.build (places := #[(0, 1), (1, 1)]) Tryz.underlying78 (fun w => by simp) Tryz.zeroValue78 ?_
              refine R.storeOwn Tryz.sizeOf78 ?_
              refine R.fin [2] ?_
              refine AW.ret ?_
              refine K.blR ?_
              refine K.thR ?_
              first | (by_cases e0 : calledM s = ⟨[2], 1⟩; exact K.fin (V.one (V.cellN Tryz.isAgg78 Tryz.sizeOf78)) ⟨by rw [e0]; rfl, rfl⟩; exfalso; apply e0; simp_all [calledM]; done) | (by_cases e0 : calledM s = ⟨[1], 2⟩; exact K.fin (V.one (V.cellN Tryz.isAgg78 Tryz.sizeOf78)) ⟨by rw [e0]; rfl, rfl⟩; exfalso; apply e0; simp_all [calledM]; done) | (by_cases e0 : calledM s = ⟨[2, 1], 2⟩; exact K.fin (V.one (V.cellN Tryz.isAgg78 Tryz.sizeOf78)) ⟨by rw [e0]; rfl, rfl⟩; exfalso; apply e0; simp_all [calledM]; done) | (by_cases e0 : calledM s = ⟨[-2], 3⟩; exact K.fin (V.one (V.cellN Tryz.isAgg78 Tryz.sizeOf78)) ⟨by rw [e0]; rfl, rfl⟩; exfalso; apply e0; simp_all [calledM]; done) | (by_cases e0 : calledM s = ⟨[-1, -1], -1⟩; exact K.fin (V.one (V.cellN Tryz.isAgg78 Tryz.sizeOf78)) ⟨by rw [e0]; rfl, rfl⟩; exfalso; apply e0; simp_all [calledM]; done) | (by_cases e0 : calledM s = ⟨[3, -1, -1], -1⟩; exact K.fin (V.one (V.cellN Tryz.isAgg78 Tryz.sizeOf78)) ⟨by rw [e0]; rfl, rfl⟩; exfalso; apply e0; simp_all [calledM]; done)
            · skip
              refine AW.seqR ?_
              refine R.seql ?_
              refine R.assign ?_
              refine R.fin [2, 22] ?_
              refine W.cond (fun ht22 => ?_) (fun ht22 => ?_)
              · skip
                refine AW.seqR ?_
                refine R.buildSlice Tryz.underlying76 Tryz.sizeOf3 Tryz.zeroValue3 ?_
                refine R.build (places := #[(0, 1), (1, 1)]) Tryz.underlying78 (fun w => by simp) Tryz.zeroValue78 ?_
                refine R.storeOwn Tryz.sizeOf78 ?_
                refine R.fin [2] ?_
                refine AW.ret ?_
                refine K.blR ?_
                refine K.thR ?_
                first | (by_cases e0 : calledM s = ⟨[2], 1⟩; exact K.fin (V.one (V.cellN Tryz.isAgg78 Tryz.sizeOf78)) ⟨by rw [e0]; rfl, rfl⟩; exfalso; apply e0; simp_all [calledM]; done) | (by_cases e0 : calledM s = ⟨[1], 2⟩; exact K.fin (V.one (V.cellN Tryz.isAgg78 Tryz.sizeOf78)) ⟨by rw [e0]; rfl, rfl⟩; exfalso; apply e0; simp_all [calledM]; done) | (by_cases e0 : calledM s = ⟨[2, 1], 2⟩; exact K.fin (V.one (V.cellN Tryz.isAgg78 Tryz.sizeOf78)) ⟨by rw [e0]; rfl, rfl⟩; exfalso; apply e0; simp_all [calledM]; done) | (by_cases e0 : calledM s = ⟨[-2], 3⟩; exact K.fin (V.one (V.cellN Tryz.isAgg78 Tryz.sizeOf78)) ⟨by rw [e0]; rfl, rfl⟩; exfalso; apply e0; simp_all [calledM]; done) | (by_cases e0 : calledM s = ⟨[-1, -1], -1⟩; exact K.fin (V.one (V.cellN Tryz.isAgg78 Tryz.sizeOf78)) ⟨by rw [e0]; rfl, rfl⟩; exfalso; apply e0; simp_all [calledM]; done) | (by_cases e0 : calledM s = ⟨[3, -1, -1], -1⟩; exact K.fin (V.one (V.cellN Tryz.isAgg78 Tryz.sizeOf78)) ⟨by rw [e0]; rfl, rfl⟩; exfalso; apply e0; simp_all [calledM]; done)
              · skip
                refine AW.skip ?_
                refine K.blN ?_
                refine K.thN ?_
                refine AW.seqR ?_
                refine R.buildSlice Tryz.underlying76 Tryz.sizeOf3 Tryz.zeroValue3 ?_
                refine R.build (places := #[(0, 1), (1, 1)]) Tryz.underlying78 (fun w => by simp) Tryz.zeroValue78 ?_
                refine R.storeOwn Tryz.sizeOf78 ?_
                refine R.fin [2] ?_
                refine AW.ret ?_
                first | (by_cases e0 : calledM s = ⟨[2], 1⟩; exact K.fin (V.one (V.cellN Tryz.isAgg78 Tryz.sizeOf78)) ⟨by rw [e0]; rfl, rfl⟩; exfalso; apply e0; simp_all [calledM]; done) | (by_cases e0 : calledM s = ⟨[1], 2⟩; exact K.fin (V.one (V.cellN Tryz.isAgg78 Tryz.sizeOf78)) ⟨by rw [e0]; rfl, rfl⟩; exfalso; apply e0; simp_all [calledM]; done) | (by_cases e0 : calledM s = ⟨[2, 1], 2⟩; exact K.fin (V.one (V.cellN Tryz.isAgg78 Tryz.sizeOf78)) ⟨by rw [e0]; rfl, rfl⟩; exfalso; apply e0; simp_all [calledM]; done) | (by_cases e0 : calledM s = ⟨[-2], 3⟩; exact K.fin (V.one (V.cellN Tryz.isAgg78 Tryz.sizeOf78)) ⟨by rw [e0]; rfl, rfl⟩; exfalso; apply e0; simp_all [calledM]; done) | (by_cases e0 : calledM s = ⟨[-1, -1], -1⟩; exact K.fin (V.one (V.cellN Tryz.isAgg78 Tryz.sizeOf78)) ⟨by rw [e0]; rfl, rfl⟩; exfalso; apply e0; simp_all [calledM]; done) | (by_cases e0 : calledM s = ⟨[3, -1, -1], -1⟩; exact K.fin (V.one (V.cellN Tryz.isAgg78 Tryz.sizeOf78)) ⟨by rw [e0]; rfl, rfl⟩; exfalso; apply e0; simp_all [calledM]; done)

theorem c42 (e : Expr) (Hp : List AObj) : AFun Tryz.prog 42 [exprA e] Hp (signA (signN e.op e.text)) := by
  refine ACall.body [.cell 2 78] [0] Tryz.func42 Tryz.ntmps42 (fun d => ?_)
  refine AW.seqR ?_
  refine R.boxRo ?_
  refine R.alloc Tryz.zeroValue78 ?_
  refine R.fin [1, 2] ?_
  refine W.seq ?_
  refine AW.seqR ?_
  refine R.fieldAddrRo (off := 0) Tryz.underlying35 Tryz.sizeOf3 ?_
  refine R.loadRo Tryz.isAgg3 ?_
  refine R.fin [1, 2, 4] ?_
  refine AW.block ?_
  refine AW.seqR ?_
  refine R.eql ?_
  refine R.assign ?_
  refine R.fin [1, 2, 4, 5] ?_
  refine W.cond (fun ht5 => ?_) (fun ht5 => ?_)
  · skip
    refine AW.seqR ?_
    refine R.buildSlice Tryz.underlying76 Tryz.sizeOf3 Tryz.zeroValue3 ?_
    refine R.build (places := #[(0, 1), (1, 1)]) Tryz.underlying78 (fun w => by simp) Tryz.zeroValue78 ?_
    refine R.storeOwn Tryz.sizeOf78 ?_
    refine R.fin [2] ?_
    refine AW.ret ?_
    refine K.blR ?_
    refine K.thR ?_
    first | (by_cases e0 : signN e.op e.text = ⟨[1], 1⟩; exact K.fin (V.one (V.cellN Tryz.isAgg78 Tryz.sizeOf78)) ⟨by rw [e0]; rfl, rfl⟩; exfalso; apply e0; simp_all [signN]; done) | (by_cases e0 : signN e.op e.text = ⟨[3], 3⟩; exact K.fin (V.one (V.cellN Tryz.isAgg78 Tryz.sizeOf78)) ⟨by rw [e0]; rfl, rfl⟩; exfalso; apply e0; simp_all [signN]; done) | (by_cases e0 : signN e.op e.text = markedM e.text; exact K.fin (V.one (V.cellN Tryz.isAgg78 Tryz.sizeOf78)) ⟨by rw [e0], rfl⟩ (hlow := low_sign _); exfalso; apply e0; simp_all [signN]; done) | (by_cases e0 : signN e.op e.text = calledM e.text; exact K.fin (V.one (V.cellN Tryz.isAgg78 Tryz.sizeOf78)) ⟨by rw [e0], rfl⟩ (hlow := low_sign _); exfalso; apply e0; simp_all [signN]; done)
  · skip
    refine AW.seqR ?_
    refine R.eql ?_
    refine R.assign ?_
    refine R.fin [1, 2, 4, 9] ?_
    refine W.cond (fun ht9 => ?_) (fun ht9 => ?_)
    · skip
      refine AW.seqR ?_
      refine R.buildSlice Tryz.underlying76 Tryz.sizeOf3 Tryz.zeroValue3 ?_
      refine R.build (places := #[(0, 1), (1, 1)]) Tryz.underlying78 (fun w => by simp) Tryz.zeroValue78 ?_
      refine R.storeOwn Tryz.sizeOf78 ?_
      refine R.fin [2] ?_
      refine AW.ret ?_
      refine K.blR ?_
      refine K.thR ?_
      first | (by_cases e0 : signN e.op e.text = ⟨[1], 1⟩; exact K.fin (V.one (V.cellN Tryz.isAgg78 Tryz.sizeOf78)) ⟨by rw [e0]; rfl, rfl⟩; exfalso; apply e0; simp_all [signN]; done) | (by_cases e0 : signN e.op e.text = ⟨[3], 3⟩; exact K.fin (V.one (V.cellN Tryz.isAgg78 Tryz.sizeOf78)) ⟨by rw [e0]; rfl, rfl⟩; exfalso; apply e0; simp_all [signN]; done) | (by_cases e0 : signN e.op e.text = markedM e.text; exact K.fin (V.one (V.cellN Tryz.isAgg78 Tryz.sizeOf78)) ⟨by rw [e0], rfl⟩ (hlow := low_sign _); exfalso; apply e0; simp_all [signN]; done) | (by_cases e0 : signN e.op e.text = calledM e.text; exact K.fin (V.one (V.cellN Tryz.isAgg78 Tryz.sizeOf78)) ⟨by rw [e0], rfl⟩ (hlow := low_sign _); exfalso; apply e0; simp_all [signN]; done)
    · skip
      refine AW.seqR ?_
      refine R.eql ?_
      refine R.assign ?_
      refine R.fin [1, 2, 13] ?_
      refine W.cond (fun ht13 => ?_) (fun ht13 => ?_)
      · skip
        refine AW.seqR ?_
        refine R.fieldAddrRo (off := 1) Tryz.underlying35 Tryz.sizeOf9 ?_
        refine R.loadRo Tryz.isAgg9 ?_
        refine R.call Tryz.call63 (c63 e.text _) ?_
        refine R.storeOwn Tryz.sizeOf78 ?_
        refine R.fin [2] ?_
        refine AW.ret ?_
        refine K.blR ?_
        refine K.thR ?_
        first | (by_cases e0 : signN e.op e.text = ⟨[1], 1⟩; exact K.fin (V.one (V.cellN Tryz.isAgg78 Tryz.sizeOf78)) ⟨by rw [e0]; rfl, rfl⟩; exfalso; apply e0; simp_all [signN]; done) | (by_cases e0 : signN e.op e.text = ⟨[3], 3⟩; exact K.fin (V.one (V.cellN Tryz.isAgg78 Tryz.sizeOf78)) ⟨by rw [e0]; rfl, rfl⟩; exfalso; apply e0; simp_all [signN]; done) | (by_cases e0 : signN e.op e.text = markedM e.text; exact K.fin (V.one (V.cellN Tryz.isAgg78 Tryz.sizeOf78)) ⟨by rw [e0], rfl⟩ (hlow := low_sign _); exfalso; apply e0; simp_all [signN]; done) | (by_cases e0 : signN e.op e.text = calledM e.text; exact K.fin (V.one (V.cellN Tryz.isAgg78 Tryz.sizeOf78)) ⟨by rw [e0], rfl⟩ (hlow := low_sign _); exfalso; apply e0; simp_all [signN]; done)
      · skip
        refine AW.skip ?_
        refine K.blN ?_
        refine K.thN ?_
        refine AW.seqR ?_
        refine R.fieldAddrRo (off := 1) Tryz.underlying35 Tryz.sizeOf9 ?_
        refine R.loadRo Tryz.isAgg9 ?_
        refine R.call Tryz.call64 (c64 e.text _) ?_
        refine R.storeOwn Tryz.sizeOf78 ?_
        refine R.fin [2] ?_
        refine AW.ret ?_
        first | (by_cases e0 : signN e.op e.text = ⟨[1], 1⟩; exact K.fin (V.one (V.cellN Tryz.isAgg78 Tryz.sizeOf78)) ⟨by rw [e0]; rfl, rfl⟩; exfalso; apply e0; simp_all [signN]; done) | (by_cases e0 : signN e.op e.text = ⟨[3], 3⟩; exact K.fin (V.one (V.cellN Tryz.isAgg78 Tryz.sizeOf78)) ⟨by rw [e0]; rfl, rfl⟩; exfalso; apply e0; simp_all [signN]; done) | (by_cases e0 : signN e.op e.text = markedM e.text; exact K.fin (V.one (V.cellN Tryz.isAgg78 Tryz.sizeOf78)) ⟨by rw [e0], rfl⟩ (hlow := low_sign _); exfalso; apply e0; simp_all [signN]; done) | (by_cases e0 : signN e.op e.text = calledM e.text; exact K.fin (V.one (V.cellN Tryz.isAgg78 Tryz.sizeOf78)) ⟨by rw [e0], rfl⟩ (hlow := low_sign _); exfalso; apply e0; simp_all [signN]; done)

theorem c65 (a b : Int) (Hp : List AObj) : AFun Tryz.prog 65 [intA a, intA b] Hp (.tup [intA (meetM a b).1, boolA (meetM a b).2]) := by
  refine ACall.body [.tmp 4, .tmp 5] [0, 1] Tryz.func65 Tryz.ntmps65 (fun d => ?_)
  refine AW.seqR ?_
  refine R.assign ?_
  refine R.assign ?_
  refine R.fin [0, 1] ?_
  refine W.seq ?_
  refine AW.block ?_
  refine AW.seqR ?_
  refine R.move ?_
  refine R.eql ?_
  refine R.assign ?_
  refine R.fin [0, 1, 6] ?_
  refine W.cond (fun ht6 => ?_) (fun ht6 => ?_)
  · skip
    refine AW.seqR ?_
    refine R.move ?_
    refine R.assign ?_
    refine R.assign ?_
    refine R.fin [4, 5] ?_
    refine AW.ret ?_
    refine K.blR ?_
    refine K.thR ?_
    first | (by_cases e0 : meetM a b = (b, true); exact K.fin (V.two V.tmp V.tmp) ⟨by rw [e0], rfl⟩; exfalso; apply e0; simp_all [meetM]; done) | (by_cases e0 : meetM a b = (a, true); exact K.fin (V.two V.tmp V.tmp) ⟨by rw [e0], rfl⟩; exfalso; apply e0; simp_all [meetM]; done) | (by_cases e0 : meetM a b = (0, false); exact K.fin (V.two V.tmp V.tmp) ⟨by rw [e0], rfl⟩; exfalso; apply e0; simp_all [meetM]; done)
  · skip
    refine AW.seqR ?_
    refine R.move ?_
    refine R.eql ?_
    refine R.move ?_
    refine G.move ?_
    refine G.move ?_
    refine G.eql ?_
    refine R.pickOr ?_
    refine R.assign ?_
    refine R.fin [0, 10] ?_
    refine W.cond (fun ht10 => ?_) (fun ht10 => ?_)
    · skip
      refine AW.seqR ?_
      refine R.move ?_
      refine R.assign ?_
      refine R.assign ?_
      refine R.fin [4, 5] ?_
      refine AW.ret ?_
      refine K.blR ?_
      refine K.thR ?_
      first | (by_cases e0 : meetM a b = (b, true); exact K.fin (V.two V.tmp V.tmp) ⟨by rw [e0], rfl⟩; exfalso; apply e0; simp_all [meetM]; done) | (by_cases e0 : meetM a b = (a, true); exact K.fin (V.two V.tmp V.tmp) ⟨by rw [e0], rfl⟩; exfalso; apply e0; simp_all [meetM]; done) | (by_cases e0 : meetM a b = (0, false); exact K.fin (V.two V.tmp V.tmp) ⟨by rw [e0], rfl⟩; exfalso; apply e0; simp_all [meetM]; done)
    · skip
      refine AW.skip ?_
      refine K.blN ?_
      refine K.thN ?_
      refine AW.seqR ?_
      refine R.assign ?_
      refine R.assign ?_
      refine R.fin [4, 5] ?_
      refine AW.ret ?_
      first | (by_cases e0 : meetM a b = (b, true); exact K.fin (V.two V.tmp V.tmp) ⟨by rw [e0], rfl⟩; exfalso; apply e0; simp_all [meetM]; done) | (by_cases e0 : meetM a b = (a, true); exact K.fin (V.two V.tmp V.tmp) ⟨by rw [e0], rfl⟩; exfalso; apply e0; simp_all [meetM]; done) | (by_cases e0 : meetM a b = (0, false); exact K.fin (V.two V.tmp V.tmp) ⟨by rw [e0], rfl⟩; exfalso; apply e0; simp_all [meetM]; done)

structure FitAt (s : Sign) (ks : List Int) (x : Nat × Int) : Prop where
  le : x.1 ≤ ks.length
  eq : fitK s.kids ks 0 = fitK (s.kids.drop x.1) (ks.drop x.1) x.2
theorem FitAt.step {s : Sign} {ks : List Int} {x : Nat × Int} (h : FitAt s ks x) (hk : x.1 < ks.length) (hs : x.1 < s.kids.length) : fitK s.kids ks 0 = (if s.kids[x.1] == -2 then fitK (s.kids.drop (x.1 + 1)) (ks.drop (x.1 + 1)) x.2 else if s.kids[x.1] == -1 then (if (meetM x.2 ks[x.1]).2 then fitK (s.kids.drop (x.1 + 1)) (ks.drop (x.1 + 1)) (meetM x.2 ks[x.1]).1 else none) else if (meetM s.kids[x.1] ks[x.1]).2 then fitK (s.kids.drop (x.1 + 1)) (ks.drop (x.1 + 1)) x.2 else none) := by
  rw [h.eq, List.drop_eq_getElem_cons hk, List.drop_eq_getElem_cons hs, fitK]
theorem FitAt.skip {s : Sign} {ks : List Int} {x : Nat × Int} (h : FitAt s ks x) (hk : x.1 < ks.length) (hs : x.1 < s.kids.length) (h2 : (s.kids[x.1] == -2) = true) : FitAt s ks (x.1 + 1, x.2) := ⟨hk, by rw [h.step hk hs, if_pos h2]⟩
theorem FitAt.same {s : Sign} {ks : List Int} {x : Nat × Int} (h : FitAt s ks x) (hk : x.1 < ks.length) (hs : x.1 < s.kids.length) (h2 : (s.kids[x.1] == -2) = false) (h1 : (s.kids[x.1] == -1) = true) (hm : (meetM x.2 ks[x.1]).2 = true) : FitAt s ks (x.1 + 1, (meetM x.2 ks[x.1]).1) := ⟨hk, by rw [h.step hk hs, if_neg (by rw [h2]; simp), if_pos h1, if_pos hm]⟩
theorem FitAt.want {s : Sign} {ks : List Int} {x : Nat × Int} (h : FitAt s ks x) (hk : x.1 < ks.length) (hs : x.1 < s.kids.length) (h2 : (s.kids[x.1] == -2) = false) (h1 : (s.kids[x.1] == -1) = false) (hm : (meetM s.kids[x.1] ks[x.1]).2 = true) : FitAt s ks (x.1 + 1, x.2) := ⟨hk, by rw [h.step hk hs, if_neg (by rw [h2]; simp), if_neg (by rw [h1]; simp), if_pos hm]⟩
theorem FitAt.bad {s : Sign} {ks : List Int} {x : Nat × Int} (h : FitAt s ks x) (hk : x.1 < ks.length) (hs : x.1 < s.kids.length) (h2 : (s.kids[x.1] == -2) = false) (hm : (if s.kids[x.1] == -1 then (meetM x.2 ks[x.1]).2 else (meetM s.kids[x.1] ks[x.1]).2) = false) : fitM s ks = (0, 10) := by
  unfold fitM
  rw [h.step hk hs, if_neg (by rw [h2]; simp)]
  split at hm
  · rename_i h1
    rw [if_pos h1, if_neg (by rw [hm]; simp)]
  · rename_i h1
    rw [if_neg h1, if_neg (by rw [hm]; simp)]
theorem FitAt.out {s : Sign} {ks : List Int} {x : Nat × Int} (h : FitAt s ks x) (hk : ks.length ≤ x.1) : fitM s ks = if s.own == -1 then (x.2, 0) else (s.own, 0) := by
  unfold fitM
  rw [h.eq, List.drop_of_length_le hk]
  cases s.kids.drop x.1 <;> rfl
theorem c43 (s : Sign) (ks : List Int) (hks : ks.length ≤ s.kids.length) (hk2 : ks.length ≤ 1048576) (Hp : List AObj) : AFun Tryz.prog 43 [signA s, .slice false 1 (ks.map intA)] Hp (.tup [intA (fitM s ks).1, intA (fitM s ks).2]) := by
  refine ACall.body [.tmp 4, .tmp 5] [0, 1] Tryz.func43 Tryz.ntmps43 (fun d => ?_)
  refine AW.seqR ?_
  refine R.boxRo ?_
  refine R.assign ?_
  refine R.assign ?_
  refine R.fin [1, 2] ?_
  refine AW.seqR ?_
  refine R.alloc Tryz.zeroValue3 ?_
  refine R.storeOwn Tryz.sizeOf3 ?_
  refine R.fin [1, 2, 6] ?_
  refine W.seq ?_
  refine AW.seqR ?_
  refine R.move ?_
  refine R.len Tryz.underlying76 ?_
  refine R.move ?_
  refine R.fin [2, 6, 13, 14, 15] ?_
  refine AW.loopC (α := Nat × Int) (fun x => ⟨49, setF 2 (.ro [.slice false 1 (s.kids.map intA), intA s.own]) (setF 6 (.ptr (oid Hp.length 0) 0) (setF 13 (.slice false 1 (ks.map intA)) (setF 14 (intA (ks.length : Nat)) (setF 15 (intA (x.1 : Nat)) (fun _ => .any))))), Hp, [.cells 3 [intA x.2]], [], none⟩) (fun x => FitAt s ks x) (fun x => ks.length - x.1) ((0, 0)) ⟨Nat.zero_le _, rfl⟩ (StLe.of_eq (by simp)) rfl (fun x hx => ?_)
  refine AW.seqR ?_
  refine R.lss ?_
  refine R.fin [2, 6, 13, 14, 15, 16] ?_
  refine W.condX (fun ht16 => ?_) (fun ht16 => ?_)
  · skip
    have hlt : x.1 < ks.length := by simpa using ht16
    have hls : x.1 < s.kids.length := by omega
    refine W.seq ?_
    refine AW.block ?_
    refine AW.seqR ?_
    refine R.move ?_
    refine R.indexAddr (x.1) (intA ks[x.1]) Tryz.underlying76 Tryz.sizeOf3 (getMap hlt) ?_
    refine R.loadRo Tryz.isAgg3 ?_
    refine R.assign ?_
    refine R.assign ?_
    refine R.fin [2, 6, 7, 8, 13, 14, 15] ?_
    refine AW.seqR ?_
    refine R.fieldAddrRo (off := 0) Tryz.underlying78 Tryz.sizeOf76 ?_
    refine R.loadRo Tryz.isAgg76 ?_
    refine R.move ?_
    refine R.indexAddr (x.1) (intA s.kids[x.1]) Tryz.underlying76 Tryz.sizeOf3 (getMap hls) ?_
    refine R.loadRo Tryz.isAgg3 ?_
    refine R.alloc Tryz.zeroValue3 ?_
    refine R.storeOwn Tryz.sizeOf3 ?_
    refine R.fin [2, 6, 8, 9, 13, 14, 15] ?_
    refine W.seq ?_
    refine AW.seqR ?_
    refine R.loadOwn Tryz.isAgg3 ?_
    refine R.eql ?_
    refine R.fin [2, 6, 8, 9, 13, 14, 15, 26] ?_
    refine W.cond (fun ht26 => ?_) (fun ht26 => ?_)
    · skip
      refine W.keep [2, 6, 13, 14, 15] ?_
      refine AW.exit ?_
      refine K.thE ?_
      refine K.blE ?_
      refine K.thN ?_
      refine AW.region ?_
      refine R.add64 ?_
      refine R.move ?_
      refine R.fin [2, 6, 13, 14, 15] ?_
      first | (refine K.lpN (x.1 + 1, x.2) (hx.skip hlt hls ht26) (by show ks.length - (x.1 + 1) < ks.length - x.1; omega) ?_; exact StCut.take (own := [.cells 3 [intA x.2]]) (fun _ => .refl _) (by repeat (first | exact lowF_any | refine lowF_set (by first | (simp [or_imp, forall_and]; done) | (simp [oid] <;> omega)) ?_)) (by intro y hy; rw [List.mem_singleton.1 hy]; intro z hz; rw [List.mem_singleton.1 hz]; simp) (by simp)) | (refine K.lpN (x.1 + 1, (meetM x.2 ks[x.1]).1) (hx.same hlt hls ht26 ht28 (by simpa using ht38)) (by show ks.length - (x.1 + 1) < ks.length - x.1; omega) ?_; exact StCut.take (own := [.cells 3 [intA (meetM x.2 ks[x.1]).1]]) (fun _ => .refl _) (by repeat (first | exact lowF_any | refine lowF_set (by first | (simp [or_imp, forall_and]; done) | (simp [oid] <;> omega)) ?_)) (by intro y hy; rw [List.mem_singleton.1 hy]; intro z hz; rw [List.mem_singleton.1 hz]; simp) (by simp)) | (refine K.lpN (x.1 + 1, x.2) (hx.want hlt hls ht26 ht28 (by simpa using ht38)) (by show ks.length - (x.1 + 1) < ks.length - x.1; omega) ?_; exact StCut.take (own := [.cells 3 [intA x.2]]) (fun _ => .refl _) (by repeat (first | exact lowF_any | refine lowF_set (by first | (simp [or_imp, forall_and]; done) | (simp [oid] <;> omega)) ?_)) (by intro y hy; rw [List.mem_singleton.1 hy]; intro z hz; rw [List.mem_singleton.1 hz]; simp) (by simp))
    · skip
      refine AW.skip ?_
      refine K.thN ?_
      refine AW.seqR ?_
      refine R.assign ?_
      refine R.fin [2, 6, 8, 9, 10, 13, 14, 15] ?_
      refine W.seq ?_
      refine AW.seqR ?_
      refine R.loadOwn Tryz.isAgg3 ?_
      refine R.eql ?_
      refine R.fin [2, 6, 8, 10, 13, 14, 15, 28] ?_
      refine W.cond (fun ht28 => ?_) (fun ht28 => ?_)
      · skip
        refine AW.region ?_
        refine R.assign ?_
        refine R.fin [2, 6, 8, 10, 13, 14, 15] ?_
        refine K.thN ?_
        refine AW.seqR ?_
        refine R.move ?_
        refine R.nilPtr ?_
        refine R.loadOwn Tryz.isAgg3 ?_
        refine R.move ?_
        refine R.call Tryz.call65 (c65 _ _ _) ?_
        refine R.move ?_
        refine R.extract ?_
        refine R.extract ?_
        refine R.assign ?_
        refine R.assign ?_
        refine R.fin [2, 6, 10, 11, 12, 13, 14, 15] ?_
        refine W.seq ?_
        refine AW.seqR ?_
        refine R.move ?_
        refine R.not ?_
        refine R.fin [2, 6, 10, 11, 13, 14, 15, 38] ?_
        refine W.cond (fun ht38 => ?_) (fun ht38 => ?_)
        · skip
          have hbad := hx.bad hlt hls ht26 (by first | (rw [if_pos ht28]; simpa using ht38) | (rw [if_neg (by rw [ht28]; simp)]; simpa using ht38))
          refine AW.seqR ?_
          refine R.assign ?_
          refine R.assign ?_
          refine R.fin [4, 5] ?_
          refine AW.ret ?_
          refine K.thR ?_
          refine K.blR ?_
          refine K.thR ?_
          refine K.lpR ?_
          refine K.thR ?_
          exact K.fin (V.two V.tmp V.tmp) ⟨by rw [hbad], rfl⟩
        · skip
          refine AW.skip ?_
          refine K.thN ?_
          refine AW.region ?_
          refine R.move ?_
          refine R.move ?_
          refine R.nilPtr ?_
          refine R.storeOwn Tryz.sizeOf3 ?_
          refine R.fin [2, 6, 13, 14, 15] ?_
          refine K.blN ?_
          refine K.thN ?_
          refine AW.region ?_
          refine R.add64 ?_
          refine R.move ?_
          refine R.fin [2, 6, 13, 14, 15] ?_
          first | (refine K.lpN (x.1 + 1, x.2) (hx.skip hlt hls ht26) (by show ks.length - (x.1 + 1) < ks.length - x.1; omega) ?_; exact StCut.take (own := [.cells 3 [intA x.2]]) (fun _ => .refl _) (by repeat (first | exact lowF_any | refine lowF_set (by first | (simp [or_imp, forall_and]; done) | (simp [oid] <;> omega)) ?_)) (by intro y hy; rw [List.mem_singleton.1 hy]; intro z hz; rw [List.mem_singleton.1 hz]; simp) (by simp)) | (refine K.lpN (x.1 + 1, (meetM x.2 ks[x.1]).1) (hx.same hlt hls ht26 ht28 (by simpa using ht38)) (by show ks.length - (x.1 + 1) < ks.length - x.1; omega) ?_; exact StCut.take (own := [.cells 3 [intA (meetM x.2 ks[x.1]).1]]) (fun _ => .refl _) (by repeat (first | exact lowF_any | refine lowF_set (by first | (simp [or_imp, forall_and]; done) | (simp [oid] <;> omega)) ?_)) (by intro y hy; rw [List.mem_singleton.1 hy]; intro z hz; rw [List.mem_singleton.1 hz]; simp) (by simp)) | (refine K.lpN (x.1 + 1, x.2) (hx.want hlt hls ht26 ht28 (by simpa using ht38)) (by show ks.length - (x.1 + 1) < ks.length - x.1; omega) ?_; exact StCut.take (own := [.cells 3 [intA x.2]]) (fun _ => .refl _) (by repeat (first | exact lowF_any | refine lowF_set (by first | (simp [or_imp, forall_and]; done) | (simp [oid] <;> omega)) ?_)) (by intro y hy; rw [List.mem_singleton.1 hy]; intro z hz; rw [List.mem_singleton.1 hz]; simp) (by simp))
      · skip
        refine AW.skip ?_
        refine K.thN ?_
        refine AW.seqR ?_
        refine R.move ?_
        refine R.nilPtr ?_
        refine R.loadOwn Tryz.isAgg3 ?_
        refine R.move ?_
        refine R.call Tryz.call65 (c65 _ _ _) ?_
        refine R.move ?_
        refine R.extract ?_
        refine R.extract ?_
        refine R.assign ?_
        refine R.assign ?_
        refine R.fin [2, 6, 10, 11, 12, 13, 14, 15] ?_
        refine W.seq ?_
        refine AW.seqR ?_
        refine R.move ?_
        refine R.not ?_
        refine R.fin [2, 6, 10, 11, 13, 14, 15, 38] ?_
        refine W.cond (fun ht38 => ?_) (fun ht38 => ?_)
        · skip
          have hbad := hx.bad hlt hls ht26 (by first | (rw [if_pos ht28]; simpa using ht38) | (rw [if_neg (by rw [ht28]; simp)]; simpa using ht38))
          refine AW.seqR ?_
          refine R.assign ?_
          refine R.assign ?_
          refine R.fin [4, 5] ?_
          refine AW.ret ?_
          refine K.thR ?_
          refine K.blR ?_
          refine K.thR ?_
          refine K.lpR ?_
          refine K.thR ?_
          exact K.fin (V.two V.tmp V.tmp) ⟨by rw [hbad], rfl⟩
        · skip
          refine AW.skip ?_
          refine K.thN ?_
          refine AW.region ?_
          refine R.move ?_
          refine R.move ?_
          refine R.nilPtr ?_
          refine R.storeOwn Tryz.sizeOf3 ?_
          refine R.fin [2, 6, 13, 14, 15] ?_
          refine K.blN ?_
          refine K.thN ?_
          refine AW.region ?_
          refine R.add64 ?_
          refine R.move ?_
          refine R.fin [2, 6, 13, 14, 15] ?_
          first | (refine K.lpN (x.1 + 1, x.2) (hx.skip hlt hls ht26) (by show ks.length - (x.1 + 1) < ks.length - x.1; omega) ?_; exact StCut.take (own := [.cells 3 [intA x.2]]) (fun _ => .refl _) (by repeat (first | exact lowF_any | refine lowF_set (by first | (simp [or_imp, forall_and]; done) | (simp [oid] <;> omega)) ?_)) (by intro y hy; rw [List.mem_singleton.1 hy]; intro z hz; rw [List.mem_singleton.1 hz]; simp) (by simp)) | (refine K.lpN (x.1 + 1, (meetM x.2 ks[x.1]).1) (hx.same hlt hls ht26 ht28 (by simpa using ht38)) (by show ks.length - (x.1 + 1) < ks.length - x.1; omega) ?_; exact StCut.take (own := [.cells 3 [intA (meetM x.2 ks[x.1]).1]]) (fun _ => .refl _) (by repeat (first | exact lowF_any | refine lowF_set (by first | (simp [or_imp, forall_and]; done) | (simp [oid] <;> omega)) ?_)) (by intro y hy; rw [List.mem_singleton.1 hy]; intro z hz; rw [List.mem_singleton.1 hz]; simp) (by simp)) | (refine K.lpN (x.1 + 1, x.2) (hx.want hlt hls ht26 ht28 (by simpa using ht38)) (by show ks.length - (x.1 + 1) < ks.length - x.1; omega) ?_; exact StCut.take (own := [.cells 3 [intA x.2]]) (fun _ => .refl _) (by repeat (first | exact lowF_any | refine lowF_set (by first | (simp [or_imp, forall_and]; done) | (simp [oid] <;> omega)) ?_)) (by intro y hy; rw [List.mem_singleton.1 hy]; intro z hz; rw [List.mem_singleton.1 hz]; simp) (by simp))
  · skip
    have hxe : ks.length ≤ x.1 := by simpa using ht16
    have hout := hx.out hxe
    refine K.lpE ?_
    refine K.thN ?_
    refine W.seq ?_
    refine AW.seqR ?_
    refine R.fieldAddrRo (off := 1) Tryz.underlying78 Tryz.sizeOf3 ?_
    refine R.loadRo Tryz.isAgg3 ?_
    refine R.eql ?_
    refine R.fin [2, 6, 45] ?_
    refine W.cond (fun ht45 => ?_) (fun ht45 => ?_)
    · skip
      refine AW.seqR ?_
      refine R.loadOwn Tryz.isAgg3 ?_
      refine R.assign ?_
      refine R.assign ?_
      refine R.fin [4, 5] ?_
      refine AW.ret ?_
      refine K.thR ?_
      exact K.fin (V.two V.tmp V.tmp) ⟨by rw [hout, if_pos ht45], rfl⟩
    · skip
      refine AW.skip ?_
      refine K.thN ?_
      refine AW.seqR ?_
      refine R.fieldAddrRo (off := 1) Tryz.underlying78 Tryz.sizeOf3 ?_
      refine R.loadRo Tryz.isAgg3 ?_
      refine R.assign ?_
      refine R.assign ?_
      refine R.fin [4, 5] ?_
      refine AW.ret ?_
      exact K.fin (V.two V.tmp V.tmp) ⟨by rw [hout, if_neg (by rw [ht45]; simp)], rfl⟩

theorem low_intl {n k : Nat} {own : Bool} {l : List Int} : Low n (.slice own k (l.map intA)) := low_slice.2 fun y hy => by
  obtain ⟨z, _, rfl⟩ := List.mem_map.1 hy
  simp
theorem low_roE {n : Nat} {e : Expr} : Low n (.ro (exprC e)) := by have := exprA_low n e; rw [exprA_eq] at this; simpa using this
theorem find_col {c : List Col} {t : Str} (h : ¬ (findM t c < 0)) : ∃ (j : Nat), findM t c = (j : Int) ∧ j < c.length := by
  obtain ⟨j, y, h2, _, h3⟩ := find_mem.1 h
  exact ⟨j, h3, (List.getElem?_eq_some_iff.1 h2).1⟩
theorem kind_val {c : List Col} {e : Expr} (h : (e.op == 1) = true) : kindE c e = (e.val.kind, 0) := by rw [kindE_eq]; unfold kindN; rw [if_pos h]
theorem kind_name {c : List Col} {e : Expr} (h1 : (e.op == 1) = false) (h : (e.op == 2) = true) : kindE c e = nameK c e.text := by rw [kindE_eq]; unfold kindN; rw [h1, if_pos h]; rfl
theorem kind_bad {c : List Col} {e : Expr} (h1 : (e.op == 1) = false) (h2 : (e.op == 2) = false) {x : Nat} (hx : x < e.kids.length) (h0 : ∀ (j : Nat) (y : Expr), j < x → e.kids[j]? = some y → ((kindE c y).2 != 0) = false) (hb : ((kindE c e.kids[x]).2 != 0) = true) : kindE c e = (0, (kindE c e.kids[x]).2) := by
  rw [kindE_eq]
  unfold kindN
  rw [h1, h2]
  have : (e.kids.map (kindE c)).find? (fun q => q.2 != 0) = some ((e.kids.map (kindE c))[x]'(by simpa using hx)) := find_at (by simpa using hx) (by simpa using hb) (fun j y hj hy => by
    rw [List.getElem?_map, Option.map_eq_some_iff] at hy
    obtain ⟨z, hz, rfl⟩ := hy
    exact h0 j z hj hz)
  rw [this]
  simp
theorem kind_all {c : List Col} {e : Expr} (h1 : (e.op == 1) = false) (h2 : (e.op == 2) = false) (h0 : ∀ (j : Nat) (y : Expr), j < e.kids.length → e.kids[j]? = some y → ((kindE c y).2 != 0) = false) : kindE c e = fitM (signN e.op e.text) (e.kids.map fun y => (kindE c y).1) := by
  rw [kindE_eq]
  unfold kindN
  rw [h1, h2]
  have : (e.kids.map (kindE c)).find? (fun q => q.2 != 0) = none := find_none (fun j y hy => by
    rw [List.getElem?_map, Option.map_eq_some_iff] at hy
    obtain ⟨z, hz, rfl⟩ := hy
    exact h0 j z (List.getElem?_eq_some_iff.1 hz).1 hz)
  rw [this]
  simp only [List.map_map]
  rfl
theorem ints_snoc (f : Expr → Int) (l : List Expr) {x : Nat} (h : x < l.length) : ((l.take x).map f).map intA ++ [intA (f l[x])] = ((l.take (x + 1)).map f).map intA := by rw [List.take_succ_eq_append_getElem h, List.map_append, List.map_append]; rfl
theorem c29 (c : List Col) (hc : OkCols c) : ∀ (n : Nat) (e : Expr), okE n e → allE nodeM e = true → ∀ Hp : List AObj, AFun Tryz.prog 29 [exprA e, colsA c] Hp (.tup [intA (kindE c e).1, intA (kindE c e).2]) := by
  intro n
  induction n with
  | zero => exact fun e h => h.elim
  | succ n ih =>
  intro e hok hnd Hp
  have hnd0 := hnd
  rw [allE_eq, Bool.and_eq_true] at hnd0
  refine ACall.body [.tmp 4, .tmp 5] [0, 1] Tryz.func29 Tryz.ntmps29 (fun d => ?_)
  refine AW.seqR ?_
  refine R.boxRo ?_
  refine R.assign ?_
  refine R.assign ?_
  refine R.fin [1, 2] ?_
  refine W.seq ?_
  refine AW.seqR ?_
  refine R.fieldAddrRo (off := 0) Tryz.underlying35 Tryz.sizeOf3 ?_
  refine R.loadRo Tryz.isAgg3 ?_
  refine R.fin [1, 2, 13] ?_
  refine AW.block ?_
  refine AW.seqR ?_
  refine R.eql ?_
  refine R.assign ?_
  refine R.fin [1, 2, 13, 14] ?_
  refine W.cond (fun ht14 => ?_) (fun ht14 => ?_)
  · skip
    have hk := kind_val (c := c) ht14
    refine AW.seqR ?_
    refine R.fieldAddrRo (off := 2) Tryz.underlying35 Tryz.sizeOf24 ?_
    refine R.fieldAddrRo (off := 0) Tryz.underlying24 Tryz.sizeOf3 ?_
    refine R.loadRo Tryz.isAgg3 ?_
    refine R.assign ?_
    refine R.assign ?_
    refine R.fin [4, 5] ?_
    refine AW.ret ?_
    refine K.blR ?_
    refine K.thR ?_
    exact K.fin (V.two V.tmp V.tmp) ⟨by rw [hk], rfl⟩
  · skip
    refine AW.seqR ?_
    refine R.eql ?_
    refine R.assign ?_
    refine R.fin [1, 2, 19] ?_
    refine W.cond (fun ht19 => ?_) (fun ht19 => ?_)
    · skip
      have hk := kind_name (c := c) ht14 ht19
      refine AW.seqR ?_
      refine R.move ?_
      refine R.fieldAddrRo (off := 1) Tryz.underlying35 Tryz.sizeOf9 ?_
      refine R.loadRo Tryz.isAgg9 ?_
      refine R.call Tryz.call33 (c33 c hc e.text _) ?_
      refine R.assign ?_
      refine R.fin [1, 6] ?_
      refine W.seq ?_
      refine AW.seqR ?_
      refine R.move ?_
      refine R.lss ?_
      refine R.fin [1, 6, 26] ?_
      refine W.cond (fun ht26 => ?_) (fun ht26 => ?_)
      · skip
        have hk2 : nameK c e.text = (0, 9) := if_pos (by simpa using ht26)
        refine AW.seqR ?_
        refine R.assign ?_
        refine R.assign ?_
        refine R.fin [4, 5] ?_
        refine AW.ret ?_
        refine K.thR ?_
        refine K.blR ?_
        refine K.thR ?_
        exact K.fin (V.two V.tmp V.tmp) ⟨by rw [hk, hk2], rfl⟩
      · skip
        have hneg : ¬ (findM e.text c < 0) := by simpa using ht26
        obtain ⟨j, hj, hjl⟩ := find_col hneg
        have hk2 : nameK c e.text = (c[j].kind, 0) := by
          unfold nameK
          rw [if_neg hneg, hj, Int.toNat_natCast, List.getD_eq_getElem?_getD, List.getElem?_eq_getElem hjl]
          rfl
        rw [hj]
        refine AW.skip ?_
        refine K.thN ?_
        refine AW.seqR ?_
        refine R.move ?_
        refine R.move ?_
        refine R.indexAddr (j) (colA c[j]) Tryz.underlying28 Tryz.sizeOf27 (getMap hjl) ?_
        refine R.fieldAddrRo (off := 1) Tryz.underlying27 Tryz.sizeOf3 ?_
        refine R.loadRo Tryz.isAgg3 ?_
        refine R.assign ?_
        refine R.assign ?_
        refine R.fin [4, 5] ?_
        refine AW.ret ?_
        refine K.blR ?_
        refine K.thR ?_
        exact K.fin (V.two V.tmp V.tmp) ⟨by rw [hk, hk2], rfl⟩
    · skip
      refine AW.skip ?_
      refine K.blN ?_
      refine K.thN ?_
      refine AW.seqR ?_
      refine R.assign ?_
      refine R.fin [1, 2, 7] ?_
      refine W.seq ?_
      refine AW.seqR ?_
      refine R.nilSl 7 1 ?_
      refine R.fieldAddrRo (off := 5) Tryz.underlying35 Tryz.sizeOf33 ?_
      refine R.loadRo Tryz.isAgg33 ?_
      refine R.len Tryz.underlying33 ?_
      refine R.move ?_
      refine R.fin [1, 2, 7, 33, 34, 35] ?_
      refine AW.loopC (α := Nat) (fun x => ⟨59, setF 1 (colsA c) (setF 2 (.ro (exprC e)) (setF 7 (.slice true 1 (((e.kids.take x).map fun y => (kindE c y).1).map intA)) (setF 33 (.slice false 6 (e.kids.map exprA)) (setF 34 (intA (e.kids.length : Nat)) (setF 35 (intA (x : Nat)) (fun _ => .any)))))), Hp, [], [], none⟩) (fun x => x ≤ e.kids.length ∧ ∀ (j : Nat) (y : Expr), j < x → e.kids[j]? = some y → ((kindE c y).2 != 0) = false) (fun x => e.kids.length - x) (0) ⟨Nat.zero_le _, fun j y h => by omega⟩ (StLe.of_eq (by simp)) rfl (fun x hx => ?_)
      refine AW.seqR ?_
      refine R.lss ?_
      refine R.fin [1, 2, 7, 33, 34, 35, 36] ?_
      refine W.condX (fun ht36 => ?_) (fun ht36 => ?_)
      · skip
        have hlt : x < e.kids.length := by simpa using ht36
        have hkl := hok.2.1
        refine W.seq ?_
        refine AW.block ?_
        refine AW.seqR ?_
        refine R.indexAddr (x) (exprA e.kids[x]) Tryz.underlying33 Tryz.sizeOf35 (getMap hlt) ?_
        refine R.loadRoN Tryz.isAgg35 Tryz.sizeOf35 ?_
        refine R.alloc Tryz.zeroValue35 ?_
        refine R.storeOwn Tryz.sizeOf35 ?_
        refine R.fin [1, 2, 7, 9, 33, 34, 35] ?_
        refine AW.seqR ?_
        refine R.loadOwnN Tryz.isAgg35 Tryz.sizeOf35 ?_
        refine R.move ?_
        refine R.call Tryz.call29 (ih e.kids[x] (hok.2.2 _ (List.getElem_mem hlt)) ((allL_iff _ _).1 hnd0.2 _ (List.getElem_mem hlt)) _) ?_
        refine R.move ?_
        refine R.extract ?_
        refine R.extract ?_
        refine R.assign ?_
        refine R.assign ?_
        refine R.fin [1, 2, 7, 10, 11, 33, 34, 35] ?_
        refine W.seq ?_
        refine AW.seqR ?_
        refine R.move ?_
        refine R.neq ?_
        refine R.fin [1, 2, 7, 10, 11, 33, 34, 35, 46] ?_
        refine W.cond (fun ht46 => ?_) (fun ht46 => ?_)
        · skip
          have hkb := kind_bad (c := c) ht14 ht19 hlt hx.2 ht46
          refine AW.seqR ?_
          refine R.move ?_
          refine R.assign ?_
          refine R.assign ?_
          refine R.fin [4, 5] ?_
          refine AW.ret ?_
          refine K.thR ?_
          refine K.blR ?_
          refine K.thR ?_
          refine K.lpR ?_
          refine K.thR ?_
          exact K.fin (V.two V.tmp V.tmp) ⟨by rw [hkb], rfl⟩
        · skip
          refine AW.skip ?_
          refine K.thN ?_
          refine AW.region ?_
          refine R.moveT ?_
          refine R.move ?_
          refine R.buildSlice Tryz.underlying76 Tryz.sizeOf3 Tryz.zeroValue3 ?_
          refine R.append Tryz.underlying76 Tryz.type3 ?_ ?_ ?_
          · simp only [List.length_map, List.length_take, List.length_cons, List.length_nil, Tryz.t3]; omega
          · simp only [List.length_map, List.length_take, List.length_cons, List.length_nil, Tryz.t3]; omega
          refine R.assignT ?_
          refine R.fin [1, 2, 7, 33, 34, 35] ?_
          refine K.blN ?_
          refine K.thN ?_
          refine AW.region ?_
          refine R.add64 ?_
          refine R.move ?_
          refine R.fin [1, 2, 7, 33, 34, 35] ?_
          refine K.lpN (x + 1) ⟨hlt, upto_succ hlt hx.2 ht46⟩ (by omega) ?_
          simp only [show Tryz.t3.size = 1 from rfl, ints_snoc]
          exact StCut.take (own := []) (fun _ => .refl _) (by repeat (first | exact lowF_any | refine lowF_set (by first | exact low_intl | exact low_roE | exact low_exprs | (simp [or_imp, forall_and]; done)) ?_)) (by simp) (by simp)
      · skip
        have hxe : e.kids.take x = e.kids := List.take_of_length_le (by simp at ht36; omega)
        have hxl : e.kids.length ≤ x := by simp at ht36; omega
        have hka := kind_all (c := c) ht14 ht19 (fun j y hj hy => hx.2 j y (by omega) hy)
        rw [hxe]
        refine K.lpE ?_
        refine K.thN ?_
        refine AW.seqR ?_
        refine R.loadRoN Tryz.isAgg35 Tryz.sizeOf35 ?_
        refine R.call Tryz.call42 (c42 e _) ?_
        refine R.move ?_
        refine R.call Tryz.call43 (c43 (signN e.op e.text) (e.kids.map fun y => (kindE c y).1) (by rw [sign_len hnd0.1 ht14 ht19]; simp) (by simpa using hok.2.1) _) ?_
        refine R.extract ?_
        refine R.extract ?_
        refine R.assign ?_
        refine R.assign ?_
        refine R.fin [4, 5] ?_
        refine AW.ret ?_
        exact K.fin (V.two V.tmp V.tmp) ⟨by rw [hka], rfl⟩

theorem rightE_node {e : Expr} (h : exprRightM e = true) : allE nodeM e = true := by
  rw [exprRight_eq] at h
  unfold refRightM at h
  rw [Bool.and_eq_true] at h
  exact h.2
theorem c18 (n : Nat) (e : Expr) (hok : okE n e) (hn : n ≤ 1048576) (c : List Col) (hc : OkCols c) (Hp : List AObj) : AFun Tryz.prog 18 [exprA e, colsA c] Hp (.tup [intA (kindR e c).1, intA (kindR e c).2]) := by
  refine ACall.body [.tmp 4, .tmp 5] [0, 1] Tryz.func18 Tryz.ntmps18 (fun d => ?_)
  refine AW.seqR ?_
  refine R.boxRo ?_
  refine R.assign ?_
  refine R.assign ?_
  refine R.fin [1, 2] ?_
  refine W.seq ?_
  refine AW.seqR ?_
  refine R.loadRoN Tryz.isAgg35 Tryz.sizeOf35 ?_
  refine R.call Tryz.call23 (c23 n e hok hn _) ?_
  refine R.not ?_
  refine R.move ?_
  refine G.move ?_
  refine G.call Tryz.call21 (fun hB => c21 c hc _) ?_
  refine G.not ?_
  refine R.pickOr ?_
  refine R.fin [1, 2, 13] ?_
  refine W.cond (fun ht13 => ?_) (fun ht13 => ?_)
  · skip
    have hk : kindR e c = (0, 1) := if_pos ht13
    refine AW.seqR ?_
    refine R.assign ?_
    refine R.assign ?_
    refine R.fin [4, 5] ?_
    refine AW.ret ?_
    refine K.thR ?_
    exact K.fin (V.two V.tmp V.tmp) ⟨by rw [hk], rfl⟩
  · skip
    have hk : kindR e c = kindE c e := if_neg (by rw [ht13]; simp)
    have hr : exprRightM e = true := by simp only [Bool.or_eq_false_iff, Bool.not_eq_false'] at ht13; exact ht13.1
    refine AW.skip ?_
    refine K.thN ?_
    refine AW.seqR ?_
    refine R.loadRoN Tryz.isAgg35 Tryz.sizeOf35 ?_
    refine R.move ?_
    refine R.call Tryz.call29 (c29 c hc n e hok (rightE_node hr) _) ?_
    refine R.extract ?_
    refine R.extract ?_
    refine R.assign ?_
    refine R.assign ?_
    refine R.fin [4, 5] ?_
    refine AW.ret ?_
    exact K.fin (V.two V.tmp V.tmp) ⟨by rw [hk], rfl⟩

end Go.SX.Nb
namespace Go.SX.Nb
open Go Go.SX Go.Proofs
variable [ErrAt]
set_option maxRecDepth 4000
/-- The first fault of those that were asked. -/
structure AllAt (f : Expr → Rs) (k : List Expr) (x : Nat) : Prop where
  le : x ≤ k.length
  ok : ∀ (j : Nat) (y : Expr), j < x → k[j]? = some y → ((f y).2 != 0) = false
theorem AllAt.bad {f : Expr → Rs} {k : List Expr} {x : Nat} (h : AllAt f k x) (hx : x < k.length) (hb : ((f k[x]).2 != 0) = true) (g : List Val → Rs) : allR g (k.map f) = wrongR (f k[x]).2 := by
  unfold allR
  have : (k.map f).find? (fun q => q.2 != 0) = some ((k.map f)[x]'(by simpa using hx)) := find_at (by simpa using hx) (by simpa using hb) (fun j y hj hy => by
    rw [List.getElem?_map, Option.map_eq_some_iff] at hy
    obtain ⟨z, hz, rfl⟩ := hy
    exact h.ok j z hj hz)
  rw [this]
  simp
theorem AllAt.all {f : Expr → Rs} {k : List Expr} {x : Nat} (h : AllAt f k x) (hx : k.length ≤ x) (g : List Val → Rs) : allR g (k.map f) = if (k.take x).any (fun y => (f y).1.kind == 0) then (noV, 0) else g ((k.take x).map fun y => (f y).1) := by
  unfold allR
  have : (k.map f).find? (fun q => q.2 != 0) = none := find_none (fun j y hy => by
    rw [List.getElem?_map, Option.map_eq_some_iff] at hy
    obtain ⟨z, hz, rfl⟩ := hy
    exact h.ok j z (by have := (List.getElem?_eq_some_iff.1 hz).1; omega) hz)
  rw [this, List.take_of_length_le hx]
  simp only [List.any_map, List.map_map]
  rfl
theorem AllAt.next {f : Expr → Rs} {k : List Expr} {x : Nat} (h : AllAt f k x) (hx : x < k.length) (hb : ((f k[x]).2 != 0) = false) : AllAt f k (x + 1) := ⟨hx, upto_succ hx h.ok hb⟩
theorem any_snoc (f : Expr → Bool) (k : List Expr) {x : Nat} (h : x < k.length) : (k.take (x + 1)).any f = ((k.take x).any f || f k[x]) := by rw [List.take_succ_eq_append_getElem h, List.any_append]; simp
theorem vals_snoc (f : Expr → Val) (l : List Expr) {x : Nat} (h : x < l.length) : ((l.take x).map f).map valA ++ [valA (f l[x])] = ((l.take (x + 1)).map f).map valA := by rw [List.take_succ_eq_append_getElem h, List.map_append, List.map_append]; rfl
theorem low_vals {n k : Nat} {own : Bool} {l : List Val} : Low n (.slice own k (l.map valA)) := low_slice.2 fun y hy => by
  obtain ⟨z, _, rfl⟩ := List.mem_map.1 hy
  simp [or_imp, forall_and]
theorem c40 (c : List Col) (l : List Val) (e : Expr) (hk : e.kids.length ≤ 1048576) (hev : ∀ y ∈ e.kids, EvalsTo c l y (evalE c l y)) (hargs : ((∀ y ∈ e.kids, (evalE c l y).2 = 0) → ArgsOk e.op (e.kids.map fun y => (evalE c l y).1))) (Hp : List AObj) : AFun Tryz.prog 40 [scopeA c l, exprA e] Hp (resA (allR (strictM e.op e.text) (e.kids.map (evalE c l)))) := by
  refine ACall.body [.cell 4 24, .tmp 5] [0, 1] Tryz.func40 Tryz.ntmps40 (fun d => ?_)
  refine AW.seqR ?_
  refine R.boxRo ?_
  refine R.boxRo ?_
  refine R.alloc Tryz.zeroValue24 ?_
  refine R.assign ?_
  refine R.fin [2, 3, 4] ?_
  refine AW.seqR ?_
  refine R.assign ?_
  refine R.fin [2, 3, 4, 6] ?_
  refine AW.seqR ?_
  refine R.nilSl 6 3 ?_
  refine R.assign ?_
  refine R.fin [2, 3, 4, 6, 7] ?_
  refine W.seq ?_
  refine AW.seqR ?_
  refine R.fieldAddrRo (off := 5) Tryz.underlying35 Tryz.sizeOf33 ?_
  refine R.loadRo Tryz.isAgg33 ?_
  refine R.len Tryz.underlying33 ?_
  refine R.move ?_
  refine R.fin [2, 3, 4, 6, 7, 13, 14, 15] ?_
  refine AW.loopC (α := Nat) (fun x => ⟨49, setF 2 (.ro [colsA c, valsA l]) (setF 3 (.ro (exprC e)) (setF 4 (.ptr (oid Hp.length 0) 0) (setF 6 (.slice true 3 (((e.kids.take x).map fun y => (evalE c l y).1).map valA)) (setF 7 (boolA ((e.kids.take x).any fun y => (evalE c l y).1.kind == 0)) (setF 13 (.slice false 6 (e.kids.map exprA)) (setF 14 (intA (e.kids.length : Nat)) (setF 15 (intA (x : Nat)) (fun _ => .any)))))))), Hp, [.cells 24 [intA 0, intA 0, strA []]], [], none⟩) (fun x => AllAt (evalE c l) e.kids x) (fun x => e.kids.length - x) (0) ⟨Nat.zero_le _, fun j y h => by omega⟩ (StLe.of_eq (by simp)) rfl (fun x hx => ?_)
  refine AW.seqR ?_
  refine R.lss ?_
  refine R.fin [2, 3, 4, 6, 7, 13, 14, 15, 16] ?_
  refine W.condX (fun ht16 => ?_) (fun ht16 => ?_)
  · skip
    have hlt : x < e.kids.length := by simpa using ht16
    refine W.seq ?_
    refine AW.block ?_
    refine AW.seqR ?_
    refine R.indexAddr (x) (exprA e.kids[x]) Tryz.underlying33 Tryz.sizeOf35 (getMap hlt) ?_
    refine R.loadRoN Tryz.isAgg35 Tryz.sizeOf35 ?_
    refine R.alloc Tryz.zeroValue35 ?_
    refine R.storeOwn Tryz.sizeOf35 ?_
    refine R.fin [2, 3, 4, 6, 7, 9, 13, 14, 15] ?_
    refine AW.seqR ?_
    refine R.loadRoN Tryz.isAgg59 Tryz.sizeOf59 ?_
    refine R.loadOwnN Tryz.isAgg35 Tryz.sizeOf35 ?_
    refine R.call Tryz.call25 (hev _ (List.getElem_mem hlt) _) ?_
    refine R.move ?_
    refine R.extract ?_
    refine R.extract ?_
    refine R.alloc Tryz.zeroValue24 ?_
    refine R.storeOwn Tryz.sizeOf24 ?_
    refine R.assign ?_
    refine R.fin [2, 3, 4, 6, 7, 10, 11, 13, 14, 15] ?_
    refine W.seq ?_
    refine AW.seqR ?_
    refine R.move ?_
    refine R.neq ?_
    refine R.fin [2, 3, 4, 6, 7, 10, 11, 13, 14, 15, 26] ?_
    refine W.cond (fun ht26 => ?_) (fun ht26 => ?_)
    · skip
      have hm := hx.bad hlt ht26 (strictM e.op e.text)
      refine AW.seqR ?_
      refine R.move ?_
      refine R.call Tryz.call24 (c24 _ _) ?_
      refine R.extract ?_
      refine R.extract ?_
      refine R.storeOwn Tryz.sizeOf24 ?_
      refine R.assign ?_
      refine R.fin [4, 5] ?_
      refine AW.ret ?_
      refine K.thR ?_
      refine K.blR ?_
      refine K.thR ?_
      refine K.lpR ?_
      refine K.thR ?_
      exact K.fin (V.two (V.cellN Tryz.isAgg24 Tryz.sizeOf24) V.tmp) ⟨by rw [hm]; try rfl, rfl⟩
    · skip
      refine AW.skip ?_
      refine K.thN ?_
      refine AW.seqR ?_
      refine R.move ?_
      refine R.move ?_
      refine G.fieldAddrPtr (fo := 0) Tryz.underlying24 Tryz.sizeOf3 ?_
      refine G.loadOwn Tryz.isAgg3 ?_
      refine G.eql ?_
      refine R.pickOr ?_
      refine R.assign ?_
      refine R.fin [2, 3, 4, 6, 7, 10, 13, 14, 15] ?_
      refine AW.region ?_
      refine R.moveT ?_
      refine R.loadOwnN Tryz.isAgg24 Tryz.sizeOf24 ?_
      refine R.buildSlice Tryz.underlying25 Tryz.sizeOf24 Tryz.zeroValue24 ?_
      refine R.append Tryz.underlying25 Tryz.type24 ?_ ?_ ?_
      · simp only [List.length_map, List.length_take, List.length_cons, List.length_nil, Tryz.t24]; omega
      · simp only [List.length_map, List.length_take, List.length_cons, List.length_nil, Tryz.t24]; omega
      refine R.assignT ?_
      refine R.fin [2, 3, 4, 6, 7, 13, 14, 15] ?_
      refine K.blN ?_
      refine K.thN ?_
      refine AW.region ?_
      refine R.add64 ?_
      refine R.move ?_
      refine R.fin [2, 3, 4, 6, 7, 13, 14, 15] ?_
      refine K.lpN (x + 1) (hx.next hlt ht26) (by omega) ?_
      simp only [show Tryz.t24.size = 3 from rfl, any_snoc _ _ hlt]
      have hvs : ((e.kids.take x).map fun y => (evalE c l y).1).map valA ++ [.agg [.v (.int .i64 (evalE c l e.kids[x]).1.kind), .v (.int .i64 (evalE c l e.kids[x]).1.n), .v (sv (evalE c l e.kids[x]).1.s)]] = ((e.kids.take (x + 1)).map fun y => (evalE c l y).1).map valA := vals_snoc _ _ hlt
      simp only [hvs]
      exact StCut.take (own := [.cells 24 [intA 0, intA 0, strA []]]) (fun _ => .refl _) (by repeat (first | exact lowF_any | refine lowF_set (by first | exact low_exprs | exact low_vals | exact low_roE | (simp [or_imp, forall_and, oid] <;> omega)) ?_)) (by intro y hy; rw [List.mem_singleton.1 hy]; intro z hz; simp only [List.mem_cons, List.not_mem_nil, or_false] at hz; rcases hz with rfl | rfl | rfl <;> simp) (by simp)
  · skip
    have hxe : e.kids.length ≤ x := by simpa using ht16
    have ha := hx.all hxe (strictM e.op e.text)
    have htk : e.kids.take x = e.kids := List.take_of_length_le hxe
    have h00 : ∀ y ∈ e.kids, (evalE c l y).2 = 0 := fun y hy => by
      obtain ⟨j, hj⟩ := List.getElem?_of_mem hy
      have := hx.ok j y (by have := (List.getElem?_eq_some_iff.1 hj).1; omega) hj
      simpa using this
    have hao := hargs h00
    rw [← htk] at hao
    refine K.lpE ?_
    refine K.thN ?_
    refine W.seq ?_
    refine AW.seqR ?_
    refine R.move ?_
    refine R.fin [3, 4, 6, 42] ?_
    refine W.cond (fun ht42 => ?_) (fun ht42 => ?_)
    · skip
      have hm : allR (strictM e.op e.text) (e.kids.map (evalE c l)) = (noV, 0) := by rw [ha, if_pos ht42]
      refine AW.seqR ?_
      refine R.call Tryz.call36 (c36 _) ?_
      refine R.storeOwn Tryz.sizeOf24 ?_
      refine R.assign ?_
      refine R.fin [4, 5] ?_
      refine AW.ret ?_
      refine K.thR ?_
      exact K.fin (V.two (V.cellN Tryz.isAgg24 Tryz.sizeOf24) V.tmp) ⟨by rw [hm]; try rfl, rfl⟩
    · skip
      have hm : allR (strictM e.op e.text) (e.kids.map (evalE c l)) = strictM e.op e.text ((e.kids.take x).map fun y => (evalE c l y).1) := by rw [ha, if_neg (by rw [ht42]; simp)]
      refine AW.skip ?_
      refine K.thN ?_
      refine AW.seqR ?_
      refine R.loadRoN Tryz.isAgg35 Tryz.sizeOf35 ?_
      refine R.move ?_
      refine R.call Tryz.call58 (c58 e _ hao _) ?_
      refine R.extract ?_
      refine R.extract ?_
      refine R.storeOwn Tryz.sizeOf24 ?_
      refine R.assign ?_
      refine R.fin [4, 5] ?_
      refine AW.ret ?_
      exact K.fin (V.two (V.cellN Tryz.isAgg24 Tryz.sizeOf24) V.tmp) ⟨by rw [hm]; try rfl, rfl⟩

end Go.SX.Nb
namespace Go.SX.Nb
open Go Go.SX Go.Proofs
variable [ErrAt]
set_option maxRecDepth 8000
theorem kindR_ok {x : Expr} {c : List Col} (h : (kindR x c).2 = 0) : exprRightM x = true ∧ colsM c = true ∧ kindR x c = kindE c x := by
  unfold kindR at h ⊢
  split at h
  · cases h
  · rename_i h1
    rw [if_neg h1]
    simp only [Bool.or_eq_true, Bool.not_eq_true', not_or, Bool.not_eq_false] at h1
    exact ⟨h1.1, by rw [← cols_eq]; exact h1.2, rfl⟩
end Go.SX.Nb
namespace Go.SX.Nb
open Go Go.SX Go.Proofs
variable [ErrAt]
set_option maxRecDepth 4000
def headE (x y : Expr) : Bool := ((x.op == y.op) && (x.text == y.text)) && ((x.val.kind == y.val.kind && x.val.n == y.val.n) && x.val.s == y.val.s)
end Go.SX.Nb
namespace Go.SX.Nb
open Go Go.SX Go.Proofs
variable [ErrAt]
set_option maxRecDepth 4000
theorem mk_agg (o : Int) (t : Str) (v : Val) (k : List Expr) : exprA (.mk o t v k) = .agg [intA o, .v (sv t), intA v.kind, intA v.n, .v (sv v.s), .slice false 6 (k.map exprA)] := by rw [exprA_eq]; rfl
end Go.SX.Nb
namespace Go.SX.Nb
open Go Go.SX Go.Proofs
variable [ErrAt]
set_option maxRecDepth 4000
end Go.SX.Nb
namespace Go.SX.Nb
open Go Go.SX Go.Proofs
variable [ErrAt]
set_option maxRecDepth 8000
/-! Who decides decides: the law's sources, columns and truths. -/
def lS1 : Str := [97, 32, 111, 114, 32, 98]
def lS2 : Str := [97, 32, 97, 110, 100, 32, 98]
def lS3 : Str := [110, 111, 116, 32, 40, 110, 111, 116, 32, 97, 32, 97, 110, 100, 32, 110, 111, 116, 32, 98, 41]
def lS4 : Str := [97, 32, 111, 114, 32, 49, 32, 47, 32, 48, 32, 61, 32, 110]
def lX1 : Expr := binX orW (nameE [97]) (nameE [98])
def lX2 : Expr := binX andW (nameE [97]) (nameE [98])
def lX3 : Expr := oneX 4 (binX andW (oneX 4 (nameE [97])) (oneX 4 (nameE [98])))
def lX4 : Expr := binX orW (nameE [97]) (binX [61] (binX [47] (valX ⟨1, 1, []⟩) (valX ⟨1, 0, []⟩)) (nameE [110]))
def lC : List Col := [⟨[97], 3⟩, ⟨[98], 3⟩, ⟨[110], 1⟩]
def lT : List Val := [noV, boolV false, boolV true]
def orV (x y : Val) : Val := if (x.n == 1) || ((x.kind == 0) && (y.n == 0)) then x else y
def andV (x y : Val) : Val := if ((x.kind == 3) && (x.n == 0)) || ((x.kind == 0) && ((y.kind == 0) || (y.n == 1))) then x else y
/-! Rows. -/
theorem row_iff {c : List Col} {l : List Val} : rowP c l = true ↔ colsM c = true ∧ l.length = c.length ∧ ∀ (i : Nat) (v : Val) (y : Col), l[i]? = some v → c[i]? = some y → plainM v = true ∧ (v.kind = 0 ∨ v.kind = y.kind) := by
  unfold rowP
  rw [Bool.and_eq_true, Bool.and_eq_true, cols_eq, beq_iff_eq, List.all_eq_true, and_assoc]
  refine and_congr_right fun _ => and_congr_right fun hl => ⟨fun h i v y hv hy => ?_, fun h p hp => ?_⟩
  · have := h (v, y) (List.mem_of_getElem? (i := i) (by rw [List.getElem?_zip_eq_some]; exact ⟨hv, hy⟩))
    simpa using this
  · obtain ⟨i, hi⟩ := List.getElem?_of_mem hp
    rw [List.getElem?_zip_eq_some] at hi
    have := h i p.1 p.2 hi.1 hi.2
    simpa using this
theorem eval_of {x : Expr} {c : List Col} {l : List Val} (h1 : exprRightM x = true) (h2 : rowP c l = true) : evalM x c l = evalE c l x := by
  unfold evalM evalR
  rw [h1, h2]
  rfl
/-! Rows that differ in what is not named. -/
def turn1R (c : List Col) (l : List Val) (m : List Val) (s : Str) : List Val := if findM s c < 0 then m else m.set (findM s c).toNat (l.getD (findM s c).toNat noV)
def turnR (c : List Col) (l : List Val) (ns : List Str) (m : List Val) : List Val := ns.foldl (turn1R c l) m
end Go.SX.Nb
namespace Go.SX.Nb
open Go Go.SX Go.Proofs
variable [ErrAt]
set_option maxRecDepth 8000
/-! Who has a kind comes to it. -/
/-- What a tree of this kind may come to. -/
structure KOk (k : Int) (r : Rs) : Prop where
  kind : r.2 = 0 → r.1.kind = k ∨ r.1.kind = 0
  err : r.2 ≠ 0 → r.2 = 4 ∨ r.2 = 5 ∨ r.2 = 6 ∨ r.2 = 3
theorem KOk.null (k : Int) : KOk k (noV, 0) := ⟨fun _ => .inr rfl, fun h => absurd rfl h⟩
theorem KOk.val {k : Int} {v : Val} (h : v.kind = k) : KOk k (v, 0) := ⟨fun _ => .inl h, fun h => absurd rfl h⟩
theorem KOk.wrong {k e : Int} (h : e = 4 ∨ e = 5 ∨ e = 6 ∨ e = 3) : KOk k (wrongR e) := ⟨fun h0 => by rw [show e = 0 from h0] at h; omega, fun _ => h⟩
theorem KOk.whole {x : Int × Int} (h : x.2 ≠ 0 → x.2 = 4 ∨ x.2 = 5 ∨ x.2 = 6 ∨ x.2 = 3) : KOk 1 (wholeR x) := by
  unfold wholeR
  split
  · rename_i h1; exact .wrong (h (by simpa using h1))
  · exact .val rfl
theorem KOk.mono {k k' : Int} {r : Rs} (h : KOk k r) (hk : k = k' ∨ k = 0) : KOk k' r := ⟨fun h0 => by have := h.kind h0; omega, h.err⟩
theorem all_K {α : Type} {g : α → Int} {r : α → Rs} {l : List α} (h : ∀ y ∈ l, KOk (g y) (r y)) {k : Int} {f : List Val → Rs} (hs : ∀ vs : List Val, vs.map (·.kind) = l.map g → (∀ v ∈ vs, v.kind ≠ 0) → KOk k (f vs)) : KOk k (allR f (l.map r)) := by
  unfold allR
  split
  · rename_i q hq
    have h1 := List.find?_some hq
    obtain ⟨y, hy, rfl⟩ := List.mem_map.1 (List.mem_of_find?_eq_some hq)
    exact .wrong ((h y hy).err (by simpa using h1))
  · rename_i hq
    have h0 : ∀ y ∈ l, (r y).2 = 0 := fun y hy => by
      have := List.find?_eq_none.1 hq (r y) (List.mem_map_of_mem hy)
      simpa using this
    split
    · exact .null k
    · rename_i hn
      have hnn : ∀ y ∈ l, (r y).1.kind ≠ 0 := fun y hy e => hn (by rw [List.any_eq_true]; exact ⟨r y, List.mem_map_of_mem hy, by simpa using e⟩)
      refine hs _ ?_ ?_
      · rw [List.map_map, List.map_map]
        refine List.map_congr_left fun y hy => ?_
        have := (h y hy).kind (h0 y hy)
        have := hnn y hy
        show (r y).1.kind = g y
        omega
      · intro v hv
        rw [List.map_map] at hv
        obtain ⟨y, hy, rfl⟩ := List.mem_map.1 hv
        exact hnn y hy
theorem meet_ok {a b : Int} (h : (meetM a b).2 = true) : ((a = 0 ∧ (meetM a b).1 = b) ∨ (a ≠ 0 ∧ (b = 0 ∨ b = a) ∧ (meetM a b).1 = a)) := by
  unfold meetM at h ⊢
  split
  · rename_i e; exact .inl ⟨by simpa using e, rfl⟩
  · rename_i e
    rw [if_neg e] at h
    split
    · rename_i e2
      exact .inr ⟨by simpa using e, by simp only [Bool.or_eq_true, beq_iff_eq] at e2; omega, rfl⟩
    · rename_i e2
      rw [if_neg e2] at h
      cases h
theorem fit_ok {s : Sign} {ks : List Int} (h : (fitM s ks).2 = 0) : ∃ c, fitK s.kids ks 0 = some c ∧ (fitM s ks).1 = if s.own == -1 then c else s.own := by
  unfold fitM at h ⊢
  cases hk : fitK s.kids ks 0 with
  | none => rw [hk] at h; cases h
  | some c => exact ⟨c, rfl, by simp only; split <;> rfl⟩
/-- One kid, of a kind. -/
theorem fit1 {w k0 c : Int} (h1 : (w == -2) = false) (h2 : (w == -1) = false) (h3 : w ≠ 0) (h : fitK [w] [k0] 0 = some c) : k0 = 0 ∨ k0 = w := by
  rw [fitK, h1, h2] at h
  simp only [Bool.false_eq_true, if_false] at h
  split at h
  · rename_i hm; have := meet_ok hm; omega
  · cases h
theorem fit2 {w w' k0 k1 c : Int} (h1 : (w == -2) = false) (h2 : (w == -1) = false) (h3 : w ≠ 0) (h1' : (w' == -2) = false) (h2' : (w' == -1) = false) (h3' : w' ≠ 0) (h : fitK [w, w'] [k0, k1] 0 = some c) : (k0 = 0 ∨ k0 = w) ∧ (k1 = 0 ∨ k1 = w') := by
  rw [fitK, h1, h2] at h
  simp only [Bool.false_eq_true, if_false] at h
  split at h
  · rename_i hm
    rw [fitK, h1', h2'] at h
    simp only [Bool.false_eq_true, if_false] at h
    split at h
    · rename_i hm'; have := meet_ok hm; have := meet_ok hm'; omega
    · cases h
  · cases h
/-- Two kids of one kind, whichever. -/
theorem fitSame {k0 k1 c c0 : Int} (h : fitK [-1, -1] [k0, k1] c0 = some c) (h0 : c0 = 0) : (k0 = 0 ∨ k0 = c) ∧ (k1 = 0 ∨ k1 = c) ∧ (k0 ≠ 0 → k1 ≠ 0 → k0 = k1) := by
  subst h0
  rw [fitK] at h
  simp only [show ((-1 : Int) == -2) = false from rfl, show ((-1 : Int) == -1) = true from rfl, Bool.false_eq_true, if_false, if_true] at h
  split at h
  · rename_i hm
    rw [fitK] at h
    simp only [show ((-1 : Int) == -2) = false from rfl, show ((-1 : Int) == -1) = true from rfl, Bool.false_eq_true, if_false, if_true] at h
    split at h
    · rename_i hm'
      rw [fitK] at h
      injection h with h
      have a := meet_ok hm
      have b := meet_ok hm'
      omega
    · cases h
  · cases h
theorem kind_node {c : List Col} {o : Int} {t : Str} {v : Val} {k : List Expr} (h : (kindE c (.mk o t v k)).2 = 0) (h1 : (o == 1) = false) (h2 : (o == 2) = false) :
    (∀ y ∈ k, (kindE c y).2 = 0) ∧ ∃ m, fitK (signN o t).kids (k.map fun y => (kindE c y).1) 0 = some m ∧ (kindE c (.mk o t v k)).1 = if (signN o t).own == -1 then m else (signN o t).own := by
  rw [kindE] at h ⊢
  have hk := kindN_ok h h1 h2
  rw [kindL_map] at hk h ⊢
  have hk' : ∀ y ∈ k, (kindE c y).2 = 0 := fun y hy => hk _ (List.mem_map_of_mem hy)
  refine ⟨hk', ?_⟩
  have e : kindN c o t v (k.map (kindE c)) = fitM (signN o t) (k.map fun y => (kindE c y).1) := by
    unfold kindN
    rw [h1, h2]
    have : (k.map (kindE c)).find? (fun q => q.2 != 0) = none := List.find?_eq_none.2 fun q hq => by simpa using hk q hq
    simp only [Bool.false_eq_true, if_false, this, List.map_map]
    rfl
  rw [e] at h ⊢
  exact fit_ok h
theorem arith_err (t : Str) (a b : Int) : (arithI t a b).2 ≠ 0 → (arithI t a b).2 = 4 ∨ (arithI t a b).2 = 5 ∨ (arithI t a b).2 = 6 ∨ (arithI t a b).2 = 3 := by
  unfold arithI addI subI mulI divI remI
  simp only
  repeat' split
  all_goals simp
theorem sub_err (a b : Int) : (subI a b).2 ≠ 0 → (subI a b).2 = 4 ∨ (subI a b).2 = 5 ∨ (subI a b).2 = 6 ∨ (subI a b).2 = 3 := by
  unfold subI
  repeat' split
  all_goals simp
theorem num_err (s : Str) : (numReadM s).2 ≠ 0 → (numReadM s).2 = 4 ∨ (numReadM s).2 = 5 ∨ (numReadM s).2 = 6 ∨ (numReadM s).2 = 3 := by
  unfold numReadM
  repeat' split
  all_goals simp
theorem join_K {a b : Val} (ha : a.kind = 2) (hb : b.kind = 2) : KOk 2 (joinR a b) := by
  unfold joinR
  rw [show kindsM [a, b] [2, 2] = true by simp [kindsM, ha, hb]]
  simp only [Bool.not_true, Bool.false_eq_true, if_false]
  split
  · exact .wrong (by omega)
  · exact .val rfl
/-- A mark of two values of the kinds that its sign asks for. -/
theorem bin_K {t : Str} {a b : Val} (ht : t ∈ [[61], [33, 61], [60], [60, 61], [62], [62, 61], [43], [45], [38], [42], [47], [37]]) {m : Int} (hf : fitK (markedM t).kids [a.kind, b.kind] 0 = some m) (ha : a.kind ≠ 0) (hb : b.kind ≠ 0) :
    KOk (if (markedM t).own == -1 then m else (markedM t).own) (binM t a b) := by
  have hcmp : ∀ t : Str, (comparedM t (cmpV a b)).2 = true → markedM t = ⟨[-1, -1], 3⟩ → fitK (markedM t).kids [a.kind, b.kind] 0 = some m → KOk (if (markedM t).own == -1 then m else (markedM t).own) (binM t a b) := fun t h1 h2 hf => by
    rw [h2] at hf ⊢
    have := fitSame hf rfl
    have e : a.kind = b.kind := this.2.2 ha hb
    unfold binM
    rw [h1, if_pos rfl, e]
    simp only [bne_self_eq_false, Bool.false_eq_true, if_false]
    exact .val rfl
  have har : ∀ t : Str, (comparedM t (cmpV a b)).2 = false → (t == [38]) = false → markedM t = ⟨[1, 1], 1⟩ → fitK (markedM t).kids [a.kind, b.kind] 0 = some m → KOk (if (markedM t).own == -1 then m else (markedM t).own) (binM t a b) := fun t h1 h2 h3 hf => by
    rw [h3] at hf ⊢
    have := fit2 rfl rfl (by decide) rfl rfl (by decide) hf
    unfold binM
    rw [h1, h2, show kindsM [a, b] [1, 1] = true by simp [kindsM]; omega]
    exact KOk.whole (arith_err _ _ _)
  simp only [List.mem_cons, List.not_mem_nil, or_false] at ht
  rcases ht with rfl | rfl | rfl | rfl | rfl | rfl | rfl | rfl | rfl | rfl | rfl | rfl
  · exact hcmp _ rfl rfl hf
  · exact hcmp _ rfl rfl hf
  · exact hcmp _ rfl rfl hf
  · exact hcmp _ rfl rfl hf
  · exact hcmp _ rfl rfl hf
  · exact hcmp _ rfl rfl hf
  · exact har _ rfl rfl rfl hf
  · exact har _ rfl rfl rfl hf
  · have h3 : markedM [38] = ⟨[2, 2], 2⟩ := rfl
    rw [h3] at hf ⊢
    have := fit2 rfl rfl (by decide) rfl rfl (by decide) hf
    exact join_K (by omega) (by omega)
  · exact har _ rfl rfl rfl hf
  · exact har _ rfl rfl rfl hf
  · exact har _ rfl rfl rfl hf
theorem truth_K {r : Rs} (h : KOk 3 r) : truthR r = r := by
  unfold truthR
  split
  · rename_i e
    simp only [Bool.and_eq_true, beq_iff_eq, bne_iff_ne] at e
    have := h.kind e.1.1
    omega
  · rfl
theorem logic_K {s : Val} {a b : Rs} (ha : KOk 3 a) (hb : KOk 3 b) : KOk 3 (logicR s a b) := by
  unfold logicR
  rw [truth_K ha, truth_K hb]
  split
  · exact ha
  · rename_i h1
    split
    · exact hb
    · simp only [Bool.or_eq_true, bne_iff_ne, not_or, Decidable.not_not] at h1
      exact ⟨fun _ => ha.kind h1.1, fun h => absurd rfl h⟩
theorem call_names {t : Str} {n : Nat} (h : arityM t = (n : Int)) : (t = [108, 101, 110] ∧ n = 1) ∨ (t = [115, 116, 114] ∧ n = 1) ∨ (t = [110, 117, 109] ∧ n = 1) ∨ (t = isnullW ∧ n = 1) ∨ (t = nvlW ∧ n = 2) ∨ (t = [108, 101, 102, 116] ∧ n = 2) ∨ (t = [114, 105, 103, 104, 116] ∧ n = 2) ∨ (t = ifW ∧ n = 3) := by
  by_cases hm : t ∈ arityList.map (·.1)
  · have ha : ∀ s ∈ arityList.map (·.1), (s = [108, 101, 110] ∧ arityM s = 1) ∨ (s = [115, 116, 114] ∧ arityM s = 1) ∨ (s = [110, 117, 109] ∧ arityM s = 1) ∨ (s = isnullW ∧ arityM s = 1) ∨ (s = nvlW ∧ arityM s = 2) ∨ (s = [108, 101, 102, 116] ∧ arityM s = 2) ∨ (s = [114, 105, 103, 104, 116] ∧ arityM s = 2) ∨ (s = ifW ∧ arityM s = 3) := by
      have : ((arityList.map (·.1)).all fun s => decide ((s = [108, 101, 110] ∧ arityM s = 1) ∨ (s = [115, 116, 114] ∧ arityM s = 1) ∨ (s = [110, 117, 109] ∧ arityM s = 1) ∨ (s = isnullW ∧ arityM s = 1) ∨ (s = nvlW ∧ arityM s = 2) ∨ (s = [108, 101, 102, 116] ∧ arityM s = 2) ∨ (s = [114, 105, 103, 104, 116] ∧ arityM s = 2) ∨ (s = ifW ∧ arityM s = 3))) = true := by kernel_rfl
      exact fun s hs => of_decide_eq_true (List.all_eq_true.1 this s hs)
    have := ha t hm
    rw [h] at this
    rcases this with ⟨e, h2⟩ | ⟨e, h2⟩ | ⟨e, h2⟩ | ⟨e, h2⟩ | ⟨e, h2⟩ | ⟨e, h2⟩ | ⟨e, h2⟩ | ⟨e, h2⟩
    · exact .inl ⟨e, by omega⟩
    · exact .inr (.inl ⟨e, by omega⟩)
    · exact .inr (.inr (.inl ⟨e, by omega⟩))
    · exact .inr (.inr (.inr (.inl ⟨e, by omega⟩)))
    · exact .inr (.inr (.inr (.inr (.inl ⟨e, by omega⟩))))
    · exact .inr (.inr (.inr (.inr (.inr (.inl ⟨e, by omega⟩)))))
    · exact .inr (.inr (.inr (.inr (.inr (.inr (.inl ⟨e, by omega⟩))))))
    · exact .inr (.inr (.inr (.inr (.inr (.inr (.inr ⟨e, by omega⟩))))))
  · have h1 : arityM t = -1 := by
      unfold arityM
      rw [List.find?_eq_none.2 fun p hp => by
        simp only [beq_iff_eq]
        rintro rfl
        exact hm (List.mem_map.2 ⟨p, hp, rfl⟩)]
    omega
theorem one_len {k : List Expr} (h : k.length = 1) : ∃ a, k = [a] := by match k, h with | [a], _ => exact ⟨a, rfl⟩
theorem two_len {k : List Expr} (h : k.length = 2) : ∃ a b, k = [a, b] := by match k, h with | [a, b], _ => exact ⟨a, b, rfl⟩
theorem three_len {k : List Expr} (h : k.length = 3) : ∃ a b c, k = [a, b, c] := by match k, h with | [a, b, c], _ => exact ⟨a, b, c, rfl⟩
theorem kinds_one {vs : List Val} {k : Int} (h : vs.map (·.kind) = [k]) : ∃ v, vs = [v] ∧ v.kind = k := by
  match vs, h with
  | [v], h => exact ⟨v, rfl, by simpa using h⟩
theorem kinds_two {vs : List Val} {k k' : Int} (h : vs.map (·.kind) = [k, k']) : ∃ v v', vs = [v, v'] ∧ v.kind = k ∧ v'.kind = k' := by
  match vs, h with
  | [v, v'], h => exact ⟨v, v', rfl, by simpa using h⟩
theorem kinds_K {c : List Col} {l : List Val} (hl : rowP c l = true) : ∀ (n : Nat) (e : Expr), sizeE e ≤ n → allE nodeM e = true → (kindE c e).2 = 0 → KOk (kindE c e).1 (evalE c l e)
  | 0, e, hn, _, _ => by have := sizeE_eq e; omega
  | n + 1, e, hn, hnd, hk => by
    have hnd0 := hnd
    rw [allE_eq, Bool.and_eq_true] at hnd0
    have ih : ∀ y ∈ e.kids, (kindE c y).2 = 0 → KOk (kindE c y).1 (evalE c l y) := fun y hy h0 => kinds_K hl n y (size_kids hn hy) ((allL_iff _ _).1 hnd0.2 y hy) h0
    obtain ⟨r1, r2, r3⟩ := row_iff.1 hl
    have hNC := node_cases hnd0.1
    cases hNC with
    | val v hp h0 =>
      have : kindE c (valX v) = (v.kind, 0) := by rw [valX, kindE]; rfl
      rw [this]
      exact .val rfl
    | name t ht =>
      have e1 : kindE c (nameE t) = nameK c t := by rw [nameE, kindE]; rfl
      have e2 : evalE c l (nameE t) = nameR c l t := by rw [evalE, nameE, evalS]; rfl
      rw [e1] at hk ⊢
      rw [e2]
      unfold nameK at hk ⊢
      unfold nameR
      split at hk
      · cases hk
      · rename_i hf
        rw [if_neg hf, if_neg hf]
        obtain ⟨j, z, hj, hz, hfj⟩ := find_mem.1 hf
        have hjl : j < l.length := by rw [r2]; exact (List.getElem?_eq_some_iff.1 hj).1
        have := r3 j l[j] z (List.getElem?_eq_getElem hjl) hj
        rw [hfj, Int.toNat_natCast, List.getD_eq_getElem?_getD, List.getD_eq_getElem?_getD, hj, List.getElem?_eq_getElem hjl]
        exact ⟨fun _ => by show l[j].kind = z.kind ∨ l[j].kind = 0; omega, fun h => absurd rfl h⟩
    | neg a =>
      rw [oneX] at hk ⊢
      obtain ⟨hky, m, hf, ho⟩ := kind_node hk rfl rfl
      rw [ho, evalE, evalS, evalL_map]
      have hs : signN 3 [] = ⟨[1], 1⟩ := rfl
      rw [hs] at hf ⊢
      have hm := fit1 rfl rfl (by decide) hf
      show KOk 1 (allR (strictM 3 []) ([a].map (evalS strictM c l)))
      refine all_K (g := fun y => (kindE c y).1) (fun y hy => ih y hy (hky y hy)) (fun vs hvs hnz => ?_)
      obtain ⟨v, rfl, hv⟩ := kinds_one hvs
      have hv0 := hnz v (by simp)
      have hv1 : v.kind = 1 := by omega
      unfold strictM
      rw [show kindsM [v] [1] = true by simp [kindsM, hv1]]
      exact KOk.whole (sub_err _ _)
    | no a =>
      rw [oneX] at hk ⊢
      obtain ⟨hky, m, hf, ho⟩ := kind_node hk rfl rfl
      rw [ho, evalE, evalS, evalL_map]
      have hs : signN 4 [] = ⟨[3], 3⟩ := rfl
      rw [hs] at hf ⊢
      have hm := fit1 rfl rfl (by decide) hf
      show KOk 3 (allR (strictM 4 []) ([a].map (evalS strictM c l)))
      refine all_K (g := fun y => (kindE c y).1) (fun y hy => ih y hy (hky y hy)) (fun vs hvs hnz => ?_)
      obtain ⟨v, rfl, hv⟩ := kinds_one hvs
      have hv0 := hnz v (by simp)
      have hv1 : v.kind = 3 := by omega
      unfold strictM
      rw [show kindsM [v] [3] = true by simp [kindsM, hv1]]
      exact KOk.val rfl
    | bin t a b ht =>
      rw [binX] at hk ⊢
      obtain ⟨hky, m, hf, ho⟩ := kind_node hk rfl rfl
      have ha := ih a (by simp [binX, Expr.kids]) (hky a (by simp))
      have hb := ih b (by simp [binX, Expr.kids]) (hky b (by simp))
      rw [ho, evalE, evalS, evalL_map]
      rw [show signN 5 t = markedM t from rfl] at hf ⊢
      have hmem : t ∈ levels.flatten := by
        rcases level_cases t with h | h
        · exact h
        · omega
      by_cases h1 : (t == orW) = true
      · have e : t = orW := by simpa using h1
        subst e
        rw [show markedM orW = ⟨[3, 3], 3⟩ from rfl] at hf ⊢
        have hm : ((kindE c a).1 = 0 ∨ (kindE c a).1 = 3) ∧ ((kindE c b).1 = 0 ∨ (kindE c b).1 = 3) := fit2 rfl rfl (by decide) rfl rfl (by decide) hf
        exact logic_K (ha.mono (by omega)) (hb.mono (by omega))
      · by_cases h2 : (t == andW) = true
        · have e : t = andW := by simpa using h2
          subst e
          rw [show markedM andW = ⟨[3, 3], 3⟩ from rfl] at hf ⊢
          have hm : ((kindE c a).1 = 0 ∨ (kindE c a).1 = 3) ∧ ((kindE c b).1 = 0 ∨ (kindE c b).1 = 3) := fit2 rfl rfl (by decide) rfl rfl (by decide) hf
          exact logic_K (ha.mono (by omega)) (hb.mono (by omega))
        · have e : evalN strictM c l 5 t noV ([a, b].map (evalS strictM c l)) = allR (strictM 5 t) ([a, b].map (evalS strictM c l)) := by
            unfold evalN
            rw [show (t == orW) = false by simpa using h1, show (t == andW) = false by simpa using h2]
            rfl
          rw [e]
          have hm12 : t ∈ [[61], [33, 61], [60], [60, 61], [62], [62, 61], [43], [45], [38], [42], [47], [37]] := by
            have h1' : t ≠ orW := by simpa using h1
            have h2' : t ≠ andW := by simpa using h2
            simp only [levels, List.flatten_cons, List.flatten_nil, List.cons_append, List.nil_append, List.append_nil, List.mem_cons, List.not_mem_nil, or_false] at hmem ⊢
            rcases hmem with h | h | h
            · exact absurd h h1'
            · exact absurd h h2'
            · exact h
          refine all_K (g := fun y => (kindE c y).1) (fun y hy => ih y hy (hky y hy)) (fun vs hvs hnz => ?_)
          obtain ⟨v, v', rfl, hv, hv'⟩ := kinds_two hvs
          have hf' : fitK (markedM t).kids [v.kind, v'.kind] 0 = some m := by rw [hv, hv']; exact hf
          exact bin_K hm12 hf' (hnz v (by simp)) (hnz v' (by simp))
    | call t k ht =>
      obtain ⟨hky, m, hf, ho⟩ := kind_node hk rfl rfl
      rw [ho, evalE, evalS, evalL_map]
      rw [show signN 6 t = calledM t from rfl] at hf ⊢
      rcases call_names ht with ⟨rfl, hn1⟩ | ⟨rfl, hn1⟩ | ⟨rfl, hn1⟩ | ⟨rfl, hn1⟩ | ⟨rfl, hn1⟩ | ⟨rfl, hn1⟩ | ⟨rfl, hn1⟩ | ⟨rfl, hn1⟩
      · obtain ⟨a, rfl⟩ := one_len hn1
        have hs : calledM [108, 101, 110] = ⟨[2], 1⟩ := rfl
        rw [hs] at hf ⊢
        have hm := fit1 rfl rfl (by decide) hf
        show KOk 1 (allR (strictM 6 [108, 101, 110]) ([a].map (evalS strictM c l)))
        refine all_K (g := fun y => (kindE c y).1) (fun y hy => ih y hy (hky y hy)) (fun vs hvs hnz => ?_)
        obtain ⟨v, rfl, hv⟩ := kinds_one hvs
        have hv0 := hnz v (by simp)
        have hv1 : v.kind = 2 := by omega
        show KOk 1 (fun1M [108, 101, 110] v)
        unfold fun1M
        rw [hv1]
        exact KOk.val rfl
      · obtain ⟨a, rfl⟩ := one_len hn1
        have hs : calledM [115, 116, 114] = ⟨[1], 2⟩ := rfl
        rw [hs] at hf ⊢
        have hm := fit1 rfl rfl (by decide) hf
        show KOk 2 (allR (strictM 6 [115, 116, 114]) ([a].map (evalS strictM c l)))
        refine all_K (g := fun y => (kindE c y).1) (fun y hy => ih y hy (hky y hy)) (fun vs hvs hnz => ?_)
        obtain ⟨v, rfl, hv⟩ := kinds_one hvs
        have hv0 := hnz v (by simp)
        have hv1 : v.kind = 1 := by omega
        show KOk 2 (fun1M [115, 116, 114] v)
        unfold fun1M
        rw [hv1]
        exact KOk.val rfl
      · obtain ⟨a, rfl⟩ := one_len hn1
        have hs : calledM [110, 117, 109] = ⟨[2], 1⟩ := rfl
        rw [hs] at hf ⊢
        have hm := fit1 rfl rfl (by decide) hf
        show KOk 1 (allR (strictM 6 [110, 117, 109]) ([a].map (evalS strictM c l)))
        refine all_K (g := fun y => (kindE c y).1) (fun y hy => ih y hy (hky y hy)) (fun vs hvs hnz => ?_)
        obtain ⟨v, rfl, hv⟩ := kinds_one hvs
        have hv0 := hnz v (by simp)
        have hv1 : v.kind = 2 := by omega
        show KOk 1 (fun1M [110, 117, 109] v)
        unfold fun1M
        rw [hv1]
        exact KOk.whole (num_err _)
      · obtain ⟨a, rfl⟩ := one_len hn1
        have ha := ih a (by simp [Expr.kids]) (hky a (by simp))
        have hs : calledM isnullW = ⟨[-2], 3⟩ := rfl
        rw [hs]
        show KOk 3 (callR isnullW (evalE c l a) (noV, 0) (noV, 0))
        unfold callR
        rw [show (isnullW == ifW) = false from rfl, show (isnullW == isnullW) = true from rfl]
        simp only [Bool.false_eq_true, if_false, if_true]
        split
        · rename_i h; exact .wrong (ha.err (by simpa using h))
        · exact .val rfl
      · obtain ⟨a, b, rfl⟩ := two_len hn1
        have ha := ih a (by simp [Expr.kids]) (hky a (by simp))
        have hb := ih b (by simp [Expr.kids]) (hky b (by simp))
        have hs : calledM nvlW = ⟨[-1, -1], -1⟩ := rfl
        rw [hs] at hf ⊢
        have hm : ((kindE c a).1 = 0 ∨ (kindE c a).1 = m) ∧ ((kindE c b).1 = 0 ∨ (kindE c b).1 = m) ∧ ((kindE c a).1 ≠ 0 → (kindE c b).1 ≠ 0 → (kindE c a).1 = (kindE c b).1) := fitSame hf rfl
        show KOk m (callR nvlW (evalE c l a) (evalE c l b) (noV, 0))
        unfold callR
        rw [show (nvlW == ifW) = false from rfl, show (nvlW == isnullW) = false from rfl]
        simp only [Bool.false_eq_true, if_false]
        split
        · rename_i h; exact .wrong (ha.err (by simpa using h))
        · rename_i h
          split
          · rename_i h2
            have := ha.kind (by simpa using h)
            have h2 : (evalE c l a).1.kind ≠ 0 := by simpa using h2
            exact .val (by omega)
          · exact hb.mono (by omega)
      · obtain ⟨a, b, rfl⟩ := two_len hn1
        have hs : calledM [108, 101, 102, 116] = ⟨[2, 1], 2⟩ := rfl
        rw [hs] at hf ⊢
        have hm := fit2 rfl rfl (by decide) rfl rfl (by decide) hf
        show KOk 2 (allR (strictM 6 [108, 101, 102, 116]) ([a, b].map (evalS strictM c l)))
        refine all_K (g := fun y => (kindE c y).1) (fun y hy => ih y hy (hky y hy)) (fun vs hvs hnz => ?_)
        obtain ⟨v, v', rfl, hv, hv'⟩ := kinds_two hvs
        have hv0 := hnz v (by simp)
        have hv0' := hnz v' (by simp)
        have hv1 : v.kind = 2 := by omega
        have hv1' : v'.kind = 1 := by omega
        unfold strictM
        rw [show kindsM [v, v'] [2, 1] = true by simp [kindsM, hv1, hv1']]
        exact KOk.val rfl
      · obtain ⟨a, b, rfl⟩ := two_len hn1
        have hs : calledM [114, 105, 103, 104, 116] = ⟨[2, 1], 2⟩ := rfl
        rw [hs] at hf ⊢
        have hm := fit2 rfl rfl (by decide) rfl rfl (by decide) hf
        show KOk 2 (allR (strictM 6 [114, 105, 103, 104, 116]) ([a, b].map (evalS strictM c l)))
        refine all_K (g := fun y => (kindE c y).1) (fun y hy => ih y hy (hky y hy)) (fun vs hvs hnz => ?_)
        obtain ⟨v, v', rfl, hv, hv'⟩ := kinds_two hvs
        have hv0 := hnz v (by simp)
        have hv0' := hnz v' (by simp)
        have hv1 : v.kind = 2 := by omega
        have hv1' : v'.kind = 1 := by omega
        unfold strictM
        rw [show kindsM [v, v'] [2, 1] = true by simp [kindsM, hv1, hv1']]
        exact KOk.val rfl
      · obtain ⟨a, b, d, rfl⟩ := three_len hn1
        have ha := ih a (by simp [Expr.kids]) (hky a (by simp))
        have hb := ih b (by simp [Expr.kids]) (hky b (by simp))
        have hd := ih d (by simp [Expr.kids]) (hky d (by simp))
        have hs : calledM ifW = ⟨[3, -1, -1], -1⟩ := rfl
        rw [hs] at hf ⊢
        have hf' : fitK [3] [(kindE c a).1] 0 = some 0 ∧ fitK [-1, -1] [(kindE c b).1, (kindE c d).1] 0 = some m := by
          simp only [List.map_cons, List.map_nil] at hf
          rw [fitK] at hf
          simp only [show ((3 : Int) == -2) = false from rfl, show ((3 : Int) == -1) = false from rfl, Bool.false_eq_true, if_false] at hf
          split at hf
          · rename_i hm
            refine ⟨?_, hf⟩
            rw [fitK]
            simp only [show ((3 : Int) == -2) = false from rfl, show ((3 : Int) == -1) = false from rfl, Bool.false_eq_true, if_false, hm, if_true]
            rw [fitK]
          · cases hf
        have hm1 := fit1 rfl rfl (by decide) hf'.1
        have hm := fitSame hf'.2 rfl
        show KOk m (callR ifW (evalE c l a) (evalE c l b) (evalE c l d))
        unfold callR
        rw [show (ifW == ifW) = true from rfl, if_pos rfl, truth_K (ha.mono (by omega))]
        split
        · rename_i h; exact .wrong (ha.err (by simpa using h))
        · split
          · exact hb.mono (by omega)
          · exact hd.mono (by omega)
end Go.SX.Nb
namespace Go.SX.Nb
open Go Go.SX Go.Proofs
variable [ErrAt]
set_option maxRecDepth 4000
theorem kids_len {e : Expr} (h : nodeM e = true) : (e.op = 5 → e.kids.length = 2) ∧ (e.op = 3 ∨ e.op = 4 → e.kids.length = 1) ∧ (e.op = 6 → arityM e.text = (e.kids.length : Int)) ∧ (e.op = 1 ∨ e.op = 2 ∨ e.op = 3 ∨ e.op = 4 ∨ e.op = 5 ∨ e.op = 6) := by
  cases node_cases h with
  | val v hp h0 => simp [valX, Expr.op]
  | name t ht => simp [nameE, Expr.op]
  | neg a => simp [oneX, Expr.op, Expr.kids]
  | no a => simp [oneX, Expr.op, Expr.kids]
  | bin t a b ht => simp [binX, Expr.op, Expr.kids]
  | call t k ht => simpa [Expr.op, Expr.kids, Expr.text] using ht
theorem kidD {k : List Expr} {i : Nat} (h : i < k.length) : (k.map exprA)[i]? = some (exprA (k.getD i nullX)) ∧ k.getD i nullX ∈ k ∧ ∀ (f : Expr → Rs) (d : Rs), (k.map f).getD i d = f (k.getD i nullX) := by
  have e : k.getD i nullX = k[i] := by rw [List.getD_eq_getElem?_getD, List.getElem?_eq_getElem h]; rfl
  rw [e]
  refine ⟨by simp [h], List.getElem_mem h, fun f d => ?_⟩
  rw [List.getD_eq_getElem?_getD, List.getElem?_map, List.getElem?_eq_getElem h]
  rfl
theorem evalN_strict {c : List Col} {l : List Val} {e : Expr} (h1 : (e.op == 1) = false) (h2 : (e.op == 2) = false) (h3 : ((e.op == 5) && (e.text == orW)) = false) (h4 : ((e.op == 5) && (e.text == andW)) = false) (h5 : ((e.op == 6) && (((e.text == ifW) || (e.text == nvlW)) || (e.text == isnullW))) = false) : evalE c l e = allR (strictM e.op e.text) (e.kids.map (evalE c l)) := by
  rw [evalE, evalS_eq]
  unfold evalN
  rw [h1, h2, h3, h4, h5]
  rfl
theorem args_ok {c : List Col} {l : List Val} (hf : ∀ v ∈ l, Fine v) {e : Expr} (hnd : allE nodeM e = true) (hrg : allE rngN e = true) (hv : allE valOk e = true) (h5 : ((e.op == 6) && (((e.text == ifW) || (e.text == nvlW)) || (e.text == isnullW))) = false) : ArgsOk e.op (e.kids.map fun y => (evalE c l y).1) := by
  rw [allE_eq, Bool.and_eq_true] at hnd hrg hv
  obtain ⟨k5, k34, k6, _⟩ := kids_len hnd.1
  refine ⟨fun h => ?_, fun h => by rw [List.length_map]; exact k34 h, fun h => ?_, fun v hv' => ?_⟩
  · obtain ⟨a, b, e⟩ := two_len (k5 h)
    rw [e]
    exact ⟨_, _, rfl⟩
  · rw [List.length_map]
    rw [h] at h5
    simp only [beq_self_eq_true, Bool.true_and, Bool.or_eq_false_iff, beq_eq_false_iff_ne] at h5
    rcases call_names (k6 h) with ⟨_, h⟩ | ⟨_, h⟩ | ⟨_, h⟩ | ⟨e, _⟩ | ⟨e, _⟩ | ⟨_, h⟩ | ⟨_, h⟩ | ⟨e, _⟩
    · exact .inl h
    · exact .inl h
    · exact .inl h
    · exact absurd e h5.2
    · exact absurd e h5.1.2
    · obtain ⟨a, b, e⟩ := two_len h
      rw [e]
      exact .inr ⟨_, _, rfl⟩
    · obtain ⟨a, b, e⟩ := two_len h
      rw [e]
      exact .inr ⟨_, _, rfl⟩
    · exact absurd e h5.1.1
  · obtain ⟨y, hy, rfl⟩ := List.mem_map.1 hv'
    exact fine_eval hf y ((allL_iff _ _).1 hv.2 y hy) ((allL_iff _ _).1 hrg.2 y hy)
theorem call_isnull (a b d : Rs) : callR isnullW a b d = callR isnullW a (noV, 0) (noV, 0) := by
  unfold callR
  rw [show (isnullW == ifW) = false from rfl, show (isnullW == isnullW) = true from rfl]
  rfl
theorem call_third {t : Str} (h : (t == ifW) = false) (a b d d' : Rs) : callR t a b d = callR t a b d' := by
  unfold callR
  rw [h]
  rfl
theorem call_second {t : Str} (h : (t == isnullW) = true) (a b b' d d' : Rs) : callR t a b d = callR t a b' d' := by
  have e : t = isnullW := by simpa using h
  subst e
  rw [call_isnull, call_isnull a b' d']
theorem call_kids {t : Str} {k : List Expr} {f : Expr → Rs} {a : Rs} (h1 : (t == isnullW) = false → 1 < k.length) (h2 : (t == ifW) = true → 2 < k.length) : callR t a ((k.map f).getD 1 (noV, 0)) ((k.map f).getD 2 (noV, 0)) = callR t a (f (k.getD 1 nullX)) (f (k.getD 2 nullX)) := by
  cases hn : t == isnullW with
  | true => exact call_second hn _ _ _ _ _
  | false =>
    rw [(kidD (h1 hn)).2.2]
    cases hi : t == ifW with
    | true => rw [(kidD (h2 hi)).2.2]
    | false => exact call_third hi _ _ _ _
theorem c25 (c : List Col) (l : List Val) (hc : OkCols c) (hl : l.length = c.length) (hf : ∀ v ∈ l, Fine v) : ∀ (n : Nat) (e : Expr), okE n e → allE nodeM e = true → allE rngN e = true → allE valOk e = true → EvalsTo c l e (evalE c l e) := by
  intro n
  induction n with
  | zero => exact fun e h => h.elim
  | succ n ih =>
  intro e hok hnd hrg hvo Hp
  have hnd0 := hnd
  have hrg0 := hrg
  have hvo0 := hvo
  rw [allE_eq, Bool.and_eq_true] at hnd0 hrg0 hvo0
  have hev : ∀ y ∈ e.kids, EvalsTo c l y (evalE c l y) := fun y hy => ih y (hok.2.2 y hy) ((allL_iff _ _).1 hnd0.2 y hy) ((allL_iff _ _).1 hrg0.2 y hy) ((allL_iff _ _).1 hvo0.2 y hy)
  obtain ⟨k5, k34, k6, _⟩ := kids_len hnd0.1
  have hev0 : evalE c l e = evalN strictM c l e.op e.text e.val (e.kids.map (evalE c l)) := evalS_eq _ _ _ _
  refine ACall.body [.cell 4 24, .tmp 5] [0, 1] Tryz.func25 Tryz.ntmps25 (fun d => ?_)
  refine AW.seqR ?_
  refine R.boxRo ?_
  refine R.boxRo ?_
  refine R.alloc Tryz.zeroValue24 ?_
  refine R.assign ?_
  refine R.fin [2, 3, 4] ?_
  refine W.seq ?_
  refine AW.block ?_
  refine AW.seqR ?_
  refine R.fieldAddrRo (off := 0) Tryz.underlying35 Tryz.sizeOf3 ?_
  refine R.loadRo Tryz.isAgg3 ?_
  refine R.eql ?_
  refine R.assign ?_
  refine R.fin [2, 3, 4, 7] ?_
  refine W.cond (fun ht7 => ?_) (fun ht7 => ?_)
  · skip
    have hm : evalE c l e = (e.val, 0) := by rw [hev0]; unfold evalN; rw [if_pos ht7]
    refine AW.seqR ?_
    refine R.fieldAddrRo (off := 2) Tryz.underlying35 Tryz.sizeOf24 ?_
    refine R.loadRoN Tryz.isAgg24 Tryz.sizeOf24 ?_
    refine R.storeOwn Tryz.sizeOf24 ?_
    refine R.assign ?_
    refine R.fin [4, 5] ?_
    refine AW.ret ?_
    refine K.blR ?_
    refine K.thR ?_
    exact K.fin (V.two (V.cellN Tryz.isAgg24 Tryz.sizeOf24) V.tmp) ⟨by rw [hm]; try rfl, rfl⟩
  · skip
    refine AW.seqR ?_
    refine R.fieldAddrRo (off := 0) Tryz.underlying35 Tryz.sizeOf3 ?_
    refine R.loadRo Tryz.isAgg3 ?_
    refine R.eql ?_
    refine R.assign ?_
    refine R.fin [2, 3, 4, 13] ?_
    refine W.cond (fun ht13 => ?_) (fun ht13 => ?_)
    · skip
      have hm0 : evalE c l e = nameR c l e.text := by rw [hev0]; unfold evalN; rw [if_neg (by rw [ht7]; simp), if_pos ht13]
      refine AW.seqR ?_
      refine R.fieldAddrRo (off := 0) Tryz.underlying59 Tryz.sizeOf28 ?_
      refine R.loadRo Tryz.isAgg28 ?_
      refine R.fieldAddrRo (off := 1) Tryz.underlying35 Tryz.sizeOf9 ?_
      refine R.loadRo Tryz.isAgg9 ?_
      refine R.call Tryz.call33 (c33 c hc e.text _) ?_
      refine R.assign ?_
      refine R.fin [2, 4, 6] ?_
      refine W.seq ?_
      refine AW.seqR ?_
      refine R.move ?_
      refine R.lss ?_
      refine R.fin [2, 4, 6, 23] ?_
      refine W.cond (fun ht23 => ?_) (fun ht23 => ?_)
      · skip
        have hm : evalE c l e = wrongR 9 := by rw [hm0]; exact if_pos (by simpa using ht23)
        refine AW.seqR ?_
        refine R.call Tryz.call24 (c24 _ _) ?_
        refine R.extract ?_
        refine R.extract ?_
        refine R.storeOwn Tryz.sizeOf24 ?_
        refine R.assign ?_
        refine R.fin [4, 5] ?_
        refine AW.ret ?_
        refine K.thR ?_
        refine K.blR ?_
        refine K.thR ?_
        exact K.fin (V.two (V.cellN Tryz.isAgg24 Tryz.sizeOf24) V.tmp) ⟨by rw [hm]; try rfl, rfl⟩
      · skip
        have hneg : ¬ (findM e.text c < 0) := by simpa using ht23
        obtain ⟨j, hj, hjc⟩ := find_col hneg
        have hjl : j < l.length := by omega
        have hm : evalE c l e = (l[j], 0) := by
          rw [hm0]
          unfold nameR
          rw [if_neg hneg, hj, Int.toNat_natCast, List.getD_eq_getElem?_getD, List.getElem?_eq_getElem hjl]
          rfl
        rw [hj]
        refine AW.skip ?_
        refine K.thN ?_
        refine AW.seqR ?_
        refine R.fieldAddrRo (off := 1) Tryz.underlying59 Tryz.sizeOf25 ?_
        refine R.loadRo Tryz.isAgg25 ?_
        refine R.move ?_
        refine R.indexAddr (j) (valA l[j]) Tryz.underlying25 Tryz.sizeOf24 (getMap hjl) ?_
        refine R.loadRoN Tryz.isAgg24 Tryz.sizeOf24 ?_
        refine R.storeOwn Tryz.sizeOf24 ?_
        refine R.assign ?_
        refine R.fin [4, 5] ?_
        refine AW.ret ?_
        refine K.blR ?_
        refine K.thR ?_
        exact K.fin (V.two (V.cellN Tryz.isAgg24 Tryz.sizeOf24) V.tmp) ⟨by rw [hm]; try rfl, rfl⟩
    · skip
      refine AW.seqR ?_
      refine R.fieldAddrRo (off := 0) Tryz.underlying35 Tryz.sizeOf3 ?_
      refine R.loadRo Tryz.isAgg3 ?_
      refine R.eql ?_
      refine R.move ?_
      refine G.fieldAddrRo (off := 1) Tryz.underlying35 Tryz.sizeOf9 ?_
      refine G.loadRo Tryz.isAgg9 ?_
      refine G.seql ?_
      refine R.pickAnd ?_
      refine R.assign ?_
      refine R.fin [2, 3, 4, 32] ?_
      refine W.cond (fun ht32 => ?_) (fun ht32 => ?_)
      · skip
        have h32 : ((e.op == 5) && (e.text == orW)) = true := ht32
        have hop : e.op = 5 := by simp only [Bool.and_eq_true, beq_iff_eq] at h32; exact h32.1
        have hkl := k5 hop
        have hm : evalE c l e = logicR (boolV true) (evalE c l (e.kids.getD 0 nullX)) (evalE c l (e.kids.getD 1 nullX)) := by rw [hev0]; unfold evalN; rw [if_neg (by rw [ht7]; simp), if_neg (by rw [ht13]; simp), if_pos h32, (kidD (by omega)).2.2, (kidD (by omega)).2.2]
        refine W.draw [0, 0, 0, 7, 15, 15, 63, 127] 6 Tryzmixed (by kernel_rfl) ?_
        refine D.loadRoN Tryz.isAgg59 Tryz.sizeOf59 ?_
        refine D.loadRoN Tryz.isAgg35 Tryz.sizeOf35 ?_
        refine D.call Tryz.call38 (c38 _ _) ?_
        refine D.call Tryz.call37 (c37 c l e (e.kids.getD 0 nullX) (e.kids.getD 1 nullX) (boolV true) _ _ (kidD (by omega)).1 (kidD (by omega)).1 (hev _ (kidD (by omega)).2.1) (hev _ (kidD (by omega)).2.1) _) ?_
        refine D.extract ?_
        refine D.extract ?_
        refine D.tail ?_
        refine R.storeOwn Tryz.sizeOf24 ?_
        refine R.assign ?_
        refine R.fin [4, 5] ?_
        refine AW.ret ?_
        refine K.blR ?_
        refine K.thR ?_
        exact K.fin (V.two (V.cellN Tryz.isAgg24 Tryz.sizeOf24) V.tmp) ⟨by rw [hm]; try rfl, rfl⟩
      · skip
        have h32 : ((e.op == 5) && (e.text == orW)) = false := ht32
        refine AW.seqR ?_
        refine R.fieldAddrRo (off := 0) Tryz.underlying35 Tryz.sizeOf3 ?_
        refine R.loadRo Tryz.isAgg3 ?_
        refine R.eql ?_
        refine R.move ?_
        refine G.fieldAddrRo (off := 1) Tryz.underlying35 Tryz.sizeOf9 ?_
        refine G.loadRo Tryz.isAgg9 ?_
        refine G.seql ?_
        refine R.pickAnd ?_
        refine R.assign ?_
        refine R.fin [2, 3, 4, 47] ?_
        refine W.cond (fun ht47 => ?_) (fun ht47 => ?_)
        · skip
          have h47 : ((e.op == 5) && (e.text == andW)) = true := ht47
          have hop : e.op = 5 := by simp only [Bool.and_eq_true, beq_iff_eq] at h47; exact h47.1
          have hkl := k5 hop
          have hm : evalE c l e = logicR (boolV false) (evalE c l (e.kids.getD 0 nullX)) (evalE c l (e.kids.getD 1 nullX)) := by rw [hev0]; unfold evalN; rw [if_neg (by rw [ht7]; simp), if_neg (by rw [ht13]; simp), if_neg (by rw [h32]; simp), if_pos h47, (kidD (by omega)).2.2, (kidD (by omega)).2.2]
          refine W.draw [0, 0, 0, 7, 15, 15, 63, 127] 6 Tryzmixed (by kernel_rfl) ?_
          refine D.loadRoN Tryz.isAgg59 Tryz.sizeOf59 ?_
          refine D.loadRoN Tryz.isAgg35 Tryz.sizeOf35 ?_
          refine D.call Tryz.call38 (c38 _ _) ?_
          refine D.call Tryz.call37 (c37 c l e (e.kids.getD 0 nullX) (e.kids.getD 1 nullX) (boolV false) _ _ (kidD (by omega)).1 (kidD (by omega)).1 (hev _ (kidD (by omega)).2.1) (hev _ (kidD (by omega)).2.1) _) ?_
          refine D.extract ?_
          refine D.extract ?_
          refine D.tail ?_
          refine R.storeOwn Tryz.sizeOf24 ?_
          refine R.assign ?_
          refine R.fin [4, 5] ?_
          refine AW.ret ?_
          refine K.blR ?_
          refine K.thR ?_
          exact K.fin (V.two (V.cellN Tryz.isAgg24 Tryz.sizeOf24) V.tmp) ⟨by rw [hm]; try rfl, rfl⟩
        · skip
          have h47 : ((e.op == 5) && (e.text == andW)) = false := ht47
          refine AW.seqR ?_
          refine R.fieldAddrRo (off := 0) Tryz.underlying35 Tryz.sizeOf3 ?_
          refine R.loadRo Tryz.isAgg3 ?_
          refine R.eql ?_
          refine R.move ?_
          refine G.fieldAddrRo (off := 1) Tryz.underlying35 Tryz.sizeOf9 ?_
          refine G.loadRo Tryz.isAgg9 ?_
          refine G.seql ?_
          refine G.move ?_
          refine G.fieldAddrRo (off := 1) Tryz.underlying35 Tryz.sizeOf9 ?_
          refine G.loadRo Tryz.isAgg9 ?_
          refine G.seql ?_
          refine G.pickOr ?_
          refine G.move ?_
          refine G.fieldAddrRo (off := 1) Tryz.underlying35 Tryz.sizeOf9 ?_
          refine G.loadRo Tryz.isAgg9 ?_
          refine G.seql ?_
          refine G.pickOr ?_
          refine R.pickAnd ?_
          refine R.assign ?_
          refine R.fin [2, 3, 4, 62] ?_
          refine W.cond (fun ht62 => ?_) (fun ht62 => ?_)
          · skip
            have h62 : ((e.op == 6) && (((e.text == ifW) || (e.text == nvlW)) || (e.text == isnullW))) = true := ht62
            obtain ⟨hkl, hl1, hl2⟩ : 0 < e.kids.length ∧ ((e.text == isnullW) = false → 1 < e.kids.length) ∧ ((e.text == ifW) = true → 2 < e.kids.length) := by
              have h := h62
              simp only [Bool.and_eq_true, Bool.or_eq_true, beq_iff_eq] at h
              have ha := k6 h.1
              rcases h.2 with (h1 | h1) | h1
              · rw [h1] at ha ⊢
                have : e.kids.length = 3 := by have : arityM ifW = 3 := by kernel_rfl
                                               omega
                exact ⟨by omega, fun _ => by omega, fun _ => by omega⟩
              · rw [h1] at ha ⊢
                have : e.kids.length = 2 := by have : arityM nvlW = 2 := by kernel_rfl
                                               omega
                exact ⟨by omega, fun _ => by omega, fun h => absurd h (by decide)⟩
              · rw [h1] at ha ⊢
                have : e.kids.length = 1 := by have : arityM isnullW = 1 := by kernel_rfl
                                               omega
                exact ⟨by omega, fun h => absurd h (by decide), fun h => absurd h (by decide)⟩
            have hm : evalE c l e = callR e.text (evalE c l (e.kids.getD 0 nullX)) (evalE c l (e.kids.getD 1 nullX)) (evalE c l (e.kids.getD 2 nullX)) := by
              rw [hev0]
              unfold evalN
              rw [if_neg (by rw [ht7]; simp), if_neg (by rw [ht13]; simp), if_neg (by rw [h32]; simp), if_neg (by rw [h47]; simp), if_pos h62, (kidD hkl).2.2]
              exact call_kids hl1 hl2
            refine AW.seqR ?_
            refine R.loadRoN Tryz.isAgg59 Tryz.sizeOf59 ?_
            refine R.loadRoN Tryz.isAgg35 Tryz.sizeOf35 ?_
            refine R.call Tryz.call39 (c39 c l e (e.kids.getD 0 nullX) (e.kids.getD 1 nullX) (e.kids.getD 2 nullX) _ _ _ (kidD (by omega)).1 (fun h => (kidD (hl1 h)).1) (fun h => (kidD (hl2 h)).1) (hev _ (kidD (by omega)).2.1) (fun h => hev _ (kidD (hl1 h)).2.1) (fun h => hev _ (kidD (hl2 h)).2.1) _) ?_
            refine R.extract ?_
            refine R.extract ?_
            refine R.storeOwn Tryz.sizeOf24 ?_
            refine R.assign ?_
            refine R.fin [4, 5] ?_
            refine AW.ret ?_
            refine K.blR ?_
            refine K.thR ?_
            exact K.fin (V.two (V.cellN Tryz.isAgg24 Tryz.sizeOf24) V.tmp) ⟨by rw [hm]; try rfl, rfl⟩
          · skip
            have h62 : ((e.op == 6) && (((e.text == ifW) || (e.text == nvlW)) || (e.text == isnullW))) = false := ht62
            have hm := evalN_strict (c := c) (l := l) ht7 ht13 h32 h47 h62
            refine AW.skip ?_
            refine K.blN ?_
            refine K.thN ?_
            refine AW.seqR ?_
            refine R.loadRoN Tryz.isAgg59 Tryz.sizeOf59 ?_
            refine R.loadRoN Tryz.isAgg35 Tryz.sizeOf35 ?_
            refine R.call Tryz.call40 (c40 c l e hok.2.1 hev (fun _ => args_ok hf hnd hrg hvo h62) _) ?_
            refine R.extract ?_
            refine R.extract ?_
            refine R.storeOwn Tryz.sizeOf24 ?_
            refine R.assign ?_
            refine R.fin [4, 5] ?_
            refine AW.ret ?_
            exact K.fin (V.two (V.cellN Tryz.isAgg24 Tryz.sizeOf24) V.tmp) ⟨by rw [hm]; try rfl, rfl⟩

end Go.SX.Nb
namespace Go.SX.Nb
open Go Go.SX Go.Proofs
variable [ErrAt]
set_option maxRecDepth 4000
abbrev xo (own : Bool) (t : Str) (ks : List Expr) : AObj := .cells 35 [intA 6, strA t, intA 0, intA 0, strA [], .slice own 6 (ks.map exprA)]
theorem low_xo {n : Nat} {own : Bool} {t : Str} {ks : List Expr} : ObjLow n (xo own t ks) := by
  show ∀ z ∈ [intA 6, strA t, intA 0, intA 0, strA [], AV.slice own 6 (ks.map exprA)], Low n z
  intro z hz
  simp only [List.mem_cons, List.not_mem_nil, or_false] at hz
  rcases hz with rfl | rfl | rfl | rfl | rfl | rfl
  all_goals first | exact low_exprs | simp
theorem const69 : constAV (.agg #[.int .i64 0, .string ⟨#[]⟩, .int .i64 0, .int .i64 0, .string ⟨#[]⟩, .slice none 0 0]) = .agg [intA 0, strA [], intA 0, intA 0, strA [], .nil] := rfl
attribute [go_sem] const69
theorem gA {Hp : List AObj} {o ox : Nat} {z A B : AObj} (ho : Hp[o]? = some z) (hne : ox ≠ o) : ((Hp.set o A).set ox B)[o]? = some A := by rw [List.getElem?_set_ne hne]; exact getset ho
theorem gB {Hp : List AObj} {o ox : Nat} {z A B : AObj} (hox : Hp[ox]? = some z) : ((Hp.set o A).set ox B)[ox]? = some B := by
  have := (List.getElem?_eq_some_iff.1 hox).1
  simp [this]
theorem setA {Hp : List AObj} {o ox : Nat} {A A' B : AObj} (hne : ox ≠ o) : ((Hp.set o A).set ox B).set o A' = (Hp.set o A').set ox B := by rw [List.set_comm _ _ hne, List.set_set]
theorem exprs_snoc (ks : List Expr) (x : Expr) : ks.map exprA ++ [.agg [.v (.int .i64 x.op), .v (sv x.text), .v (.int .i64 x.val.kind), .v (.int .i64 x.val.n), .v (sv x.val.s), .slice false 6 (x.kids.map exprA)]] = (ks ++ [x]).map exprA := by rw [List.map_append, List.map_cons, List.map_nil, exprA_eq x]
theorem c204 (l : List Tok) (S : PS) (t : Str) (Dv : Fam) (o ox : Nat) (Hp : List AObj) (hne : ox ≠ o) (ho : Hp[o]? = some (pr l S)) (hox : Hp[ox]? = some (xo true t [])) (hi : S.i < l.length) (hl : TokEnd l) (hll : l.length ≤ 1048576) (hf : Good l S.nest Dv.ei) (hcf : PC 45 l Dv.ei S.nest) : ACall Tryz.prog 204 [.ptr ox 0, .ro [.ptr o 0]] Hp (fun r H' => r = exprA (.mk 6 t noV (argsM l Dv.ei S).1) ∧ H' = (Hp.set o (pr l (argsM l Dv.ei S).2)).set ox (xo true t (argsM l Dv.ei S).1)) := by
  have hoxl := (List.getElem?_eq_some_iff.1 hox).1
  have hol := (List.getElem?_eq_some_iff.1 ho).1
  refine ACall.body [.cell 2 35] [0, 1] Tryz.func204 Tryz.ntmps204 (fun d => ?_)
  refine AW.seqR ?_
  refine R.alloc Tryz.zeroValue35 ?_
  refine R.fin [0, 1, 2] ?_
  refine W.drawT [0, 1, 0, 4, 3, 0, 63, 127, 255, 127, 639] [1, 3] [.q 1 [] [0], .s [4] (some 0) [] [], .q 1 [] [1], .s [6] (some 1) [] [], .q 2 [] []] (fun B => (Hp.set o (if B 1 = true then pr l (Dv.ei S).2 else pr l S)).set ox (if B 0 = true then xo false t [] else xo true t [])) (fun _ => [zero69]) Tryzmixed (by kernel_rfl) (by simp only [Bool.false_eq_true, if_false]; rw [set_same ho, set_same hox]) rfl (fun B => by simp) ?_
  apply Y.q
  case h1 =>
    intro B hT hF
    refine D.fieldAddrPtr (fo := 5) Tryz.underlying35 Tryz.sizeOf33 ?_
    exact D.end rfl rfl
  case hTF => decide
  refine Y.loadUpT (o := ox) (t' := 35) (cs := [intA 6, strA t, intA 0, intA 0, strA [], .slice true 6 ([].map exprA)]) (cs' := [intA 6, strA t, intA 0, intA 0, strA [], .slice false 6 ([].map exprA)]) Tryz.isAgg33 (fun B hB => ⟨by simp only [hB]; exact gB hox, by simp [upd, List.set_set] <;> rfl, rfl⟩) ?_
  apply Y.q
  case h1 =>
    intro B hT hF
    refine D.loadRo Tryz.isAgg84 ?_
    exact D.end rfl rfl
  case hTF => decide
  refine Y.callUp (r := exprA (Dv.ei S).1) (o := o) (x0 := pr l S) (x := pr l (Dv.ei S).2) Tryz.call45 (fun B hT hF hB => ⟨by simp only [hB]; exact gA ho hne, ?_, rfl, low_pr, ?_⟩) ?_
  · simp only [upd, hB, Nat.reduceEqDiff, if_false, if_true, Bool.false_eq_true]
    exact (setA hne).symm
  · simp only [hB]
    exact hcf o _ S (get_up (gA ho hne)) hi rfl
  apply Y.q
  case h1 =>
    intro B hT hF
    refine D.len Tryz.underlying33 ?_
    refine D.buildSlice Tryz.underlying33 Tryz.sizeOf35 Tryz.zeroValue35 ?_
    exact D.end rfl rfl
  case hTF => decide
  refine Y.appendPut (tn := [1, 3]) (U := (Hp.set o (pr l (Dv.ei S).2)).set ox (xo false t [])) (O := [zero69]) (o := ox) (t' := 35) (cs := [intA 6, strA t, intA 0, intA 0, strA [], .slice false 6 ([].map exprA)]) (by kernel_rfl) Tryz.underlying33 Tryz.type35 Tryz.sizeOf35 Tryz.sizeOf33 Tryz.underlying35 (get_up (gB hox)) ?_ ?_ ?_ (hfsz := Tryz.sizeOf33)
  · simp [Tryz.t35]
  · simp [Tryz.t35]
  refine R.fieldAddrPtr (fo := 5) Tryz.underlying35 Tryz.sizeOf33 ?_
  refine R.storeUpT Tryz.sizeOf33 (gB hox) ?_ ?_
  · first | (rw [exprs_snoc]; exact low_exprs) | (have := low_exprs (n := ((Hp.set o (pr l (Dv.ei S).2)).set ox (xo false t [])).length) (k := 6) (o := true) (l := [(Dv.ei S).1]); simp only [List.map_cons, List.map_nil, exprA_eq] at this; exact this)
  refine R.fin [0, 1, 2] ?_
  refine W.seq ?_
  refine AW.loopC (α := List Expr × PS) (fun r => ⟨34, setF 0 (.ptr ox 0) (setF 1 (.ro [.ptr o 0]) (setF 2 (.ptr (oid Hp.length 0) 0) (fun _ => .any))), (Hp.set o (pr l r.2)).set ox (xo true t r.1), [zero69], [], none⟩) (fun r => ArgsAt l Dv.ei S r) (fun r => l.length - r.2.i) (([(Dv.ei S).1], (Dv.ei S).2)) (.start (hf S hi rfl)) (StLe.of_eq (by simp [List.set_set, xo, exprA_eq])) rfl (fun r hx => ?_)
  refine W.seq ?_
  refine AW.seqR ?_
  refine R.loadRo Tryz.isAgg84 ?_
  refine R.nilPtr ?_
  refine R.fieldAddrPtr (fo := 3) Tryz.underlying86 Tryz.sizeOf52 ?_
  refine R.fieldAddrPtr (fo := 0) Tryz.underlying52 Tryz.sizeOf29 ?_
  refine R.loadUp Tryz.isAgg29 (gA ho hne) ?_
  refine R.eql ?_
  refine R.move ?_
  refine G.loadRo Tryz.isAgg84 ?_
  refine G.call Tryz.call89 (fun hB => c89 l r.2 commaT o _ (get_up (gA ho hne)) hx.fact.lt hl (by decide)) ?_
  refine R.pickAnd ?_
  refine R.fin [0, 1, 2, 21] ?_
  refine W.cond (fun ht21 => ?_) (fun ht21 => ?_)
  · skip
    have hon := hx.on hl ht21 hf
    have hle := hon.2.1.le
    have hlt0 := hx.fact.lt
    refine AW.skip ?_
    refine K.thN ?_
    refine AW.block ?_
    refine AW.seqR ?_
    refine R.loadRo Tryz.isAgg84 ?_
    refine R.callUp Tryz.call90 (gA ho hne) (by simp) low_pr (c90 l r.2 o _ (get_up (gA ho hne)) hx.fact.lt hll) ?_
    refine R.fin [0, 1, 2] ?_
    refine W.drawT0 [0, 1, 0, 4, 3, 0, 63, 127, 255, 127, 639] [1, 3] [.q 1 [] [0], .s [25] (some 0) [] [], .q 1 [] [1], .s [27] (some 1) [] [], .q 2 [] []] (fun B => (Hp.set o (if B 1 = true then pr l (Dv.ei (nextM r.2)).2 else pr l (nextM r.2))).set ox (if B 0 = true then xo false t r.1 else xo true t r.1)) (fun _ => [zero69]) Tryzmixed (by kernel_rfl) (by simp only [Bool.false_eq_true, if_false]; exact (setA hne).symm) rfl (fun B => by simp) ?_
    apply Y.q
    case h1 =>
      intro B hT hF
      refine D.fieldAddrPtr (fo := 5) Tryz.underlying35 Tryz.sizeOf33 ?_
      exact D.end rfl rfl
    case hTF => decide
    refine Y.loadUpT (o := ox) (t' := 35) (cs := [intA 6, strA t, intA 0, intA 0, strA [], .slice true 6 (r.1.map exprA)]) (cs' := [intA 6, strA t, intA 0, intA 0, strA [], .slice false 6 (r.1.map exprA)]) Tryz.isAgg33 (fun B hB => ⟨by simp only [hB]; exact gB hox, by simp [upd, List.set_set] <;> rfl, rfl⟩) ?_
    apply Y.q
    case h1 =>
      intro B hT hF
      refine D.loadRo Tryz.isAgg84 ?_
      exact D.end rfl rfl
    case hTF => decide
    refine Y.callUp (r := exprA (Dv.ei (nextM r.2)).1) (o := o) (x0 := pr l (nextM r.2)) (x := pr l (Dv.ei (nextM r.2)).2) Tryz.call45 (fun B hT hF hB => ⟨by simp only [hB]; exact gA ho hne, ?_, rfl, low_pr, ?_⟩) ?_
    · simp only [upd, hB, Nat.reduceEqDiff, if_false, if_true, Bool.false_eq_true]
      exact (setA hne).symm
    · simp only [hB]
      exact hcf o _ (nextM r.2) (get_up (gA ho hne)) hon.1 hx.fact.nest
    apply Y.q
    case h1 =>
      intro B hT hF
      refine D.len Tryz.underlying33 ?_
      refine D.buildSlice Tryz.underlying33 Tryz.sizeOf35 Tryz.zeroValue35 ?_
      exact D.end rfl rfl
    case hTF => decide
    refine Y.appendPut (tn := [1, 3]) (U := (Hp.set o (pr l (Dv.ei (nextM r.2)).2)).set ox (xo false t r.1)) (O := [zero69]) (o := ox) (t' := 35) (cs := [intA 6, strA t, intA 0, intA 0, strA [], .slice false 6 (r.1.map exprA)]) (by kernel_rfl) Tryz.underlying33 Tryz.type35 Tryz.sizeOf35 Tryz.sizeOf33 Tryz.underlying35 (get_up (gB hox)) ?_ ?_ ?_ (hfsz := Tryz.sizeOf33)
    · have := hx.fact.len; have := hx.fact.lt; simp only [List.length_map, Tryz.t35]; omega
    · have := hx.fact.len; have := hx.fact.lt; simp only [List.length_map, Tryz.t35]; omega
    refine R.fieldAddrPtr (fo := 5) Tryz.underlying35 Tryz.sizeOf33 ?_
    refine R.storeUpT Tryz.sizeOf33 (gB hox) ?_ ?_
    · first | (rw [exprs_snoc]; exact low_exprs) | (have := low_exprs (n := ((Hp.set o (pr l (Dv.ei S).2)).set ox (xo false t [])).length) (k := 6) (o := true) (l := [(Dv.ei S).1]); simp only [List.map_cons, List.map_nil, exprA_eq] at this; exact this)
    refine R.fin [0, 1, 2] ?_
    refine K.blN ?_
    refine K.lpN (r.1 ++ [(Dv.ei (nextM r.2)).1], (Dv.ei (nextM r.2)).2) hon.2.2 (by show l.length - (Dv.ei (nextM r.2)).2.i < l.length - r.2.i; have : r.2.i + 1 ≤ (Dv.ei (nextM r.2)).2.i := hle; omega) (StCut.of_eq ?_)
    simp only [show Tryz.t35.size = 6 from rfl, exprs_snoc, List.set_set]
  · skip
    have hout := hx.out (by rw [ht21]; simp)
    refine AW.exit ?_
    refine K.thE ?_
    refine K.lpE ?_
    refine K.thN ?_
    refine AW.seqR ?_
    refine R.loadUpN Tryz.isAgg35 Tryz.sizeOf35 (gB hox) ?_
    refine R.storeOwn Tryz.sizeOf35 ?_
    refine R.fin [2] ?_
    refine AW.ret ?_
    exact K.fin (V.one (V.cellN Tryz.isAgg35 Tryz.sizeOf35)) ⟨by rw [hout, mk_agg]; rfl, by rw [hout]⟩ (hlow := by have := exprA_low Hp.length (.mk 6 t noV r.1); rw [mk_agg] at this; simpa using this)

end Go.SX.Nb
namespace Go.SX.Nb
open Go Go.SX Go.Proofs
variable [ErrAt]
set_option maxRecDepth 4000
/-- within, with the function that gathers a call's kids. -/
theorem c227c (l : List Tok) (S : PS) (a : Int) (t : Str) (Dv : Fam) (o : Nat) (Hp : List AObj) (A0 A1 : AObj) (l0 : ObjLow 0 A0) (ho : Hp[o]? = some (pr l S)) (hi : S.i < l.length) (hl : TokEnd l) (hll : l.length ≤ 1048576) (hnl : S.nest ≤ 30) (hd : DeepC l Dv S.nest) :
    ACall Tryz.prog 110 [.ptr o 0, intA a, .fn (.func 204) [] [.ptr (oid Hp.length 2) 0, .ro [.ptr o 0]]] (Hp ++ [A0, A1, xo true t []]) (fun r H' => r = exprA (if S.nest = 30 then nullX else .mk 6 t noV (kidsM l a Dv.ei S).1) ∧ H' = Hp.set o (pr l (kidsM l a Dv.ei S).2) ++ [A0, A1, xo true t (kidsM l a Dv.ei S).1]) := by
  have hlt := (List.getElem?_eq_some_iff.1 ho).1
  have ho' : (Hp ++ [A0, A1, xo true t []])[o]? = some (pr l S) := get_up ho
  by_cases h30 : S.nest = 30
  · refine (c110 l S a 204 [] [.ptr (oid Hp.length 2) 0, .ro [.ptr o 0]] nullX (deepM S) o (Hp ++ [A0, A1, xo true t []]) ((Hp ++ [A0, A1, xo true t []]).set o (pr l (deepM S))) ho' (by omega) Tryz.call204 (by simp) (getset ho') rfl (fun h => h) (fun h => absurd h30 h)).mono fun r H' h => ?_
    have e : kidsM l a Dv.ei S = ([], failM 18 a S) := if_pos (by rw [h30]; rfl)
    rw [e, if_pos h30]
    obtain ⟨h1, h2⟩ := h.1 h30
    exact ⟨h1, by rw [h2, List.set_append_left _ _ hlt]⟩
  · have hq := argsM_fact (S := deepM S) hl hi (hd.ei h30).1
    refine (c110 l S a 204 [] [.ptr (oid Hp.length 2) 0, .ro [.ptr o 0]] (.mk 6 t noV (argsM l Dv.ei (deepM S)).1) (argsM l Dv.ei (deepM S)).2 o (Hp ++ [A0, A1, xo true t []]) (Hp.set o (pr l (argsM l Dv.ei (deepM S)).2) ++ [A0, A1, xo true t (argsM l Dv.ei (deepM S)).1]) ho' (by omega) Tryz.call204 (by simp) (get_up (getset ho)) hq.nest (fun h y hy => ?_) (fun _ own => ?_)).mono fun r H' h => ?_
    · rw [List.set_append_left _ _ hlt] at h
      rcases List.mem_append.1 hy with hy | hy
      · rcases List.mem_or_eq_of_mem_set hy with h1 | h1
        · obtain ⟨i, hi', rfl⟩ := List.getElem_of_mem h1
          by_cases hio : i = o
          · subst hio
            have : Hp[i] = pr l S := by rw [List.getElem?_eq_getElem hi'] at ho; injection ho
            rw [this]; exact low_pr
          · refine h _ (List.mem_append_left _ ?_)
            rw [List.mem_iff_getElem?]
            exact ⟨i, by rw [List.getElem?_set_ne (Ne.symm hio), List.getElem?_eq_getElem hi']⟩
        · rw [h1]; exact low_pr
      · simp only [List.mem_cons, List.not_mem_nil, or_false] at hy
        rcases hy with rfl | rfl | rfl
        · exact h _ (List.mem_append_right _ (by simp))
        · exact h _ (List.mem_append_right _ (by simp))
        · exact low_xo
    · have hoid : oid Hp.length 2 ≠ o := by unfold oid; omega
      have e1 : (Hp ++ [A0, A1, xo true t []]).set o (pr l (deepM S)) ++ own = (Hp.set o (pr l (deepM S)) ++ [A0, A1, xo true t []]) ++ own := by rw [List.set_append_left _ _ hlt]
      rw [e1]
      have g1 : ((Hp.set o (pr l (deepM S)) ++ [A0, A1, xo true t []]) ++ own)[o]? = some (pr l (deepM S)) := get_up (get_up (getset ho))
      have g2 : ((Hp.set o (pr l (deepM S)) ++ [A0, A1, xo true t []]) ++ own)[oid Hp.length 2]? = some (xo true t []) := get_up (by
        have := get_oid (U := Hp.set o (pr l (deepM S))) (O := [A0, A1, xo true t []]) (n := 2)
        rw [List.length_set] at this
        exact this)
      refine (c204 l (deepM S) t Dv o (oid Hp.length 2) _ hoid g1 g2 hi hl hll (hd.ei h30).1 (hd.ei h30).2).mono fun r H' h => ⟨h.1, h.2.trans ?_⟩
      rw [List.append_assoc, List.set_append_left _ _ (by simpa using hlt), List.set_set]
      have := set_oid (U := Hp.set o (pr l (argsM l Dv.ei (deepM S)).2)) (O := [A0, A1, xo true t []] ++ own) (n := 2) (x := xo true t (argsM l Dv.ei (deepM S)).1)
      rw [List.length_set] at this
      rw [this]
      simp
    · have e : kidsM l a Dv.ei S = ((argsM l Dv.ei (deepM S)).1, riseM (argsM l Dv.ei (deepM S)).2) := if_neg (by
        show ¬ (((S.nest : Int) == 30) = true)
        simp
        omega)
      rw [e, if_neg h30]
      obtain ⟨h1, h2⟩ := h.2 h30
      exact ⟨h1, by rw [h2, List.set_append_left _ _ (by simpa using hlt), List.set_set]⟩
theorem c200 (l : List Tok) (S : PS) (Dv : Fam) (t : Tok) (o : Nat) (Hp : List AObj) (ho : Hp[o]? = some (pr l S)) (hi : (nextM S).i < l.length) (hl : TokEnd l) (hll : l.length ≤ 1048576) (hnl : S.nest ≤ 30) (hd : DeepC l Dv S.nest) : ACall Tryz.prog 200 [.ptr o 0, tokA t] Hp (fun r H' => r = exprA (callM l Dv t S).1 ∧ H' = Hp.set o (pr l (callM l Dv t S).2)) := by
  have hi0 : S.i < l.length := by have : S.i + 1 < l.length := hi; omega
  have hol := (List.getElem?_eq_some_iff.1 ho).1
  have hkf : KFact l (nextM S) (callKM l Dv S) := kidsM_fact hl _ hi (fun h => (hd.ei h).1)
  refine ACall.body [.cell 4 35] [0, 1] Tryz.func200 Tryz.ntmps200 (fun d => ?_)
  refine AW.seqR ?_
  refine R.boxRo ?_
  refine R.boxRo ?_
  refine R.alloc Tryz.zeroValue35 ?_
  refine R.fin [2, 3, 4] ?_
  refine AW.seqR ?_
  refine R.fieldAddrRo (off := 1) Tryz.underlying68 Tryz.sizeOf9 ?_
  refine R.loadRo Tryz.isAgg9 ?_
  refine R.call Tryz.call56 (c56 t.text _) ?_
  refine R.assign ?_
  refine R.fin [2, 3, 4, 5] ?_
  refine W.seq ?_
  refine AW.seqR ?_
  refine R.move ?_
  refine R.lss ?_
  refine R.fin [2, 3, 4, 5, 12] ?_
  refine W.cond (fun ht12 => ?_) (fun ht12 => ?_)
  · skip
    have hlt0 : arityM t.text < 0 := by simpa using ht12
    have e : callM l Dv t S = (nullX, failM 9 t.at_ S) := if_pos hlt0
    refine AW.seqR ?_
    refine R.loadRo Tryz.isAgg84 ?_
    refine R.fieldAddrRo (off := 2) Tryz.underlying68 Tryz.sizeOf3 ?_
    refine R.loadRo Tryz.isAgg3 ?_
    refine R.callUp Tryz.call47 ho (by simp) low_pr (c47 l S 9 t.at_ o _ (get_up ho)) ?_
    refine R.storeOwn Tryz.sizeOf35 ?_
    refine R.fin [4] ?_
    refine AW.ret ?_
    refine K.thR ?_
    exact K.fin (V.one (V.cellN Tryz.isAgg35 Tryz.sizeOf35)) ⟨by rw [e, exprA_eq], by rw [e]⟩ (hlow := low_agg _)
  · skip
    have hge : ¬ arityM t.text < 0 := by simpa using ht12
    refine AW.skip ?_
    refine K.thN ?_
    refine AW.seqR ?_
    refine R.loadRo Tryz.isAgg84 ?_
    refine R.callUp Tryz.call90 ho (by simp) low_pr (c90 l S o _ (get_up ho) hi0 hll) ?_
    refine R.alloc Tryz.zeroValue68 ?_
    refine R.storeOwn Tryz.sizeOf68 ?_
    refine R.fin [2, 3, 4, 5, 6] ?_
    refine AW.seqR ?_
    refine R.fieldAddrRo (off := 1) Tryz.underlying68 Tryz.sizeOf9 ?_
    refine R.loadRo Tryz.isAgg9 ?_
    refine R.build (places := #[(0, 1), (1, 1), (2, 3), (5, 1)]) Tryz.underlying35 (fun w => by simp) Tryz.zeroValue35 ?_
    refine R.alloc Tryz.zeroValue35 ?_
    refine R.storeOwn Tryz.sizeOf35 ?_
    refine R.fin [2, 3, 4, 5, 6, 7] ?_
    refine AW.seqR ?_
    refine R.nilCell 2 5 6 ?_
    refine R.loadRo Tryz.isAgg84 ?_
    refine R.fieldAddrPtr (fo := 2) Tryz.underlying68 Tryz.sizeOf3 ?_
    refine R.loadOwn Tryz.isAgg3 ?_
    refine R.makeFunc ?_
    refine R.callX (up' := (Hp.set o (pr l (nextM S))).set o (pr l (callKM l Dv S).2)) (own' := [zero69, .cells 68 [intA (tokAt l S.i).kind, strA (tokAt l S.i).text, intA (tokAt l S.i).at_], xo true t.text (callKM l Dv S).1]) Tryz.call110 (by have := c227c l (nextM S) (tokAt l S.i).at_ t.text Dv o (Hp.set o (pr l (nextM S))) zero69 (.cells 68 [intA (tokAt l S.i).kind, strA (tokAt l S.i).text, intA (tokAt l S.i).at_]) low_z69 (getset ho) hi hl hll hnl hd; rw [List.length_set] at this; exact this) (by simp) (fun h => low_set h low_pr) ?_
    refine R.fin [2, 3, 4, 5, 7] ?_
    refine AW.seqR ?_
    refine R.loadRo Tryz.isAgg84 ?_
    refine R.callUp Tryz.call201 (getset (getset ho)) (by simp) low_pr (c201 l (callKM l Dv S).2 closeT o _ (get_up (getset (getset ho))) hkf.lt hll) ?_
    refine R.fin [2, 3, 4, 5, 7] ?_
    refine W.seq ?_
    refine AW.seqR ?_
    refine R.loadRo Tryz.isAgg84 ?_
    refine R.nilPtr ?_
    refine R.fieldAddrPtr (fo := 3) Tryz.underlying86 Tryz.sizeOf52 ?_
    refine R.fieldAddrPtr (fo := 0) Tryz.underlying52 Tryz.sizeOf29 ?_
    refine R.loadUp Tryz.isAgg29 (getset (getset (getset ho))) ?_
    refine R.eql ?_
    refine R.move ?_
    refine G.fieldAddrPtr (fo := 5) Tryz.underlying35 Tryz.sizeOf33 ?_
    refine G.loadOwn Tryz.isAgg33 ?_
    refine G.len Tryz.underlying33 ?_
    refine G.move ?_
    refine G.neq ?_
    refine R.pickAnd ?_
    refine R.fin [2, 3, 4, 7, 41] ?_
    refine W.cond (fun ht41 => ?_) (fun ht41 => ?_)
    · skip
      have e : callM l Dv t S = (nullX, failM 8 t.at_ (wantM l closeT (callKM l Dv S).2)) := by
        unfold callM
        rw [if_neg hge, if_pos (by have := ht41; simp only [List.length_map] at this; exact this)]
      refine AW.seqR ?_
      refine R.loadRo Tryz.isAgg84 ?_
      refine R.fieldAddrRo (off := 2) Tryz.underlying68 Tryz.sizeOf3 ?_
      refine R.loadRo Tryz.isAgg3 ?_
      refine R.callUp Tryz.call47 (getset (getset (getset ho))) (by simp) low_pr (c47 l (wantM l closeT (callKM l Dv S).2) 8 t.at_ o _ (get_up (getset (getset (getset ho))))) ?_
      refine R.storeOwn Tryz.sizeOf35 ?_
      refine R.fin [4] ?_
      refine AW.ret ?_
      refine K.thR ?_
      exact K.fin (V.one (V.cellN Tryz.isAgg35 Tryz.sizeOf35)) ⟨by rw [e, exprA_eq], by rw [e, List.set_set, List.set_set, List.set_set]⟩ (hlow := low_agg _)
    · skip
      have e : callM l Dv t S = (.mk 6 t.text noV (callKM l Dv S).1, (wantM l closeT (callKM l Dv S).2)) := by
        unfold callM
        rw [if_neg hge, if_neg (by have := ht41; simp only [List.length_map] at this; rw [Bool.eq_false_iff] at this; exact this)]
      refine AW.skip ?_
      refine K.thN ?_
      refine AW.seqR ?_
      refine R.loadOwnN Tryz.isAgg35 Tryz.sizeOf35 ?_
      refine R.storeOwn Tryz.sizeOf35 ?_
      refine R.fin [4] ?_
      refine AW.ret ?_
      exact K.fin (V.one (V.cellN Tryz.isAgg35 Tryz.sizeOf35)) ⟨by rw [e, mk_agg]; rfl, by rw [e, List.set_set, List.set_set]⟩ (hlow := by have := exprA_low Hp.length (.mk 6 t.text noV (callKM l Dv S).1); rw [mk_agg] at this; simpa using this)

theorem pcall_all {l : List Tok} (hl : TokEnd l) (hll : l.length ≤ 1048576) (n : Nat) (Dv : Fam) (hn : n ≤ 30) (hd : DeepC l Dv n) : PCall l Dv n := fun o Hp S t ho hi hS _ _ => by
  subst hS
  exact c200 l S Dv t o Hp ho hi hl hll hn hd
/-- expr.Parse. -/
theorem c87p (s : Str) (hs : s.length ≤ 1048576) (Hp : List AObj) : AFun Tryz.prog 19 [strA s] Hp (.tup [exprA (parseM s).1, .agg [intA (parseM s).2.1, intA (parseM s).2.2]]) := by
  by_cases h : (lexM s).2.1 = 0
  · exact c19 s hs (fun n Dv hn hd => pcall_all (lex_end h) (by have := lex_len h; omega) n Dv hn hd) Hp
  · refine c19 s hs (fun n Dv hn hd => ?_) Hp
    intro o Hp S t ho hi hS ht hop
    have : (lexM s).1 = [] := by
      unfold lexM at h ⊢
      split
      · rfl
      · rename_i h4
        rw [if_neg h4] at h
        cases hf : (itemsT s).find? (fun it => it.2 != 0) with
        | some it => rfl
        | none => rw [hf] at h; exact absurd rfl h
    rw [this] at hi
    cases hi
end Go.SX.Nb
