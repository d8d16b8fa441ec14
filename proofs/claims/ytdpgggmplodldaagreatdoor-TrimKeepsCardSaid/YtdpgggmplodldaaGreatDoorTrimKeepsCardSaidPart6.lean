/- Texts on the way to this: TrimKeeps answers true for whatever it is handed: over any row a tree and the trimmed one come to the same value, or to the same error. (part 6) -/
import Derived.Test.YtdpgggmplodldaaGreatDoorTrimKeepsCardSaidPart5
set_option linter.all false
namespace Go.SX.Nb
open Go Go.SX Go.Proofs
variable [ErrAt]
set_option maxRecDepth 4000
abbrev resA (r : Rs) : AV := .tup [valA r.1, intA r.2]
abbrev intsA (l : List Int) : AV := .slice false 1 (l.map intA)
abbrev scopeA (c : List Col) (l : List Val) : AV := .agg [colsA c, valsA l]
theorem c28 (e : Int) (Hp : List AObj) : AFun Tryz.prog 28 [intA e] Hp (resA (wrongR e)) := by
 refine ACall.body [.cell 2 23, .tmp 3] [0] Tryz.func28 Tryz.ntmps28 (fun d => ?_)
 refine AW.seqR ?_
 refine R.alloc Tryz.zeroValue23 ?_
 refine R.assign ?_
 refine R.fin [0, 2] ?_
 refine AW.seqR ?_
 refine R.call Tryz.call52 (c52 _) ?_
 refine R.move ?_
 refine R.storeOwn Tryz.sizeOf23 ?_
 refine R.assign ?_
 refine R.fin [2, 3] ?_
 refine AW.ret ?_
 exact K.fin (V.two (V.cellN Tryz.isAgg23 Tryz.sizeOf23) V.tmp)

theorem c103 (n e : Int) (Hp : List AObj) : AFun Tryz.prog 103 [intA n, intA e] Hp (resA (wholeR (n, e))) := by
 refine ACall.body [.cell 4 23, .tmp 5] [0, 1] Tryz.func103 Tryz.ntmps103 (fun d => ?_)
 refine AW.seqR ?_
 refine R.alloc Tryz.zeroValue23 ?_
 refine R.assign ?_
 refine R.fin [0, 1, 4] ?_
 refine W.seq ?_
 refine AW.seqR ?_
 refine R.move ?_
 refine R.neq ?_
 refine R.fin [0, 1, 4, 7] ?_
 refine W.cond (fun ht7 => ?_) (fun ht7 => ?_)
 ·skip
  have hw : wholeR (n, e) = wrongR e := if_pos ht7
  refine AW.seqR ?_
  refine R.move ?_
  refine R.call Tryz.call28 (c28 _ _) ?_
  refine R.extract ?_
  refine R.extract ?_
  refine R.storeOwn Tryz.sizeOf23 ?_
  refine R.assign ?_
  refine R.fin [4, 5] ?_
  refine AW.ret ?_
  refine K.thR ?_
  exact K.fin (V.two (V.cellN Tryz.isAgg23 Tryz.sizeOf23) V.tmp) ⟨by rw [hw]; try rfl, rfl⟩
 ·skip
  have hw : wholeR (n, e) = (⟨1, n, []⟩, 0) := if_neg (by rw [ht7]; simp)
  refine AW.skip ?_
  refine K.thN ?_
  refine AW.seqR ?_
  refine R.move ?_
  refine R.call Tryz.call123 (c123 _ _) ?_
  refine R.storeOwn Tryz.sizeOf23 ?_
  refine R.assign ?_
  refine R.fin [4, 5] ?_
  refine AW.ret ?_
  exact K.fin (V.two (V.cellN Tryz.isAgg23 Tryz.sizeOf23) V.tmp) ⟨by rw [hw]; try rfl, rfl⟩

theorem kindsM_step {vs : List Val} {ks : List Int} (hl : ks.length ≤ vs.length) {x : Nat} (hk : x < ks.length) (hx : kindsM vs ks = kindsM (vs.drop x) (ks.drop x)) : kindsM vs ks = ((vs[x].kind == ks[x]) && kindsM (vs.drop (x + 1)) (ks.drop (x + 1))) := by
 rw [hx, List.drop_eq_getElem_cons hk, List.drop_eq_getElem_cons (show x < vs.length by omega), kindsM]
theorem c102 (vs : List Val) (ks : List Int) (hks : ks.length ≤ vs.length) (hk2 : ks.length ≤ 1048576) (Hp : List AObj) : AFun Tryz.prog 102 [valsA vs, intsA ks] Hp (boolA (kindsM vs ks)) := by
 refine ACall.body [.tmp 4] [0, 1] Tryz.func102 Tryz.ntmps102 (fun d => ?_)
 refine AW.seqR ?_
 refine R.assign ?_
 refine R.fin [0, 1] ?_
 refine W.seq ?_
 refine AW.seqR ?_
 refine R.move ?_
 refine R.len Tryz.underlying145 ?_
 refine R.move ?_
 refine R.fin [0, 7, 8, 9] ?_
 refine AW.loopC (α := Nat) (fun x => ⟨22, setF 0 (valsA vs) (setF 7 (intsA ks) (setF 8 (intA (ks.length : Nat)) (setF 9 (intA (x : Nat)) (fun _ => .any)))), Hp, [], [], none⟩) (fun x => x ≤ ks.length ∧ kindsM vs ks = kindsM (vs.drop x) (ks.drop x)) (fun x => ks.length - x) (0) ⟨Nat.zero_le _, rfl⟩ (StLe.of_eq (by simp)) rfl (fun x hx => ?_)
 refine AW.seqR ?_
 refine R.lss ?_
 refine R.fin [0, 7, 8, 9, 10] ?_
 refine W.condX (fun ht10 => ?_) (fun ht10 => ?_)
 ·skip
  have hlt : x < ks.length := by simpa using ht10
  have hls : x < vs.length := by omega
  have hst := kindsM_step hks hlt hx.2
  refine W.seq ?_
  refine AW.block ?_
  refine AW.seqR ?_
  refine R.move ?_
  refine R.indexAddr (x) (intA ks[x]) Tryz.underlying145 Tryz.sizeOf3 (getMap hlt) ?_
  refine R.loadRo Tryz.isAgg3 ?_
  refine R.assign ?_
  refine R.assign ?_
  refine R.fin [0, 5, 6, 7, 8, 9] ?_
  refine AW.seqR ?_
  refine R.move ?_
  refine R.move ?_
  refine R.indexAddr (x) (valA vs[x]) Tryz.underlying28 Tryz.sizeOf23 (getMap hls) ?_
  refine R.fieldAddrRo (off := 0) Tryz.underlying23 Tryz.sizeOf3 ?_
  refine R.loadRo Tryz.isAgg3 ?_
  refine R.move ?_
  refine R.neq ?_
  refine R.fin [0, 7, 8, 9, 20] ?_
  refine W.cond (fun ht20 => ?_) (fun ht20 => ?_)
  ·skip
   have hm : kindsM vs ks = false := by rw [hst]; simp only [bne_iff_ne, ne_eq] at ht20; simp [ht20]
   refine AW.seqR ?_
   refine R.assign ?_
   refine R.fin [4] ?_
   refine AW.ret ?_
   refine K.blR ?_
   refine K.thR ?_
   refine K.lpR ?_
   refine K.thR ?_
   exact K.fin (V.one V.tmp) ⟨by rw [hm], rfl⟩
  ·skip
   have hn : kindsM vs ks = kindsM (vs.drop (x + 1)) (ks.drop (x + 1)) := by rw [hst]; simp only [bne_eq_false_iff_eq] at ht20; simp [ht20]
   refine AW.skip ?_
   refine K.blN ?_
   refine K.thN ?_
   refine AW.region ?_
   refine R.add64 ?_
   refine R.move ?_
   refine R.fin [0, 7, 8, 9] ?_
   refine K.lpN (x + 1) ⟨hlt, hn⟩ (by omega) ?_
   exact StCut.of_eq (by simp)
 ·skip
  have hxe : ks.length ≤ x := by simpa using ht10
  have hm : kindsM vs ks = true := by rw [hx.2, List.drop_of_length_le hxe]; cases vs.drop x <;> rfl
  refine K.lpE ?_
  refine K.thN ?_
  refine AW.seqR ?_
  refine R.assign ?_
  refine R.fin [4] ?_
  refine AW.ret ?_
  exact K.fin (V.one V.tmp) ⟨by rw [hm], rfl⟩

theorem c119 (t : Str) (c : Int) (Hp : List AObj) : AFun Tryz.prog 119 [strA t, intA c] Hp (.tup [boolA (comparedM t c).1, boolA (comparedM t c).2]) := by
 refine ACall.body [.tmp 4, .tmp 5] [0, 1] Tryz.func119 Tryz.ntmps119 (fun d => ?_)
 refine AW.seqR ?_
 refine R.assign ?_
 refine R.assign ?_
 refine R.fin [0, 1] ?_
 refine W.seq ?_
 refine AW.seqR ?_
 refine R.move ?_
 refine R.fin [1, 6] ?_
 refine AW.block ?_
 refine AW.seqR ?_
 refine R.seql ?_
 refine R.assign ?_
 refine R.fin [1, 6, 7] ?_
 refine W.cond (fun ht7 => ?_) (fun ht7 => ?_)
 ·skip
  refine AW.seqR ?_
  refine R.move ?_
  refine R.eql ?_
  refine R.assign ?_
  refine R.assign ?_
  refine R.fin [4, 5] ?_
  refine AW.ret ?_
  refine K.blR ?_
  refine K.thR ?_
  first | (by_cases e0 : comparedM t c = (c == 0, true); exact K.fin (V.two V.tmp V.tmp) ⟨by rw [e0]; try rfl, rfl⟩; exfalso; refine e0 ?_; clear e0; simp_all [comparedM]; done) | (by_cases e0 : comparedM t c = (c != 0, true); exact K.fin (V.two V.tmp V.tmp) ⟨by rw [e0]; try rfl, rfl⟩; exfalso; refine e0 ?_; clear e0; simp_all [comparedM]; done) | (by_cases e0 : comparedM t c = (decide (c < 0), true); exact K.fin (V.two V.tmp V.tmp) ⟨by rw [e0]; try rfl, rfl⟩; exfalso; refine e0 ?_; clear e0; simp_all [comparedM]; done) | (by_cases e0 : comparedM t c = (decide (c ≤ 0), true); exact K.fin (V.two V.tmp V.tmp) ⟨by rw [e0]; try rfl, rfl⟩; exfalso; refine e0 ?_; clear e0; simp_all [comparedM]; done) | (by_cases e0 : comparedM t c = (decide (0 < c), true); exact K.fin (V.two V.tmp V.tmp) ⟨by rw [e0]; try rfl, rfl⟩; exfalso; refine e0 ?_; clear e0; simp_all [comparedM]; done) | (by_cases e0 : comparedM t c = (decide (0 ≤ c), true); exact K.fin (V.two V.tmp V.tmp) ⟨by rw [e0]; try rfl, rfl⟩; exfalso; refine e0 ?_; clear e0; simp_all [comparedM]; done) | (by_cases e0 : comparedM t c = (false, false); exact K.fin (V.two V.tmp V.tmp) ⟨by rw [e0]; try rfl, rfl⟩; exfalso; refine e0 ?_; clear e0; simp_all [comparedM]; done)
 ·skip
  refine AW.seqR ?_
  refine R.seql ?_
  refine R.assign ?_
  refine R.fin [1, 6, 11] ?_
  refine W.cond (fun ht11 => ?_) (fun ht11 => ?_)
  ·skip
   refine AW.seqR ?_
   refine R.move ?_
   refine R.neq ?_
   refine R.assign ?_
   refine R.assign ?_
   refine R.fin [4, 5] ?_
   refine AW.ret ?_
   refine K.blR ?_
   refine K.thR ?_
   first | (by_cases e0 : comparedM t c = (c == 0, true); exact K.fin (V.two V.tmp V.tmp) ⟨by rw [e0]; try rfl, rfl⟩; exfalso; refine e0 ?_; clear e0; simp_all [comparedM]; done) | (by_cases e0 : comparedM t c = (c != 0, true); exact K.fin (V.two V.tmp V.tmp) ⟨by rw [e0]; try rfl, rfl⟩; exfalso; refine e0 ?_; clear e0; simp_all [comparedM]; done) | (by_cases e0 : comparedM t c = (decide (c < 0), true); exact K.fin (V.two V.tmp V.tmp) ⟨by rw [e0]; try rfl, rfl⟩; exfalso; refine e0 ?_; clear e0; simp_all [comparedM]; done) | (by_cases e0 : comparedM t c = (decide (c ≤ 0), true); exact K.fin (V.two V.tmp V.tmp) ⟨by rw [e0]; try rfl, rfl⟩; exfalso; refine e0 ?_; clear e0; simp_all [comparedM]; done) | (by_cases e0 : comparedM t c = (decide (0 < c), true); exact K.fin (V.two V.tmp V.tmp) ⟨by rw [e0]; try rfl, rfl⟩; exfalso; refine e0 ?_; clear e0; simp_all [comparedM]; done) | (by_cases e0 : comparedM t c = (decide (0 ≤ c), true); exact K.fin (V.two V.tmp V.tmp) ⟨by rw [e0]; try rfl, rfl⟩; exfalso; refine e0 ?_; clear e0; simp_all [comparedM]; done) | (by_cases e0 : comparedM t c = (false, false); exact K.fin (V.two V.tmp V.tmp) ⟨by rw [e0]; try rfl, rfl⟩; exfalso; refine e0 ?_; clear e0; simp_all [comparedM]; done)
  ·skip
   refine AW.seqR ?_
   refine R.seql ?_
   refine R.assign ?_
   refine R.fin [1, 6, 15] ?_
   refine W.cond (fun ht15 => ?_) (fun ht15 => ?_)
   ·skip
    refine AW.seqR ?_
    refine R.move ?_
    refine R.lss ?_
    refine R.assign ?_
    refine R.assign ?_
    refine R.fin [4, 5] ?_
    refine AW.ret ?_
    refine K.blR ?_
    refine K.thR ?_
    first | (by_cases e0 : comparedM t c = (c == 0, true); exact K.fin (V.two V.tmp V.tmp) ⟨by rw [e0]; try rfl, rfl⟩; exfalso; refine e0 ?_; clear e0; simp_all [comparedM]; done) | (by_cases e0 : comparedM t c = (c != 0, true); exact K.fin (V.two V.tmp V.tmp) ⟨by rw [e0]; try rfl, rfl⟩; exfalso; refine e0 ?_; clear e0; simp_all [comparedM]; done) | (by_cases e0 : comparedM t c = (decide (c < 0), true); exact K.fin (V.two V.tmp V.tmp) ⟨by rw [e0]; try rfl, rfl⟩; exfalso; refine e0 ?_; clear e0; simp_all [comparedM]; done) | (by_cases e0 : comparedM t c = (decide (c ≤ 0), true); exact K.fin (V.two V.tmp V.tmp) ⟨by rw [e0]; try rfl, rfl⟩; exfalso; refine e0 ?_; clear e0; simp_all [comparedM]; done) | (by_cases e0 : comparedM t c = (decide (0 < c), true); exact K.fin (V.two V.tmp V.tmp) ⟨by rw [e0]; try rfl, rfl⟩; exfalso; refine e0 ?_; clear e0; simp_all [comparedM]; done) | (by_cases e0 : comparedM t c = (decide (0 ≤ c), true); exact K.fin (V.two V.tmp V.tmp) ⟨by rw [e0]; try rfl, rfl⟩; exfalso; refine e0 ?_; clear e0; simp_all [comparedM]; done) | (by_cases e0 : comparedM t c = (false, false); exact K.fin (V.two V.tmp V.tmp) ⟨by rw [e0]; try rfl, rfl⟩; exfalso; refine e0 ?_; clear e0; simp_all [comparedM]; done)
   ·skip
    refine AW.seqR ?_
    refine R.seql ?_
    refine R.assign ?_
    refine R.fin [1, 6, 19] ?_
    refine W.cond (fun ht19 => ?_) (fun ht19 => ?_)
    ·skip
     refine AW.seqR ?_
     refine R.move ?_
     refine R.leq ?_
     refine R.assign ?_
     refine R.assign ?_
     refine R.fin [4, 5] ?_
     refine AW.ret ?_
     refine K.blR ?_
     refine K.thR ?_
     first | (by_cases e0 : comparedM t c = (c == 0, true); exact K.fin (V.two V.tmp V.tmp) ⟨by rw [e0]; try rfl, rfl⟩; exfalso; refine e0 ?_; clear e0; simp_all [comparedM]; done) | (by_cases e0 : comparedM t c = (c != 0, true); exact K.fin (V.two V.tmp V.tmp) ⟨by rw [e0]; try rfl, rfl⟩; exfalso; refine e0 ?_; clear e0; simp_all [comparedM]; done) | (by_cases e0 : comparedM t c = (decide (c < 0), true); exact K.fin (V.two V.tmp V.tmp) ⟨by rw [e0]; try rfl, rfl⟩; exfalso; refine e0 ?_; clear e0; simp_all [comparedM]; done) | (by_cases e0 : comparedM t c = (decide (c ≤ 0), true); exact K.fin (V.two V.tmp V.tmp) ⟨by rw [e0]; try rfl, rfl⟩; exfalso; refine e0 ?_; clear e0; simp_all [comparedM]; done) | (by_cases e0 : comparedM t c = (decide (0 < c), true); exact K.fin (V.two V.tmp V.tmp) ⟨by rw [e0]; try rfl, rfl⟩; exfalso; refine e0 ?_; clear e0; simp_all [comparedM]; done) | (by_cases e0 : comparedM t c = (decide (0 ≤ c), true); exact K.fin (V.two V.tmp V.tmp) ⟨by rw [e0]; try rfl, rfl⟩; exfalso; refine e0 ?_; clear e0; simp_all [comparedM]; done) | (by_cases e0 : comparedM t c = (false, false); exact K.fin (V.two V.tmp V.tmp) ⟨by rw [e0]; try rfl, rfl⟩; exfalso; refine e0 ?_; clear e0; simp_all [comparedM]; done)
    ·skip
     refine AW.seqR ?_
     refine R.seql ?_
     refine R.assign ?_
     refine R.fin [1, 6, 23] ?_
     refine W.cond (fun ht23 => ?_) (fun ht23 => ?_)
     ·skip
      refine AW.seqR ?_
      refine R.move ?_
      refine R.gtr ?_
      refine R.assign ?_
      refine R.assign ?_
      refine R.fin [4, 5] ?_
      refine AW.ret ?_
      refine K.blR ?_
      refine K.thR ?_
      first | (by_cases e0 : comparedM t c = (c == 0, true); exact K.fin (V.two V.tmp V.tmp) ⟨by rw [e0]; try rfl, rfl⟩; exfalso; refine e0 ?_; clear e0; simp_all [comparedM]; done) | (by_cases e0 : comparedM t c = (c != 0, true); exact K.fin (V.two V.tmp V.tmp) ⟨by rw [e0]; try rfl, rfl⟩; exfalso; refine e0 ?_; clear e0; simp_all [comparedM]; done) | (by_cases e0 : comparedM t c = (decide (c < 0), true); exact K.fin (V.two V.tmp V.tmp) ⟨by rw [e0]; try rfl, rfl⟩; exfalso; refine e0 ?_; clear e0; simp_all [comparedM]; done) | (by_cases e0 : comparedM t c = (decide (c ≤ 0), true); exact K.fin (V.two V.tmp V.tmp) ⟨by rw [e0]; try rfl, rfl⟩; exfalso; refine e0 ?_; clear e0; simp_all [comparedM]; done) | (by_cases e0 : comparedM t c = (decide (0 < c), true); exact K.fin (V.two V.tmp V.tmp) ⟨by rw [e0]; try rfl, rfl⟩; exfalso; refine e0 ?_; clear e0; simp_all [comparedM]; done) | (by_cases e0 : comparedM t c = (decide (0 ≤ c), true); exact K.fin (V.two V.tmp V.tmp) ⟨by rw [e0]; try rfl, rfl⟩; exfalso; refine e0 ?_; clear e0; simp_all [comparedM]; done) | (by_cases e0 : comparedM t c = (false, false); exact K.fin (V.two V.tmp V.tmp) ⟨by rw [e0]; try rfl, rfl⟩; exfalso; refine e0 ?_; clear e0; simp_all [comparedM]; done)
     ·skip
      refine AW.seqR ?_
      refine R.seql ?_
      refine R.assign ?_
      refine R.fin [1, 27] ?_
      refine W.cond (fun ht27 => ?_) (fun ht27 => ?_)
      ·skip
       refine AW.seqR ?_
       refine R.move ?_
       refine R.geq ?_
       refine R.assign ?_
       refine R.assign ?_
       refine R.fin [4, 5] ?_
       refine AW.ret ?_
       refine K.blR ?_
       refine K.thR ?_
       first | (by_cases e0 : comparedM t c = (c == 0, true); exact K.fin (V.two V.tmp V.tmp) ⟨by rw [e0]; try rfl, rfl⟩; exfalso; refine e0 ?_; clear e0; simp_all [comparedM]; done) | (by_cases e0 : comparedM t c = (c != 0, true); exact K.fin (V.two V.tmp V.tmp) ⟨by rw [e0]; try rfl, rfl⟩; exfalso; refine e0 ?_; clear e0; simp_all [comparedM]; done) | (by_cases e0 : comparedM t c = (decide (c < 0), true); exact K.fin (V.two V.tmp V.tmp) ⟨by rw [e0]; try rfl, rfl⟩; exfalso; refine e0 ?_; clear e0; simp_all [comparedM]; done) | (by_cases e0 : comparedM t c = (decide (c ≤ 0), true); exact K.fin (V.two V.tmp V.tmp) ⟨by rw [e0]; try rfl, rfl⟩; exfalso; refine e0 ?_; clear e0; simp_all [comparedM]; done) | (by_cases e0 : comparedM t c = (decide (0 < c), true); exact K.fin (V.two V.tmp V.tmp) ⟨by rw [e0]; try rfl, rfl⟩; exfalso; refine e0 ?_; clear e0; simp_all [comparedM]; done) | (by_cases e0 : comparedM t c = (decide (0 ≤ c), true); exact K.fin (V.two V.tmp V.tmp) ⟨by rw [e0]; try rfl, rfl⟩; exfalso; refine e0 ?_; clear e0; simp_all [comparedM]; done) | (by_cases e0 : comparedM t c = (false, false); exact K.fin (V.two V.tmp V.tmp) ⟨by rw [e0]; try rfl, rfl⟩; exfalso; refine e0 ?_; clear e0; simp_all [comparedM]; done)
      ·skip
       refine AW.skip ?_
       refine K.blN ?_
       refine K.thN ?_
       refine AW.seqR ?_
       refine R.assign ?_
       refine R.assign ?_
       refine R.fin [4, 5] ?_
       refine AW.ret ?_
       first | (by_cases e0 : comparedM t c = (c == 0, true); exact K.fin (V.two V.tmp V.tmp) ⟨by rw [e0]; try rfl, rfl⟩; exfalso; refine e0 ?_; clear e0; simp_all [comparedM]; done) | (by_cases e0 : comparedM t c = (c != 0, true); exact K.fin (V.two V.tmp V.tmp) ⟨by rw [e0]; try rfl, rfl⟩; exfalso; refine e0 ?_; clear e0; simp_all [comparedM]; done) | (by_cases e0 : comparedM t c = (decide (c < 0), true); exact K.fin (V.two V.tmp V.tmp) ⟨by rw [e0]; try rfl, rfl⟩; exfalso; refine e0 ?_; clear e0; simp_all [comparedM]; done) | (by_cases e0 : comparedM t c = (decide (c ≤ 0), true); exact K.fin (V.two V.tmp V.tmp) ⟨by rw [e0]; try rfl, rfl⟩; exfalso; refine e0 ?_; clear e0; simp_all [comparedM]; done) | (by_cases e0 : comparedM t c = (decide (0 < c), true); exact K.fin (V.two V.tmp V.tmp) ⟨by rw [e0]; try rfl, rfl⟩; exfalso; refine e0 ?_; clear e0; simp_all [comparedM]; done) | (by_cases e0 : comparedM t c = (decide (0 ≤ c), true); exact K.fin (V.two V.tmp V.tmp) ⟨by rw [e0]; try rfl, rfl⟩; exfalso; refine e0 ?_; clear e0; simp_all [comparedM]; done) | (by_cases e0 : comparedM t c = (false, false); exact K.fin (V.two V.tmp V.tmp) ⟨by rw [e0]; try rfl, rfl⟩; exfalso; refine e0 ?_; clear e0; simp_all [comparedM]; done)

theorem c124 (a b : Int) (Hp : List AObj) : AFun Tryz.prog 124 [intA a, intA b] Hp (.tup [intA (subI a b).1, intA (subI a b).2]) := by
 refine ACall.body [.tmp 4, .tmp 5] [0, 1] Tryz.func124 Tryz.ntmps124 (fun d => ?_)
 refine AW.seqR ?_
 refine R.assign ?_
 refine R.assign ?_
 refine R.fin [0, 1] ?_
 refine AW.seqR ?_
 refine R.move ?_
 refine R.move ?_
 refine R.sub ?_
 refine R.assign ?_
 refine R.fin [0, 1, 6] ?_
 refine W.seq ?_
 refine AW.seqR ?_
 refine R.move ?_
 refine R.move ?_
 refine R.xor ?_
 refine R.move ?_
 refine R.move ?_
 refine R.xor ?_
 refine R.and ?_
 refine R.lss ?_
 refine R.fin [6, 17] ?_
 refine W.cond (fun ht17 => ?_) (fun ht17 => ?_)
 ·skip
  have hm : subI a b = (0, 4) := if_pos ht17
  refine AW.seqR ?_
  refine R.assign ?_
  refine R.assign ?_
  refine R.fin [4, 5] ?_
  refine AW.ret ?_
  refine K.thR ?_
  exact K.fin (V.two V.tmp V.tmp) ⟨by rw [hm], rfl⟩
 ·skip
  have hm : subI a b = (IntKind.i64.wrap (a - b), 0) := if_neg (by rw [ht17]; simp)
  refine AW.skip ?_
  refine K.thN ?_
  refine AW.seqR ?_
  refine R.move ?_
  refine R.assign ?_
  refine R.assign ?_
  refine R.fin [4, 5] ?_
  refine AW.ret ?_
  exact K.fin (V.two V.tmp V.tmp) ⟨by rw [hm], rfl⟩

theorem c144 (a b : Int) (Hp : List AObj) : AFun Tryz.prog 144 [intA a, intA b] Hp (.tup [intA (addI a b).1, intA (addI a b).2]) := by
 refine ACall.body [.tmp 4, .tmp 5] [0, 1] Tryz.func144 Tryz.ntmps144 (fun d => ?_)
 refine AW.seqR ?_
 refine R.assign ?_
 refine R.assign ?_
 refine R.fin [0, 1] ?_
 refine AW.seqR ?_
 refine R.move ?_
 refine R.move ?_
 refine R.add ?_
 refine R.assign ?_
 refine R.fin [0, 1, 6] ?_
 refine W.seq ?_
 refine AW.seqR ?_
 refine R.move ?_
 refine R.move ?_
 refine R.xor ?_
 refine R.move ?_
 refine R.move ?_
 refine R.xor ?_
 refine R.and ?_
 refine R.lss ?_
 refine R.fin [6, 17] ?_
 refine W.cond (fun ht17 => ?_) (fun ht17 => ?_)
 ·skip
  have hm : addI a b = (0, 4) := if_pos ht17
  refine AW.seqR ?_
  refine R.assign ?_
  refine R.assign ?_
  refine R.fin [4, 5] ?_
  refine AW.ret ?_
  refine K.thR ?_
  exact K.fin (V.two V.tmp V.tmp) ⟨by rw [hm], rfl⟩
 ·skip
  have hm : addI a b = (IntKind.i64.wrap (a + b), 0) := if_neg (by rw [ht17]; simp)
  refine AW.skip ?_
  refine K.thN ?_
  refine AW.seqR ?_
  refine R.move ?_
  refine R.assign ?_
  refine R.assign ?_
  refine R.fin [4, 5] ?_
  refine AW.ret ?_
  exact K.fin (V.two V.tmp V.tmp) ⟨by rw [hm], rfl⟩

theorem c104 (a : Int) (Hp : List AObj) : AFun Tryz.prog 104 [intA a] Hp (.tup [intA (subI 0 a).1, intA (subI 0 a).2]) := by
 refine ACall.body [.tmp 2, .tmp 3] [0] Tryz.func104 Tryz.ntmps104 (fun d => ?_)
 refine AW.seqR ?_
 refine R.assign ?_
 refine R.assign ?_
 refine R.fin [0] ?_
 refine AW.seqR ?_
 refine R.move ?_
 refine R.call Tryz.call124 (c124 _ _ _) ?_
 refine R.extract ?_
 refine R.extract ?_
 refine R.assign ?_
 refine R.assign ?_
 refine R.fin [2, 3] ?_
 refine AW.ret ?_
 exact K.fin (V.two V.tmp V.tmp)

theorem c170 (a : Int) (Hp : List AObj) : AFun Tryz.prog 170 [intA a] Hp (u64A (sizeI a)) := by
 refine ACall.body [.tmp 2] [0] Tryz.func170 Tryz.ntmps170 (fun d => ?_)
 refine AW.seqR ?_
 refine R.assign ?_
 refine R.fin [0] ?_
 refine W.seq ?_
 refine AW.seqR ?_
 refine R.move ?_
 refine R.lss ?_
 refine R.fin [0, 4] ?_
 refine W.cond (fun ht4 => ?_) (fun ht4 => ?_)
 ·skip
  have hm : sizeI a = IntKind.u64.wrap (0 - IntKind.u64.wrap a) := if_pos ht4
  refine AW.seqR ?_
  refine R.move ?_
  refine R.iconv Tryz.underlying2 Tryz.underlying68 ?_
  refine R.neg ?_
  refine R.assign ?_
  refine R.fin [2] ?_
  refine AW.ret ?_
  refine K.thR ?_
  exact K.fin (V.one V.tmp) ⟨by rw [hm], rfl⟩
 ·skip
  have hm : sizeI a = IntKind.u64.wrap a := if_neg (by rw [ht4]; simp)
  refine AW.skip ?_
  refine K.thN ?_
  refine AW.seqR ?_
  refine R.move ?_
  refine R.iconv Tryz.underlying2 Tryz.underlying68 ?_
  refine R.assign ?_
  refine R.fin [2] ?_
  refine AW.ret ?_
  exact K.fin (V.one V.tmp) ⟨by rw [hm], rfl⟩

theorem wrap_u (n : Int) : 0 ≤ IntKind.u64.wrap n ∧ IntKind.u64.wrap n < 18446744073709551616 := by rw [IntKind.wrap_u64]; omega
theorem size_u (a : Int) : 0 ≤ sizeI a ∧ sizeI a < 18446744073709551616 := by
 unfold sizeI
 split <;> exact wrap_u _
theorem c169 (x y : Int) (hx : 0 ≤ x ∧ x < 18446744073709551616) (hy : 0 ≤ y ∧ y < 18446744073709551616) (Hp : List AObj) : AFun Tryz.prog 169 [u64A x, u64A y] Hp (.tup [u64A (x * y / 18446744073709551616), u64A (x * y % 18446744073709551616)]) := by
 obtain ⟨m, rfl⟩ := Int.eq_ofNat_of_zero_le hx.1
 obtain ⟨n, rfl⟩ := Int.eq_ofNat_of_zero_le hy.1
 refine AFun.lib (xs := [.int .u64 m, .int .u64 n]) (v := .tuple #[.int .u64 ((m * n / 18446744073709551616 : Nat) : Int), .int .u64 ((m * n % 18446744073709551616 : Nat) : Int)]) (fun G w => rep_tup rfl (fun i y u hy hu => ?_)) (fun w hg => ?_)
 ·match i with
  | 0 => simp at hy hu; subst hy; subst hu; exact .v _ _
  | 1 => simp at hy hu; subst hy; subst hu; exact .v _ _
  | i + 2 => simp at hy
 refine (Any.bits_Mul64 Tryz.lays264 m n (by omega) (by omega) w).mono ?_
 rintro e w' ⟨rfl, rfl⟩
 exact ⟨rfl, Go.RowKit.Below.refl _ _⟩
theorem c143 (s t : Str) (Hp : List AObj) : AFun Tryz.prog 143 [strA s, strA t] Hp (intA (Lib.compareBytes s t)) := by
 refine AFun.lib (xs := [sv s, sv t]) (v := .int .i64 (Lib.compareBytes s t)) (fun G w => .v _ _) (fun w hg => ?_)
 refine (Any.strings_Compare Tryz.lays106 ⟨s.toArray⟩ ⟨t.toArray⟩ w).mono ?_
 rintro e w' ⟨rfl, rfl⟩
 exact ⟨rfl, Go.RowKit.Below.refl _ _⟩
theorem c145 (a b : Int) (Hp : List AObj) : AFun Tryz.prog 145 [intA a, intA b] Hp (.tup [intA (mulI a b).1, intA (mulI a b).2]) := by
 refine ACall.body [.tmp 4, .tmp 5] [0, 1] Tryz.func145 Tryz.ntmps145 (fun d => ?_)
 refine AW.seqR ?_
 refine R.assign ?_
 refine R.assign ?_
 refine R.fin [0, 1] ?_
 refine AW.seqR ?_
 refine R.move ?_
 refine R.call Tryz.call170 (c170 _ _) ?_
 refine R.move ?_
 refine R.call Tryz.call170 (c170 _ _) ?_
 refine R.call Tryz.call169 (c169 _ _ (size_u a) (size_u b) _) ?_
 refine R.move ?_
 refine R.extract ?_
 refine R.extract ?_
 refine R.assign ?_
 refine R.assign ?_
 refine R.fin [0, 1, 6, 7] ?_
 refine AW.seqR ?_
 refine R.move ?_
 refine R.lss ?_
 refine R.move ?_
 refine R.lss ?_
 refine R.bneq Tryz.underlying4 ?_
 refine R.assign ?_
 refine R.fin [6, 7, 8] ?_
 refine AW.seqR ?_
 refine R.assign ?_
 refine R.fin [6, 7, 8, 9] ?_
 refine W.seq ?_
 refine AW.seqR ?_
 refine R.move ?_
 refine R.fin [6, 7, 8, 9, 23] ?_
 refine W.cond (fun ht23 => ?_) (fun ht23 => ?_)
 ·skip
  refine AW.region ?_
  refine R.move ?_
  refine R.add ?_
  refine R.assign ?_
  refine R.fin [6, 7, 8, 9] ?_
  refine K.thN ?_
  refine W.seq ?_
  refine AW.block ?_
  refine AW.seqR ?_
  refine R.move ?_
  refine R.gtr ?_
  refine R.move ?_
  refine G.move ?_
  refine G.move ?_
  refine G.gtr ?_
  refine R.pickOr ?_
  refine R.assign ?_
  refine R.fin [7, 8, 26] ?_
  refine W.cond (fun ht26 => ?_) (fun ht26 => ?_)
  ·skip
   refine AW.seqR ?_
   refine R.assign ?_
   refine R.assign ?_
   refine R.fin [4, 5] ?_
   refine AW.ret ?_
   refine K.blR ?_
   refine K.thR ?_
   exact K.fin (V.two V.tmp V.tmp) ⟨by
    have w1 : IntKind.u64.wrap 9223372036854775808 = 9223372036854775808 := rfl
    simp_all [mulI]
    try first | (rw [if_pos ht26]; simp; done) | (rw [if_neg (by omega)]; simp; done), rfl⟩
  ·skip
   refine AW.seqR ?_
   refine R.move ?_
   refine R.assign ?_
   refine R.fin [7, 34] ?_
   refine W.cond (fun ht34 => ?_) (fun ht34 => ?_)
   ·skip
    refine AW.seqR ?_
    refine R.move ?_
    refine R.neg ?_
    refine R.iconv Tryz.underlying68 Tryz.underlying2 ?_
    refine R.assign ?_
    refine R.assign ?_
    refine R.fin [4, 5] ?_
    refine AW.ret ?_
    refine K.blR ?_
    refine K.thR ?_
    exact K.fin (V.two V.tmp V.tmp) ⟨by
     have w1 : IntKind.u64.wrap 9223372036854775808 = 9223372036854775808 := rfl
     simp_all [mulI]
     try first | (rw [if_pos ht26]; simp; done) | (rw [if_neg (by omega)]; simp; done), rfl⟩
   ·skip
    refine AW.skip ?_
    refine K.blN ?_
    refine K.thN ?_
    refine AW.seqR ?_
    refine R.move ?_
    refine R.iconv Tryz.underlying68 Tryz.underlying2 ?_
    refine R.assign ?_
    refine R.assign ?_
    refine R.fin [4, 5] ?_
    refine AW.ret ?_
    exact K.fin (V.two V.tmp V.tmp) ⟨by
     have w1 : IntKind.u64.wrap 9223372036854775808 = 9223372036854775808 := rfl
     simp_all [mulI]
     try first | (rw [if_pos ht26]; simp; done) | (rw [if_neg (by omega)]; simp; done), rfl⟩
 ·skip
  refine AW.skip ?_
  refine K.thN ?_
  refine W.seq ?_
  refine AW.block ?_
  refine AW.seqR ?_
  refine R.move ?_
  refine R.gtr ?_
  refine R.move ?_
  refine G.move ?_
  refine G.move ?_
  refine G.gtr ?_
  refine R.pickOr ?_
  refine R.assign ?_
  refine R.fin [7, 8, 26] ?_
  refine W.cond (fun ht26 => ?_) (fun ht26 => ?_)
  ·skip
   refine AW.seqR ?_
   refine R.assign ?_
   refine R.assign ?_
   refine R.fin [4, 5] ?_
   refine AW.ret ?_
   refine K.blR ?_
   refine K.thR ?_
   exact K.fin (V.two V.tmp V.tmp) ⟨by
    have w1 : IntKind.u64.wrap 9223372036854775808 = 9223372036854775808 := rfl
    simp_all [mulI]
    try first | (rw [if_pos ht26]; simp; done) | (rw [if_neg (by omega)]; simp; done), rfl⟩
  ·skip
   refine AW.seqR ?_
   refine R.move ?_
   refine R.assign ?_
   refine R.fin [7, 34] ?_
   refine W.cond (fun ht34 => ?_) (fun ht34 => ?_)
   ·skip
    refine AW.seqR ?_
    refine R.move ?_
    refine R.neg ?_
    refine R.iconv Tryz.underlying68 Tryz.underlying2 ?_
    refine R.assign ?_
    refine R.assign ?_
    refine R.fin [4, 5] ?_
    refine AW.ret ?_
    refine K.blR ?_
    refine K.thR ?_
    exact K.fin (V.two V.tmp V.tmp) ⟨by
     have w1 : IntKind.u64.wrap 9223372036854775808 = 9223372036854775808 := rfl
     simp_all [mulI]
     try first | (rw [if_pos ht26]; simp; done) | (rw [if_neg (by omega)]; simp; done), rfl⟩
   ·skip
    refine AW.skip ?_
    refine K.blN ?_
    refine K.thN ?_
    refine AW.seqR ?_
    refine R.move ?_
    refine R.iconv Tryz.underlying68 Tryz.underlying2 ?_
    refine R.assign ?_
    refine R.assign ?_
    refine R.fin [4, 5] ?_
    refine AW.ret ?_
    exact K.fin (V.two V.tmp V.tmp) ⟨by
     have w1 : IntKind.u64.wrap 9223372036854775808 = 9223372036854775808 := rfl
     simp_all [mulI]
     try first | (rw [if_pos ht26]; simp; done) | (rw [if_neg (by omega)]; simp; done), rfl⟩

theorem c146 (a b : Int) (Hp : List AObj) : AFun Tryz.prog 146 [intA a, intA b] Hp (.tup [intA (divI a b).1, intA (divI a b).2]) := by
 refine ACall.body [.tmp 4, .tmp 5] [0, 1] Tryz.func146 Tryz.ntmps146 (fun d => ?_)
 refine AW.seqR ?_
 refine R.assign ?_
 refine R.assign ?_
 refine R.fin [0, 1] ?_
 refine W.seq ?_
 refine AW.block ?_
 refine AW.seqR ?_
 refine R.move ?_
 refine R.eql ?_
 refine R.assign ?_
 refine R.fin [0, 1, 6] ?_
 refine W.cond (fun ht6 => ?_) (fun ht6 => ?_)
 ·skip
  refine AW.seqR ?_
  refine R.assign ?_
  refine R.assign ?_
  refine R.fin [4, 5] ?_
  refine AW.ret ?_
  refine K.blR ?_
  refine K.thR ?_
  first | (by_cases e0 : divI a b = (0, 5); exact K.fin (V.two V.tmp V.tmp) ⟨by rw [e0]; try rfl, rfl⟩; exfalso; refine e0 ?_; clear e0; simp_all [divI]; done) | (by_cases e0 : divI a b = (0, 4); exact K.fin (V.two V.tmp V.tmp) ⟨by rw [e0]; try rfl, rfl⟩; exfalso; refine e0 ?_; clear e0; simp_all [divI]; done) | (by_cases e0 : divI a b = (IntKind.i64.wrap (a.tdiv b), 0); exact K.fin (V.two V.tmp V.tmp) ⟨by rw [e0]; try rfl, rfl⟩; exfalso; refine e0 ?_; clear e0; simp_all [divI]; done)
 ·skip
  refine AW.seqR ?_
  refine R.move ?_
  refine R.eql ?_
  refine R.move ?_
  refine G.move ?_
  refine G.eql ?_
  refine R.pickAnd ?_
  refine R.assign ?_
  refine R.fin [0, 1, 9] ?_
  refine W.cond (fun ht9 => ?_) (fun ht9 => ?_)
  ·skip
   refine AW.seqR ?_
   refine R.assign ?_
   refine R.assign ?_
   refine R.fin [4, 5] ?_
   refine AW.ret ?_
   refine K.blR ?_
   refine K.thR ?_
   first | (by_cases e0 : divI a b = (0, 5); exact K.fin (V.two V.tmp V.tmp) ⟨by rw [e0]; try rfl, rfl⟩; exfalso; refine e0 ?_; clear e0; simp_all [divI]; done) | (by_cases e0 : divI a b = (0, 4); exact K.fin (V.two V.tmp V.tmp) ⟨by rw [e0]; try rfl, rfl⟩; exfalso; refine e0 ?_; clear e0; simp_all [divI]; done) | (by_cases e0 : divI a b = (IntKind.i64.wrap (a.tdiv b), 0); exact K.fin (V.two V.tmp V.tmp) ⟨by rw [e0]; try rfl, rfl⟩; exfalso; refine e0 ?_; clear e0; simp_all [divI]; done)
  ·skip
   refine AW.skip ?_
   refine K.blN ?_
   refine K.thN ?_
   refine AW.seqR ?_
   refine R.move ?_
   refine R.move ?_
   refine R.quo (h0 := by simpa using ht6) ?_
   refine R.assign ?_
   refine R.assign ?_
   refine R.fin [4, 5] ?_
   refine AW.ret ?_
   first | (by_cases e0 : divI a b = (0, 5); exact K.fin (V.two V.tmp V.tmp) ⟨by rw [e0]; try rfl, rfl⟩; exfalso; refine e0 ?_; clear e0; simp_all [divI]; done) | (by_cases e0 : divI a b = (0, 4); exact K.fin (V.two V.tmp V.tmp) ⟨by rw [e0]; try rfl, rfl⟩; exfalso; refine e0 ?_; clear e0; simp_all [divI]; done) | (by_cases e0 : divI a b = (IntKind.i64.wrap (a.tdiv b), 0); exact K.fin (V.two V.tmp V.tmp) ⟨by rw [e0]; try rfl, rfl⟩; exfalso; refine e0 ?_; clear e0; simp_all [divI]; done)

theorem tmod_wrap {a b : Int} (ha : -9223372036854775808 ≤ a ∧ a ≤ 9223372036854775807) : IntKind.i64.wrap (a.tmod b) = a.tmod b := by
 have h1 : (a.tmod b).natAbs ≤ a.natAbs := by rw [Int.natAbs_tmod]; exact Nat.mod_le _ _
 rw [IntKind.wrap_i64]
 rcases Int.le_total 0 a with h | h
 ·have := Int.tmod_nonneg b h
  omega
 ·have h2 := Int.tmod_nonneg b (show 0 ≤ -a by omega)
  rw [Int.neg_tmod] at h2
  omega
theorem c147 (a b : Int) (ha : -9223372036854775808 ≤ a ∧ a ≤ 9223372036854775807) (Hp : List AObj) : AFun Tryz.prog 147 [intA a, intA b] Hp (.tup [intA (remI a b).1, intA (remI a b).2]) := by
 refine ACall.body [.tmp 4, .tmp 5] [0, 1] Tryz.func147 Tryz.ntmps147 (fun d => ?_)
 refine AW.seqR ?_
 refine R.assign ?_
 refine R.assign ?_
 refine R.fin [0, 1] ?_
 refine W.seq ?_
 refine AW.seqR ?_
 refine R.move ?_
 refine R.fin [0, 1, 6] ?_
 refine AW.block ?_
 refine AW.seqR ?_
 refine R.eql ?_
 refine R.assign ?_
 refine R.fin [0, 1, 6, 7] ?_
 refine W.cond (fun ht7 => ?_) (fun ht7 => ?_)
 ·skip
  have hm : remI a b = (0, 5) := if_pos ht7
  refine AW.seqR ?_
  refine R.assign ?_
  refine R.assign ?_
  refine R.fin [4, 5] ?_
  refine AW.ret ?_
  refine K.blR ?_
  refine K.thR ?_
  exact K.fin (V.two V.tmp V.tmp) ⟨by rw [hm], rfl⟩
 ·skip
  refine AW.seqR ?_
  refine R.eql ?_
  refine R.assign ?_
  refine R.fin [0, 1, 9] ?_
  refine W.cond (fun ht9 => ?_) (fun ht9 => ?_)
  ·skip
   have hm : remI a b = (0, 0) := by unfold remI; rw [if_neg (by rw [ht7]; simp), if_pos ht9]
   refine AW.seqR ?_
   refine R.assign ?_
   refine R.assign ?_
   refine R.fin [4, 5] ?_
   refine AW.ret ?_
   refine K.blR ?_
   refine K.thR ?_
   exact K.fin (V.two V.tmp V.tmp) ⟨by rw [hm], rfl⟩
  ·skip
   have hm : remI a b = (a.tmod b, 0) := by unfold remI; rw [if_neg (by rw [ht7]; simp), if_neg (by rw [ht9]; simp), tmod_wrap ha]
   refine AW.skip ?_
   refine K.blN ?_
   refine K.thN ?_
   refine AW.seqR ?_
   refine R.move ?_
   refine R.move ?_
   refine R.rem (h0 := by simpa using ht7) ?_
   refine R.assign ?_
   refine R.assign ?_
   refine R.fin [4, 5] ?_
   refine AW.ret ?_
   exact K.fin (V.two V.tmp V.tmp) ⟨by rw [hm], rfl⟩

theorem c166 (a : Int) (Hp : List AObj) : AFun Tryz.prog 166 [intA a] Hp (boolA false) := by
 refine ACall.body [.tmp 2] [0] Tryz.func166 Tryz.ntmps166 (fun d => ?_)
 refine AW.seqR ?_
 refine R.assign ?_
 refine R.fin [0] ?_
 refine AW.seqR ?_
 refine R.move ?_
 refine R.move ?_
 refine R.neq ?_
 refine R.assign ?_
 refine R.fin [2] ?_
 refine AW.ret ?_
 exact K.fin (V.one V.tmp) ⟨by simp, rfl⟩

theorem c167 (a : Int) (Hp : List AObj) : AFun Tryz.prog 167 [intA a] Hp (boolA false) := by
 refine ACall.body [.tmp 2] [0] Tryz.func167 Tryz.ntmps167 (fun d => ?_)
 refine AW.seqR ?_
 refine R.assign ?_
 refine R.fin [0] ?_
 refine AW.seqR ?_
 refine R.move ?_
 refine R.move ?_
 refine R.neq ?_
 refine R.assign ?_
 refine R.fin [2] ?_
 refine AW.ret ?_
 exact K.fin (V.one V.tmp) ⟨by simp, rfl⟩

theorem c141 (a b : Int) (Hp : List AObj) : AFun Tryz.prog 141 [intA a, intA b] Hp (intA (cmpI a b)) := by
 refine ACall.body [.tmp 4] [0, 1] Tryz.func141 Tryz.ntmps141 (fun d => ?_)
 refine AW.seqR ?_
 refine R.assign ?_
 refine R.fin [0, 1] ?_
 refine AW.seqR ?_
 refine R.move ?_
 refine R.call Tryz.call166 (c166 _ _) ?_
 refine R.assign ?_
 refine R.fin [0, 1, 5] ?_
 refine AW.seqR ?_
 refine R.move ?_
 refine R.call Tryz.call166 (c166 _ _) ?_
 refine R.assign ?_
 refine R.fin [0, 1, 5, 6] ?_
 refine W.seq ?_
 refine AW.seqR ?_
 refine R.move ?_
 refine R.fin [0, 1, 6, 11] ?_
 refine W.cond (fun ht11 => ?_) (fun ht11 => ?_)
 ·skip
  cases ht11
 ·skip
  refine AW.skip ?_
  refine K.thN ?_
  refine W.seq ?_
  refine AW.seqR ?_
  refine R.move ?_
  refine R.fin [0, 1, 13] ?_
  refine W.cond (fun ht13 => ?_) (fun ht13 => ?_)
  ·skip
   cases ht13
  ·skip
   refine AW.skip ?_
   refine K.thN ?_
   refine W.seq ?_
   refine AW.seqR ?_
   refine R.move ?_
   refine R.move ?_
   refine R.lss ?_
   refine R.fin [0, 1, 16] ?_
   refine W.cond (fun ht16 => ?_) (fun ht16 => ?_)
   ·skip
    have hm : cmpI a b = -1 := if_pos ht16
    refine AW.seqR ?_
    refine R.assign ?_
    refine R.fin [4] ?_
    refine AW.ret ?_
    refine K.thR ?_
    exact K.fin (V.one V.tmp) ⟨by rw [hm], rfl⟩
   ·skip
    refine AW.skip ?_
    refine K.thN ?_
    refine W.seq ?_
    refine AW.seqR ?_
    refine R.move ?_
    refine R.move ?_
    refine R.gtr ?_
    refine R.fin [19] ?_
    refine W.cond (fun ht19 => ?_) (fun ht19 => ?_)
    ·skip
     have hm : cmpI a b = 1 := by unfold cmpI; rw [if_neg (by rw [ht16]; simp), if_pos ht19]
     refine AW.seqR ?_
     refine R.assign ?_
     refine R.fin [4] ?_
     refine AW.ret ?_
     refine K.thR ?_
     exact K.fin (V.one V.tmp) ⟨by rw [hm], rfl⟩
    ·skip
     have hm : cmpI a b = 0 := by unfold cmpI; rw [if_neg (by rw [ht16]; simp), if_neg (by rw [ht19]; simp)]
     refine AW.skip ?_
     refine K.thN ?_
     refine AW.seqR ?_
     refine R.assign ?_
     refine R.fin [4] ?_
     refine AW.ret ?_
     exact K.fin (V.one V.tmp) ⟨by rw [hm], rfl⟩

theorem c142 (a b : Int) (Hp : List AObj) : AFun Tryz.prog 142 [intA a, intA b] Hp (intA (cmpI a b)) := by
 refine ACall.body [.tmp 4] [0, 1] Tryz.func142 Tryz.ntmps142 (fun d => ?_)
 refine AW.seqR ?_
 refine R.assign ?_
 refine R.fin [0, 1] ?_
 refine AW.seqR ?_
 refine R.move ?_
 refine R.call Tryz.call167 (c167 _ _) ?_
 refine R.assign ?_
 refine R.fin [0, 1, 5] ?_
 refine AW.seqR ?_
 refine R.move ?_
 refine R.call Tryz.call167 (c167 _ _) ?_
 refine R.assign ?_
 refine R.fin [0, 1, 5, 6] ?_
 refine W.seq ?_
 refine AW.seqR ?_
 refine R.move ?_
 refine R.fin [0, 1, 6, 11] ?_
 refine W.cond (fun ht11 => ?_) (fun ht11 => ?_)
 ·skip
  cases ht11
 ·skip
  refine AW.skip ?_
  refine K.thN ?_
  refine W.seq ?_
  refine AW.seqR ?_
  refine R.move ?_
  refine R.fin [0, 1, 13] ?_
  refine W.cond (fun ht13 => ?_) (fun ht13 => ?_)
  ·skip
   cases ht13
  ·skip
   refine AW.skip ?_
   refine K.thN ?_
   refine W.seq ?_
   refine AW.seqR ?_
   refine R.move ?_
   refine R.move ?_
   refine R.lss ?_
   refine R.fin [0, 1, 16] ?_
   refine W.cond (fun ht16 => ?_) (fun ht16 => ?_)
   ·skip
    have hm : cmpI a b = -1 := if_pos ht16
    refine AW.seqR ?_
    refine R.assign ?_
    refine R.fin [4] ?_
    refine AW.ret ?_
    refine K.thR ?_
    exact K.fin (V.one V.tmp) ⟨by rw [hm], rfl⟩
   ·skip
    refine AW.skip ?_
    refine K.thN ?_
    refine W.seq ?_
    refine AW.seqR ?_
    refine R.move ?_
    refine R.move ?_
    refine R.gtr ?_
    refine R.fin [19] ?_
    refine W.cond (fun ht19 => ?_) (fun ht19 => ?_)
    ·skip
     have hm : cmpI a b = 1 := by unfold cmpI; rw [if_neg (by rw [ht16]; simp), if_pos ht19]
     refine AW.seqR ?_
     refine R.assign ?_
     refine R.fin [4] ?_
     refine AW.ret ?_
     refine K.thR ?_
     exact K.fin (V.one V.tmp) ⟨by rw [hm], rfl⟩
    ·skip
     have hm : cmpI a b = 0 := by unfold cmpI; rw [if_neg (by rw [ht16]; simp), if_neg (by rw [ht19]; simp)]
     refine AW.skip ?_
     refine K.thN ?_
     refine AW.seqR ?_
     refine R.assign ?_
     refine R.fin [4] ?_
     refine AW.ret ?_
     exact K.fin (V.one V.tmp) ⟨by rw [hm], rfl⟩

theorem orI_step {l : List Int} {x : Nat} (h : x < l.length) (hx : orI l = orI (l.drop x)) : orI l = if l[x] != 0 then l[x] else orI (l.drop (x + 1)) := by rw [hx, List.drop_eq_getElem_cons h, orI]
theorem c140 (l : List Int) (hl : l.length ≤ 1048576) (Hp : List AObj) : AFun Tryz.prog 140 [intsA l] Hp (intA (orI l)) := by
 refine ACall.body [.tmp 2] [0] Tryz.func140 Tryz.ntmps140 (fun d => ?_)
 refine AW.seqR ?_
 refine R.assign ?_
 refine R.fin [0] ?_
 refine AW.seqR ?_
 refine R.assign ?_
 refine R.fin [0, 3] ?_
 refine W.seq ?_
 refine AW.seqR ?_
 refine R.move ?_
 refine R.len Tryz.underlying145 ?_
 refine R.move ?_
 refine R.fin [3, 6, 7, 8] ?_
 refine AW.loopC (α := Nat) (fun x => ⟨18, setF 3 (intA 0) (setF 6 (intsA l) (setF 7 (intA (l.length : Nat)) (setF 8 (intA (x : Nat)) (fun _ => .any)))), Hp, [], [], none⟩) (fun x => x ≤ l.length ∧ orI l = orI (l.drop x)) (fun x => l.length - x) (0) ⟨Nat.zero_le _, rfl⟩ (StLe.of_eq (by simp)) rfl (fun x hx => ?_)
 refine AW.seqR ?_
 refine R.lss ?_
 refine R.fin [3, 6, 7, 8, 9] ?_
 refine W.condX (fun ht9 => ?_) (fun ht9 => ?_)
 ·skip
  have hlt : x < l.length := by simpa using ht9
  have hst := orI_step hlt hx.2
  refine W.seq ?_
  refine AW.block ?_
  refine AW.seqR ?_
  refine R.indexAddr (x) (intA l[x]) Tryz.underlying145 Tryz.sizeOf3 (getMap hlt) ?_
  refine R.loadRo Tryz.isAgg3 ?_
  refine R.assign ?_
  refine R.fin [3, 5, 6, 7, 8] ?_
  refine AW.seqR ?_
  refine R.move ?_
  refine R.move ?_
  refine R.neq ?_
  refine R.fin [3, 5, 6, 7, 8, 14] ?_
  refine W.cond (fun ht14 => ?_) (fun ht14 => ?_)
  ·skip
   have hm : orI l = l[x] := by rw [hst, if_pos ht14]
   refine AW.seqR ?_
   refine R.move ?_
   refine R.assign ?_
   refine R.fin [2] ?_
   refine AW.ret ?_
   refine K.blR ?_
   refine K.thR ?_
   refine K.lpR ?_
   refine K.thR ?_
   exact K.fin (V.one V.tmp) ⟨by rw [hm], rfl⟩
  ·skip
   have hn : orI l = orI (l.drop (x + 1)) := by rw [hst, if_neg (by rw [ht14]; simp)]
   refine AW.skip ?_
   refine K.blN ?_
   refine K.thN ?_
   refine AW.region ?_
   refine R.add64 ?_
   refine R.move ?_
   refine R.fin [3, 6, 7, 8] ?_
   refine K.lpN (x + 1) ⟨hlt, hn⟩ (by omega) ?_
   exact StCut.of_eq (by simp)
 ·skip
  have hxe : l.length ≤ x := by simpa using ht9
  have hm : orI l = 0 := by rw [hx.2, List.drop_of_length_le hxe]; rfl
  refine K.lpE ?_
  refine K.thN ?_
  refine AW.seqR ?_
  refine R.move ?_
  refine R.assign ?_
  refine R.fin [2] ?_
  refine AW.ret ?_
  exact K.fin (V.one V.tmp) ⟨by rw [hm], rfl⟩

theorem c120 (a b : Val) (Hp : List AObj) : AFun Tryz.prog 120 [valA a, valA b] Hp (intA (cmpV a b)) := by
 refine ACall.body [.tmp 4] [0, 1] Tryz.func120 Tryz.ntmps120 (fun d => ?_)
 refine AW.seqR ?_
 refine R.boxRo ?_
 refine R.boxRo ?_
 refine R.assign ?_
 refine R.fin [2, 3] ?_
 refine W.seq ?_
 refine AW.seqR ?_
 refine R.loadRoN Tryz.isAgg23 Tryz.sizeOf23 ?_
 refine R.call Tryz.call34 (c34 a _) ?_
 refine R.not ?_
 refine R.move ?_
 refine G.loadRoN Tryz.isAgg23 Tryz.sizeOf23 ?_
 refine G.call Tryz.call34 (fun hB => c34 b _) ?_
 refine G.not ?_
 refine R.pickOr ?_
 refine R.fin [2, 3, 12] ?_
 refine W.cond (fun ht12 => ?_) (fun ht12 => ?_)
 ·skip
  have hm : cmpV a b = 0 := if_pos ht12
  refine AW.seqR ?_
  refine R.assign ?_
  refine R.fin [4] ?_
  refine AW.ret ?_
  refine K.thR ?_
  exact K.fin (V.one V.tmp) ⟨by rw [hm], rfl⟩
 ·skip
  have hm : cmpV a b = orI [cmpI a.kind b.kind, cmpI a.n b.n, Lib.compareBytes a.s b.s] := if_neg (by rw [ht12]; simp)
  refine AW.skip ?_
  refine K.thN ?_
  refine W.draw [0, 1, 0, 4, 15, 0, 32, 0, 128, 511, 0, 1024, 0, 4096, 16383, 32767, 65535, 131071] 14 Tryzmixed (by kernel_rfl) ?_
  refine D.fieldAddrRo (off := 0) Tryz.underlying23 Tryz.sizeOf3 ?_
  refine D.loadRo Tryz.isAgg3 ?_
  refine D.fieldAddrRo (off := 0) Tryz.underlying23 Tryz.sizeOf3 ?_
  refine D.loadRo Tryz.isAgg3 ?_
  refine D.call Tryz.call141 (c141 _ _ _) ?_
  refine D.fieldAddrRo (off := 1) Tryz.underlying23 Tryz.sizeOf2 ?_
  refine D.loadRo Tryz.isAgg2 ?_
  refine D.fieldAddrRo (off := 1) Tryz.underlying23 Tryz.sizeOf2 ?_
  refine D.loadRo Tryz.isAgg2 ?_
  refine D.call Tryz.call142 (c142 _ _ _) ?_
  refine D.fieldAddrRo (off := 2) Tryz.underlying23 Tryz.sizeOf9 ?_
  refine D.loadRo Tryz.isAgg9 ?_
  refine D.fieldAddrRo (off := 2) Tryz.underlying23 Tryz.sizeOf9 ?_
  refine D.loadRo Tryz.isAgg9 ?_
  refine D.tail ?_
  refine R.call Tryz.call143 (c143 _ _ _) ?_
  refine R.buildSlice Tryz.underlying145 Tryz.sizeOf3 Tryz.zeroValue3 ?_
  refine R.call Tryz.call140 (c140 [cmpI a.kind b.kind, cmpI a.n b.n, Lib.compareBytes a.s b.s] (by simp) _) ?_
  refine R.assign ?_
  refine R.fin [4] ?_
  refine AW.ret ?_
  exact K.fin (V.one V.tmp) ⟨by rw [hm], rfl⟩

end Go.SX.Nb
namespace Go.SX.Nb
open Go Go.SX Go.Proofs
variable [ErrAt]
set_option maxRecDepth 4000
theorem c122 (t : Str) (a b : Int) (ha : -9223372036854775808 ≤ a ∧ a ≤ 9223372036854775807) (Hp : List AObj) : AFun Tryz.prog 122 [strA t, intA a, intA b] Hp (resA (wholeR (arithI t a b))) := by
 refine ACall.body [.cell 6 23, .tmp 7] [0, 1, 2] Tryz.func122 Tryz.ntmps122 (fun d => ?_)
 refine AW.seqR ?_
 refine R.alloc Tryz.zeroValue23 ?_
 refine R.assign ?_
 refine R.fin [0, 1, 2, 6] ?_
 refine W.seq ?_
 refine AW.seqR ?_
 refine R.move ?_
 refine R.fin [1, 2, 6, 8] ?_
 refine AW.block ?_
 refine AW.seqR ?_
 refine R.seql ?_
 refine R.assign ?_
 refine R.fin [1, 2, 6, 8, 9] ?_
 refine W.cond (fun ht9 => ?_) (fun ht9 => ?_)
 ·skip
  refine AW.seqR ?_
  refine R.move ?_
  refine R.move ?_
  refine R.call Tryz.call144 (c144 _ _ _) ?_
  refine R.extract ?_
  refine R.extract ?_
  refine R.call Tryz.call103 (c103 _ _ _) ?_
  refine R.extract ?_
  refine R.extract ?_
  refine R.storeOwn Tryz.sizeOf23 ?_
  refine R.assign ?_
  refine R.fin [6, 7] ?_
  refine AW.ret ?_
  refine K.blR ?_
  refine K.thR ?_
  first | (by_cases e0 : arithI t a b = addI a b; exact K.fin (V.two (V.cellN Tryz.isAgg23 Tryz.sizeOf23) V.tmp) ⟨by rw [e0]; try rfl, rfl⟩; exfalso; refine e0 ?_; clear e0; simp_all [arithI]; done) | (by_cases e0 : arithI t a b = subI a b; exact K.fin (V.two (V.cellN Tryz.isAgg23 Tryz.sizeOf23) V.tmp) ⟨by rw [e0]; try rfl, rfl⟩; exfalso; refine e0 ?_; clear e0; simp_all [arithI]; done) | (by_cases e0 : arithI t a b = mulI a b; exact K.fin (V.two (V.cellN Tryz.isAgg23 Tryz.sizeOf23) V.tmp) ⟨by rw [e0]; try rfl, rfl⟩; exfalso; refine e0 ?_; clear e0; simp_all [arithI]; done) | (by_cases e0 : arithI t a b = divI a b; exact K.fin (V.two (V.cellN Tryz.isAgg23 Tryz.sizeOf23) V.tmp) ⟨by rw [e0]; try rfl, rfl⟩; exfalso; refine e0 ?_; clear e0; simp_all [arithI]; done) | (by_cases e0 : arithI t a b = remI a b; exact K.fin (V.two (V.cellN Tryz.isAgg23 Tryz.sizeOf23) V.tmp) ⟨by rw [e0]; try rfl, rfl⟩; exfalso; refine e0 ?_; clear e0; simp_all [arithI]; done)
 ·skip
  refine AW.seqR ?_
  refine R.seql ?_
  refine R.assign ?_
  refine R.fin [1, 2, 6, 8, 19] ?_
  refine W.cond (fun ht19 => ?_) (fun ht19 => ?_)
  ·skip
   refine AW.seqR ?_
   refine R.move ?_
   refine R.move ?_
   refine R.call Tryz.call124 (c124 _ _ _) ?_
   refine R.extract ?_
   refine R.extract ?_
   refine R.call Tryz.call103 (c103 _ _ _) ?_
   refine R.extract ?_
   refine R.extract ?_
   refine R.storeOwn Tryz.sizeOf23 ?_
   refine R.assign ?_
   refine R.fin [6, 7] ?_
   refine AW.ret ?_
   refine K.blR ?_
   refine K.thR ?_
   first | (by_cases e0 : arithI t a b = addI a b; exact K.fin (V.two (V.cellN Tryz.isAgg23 Tryz.sizeOf23) V.tmp) ⟨by rw [e0]; try rfl, rfl⟩; exfalso; refine e0 ?_; clear e0; simp_all [arithI]; done) | (by_cases e0 : arithI t a b = subI a b; exact K.fin (V.two (V.cellN Tryz.isAgg23 Tryz.sizeOf23) V.tmp) ⟨by rw [e0]; try rfl, rfl⟩; exfalso; refine e0 ?_; clear e0; simp_all [arithI]; done) | (by_cases e0 : arithI t a b = mulI a b; exact K.fin (V.two (V.cellN Tryz.isAgg23 Tryz.sizeOf23) V.tmp) ⟨by rw [e0]; try rfl, rfl⟩; exfalso; refine e0 ?_; clear e0; simp_all [arithI]; done) | (by_cases e0 : arithI t a b = divI a b; exact K.fin (V.two (V.cellN Tryz.isAgg23 Tryz.sizeOf23) V.tmp) ⟨by rw [e0]; try rfl, rfl⟩; exfalso; refine e0 ?_; clear e0; simp_all [arithI]; done) | (by_cases e0 : arithI t a b = remI a b; exact K.fin (V.two (V.cellN Tryz.isAgg23 Tryz.sizeOf23) V.tmp) ⟨by rw [e0]; try rfl, rfl⟩; exfalso; refine e0 ?_; clear e0; simp_all [arithI]; done)
  ·skip
   refine AW.seqR ?_
   refine R.seql ?_
   refine R.assign ?_
   refine R.fin [1, 2, 6, 8, 29] ?_
   refine W.cond (fun ht29 => ?_) (fun ht29 => ?_)
   ·skip
    refine AW.seqR ?_
    refine R.move ?_
    refine R.move ?_
    refine R.call Tryz.call145 (c145 _ _ _) ?_
    refine R.extract ?_
    refine R.extract ?_
    refine R.call Tryz.call103 (c103 _ _ _) ?_
    refine R.extract ?_
    refine R.extract ?_
    refine R.storeOwn Tryz.sizeOf23 ?_
    refine R.assign ?_
    refine R.fin [6, 7] ?_
    refine AW.ret ?_
    refine K.blR ?_
    refine K.thR ?_
    first | (by_cases e0 : arithI t a b = addI a b; exact K.fin (V.two (V.cellN Tryz.isAgg23 Tryz.sizeOf23) V.tmp) ⟨by rw [e0]; try rfl, rfl⟩; exfalso; refine e0 ?_; clear e0; simp_all [arithI]; done) | (by_cases e0 : arithI t a b = subI a b; exact K.fin (V.two (V.cellN Tryz.isAgg23 Tryz.sizeOf23) V.tmp) ⟨by rw [e0]; try rfl, rfl⟩; exfalso; refine e0 ?_; clear e0; simp_all [arithI]; done) | (by_cases e0 : arithI t a b = mulI a b; exact K.fin (V.two (V.cellN Tryz.isAgg23 Tryz.sizeOf23) V.tmp) ⟨by rw [e0]; try rfl, rfl⟩; exfalso; refine e0 ?_; clear e0; simp_all [arithI]; done) | (by_cases e0 : arithI t a b = divI a b; exact K.fin (V.two (V.cellN Tryz.isAgg23 Tryz.sizeOf23) V.tmp) ⟨by rw [e0]; try rfl, rfl⟩; exfalso; refine e0 ?_; clear e0; simp_all [arithI]; done) | (by_cases e0 : arithI t a b = remI a b; exact K.fin (V.two (V.cellN Tryz.isAgg23 Tryz.sizeOf23) V.tmp) ⟨by rw [e0]; try rfl, rfl⟩; exfalso; refine e0 ?_; clear e0; simp_all [arithI]; done)
   ·skip
    refine AW.seqR ?_
    refine R.seql ?_
    refine R.assign ?_
    refine R.fin [1, 2, 6, 39] ?_
    refine W.cond (fun ht39 => ?_) (fun ht39 => ?_)
    ·skip
     refine AW.seqR ?_
     refine R.move ?_
     refine R.move ?_
     refine R.call Tryz.call146 (c146 _ _ _) ?_
     refine R.extract ?_
     refine R.extract ?_
     refine R.call Tryz.call103 (c103 _ _ _) ?_
     refine R.extract ?_
     refine R.extract ?_
     refine R.storeOwn Tryz.sizeOf23 ?_
     refine R.assign ?_
     refine R.fin [6, 7] ?_
     refine AW.ret ?_
     refine K.blR ?_
     refine K.thR ?_
     first | (by_cases e0 : arithI t a b = addI a b; exact K.fin (V.two (V.cellN Tryz.isAgg23 Tryz.sizeOf23) V.tmp) ⟨by rw [e0]; try rfl, rfl⟩; exfalso; refine e0 ?_; clear e0; simp_all [arithI]; done) | (by_cases e0 : arithI t a b = subI a b; exact K.fin (V.two (V.cellN Tryz.isAgg23 Tryz.sizeOf23) V.tmp) ⟨by rw [e0]; try rfl, rfl⟩; exfalso; refine e0 ?_; clear e0; simp_all [arithI]; done) | (by_cases e0 : arithI t a b = mulI a b; exact K.fin (V.two (V.cellN Tryz.isAgg23 Tryz.sizeOf23) V.tmp) ⟨by rw [e0]; try rfl, rfl⟩; exfalso; refine e0 ?_; clear e0; simp_all [arithI]; done) | (by_cases e0 : arithI t a b = divI a b; exact K.fin (V.two (V.cellN Tryz.isAgg23 Tryz.sizeOf23) V.tmp) ⟨by rw [e0]; try rfl, rfl⟩; exfalso; refine e0 ?_; clear e0; simp_all [arithI]; done) | (by_cases e0 : arithI t a b = remI a b; exact K.fin (V.two (V.cellN Tryz.isAgg23 Tryz.sizeOf23) V.tmp) ⟨by rw [e0]; try rfl, rfl⟩; exfalso; refine e0 ?_; clear e0; simp_all [arithI]; done)
    ·skip
     refine AW.skip ?_
     refine K.blN ?_
     refine K.thN ?_
     refine AW.seqR ?_
     refine R.move ?_
     refine R.move ?_
     refine R.call Tryz.call147 (c147 _ _ ha _) ?_
     refine R.extract ?_
     refine R.extract ?_
     refine R.call Tryz.call103 (c103 _ _ _) ?_
     refine R.extract ?_
     refine R.extract ?_
     refine R.storeOwn Tryz.sizeOf23 ?_
     refine R.assign ?_
     refine R.fin [6, 7] ?_
     refine AW.ret ?_
     first | (by_cases e0 : arithI t a b = addI a b; exact K.fin (V.two (V.cellN Tryz.isAgg23 Tryz.sizeOf23) V.tmp) ⟨by rw [e0]; try rfl, rfl⟩; exfalso; refine e0 ?_; clear e0; simp_all [arithI]; done) | (by_cases e0 : arithI t a b = subI a b; exact K.fin (V.two (V.cellN Tryz.isAgg23 Tryz.sizeOf23) V.tmp) ⟨by rw [e0]; try rfl, rfl⟩; exfalso; refine e0 ?_; clear e0; simp_all [arithI]; done) | (by_cases e0 : arithI t a b = mulI a b; exact K.fin (V.two (V.cellN Tryz.isAgg23 Tryz.sizeOf23) V.tmp) ⟨by rw [e0]; try rfl, rfl⟩; exfalso; refine e0 ?_; clear e0; simp_all [arithI]; done) | (by_cases e0 : arithI t a b = divI a b; exact K.fin (V.two (V.cellN Tryz.isAgg23 Tryz.sizeOf23) V.tmp) ⟨by rw [e0]; try rfl, rfl⟩; exfalso; refine e0 ?_; clear e0; simp_all [arithI]; done) | (by_cases e0 : arithI t a b = remI a b; exact K.fin (V.two (V.cellN Tryz.isAgg23 Tryz.sizeOf23) V.tmp) ⟨by rw [e0]; try rfl, rfl⟩; exfalso; refine e0 ?_; clear e0; simp_all [arithI]; done)

theorem c121 (a b : Val) (fa : Fine a) (fb : Fine b) (Hp : List AObj) : AFun Tryz.prog 121 [.slice false 3 [valA a, valA b]] Hp (resA (joinR a b)) := by
 refine ACall.body [.cell 2 23, .tmp 3] [0] Tryz.func121 Tryz.ntmps121 (fun d => ?_)
 refine AW.seqR ?_
 refine R.alloc Tryz.zeroValue23 ?_
 refine R.assign ?_
 refine R.fin [0, 2] ?_
 refine W.seq ?_
 refine AW.block ?_
 refine AW.seqR ?_
 refine R.move ?_
 refine R.buildSl Tryz.underlying145 Tryz.sizeOf3 Tryz.zeroValue3 ?_
 refine R.call Tryz.call102 (c102 [a, b] [2, 2] (by simp) (by simp) _) ?_
 refine R.not ?_
 refine R.assign ?_
 refine R.fin [0, 2, 4] ?_
 refine W.cond (fun ht4 => ?_) (fun ht4 => ?_)
 ·skip
  have hm : joinR a b = wrongR 10 := if_pos ht4
  refine AW.seqR ?_
  refine R.call Tryz.call28 (c28 _ _) ?_
  refine R.extract ?_
  refine R.extract ?_
  refine R.storeOwn Tryz.sizeOf23 ?_
  refine R.assign ?_
  refine R.fin [2, 3] ?_
  refine AW.ret ?_
  refine K.blR ?_
  refine K.thR ?_
  exact K.fin (V.two (V.cellN Tryz.isAgg23 Tryz.sizeOf23) V.tmp) ⟨by rw [hm]; try rfl, rfl⟩
 ·skip
  have hla := fa.len
  have hlb := fb.len
  refine W.draw [0, 1, 3, 7, 15, 0, 32, 96, 224, 480, 1023, 2047, 4095] 10 Tryzmixed (by kernel_rfl) ?_
  refine D.move ?_
  refine D.indexAddr (0) (valA a) Tryz.underlying28 Tryz.sizeOf23 (show ([valA a, valA b] : List AV)[0]? = some (valA a) from rfl) ?_
  refine D.fieldAddrRo (off := 2) Tryz.underlying23 Tryz.sizeOf9 ?_
  refine D.loadRo Tryz.isAgg9 ?_
  refine D.slen Tryz.underlying9 ?_
  refine D.move ?_
  refine D.indexAddr (1) (valA b) Tryz.underlying28 Tryz.sizeOf23 (show ([valA a, valA b] : List AV)[1]? = some (valA b) from rfl) ?_
  refine D.fieldAddrRo (off := 2) Tryz.underlying23 Tryz.sizeOf9 ?_
  refine D.loadRo Tryz.isAgg9 ?_
  refine D.slen Tryz.underlying9 ?_
  refine D.tail ?_
  refine R.add64 (h1 := by omega) (h2 := by omega) ?_
  refine R.gtr ?_
  refine R.assign ?_
  refine R.fin [0, 2, 12] ?_
  refine W.cond (fun ht12 => ?_) (fun ht12 => ?_)
  ·skip
   have hm : joinR a b = wrongR 3 := by unfold joinR; rw [if_neg (by rw [ht4]; simp), if_pos ht12]
   refine AW.seqR ?_
   refine R.call Tryz.call28 (c28 _ _) ?_
   refine R.extract ?_
   refine R.extract ?_
   refine R.storeOwn Tryz.sizeOf23 ?_
   refine R.assign ?_
   refine R.fin [2, 3] ?_
   refine AW.ret ?_
   refine K.blR ?_
   refine K.thR ?_
   exact K.fin (V.two (V.cellN Tryz.isAgg23 Tryz.sizeOf23) V.tmp) ⟨by rw [hm]; try rfl, rfl⟩
  ·skip
   have hm : joinR a b = (cutV (a.s ++ b.s), 0) := by unfold joinR; rw [if_neg (by rw [ht4]; simp), if_neg (by rw [ht12]; simp)]
   refine AW.skip ?_
   refine K.blN ?_
   refine K.thN ?_
   refine W.draw [0, 1, 3, 7, 0, 16, 48, 112, 255, 511, 1023, 2047] 8 Tryzmixed (by kernel_rfl) ?_
   refine D.move ?_
   refine D.indexAddr (0) (valA a) Tryz.underlying28 Tryz.sizeOf23 (show ([valA a, valA b] : List AV)[0]? = some (valA a) from rfl) ?_
   refine D.fieldAddrRo (off := 2) Tryz.underlying23 Tryz.sizeOf9 ?_
   refine D.loadRo Tryz.isAgg9 ?_
   refine D.move ?_
   refine D.indexAddr (1) (valA b) Tryz.underlying28 Tryz.sizeOf23 (show ([valA a, valA b] : List AV)[1]? = some (valA b) from rfl) ?_
   refine D.fieldAddrRo (off := 2) Tryz.underlying23 Tryz.sizeOf9 ?_
   refine D.loadRo Tryz.isAgg9 ?_
   refine D.tail ?_
   refine R.sadd (hl := by omega) ?_
   refine R.call Tryz.call125 (c125 _ _) ?_
   refine R.storeOwn Tryz.sizeOf23 ?_
   refine R.assign ?_
   refine R.fin [2, 3] ?_
   refine AW.ret ?_
   exact K.fin (V.two (V.cellN Tryz.isAgg23 Tryz.sizeOf23) V.tmp) ⟨by rw [hm]; try rfl, rfl⟩

theorem c101 (t : Str) (a b : Val) (fa : Fine a) (fb : Fine b) (Hp : List AObj) : AFun Tryz.prog 101 [strA t, .slice false 3 [valA a, valA b]] Hp (resA (binM t a b)) := by
 refine ACall.body [.cell 4 23, .tmp 5] [0, 1] Tryz.func101 Tryz.ntmps101 (fun d => ?_)
 refine AW.seqR ?_
 refine R.alloc Tryz.zeroValue23 ?_
 refine R.assign ?_
 refine R.fin [0, 1, 4] ?_
 refine W.seq ?_
 refine W.draw [0, 0, 2, 6, 0, 16, 48, 126, 255, 511, 1023, 1023, 2047, 8191] 13 Tryzmixed (by kernel_rfl) ?_
 refine D.move ?_
 refine D.move ?_
 refine D.indexAddr (0) (valA a) Tryz.underlying28 Tryz.sizeOf23 (show ([valA a, valA b] : List AV)[0]? = some (valA a) from rfl) ?_
 refine D.loadRoN Tryz.isAgg23 Tryz.sizeOf23 ?_
 refine D.move ?_
 refine D.indexAddr (1) (valA b) Tryz.underlying28 Tryz.sizeOf23 (show ([valA a, valA b] : List AV)[1]? = some (valA b) from rfl) ?_
 refine D.loadRoN Tryz.isAgg23 Tryz.sizeOf23 ?_
 refine D.call Tryz.call120 (c120 _ _ _) ?_
 refine D.call Tryz.call119 (c119 _ _ _) ?_
 refine D.move ?_
 refine D.extract ?_
 refine D.extract ?_
 refine D.assign ?_
 refine D.tail ?_
 refine R.assign ?_
 refine R.fin [0, 1, 4, 6, 7] ?_
 refine AW.seqR ?_
 refine R.move ?_
 refine R.fin [0, 1, 4, 6, 20] ?_
 refine W.cond (fun ht20 => ?_) (fun ht20 => ?_)
 ·skip
  refine W.seq ?_
  refine W.draw [0, 1, 3, 7, 0, 16, 48, 112, 255] 8 Tryzmixed (by kernel_rfl) ?_
  refine D.move ?_
  refine D.indexAddr (0) (valA a) Tryz.underlying28 Tryz.sizeOf23 (show ([valA a, valA b] : List AV)[0]? = some (valA a) from rfl) ?_
  refine D.fieldAddrRo (off := 0) Tryz.underlying23 Tryz.sizeOf3 ?_
  refine D.loadRo Tryz.isAgg3 ?_
  refine D.move ?_
  refine D.indexAddr (1) (valA b) Tryz.underlying28 Tryz.sizeOf23 (show ([valA a, valA b] : List AV)[1]? = some (valA b) from rfl) ?_
  refine D.fieldAddrRo (off := 0) Tryz.underlying23 Tryz.sizeOf3 ?_
  refine D.loadRo Tryz.isAgg3 ?_
  refine D.tail ?_
  refine R.neq ?_
  refine R.fin [4, 6, 29] ?_
  refine W.cond (fun ht29 => ?_) (fun ht29 => ?_)
  ·skip
   have hm : binM t a b = wrongR 10 := by unfold binM; rw [if_pos ht20, if_pos ht29]
   refine AW.seqR ?_
   refine R.call Tryz.call28 (c28 _ _) ?_
   refine R.extract ?_
   refine R.extract ?_
   refine R.storeOwn Tryz.sizeOf23 ?_
   refine R.assign ?_
   refine R.fin [4, 5] ?_
   refine AW.ret ?_
   refine K.thR ?_
   refine K.thR ?_
   exact K.fin (V.two (V.cellN Tryz.isAgg23 Tryz.sizeOf23) V.tmp) ⟨by rw [hm]; try rfl, rfl⟩
  ·skip
   have hm : binM t a b = (boolV (comparedM t (cmpV a b)).1, 0) := by unfold binM; rw [if_pos ht20, if_neg (by rw [ht29]; simp)]
   refine AW.skip ?_
   refine K.thN ?_
   refine AW.seqR ?_
   refine R.move ?_
   refine R.call Tryz.call30 (c30 _ _) ?_
   refine R.storeOwn Tryz.sizeOf23 ?_
   refine R.assign ?_
   refine R.fin [4, 5] ?_
   refine AW.ret ?_
   refine K.thR ?_
   exact K.fin (V.two (V.cellN Tryz.isAgg23 Tryz.sizeOf23) V.tmp) ⟨by rw [hm]; try rfl, rfl⟩
 ·skip
  refine AW.skip ?_
  refine K.thN ?_
  refine W.seq ?_
  refine AW.seqR ?_
  refine R.move ?_
  refine R.seql ?_
  refine R.fin [0, 1, 4, 36] ?_
  refine W.cond (fun ht36 => ?_) (fun ht36 => ?_)
  ·skip
   have hm : binM t a b = joinR a b := by unfold binM; rw [if_neg (by rw [ht20]; simp), if_pos ht36]
   refine AW.seqR ?_
   refine R.move ?_
   refine R.call Tryz.call121 (c121 a b fa fb _) ?_
   refine R.extract ?_
   refine R.extract ?_
   refine R.storeOwn Tryz.sizeOf23 ?_
   refine R.assign ?_
   refine R.fin [4, 5] ?_
   refine AW.ret ?_
   refine K.thR ?_
   exact K.fin (V.two (V.cellN Tryz.isAgg23 Tryz.sizeOf23) V.tmp) ⟨by rw [hm]; try rfl, rfl⟩
  ·skip
   refine AW.skip ?_
   refine K.thN ?_
   refine W.seq ?_
   refine AW.seqR ?_
   refine R.move ?_
   refine R.buildSl Tryz.underlying145 Tryz.sizeOf3 Tryz.zeroValue3 ?_
   refine R.call Tryz.call102 (c102 [a, b] [1, 1] (by simp) (by simp) _) ?_
   refine R.not ?_
   refine R.fin [0, 1, 4, 44] ?_
   refine W.cond (fun ht44 => ?_) (fun ht44 => ?_)
   ·skip
    have hm : binM t a b = wrongR 10 := by unfold binM; rw [if_neg (by rw [ht20]; simp), if_neg (by rw [ht36]; simp), if_pos ht44]
    refine AW.seqR ?_
    refine R.call Tryz.call28 (c28 _ _) ?_
    refine R.extract ?_
    refine R.extract ?_
    refine R.storeOwn Tryz.sizeOf23 ?_
    refine R.assign ?_
    refine R.fin [4, 5] ?_
    refine AW.ret ?_
    refine K.thR ?_
    exact K.fin (V.two (V.cellN Tryz.isAgg23 Tryz.sizeOf23) V.tmp) ⟨by rw [hm]; try rfl, rfl⟩
   ·skip
    have hm : binM t a b = wholeR (arithI t a.n b.n) := by unfold binM; rw [if_neg (by rw [ht20]; simp), if_neg (by rw [ht36]; simp), if_neg (by rw [ht44]; simp)]
    refine AW.skip ?_
    refine K.thN ?_
    refine W.draw [0, 0, 2, 6, 14, 0, 32, 96, 224, 511, 1023, 1023, 4095, 8191] 12 Tryzmixed (by kernel_rfl) ?_
    refine D.move ?_
    refine D.move ?_
    refine D.indexAddr (0) (valA a) Tryz.underlying28 Tryz.sizeOf23 (show ([valA a, valA b] : List AV)[0]? = some (valA a) from rfl) ?_
    refine D.fieldAddrRo (off := 1) Tryz.underlying23 Tryz.sizeOf2 ?_
    refine D.loadRo Tryz.isAgg2 ?_
    refine D.move ?_
    refine D.indexAddr (1) (valA b) Tryz.underlying28 Tryz.sizeOf23 (show ([valA a, valA b] : List AV)[1]? = some (valA b) from rfl) ?_
    refine D.fieldAddrRo (off := 1) Tryz.underlying23 Tryz.sizeOf2 ?_
    refine D.loadRo Tryz.isAgg2 ?_
    refine D.call Tryz.call122 (c122 _ _ _ ⟨fa.lo, fa.hi⟩ _) ?_
    refine D.extract ?_
    refine D.extract ?_
    refine D.tail ?_
    refine R.storeOwn Tryz.sizeOf23 ?_
    refine R.assign ?_
    refine R.fin [4, 5] ?_
    refine AW.ret ?_
    exact K.fin (V.two (V.cellN Tryz.isAgg23 Tryz.sizeOf23) V.tmp) ⟨by rw [hm]; try rfl, rfl⟩

theorem pieceK (s : Str) (n : Int) : ∃ k : Nat, (if (0 : Int) < (if (s.length : Int) < n then (s.length : Int) else n) then (if (s.length : Int) < n then (s.length : Int) else n) else 0) = (k : Int) ∧ k ≤ s.length ∧ k = (max 0 (min n s.length)).toNat := by
 refine ⟨(max 0 (min n s.length)).toNat, ?_, ?_, rfl⟩ <;> repeat' split
 all_goals omega
theorem c106 (t s : Str) (n : Int) (hs : s.length ≤ 1048576) (Hp : List AObj) : AFun Tryz.prog 106 [strA t, strA s, intA n] Hp (valA (pieceM t s n)) := by
 refine ACall.body [.cell 6 23] [0, 1, 2] Tryz.func106 Tryz.ntmps106 (fun d => ?_)
 refine AW.seqR ?_
 refine R.alloc Tryz.zeroValue23 ?_
 refine R.fin [0, 1, 2, 6] ?_
 refine AW.seqR ?_
 refine R.move ?_
 refine R.move ?_
 refine R.slen Tryz.underlying9 ?_
 refine R.minI ?_
 refine R.maxI ?_
 obtain ⟨k, hk, hks, hke⟩ := pieceK s n
 simp only [hk]
 refine R.assign ?_
 refine R.fin [0, 1, 6, 7] ?_
 refine W.seq ?_
 refine AW.seqR ?_
 refine R.move ?_
 refine R.seql ?_
 refine R.fin [1, 6, 7, 14] ?_
 refine W.cond (fun ht14 => ?_) (fun ht14 => ?_)
 ·skip
  have hm : pieceM t s n = cutV (s.take k) := by unfold pieceM; rw [if_pos ht14, ← hke]
  refine AW.seqR ?_
  refine R.move ?_
  refine R.move ?_
  refine R.scutH k Tryz.underlying9 (Nat.zero_le _) hks ?_
  refine R.call Tryz.call125 (c125 _ _) ?_
  refine R.storeOwn Tryz.sizeOf23 ?_
  refine R.fin [6] ?_
  refine AW.ret ?_
  refine K.thR ?_
  exact K.fin (V.one (V.cellN Tryz.isAgg23 Tryz.sizeOf23)) ⟨by rw [hm]; try rfl, rfl⟩
 ·skip
  have hm : pieceM t s n = cutV (s.drop (s.length - k)) := by unfold pieceM; rw [if_neg (by rw [ht14]; simp), ← hke]
  refine AW.skip ?_
  refine K.thN ?_
  refine AW.seqR ?_
  refine R.move ?_
  refine R.move ?_
  refine R.slen Tryz.underlying9 ?_
  refine R.move ?_
  refine R.sub64 (h1 := by omega) (h2 := by omega) ?_
  refine R.scutL (s.length - k) Tryz.underlying9 (show s.length - k ≤ s.length by omega) (Nat.le_refl _) ?_
  refine R.call Tryz.call125 (c125 _ _) ?_
  refine R.storeOwn Tryz.sizeOf23 ?_
  refine R.fin [6] ?_
  refine AW.ret ?_
  exact K.fin (V.one (V.cellN Tryz.isAgg23 Tryz.sizeOf23)) ⟨by rw [hm]; try rfl, rfl⟩

theorem c105 (t : Str) (v : Val) (h : Fine v) (Hp : List AObj) : AFun Tryz.prog 105 [strA t, valA v] Hp (resA (fun1M t v)) := by
 have hlen := h.len
 refine ACall.body [.cell 4 23, .tmp 5] [0, 1] Tryz.func105 Tryz.ntmps105 (fun d => ?_)
 refine AW.seqR ?_
 refine R.boxRo ?_
 refine R.alloc Tryz.zeroValue23 ?_
 refine R.assign ?_
 refine R.fin [0, 3, 4] ?_
 refine W.seq ?_
 refine AW.block ?_
 refine AW.seqR ?_
 refine R.move ?_
 refine R.seql ?_
 refine R.move ?_
 refine G.fieldAddrRo (off := 0) Tryz.underlying23 Tryz.sizeOf3 ?_
 refine G.loadRo Tryz.isAgg3 ?_
 refine G.eql ?_
 refine R.pickAnd ?_
 refine R.assign ?_
 refine R.fin [0, 3, 4, 6] ?_
 refine W.cond (fun ht6 => ?_) (fun ht6 => ?_)
 ·skip
  have hm : fun1M t v = (cutV (Lib.itoa v.n), 0) := if_pos ht6
  refine AW.seqR ?_
  refine R.fieldAddrRo (off := 1) Tryz.underlying23 Tryz.sizeOf2 ?_
  refine R.loadRo Tryz.isAgg2 ?_
  refine R.call Tryz.call126 (c126 _ h.lo h.hi _) ?_
  refine R.call Tryz.call125 (c125 _ _) ?_
  refine R.storeOwn Tryz.sizeOf23 ?_
  refine R.assign ?_
  refine R.fin [4, 5] ?_
  refine AW.ret ?_
  refine K.blR ?_
  refine K.thR ?_
  exact K.fin (V.two (V.cellN Tryz.isAgg23 Tryz.sizeOf23) V.tmp) ⟨by rw [hm]; try rfl, rfl⟩
 ·skip
  refine AW.seqR ?_
  refine R.move ?_
  refine R.seql ?_
  refine R.move ?_
  refine G.fieldAddrRo (off := 0) Tryz.underlying23 Tryz.sizeOf3 ?_
  refine G.loadRo Tryz.isAgg3 ?_
  refine G.eql ?_
  refine R.pickAnd ?_
  refine R.assign ?_
  refine R.fin [0, 3, 4, 18] ?_
  refine W.cond (fun ht18 => ?_) (fun ht18 => ?_)
  ·skip
   have hm : fun1M t v = (⟨1, v.s.length, []⟩, 0) := by unfold fun1M; rw [if_neg (by rw [ht6]; simp), if_pos ht18]
   refine AW.seqR ?_
   refine R.fieldAddrRo (off := 2) Tryz.underlying23 Tryz.sizeOf9 ?_
   refine R.loadRo Tryz.isAgg9 ?_
   refine R.slen Tryz.underlying9 ?_
   refine R.call Tryz.call123 (c123 _ _) ?_
   refine R.storeOwn Tryz.sizeOf23 ?_
   refine R.assign ?_
   refine R.fin [4, 5] ?_
   refine AW.ret ?_
   refine K.blR ?_
   refine K.thR ?_
   exact K.fin (V.two (V.cellN Tryz.isAgg23 Tryz.sizeOf23) V.tmp) ⟨by rw [hm]; try rfl, rfl⟩
  ·skip
   refine AW.seqR ?_
   refine R.move ?_
   refine R.seql ?_
   refine R.move ?_
   refine G.fieldAddrRo (off := 0) Tryz.underlying23 Tryz.sizeOf3 ?_
   refine G.loadRo Tryz.isAgg3 ?_
   refine G.eql ?_
   refine R.pickAnd ?_
   refine R.assign ?_
   refine R.fin [3, 4, 30] ?_
   refine W.cond (fun ht30 => ?_) (fun ht30 => ?_)
   ·skip
    have hm : fun1M t v = wholeR (numReadM v.s) := by unfold fun1M; rw [if_neg (by rw [ht6]; simp), if_neg (by rw [ht18]; simp), if_pos ht30]
    refine AW.seqR ?_
    refine R.fieldAddrRo (off := 2) Tryz.underlying23 Tryz.sizeOf9 ?_
    refine R.loadRo Tryz.isAgg9 ?_
    refine R.call Tryz.call127 (c127 v.s (by omega) _) ?_
    refine R.extract ?_
    refine R.extract ?_
    refine R.call Tryz.call103 (c103 _ _ _) ?_
    refine R.extract ?_
    refine R.extract ?_
    refine R.storeOwn Tryz.sizeOf23 ?_
    refine R.assign ?_
    refine R.fin [4, 5] ?_
    refine AW.ret ?_
    refine K.blR ?_
    refine K.thR ?_
    exact K.fin (V.two (V.cellN Tryz.isAgg23 Tryz.sizeOf23) V.tmp) ⟨by rw [hm]; try rfl, rfl⟩
   ·skip
    have hm : fun1M t v = wrongR 10 := by unfold fun1M; rw [if_neg (by rw [ht6]; simp), if_neg (by rw [ht18]; simp), if_neg (by rw [ht30]; simp)]
    refine AW.skip ?_
    refine K.blN ?_
    refine K.thN ?_
    refine AW.seqR ?_
    refine R.call Tryz.call28 (c28 _ _) ?_
    refine R.extract ?_
    refine R.extract ?_
    refine R.storeOwn Tryz.sizeOf23 ?_
    refine R.assign ?_
    refine R.fin [4, 5] ?_
    refine AW.ret ?_
    exact K.fin (V.two (V.cellN Tryz.isAgg23 Tryz.sizeOf23) V.tmp) ⟨by rw [hm]; try rfl, rfl⟩

theorem getV {vs : List Val} (h : 0 < vs.length) : vs.getD 0 noV = vs[0] := by rw [List.getD_eq_getElem?_getD, List.getElem?_eq_getElem h]; rfl
/-- As many values as a node asks for. -/
structure ArgsOk (o : Int) (vs : List Val) : Prop where
 two : o = 5 → ∃ a b, vs = [a, b]
 one : o = 3 ∨ o = 4 → vs.length = 1
 call : o = 6 → vs.length = 1 ∨ ∃ a b, vs = [a, b]
 fine : ∀ v ∈ vs, Fine v
theorem c81 (e : Expr) (vs : List Val) (h : ArgsOk e.op vs) (Hp : List AObj) : AFun Tryz.prog 81 [exprA e, valsA vs] Hp (resA (strictM e.op e.text vs)) := by
 refine ACall.body [.cell 4 23, .tmp 5] [0, 1] Tryz.func81 Tryz.ntmps81 (fun d => ?_)
 refine AW.seqR ?_
 refine R.boxRo ?_
 refine R.alloc Tryz.zeroValue23 ?_
 refine R.assign ?_
 refine R.fin [1, 2, 4] ?_
 refine W.seq ?_
 refine AW.block ?_
 refine AW.seqR ?_
 refine R.fieldAddrRo (off := 0) Tryz.underlying26 Tryz.sizeOf3 ?_
 refine R.loadRo Tryz.isAgg3 ?_
 refine R.eql ?_
 refine R.assign ?_
 refine R.fin [1, 2, 4, 6] ?_
 refine W.cond (fun ht6 => ?_) (fun ht6 => ?_)
 ·skip
  obtain ⟨a, b, rfl⟩ := h.two (by simpa using ht6)
  have hm : strictM e.op e.text [a, b] = binM e.text a b := if_pos ht6
  refine AW.seqR ?_
  refine R.fieldAddrRo (off := 1) Tryz.underlying26 Tryz.sizeOf9 ?_
  refine R.loadRo Tryz.isAgg9 ?_
  refine R.move ?_
  refine R.call Tryz.call101 (c101 e.text a b (h.fine a (by simp)) (h.fine b (by simp)) _) ?_
  refine R.extract ?_
  refine R.extract ?_
  refine R.storeOwn Tryz.sizeOf23 ?_
  refine R.assign ?_
  refine R.fin [4, 5] ?_
  refine AW.ret ?_
  refine K.blR ?_
  refine K.thR ?_
  exact K.fin (V.two (V.cellN Tryz.isAgg23 Tryz.sizeOf23) V.tmp) ⟨by rw [hm]; try rfl, rfl⟩
 ·skip
  refine AW.seqR ?_
  refine R.fieldAddrRo (off := 0) Tryz.underlying26 Tryz.sizeOf3 ?_
  refine R.loadRo Tryz.isAgg3 ?_
  refine R.eql ?_
  refine R.move ?_
  refine G.move ?_
  refine G.buildSl Tryz.underlying145 Tryz.sizeOf3 Tryz.zeroValue3 ?_
  refine G.call Tryz.call102 (C := ((e.op == 3) == true)) (fun hB => c102 vs [1] (by have := h.one (.inl (by simpa using hB)); simp [this]) (by simp) _) ?_
  refine R.pickAnd ?_
  refine R.assign ?_
  refine R.fin [1, 2, 4, 16] ?_
  refine W.cond (fun ht16 => ?_) (fun ht16 => ?_)
  ·skip
   have hm0 : ((e.op == 3) && kindsM vs [1]) = true := ht16
   have hop : e.op = 3 := by simp only [Bool.and_eq_true, beq_iff_eq] at hm0; exact hm0.1
   have hln := h.one (.inl hop)
   have hg0 : (vs.map valA)[0]? = some (valA (vs.getD 0 noV)) := by rw [getV (by omega)]; exact getMap (by omega)
   have hm : strictM e.op e.text vs = wholeR (subI 0 (vs.getD 0 noV).n) := by unfold strictM; rw [if_neg (by rw [ht6]; simp), if_pos ht16]
   refine AW.seqR ?_
   refine R.move ?_
   refine R.indexAddr (0) (valA (vs.getD 0 noV)) Tryz.underlying28 Tryz.sizeOf23 hg0 ?_
   refine R.fieldAddrRo (off := 1) Tryz.underlying23 Tryz.sizeOf2 ?_
   refine R.loadRo Tryz.isAgg2 ?_
   refine R.call Tryz.call104 (c104 _ _) ?_
   refine R.extract ?_
   refine R.extract ?_
   refine R.call Tryz.call103 (c103 _ _ _) ?_
   refine R.extract ?_
   refine R.extract ?_
   refine R.storeOwn Tryz.sizeOf23 ?_
   refine R.assign ?_
   refine R.fin [4, 5] ?_
   refine AW.ret ?_
   refine K.blR ?_
   refine K.thR ?_
   exact K.fin (V.two (V.cellN Tryz.isAgg23 Tryz.sizeOf23) V.tmp) ⟨by rw [hm]; try rfl, rfl⟩
  ·skip
   refine AW.seqR ?_
   refine R.fieldAddrRo (off := 0) Tryz.underlying26 Tryz.sizeOf3 ?_
   refine R.loadRo Tryz.isAgg3 ?_
   refine R.eql ?_
   refine R.move ?_
   refine G.move ?_
   refine G.buildSl Tryz.underlying145 Tryz.sizeOf3 Tryz.zeroValue3 ?_
   refine G.call Tryz.call102 (C := ((e.op == 4) == true)) (fun hB => c102 vs [3] (by have := h.one (.inr (by simpa using hB)); simp [this]) (by simp) _) ?_
   refine R.pickAnd ?_
   refine R.assign ?_
   refine R.fin [1, 2, 4, 35] ?_
   refine W.cond (fun ht35 => ?_) (fun ht35 => ?_)
   ·skip
    have hm0 : ((e.op == 4) && kindsM vs [3]) = true := ht35
    have hop : e.op = 4 := by simp only [Bool.and_eq_true, beq_iff_eq] at hm0; exact hm0.1
    have hln := h.one (.inr hop)
    have hg0 : (vs.map valA)[0]? = some (valA (vs.getD 0 noV)) := by rw [getV (by omega)]; exact getMap (by omega)
    have hm : strictM e.op e.text vs = (boolV ((vs.getD 0 noV).n == 0), 0) := by unfold strictM; rw [if_neg (by rw [ht6]; simp), if_neg (by rw [ht16]; simp), if_pos ht35]
    refine AW.seqR ?_
    refine R.move ?_
    refine R.indexAddr (0) (valA (vs.getD 0 noV)) Tryz.underlying28 Tryz.sizeOf23 hg0 ?_
    refine R.fieldAddrRo (off := 1) Tryz.underlying23 Tryz.sizeOf2 ?_
    refine R.loadRo Tryz.isAgg2 ?_
    refine R.eql ?_
    refine R.call Tryz.call30 (c30 _ _) ?_
    refine R.storeOwn Tryz.sizeOf23 ?_
    refine R.assign ?_
    refine R.fin [4, 5] ?_
    refine AW.ret ?_
    refine K.blR ?_
    refine K.thR ?_
    exact K.fin (V.two (V.cellN Tryz.isAgg23 Tryz.sizeOf23) V.tmp) ⟨by rw [hm]; try rfl, rfl⟩
   ·skip
    refine AW.seqR ?_
    refine R.fieldAddrRo (off := 0) Tryz.underlying26 Tryz.sizeOf3 ?_
    refine R.loadRo Tryz.isAgg3 ?_
    refine R.neq ?_
    refine R.assign ?_
    refine R.fin [1, 2, 4, 50] ?_
    refine W.cond (fun ht50 => ?_) (fun ht50 => ?_)
    ·skip
     have hm : strictM e.op e.text vs = wrongR 10 := by unfold strictM; rw [if_neg (by rw [ht6]; simp), if_neg (by rw [ht16]; simp), if_neg (by rw [ht35]; simp), if_pos ht50]
     refine AW.seqR ?_
     refine R.call Tryz.call28 (c28 _ _) ?_
     refine R.extract ?_
     refine R.extract ?_
     refine R.storeOwn Tryz.sizeOf23 ?_
     refine R.assign ?_
     refine R.fin [4, 5] ?_
     refine AW.ret ?_
     refine K.blR ?_
     refine K.thR ?_
     exact K.fin (V.two (V.cellN Tryz.isAgg23 Tryz.sizeOf23) V.tmp) ⟨by rw [hm]; try rfl, rfl⟩
    ·skip
     have hop : e.op = 6 := by simpa using ht50
     have hcl := h.call hop
     refine AW.seqR ?_
     refine R.move ?_
     refine R.len Tryz.underlying28 ?_
     refine R.eql ?_
     refine R.assign ?_
     refine R.fin [1, 2, 4, 57] ?_
     refine W.cond (fun ht57 => ?_) (fun ht57 => ?_)
     ·skip
      rw [List.length_map] at ht57
      have hln : vs.length = 1 := by have := ht57; simp only [beq_iff_eq] at this; omega
      have hg0 : (vs.map valA)[0]? = some (valA (vs.getD 0 noV)) := by rw [getV (by omega)]; exact getMap (by omega)
      have hf0 : Fine (vs.getD 0 noV) := by rw [getV (by omega)]; exact h.fine _ (List.getElem_mem _)
      have hm : strictM e.op e.text vs = fun1M e.text (vs.getD 0 noV) := by unfold strictM; rw [if_neg (by rw [ht6]; simp), if_neg (by rw [ht16]; simp), if_neg (by rw [ht35]; simp), if_neg (by rw [ht50]; simp), if_pos ht57]
      refine W.draw [0, 1, 0, 4, 12, 31, 63, 63, 255, 511] 8 Tryzmixed (by kernel_rfl) ?_
      refine D.fieldAddrRo (off := 1) Tryz.underlying26 Tryz.sizeOf9 ?_
      refine D.loadRo Tryz.isAgg9 ?_
      refine D.move ?_
      refine D.indexAddr (0) (valA (vs.getD 0 noV)) Tryz.underlying28 Tryz.sizeOf23 hg0 ?_
      refine D.loadRoN Tryz.isAgg23 Tryz.sizeOf23 ?_
      refine D.call Tryz.call105 (c105 _ _ hf0 _) ?_
      refine D.extract ?_
      refine D.extract ?_
      refine D.tail ?_
      refine R.storeOwn Tryz.sizeOf23 ?_
      refine R.assign ?_
      refine R.fin [4, 5] ?_
      refine AW.ret ?_
      refine K.blR ?_
      refine K.thR ?_
      exact K.fin (V.two (V.cellN Tryz.isAgg23 Tryz.sizeOf23) V.tmp) ⟨by rw [hm]; try rfl, rfl⟩
     ·skip
      rw [List.length_map] at ht57
      obtain ⟨a, b, rfl⟩ : ∃ a b, vs = [a, b] := by
       rcases hcl with h1 | h1
       ·exfalso
        have := ht57
        rw [h1] at this
        simp at this
       ·exact h1
      refine AW.seqR ?_
      refine R.move ?_
      refine R.buildSl Tryz.underlying145 Tryz.sizeOf3 Tryz.zeroValue3 ?_
      refine R.call Tryz.call102 (c102 [a, b] [2, 1] (by simp) (by simp) _) ?_
      refine R.not ?_
      refine R.assign ?_
      refine R.fin [1, 2, 4, 69] ?_
      refine W.cond (fun ht69 => ?_) (fun ht69 => ?_)
      ·skip
       have hm : strictM e.op e.text [a, b] = wrongR 10 := by unfold strictM; rw [if_neg (by rw [ht6]; simp), if_neg (by rw [ht16]; simp), if_neg (by rw [ht35]; simp), if_neg (by rw [ht50]; simp), if_neg (by rw [ht57]; simp), if_pos ht69]
       refine AW.seqR ?_
       refine R.call Tryz.call28 (c28 _ _) ?_
       refine R.extract ?_
       refine R.extract ?_
       refine R.storeOwn Tryz.sizeOf23 ?_
       refine R.assign ?_
       refine R.fin [4, 5] ?_
       refine AW.ret ?_
       refine K.blR ?_
       refine K.thR ?_
       exact K.fin (V.two (V.cellN Tryz.isAgg23 Tryz.sizeOf23) V.tmp) ⟨by rw [hm]; try rfl, rfl⟩
      ·skip
       have hm : strictM e.op e.text [a, b] = (pieceM e.text a.s b.n, 0) := by unfold strictM; rw [if_neg (by rw [ht6]; simp), if_neg (by rw [ht16]; simp), if_neg (by rw [ht35]; simp), if_neg (by rw [ht50]; simp), if_neg (by rw [ht57]; simp), if_neg (by rw [ht69]; simp)]; rfl
       refine AW.skip ?_
       refine K.blN ?_
       refine K.thN ?_
       refine W.draw [0, 1, 0, 4, 12, 28, 0, 64, 192, 448, 1023, 2047, 4095] 10 Tryzmixed (by kernel_rfl) ?_
       refine D.fieldAddrRo (off := 1) Tryz.underlying26 Tryz.sizeOf9 ?_
       refine D.loadRo Tryz.isAgg9 ?_
       refine D.move ?_
       refine D.indexAddr (0) (valA a) Tryz.underlying28 Tryz.sizeOf23 (show ([valA a, valA b] : List AV)[0]? = some (valA a) from rfl) ?_
       refine D.fieldAddrRo (off := 2) Tryz.underlying23 Tryz.sizeOf9 ?_
       refine D.loadRo Tryz.isAgg9 ?_
       refine D.move ?_
       refine D.indexAddr (1) (valA b) Tryz.underlying28 Tryz.sizeOf23 (show ([valA a, valA b] : List AV)[1]? = some (valA b) from rfl) ?_
       refine D.fieldAddrRo (off := 1) Tryz.underlying23 Tryz.sizeOf2 ?_
       refine D.loadRo Tryz.isAgg2 ?_
       refine D.tail ?_
       refine R.call Tryz.call106 (c106 e.text a.s b.n (by have := (h.fine a (by simp)).len; omega) _) ?_
       refine R.storeOwn Tryz.sizeOf23 ?_
       refine R.assign ?_
       refine R.fin [4, 5] ?_
       refine AW.ret ?_
       exact K.fin (V.two (V.cellN Tryz.isAgg23 Tryz.sizeOf23) V.tmp) ⟨by rw [hm]; try rfl, rfl⟩

end Go.SX.Nb
namespace Go.SX.Nb
open Go Go.SX Go.Proofs
variable [ErrAt]
set_option maxRecDepth 4000
theorem val_beq (a b : Val) : ((a.kind == b.kind && a.n == b.n) && a.s == b.s) = (a == b) := by
  obtain ⟨k, n, s⟩ := a
  obtain ⟨k', n', s'⟩ := b
  by_cases h : (⟨k, n, s⟩ : Val) = ⟨k', n', s'⟩
  · injection h with h1 h2 h3
    subst h1; subst h2; subst h3
    simp
  · have : ((⟨k, n, s⟩ : Val) == ⟨k', n', s'⟩) = false := by simpa using h
    rw [this]
    simp only [Bool.and_eq_false_iff, beq_eq_false_iff_ne]
    by_cases h1 : k = k'
    · by_cases h2 : n = n'
      · right
        rintro rfl
        exact h (by rw [h1, h2])
      · exact .inl (.inr h2)
    · exact .inl (.inl h1)
/-- What eval answers for a tree, over any heap. -/
abbrev EvalsTo (c : List Col) (l : List Val) (e : Expr) (r : Rs) : Prop := ∀ Hp, AFun Tryz.prog 29 [scopeA c l, exprA e] Hp (resA r)
theorem c80 (c : List Col) (l : List Val) (x : Expr) (r : Rs) (h : EvalsTo c l x r) (Hp : List AObj) : AFun Tryz.prog 80 [scopeA c l, exprA x] Hp (resA (truthR r)) := by
  refine ACall.body [.cell 4 23, .tmp 5] [0, 1] Tryz.func80 Tryz.ntmps80 (fun d => ?_)
  refine AW.seqR ?_
  refine R.boxRo ?_
  refine R.boxRo ?_
  refine R.alloc Tryz.zeroValue23 ?_
  refine R.assign ?_
  refine R.fin [2, 3, 4] ?_
  refine AW.seqR ?_
  refine R.loadRoN Tryz.isAgg61 Tryz.sizeOf61 ?_
  refine R.loadRoN Tryz.isAgg26 Tryz.sizeOf26 ?_
  refine R.call Tryz.call29 (h _) ?_
  refine R.move ?_
  refine R.extract ?_
  refine R.extract ?_
  refine R.alloc Tryz.zeroValue23 ?_
  refine R.storeOwn Tryz.sizeOf23 ?_
  refine R.assign ?_
  refine R.fin [4, 6, 7] ?_
  refine W.seq ?_
  refine AW.seqR ?_
  refine R.move ?_
  refine R.eql ?_
  refine R.move ?_
  refine G.fieldAddrPtr (fo := 0) Tryz.underlying23 Tryz.sizeOf3 ?_
  refine G.loadOwn Tryz.isAgg3 ?_
  refine G.neq ?_
  refine R.pickAnd ?_
  refine R.move ?_
  refine G.fieldAddrPtr (fo := 0) Tryz.underlying23 Tryz.sizeOf3 ?_
  refine G.loadOwn Tryz.isAgg3 ?_
  refine G.neq ?_
  refine R.pickAnd ?_
  refine R.fin [4, 6, 7, 25] ?_
  refine W.cond (fun ht25 => ?_) (fun ht25 => ?_)
  · skip
    have hm : truthR r = wrongR 10 := if_pos ht25
    refine AW.seqR ?_
    refine R.call Tryz.call28 (c28 _ _) ?_
    refine R.extract ?_
    refine R.extract ?_
    refine R.storeOwn Tryz.sizeOf23 ?_
    refine R.assign ?_
    refine R.fin [4, 5] ?_
    refine AW.ret ?_
    refine K.thR ?_
    exact K.fin (V.two (V.cellN Tryz.isAgg23 Tryz.sizeOf23) V.tmp) ⟨by rw [hm]; try rfl, rfl⟩
  · skip
    have hm : truthR r = r := if_neg (by rw [ht25]; simp)
    refine AW.skip ?_
    refine K.thN ?_
    refine AW.seqR ?_
    refine R.loadOwnN Tryz.isAgg23 Tryz.sizeOf23 ?_
    refine R.move ?_
    refine R.storeOwn Tryz.sizeOf23 ?_
    refine R.assign ?_
    refine R.fin [4, 5] ?_
    refine AW.ret ?_
    exact K.fin (V.two (V.cellN Tryz.isAgg23 Tryz.sizeOf23) V.tmp) ⟨by rw [hm]; try rfl, rfl⟩

theorem c54 (c : List Col) (l : List Val) (x k0 k1 : Expr) (s : Val) (ra rb : Rs) (h0 : (x.kids.map exprA)[0]? = some (exprA k0)) (h1 : (x.kids.map exprA)[1]? = some (exprA k1)) (ha : EvalsTo c l k0 ra) (hb : EvalsTo c l k1 rb) (Hp : List AObj) : AFun Tryz.prog 54 [scopeA c l, exprA x, valA s] Hp (resA (logicR s ra rb)) := by
  refine ACall.body [.cell 6 23, .tmp 7] [0, 1, 2] Tryz.func54 Tryz.ntmps54 (fun d => ?_)
  refine AW.seqR ?_
  refine R.boxRo ?_
  refine R.boxRo ?_
  refine R.boxRo ?_
  refine R.alloc Tryz.zeroValue23 ?_
  refine R.assign ?_
  refine R.fin [3, 4, 5, 6] ?_
  refine W.drawY [0, 0, 2, 6, 14, 31, 63, 127, 127, 0, 767, 2047] [9, 10] [.q 9 [] [], .s [8] (some 0) [] [1], .s [] (some 1) [0] []] (fun _ => Hp) (fun B => if B 0 = true then [.cells 23 [intA 0, intA 0, strA []], (if B 1 = true then .cells 23 [intA (truthR ra).1.kind, intA (truthR ra).1.n, strA (truthR ra).1.s] else .cells 23 [intA 0, intA 0, strA []] : AObj)] else [.cells 23 [intA 0, intA 0, strA []]]) Tryzmixed (by kernel_rfl) rfl rfl (fun _ => rfl) ?_
  apply Y.q
  case h1 =>
    intro B hT hF
    refine D.loadRoN Tryz.isAgg61 Tryz.sizeOf61 ?_
    refine D.fieldAddrRo (off := 5) Tryz.underlying26 Tryz.sizeOf24 ?_
    refine D.loadRo Tryz.isAgg24 ?_
    refine D.indexAddr (0) (exprA k0) Tryz.underlying24 Tryz.sizeOf26 h0 ?_
    refine D.loadRoN Tryz.isAgg26 Tryz.sizeOf26 ?_
    refine D.call Tryz.call80 (c80 c l k0 ra ha _) ?_
    refine D.move ?_
    refine D.extract ?_
    refine D.extract ?_
    exact D.end rfl rfl
  case hTF => decide
  refine Y.alloc (zs := [intA 0, intA 0, strA []]) (n := 1) (u := Hp.length) Tryz.zeroValue23 (fun B hT hF hB => ⟨rfl, by simp [hB], by simp [upd, hB, hF 1 (by simp)], rfl⟩) ?_
  refine Y.storeOwnT (u := Hp.length) (n := 1) (t' := 23) (cs := [intA 0, intA 0, strA []]) (cs' := [intA (truthR ra).1.kind, intA (truthR ra).1.n, strA (truthR ra).1.s]) Tryz.sizeOf23 (fun B hT hF hB => ⟨rfl, by simp [hT 0 (by simp), hB], by simp [upd, hT 0 (by simp), hB], rfl⟩) ?_
  refine Y.tail (tn := [9, 10]) (O := [.cells 23 [intA 0, intA 0, strA []], .cells 23 [intA (truthR ra).1.kind, intA (truthR ra).1.n, strA (truthR ra).1.s]]) ?_
  refine R.assign ?_
  refine R.fin [3, 4, 5, 6, 8, 9] ?_
  refine W.seq ?_
  refine AW.seqR ?_
  refine R.move ?_
  refine R.neq ?_
  refine R.move ?_
  refine G.loadOwnN Tryz.isAgg23 Tryz.sizeOf23 ?_
  refine G.loadRoN Tryz.isAgg23 Tryz.sizeOf23 ?_
  refine G.eqlAgg eg23 (fun w => equal23 (truthR ra).1.kind (truthR ra).1.n s.kind s.n (truthR ra).1.s s.s w) ?_
  refine R.pickOr ?_
  refine R.fin [3, 4, 5, 6, 8, 9, 26] ?_
  refine W.cond (fun ht26 => ?_) (fun ht26 => ?_)
  · skip
    rw [val_beq] at ht26
    have hm : logicR s ra rb = truthR ra := if_pos ht26
    refine AW.seqR ?_
    refine R.loadOwnN Tryz.isAgg23 Tryz.sizeOf23 ?_
    refine R.move ?_
    refine R.storeOwn Tryz.sizeOf23 ?_
    refine R.assign ?_
    refine R.fin [6, 7] ?_
    refine AW.ret ?_
    refine K.thR ?_
    exact K.fin (V.two (V.cellN Tryz.isAgg23 Tryz.sizeOf23) V.tmp) ⟨by rw [hm]; try rfl, rfl⟩
  · skip
    rw [val_beq] at ht26
    refine AW.skip ?_
    refine K.thN ?_
    refine W.drawY [0, 0, 2, 6, 14, 31, 63, 127, 127, 0, 767, 2047] [9, 10] [.q 9 [] [], .s [10] (some 0) [] [1], .s [] (some 1) [0] []] (fun _ => Hp) (fun B => if B 0 = true then [.cells 23 [intA 0, intA 0, strA []], .cells 23 [intA (truthR ra).1.kind, intA (truthR ra).1.n, strA (truthR ra).1.s], (if B 1 = true then .cells 23 [intA (truthR rb).1.kind, intA (truthR rb).1.n, strA (truthR rb).1.s] else .cells 23 [intA 0, intA 0, strA []] : AObj)] else [.cells 23 [intA 0, intA 0, strA []], .cells 23 [intA (truthR ra).1.kind, intA (truthR ra).1.n, strA (truthR ra).1.s]]) Tryzmixed (by kernel_rfl) rfl rfl (fun _ => rfl) ?_
    apply Y.q
    case h1 =>
      intro B hT hF
      refine D.loadRoN Tryz.isAgg61 Tryz.sizeOf61 ?_
      refine D.fieldAddrRo (off := 5) Tryz.underlying26 Tryz.sizeOf24 ?_
      refine D.loadRo Tryz.isAgg24 ?_
      refine D.indexAddr (1) (exprA k1) Tryz.underlying24 Tryz.sizeOf26 h1 ?_
      refine D.loadRoN Tryz.isAgg26 Tryz.sizeOf26 ?_
      refine D.call Tryz.call80 (c80 c l k1 rb hb _) ?_
      refine D.move ?_
      refine D.extract ?_
      refine D.extract ?_
      exact D.end rfl rfl
    case hTF => decide
    refine Y.alloc (zs := [intA 0, intA 0, strA []]) (n := 2) (u := Hp.length) Tryz.zeroValue23 (fun B hT hF hB => ⟨rfl, by simp [hB], by simp [upd, hB, hF 1 (by simp)], rfl⟩) ?_
    refine Y.storeOwnT (u := Hp.length) (n := 2) (t' := 23) (cs := [intA 0, intA 0, strA []]) (cs' := [intA (truthR rb).1.kind, intA (truthR rb).1.n, strA (truthR rb).1.s]) Tryz.sizeOf23 (fun B hT hF hB => ⟨rfl, by simp [hT 0 (by simp), hB], by simp [upd, hT 0 (by simp), hB], rfl⟩) ?_
    refine Y.tail (tn := [9, 10]) (O := [.cells 23 [intA 0, intA 0, strA []], .cells 23 [intA (truthR ra).1.kind, intA (truthR ra).1.n, strA (truthR ra).1.s], .cells 23 [intA (truthR rb).1.kind, intA (truthR rb).1.n, strA (truthR rb).1.s]]) ?_
    refine R.assign ?_
    refine R.fin [5, 6, 8, 9, 10] ?_
    refine W.seq ?_
    refine AW.seqR ?_
    refine R.move ?_
    refine R.neq ?_
    refine R.move ?_
    refine G.loadOwnN Tryz.isAgg23 Tryz.sizeOf23 ?_
    refine G.loadRoN Tryz.isAgg23 Tryz.sizeOf23 ?_
    refine G.eqlAgg eg23 (fun w => equal23 (truthR rb).1.kind (truthR rb).1.n s.kind s.n (truthR rb).1.s s.s w) ?_
    refine R.pickOr ?_
    refine R.move ?_
    refine G.fieldAddrPtr (fo := 0) Tryz.underlying23 Tryz.sizeOf3 ?_
    refine G.loadOwn Tryz.isAgg3 ?_
    refine G.neq ?_
    refine R.pickOr ?_
    refine R.fin [6, 8, 9, 10, 49] ?_
    refine W.cond (fun ht49 => ?_) (fun ht49 => ?_)
    · skip
      rw [val_beq] at ht49
      have hm : logicR s ra rb = truthR rb := by unfold logicR; rw [if_neg (by rw [ht26]; simp), if_pos ht49]
      refine AW.seqR ?_
      refine R.loadOwnN Tryz.isAgg23 Tryz.sizeOf23 ?_
      refine R.move ?_
      refine R.storeOwn Tryz.sizeOf23 ?_
      refine R.assign ?_
      refine R.fin [6, 7] ?_
      refine AW.ret ?_
      refine K.thR ?_
      exact K.fin (V.two (V.cellN Tryz.isAgg23 Tryz.sizeOf23) V.tmp) ⟨by rw [hm]; try rfl, rfl⟩
    · skip
      rw [val_beq] at ht49
      have hm : logicR s ra rb = ((truthR ra).1, 0) := by unfold logicR; rw [if_neg (by rw [ht26]; simp), if_neg (by rw [ht49]; simp)]
      refine AW.skip ?_
      refine K.thN ?_
      refine AW.seqR ?_
      refine R.loadOwnN Tryz.isAgg23 Tryz.sizeOf23 ?_
      refine R.storeOwn Tryz.sizeOf23 ?_
      refine R.assign ?_
      refine R.fin [6, 7] ?_
      refine AW.ret ?_
      exact K.fin (V.two (V.cellN Tryz.isAgg23 Tryz.sizeOf23) V.tmp) ⟨by rw [hm]; try rfl, rfl⟩

theorem c55 (c : List Col) (l : List Val) (x k0 k1 k2 : Expr) (ra rb d2 : Rs) (h0 : (x.kids.map exprA)[0]? = some (exprA k0)) (h1 : (x.text == isnullW) = false → (x.kids.map exprA)[1]? = some (exprA k1)) (h2 : (x.text == ifW) = true → (x.kids.map exprA)[2]? = some (exprA k2)) (ha : EvalsTo c l k0 ra) (hb : (x.text == isnullW) = false → EvalsTo c l k1 rb) (hd : (x.text == ifW) = true → EvalsTo c l k2 d2) (Hp : List AObj) : AFun Tryz.prog 55 [scopeA c l, exprA x] Hp (resA (callR x.text ra rb d2)) := by
  refine ACall.body [.cell 4 23, .tmp 5] [0, 1] Tryz.func55 Tryz.ntmps55 (fun d => ?_)
  refine AW.seqR ?_
  refine R.boxRo ?_
  refine R.boxRo ?_
  refine R.alloc Tryz.zeroValue23 ?_
  refine R.assign ?_
  refine R.fin [2, 3, 4] ?_
  refine W.seq ?_
  refine AW.seqR ?_
  refine R.fieldAddrRo (off := 1) Tryz.underlying26 Tryz.sizeOf9 ?_
  refine R.loadRo Tryz.isAgg9 ?_
  refine R.seql ?_
  refine R.fin [2, 3, 4, 12] ?_
  refine W.cond (fun ht12 => ?_) (fun ht12 => ?_)
  · skip
    have hni : (x.text == isnullW) = false := by have e : x.text = ifW := by simpa [ifW] using ht12
                                                 rw [e]; rfl
    have hc : callR x.text ra rb d2 = (if (truthR ra).2 != 0 then wrongR (truthR ra).2 else if (truthR ra).1 == boolV true then rb else d2) := if_pos ht12
    refine W.drawY [0, 0, 2, 6, 14, 31, 63, 127, 127, 0, 767, 2047] [9, 10] [.q 9 [] [], .s [6] (some 0) [] [1], .s [] (some 1) [0] []] (fun _ => Hp) (fun B => if B 0 = true then [.cells 23 [intA 0, intA 0, strA []], (if B 1 = true then .cells 23 [intA (truthR ra).1.kind, intA (truthR ra).1.n, strA (truthR ra).1.s] else .cells 23 [intA 0, intA 0, strA []] : AObj)] else [.cells 23 [intA 0, intA 0, strA []]]) Tryzmixed (by kernel_rfl) rfl rfl (fun _ => rfl) ?_
    apply Y.q
    case h1 =>
      intro B hT hF
      refine D.loadRoN Tryz.isAgg61 Tryz.sizeOf61 ?_
      refine D.fieldAddrRo (off := 5) Tryz.underlying26 Tryz.sizeOf24 ?_
      refine D.loadRo Tryz.isAgg24 ?_
      refine D.indexAddr (0) (exprA k0) Tryz.underlying24 Tryz.sizeOf26 h0 ?_
      refine D.loadRoN Tryz.isAgg26 Tryz.sizeOf26 ?_
      refine D.call Tryz.call80 (c80 c l k0 ra ha _) ?_
      refine D.move ?_
      refine D.extract ?_
      refine D.extract ?_
      exact D.end rfl rfl
    case hTF => decide
    refine Y.alloc (zs := [intA 0, intA 0, strA []]) (n := 1) (u := Hp.length) Tryz.zeroValue23 (fun B hT hF hB => ⟨rfl, by simp [hB], by simp [upd, hB, hF 1 (by simp)], rfl⟩) ?_
    refine Y.storeOwnT (u := Hp.length) (n := 1) (t' := 23) (cs := [intA 0, intA 0, strA []]) (cs' := [intA (truthR ra).1.kind, intA (truthR ra).1.n, strA (truthR ra).1.s]) Tryz.sizeOf23 (fun B hT hF hB => ⟨rfl, by simp [hT 0 (by simp), hB], by simp [upd, hT 0 (by simp), hB], rfl⟩) ?_
    refine Y.tail (tn := [9, 10]) (O := [.cells 23 [intA 0, intA 0, strA []], .cells 23 [intA (truthR ra).1.kind, intA (truthR ra).1.n, strA (truthR ra).1.s]]) ?_
    refine R.assign ?_
    refine R.fin [2, 3, 4, 6, 7] ?_
    refine W.seq ?_
    refine AW.block ?_
    refine AW.seqR ?_
    refine R.move ?_
    refine R.neq ?_
    refine R.assign ?_
    refine R.fin [2, 3, 4, 6, 7, 22] ?_
    refine W.cond (fun ht22 => ?_) (fun ht22 => ?_)
    · skip
      have hm : callR x.text ra rb d2 = wrongR (truthR ra).2 := by rw [hc, if_pos ht22]
      refine AW.seqR ?_
      refine R.move ?_
      refine R.call Tryz.call28 (c28 _ _) ?_
      refine R.extract ?_
      refine R.extract ?_
      refine R.storeOwn Tryz.sizeOf23 ?_
      refine R.assign ?_
      refine R.fin [4, 5] ?_
      refine AW.ret ?_
      refine K.blR ?_
      refine K.thR ?_
      refine K.thR ?_
      exact K.fin (V.two (V.cellN Tryz.isAgg23 Tryz.sizeOf23) V.tmp) ⟨by rw [hm]; try rfl, rfl⟩
    · skip
      refine W.draw [0, 0, 3, 7] 2 Tryzmixed (by kernel_rfl) ?_
      refine D.loadOwnN Tryz.isAgg23 Tryz.sizeOf23 ?_
      refine D.call Tryz.call30 (c30 true _) ?_
      refine D.tail ?_
      refine R.eqlAgg eg23 (fun w => equal23 (truthR ra).1.kind (truthR ra).1.n 3 1 (truthR ra).1.s [] w) ?_
      refine R.assign ?_
      refine R.fin [2, 3, 4, 29] ?_
      refine W.cond (fun ht29 => ?_) (fun ht29 => ?_)
      · skip
        rw [val_beq (truthR ra).1 ⟨3, 1, []⟩] at ht29
        have ht29b : ((truthR ra).1 == boolV true) = true := ht29
        have hm : callR x.text ra rb d2 = rb := by rw [hc, if_neg (by rw [ht22]; simp), if_pos ht29b]
        refine W.draw [0, 0, 2, 6, 14, 31, 63, 63, 255, 511] 8 Tryzmixed (by kernel_rfl) ?_
        refine D.loadRoN Tryz.isAgg61 Tryz.sizeOf61 ?_
        refine D.fieldAddrRo (off := 5) Tryz.underlying26 Tryz.sizeOf24 ?_
        refine D.loadRo Tryz.isAgg24 ?_
        refine D.indexAddr (1) (exprA k1) Tryz.underlying24 Tryz.sizeOf26 (h1 hni) ?_
        refine D.loadRoN Tryz.isAgg26 Tryz.sizeOf26 ?_
        refine D.call Tryz.call29 (hb hni _) ?_
        refine D.extract ?_
        refine D.extract ?_
        refine D.tail ?_
        refine R.storeOwn Tryz.sizeOf23 ?_
        refine R.assign ?_
        refine R.fin [4, 5] ?_
        refine AW.ret ?_
        refine K.blR ?_
        refine K.thR ?_
        refine K.thR ?_
        exact K.fin (V.two (V.cellN Tryz.isAgg23 Tryz.sizeOf23) V.tmp) ⟨by rw [hm]; try rfl, rfl⟩
      · skip
        rw [val_beq (truthR ra).1 ⟨3, 1, []⟩] at ht29
        have hm : callR x.text ra rb d2 = d2 := by rw [hc, if_neg (by rw [ht22]; simp), if_neg (by show ¬ ((truthR ra).1 == ⟨3, 1, []⟩) = true; rw [ht29]; simp)]
        refine AW.skip ?_
        refine K.blN ?_
        refine K.thN ?_
        refine W.draw [0, 0, 2, 6, 14, 31, 63, 63, 255, 511] 8 Tryzmixed (by kernel_rfl) ?_
        refine D.loadRoN Tryz.isAgg61 Tryz.sizeOf61 ?_
        refine D.fieldAddrRo (off := 5) Tryz.underlying26 Tryz.sizeOf24 ?_
        refine D.loadRo Tryz.isAgg24 ?_
        refine D.indexAddr (2) (exprA k2) Tryz.underlying24 Tryz.sizeOf26 (h2 ht12) ?_
        refine D.loadRoN Tryz.isAgg26 Tryz.sizeOf26 ?_
        refine D.call Tryz.call29 (hd ht12 _) ?_
        refine D.extract ?_
        refine D.extract ?_
        refine D.tail ?_
        refine R.storeOwn Tryz.sizeOf23 ?_
        refine R.assign ?_
        refine R.fin [4, 5] ?_
        refine AW.ret ?_
        refine K.thR ?_
        exact K.fin (V.two (V.cellN Tryz.isAgg23 Tryz.sizeOf23) V.tmp) ⟨by rw [hm]; try rfl, rfl⟩
  · skip
    have hc : callR x.text ra rb d2 = (if ra.2 != 0 then wrongR ra.2 else if x.text == isnullW then (boolV (ra.1.kind == 0), 0) else if ra.1.kind != 0 then (ra.1, 0) else rb) := if_neg (by show ¬ (x.text == ifW) = true; rw [show (x.text == ifW) = false from ht12]; simp)
    refine AW.skip ?_
    refine K.thN ?_
    refine W.drawY [0, 0, 2, 6, 14, 31, 63, 127, 127, 0, 767, 2047] [9, 10] [.q 9 [] [], .s [8] (some 0) [] [1], .s [] (some 1) [0] []] (fun _ => Hp) (fun B => if B 0 = true then [.cells 23 [intA 0, intA 0, strA []], (if B 1 = true then .cells 23 [intA ra.1.kind, intA ra.1.n, strA ra.1.s] else .cells 23 [intA 0, intA 0, strA []] : AObj)] else [.cells 23 [intA 0, intA 0, strA []]]) Tryzmixed (by kernel_rfl) rfl rfl (fun _ => rfl) ?_
    apply Y.q
    case h1 =>
      intro B hT hF
      refine D.loadRoN Tryz.isAgg61 Tryz.sizeOf61 ?_
      refine D.fieldAddrRo (off := 5) Tryz.underlying26 Tryz.sizeOf24 ?_
      refine D.loadRo Tryz.isAgg24 ?_
      refine D.indexAddr (0) (exprA k0) Tryz.underlying24 Tryz.sizeOf26 h0 ?_
      refine D.loadRoN Tryz.isAgg26 Tryz.sizeOf26 ?_
      refine D.call Tryz.call29 (ha _) ?_
      refine D.move ?_
      refine D.extract ?_
      refine D.extract ?_
      exact D.end rfl rfl
    case hTF => decide
    refine Y.alloc (zs := [intA 0, intA 0, strA []]) (n := 1) (u := Hp.length) Tryz.zeroValue23 (fun B hT hF hB => ⟨rfl, by simp [hB], by simp [upd, hB, hF 1 (by simp)], rfl⟩) ?_
    refine Y.storeOwnT (u := Hp.length) (n := 1) (t' := 23) (cs := [intA 0, intA 0, strA []]) (cs' := [intA ra.1.kind, intA ra.1.n, strA ra.1.s]) Tryz.sizeOf23 (fun B hT hF hB => ⟨rfl, by simp [hT 0 (by simp), hB], by simp [upd, hT 0 (by simp), hB], rfl⟩) ?_
    refine Y.tail (tn := [9, 10]) (O := [.cells 23 [intA 0, intA 0, strA []], .cells 23 [intA ra.1.kind, intA ra.1.n, strA ra.1.s]]) ?_
    refine R.assign ?_
    refine R.fin [2, 3, 4, 8, 9] ?_
    refine W.seq ?_
    refine AW.block ?_
    refine AW.seqR ?_
    refine R.move ?_
    refine R.neq ?_
    refine R.assign ?_
    refine R.fin [2, 3, 4, 8, 9, 58] ?_
    refine W.cond (fun ht58 => ?_) (fun ht58 => ?_)
    · skip
      have hm : callR x.text ra rb d2 = wrongR ra.2 := by rw [hc, if_pos ht58]
      refine AW.seqR ?_
      refine R.move ?_
      refine R.call Tryz.call28 (c28 _ _) ?_
      refine R.extract ?_
      refine R.extract ?_
      refine R.storeOwn Tryz.sizeOf23 ?_
      refine R.assign ?_
      refine R.fin [4, 5] ?_
      refine AW.ret ?_
      refine K.blR ?_
      refine K.thR ?_
      exact K.fin (V.two (V.cellN Tryz.isAgg23 Tryz.sizeOf23) V.tmp) ⟨by rw [hm]; try rfl, rfl⟩
    · skip
      refine AW.seqR ?_
      refine R.fieldAddrRo (off := 1) Tryz.underlying26 Tryz.sizeOf9 ?_
      refine R.loadRo Tryz.isAgg9 ?_
      refine R.seql ?_
      refine R.assign ?_
      refine R.fin [2, 3, 4, 8, 65] ?_
      refine W.cond (fun ht65 => ?_) (fun ht65 => ?_)
      · skip
        have hm : callR x.text ra rb d2 = (boolV (ra.1.kind == 0), 0) := by rw [hc, if_neg (by rw [ht58]; simp), if_pos (show (x.text == isnullW) = true from ht65)]
        refine AW.seqR ?_
        refine R.fieldAddrPtr (fo := 0) Tryz.underlying23 Tryz.sizeOf3 ?_
        refine R.loadOwn Tryz.isAgg3 ?_
        refine R.eql ?_
        refine R.call Tryz.call30 (c30 _ _) ?_
        refine R.storeOwn Tryz.sizeOf23 ?_
        refine R.assign ?_
        refine R.fin [4, 5] ?_
        refine AW.ret ?_
        refine K.blR ?_
        refine K.thR ?_
        exact K.fin (V.two (V.cellN Tryz.isAgg23 Tryz.sizeOf23) V.tmp) ⟨by rw [hm]; try rfl, rfl⟩
      · skip
        refine AW.seqR ?_
        refine R.fieldAddrPtr (fo := 0) Tryz.underlying23 Tryz.sizeOf3 ?_
        refine R.loadOwn Tryz.isAgg3 ?_
        refine R.neq ?_
        refine R.assign ?_
        refine R.fin [2, 3, 4, 8, 73] ?_
        refine W.cond (fun ht73 => ?_) (fun ht73 => ?_)
        · skip
          have hm : callR x.text ra rb d2 = (ra.1, 0) := by rw [hc, if_neg (by rw [ht58]; simp), if_neg (by show ¬ (x.text == isnullW) = true; rw [show (x.text == isnullW) = false from ht65]; simp), if_pos ht73]
          refine AW.seqR ?_
          refine R.loadOwnN Tryz.isAgg23 Tryz.sizeOf23 ?_
          refine R.storeOwn Tryz.sizeOf23 ?_
          refine R.assign ?_
          refine R.fin [4, 5] ?_
          refine AW.ret ?_
          refine K.blR ?_
          refine K.thR ?_
          exact K.fin (V.two (V.cellN Tryz.isAgg23 Tryz.sizeOf23) V.tmp) ⟨by rw [hm]; try rfl, rfl⟩
        · skip
          have hm : callR x.text ra rb d2 = rb := by rw [hc, if_neg (by rw [ht58]; simp), if_neg (by show ¬ (x.text == isnullW) = true; rw [show (x.text == isnullW) = false from ht65]; simp), if_neg (by rw [ht73]; simp)]
          refine AW.skip ?_
          refine K.blN ?_
          refine K.thN ?_
          refine W.draw [0, 0, 2, 6, 14, 31, 63, 63, 255, 511] 8 Tryzmixed (by kernel_rfl) ?_
          refine D.loadRoN Tryz.isAgg61 Tryz.sizeOf61 ?_
          refine D.fieldAddrRo (off := 5) Tryz.underlying26 Tryz.sizeOf24 ?_
          refine D.loadRo Tryz.isAgg24 ?_
          refine D.indexAddr (1) (exprA k1) Tryz.underlying24 Tryz.sizeOf26 (h1 ht65) ?_
          refine D.loadRoN Tryz.isAgg26 Tryz.sizeOf26 ?_
          refine D.call Tryz.call29 (hb ht65 _) ?_
          refine D.extract ?_
          refine D.extract ?_
          refine D.tail ?_
          refine R.storeOwn Tryz.sizeOf23 ?_
          refine R.assign ?_
          refine R.fin [4, 5] ?_
          refine AW.ret ?_
          exact K.fin (V.two (V.cellN Tryz.isAgg23 Tryz.sizeOf23) V.tmp) ⟨by rw [hm]; try rfl, rfl⟩

end Go.SX.Nb
namespace Go.SX.Nb
open Go Go.SX Go.Proofs
variable [ErrAt]
set_option maxRecDepth 4000
end Go.SX.Nb
namespace Go.SX.Nb
open Go Go.SX Go.Proofs
variable [ErrAt]
set_option maxRecDepth 4000
abbrev signA (s : Sign) : AV := .agg [.slice false 1 (s.kids.map intA), intA s.own]
structure FitAt (s : Sign) (ks : List Int) (x : Nat × Int) : Prop where
 le : x.1 ≤ ks.length
 eq : fitK s.kids ks 0 = fitK (s.kids.drop x.1) (ks.drop x.1) x.2
theorem FitAt.step {s : Sign} {ks : List Int} {x : Nat × Int} (h : FitAt s ks x) (hk : x.1 < ks.length) (hs : x.1 < s.kids.length) : fitK s.kids ks 0 = (if s.kids[x.1] == -2 then fitK (s.kids.drop (x.1 + 1)) (ks.drop (x.1 + 1)) x.2 else if s.kids[x.1] == -1 then (if (meetM x.2 ks[x.1]).2 then fitK (s.kids.drop (x.1 + 1)) (ks.drop (x.1 + 1)) (meetM x.2 ks[x.1]).1 else none) else if (meetM s.kids[x.1] ks[x.1]).2 then fitK (s.kids.drop (x.1 + 1)) (ks.drop (x.1 + 1)) x.2 else none) := by
 rw [h.eq, List.drop_eq_getElem_cons hk, List.drop_eq_getElem_cons hs, fitK]
theorem FitAt.skip {s : Sign} {ks : List Int} {x : Nat × Int} (h : FitAt s ks x) (hk : x.1 < ks.length) (hs : x.1 < s.kids.length) (h2 : (s.kids[x.1] == -2) = true) : FitAt s ks (x.1 + 1, x.2) := ⟨hk, by rw [h.step hk hs, if_pos h2]⟩
theorem FitAt.same {s : Sign} {ks : List Int} {x : Nat × Int} (h : FitAt s ks x) (hk : x.1 < ks.length) (hs : x.1 < s.kids.length) (h2 : (s.kids[x.1] == -2) = false) (h1 : (s.kids[x.1] == -1) = true) (hm : (meetM x.2 ks[x.1]).2 = true) : FitAt s ks (x.1 + 1, (meetM x.2 ks[x.1]).1) := ⟨hk, by rw [h.step hk hs, if_neg (by rw [h2]; simp), if_pos h1, if_pos hm]⟩
theorem FitAt.want {s : Sign} {ks : List Int} {x : Nat × Int} (h : FitAt s ks x) (hk : x.1 < ks.length) (hs : x.1 < s.kids.length) (h2 : (s.kids[x.1] == -2) = false) (h1 : (s.kids[x.1] == -1) = false) (hm : (meetM s.kids[x.1] ks[x.1]).2 = true) : FitAt s ks (x.1 + 1, x.2) := ⟨hk, by rw [h.step hk hs, if_neg (by rw [h2]; simp), if_neg (by rw [h1]; simp), if_pos hm]⟩
theorem FitAt.bad {s : Sign} {ks : List Int} {x : Nat × Int} (h : FitAt s ks x) (hk : x.1 < ks.length) (hs : x.1 < s.kids.length) (h2 : (s.kids[x.1] == -2) = false) (hm : (if s.kids[x.1] == -1 then (meetM x.2 ks[x.1]).2 else (meetM s.kids[x.1] ks[x.1]).2) = false) : fitM s ks = (0, 10) := by
 unfold fitM
 rw [h.step hk hs, if_neg (by rw [h2]; simp)]
 split at hm
 ·rename_i h1
  rw [if_pos h1, if_neg (by rw [hm]; simp)]
 ·rename_i h1
  rw [if_neg h1, if_neg (by rw [hm]; simp)]
theorem FitAt.out {s : Sign} {ks : List Int} {x : Nat × Int} (h : FitAt s ks x) (hk : ks.length ≤ x.1) : fitM s ks = if s.own == -1 then (x.2, 0) else (s.own, 0) := by
 unfold fitM
 rw [h.eq, List.drop_of_length_le hk]
 cases s.kids.drop x.1 <;> rfl
theorem low_roE {n : Nat} {e : Expr} : Low n (.ro (exprC e)) := by have := exprA_low n e; rw [exprA_eq] at this; simpa using this
theorem find_col {c : List Col} {t : Str} (h : ¬ (findM t c < 0)) : ∃ (j : Nat), findM t c = (j : Int) ∧ j < c.length := by
 obtain ⟨j, y, h2, _, h3⟩ := find_mem.1 h
 exact ⟨j, h3, (List.getElem?_eq_some_iff.1 h2).1⟩
theorem rightE_node {e : Expr} (h : exprRightM e = true) : allE nodeM e = true := by
 rw [exprRight_eq] at h
 unfold refRightM at h
 rw [Bool.and_eq_true] at h
 exact h.2
end Go.SX.Nb
namespace Go.SX.Nb
open Go Go.SX Go.Proofs
variable [ErrAt]
set_option maxRecDepth 4000
/-- The first fault of those that were asked. -/
structure AllAt (f : Expr → Rs) (k : List Expr) (x : Nat) : Prop where
 le : x ≤ k.length
 ok : ∀ (j : Nat) (y : Expr), j < x → k[j]? = some y → ((f y).2 != 0) = false
theorem AllAt.bad {f : Expr → Rs} {k : List Expr} {x : Nat} (h : AllAt f k x) (hx : x < k.length) (hb : ((f k[x]).2 != 0) = true) (g : List Val → Rs) : allR g (k.map f) = wrongR (f k[x]).2 := by
 unfold allR
 have : (k.map f).find? (fun q => q.2 != 0) = some ((k.map f)[x]'(by simpa using hx)) := find_at (by simpa using hx) (by simpa using hb) (fun j y hj hy => by
  rw [List.getElem?_map, Option.map_eq_some_iff] at hy
  obtain ⟨z, hz, rfl⟩ := hy
  exact h.ok j z hj hz)
 rw [this]
 simp
theorem AllAt.all {f : Expr → Rs} {k : List Expr} {x : Nat} (h : AllAt f k x) (hx : k.length ≤ x) (g : List Val → Rs) : allR g (k.map f) = if (k.take x).any (fun y => (f y).1.kind == 0) then (noV, 0) else g ((k.take x).map fun y => (f y).1) := by
 unfold allR
 have : (k.map f).find? (fun q => q.2 != 0) = none := find_none (fun j y hy => by
  rw [List.getElem?_map, Option.map_eq_some_iff] at hy
  obtain ⟨z, hz, rfl⟩ := hy
  exact h.ok j z (by have := (List.getElem?_eq_some_iff.1 hz).1; omega) hz)
 rw [this, List.take_of_length_le hx]
 simp only [List.any_map, List.map_map]
 rfl
theorem AllAt.next {f : Expr → Rs} {k : List Expr} {x : Nat} (h : AllAt f k x) (hx : x < k.length) (hb : ((f k[x]).2 != 0) = false) : AllAt f k (x + 1) := ⟨hx, upto_succ hx h.ok hb⟩
theorem any_snoc (f : Expr → Bool) (k : List Expr) {x : Nat} (h : x < k.length) : (k.take (x + 1)).any f = ((k.take x).any f || f k[x]) := by rw [List.take_succ_eq_append_getElem h, List.any_append]; simp
theorem vals_snoc (f : Expr → Val) (l : List Expr) {x : Nat} (h : x < l.length) : ((l.take x).map f).map valA ++ [valA (f l[x])] = ((l.take (x + 1)).map f).map valA := by rw [List.take_succ_eq_append_getElem h, List.map_append, List.map_append]; rfl
theorem low_vals {n k : Nat} {own : Bool} {l : List Val} : Low n (.slice own k (l.map valA)) := low_slice.2 fun y hy => by
 obtain ⟨z, _, rfl⟩ := List.mem_map.1 hy
 simp [or_imp, forall_and]
theorem c56 (c : List Col) (l : List Val) (e : Expr) (hk : e.kids.length ≤ 1048576) (hev : ∀ y ∈ e.kids, EvalsTo c l y (evalE c l y)) (hargs : ((∀ y ∈ e.kids, (evalE c l y).2 = 0) → ArgsOk e.op (e.kids.map fun y => (evalE c l y).1))) (Hp : List AObj) : AFun Tryz.prog 56 [scopeA c l, exprA e] Hp (resA (allR (strictM e.op e.text) (e.kids.map (evalE c l)))) := by
 refine ACall.body [.cell 4 23, .tmp 5] [0, 1] Tryz.func56 Tryz.ntmps56 (fun d => ?_)
 refine AW.seqR ?_
 refine R.boxRo ?_
 refine R.boxRo ?_
 refine R.alloc Tryz.zeroValue23 ?_
 refine R.assign ?_
 refine R.fin [2, 3, 4] ?_
 refine AW.seqR ?_
 refine R.assign ?_
 refine R.fin [2, 3, 4, 6] ?_
 refine AW.seqR ?_
 refine R.nilSl 6 3 ?_
 refine R.assign ?_
 refine R.fin [2, 3, 4, 6, 7] ?_
 refine W.seq ?_
 refine AW.seqR ?_
 refine R.fieldAddrRo (off := 5) Tryz.underlying26 Tryz.sizeOf24 ?_
 refine R.loadRo Tryz.isAgg24 ?_
 refine R.len Tryz.underlying24 ?_
 refine R.move ?_
 refine R.fin [2, 3, 4, 6, 7, 13, 14, 15] ?_
 refine AW.loopC (α := Nat) (fun x => ⟨49, setF 2 (.ro [colsA c, valsA l]) (setF 3 (.ro (exprC e)) (setF 4 (.ptr (oid Hp.length 0) 0) (setF 6 (.slice true 3 (((e.kids.take x).map fun y => (evalE c l y).1).map valA)) (setF 7 (boolA ((e.kids.take x).any fun y => (evalE c l y).1.kind == 0)) (setF 13 (.slice false 6 (e.kids.map exprA)) (setF 14 (intA (e.kids.length : Nat)) (setF 15 (intA (x : Nat)) (fun _ => .any)))))))), Hp, [.cells 23 [intA 0, intA 0, strA []]], [], none⟩) (fun x => AllAt (evalE c l) e.kids x) (fun x => e.kids.length - x) (0) ⟨Nat.zero_le _, fun j y h => by omega⟩ (StLe.of_eq (by simp)) rfl (fun x hx => ?_)
 refine AW.seqR ?_
 refine R.lss ?_
 refine R.fin [2, 3, 4, 6, 7, 13, 14, 15, 16] ?_
 refine W.condX (fun ht16 => ?_) (fun ht16 => ?_)
 ·skip
  have hlt : x < e.kids.length := by simpa using ht16
  refine W.seq ?_
  refine AW.block ?_
  refine AW.seqR ?_
  refine R.indexAddr (x) (exprA e.kids[x]) Tryz.underlying24 Tryz.sizeOf26 (getMap hlt) ?_
  refine R.loadRoN Tryz.isAgg26 Tryz.sizeOf26 ?_
  refine R.alloc Tryz.zeroValue26 ?_
  refine R.storeOwn Tryz.sizeOf26 ?_
  refine R.fin [2, 3, 4, 6, 7, 9, 13, 14, 15] ?_
  refine AW.seqR ?_
  refine R.loadRoN Tryz.isAgg61 Tryz.sizeOf61 ?_
  refine R.loadOwnN Tryz.isAgg26 Tryz.sizeOf26 ?_
  refine R.call Tryz.call29 (hev _ (List.getElem_mem hlt) _) ?_
  refine R.move ?_
  refine R.extract ?_
  refine R.extract ?_
  refine R.alloc Tryz.zeroValue23 ?_
  refine R.storeOwn Tryz.sizeOf23 ?_
  refine R.assign ?_
  refine R.fin [2, 3, 4, 6, 7, 10, 11, 13, 14, 15] ?_
  refine W.seq ?_
  refine AW.seqR ?_
  refine R.move ?_
  refine R.neq ?_
  refine R.fin [2, 3, 4, 6, 7, 10, 11, 13, 14, 15, 26] ?_
  refine W.cond (fun ht26 => ?_) (fun ht26 => ?_)
  ·skip
   have hm := hx.bad hlt ht26 (strictM e.op e.text)
   refine AW.seqR ?_
   refine R.move ?_
   refine R.call Tryz.call28 (c28 _ _) ?_
   refine R.extract ?_
   refine R.extract ?_
   refine R.storeOwn Tryz.sizeOf23 ?_
   refine R.assign ?_
   refine R.fin [4, 5] ?_
   refine AW.ret ?_
   refine K.thR ?_
   refine K.blR ?_
   refine K.thR ?_
   refine K.lpR ?_
   refine K.thR ?_
   exact K.fin (V.two (V.cellN Tryz.isAgg23 Tryz.sizeOf23) V.tmp) ⟨by rw [hm]; try rfl, rfl⟩
  ·skip
   refine AW.skip ?_
   refine K.thN ?_
   refine AW.seqR ?_
   refine R.move ?_
   refine R.move ?_
   refine G.fieldAddrPtr (fo := 0) Tryz.underlying23 Tryz.sizeOf3 ?_
   refine G.loadOwn Tryz.isAgg3 ?_
   refine G.eql ?_
   refine R.pickOr ?_
   refine R.assign ?_
   refine R.fin [2, 3, 4, 6, 7, 10, 13, 14, 15] ?_
   refine AW.region ?_
   refine R.moveT ?_
   refine R.loadOwnN Tryz.isAgg23 Tryz.sizeOf23 ?_
   refine R.buildSlice Tryz.underlying28 Tryz.sizeOf23 Tryz.zeroValue23 ?_
   refine R.append Tryz.underlying28 Tryz.type23 ?_ ?_ ?_
   ·simp only [List.length_map, List.length_take, List.length_cons, List.length_nil, Tryz.t23]; omega
   ·simp only [List.length_map, List.length_take, List.length_cons, List.length_nil, Tryz.t23]; omega
   refine R.assignT ?_
   refine R.fin [2, 3, 4, 6, 7, 13, 14, 15] ?_
   refine K.blN ?_
   refine K.thN ?_
   refine AW.region ?_
   refine R.add64 ?_
   refine R.move ?_
   refine R.fin [2, 3, 4, 6, 7, 13, 14, 15] ?_
   refine K.lpN (x + 1) (hx.next hlt ht26) (by omega) ?_
   simp only [show Tryz.t23.size = 3 from rfl, any_snoc _ _ hlt]
   have hvs : ((e.kids.take x).map fun y => (evalE c l y).1).map valA ++ [.agg [.v (.int .i64 (evalE c l e.kids[x]).1.kind), .v (.int .i64 (evalE c l e.kids[x]).1.n), .v (sv (evalE c l e.kids[x]).1.s)]] = ((e.kids.take (x + 1)).map fun y => (evalE c l y).1).map valA := vals_snoc _ _ hlt
   simp only [hvs]
   exact StCut.take (own := [.cells 23 [intA 0, intA 0, strA []]]) (fun _ => .refl _) (by repeat (first | exact lowF_any | refine lowF_set (by first | exact low_exprs | exact low_vals | exact low_roE | (simp [or_imp, forall_and, oid] <;> omega)) ?_)) (by intro y hy; rw [List.mem_singleton.1 hy]; intro z hz; simp only [List.mem_cons, List.not_mem_nil, or_false] at hz; rcases hz with rfl | rfl | rfl <;> simp) (by simp)
 ·skip
  have hxe : e.kids.length ≤ x := by simpa using ht16
  have ha := hx.all hxe (strictM e.op e.text)
  have htk : e.kids.take x = e.kids := List.take_of_length_le hxe
  have h00 : ∀ y ∈ e.kids, (evalE c l y).2 = 0 := fun y hy => by
   obtain ⟨j, hj⟩ := List.getElem?_of_mem hy
   have := hx.ok j y (by have := (List.getElem?_eq_some_iff.1 hj).1; omega) hj
   simpa using this
  have hao := hargs h00
  rw [← htk] at hao
  refine K.lpE ?_
  refine K.thN ?_
  refine W.seq ?_
  refine AW.seqR ?_
  refine R.move ?_
  refine R.fin [3, 4, 6, 42] ?_
  refine W.cond (fun ht42 => ?_) (fun ht42 => ?_)
  ·skip
   have hm : allR (strictM e.op e.text) (e.kids.map (evalE c l)) = (noV, 0) := by rw [ha, if_pos ht42]
   refine AW.seqR ?_
   refine R.call Tryz.call52 (c52 _) ?_
   refine R.storeOwn Tryz.sizeOf23 ?_
   refine R.assign ?_
   refine R.fin [4, 5] ?_
   refine AW.ret ?_
   refine K.thR ?_
   exact K.fin (V.two (V.cellN Tryz.isAgg23 Tryz.sizeOf23) V.tmp) ⟨by rw [hm]; try rfl, rfl⟩
  ·skip
   have hm : allR (strictM e.op e.text) (e.kids.map (evalE c l)) = strictM e.op e.text ((e.kids.take x).map fun y => (evalE c l y).1) := by rw [ha, if_neg (by rw [ht42]; simp)]
   refine AW.skip ?_
   refine K.thN ?_
   refine AW.seqR ?_
   refine R.loadRoN Tryz.isAgg26 Tryz.sizeOf26 ?_
   refine R.move ?_
   refine R.call Tryz.call81 (c81 e _ hao _) ?_
   refine R.extract ?_
   refine R.extract ?_
   refine R.storeOwn Tryz.sizeOf23 ?_
   refine R.assign ?_
   refine R.fin [4, 5] ?_
   refine AW.ret ?_
   exact K.fin (V.two (V.cellN Tryz.isAgg23 Tryz.sizeOf23) V.tmp) ⟨by rw [hm]; try rfl, rfl⟩

end Go.SX.Nb
namespace Go.SX.Nb
open Go Go.SX Go.Proofs
variable [ErrAt]
set_option maxRecDepth 8000
end Go.SX.Nb
namespace Go.SX.Nb
open Go Go.SX Go.Proofs
variable [ErrAt]
set_option maxRecDepth 4000
def headE (x y : Expr) : Bool := ((x.op == y.op) && (x.text == y.text)) && ((x.val.kind == y.val.kind && x.val.n == y.val.n) && x.val.s == y.val.s)
end Go.SX.Nb
namespace Go.SX.Nb
open Go Go.SX Go.Proofs
variable [ErrAt]
set_option maxRecDepth 4000
theorem mk_agg (o : Int) (t : Str) (v : Val) (k : List Expr) : exprA (.mk o t v k) = .agg [intA o, .v (sv t), intA v.kind, intA v.n, .v (sv v.s), .slice false 6 (k.map exprA)] := by rw [exprA_eq]; rfl
end Go.SX.Nb
namespace Go.SX.Nb
open Go Go.SX Go.Proofs
variable [ErrAt]
set_option maxRecDepth 4000
end Go.SX.Nb
namespace Go.SX.Nb
open Go Go.SX Go.Proofs
variable [ErrAt]
set_option maxRecDepth 8000
/-! Who decides decides: the law's sources, columns and truths. -/
def lS1 : Str := [97, 32, 111, 114, 32, 98]
def lS2 : Str := [97, 32, 97, 110, 100, 32, 98]
def lS3 : Str := [110, 111, 116, 32, 40, 110, 111, 116, 32, 97, 32, 97, 110, 100, 32, 110, 111, 116, 32, 98, 41]
def lS4 : Str := [97, 32, 111, 114, 32, 49, 32, 47, 32, 48, 32, 61, 32, 110]
def lX1 : Expr := binX orW (nameE [97]) (nameE [98])
def lX2 : Expr := binX andW (nameE [97]) (nameE [98])
def lX3 : Expr := oneX 4 (binX andW (oneX 4 (nameE [97])) (oneX 4 (nameE [98])))
def lX4 : Expr := binX orW (nameE [97]) (binX [61] (binX [47] (valX ⟨1, 1, []⟩) (valX ⟨1, 0, []⟩)) (nameE [110]))
def lC : List Col := [⟨[97], 3⟩, ⟨[98], 3⟩, ⟨[110], 1⟩]
def lT : List Val := [noV, boolV false, boolV true]
def orV (x y : Val) : Val := if (x.n == 1) || ((x.kind == 0) && (y.n == 0)) then x else y
def andV (x y : Val) : Val := if ((x.kind == 3) && (x.n == 0)) || ((x.kind == 0) && ((y.kind == 0) || (y.n == 1))) then x else y
/-! Rows. -/
theorem row_iff {c : List Col} {l : List Val} : rowP c l = true ↔ colsM c = true ∧ l.length = c.length ∧ ∀ (i : Nat) (v : Val) (y : Col), l[i]? = some v → c[i]? = some y → plainM v = true ∧ (v.kind = 0 ∨ v.kind = y.kind) := by
 unfold rowP
 rw [Bool.and_eq_true, Bool.and_eq_true, cols_eq, beq_iff_eq, List.all_eq_true, and_assoc]
 refine and_congr_right fun _ => and_congr_right fun hl => ⟨fun h i v y hv hy => ?_, fun h p hp => ?_⟩
 ·have := h (v, y) (List.mem_of_getElem? (i := i) (by rw [List.getElem?_zip_eq_some]; exact ⟨hv, hy⟩))
  simpa using this
 ·obtain ⟨i, hi⟩ := List.getElem?_of_mem hp
  rw [List.getElem?_zip_eq_some] at hi
  have := h i p.1 p.2 hi.1 hi.2
  simpa using this
theorem eval_of {x : Expr} {c : List Col} {l : List Val} (h1 : exprRightM x = true) (h2 : rowP c l = true) : evalM x c l = evalE c l x := by
 unfold evalM evalR
 rw [h1, h2]
 rfl
/-! Rows that differ in what is not named. -/
def turn1R (c : List Col) (l : List Val) (m : List Val) (s : Str) : List Val := if findM s c < 0 then m else m.set (findM s c).toNat (l.getD (findM s c).toNat noV)
def turnR (c : List Col) (l : List Val) (ns : List Str) (m : List Val) : List Val := ns.foldl (turn1R c l) m
end Go.SX.Nb
namespace Go.SX.Nb
open Go Go.SX Go.Proofs
variable [ErrAt]
set_option maxRecDepth 8000
/-! Who has a kind comes to it. -/
/-- What a tree of this kind may come to. -/
structure KOk (k : Int) (r : Rs) : Prop where
 kind : r.2 = 0 → r.1.kind = k ∨ r.1.kind = 0
 err : r.2 ≠ 0 → r.2 = 4 ∨ r.2 = 5 ∨ r.2 = 6 ∨ r.2 = 3
theorem KOk.val {k : Int} {v : Val} (h : v.kind = k) : KOk k (v, 0) := ⟨fun _ => .inl h, fun h => absurd rfl h⟩
theorem KOk.wrong {k e : Int} (h : e = 4 ∨ e = 5 ∨ e = 6 ∨ e = 3) : KOk k (wrongR e) := ⟨fun h0 => by rw [show e = 0 from h0] at h; omega, fun _ => h⟩
theorem KOk.whole {x : Int × Int} (h : x.2 ≠ 0 → x.2 = 4 ∨ x.2 = 5 ∨ x.2 = 6 ∨ x.2 = 3) : KOk 1 (wholeR x) := by
 unfold wholeR
 split
 ·rename_i h1; exact .wrong (h (by simpa using h1))
 ·exact .val rfl
theorem KOk.mono {k k' : Int} {r : Rs} (h : KOk k r) (hk : k = k' ∨ k = 0) : KOk k' r := ⟨fun h0 => by have := h.kind h0; omega, h.err⟩
theorem call_names {t : Str} {n : Nat} (h : arityM t = (n : Int)) : (t = [108, 101, 110] ∧ n = 1) ∨ (t = [115, 116, 114] ∧ n = 1) ∨ (t = [110, 117, 109] ∧ n = 1) ∨ (t = isnullW ∧ n = 1) ∨ (t = nvlW ∧ n = 2) ∨ (t = [108, 101, 102, 116] ∧ n = 2) ∨ (t = [114, 105, 103, 104, 116] ∧ n = 2) ∨ (t = ifW ∧ n = 3) := by
 by_cases hm : t ∈ arityList.map (·.1)
 ·have ha : ∀ s ∈ arityList.map (·.1), (s = [108, 101, 110] ∧ arityM s = 1) ∨ (s = [115, 116, 114] ∧ arityM s = 1) ∨ (s = [110, 117, 109] ∧ arityM s = 1) ∨ (s = isnullW ∧ arityM s = 1) ∨ (s = nvlW ∧ arityM s = 2) ∨ (s = [108, 101, 102, 116] ∧ arityM s = 2) ∨ (s = [114, 105, 103, 104, 116] ∧ arityM s = 2) ∨ (s = ifW ∧ arityM s = 3) := by
   have : ((arityList.map (·.1)).all fun s => decide ((s = [108, 101, 110] ∧ arityM s = 1) ∨ (s = [115, 116, 114] ∧ arityM s = 1) ∨ (s = [110, 117, 109] ∧ arityM s = 1) ∨ (s = isnullW ∧ arityM s = 1) ∨ (s = nvlW ∧ arityM s = 2) ∨ (s = [108, 101, 102, 116] ∧ arityM s = 2) ∨ (s = [114, 105, 103, 104, 116] ∧ arityM s = 2) ∨ (s = ifW ∧ arityM s = 3))) = true := by kernel_rfl
   exact fun s hs => of_decide_eq_true (List.all_eq_true.1 this s hs)
  have := ha t hm
  rw [h] at this
  rcases this with ⟨e, h2⟩ | ⟨e, h2⟩ | ⟨e, h2⟩ | ⟨e, h2⟩ | ⟨e, h2⟩ | ⟨e, h2⟩ | ⟨e, h2⟩ | ⟨e, h2⟩
  ·exact .inl ⟨e, by omega⟩
  ·exact .inr (.inl ⟨e, by omega⟩)
  ·exact .inr (.inr (.inl ⟨e, by omega⟩))
  ·exact .inr (.inr (.inr (.inl ⟨e, by omega⟩)))
  ·exact .inr (.inr (.inr (.inr (.inl ⟨e, by omega⟩))))
  ·exact .inr (.inr (.inr (.inr (.inr (.inl ⟨e, by omega⟩)))))
  ·exact .inr (.inr (.inr (.inr (.inr (.inr (.inl ⟨e, by omega⟩))))))
  ·exact .inr (.inr (.inr (.inr (.inr (.inr (.inr ⟨e, by omega⟩))))))
 ·have h1 : arityM t = -1 := by
   unfold arityM
   rw [List.find?_eq_none.2 fun p hp => by
    simp only [beq_iff_eq]
    rintro rfl
    exact hm (List.mem_map.2 ⟨p, hp, rfl⟩)]
  omega
theorem two_len {k : List Expr} (h : k.length = 2) : ∃ a b, k = [a, b] := by match k, h with | [a, b], _ => exact ⟨a, b, rfl⟩
end Go.SX.Nb
namespace Go.SX.Nb
open Go Go.SX Go.Proofs
variable [ErrAt]
set_option maxRecDepth 4000
theorem kids_len {e : Expr} (h : nodeM e = true) : (e.op = 5 → e.kids.length = 2) ∧ (e.op = 3 ∨ e.op = 4 → e.kids.length = 1) ∧ (e.op = 6 → arityM e.text = (e.kids.length : Int)) ∧ (e.op = 1 ∨ e.op = 2 ∨ e.op = 3 ∨ e.op = 4 ∨ e.op = 5 ∨ e.op = 6) := by
  cases node_cases h with
  | val v hp h0 => simp [valX, Expr.op]
  | name t ht => simp [nameE, Expr.op]
  | neg a => simp [oneX, Expr.op, Expr.kids]
  | no a => simp [oneX, Expr.op, Expr.kids]
  | bin t a b ht => simp [binX, Expr.op, Expr.kids]
  | call t k ht => simpa [Expr.op, Expr.kids, Expr.text] using ht
theorem kidD {k : List Expr} {i : Nat} (h : i < k.length) : (k.map exprA)[i]? = some (exprA (k.getD i nullX)) ∧ k.getD i nullX ∈ k ∧ ∀ (f : Expr → Rs) (d : Rs), (k.map f).getD i d = f (k.getD i nullX) := by
  have e : k.getD i nullX = k[i] := by rw [List.getD_eq_getElem?_getD, List.getElem?_eq_getElem h]; rfl
  rw [e]
  refine ⟨by simp [h], List.getElem_mem h, fun f d => ?_⟩
  rw [List.getD_eq_getElem?_getD, List.getElem?_map, List.getElem?_eq_getElem h]
  rfl
theorem evalN_strict {c : List Col} {l : List Val} {e : Expr} (h1 : (e.op == 1) = false) (h2 : (e.op == 2) = false) (h3 : ((e.op == 5) && (e.text == orW)) = false) (h4 : ((e.op == 5) && (e.text == andW)) = false) (h5 : ((e.op == 6) && (((e.text == ifW) || (e.text == nvlW)) || (e.text == isnullW))) = false) : evalE c l e = allR (strictM e.op e.text) (e.kids.map (evalE c l)) := by
  rw [evalE, evalS_eq]
  unfold evalN
  rw [h1, h2, h3, h4, h5]
  rfl
theorem args_ok {c : List Col} {l : List Val} (hf : ∀ v ∈ l, Fine v) {e : Expr} (hnd : allE nodeM e = true) (hrg : allE rngN e = true) (hv : allE valOk e = true) (h5 : ((e.op == 6) && (((e.text == ifW) || (e.text == nvlW)) || (e.text == isnullW))) = false) : ArgsOk e.op (e.kids.map fun y => (evalE c l y).1) := by
  rw [allE_eq, Bool.and_eq_true] at hnd hrg hv
  obtain ⟨k5, k34, k6, _⟩ := kids_len hnd.1
  refine ⟨fun h => ?_, fun h => by rw [List.length_map]; exact k34 h, fun h => ?_, fun v hv' => ?_⟩
  · obtain ⟨a, b, e⟩ := two_len (k5 h)
    rw [e]
    exact ⟨_, _, rfl⟩
  · rw [List.length_map]
    rw [h] at h5
    simp only [beq_self_eq_true, Bool.true_and, Bool.or_eq_false_iff, beq_eq_false_iff_ne] at h5
    rcases call_names (k6 h) with ⟨_, h⟩ | ⟨_, h⟩ | ⟨_, h⟩ | ⟨e, _⟩ | ⟨e, _⟩ | ⟨_, h⟩ | ⟨_, h⟩ | ⟨e, _⟩
    · exact .inl h
    · exact .inl h
    · exact .inl h
    · exact absurd e h5.2
    · exact absurd e h5.1.2
    · obtain ⟨a, b, e⟩ := two_len h
      rw [e]
      exact .inr ⟨_, _, rfl⟩
    · obtain ⟨a, b, e⟩ := two_len h
      rw [e]
      exact .inr ⟨_, _, rfl⟩
    · exact absurd e h5.1.1
  · obtain ⟨y, hy, rfl⟩ := List.mem_map.1 hv'
    exact fine_eval hf y ((allL_iff _ _).1 hv.2 y hy) ((allL_iff _ _).1 hrg.2 y hy)
theorem call_isnull (a b d : Rs) : callR isnullW a b d = callR isnullW a (noV, 0) (noV, 0) := by
  unfold callR
  rw [show (isnullW == ifW) = false from rfl, show (isnullW == isnullW) = true from rfl]
  rfl
theorem call_third {t : Str} (h : (t == ifW) = false) (a b d d' : Rs) : callR t a b d = callR t a b d' := by
  unfold callR
  rw [h]
  rfl
theorem call_second {t : Str} (h : (t == isnullW) = true) (a b b' d d' : Rs) : callR t a b d = callR t a b' d' := by
  have e : t = isnullW := by simpa using h
  subst e
  rw [call_isnull, call_isnull a b' d']
theorem call_kids {t : Str} {k : List Expr} {f : Expr → Rs} {a : Rs} (h1 : (t == isnullW) = false → 1 < k.length) (h2 : (t == ifW) = true → 2 < k.length) : callR t a ((k.map f).getD 1 (noV, 0)) ((k.map f).getD 2 (noV, 0)) = callR t a (f (k.getD 1 nullX)) (f (k.getD 2 nullX)) := by
  cases hn : t == isnullW with
  | true => exact call_second hn _ _ _ _ _
  | false =>
    rw [(kidD (h1 hn)).2.2]
    cases hi : t == ifW with
    | true => rw [(kidD (h2 hi)).2.2]
    | false => exact call_third hi _ _ _ _
theorem c29 (c : List Col) (l : List Val) (hc : OkCols c) (hl : l.length = c.length) (hf : ∀ v ∈ l, Fine v) : ∀ (n : Nat) (e : Expr), okE n e → allE nodeM e = true → allE rngN e = true → allE valOk e = true → EvalsTo c l e (evalE c l e) := by
  intro n
  induction n with
  | zero => exact fun e h => h.elim
  | succ n ih =>
  intro e hok hnd hrg hvo Hp
  have hnd0 := hnd
  have hrg0 := hrg
  have hvo0 := hvo
  rw [allE_eq, Bool.and_eq_true] at hnd0 hrg0 hvo0
  have hev : ∀ y ∈ e.kids, EvalsTo c l y (evalE c l y) := fun y hy => ih y (hok.2.2 y hy) ((allL_iff _ _).1 hnd0.2 y hy) ((allL_iff _ _).1 hrg0.2 y hy) ((allL_iff _ _).1 hvo0.2 y hy)
  obtain ⟨k5, k34, k6, _⟩ := kids_len hnd0.1
  have hev0 : evalE c l e = evalN strictM c l e.op e.text e.val (e.kids.map (evalE c l)) := evalS_eq _ _ _ _
  refine ACall.body [.cell 4 23, .tmp 5] [0, 1] Tryz.func29 Tryz.ntmps29 (fun d => ?_)
  refine AW.seqR ?_
  refine R.boxRo ?_
  refine R.boxRo ?_
  refine R.alloc Tryz.zeroValue23 ?_
  refine R.assign ?_
  refine R.fin [2, 3, 4] ?_
  refine W.seq ?_
  refine AW.block ?_
  refine AW.seqR ?_
  refine R.fieldAddrRo (off := 0) Tryz.underlying26 Tryz.sizeOf3 ?_
  refine R.loadRo Tryz.isAgg3 ?_
  refine R.eql ?_
  refine R.assign ?_
  refine R.fin [2, 3, 4, 7] ?_
  refine W.cond (fun ht7 => ?_) (fun ht7 => ?_)
  · skip
    have hm : evalE c l e = (e.val, 0) := by rw [hev0]; unfold evalN; rw [if_pos ht7]
    refine AW.seqR ?_
    refine R.fieldAddrRo (off := 2) Tryz.underlying26 Tryz.sizeOf23 ?_
    refine R.loadRoN Tryz.isAgg23 Tryz.sizeOf23 ?_
    refine R.storeOwn Tryz.sizeOf23 ?_
    refine R.assign ?_
    refine R.fin [4, 5] ?_
    refine AW.ret ?_
    refine K.blR ?_
    refine K.thR ?_
    exact K.fin (V.two (V.cellN Tryz.isAgg23 Tryz.sizeOf23) V.tmp) ⟨by rw [hm]; try rfl, rfl⟩
  · skip
    refine AW.seqR ?_
    refine R.fieldAddrRo (off := 0) Tryz.underlying26 Tryz.sizeOf3 ?_
    refine R.loadRo Tryz.isAgg3 ?_
    refine R.eql ?_
    refine R.assign ?_
    refine R.fin [2, 3, 4, 13] ?_
    refine W.cond (fun ht13 => ?_) (fun ht13 => ?_)
    · skip
      have hm0 : evalE c l e = nameR c l e.text := by rw [hev0]; unfold evalN; rw [if_neg (by rw [ht7]; simp), if_pos ht13]
      refine AW.seqR ?_
      refine R.fieldAddrRo (off := 0) Tryz.underlying61 Tryz.sizeOf27 ?_
      refine R.loadRo Tryz.isAgg27 ?_
      refine R.fieldAddrRo (off := 1) Tryz.underlying26 Tryz.sizeOf9 ?_
      refine R.loadRo Tryz.isAgg9 ?_
      refine R.call Tryz.call53 (c53 c hc e.text _) ?_
      refine R.assign ?_
      refine R.fin [2, 4, 6] ?_
      refine W.seq ?_
      refine AW.seqR ?_
      refine R.move ?_
      refine R.lss ?_
      refine R.fin [2, 4, 6, 23] ?_
      refine W.cond (fun ht23 => ?_) (fun ht23 => ?_)
      · skip
        have hm : evalE c l e = wrongR 9 := by rw [hm0]; exact if_pos (by simpa using ht23)
        refine AW.seqR ?_
        refine R.call Tryz.call28 (c28 _ _) ?_
        refine R.extract ?_
        refine R.extract ?_
        refine R.storeOwn Tryz.sizeOf23 ?_
        refine R.assign ?_
        refine R.fin [4, 5] ?_
        refine AW.ret ?_
        refine K.thR ?_
        refine K.blR ?_
        refine K.thR ?_
        exact K.fin (V.two (V.cellN Tryz.isAgg23 Tryz.sizeOf23) V.tmp) ⟨by rw [hm]; try rfl, rfl⟩
      · skip
        have hneg : ¬ (findM e.text c < 0) := by simpa using ht23
        obtain ⟨j, hj, hjc⟩ := find_col hneg
        have hjl : j < l.length := by omega
        have hm : evalE c l e = (l[j], 0) := by
          rw [hm0]
          unfold nameR
          rw [if_neg hneg, hj, Int.toNat_natCast, List.getD_eq_getElem?_getD, List.getElem?_eq_getElem hjl]
          rfl
        rw [hj]
        refine AW.skip ?_
        refine K.thN ?_
        refine AW.seqR ?_
        refine R.fieldAddrRo (off := 1) Tryz.underlying61 Tryz.sizeOf28 ?_
        refine R.loadRo Tryz.isAgg28 ?_
        refine R.move ?_
        refine R.indexAddr (j) (valA l[j]) Tryz.underlying28 Tryz.sizeOf23 (getMap hjl) ?_
        refine R.loadRoN Tryz.isAgg23 Tryz.sizeOf23 ?_
        refine R.storeOwn Tryz.sizeOf23 ?_
        refine R.assign ?_
        refine R.fin [4, 5] ?_
        refine AW.ret ?_
        refine K.blR ?_
        refine K.thR ?_
        exact K.fin (V.two (V.cellN Tryz.isAgg23 Tryz.sizeOf23) V.tmp) ⟨by rw [hm]; try rfl, rfl⟩
    · skip
      refine AW.seqR ?_
      refine R.fieldAddrRo (off := 0) Tryz.underlying26 Tryz.sizeOf3 ?_
      refine R.loadRo Tryz.isAgg3 ?_
      refine R.eql ?_
      refine R.move ?_
      refine G.fieldAddrRo (off := 1) Tryz.underlying26 Tryz.sizeOf9 ?_
      refine G.loadRo Tryz.isAgg9 ?_
      refine G.seql ?_
      refine R.pickAnd ?_
      refine R.assign ?_
      refine R.fin [2, 3, 4, 32] ?_
      refine W.cond (fun ht32 => ?_) (fun ht32 => ?_)
      · skip
        have h32 : ((e.op == 5) && (e.text == orW)) = true := ht32
        have hop : e.op = 5 := by simp only [Bool.and_eq_true, beq_iff_eq] at h32; exact h32.1
        have hkl := k5 hop
        have hm : evalE c l e = logicR (boolV true) (evalE c l (e.kids.getD 0 nullX)) (evalE c l (e.kids.getD 1 nullX)) := by rw [hev0]; unfold evalN; rw [if_neg (by rw [ht7]; simp), if_neg (by rw [ht13]; simp), if_pos h32, (kidD (by omega)).2.2, (kidD (by omega)).2.2]
        refine W.draw [0, 0, 0, 7, 15, 15, 63, 127] 6 Tryzmixed (by kernel_rfl) ?_
        refine D.loadRoN Tryz.isAgg61 Tryz.sizeOf61 ?_
        refine D.loadRoN Tryz.isAgg26 Tryz.sizeOf26 ?_
        refine D.call Tryz.call30 (c30 _ _) ?_
        refine D.call Tryz.call54 (c54 c l e (e.kids.getD 0 nullX) (e.kids.getD 1 nullX) (boolV true) _ _ (kidD (by omega)).1 (kidD (by omega)).1 (hev _ (kidD (by omega)).2.1) (hev _ (kidD (by omega)).2.1) _) ?_
        refine D.extract ?_
        refine D.extract ?_
        refine D.tail ?_
        refine R.storeOwn Tryz.sizeOf23 ?_
        refine R.assign ?_
        refine R.fin [4, 5] ?_
        refine AW.ret ?_
        refine K.blR ?_
        refine K.thR ?_
        exact K.fin (V.two (V.cellN Tryz.isAgg23 Tryz.sizeOf23) V.tmp) ⟨by rw [hm]; try rfl, rfl⟩
      · skip
        have h32 : ((e.op == 5) && (e.text == orW)) = false := ht32
        refine AW.seqR ?_
        refine R.fieldAddrRo (off := 0) Tryz.underlying26 Tryz.sizeOf3 ?_
        refine R.loadRo Tryz.isAgg3 ?_
        refine R.eql ?_
        refine R.move ?_
        refine G.fieldAddrRo (off := 1) Tryz.underlying26 Tryz.sizeOf9 ?_
        refine G.loadRo Tryz.isAgg9 ?_
        refine G.seql ?_
        refine R.pickAnd ?_
        refine R.assign ?_
        refine R.fin [2, 3, 4, 47] ?_
        refine W.cond (fun ht47 => ?_) (fun ht47 => ?_)
        · skip
          have h47 : ((e.op == 5) && (e.text == andW)) = true := ht47
          have hop : e.op = 5 := by simp only [Bool.and_eq_true, beq_iff_eq] at h47; exact h47.1
          have hkl := k5 hop
          have hm : evalE c l e = logicR (boolV false) (evalE c l (e.kids.getD 0 nullX)) (evalE c l (e.kids.getD 1 nullX)) := by rw [hev0]; unfold evalN; rw [if_neg (by rw [ht7]; simp), if_neg (by rw [ht13]; simp), if_neg (by rw [h32]; simp), if_pos h47, (kidD (by omega)).2.2, (kidD (by omega)).2.2]
          refine W.draw [0, 0, 0, 7, 15, 15, 63, 127] 6 Tryzmixed (by kernel_rfl) ?_
          refine D.loadRoN Tryz.isAgg61 Tryz.sizeOf61 ?_
          refine D.loadRoN Tryz.isAgg26 Tryz.sizeOf26 ?_
          refine D.call Tryz.call30 (c30 _ _) ?_
          refine D.call Tryz.call54 (c54 c l e (e.kids.getD 0 nullX) (e.kids.getD 1 nullX) (boolV false) _ _ (kidD (by omega)).1 (kidD (by omega)).1 (hev _ (kidD (by omega)).2.1) (hev _ (kidD (by omega)).2.1) _) ?_
          refine D.extract ?_
          refine D.extract ?_
          refine D.tail ?_
          refine R.storeOwn Tryz.sizeOf23 ?_
          refine R.assign ?_
          refine R.fin [4, 5] ?_
          refine AW.ret ?_
          refine K.blR ?_
          refine K.thR ?_
          exact K.fin (V.two (V.cellN Tryz.isAgg23 Tryz.sizeOf23) V.tmp) ⟨by rw [hm]; try rfl, rfl⟩
        · skip
          have h47 : ((e.op == 5) && (e.text == andW)) = false := ht47
          refine AW.seqR ?_
          refine R.fieldAddrRo (off := 0) Tryz.underlying26 Tryz.sizeOf3 ?_
          refine R.loadRo Tryz.isAgg3 ?_
          refine R.eql ?_
          refine R.move ?_
          refine G.fieldAddrRo (off := 1) Tryz.underlying26 Tryz.sizeOf9 ?_
          refine G.loadRo Tryz.isAgg9 ?_
          refine G.seql ?_
          refine G.move ?_
          refine G.fieldAddrRo (off := 1) Tryz.underlying26 Tryz.sizeOf9 ?_
          refine G.loadRo Tryz.isAgg9 ?_
          refine G.seql ?_
          refine G.pickOr ?_
          refine G.move ?_
          refine G.fieldAddrRo (off := 1) Tryz.underlying26 Tryz.sizeOf9 ?_
          refine G.loadRo Tryz.isAgg9 ?_
          refine G.seql ?_
          refine G.pickOr ?_
          refine R.pickAnd ?_
          refine R.assign ?_
          refine R.fin [2, 3, 4, 62] ?_
          refine W.cond (fun ht62 => ?_) (fun ht62 => ?_)
          · skip
            have h62 : ((e.op == 6) && (((e.text == ifW) || (e.text == nvlW)) || (e.text == isnullW))) = true := ht62
            obtain ⟨hkl, hl1, hl2⟩ : 0 < e.kids.length ∧ ((e.text == isnullW) = false → 1 < e.kids.length) ∧ ((e.text == ifW) = true → 2 < e.kids.length) := by
              have h := h62
              simp only [Bool.and_eq_true, Bool.or_eq_true, beq_iff_eq] at h
              have ha := k6 h.1
              rcases h.2 with (h1 | h1) | h1
              · rw [h1] at ha ⊢
                have : e.kids.length = 3 := by have : arityM ifW = 3 := by kernel_rfl
                                               omega
                exact ⟨by omega, fun _ => by omega, fun _ => by omega⟩
              · rw [h1] at ha ⊢
                have : e.kids.length = 2 := by have : arityM nvlW = 2 := by kernel_rfl
                                               omega
                exact ⟨by omega, fun _ => by omega, fun h => absurd h (by decide)⟩
              · rw [h1] at ha ⊢
                have : e.kids.length = 1 := by have : arityM isnullW = 1 := by kernel_rfl
                                               omega
                exact ⟨by omega, fun h => absurd h (by decide), fun h => absurd h (by decide)⟩
            have hm : evalE c l e = callR e.text (evalE c l (e.kids.getD 0 nullX)) (evalE c l (e.kids.getD 1 nullX)) (evalE c l (e.kids.getD 2 nullX)) := by
              rw [hev0]
              unfold evalN
              rw [if_neg (by rw [ht7]; simp), if_neg (by rw [ht13]; simp), if_neg (by rw [h32]; simp), if_neg (by rw [h47]; simp), if_pos h62, (kidD hkl).2.2]
              exact call_kids hl1 hl2
            refine AW.seqR ?_
            refine R.loadRoN Tryz.isAgg61 Tryz.sizeOf61 ?_
            refine R.loadRoN Tryz.isAgg26 Tryz.sizeOf26 ?_
            refine R.call Tryz.call55 (c55 c l e (e.kids.getD 0 nullX) (e.kids.getD 1 nullX) (e.kids.getD 2 nullX) _ _ _ (kidD (by omega)).1 (fun h => (kidD (hl1 h)).1) (fun h => (kidD (hl2 h)).1) (hev _ (kidD (by omega)).2.1) (fun h => hev _ (kidD (hl1 h)).2.1) (fun h => hev _ (kidD (hl2 h)).2.1) _) ?_
            refine R.extract ?_
            refine R.extract ?_
            refine R.storeOwn Tryz.sizeOf23 ?_
            refine R.assign ?_
            refine R.fin [4, 5] ?_
            refine AW.ret ?_
            refine K.blR ?_
            refine K.thR ?_
            exact K.fin (V.two (V.cellN Tryz.isAgg23 Tryz.sizeOf23) V.tmp) ⟨by rw [hm]; try rfl, rfl⟩
          · skip
            have h62 : ((e.op == 6) && (((e.text == ifW) || (e.text == nvlW)) || (e.text == isnullW))) = false := ht62
            have hm := evalN_strict (c := c) (l := l) ht7 ht13 h32 h47 h62
            refine AW.skip ?_
            refine K.blN ?_
            refine K.thN ?_
            refine AW.seqR ?_
            refine R.loadRoN Tryz.isAgg61 Tryz.sizeOf61 ?_
            refine R.loadRoN Tryz.isAgg26 Tryz.sizeOf26 ?_
            refine R.call Tryz.call56 (c56 c l e hok.2.1 hev (fun _ => args_ok hf hnd hrg hvo h62) _) ?_
            refine R.extract ?_
            refine R.extract ?_
            refine R.storeOwn Tryz.sizeOf23 ?_
            refine R.assign ?_
            refine R.fin [4, 5] ?_
            refine AW.ret ?_
            exact K.fin (V.two (V.cellN Tryz.isAgg23 Tryz.sizeOf23) V.tmp) ⟨by rw [hm]; try rfl, rfl⟩

end Go.SX.Nb
namespace Go.SX.Nb
open Go Go.SX Go.Proofs
variable [ErrAt]
set_option maxRecDepth 4000
abbrev xo (own : Bool) (t : Str) (ks : List Expr) : AObj := .cells 26 [intA 6, strA t, intA 0, intA 0, strA [], .slice own 6 (ks.map exprA)]
theorem low_xo {n : Nat} {own : Bool} {t : Str} {ks : List Expr} : ObjLow n (xo own t ks) := by
 show ∀ z ∈ [intA 6, strA t, intA 0, intA 0, strA [], AV.slice own 6 (ks.map exprA)], Low n z
 intro z hz
 simp only [List.mem_cons, List.not_mem_nil, or_false] at hz
 rcases hz with rfl | rfl | rfl | rfl | rfl | rfl
 all_goals first | exact low_exprs | simp
theorem const69 : constAV (.agg #[.int .i64 0, .string ⟨#[]⟩, .int .i64 0, .int .i64 0, .string ⟨#[]⟩, .slice none 0 0]) = .agg [intA 0, strA [], intA 0, intA 0, strA [], .nil] := rfl
attribute [go_sem] const69
theorem gA {Hp : List AObj} {o ox : Nat} {z A B : AObj} (ho : Hp[o]? = some z) (hne : ox ≠ o) : ((Hp.set o A).set ox B)[o]? = some A := by rw [List.getElem?_set_ne hne]; exact getset ho
theorem gB {Hp : List AObj} {o ox : Nat} {z A B : AObj} (hox : Hp[ox]? = some z) : ((Hp.set o A).set ox B)[ox]? = some B := by
 have := (List.getElem?_eq_some_iff.1 hox).1
 simp [this]
theorem setA {Hp : List AObj} {o ox : Nat} {A A' B : AObj} (hne : ox ≠ o) : ((Hp.set o A).set ox B).set o A' = (Hp.set o A').set ox B := by rw [List.set_comm _ _ hne, List.set_set]
theorem exprs_snoc (ks : List Expr) (x : Expr) : ks.map exprA ++ [.agg [.v (.int .i64 x.op), .v (sv x.text), .v (.int .i64 x.val.kind), .v (.int .i64 x.val.n), .v (sv x.val.s), .slice false 6 (x.kids.map exprA)]] = (ks ++ [x]).map exprA := by rw [List.map_append, List.map_cons, List.map_nil, exprA_eq x]
theorem c228 (l : List Tok) (S : PS) (t : Str) (Dv : Fam) (o ox : Nat) (Hp : List AObj) (hne : ox ≠ o) (ho : Hp[o]? = some (pr l S)) (hox : Hp[ox]? = some (xo true t [])) (hi : S.i < l.length) (hl : TokEnd l) (hll : l.length ≤ 1048576) (hf : Good l S.nest Dv.ei) (hcf : PC 70 l Dv.ei S.nest) : ACall Tryz.prog 228 [.ptr ox 0, .ro [.ptr o 0]] Hp (fun r H' => r = exprA (.mk 6 t noV (argsM l Dv.ei S).1) ∧ H' = (Hp.set o (pr l (argsM l Dv.ei S).2)).set ox (xo true t (argsM l Dv.ei S).1)) := by
 have hoxl := (List.getElem?_eq_some_iff.1 hox).1
 have hol := (List.getElem?_eq_some_iff.1 ho).1
 refine ACall.body [.cell 2 26] [0, 1] Tryz.func228 Tryz.ntmps228 (fun d => ?_)
 refine AW.seqR ?_
 refine R.alloc Tryz.zeroValue26 ?_
 refine R.fin [0, 1, 2] ?_
 refine W.drawT [0, 1, 0, 4, 3, 0, 63, 127, 255, 127, 639] [1, 3] [.q 1 [] [0], .s [4] (some 0) [] [], .q 1 [] [1], .s [6] (some 1) [] [], .q 2 [] []] (fun B => (Hp.set o (if B 1 = true then pr l (Dv.ei S).2 else pr l S)).set ox (if B 0 = true then xo false t [] else xo true t [])) (fun _ => [zero69]) Tryzmixed (by kernel_rfl) (by simp only [Bool.false_eq_true, if_false]; rw [set_same ho, set_same hox]) rfl (fun B => by simp) ?_
 apply Y.q
 case h1 =>
  intro B hT hF
  refine D.fieldAddrPtr (fo := 5) Tryz.underlying26 Tryz.sizeOf24 ?_
  exact D.end rfl rfl
 case hTF => decide
 refine Y.loadUpT (o := ox) (t' := 26) (cs := [intA 6, strA t, intA 0, intA 0, strA [], .slice true 6 ([].map exprA)]) (cs' := [intA 6, strA t, intA 0, intA 0, strA [], .slice false 6 ([].map exprA)]) Tryz.isAgg24 (fun B hB => ⟨by simp only [hB]; exact gB hox, by simp [upd, List.set_set] <;> rfl, rfl⟩) ?_
 apply Y.q
 case h1 =>
  intro B hT hF
  refine D.loadRo Tryz.isAgg106 ?_
  exact D.end rfl rfl
 case hTF => decide
 refine Y.callUp (r := exprA (Dv.ei S).1) (o := o) (x0 := pr l S) (x := pr l (Dv.ei S).2) Tryz.call70 (fun B hT hF hB => ⟨by simp only [hB]; exact gA ho hne, ?_, rfl, low_pr, ?_⟩) ?_
 ·simp only [upd, hB, Nat.reduceEqDiff, if_false, if_true, Bool.false_eq_true]
  exact (setA hne).symm
 ·simp only [hB]
  exact hcf o _ S (get_up (gA ho hne)) hi rfl
 apply Y.q
 case h1 =>
  intro B hT hF
  refine D.len Tryz.underlying24 ?_
  refine D.buildSlice Tryz.underlying24 Tryz.sizeOf26 Tryz.zeroValue26 ?_
  exact D.end rfl rfl
 case hTF => decide
 refine Y.appendPut (tn := [1, 3]) (U := (Hp.set o (pr l (Dv.ei S).2)).set ox (xo false t [])) (O := [zero69]) (o := ox) (t' := 26) (cs := [intA 6, strA t, intA 0, intA 0, strA [], .slice false 6 ([].map exprA)]) (by kernel_rfl) Tryz.underlying24 Tryz.type26 Tryz.sizeOf26 Tryz.sizeOf24 Tryz.underlying26 (get_up (gB hox)) ?_ ?_ ?_ (hfsz := Tryz.sizeOf24)
 ·simp [Tryz.t26]
 ·simp [Tryz.t26]
 refine R.fieldAddrPtr (fo := 5) Tryz.underlying26 Tryz.sizeOf24 ?_
 refine R.storeUpT Tryz.sizeOf24 (gB hox) ?_ ?_
 ·first | (rw [exprs_snoc]; exact low_exprs) | (have := low_exprs (n := ((Hp.set o (pr l (Dv.ei S).2)).set ox (xo false t [])).length) (k := 6) (o := true) (l := [(Dv.ei S).1]); simp only [List.map_cons, List.map_nil, exprA_eq] at this; exact this)
 refine R.fin [0, 1, 2] ?_
 refine W.seq ?_
 refine AW.loopC (α := List Expr × PS) (fun r => ⟨34, setF 0 (.ptr ox 0) (setF 1 (.ro [.ptr o 0]) (setF 2 (.ptr (oid Hp.length 0) 0) (fun _ => .any))), (Hp.set o (pr l r.2)).set ox (xo true t r.1), [zero69], [], none⟩) (fun r => ArgsAt l Dv.ei S r) (fun r => l.length - r.2.i) (([(Dv.ei S).1], (Dv.ei S).2)) (.start (hf S hi rfl)) (StLe.of_eq (by simp [List.set_set, xo, exprA_eq])) rfl (fun r hx => ?_)
 refine W.seq ?_
 refine AW.seqR ?_
 refine R.loadRo Tryz.isAgg106 ?_
 refine R.nilPtr ?_
 refine R.fieldAddrPtr (fo := 3) Tryz.underlying108 Tryz.sizeOf53 ?_
 refine R.fieldAddrPtr (fo := 0) Tryz.underlying53 Tryz.sizeOf33 ?_
 refine R.loadUp Tryz.isAgg33 (gA ho hne) ?_
 refine R.eql ?_
 refine R.move ?_
 refine G.loadRo Tryz.isAgg106 ?_
 refine G.call Tryz.call113 (fun hB => c113 l r.2 commaT o _ (get_up (gA ho hne)) hx.fact.lt hl (by decide)) ?_
 refine R.pickAnd ?_
 refine R.fin [0, 1, 2, 21] ?_
 refine W.cond (fun ht21 => ?_) (fun ht21 => ?_)
 ·skip
  have hon := hx.on hl ht21 hf
  have hle := hon.2.1.le
  have hlt0 := hx.fact.lt
  refine AW.skip ?_
  refine K.thN ?_
  refine AW.block ?_
  refine AW.seqR ?_
  refine R.loadRo Tryz.isAgg106 ?_
  refine R.callUp Tryz.call114 (gA ho hne) (by simp) low_pr (c114 l r.2 o _ (get_up (gA ho hne)) hx.fact.lt hll) ?_
  refine R.fin [0, 1, 2] ?_
  refine W.drawT0 [0, 1, 0, 4, 3, 0, 63, 127, 255, 127, 639] [1, 3] [.q 1 [] [0], .s [25] (some 0) [] [], .q 1 [] [1], .s [27] (some 1) [] [], .q 2 [] []] (fun B => (Hp.set o (if B 1 = true then pr l (Dv.ei (nextM r.2)).2 else pr l (nextM r.2))).set ox (if B 0 = true then xo false t r.1 else xo true t r.1)) (fun _ => [zero69]) Tryzmixed (by kernel_rfl) (by simp only [Bool.false_eq_true, if_false]; exact (setA hne).symm) rfl (fun B => by simp) ?_
  apply Y.q
  case h1 =>
   intro B hT hF
   refine D.fieldAddrPtr (fo := 5) Tryz.underlying26 Tryz.sizeOf24 ?_
   exact D.end rfl rfl
  case hTF => decide
  refine Y.loadUpT (o := ox) (t' := 26) (cs := [intA 6, strA t, intA 0, intA 0, strA [], .slice true 6 (r.1.map exprA)]) (cs' := [intA 6, strA t, intA 0, intA 0, strA [], .slice false 6 (r.1.map exprA)]) Tryz.isAgg24 (fun B hB => ⟨by simp only [hB]; exact gB hox, by simp [upd, List.set_set] <;> rfl, rfl⟩) ?_
  apply Y.q
  case h1 =>
   intro B hT hF
   refine D.loadRo Tryz.isAgg106 ?_
   exact D.end rfl rfl
  case hTF => decide
  refine Y.callUp (r := exprA (Dv.ei (nextM r.2)).1) (o := o) (x0 := pr l (nextM r.2)) (x := pr l (Dv.ei (nextM r.2)).2) Tryz.call70 (fun B hT hF hB => ⟨by simp only [hB]; exact gA ho hne, ?_, rfl, low_pr, ?_⟩) ?_
  ·simp only [upd, hB, Nat.reduceEqDiff, if_false, if_true, Bool.false_eq_true]
   exact (setA hne).symm
  ·simp only [hB]
   exact hcf o _ (nextM r.2) (get_up (gA ho hne)) hon.1 hx.fact.nest
  apply Y.q
  case h1 =>
   intro B hT hF
   refine D.len Tryz.underlying24 ?_
   refine D.buildSlice Tryz.underlying24 Tryz.sizeOf26 Tryz.zeroValue26 ?_
   exact D.end rfl rfl
  case hTF => decide
  refine Y.appendPut (tn := [1, 3]) (U := (Hp.set o (pr l (Dv.ei (nextM r.2)).2)).set ox (xo false t r.1)) (O := [zero69]) (o := ox) (t' := 26) (cs := [intA 6, strA t, intA 0, intA 0, strA [], .slice false 6 (r.1.map exprA)]) (by kernel_rfl) Tryz.underlying24 Tryz.type26 Tryz.sizeOf26 Tryz.sizeOf24 Tryz.underlying26 (get_up (gB hox)) ?_ ?_ ?_ (hfsz := Tryz.sizeOf24)
  ·have := hx.fact.len; have := hx.fact.lt; simp only [List.length_map, Tryz.t26]; omega
  ·have := hx.fact.len; have := hx.fact.lt; simp only [List.length_map, Tryz.t26]; omega
  refine R.fieldAddrPtr (fo := 5) Tryz.underlying26 Tryz.sizeOf24 ?_
  refine R.storeUpT Tryz.sizeOf24 (gB hox) ?_ ?_
  ·first | (rw [exprs_snoc]; exact low_exprs) | (have := low_exprs (n := ((Hp.set o (pr l (Dv.ei S).2)).set ox (xo false t [])).length) (k := 6) (o := true) (l := [(Dv.ei S).1]); simp only [List.map_cons, List.map_nil, exprA_eq] at this; exact this)
  refine R.fin [0, 1, 2] ?_
  refine K.blN ?_
  refine K.lpN (r.1 ++ [(Dv.ei (nextM r.2)).1], (Dv.ei (nextM r.2)).2) hon.2.2 (by show l.length - (Dv.ei (nextM r.2)).2.i < l.length - r.2.i; have : r.2.i + 1 ≤ (Dv.ei (nextM r.2)).2.i := hle; omega) (StCut.of_eq ?_)
  simp only [show Tryz.t26.size = 6 from rfl, exprs_snoc, List.set_set]
 ·skip
  have hout := hx.out (by rw [ht21]; simp)
  refine AW.exit ?_
  refine K.thE ?_
  refine K.lpE ?_
  refine K.thN ?_
  refine AW.seqR ?_
  refine R.loadUpN Tryz.isAgg26 Tryz.sizeOf26 (gB hox) ?_
  refine R.storeOwn Tryz.sizeOf26 ?_
  refine R.fin [2] ?_
  refine AW.ret ?_
  exact K.fin (V.one (V.cellN Tryz.isAgg26 Tryz.sizeOf26)) ⟨by rw [hout, mk_agg]; rfl, by rw [hout]⟩ (hlow := by have := exprA_low Hp.length (.mk 6 t noV r.1); rw [mk_agg] at this; simpa using this)

end Go.SX.Nb
namespace Go.SX.Nb
open Go Go.SX Go.Proofs
variable [ErrAt]
set_option maxRecDepth 4000
/-- within, with the function that gathers a call's kids. -/
theorem c227c (l : List Tok) (S : PS) (a : Int) (t : Str) (Dv : Fam) (o : Nat) (Hp : List AObj) (A0 A1 : AObj) (l0 : ObjLow 0 A0) (ho : Hp[o]? = some (pr l S)) (hi : S.i < l.length) (hl : TokEnd l) (hll : l.length ≤ 1048576) (hnl : S.nest ≤ 30) (hd : DeepC l Dv S.nest) :
  ACall Tryz.prog 134 [.ptr o 0, intA a, .fn (.func 228) [] [.ptr (oid Hp.length 2) 0, .ro [.ptr o 0]]] (Hp ++ [A0, A1, xo true t []]) (fun r H' => r = exprA (if S.nest = 30 then nullX else .mk 6 t noV (kidsM l a Dv.ei S).1) ∧ H' = Hp.set o (pr l (kidsM l a Dv.ei S).2) ++ [A0, A1, xo true t (kidsM l a Dv.ei S).1]) := by
 have hlt := (List.getElem?_eq_some_iff.1 ho).1
 have ho' : (Hp ++ [A0, A1, xo true t []])[o]? = some (pr l S) := get_up ho
 by_cases h30 : S.nest = 30
 ·refine (c134 l S a 228 [] [.ptr (oid Hp.length 2) 0, .ro [.ptr o 0]] nullX (deepM S) o (Hp ++ [A0, A1, xo true t []]) ((Hp ++ [A0, A1, xo true t []]).set o (pr l (deepM S))) ho' (by omega) Tryz.call228 (by simp) (getset ho') rfl (fun h => h) (fun h => absurd h30 h)).mono fun r H' h => ?_
  have e : kidsM l a Dv.ei S = ([], failM 18 a S) := if_pos (by rw [h30]; rfl)
  rw [e, if_pos h30]
  obtain ⟨h1, h2⟩ := h.1 h30
  exact ⟨h1, by rw [h2, List.set_append_left _ _ hlt]⟩
 ·have hq := argsM_fact (S := deepM S) hl hi (hd.ei h30).1
  refine (c134 l S a 228 [] [.ptr (oid Hp.length 2) 0, .ro [.ptr o 0]] (.mk 6 t noV (argsM l Dv.ei (deepM S)).1) (argsM l Dv.ei (deepM S)).2 o (Hp ++ [A0, A1, xo true t []]) (Hp.set o (pr l (argsM l Dv.ei (deepM S)).2) ++ [A0, A1, xo true t (argsM l Dv.ei (deepM S)).1]) ho' (by omega) Tryz.call228 (by simp) (get_up (getset ho)) hq.nest (fun h y hy => ?_) (fun _ own => ?_)).mono fun r H' h => ?_
  ·rw [List.set_append_left _ _ hlt] at h
   rcases List.mem_append.1 hy with hy | hy
   ·rcases List.mem_or_eq_of_mem_set hy with h1 | h1
    ·obtain ⟨i, hi', rfl⟩ := List.getElem_of_mem h1
     by_cases hio : i = o
     ·subst hio
      have : Hp[i] = pr l S := by rw [List.getElem?_eq_getElem hi'] at ho; injection ho
      rw [this]; exact low_pr
     ·refine h _ (List.mem_append_left _ ?_)
      rw [List.mem_iff_getElem?]
      exact ⟨i, by rw [List.getElem?_set_ne (Ne.symm hio), List.getElem?_eq_getElem hi']⟩
    ·rw [h1]; exact low_pr
   ·simp only [List.mem_cons, List.not_mem_nil, or_false] at hy
    rcases hy with rfl | rfl | rfl
    ·exact h _ (List.mem_append_right _ (by simp))
    ·exact h _ (List.mem_append_right _ (by simp))
    ·exact low_xo
  ·have hoid : oid Hp.length 2 ≠ o := by unfold oid; omega
   have e1 : (Hp ++ [A0, A1, xo true t []]).set o (pr l (deepM S)) ++ own = (Hp.set o (pr l (deepM S)) ++ [A0, A1, xo true t []]) ++ own := by rw [List.set_append_left _ _ hlt]
   rw [e1]
   have g1 : ((Hp.set o (pr l (deepM S)) ++ [A0, A1, xo true t []]) ++ own)[o]? = some (pr l (deepM S)) := get_up (get_up (getset ho))
   have g2 : ((Hp.set o (pr l (deepM S)) ++ [A0, A1, xo true t []]) ++ own)[oid Hp.length 2]? = some (xo true t []) := get_up (by
    have := get_oid (U := Hp.set o (pr l (deepM S))) (O := [A0, A1, xo true t []]) (n := 2)
    rw [List.length_set] at this
    exact this)
   refine (c228 l (deepM S) t Dv o (oid Hp.length 2) _ hoid g1 g2 hi hl hll (hd.ei h30).1 (hd.ei h30).2).mono fun r H' h => ⟨h.1, h.2.trans ?_⟩
   rw [List.append_assoc, List.set_append_left _ _ (by simpa using hlt), List.set_set]
   have := set_oid (U := Hp.set o (pr l (argsM l Dv.ei (deepM S)).2)) (O := [A0, A1, xo true t []] ++ own) (n := 2) (x := xo true t (argsM l Dv.ei (deepM S)).1)
   rw [List.length_set] at this
   rw [this]
   simp
  ·have e : kidsM l a Dv.ei S = ((argsM l Dv.ei (deepM S)).1, riseM (argsM l Dv.ei (deepM S)).2) := if_neg (by
    show ¬ (((S.nest : Int) == 30) = true)
    simp
    omega)
   rw [e, if_neg h30]
   obtain ⟨h1, h2⟩ := h.2 h30
   exact ⟨h1, by rw [h2, List.set_append_left _ _ (by simpa using hlt), List.set_set]⟩
theorem c224 (l : List Tok) (S : PS) (Dv : Fam) (t : Tok) (o : Nat) (Hp : List AObj) (ho : Hp[o]? = some (pr l S)) (hi : (nextM S).i < l.length) (hl : TokEnd l) (hll : l.length ≤ 1048576) (hnl : S.nest ≤ 30) (hd : DeepC l Dv S.nest) : ACall Tryz.prog 224 [.ptr o 0, tokA t] Hp (fun r H' => r = exprA (callM l Dv t S).1 ∧ H' = Hp.set o (pr l (callM l Dv t S).2)) := by
 have hi0 : S.i < l.length := by have : S.i + 1 < l.length := hi; omega
 have hol := (List.getElem?_eq_some_iff.1 ho).1
 have hkf : KFact l (nextM S) (callKM l Dv S) := kidsM_fact hl _ hi (fun h => (hd.ei h).1)
 refine ACall.body [.cell 4 26] [0, 1] Tryz.func224 Tryz.ntmps224 (fun d => ?_)
 refine AW.seqR ?_
 refine R.boxRo ?_
 refine R.boxRo ?_
 refine R.alloc Tryz.zeroValue26 ?_
 refine R.fin [2, 3, 4] ?_
 refine AW.seqR ?_
 refine R.fieldAddrRo (off := 1) Tryz.underlying83 Tryz.sizeOf9 ?_
 refine R.loadRo Tryz.isAgg9 ?_
 refine R.call Tryz.call77 (c77 t.text _) ?_
 refine R.assign ?_
 refine R.fin [2, 3, 4, 5] ?_
 refine W.seq ?_
 refine AW.seqR ?_
 refine R.move ?_
 refine R.lss ?_
 refine R.fin [2, 3, 4, 5, 12] ?_
 refine W.cond (fun ht12 => ?_) (fun ht12 => ?_)
 ·skip
  have hlt0 : arityM t.text < 0 := by simpa using ht12
  have e : callM l Dv t S = (nullX, failM 9 t.at_ S) := if_pos hlt0
  refine AW.seqR ?_
  refine R.loadRo Tryz.isAgg106 ?_
  refine R.fieldAddrRo (off := 2) Tryz.underlying83 Tryz.sizeOf3 ?_
  refine R.loadRo Tryz.isAgg3 ?_
  refine R.callUp Tryz.call72 ho (by simp) low_pr (c72 l S 9 t.at_ o _ (get_up ho)) ?_
  refine R.storeOwn Tryz.sizeOf26 ?_
  refine R.fin [4] ?_
  refine AW.ret ?_
  refine K.thR ?_
  exact K.fin (V.one (V.cellN Tryz.isAgg26 Tryz.sizeOf26)) ⟨by rw [e, exprA_eq], by rw [e]⟩ (hlow := low_agg _)
 ·skip
  have hge : ¬ arityM t.text < 0 := by simpa using ht12
  refine AW.skip ?_
  refine K.thN ?_
  refine AW.seqR ?_
  refine R.loadRo Tryz.isAgg106 ?_
  refine R.callUp Tryz.call114 ho (by simp) low_pr (c114 l S o _ (get_up ho) hi0 hll) ?_
  refine R.alloc Tryz.zeroValue83 ?_
  refine R.storeOwn Tryz.sizeOf83 ?_
  refine R.fin [2, 3, 4, 5, 6] ?_
  refine AW.seqR ?_
  refine R.fieldAddrRo (off := 1) Tryz.underlying83 Tryz.sizeOf9 ?_
  refine R.loadRo Tryz.isAgg9 ?_
  refine R.build (places := #[(0, 1), (1, 1), (2, 3), (5, 1)]) Tryz.underlying26 (fun w => by simp) Tryz.zeroValue26 ?_
  refine R.alloc Tryz.zeroValue26 ?_
  refine R.storeOwn Tryz.sizeOf26 ?_
  refine R.fin [2, 3, 4, 5, 6, 7] ?_
  refine AW.seqR ?_
  refine R.nilCell 2 5 6 ?_
  refine R.loadRo Tryz.isAgg106 ?_
  refine R.fieldAddrPtr (fo := 2) Tryz.underlying83 Tryz.sizeOf3 ?_
  refine R.loadOwn Tryz.isAgg3 ?_
  refine R.makeFunc ?_
  refine R.callX (up' := (Hp.set o (pr l (nextM S))).set o (pr l (callKM l Dv S).2)) (own' := [zero69, .cells 83 [intA (tokAt l S.i).kind, strA (tokAt l S.i).text, intA (tokAt l S.i).at_], xo true t.text (callKM l Dv S).1]) Tryz.call134 (by have := c227c l (nextM S) (tokAt l S.i).at_ t.text Dv o (Hp.set o (pr l (nextM S))) zero69 (.cells 83 [intA (tokAt l S.i).kind, strA (tokAt l S.i).text, intA (tokAt l S.i).at_]) low_z69 (getset ho) hi hl hll hnl hd; rw [List.length_set] at this; exact this) (by simp) (fun h => low_set h low_pr) ?_
  refine R.fin [2, 3, 4, 5, 7] ?_
  refine AW.seqR ?_
  refine R.loadRo Tryz.isAgg106 ?_
  refine R.callUp Tryz.call225 (getset (getset ho)) (by simp) low_pr (c225 l (callKM l Dv S).2 closeT o _ (get_up (getset (getset ho))) hkf.lt hll) ?_
  refine R.fin [2, 3, 4, 5, 7] ?_
  refine W.seq ?_
  refine AW.seqR ?_
  refine R.loadRo Tryz.isAgg106 ?_
  refine R.nilPtr ?_
  refine R.fieldAddrPtr (fo := 3) Tryz.underlying108 Tryz.sizeOf53 ?_
  refine R.fieldAddrPtr (fo := 0) Tryz.underlying53 Tryz.sizeOf33 ?_
  refine R.loadUp Tryz.isAgg33 (getset (getset (getset ho))) ?_
  refine R.eql ?_
  refine R.move ?_
  refine G.fieldAddrPtr (fo := 5) Tryz.underlying26 Tryz.sizeOf24 ?_
  refine G.loadOwn Tryz.isAgg24 ?_
  refine G.len Tryz.underlying24 ?_
  refine G.move ?_
  refine G.neq ?_
  refine R.pickAnd ?_
  refine R.fin [2, 3, 4, 7, 41] ?_
  refine W.cond (fun ht41 => ?_) (fun ht41 => ?_)
  ·skip
   have e : callM l Dv t S = (nullX, failM 8 t.at_ (wantM l closeT (callKM l Dv S).2)) := by
    unfold callM
    rw [if_neg hge, if_pos (by have := ht41; simp only [List.length_map] at this; exact this)]
   refine AW.seqR ?_
   refine R.loadRo Tryz.isAgg106 ?_
   refine R.fieldAddrRo (off := 2) Tryz.underlying83 Tryz.sizeOf3 ?_
   refine R.loadRo Tryz.isAgg3 ?_
   refine R.callUp Tryz.call72 (getset (getset (getset ho))) (by simp) low_pr (c72 l (wantM l closeT (callKM l Dv S).2) 8 t.at_ o _ (get_up (getset (getset (getset ho))))) ?_
   refine R.storeOwn Tryz.sizeOf26 ?_
   refine R.fin [4] ?_
   refine AW.ret ?_
   refine K.thR ?_
   exact K.fin (V.one (V.cellN Tryz.isAgg26 Tryz.sizeOf26)) ⟨by rw [e, exprA_eq], by rw [e, List.set_set, List.set_set, List.set_set]⟩ (hlow := low_agg _)
  ·skip
   have e : callM l Dv t S = (.mk 6 t.text noV (callKM l Dv S).1, (wantM l closeT (callKM l Dv S).2)) := by
    unfold callM
    rw [if_neg hge, if_neg (by have := ht41; simp only [List.length_map] at this; rw [Bool.eq_false_iff] at this; exact this)]
   refine AW.skip ?_
   refine K.thN ?_
   refine AW.seqR ?_
   refine R.loadOwnN Tryz.isAgg26 Tryz.sizeOf26 ?_
   refine R.storeOwn Tryz.sizeOf26 ?_
   refine R.fin [4] ?_
   refine AW.ret ?_
   exact K.fin (V.one (V.cellN Tryz.isAgg26 Tryz.sizeOf26)) ⟨by rw [e, mk_agg]; rfl, by rw [e, List.set_set, List.set_set]⟩ (hlow := by have := exprA_low Hp.length (.mk 6 t.text noV (callKM l Dv S).1); rw [mk_agg] at this; simpa using this)

theorem pcall_all {l : List Tok} (hl : TokEnd l) (hll : l.length ≤ 1048576) (n : Nat) (Dv : Fam) (hn : n ≤ 30) (hd : DeepC l Dv n) : PCall l Dv n := fun o Hp S t ho hi hS _ _ => by
 subst hS
 exact c224 l S Dv t o Hp ho hi hl hll hn hd
/-- expr.Parse. -/
theorem c87p (s : Str) (hs : s.length ≤ 1048576) (Hp : List AObj) : AFun Tryz.prog 25 [strA s] Hp (.tup [exprA (parseM s).1, .agg [intA (parseM s).2.1, intA (parseM s).2.2]]) := by
 by_cases h : (lexM s).2.1 = 0
 ·exact c25 s hs (fun n Dv hn hd => pcall_all (lex_end h) (by have := lex_len h; omega) n Dv hn hd) Hp
 ·refine c25 s hs (fun n Dv hn hd => ?_) Hp
  intro o Hp S t ho hi hS ht hop
  have : (lexM s).1 = [] := by
   unfold lexM at h ⊢
   split
   ·rfl
   ·rename_i h4
    rw [if_neg h4] at h
    cases hf : (itemsT s).find? (fun it => it.2 != 0) with
    | some it => rfl
    | none => rw [hf] at h; exact absurd rfl h
  rw [this] at hi
  cases hi
end Go.SX.Nb
namespace Go.SX.Nb
open Go Go.SX Go.Proofs
variable [ErrAt]
set_option maxRecDepth 4000
def longM (l : List Val) : Bool := decide ((50 : Int) < (l.length : Int)) || l.any fun v => decide ((400 : Int) < (v.s.length : Int))
theorem c9 (l : List Val) (Hp : List AObj) : AFun Tryz.prog 9 [valsA l] Hp (boolA (longM l)) := by
  refine ACall.body [.tmp 2] [0] Tryz.func9 Tryz.ntmps9 (fun d => ?_)
  refine AW.seqR ?_
  refine R.assign ?_
  refine R.fin [0] ?_
  refine W.seq ?_
  refine AW.seqR ?_
  refine R.move ?_
  refine R.len Tryz.underlying28 ?_
  refine R.gtr ?_
  refine R.fin [0, 6] ?_
  refine W.cond (fun ht6 => ?_) (fun ht6 => ?_)
  · skip
    rw [List.length_map] at ht6
    have hm : longM l = true := by unfold longM; rw [ht6]; rfl
    refine AW.seqR ?_
    refine R.assign ?_
    refine R.fin [2] ?_
    refine AW.ret ?_
    refine K.thR ?_
    exact K.fin (V.one V.tmp) ⟨by rw [hm], rfl⟩
  · skip
    rw [List.length_map] at ht6
    have hl50 : l.length ≤ 50 := by simp at ht6; omega
    refine AW.skip ?_
    refine K.thN ?_
    refine W.seq ?_
    refine AW.seqR ?_
    refine R.assign ?_
    refine R.fin [0, 3] ?_
    refine AW.loopC (α := Nat) (fun x => ⟨20, setF 0 (valsA l) (setF 3 (intA (x : Nat)) (fun _ => .any)), Hp, [], [], none⟩) (fun x => x ≤ l.length ∧ ∀ (j : Nat) (v : Val), j < x → l[j]? = some v → decide ((400 : Int) < (v.s.length : Int)) = false) (fun x => l.length - x) (0) ⟨Nat.zero_le _, fun j v h => by omega⟩ (StLe.of_eq (by simp)) rfl (fun x hx => ?_)
    refine W.seq ?_
    refine AW.seqR ?_
    refine R.move ?_
    refine R.move ?_
    refine R.len Tryz.underlying28 ?_
    refine R.lss ?_
    refine R.fin [0, 3, 10] ?_
    refine W.cond (fun ht10 => ?_) (fun ht10 => ?_)
    · skip
      have hlt : x < l.length := by simpa using ht10
      refine AW.skip ?_
      refine K.thN ?_
      refine W.seq ?_
      refine AW.block ?_
      refine AW.seqR ?_
      refine R.move ?_
      refine R.move ?_
      refine R.indexAddr (x) (valA l[x]) Tryz.underlying28 Tryz.sizeOf23 (getMap hlt) ?_
      refine R.fieldAddrRo (off := 2) Tryz.underlying23 Tryz.sizeOf9 ?_
      refine R.loadRo Tryz.isAgg9 ?_
      refine R.slen Tryz.underlying9 ?_
      refine R.gtr ?_
      refine R.fin [0, 3, 19] ?_
      refine W.cond (fun ht19 => ?_) (fun ht19 => ?_)
      · skip
        have hm : longM l = true := by unfold longM; rw [Bool.or_eq_true]; exact .inr (List.any_eq_true.2 ⟨l[x], List.getElem_mem hlt, ht19⟩)
        refine AW.seqR ?_
        refine R.assign ?_
        refine R.fin [2] ?_
        refine AW.ret ?_
        refine K.blR ?_
        refine K.thR ?_
        refine K.lpR ?_
        refine K.thR ?_
        exact K.fin (V.one V.tmp) ⟨by rw [hm], rfl⟩
      · skip
        refine AW.skip ?_
        refine K.blN ?_
        refine K.thN ?_
        refine AW.region ?_
        refine R.move ?_
        refine R.add64 (h1 := by omega) (h2 := by omega) ?_
        refine R.assign ?_
        refine R.fin [0, 3] ?_
        refine K.lpN (x + 1) ⟨hlt, upto_succ hlt hx.2 ht19⟩ (by omega) ?_
        exact StCut.of_eq (by simp)
    · skip
      have hxe : l.length ≤ x := by simpa using ht10
      have hm : longM l = false := by
        unfold longM
        rw [ht6, Bool.false_or, List.any_eq_false]
        intro v hv
        obtain ⟨j, hj⟩ := List.getElem?_of_mem hv
        have := hx.2 j v (by have := (List.getElem?_eq_some_iff.1 hj).1; omega) hj
        rw [this]
        simp
      refine AW.exit ?_
      refine K.thE ?_
      refine K.lpE ?_
      refine K.thN ?_
      refine AW.seqR ?_
      refine R.assign ?_
      refine R.fin [2] ?_
      refine AW.ret ?_
      exact K.fin (V.one V.tmp) ⟨by rw [hm], rfl⟩

structure RowAt (c : List Col) (l : List Val) (x : Nat) : Prop where
  le : x ≤ l.length
  ok : ∀ (i : Nat) (v : Val) (y : Col), i < x → l[i]? = some v → c[i]? = some y → plainM v = true ∧ (v.kind = 0 ∨ v.kind = y.kind)
theorem RowAt.next {c : List Col} {l : List Val} {x : Nat} (h : RowAt c l x) (hl : x < l.length) (hc : x < c.length) (hb : ((!(plainM l[x])) || ((l[x].kind != 0) && (l[x].kind != c[x].kind))) = false) : RowAt c l (x + 1) := ⟨hl, fun i v y hi hv hy => by
  rcases Nat.lt_or_ge i x with h' | h'
  · exact h.ok i v y h' hv hy
  · have e : i = x := by omega
    subst e
    rw [List.getElem?_eq_getElem hl] at hv
    rw [List.getElem?_eq_getElem hc] at hy
    injection hv with hv
    injection hy with hy
    subst hv
    subst hy
    simp only [Bool.or_eq_false_iff, Bool.not_eq_false', Bool.and_eq_false_iff, bne_eq_false_iff_eq] at hb
    exact ⟨hb.1, hb.2⟩⟩
theorem RowAt.bad {c : List Col} {l : List Val} {x : Nat} (hl : x < l.length) (hc : x < c.length) (hb : ((!(plainM l[x])) || ((l[x].kind != 0) && (l[x].kind != c[x].kind))) = true) : rowP c l = false := by
  cases h : rowP c l with
  | false => rfl
  | true =>
    obtain ⟨h1, h2⟩ := (row_iff.1 h).2.2 x l[x] c[x] (List.getElem?_eq_getElem hl) (List.getElem?_eq_getElem hc)
    rw [h1] at hb
    simp only [Bool.not_true, Bool.false_or, Bool.and_eq_true, bne_iff_ne] at hb
    omega
theorem c13 (c : List Col) (hc : OkCols c) (l : List Val) (hll : l.length ≤ 1048576) (Hp : List AObj) : AFun Tryz.prog 13 [colsA c, valsA l] Hp (boolA (rowP c l)) := by
  refine ACall.body [.tmp 4] [0, 1] Tryz.func13 Tryz.ntmps13 (fun d => ?_)
  refine AW.seqR ?_
  refine R.assign ?_
  refine R.fin [0, 1] ?_
  refine W.seq ?_
  refine AW.seqR ?_
  refine R.move ?_
  refine R.call Tryz.call33 (c33 c hc _) ?_
  refine R.not ?_
  refine R.move ?_
  refine G.move ?_
  refine G.len Tryz.underlying28 ?_
  refine G.move ?_
  refine G.len Tryz.underlying27 ?_
  refine G.neq ?_
  refine R.pickOr ?_
  refine R.fin [0, 1, 16] ?_
  refine W.cond (fun ht16 => ?_) (fun ht16 => ?_)
  · skip
    have hm : rowP c l = false := by
      simp only [List.length_map, Bool.or_eq_true, Bool.not_eq_true', bne_iff_ne, ne_eq] at ht16
      unfold rowP
      rcases ht16 with h | h
      · rw [h]; rfl
      · rw [show (l.length == c.length) = false by simpa using (show l.length ≠ c.length by omega)]; simp
    refine AW.seqR ?_
    refine R.assign ?_
    refine R.fin [4] ?_
    refine AW.ret ?_
    refine K.thR ?_
    exact K.fin (V.one V.tmp) ⟨by rw [hm], rfl⟩
  · skip
    have hcl : colsP c = true ∧ l.length = c.length := by
      simp only [List.length_map, Bool.or_eq_false_iff, Bool.not_eq_false', bne_eq_false_iff_eq] at ht16
      exact ⟨ht16.1, by omega⟩
    refine AW.skip ?_
    refine K.thN ?_
    refine W.seq ?_
    refine AW.seqR ?_
    refine R.move ?_
    refine R.len Tryz.underlying28 ?_
    refine R.move ?_
    refine R.fin [0, 17, 18, 19] ?_
    refine AW.loopC (α := Nat) (fun x => ⟨43, setF 0 (colsA c) (setF 17 (valsA l) (setF 18 (intA (l.length : Nat)) (setF 19 (intA (x : Nat)) (fun _ => .any)))), Hp, [], [], none⟩) (fun x => RowAt c l x) (fun x => l.length - x) (0) ⟨Nat.zero_le _, fun i v y h => by omega⟩ (StLe.of_eq (by simp)) rfl (fun x hx => ?_)
    refine AW.seqR ?_
    refine R.lss ?_
    refine R.fin [0, 17, 18, 19, 20] ?_
    refine W.condX (fun ht20 => ?_) (fun ht20 => ?_)
    · skip
      have hlt : x < l.length := by simpa using ht20
      have hlc : x < c.length := by omega
      refine W.seq ?_
      refine AW.block ?_
      refine AW.seqR ?_
      refine R.move ?_
      refine R.indexAddr (x) (valA l[x]) Tryz.underlying28 Tryz.sizeOf23 (getMap hlt) ?_
      refine R.loadRoN Tryz.isAgg23 Tryz.sizeOf23 ?_
      refine R.alloc Tryz.zeroValue23 ?_
      refine R.assign ?_
      refine R.storeOwn Tryz.sizeOf23 ?_
      refine R.fin [0, 5, 6, 17, 18, 19] ?_
      refine W.draw [0, 1, 3, 7, 15, 31, 63, 127, 255, 511, 255, 255, 3327, 7423, 15615, 32767, 65535, 131071] 15 Tryzmixed (by kernel_rfl) ?_
      refine D.loadOwnN Tryz.isAgg23 Tryz.sizeOf23 ?_
      refine D.call Tryz.call34 (c34 _ _) ?_
      refine D.not ?_
      refine D.move ?_
      refine H.fieldAddrPtr (fo := 0) Tryz.underlying23 Tryz.sizeOf3 ?_
      refine H.loadOwn Tryz.isAgg3 ?_
      refine H.neq ?_
      refine H.move ?_
      refine H.fieldAddrPtr (fo := 0) Tryz.underlying23 Tryz.sizeOf3 ?_
      refine H.loadOwn Tryz.isAgg3 ?_
      refine H.move ?_
      refine H.move ?_
      refine H.indexAddr (x) (colA c[x]) Tryz.underlying27 Tryz.sizeOf58 (fun _ => getMap hlc) ?_
      refine H.fieldAddrRo (off := 1) Tryz.underlying58 Tryz.sizeOf3 ?_
      refine H.loadRo Tryz.isAgg3 ?_
      refine D.tail ?_
      refine G.neq ?_
      refine G.pickAnd ?_
      refine R.pickOr ?_
      refine R.fin [0, 17, 18, 19, 41] ?_
      refine W.cond (fun ht41 => ?_) (fun ht41 => ?_)
      · skip
        have hm := RowAt.bad hlt hlc ht41
        refine AW.seqR ?_
        refine R.assign ?_
        refine R.fin [4] ?_
        refine AW.ret ?_
        refine K.blR ?_
        refine K.thR ?_
        refine K.lpR ?_
        refine K.thR ?_
        exact K.fin (V.one V.tmp) ⟨by rw [hm], rfl⟩
      · skip
        refine AW.skip ?_
        refine K.blN ?_
        refine K.thN ?_
        refine AW.region ?_
        refine R.add64 ?_
        refine R.move ?_
        refine R.fin [0, 17, 18, 19] ?_
        refine K.lpN (x + 1) (hx.next hlt hlc ht41) (by omega) ?_
        exact StCut.take (own := []) (fun _ => .refl _) (by repeat (first | exact lowF_any | refine lowF_set (by first | exact low_vals | exact low_cols | (simp [or_imp, forall_and]; done)) ?_)) (by simp) (by simp)
    · skip
      have hxe : l.length ≤ x := by simpa using ht20
      have hm : rowP c l = true := row_iff.2 ⟨by rw [← cols_eq]; exact hcl.1, hcl.2, fun i v y hv hy => hx.ok i v y (by have := (List.getElem?_eq_some_iff.1 hv).1; omega) hv hy⟩
      refine K.lpE ?_
      refine K.thN ?_
      refine AW.seqR ?_
      refine R.assign ?_
      refine R.fin [4] ?_
      refine AW.ret ?_
      exact K.fin (V.one V.tmp) ⟨by rw [hm], rfl⟩

theorem node_val {e : Expr} (h : nodeM e = true) : valOk e = true := by
  unfold valOk
  cases node_cases h with
  | val v hp h0 => simpa [valX, Expr.op, Expr.val] using hp
  | name t ht => rfl
  | neg a => rfl
  | no a => rfl
  | bin t a b ht => rfl
  | call t k ht => rfl
mutual
theorem val_all : ∀ e : Expr, allE nodeM e = true → allE valOk e = true
  | .mk o t v k, h => by
    rw [allE, Bool.and_eq_true] at h ⊢
    exact ⟨node_val h.1, val_allL k h.2⟩
theorem val_allL : ∀ k : List Expr, allL nodeM k = true → allL valOk k = true
  | [], _ => rfl
  | e :: r, h => by
    rw [allL, Bool.and_eq_true] at h ⊢
    exact ⟨val_all e h.1, val_allL r h.2⟩
 end
theorem row_fine {c : List Col} {l : List Val} (h : rowP c l = true) (hr : ∀ v ∈ l, -9223372036854775808 ≤ v.n ∧ v.n ≤ 9223372036854775807) : ∀ v ∈ l, Fine v := fun v hv => by
  obtain ⟨i, hi⟩ := List.getElem?_of_mem hv
  obtain ⟨_, h2, h3⟩ := row_iff.1 h
  have hil := (List.getElem?_eq_some_iff.1 hi).1
  exact ⟨(h3 i v _ hi (List.getElem?_eq_getElem (show i < c.length by omega))).1, (hr v hv).1, (hr v hv).2⟩
theorem c10 (n : Nat) (x : Expr) (hok : okE n x) (hn : n ≤ 1048576) (hrg : allE rngN x = true) (c : List Col) (hc : OkCols c) (l : List Val) (hll : l.length ≤ 1048576) (hlr : ∀ v ∈ l, -9223372036854775808 ≤ v.n ∧ v.n ≤ 9223372036854775807) (Hp : List AObj) : AFun Tryz.prog 10 [exprA x, colsA c, valsA l] Hp (resA (evalM x c l)) := by
  refine ACall.body [.cell 6 23, .tmp 7] [0, 1, 2] Tryz.func10 Tryz.ntmps10 (fun d => ?_)
  refine AW.seqR ?_
  refine R.boxRo ?_
  refine R.alloc Tryz.zeroValue23 ?_
  refine R.assign ?_
  refine R.fin [1, 2, 3, 6] ?_
  refine W.seq ?_
  refine AW.seqR ?_
  refine R.loadRoN Tryz.isAgg26 Tryz.sizeOf26 ?_
  refine R.call Tryz.call27 (c27 n x hok hn _) ?_
  refine R.not ?_
  refine R.move ?_
  refine G.move ?_
  refine G.move ?_
  refine G.call Tryz.call13 (fun hB => c13 c hc l hll _) ?_
  refine G.not ?_
  refine R.pickOr ?_
  refine R.fin [1, 2, 3, 6, 16] ?_
  refine W.cond (fun ht16 => ?_) (fun ht16 => ?_)
  · skip
    have hm : evalM x c l = wrongR 1 := if_pos ht16
    refine AW.seqR ?_
    refine R.call Tryz.call28 (c28 _ _) ?_
    refine R.extract ?_
    refine R.extract ?_
    refine R.storeOwn Tryz.sizeOf23 ?_
    refine R.assign ?_
    refine R.fin [6, 7] ?_
    refine AW.ret ?_
    refine K.thR ?_
    exact K.fin (V.two (V.cellN Tryz.isAgg23 Tryz.sizeOf23) V.tmp) ⟨by rw [hm]; try rfl, rfl⟩
  · skip
    have hm : evalM x c l = evalE c l x := if_neg (by rw [ht16]; simp)
    have hrr : exprRightM x = true ∧ rowP c l = true := by simpa using ht16
    obtain ⟨hr, hrow⟩ := hrr
    refine AW.skip ?_
    refine K.thN ?_
    refine AW.seqR ?_
    refine R.move ?_
    refine R.move ?_
    refine R.build (places := #[(0, 1), (1, 1)]) Tryz.underlying61 (fun w => by simp) Tryz.zeroValue61 ?_
    refine R.loadRoN Tryz.isAgg26 Tryz.sizeOf26 ?_
    refine R.call Tryz.call29 (c29 c l hc (row_iff.1 hrow).2.1 (row_fine hrow hlr) n x hok (rightE_node hr) hrg (val_all x (rightE_node hr)) _) ?_
    refine R.extract ?_
    refine R.extract ?_
    refine R.storeOwn Tryz.sizeOf23 ?_
    refine R.assign ?_
    refine R.fin [6, 7] ?_
    refine AW.ret ?_
    exact K.fin (V.two (V.cellN Tryz.isAgg23 Tryz.sizeOf23) V.tmp) ⟨by rw [hm]; try rfl, rfl⟩

def wS1 : Str := [105, 102, 40, 116, 114, 117, 101, 44, 32, 49, 44, 32, 49, 32, 47, 32, 48, 41]
def wS2 : Str := [110, 118, 108, 40, 49, 32, 47, 32, 48, 44, 32, 49, 41]
def wD : Expr := binX [47] (valX ⟨1, 1, []⟩) (valX ⟨1, 0, []⟩)
def wX1 : Expr := .mk 6 ifW noV [valX ⟨3, 1, []⟩, valX ⟨1, 1, []⟩, wD]
def wX2 : Expr := .mk 6 nvlW noV [wD, valX ⟨1, 1, []⟩]
theorem ACall.argLe {P : Program} {g : FuncId} {args args' : List AV} {H : List AObj} {post : AV → List AObj → Prop} (h : ACall P g args' H post) (hl : args.length = args'.length) (hle : ∀ (i : Nat) (y y' : AV), args[i]? = some y → args'[i]? = some y' → Le y y') : ACall P g args H post :=
  fun d G w vs h1 h2 h3 h4 => h d G w vs (by rw [h1, hl]) (fun i y' u hy' hu => by
    have hlt : i < args.length := by rw [hl]; exact (List.getElem?_eq_some_iff.1 hy').1
    exact (h2 i args[i] u (List.getElem?_eq_getElem hlt) hu).le (hle i args[i] y' (List.getElem?_eq_getElem hlt) hy')) h3 h4
theorem long_len {l : List Val} (h : longM l = false) : l.length ≤ 1048576 := by
  unfold longM at h
  simp only [Bool.or_eq_false_iff, decide_eq_false_iff_not] at h
  omega
end Go.SX.Nb
namespace Go.SX.Nb
open Go Go.SX Go.Proofs
variable [ErrAt]
set_option maxRecDepth 8000
/-! Trees that are trimmed. -/
/-- The kid that is all there is to a node, by its first one. -/
def chosenM (o : Int) (t : Str) (ks : List Expr) : Option Expr :=
  if ((o == 6) && (t == ifW)) && ((ks.getD 0 nullX).val == boolV true) then some (ks.getD 1 nullX)
  else if ((o == 6) && (t == ifW)) && (((ks.getD 0 nullX).val == boolV false) || ((ks.getD 0 nullX).val == noV)) then some (ks.getD 2 nullX)
  else if ((o == 6) && (t == nvlW)) && ((ks.getD 0 nullX).val == noV) then some (ks.getD 1 nullX)
  else if (o == 6) && (t == nvlW) then some (ks.getD 0 nullX)
  else if (o == 5) && (((t == orW) && ((ks.getD 0 nullX).val == boolV true)) || ((t == andW) && ((ks.getD 0 nullX).val == boolV false))) then some (ks.getD 0 nullX)
  else none
/-- A node of values. -/
def reckM (y : Expr) : Option Expr :=
  if y.kids.any (fun k => !(k.op == 1)) then none
  else if ((evalM y [] []).2 != 0) || (((evalM y [] []).1.kind == 1) && decide ((evalM y [] []).1.n < 0)) then none else some (valX (evalM y [] []).1)
def trimN (o : Int) (t : Str) (ks : List Expr) : Expr :=
  match (if (ks.getD 0 nullX).op == 1 then chosenM o t ks else none) with
  | some z => z
  | none => match reckM (.mk o t noV ks) with
    | some z => z
    | none => .mk o t noV ks
mutual
def trimE : Expr → Expr
  | .mk o t v k => if (k.length : Int) == 0 then .mk o t v k else trimN o t (trimL k)
def trimL : List Expr → List Expr
  | [] => []
  | e :: r => trimE e :: trimL r
 end
theorem trimL_map : ∀ k, trimL k = k.map trimE
  | [] => rfl
  | e :: r => by rw [trimL, trimL_map r]; rfl
theorem trimE_eq (e : Expr) : trimE e = if (e.kids.length : Int) == 0 then e else trimN e.op e.text (e.kids.map trimE) := by
  cases e with
  | mk o t v k => rw [trimE, trimL_map]; rfl
/-- What a trimmed tree keeps. -/
structure TrimOk (c : List Col) (l : List Val) (x y : Expr) : Prop where
  ev : evalE c l y = evalE c l x
  node : allE nodeM y = true
  rng : allE rngN y = true
  size : sizeE y ≤ sizeE x
  depth : depthE y ≤ depthE x
theorem TrimOk.of {c : List Col} {l : List Val} {x y z : Expr} (h : TrimOk c l x y) (he : evalE c l z = evalE c l y) (hn : allE nodeM z = true) (hr : allE rngN z = true) (hs : sizeE z ≤ sizeE y) (hd : depthE z ≤ depthE y) : TrimOk c l x z :=
  ⟨he.trans h.ev, hn, hr, Nat.le_trans hs h.size, Nat.le_trans hd h.depth⟩
theorem kind0_no {v : Val} (hp : plainM v = true) (h : v.kind = 0) : v = noV := by
  obtain ⟨k, n, s⟩ := v
  simp only at h
  subst h
  simp [plainM] at hp
  rw [hp.1, hp.2]; rfl
theorem depth_in : ∀ {l : List Expr} {y : Expr}, y ∈ l → depthE y ≤ depthL l
  | a :: r, y, h => by
    rw [depthL]
    rcases List.mem_cons.1 h with rfl | h
    · omega
    · have := depth_in h
      omega
theorem size_in {l : List Expr} {y : Expr} (h : y ∈ l) : sizeE y ≤ sizeL l := by
  obtain ⟨i, hi⟩ := List.getElem?_of_mem h
  obtain ⟨hlt, rfl⟩ := List.getElem?_eq_some_iff.1 hi
  exact sizeL_get l hlt
theorem getD_in {k : List Expr} {i : Nat} (h : i < k.length) : k.getD i nullX ∈ k := by
  rw [List.getD_eq_getElem?_getD, List.getElem?_eq_getElem h]
  exact List.getElem_mem h
theorem map_getD {f : Expr → Rs} {k : List Expr} {i : Nat} {d : Rs} (h : i < k.length) : (k.map f).getD i d = f (k.getD i nullX) := by
  rw [List.getD_eq_getElem?_getD, List.getD_eq_getElem?_getD, List.getElem?_map, List.getElem?_eq_getElem h]
  rfl
theorem eval_const {c : List Col} {l : List Val} {k : Expr} (h : (k.op == 1) = true) : evalE c l k = (k.val, 0) := by
  rw [evalE, evalS_eq]
  unfold evalN
  rw [if_pos h]
theorem node_lit {v : Val} (h : plainM v = true) (h0 : 0 ≤ v.n) : nodeM (valX v) = true := by rw [node_one, valX, nodeOne_mk]; simp [h, h0]
theorem node_plain {k : Expr} (h : nodeM k = true) (h1 : (k.op == 1) = true) : plainM k.val = true := by
  have := node_val h
  unfold valOk at this
  rw [h1] at this
  simpa using this
/-- A node whose kids are trimmed. -/
theorem trim_node {c : List Col} {l : List Val} (hl : ∀ v ∈ l, Fine v) {o : Int} {t : Str} {k : List Expr} (hn : allE nodeM (.mk o t noV k) = true) (hr : allE rngN (.mk o t noV k) = true) (hk : k ≠ []) : TrimOk c l (.mk o t noV k) (trimN o t k) := by
  have hself : TrimOk c l (.mk o t noV k) (.mk o t noV k) := ⟨rfl, hn, hr, Nat.le_refl _, Nat.le_refl _⟩
  have hn0 := hn
  rw [allE, Bool.and_eq_true] at hn0
  have hr0 := hr
  rw [allE, Bool.and_eq_true] at hr0
  obtain ⟨q5, q34, q6, qall⟩ := kids_len hn0.1
  have hkl : 0 < k.length := List.length_pos_iff.2 hk
  have hkid : ∀ i, i < k.length → TrimOk c l (k.getD i nullX) (k.getD i nullX) ∧ sizeE (k.getD i nullX) ≤ sizeE (.mk o t noV k) ∧ depthE (k.getD i nullX) ≤ depthE (.mk o t noV k) := fun i hi => by
    have hm := getD_in hi
    refine ⟨⟨rfl, (allL_iff _ _).1 hn0.2 _ hm, (allL_iff _ _).1 hr0.2 _ hm, Nat.le_refl _, Nat.le_refl _⟩, ?_, ?_⟩
    · rw [sizeE]; have := size_in hm; omega
    · rw [depthE]; have := depth_in hm; omega
  -- a kid that comes to the same is as good
  have hpick : ∀ i, i < k.length → evalE c l (.mk o t noV k) = evalE c l (k.getD i nullX) → TrimOk c l (.mk o t noV k) (k.getD i nullX) := fun i hi he => by
    obtain ⟨h1, h2, h3⟩ := hkid i hi
    exact ⟨he.symm, h1.node, h1.rng, h2, h3⟩
  have hev : evalE c l (.mk o t noV k) = evalN strictM c l o t noV (k.map (evalE c l)) := by rw [evalE, evalS_eq]; rfl
  have hreck : TrimOk c l (.mk o t noV k) (match reckM (.mk o t noV k) with | some z => z | none => .mk o t noV k) := by
    unfold reckM
    split
    · rename_i z hz
      split at hz
      · cases hz
      · rename_i hc
        split at hz
        · cases hz
        · rename_i h2
          injection hz with hz
          subst hz
          have hconst : ∀ y ∈ k, (y.op == 1) = true := fun y hy => by
            cases h : y.op == 1 with
            | true => rfl
            | false => exact absurd (List.any_eq_true.2 ⟨y, hy, by rw [h]; rfl⟩) hc
          simp only [Bool.or_eq_true, Bool.and_eq_true, decide_eq_true_eq, not_or, bne_iff_ne, ne_eq, Decidable.not_not] at h2
          obtain ⟨he0, hneg⟩ := h2
          have hright : exprRightM (.mk o t noV k) = true := by
            cases h : exprRightM (.mk o t noV k) with
            | true => rfl
            | false => unfold evalM evalR at he0; rw [h] at he0; cases he0
          have hrow : rowP [] [] = true := by kernel_rfl
          have hm : evalM (.mk o t noV k) [] [] = evalE [] [] (.mk o t noV k) := eval_of hright hrow
          have hfine : Fine (evalM (.mk o t noV k) [] []).1 := by
            rw [hm]
            exact fine_eval (fun v hv => by cases hv) _ (val_all _ hn) hr
          have ho2 : (o == 2) = false := by
            have hnn := hn0.1
            rw [node_one, nodeOne_mk] at hnn
            cases h : o == 2 with
            | false => rfl
            | true =>
              have : o = 2 := by simpa using h
              subst this
              simp at hnn
              exact absurd hnn.2.2 (by intro e; exact hk e)
          have hsame : evalE c l (.mk o t noV k) = evalE [] [] (.mk o t noV k) := by
            have e1 : k.map (evalE c l) = k.map (evalE [] []) := List.map_congr_left fun y hy => by rw [eval_const (hconst y hy), eval_const (hconst y hy)]
            rw [hev, e1, evalE, evalS_eq]
            show evalN strictM c l o t noV _ = evalN strictM [] [] o t noV _
            unfold evalN
            rw [ho2]
            rfl
          have hp := hfine.plain
          refine ⟨?_, ?_, ?_, ?_, ?_⟩
          · rw [hsame, ← hm, eval_const (k := valX _) rfl]
            show ((evalM (.mk o t noV k) [] []).1, (0 : Int)) = _
            rw [← he0]
          · rw [allE_eq, Bool.and_eq_true]
            refine ⟨?_, rfl⟩
            refine node_lit hp ?_
            by_cases hk1 : (evalM (.mk o t noV k) [] []).1.kind = 1
            · have : ¬ (evalM (.mk o t noV k) [] []).1.n < 0 := fun h => hneg ⟨by simpa using hk1, h⟩
              omega
            · generalize (evalM (.mk o t noV k) [] []).1 = v at hp hk1
              unfold plainM at hp
              split at hp
              · simp at hp; omega
              · split at hp
                · rename_i h; exact absurd (by simpa using h) hk1
                · split at hp
                  · simp at hp; omega
                  · simp at hp; omega
          · rw [allE_eq, Bool.and_eq_true]
            refine ⟨?_, rfl⟩
            show rngN (valX _) = true
            unfold rngN
            simp only [Bool.and_eq_true, decide_eq_true_eq]
            exact ⟨hfine.lo, hfine.hi⟩
          · rw [sizeE]; show 1 ≤ _; omega
          · rw [depthE]; show 1 ≤ _; omega
    · exact hself
  unfold trimN
  split
  · rename_i z hz
    split at hz
    · rename_i h1
      have hc0 := eval_const (c := c) (l := l) h1
      have hp := node_plain (by have := (hkid 0 hkl).1.node; rw [allE_eq, Bool.and_eq_true] at this; exact this.1) h1
      have hg0 : (k.map (evalE c l)).getD 0 (noV, 0) = ((k.getD 0 nullX).val, 0) := by rw [map_getD hkl, hc0]
      have tr : ∀ {v : Val}, (v = boolV true ∨ v = boolV false ∨ v = noV) → truthR (v, 0) = (v, 0) := fun {v} h => by
        rcases h with rfl | rfl | rfl <;> rfl
      unfold chosenM at hz
      split at hz
      · rename_i h
        injection hz with hz
        subst hz
        simp only [Bool.and_eq_true, beq_iff_eq] at h
        obtain ⟨⟨rfl, rfl⟩, hv⟩ := h
        have h3 : k.length = 3 := by
          rcases call_names (q6 rfl) with ⟨e, _⟩ | ⟨e, _⟩ | ⟨e, _⟩ | ⟨e, _⟩ | ⟨e, _⟩ | ⟨e, _⟩ | ⟨e, _⟩ | ⟨_, e⟩
          all_goals first | exact e | exact absurd (show ifW = _ from e) (by decide)
        refine hpick 1 (by omega) ?_
        rw [hev]
        show callR ifW _ _ _ = _
        rw [hg0, hv, map_getD (show 1 < k.length by omega)]
        rfl
      · split at hz
        · rename_i h
          injection hz with hz
          subst hz
          simp only [Bool.and_eq_true, Bool.or_eq_true, beq_iff_eq] at h
          obtain ⟨⟨rfl, rfl⟩, hv⟩ := h
          have h3 : k.length = 3 := by
            rcases call_names (q6 rfl) with ⟨e, _⟩ | ⟨e, _⟩ | ⟨e, _⟩ | ⟨e, _⟩ | ⟨e, _⟩ | ⟨e, _⟩ | ⟨e, _⟩ | ⟨_, e⟩
            all_goals first | exact e | exact absurd (show ifW = _ from e) (by decide)
          refine hpick 2 (by omega) ?_
          rw [hev]
          show callR ifW _ _ _ = _
          rw [hg0, map_getD (show 2 < k.length by omega)]
          rcases hv with hv | hv <;> rw [hv] <;> rfl
        · split at hz
          · rename_i h
            injection hz with hz
            subst hz
            simp only [Bool.and_eq_true, beq_iff_eq] at h
            obtain ⟨⟨rfl, rfl⟩, hv⟩ := h
            have h3 : k.length = 2 := by
              rcases call_names (q6 rfl) with ⟨e, _⟩ | ⟨e, _⟩ | ⟨e, _⟩ | ⟨e, _⟩ | ⟨_, e⟩ | ⟨e, _⟩ | ⟨e, _⟩ | ⟨e, _⟩
              all_goals first | exact e | exact absurd (show nvlW = _ from e) (by decide)
            refine hpick 1 (by omega) ?_
            rw [hev]
            show callR nvlW ((k.map (evalE c l)).getD 0 (noV, 0)) ((k.map (evalE c l)).getD 1 (noV, 0)) ((k.map (evalE c l)).getD 2 (noV, 0)) = _
            rw [hg0, hv, map_getD (show 1 < k.length by omega)]
            rfl
          · rename_i hnull
            split at hz
            · rename_i h
              injection hz with hz
              subst hz
              have h' := h
              simp only [Bool.and_eq_true, beq_iff_eq] at h
              obtain ⟨rfl, rfl⟩ := h
              have hv : ¬ (k.getD 0 nullX).val.kind = 0 := fun e => hnull (by rw [kind0_no hp e]; rfl)
              refine hpick 0 hkl ?_
              rw [hev]
              show callR nvlW ((k.map (evalE c l)).getD 0 (noV, 0)) ((k.map (evalE c l)).getD 1 (noV, 0)) ((k.map (evalE c l)).getD 2 (noV, 0)) = _
              rw [hg0, hc0]
              unfold callR
              simp only [show (nvlW == ifW) = false from rfl, show (nvlW == isnullW) = false from rfl, Bool.false_eq_true, if_false]
              rw [if_neg (by simp), if_pos (by simpa using hv)]
            · split at hz
              · rename_i h
                injection hz with hz
                subst hz
                simp only [Bool.and_eq_true, Bool.or_eq_true, beq_iff_eq] at h
                obtain ⟨rfl, h⟩ := h
                refine hpick 0 hkl ?_
                rcases h with ⟨rfl, hv⟩ | ⟨rfl, hv⟩
                · rw [hev]
                  show logicR (boolV true) _ _ = _
                  rw [hg0, hc0, hv]
                  rfl
                · rw [hev]
                  show logicR (boolV false) _ _ = _
                  rw [hg0, hc0, hv]
                  rfl
              · cases hz
    · cases hz
  · exact hreck
theorem trim_ok {c : List Col} {l : List Val} (hl : ∀ v ∈ l, Fine v) : ∀ (n : Nat) (x : Expr), sizeE x ≤ n → allE nodeM x = true → allE rngN x = true → TrimOk c l x (trimE x)
  | 0, x, h, _, _ => by rw [sizeE_eq] at h; omega
  | n + 1, x, h, hn, hr => by
    rw [trimE_eq]
    split
    · exact ⟨rfl, hn, hr, Nat.le_refl _, Nat.le_refl _⟩
    · rename_i h0
      have hk0 : x.kids ≠ [] := fun e => h0 (by rw [e]; rfl)
      have hn0 := hn
      rw [allE_eq, Bool.and_eq_true] at hn0
      have hr0 := hr
      rw [allE_eq, Bool.and_eq_true] at hr0
      have ih : ∀ y ∈ x.kids, TrimOk c l y (trimE y) := fun y hy => by
        obtain ⟨i, hi⟩ := List.getElem?_of_mem hy
        obtain ⟨hlt, rfl⟩ := List.getElem?_eq_some_iff.1 hi
        exact trim_ok hl n _ (by have := size_kid x hlt; omega) ((allL_iff _ _).1 hn0.2 _ hy) ((allL_iff _ _).1 hr0.2 _ hy)
      obtain ⟨o, t, v, k⟩ := x
      simp only [Expr.op, Expr.text, Expr.kids] at *
      -- it has kids, so its own value is none
      have hv : v = noV := by
        have hnn := hn0.1
        rw [node_one, nodeOne_mk] at hnn
        split at hnn
        · rename_i h1
          simp only [Bool.and_eq_true, beq_iff_eq] at hnn
          exact absurd (List.eq_nil_of_length_eq_zero (by have := hnn.2; omega)) hk0
        · split at hnn
          · cases hnn
          · rename_i hb; exact bare_no (by simpa using hb)
      subst hv
      have hmem : ∀ y ∈ k.map trimE, ∃ z ∈ k, y = trimE z := fun y hy => by
        obtain ⟨z, hz, rfl⟩ := List.mem_map.1 hy
        exact ⟨z, hz, rfl⟩
      have hn1 : allE nodeM (.mk o t noV (k.map trimE)) = true := by
        rw [allE, Bool.and_eq_true]
        refine ⟨?_, (allL_iff _ _).2 fun y hy => ?_⟩
        · have hnn := hn0.1
          rw [node_one, nodeOne_mk] at hnn ⊢
          rw [List.length_map]
          exact hnn
        · obtain ⟨z, hz, rfl⟩ := hmem y hy
          exact (ih z hz).node
      have hr1 : allE rngN (.mk o t noV (k.map trimE)) = true := by
        rw [allE, Bool.and_eq_true]
        refine ⟨hr0.1, (allL_iff _ _).2 fun y hy => ?_⟩
        obtain ⟨z, hz, rfl⟩ := hmem y hy
        exact (ih z hz).rng
      have hT : TrimOk c l (.mk o t noV k) (.mk o t noV (k.map trimE)) := by
        refine ⟨?_, hn1, hr1, ?_, ?_⟩
        · rw [evalE, evalE, evalS_eq, evalS_eq]
          show evalN strictM c l o t noV ((k.map trimE).map (evalE c l)) = evalN strictM c l o t noV (k.map (evalE c l))
          have e2 : k.map (evalE c l ∘ trimE) = k.map (evalE c l) := List.map_congr_left fun y hy => (ih y hy).ev
          rw [List.map_map, e2]
        · rw [sizeE, sizeE]
          have : ∀ r : List Expr, (∀ y ∈ r, y ∈ k) → sizeL (r.map trimE) ≤ sizeL r := fun r => by
            induction r with
            | nil => intro _; exact Nat.le_refl _
            | cons y r ihr =>
              intro hs
              rw [List.map_cons, sizeL, sizeL]
              have h1 := (ih y (hs y List.mem_cons_self)).size
              have h2 := ihr fun z hz => hs z (List.mem_cons_of_mem _ hz)
              omega
          have := this k fun _ h => h
          omega
        · rw [depthE, depthE]
          have : ∀ r : List Expr, (∀ y ∈ r, y ∈ k) → depthL (r.map trimE) ≤ depthL r := fun r => by
            induction r with
            | nil => intro _; exact Nat.le_refl _
            | cons y r ihr =>
              intro hs
              rw [List.map_cons, depthL, depthL]
              have h1 := (ih y (hs y List.mem_cons_self)).depth
              have h2 := ihr fun z hz => hs z (List.mem_cons_of_mem _ hz)
              omega
          have := this k fun _ h => h
          omega
      have h2 := trim_node (c := c) hl hn1 hr1 (by simpa using hk0)
      exact hT.of h2.ev h2.node h2.rng h2.size h2.depth
/-- It comes to the same. -/
theorem trim_keeps {x : Expr} (hr : refRightM x = true) (hg : allE rngN x = true) (c : List Col) (l : List Val) (hl : ∀ v ∈ l, -9223372036854775808 ≤ v.n ∧ v.n ≤ 9223372036854775807) : refRightM (trimE x) = true ∧ allE rngN (trimE x) = true ∧ evalM (trimE x) c l = evalM x c l := by
  have hr' := hr
  unfold refRightM at hr'
  simp only [Bool.and_eq_true, decide_eq_true_eq] at hr'
  have h0 := trim_ok (c := []) (l := []) (fun v hv => by cases hv) _ x (Nat.le_refl _) hr'.2 hg
  have hr2 : refRightM (trimE x) = true := by
    unfold refRightM
    simp only [Bool.and_eq_true, decide_eq_true_eq]
    exact ⟨⟨Nat.le_trans h0.depth hr'.1.1, Nat.le_trans h0.size hr'.1.2⟩, h0.node⟩
  refine ⟨hr2, h0.rng, ?_⟩
  cases hrow : rowP c l with
  | false => unfold evalM evalR; rw [hrow]; simp
  | true =>
    rw [eval_of (by rw [exprRight_eq]; exact hr2) hrow, eval_of (by rw [exprRight_eq]; exact hr) hrow]
    exact (trim_ok (row_fine hrow hl) _ x (Nat.le_refl _) hr'.2 hg).ev
end Go.SX.Nb
namespace Go.SX.Nb
open Go Go.SX Go.Proofs
variable [ErrAt]
set_option maxRecDepth 4000
theorem node_lenT {e : Expr} (h : nodeM e = true) : e.text.length ≤ 1048576 ∧ e.kids.length ≤ 1048576 := by
 cases node_cases h with
 | val v hp h0 => exact ⟨by simp [valX, Expr.text], by simp [valX, Expr.kids]⟩
 | name t ht =>
  refine ⟨?_, by simp [nameE, Expr.kids]⟩
  show t.length ≤ 1048576
  cases t with
  | nil => simp
  | cons c r =>
   simp only [nameM, Bool.and_eq_true, decide_eq_true_eq] at ht
   have := ht.1.1.1
   omega
 | neg a => exact ⟨by simp [oneX, Expr.text], by simp [oneX, Expr.kids]⟩
 | no a => exact ⟨by simp [oneX, Expr.text], by simp [oneX, Expr.kids]⟩
 | bin t a b ht =>
  refine ⟨?_, by simp [binX, Expr.kids]⟩
  show t.length ≤ 1048576
  rcases level_cases t with hm | ⟨hm, _⟩
  ·have h3 : (levels.flatten.all fun s => decide (s.length ≤ 3)) = true := by kernel_rfl
   have := of_decide_eq_true (List.all_eq_true.1 h3 t hm)
   omega
  ·omega
 | call t k ha =>
  rcases call_names ha with ⟨e1, e⟩ | ⟨e1, e⟩ | ⟨e1, e⟩ | ⟨e1, e⟩ | ⟨e1, e⟩ | ⟨e1, e⟩ | ⟨e1, e⟩ | ⟨e1, e⟩ <;> subst e1 <;> exact ⟨by simp [Expr.text, isnullW, nvlW, ifW], by show k.length ≤ _; omega⟩
theorem depth_memT : ∀ {l : List Expr} {y : Expr}, y ∈ l → depthE y ≤ depthL l := depth_in
theorem node_okT : ∀ (n : Nat) (e : Expr), depthE e ≤ n → allE nodeM e = true → okE n e
 | 0, e, h, _ => by rw [depthE_eq] at h; omega
 | n + 1, e, h, hn => by
  rw [allE_eq, Bool.and_eq_true] at hn
  rw [depthE_eq] at h
  have hs := node_lenT hn.1
  exact ⟨hs.1, hs.2, fun y hy => node_okT n y (by have := depth_memT hy; omega) ((allL_iff _ _).1 hn.2 y hy)⟩
theorem getE_at {ks : List Expr} {i : Nat} (h : i < ks.length) : (ks.map exprA)[i]? = some (exprA (ks.getD i nullX)) := by
 rw [List.getElem?_map, List.getElem?_eq_getElem h, List.getD_eq_getElem?_getD, List.getElem?_eq_getElem h]
 rfl
/-! trim: what is no value. -/
def noC (k : Expr) : Bool := !(k.op == 1)
def cidxM (ks : List Expr) : Int := if ks.any noC then (ks.findIdx noC : Nat) else -1
theorem cidx_at {ks : List Expr} {x : Nat} (h : x < ks.length) (hx : noC ks[x] = true) (hp : ∀ (j : Nat) (y : Expr), j < x → ks[j]? = some y → ¬ noC y = true) : cidxM ks = (x : Int) := by
 unfold cidxM
 rw [if_pos (List.any_eq_true.2 ⟨_, List.getElem_mem h, hx⟩)]
 congr 1
 rw [List.findIdx_eq h]
 exact ⟨hx, fun j hj => by have := hp j ks[j] hj (List.getElem?_eq_getElem (by omega)); simpa using this⟩
theorem cidx_none {ks : List Expr} (hp : ∀ (j : Nat) (y : Expr), ks[j]? = some y → ¬ noC y = true) : cidxM ks = -1 := by
 unfold cidxM
 rw [if_neg]
 intro h
 obtain ⟨y, hy, hn⟩ := List.any_eq_true.1 h
 obtain ⟨j, hj⟩ := List.getElem?_of_mem hy
 exact hp j y hj hn
theorem cidx_any (ks : List Expr) : decide (0 ≤ cidxM ks) = ks.any noC := by
 unfold cidxM
 cases ks.any noC <;> simp
theorem val_is (v : Val) (k n : Int) (s : Str) : (v.kind == k && v.n == n && v.s == s) = (v == ⟨k, n, s⟩) := by
 obtain ⟨a, b, c⟩ := v
 rw [Bool.eq_iff_iff]
 simp [Val.mk.injEq, and_assoc]
theorem okE_kids {n : Nat} {x : Expr} (h : okE n x) : x.kids.length ≤ 1048576 := by
 cases n with
 | zero => exact h.elim
 | succ n => exact h.2.1
theorem c46 (x : Expr) (Hp : List AObj) : AFun Tryz.prog 46 [exprA x] Hp (boolA (x.op == 1)) := by
 refine ACall.body [.tmp 2] [0] Tryz.func46 Tryz.ntmps46 (fun d => ?_)
 refine AW.seqR ?_
 refine R.boxRo ?_
 refine R.assign ?_
 refine R.fin [1] ?_
 refine AW.seqR ?_
 refine R.fieldAddrRo (off := 0) Tryz.underlying26 Tryz.sizeOf3 ?_
 refine R.loadRo Tryz.isAgg3 ?_
 refine R.eql ?_
 refine R.assign ?_
 refine R.fin [2] ?_
 refine AW.ret ?_
 exact K.fin (V.one V.tmp)

theorem c91 (v : Val) (Hp : List AObj) : AFun Tryz.prog 91 [valA v] Hp (exprA (valX v)) := by
 refine ACall.body [.cell 2 26] [0] Tryz.func91 Tryz.ntmps91 (fun d => ?_)
 refine AW.seqR ?_
 refine R.boxRo ?_
 refine R.alloc Tryz.zeroValue26 ?_
 refine R.fin [1, 2] ?_
 refine AW.seqR ?_
 refine R.loadRoN Tryz.isAgg23 Tryz.sizeOf23 ?_
 refine R.build (places := #[(0, 1), (1, 1), (2, 3), (5, 1)]) Tryz.underlying26 (fun w => by simp) Tryz.zeroValue26 ?_
 refine R.wk 4 _ (leafX_le 1 [] v) ?_
 refine R.storeOwn Tryz.sizeOf26 ?_
 refine R.fin [2] ?_
 refine AW.ret ?_
 exact K.fin (V.one (V.cellN Tryz.isAgg26 Tryz.sizeOf26)) ⟨rfl, rfl⟩ (hlow := exprA_low _ (valX v))

theorem c90 (k : Expr) (Hp : List AObj) : AFun Tryz.prog 90 [exprA k] Hp (boolA (noC k)) := by
 refine ACall.body [.tmp 2] [0] Tryz.func90 Tryz.ntmps90 (fun d => ?_)
 refine AW.seqR ?_
 refine R.boxRo ?_
 refine R.assign ?_
 refine R.fin [1] ?_
 refine AW.seqR ?_
 refine R.loadRoN Tryz.isAgg26 Tryz.sizeOf26 ?_
 refine R.call Tryz.call46 (c46 k _) ?_
 refine R.not ?_
 refine R.assign ?_
 refine R.fin [2] ?_
 refine AW.ret ?_
 exact K.fin (V.one V.tmp)

theorem c108 (ks : List Expr) (hkl : ks.length ≤ 1048576) (Hp : List AObj) : AFun Tryz.prog 108 [.slice false 6 (ks.map exprA), .fn (.func 90) [] []] Hp (intA (cidxM ks)) := by
 refine ACall.body [.tmp 4] [0, 1] Tryz.func108 Tryz.ntmps108 (fun d => ?_)
 refine AW.seqR ?_
 refine R.assign ?_
 refine R.fin [0, 1] ?_
 refine W.seq ?_
 refine AW.seqR ?_
 refine R.move ?_
 refine R.len Tryz.underlying24 ?_
 refine R.move ?_
 refine R.fin [0, 1, 7, 8] ?_
 refine AW.loopC (α := Nat) (fun x => ⟨19, setF 0 (.slice false 6 (ks.map exprA)) (setF 1 (.fn (.func 90) [] []) (setF 7 (intA ks.length) (setF 8 (intA (x : Nat)) (fun _ => .any)))), Hp, [], [], none⟩) (fun x => x ≤ ks.length ∧ ∀ (j : Nat) (y : Expr), j < x → ks[j]? = some y → ¬ noC y = true) (fun x => ks.length - x) (0) (by simp) (StLe.of_eq (by simp)) rfl (fun x hx => ?_)
 refine AW.seqR ?_
 refine R.lss ?_
 refine R.fin [0, 1, 7, 8, 9] ?_
 refine W.condX (fun ht9 => ?_) (fun ht9 => ?_)
 ·skip
  have hlt : x < ks.length := by simpa using ht9
  refine W.seq ?_
  refine AW.block ?_
  refine AW.seqR ?_
  refine R.move ?_
  refine R.assign ?_
  refine R.fin [0, 1, 5, 7, 8] ?_
  refine AW.seqR ?_
  refine R.move ?_
  refine R.move ?_
  refine R.move ?_
  refine R.indexAddr (x) (exprA ks[x]) Tryz.underlying24 Tryz.sizeOf26 (getMap hlt) ?_
  refine R.loadRoN Tryz.isAgg26 Tryz.sizeOf26 ?_
  refine R.callV Tryz.call90 (c90 ks[x] _) ?_
  refine R.fin [0, 1, 5, 7, 8, 16] ?_
  refine W.cond (fun ht16 => ?_) (fun ht16 => ?_)
  ·skip
   refine AW.seqR ?_
   refine R.move ?_
   refine R.assign ?_
   refine R.fin [4] ?_
   refine AW.ret ?_
   refine K.blR ?_
   refine K.thR ?_
   refine K.lpR ?_
   refine K.thR ?_
   exact K.fin (V.one V.tmp) ⟨by rw [cidx_at hlt ht16 hx.2], rfl⟩
  ·skip
   refine AW.skip ?_
   refine K.blN ?_
   refine K.thN ?_
   refine AW.region ?_
   refine R.add64 ?_
   refine R.move ?_
   refine R.fin [0, 1, 7, 8] ?_
   exact K.lpN (x + 1) ⟨hlt, upto_succ hlt hx.2 (by rw [ht16]; simp)⟩ (by omega) (StCut.of_eq rfl)
 ·skip
  refine K.lpE ?_
  refine K.thN ?_
  refine AW.seqR ?_
  refine R.assign ?_
  refine R.fin [4] ?_
  refine AW.ret ?_
  exact K.fin (V.one V.tmp) ⟨by rw [cidx_none (upto_all (by simp at ht9; omega) hx.2)], rfl⟩

theorem c89 (ks : List Expr) (hkl : ks.length ≤ 1048576) (Hp : List AObj) : AFun Tryz.prog 89 [.slice false 6 (ks.map exprA), .fn (.func 90) [] []] Hp (boolA (ks.any noC)) := by
 refine ACall.body [.tmp 4] [0, 1] Tryz.func89 Tryz.ntmps89 (fun d => ?_)
 refine AW.seqR ?_
 refine R.assign ?_
 refine R.fin [0, 1] ?_
 refine AW.seqR ?_
 refine R.move ?_
 refine R.move ?_
 refine R.call Tryz.call108 (c108 ks hkl _) ?_
 refine R.geq ?_
 refine R.assign ?_
 refine R.fin [4] ?_
 refine AW.ret ?_
 exact K.fin (V.one V.tmp) ⟨by rw [← cidx_any]; try rfl, rfl⟩

theorem ev_nil {n : Nat} {x : Expr} (hok : okE n x) (hn : n ≤ 1048576) (hrg : allE rngN x = true) (Hp : List AObj) : AFun Tryz.prog 10 [exprA x, .nil, .nil] Hp (resA (evalM x [] [])) := by
 have := c10 n x hok hn hrg [] ⟨by decide, by decide⟩ [] (by decide) (fun v hv => by cases hv) Hp
 refine ACall.argLe this rfl fun i y y' h1 h2 => ?_
 match i with
 | 0 => simp at h1 h2; subst h1; subst h2; exact .refl _
 | 1 => simp at h1 h2; subst h1; subst h2; exact .nil false 2
 | 2 => simp at h1 h2; subst h1; subst h2; exact .nil false 3
 | i + 3 => simp at h1
def optA (o : Option Expr) : AV := .tup [exprA (o.getD nullX), boolA o.isSome]
theorem reck_1 {x : Expr} (h : x.kids.any noC = true) : reckM x = none := if_pos h
theorem reck_2 {x : Expr} (h : x.kids.any noC = false) (h2 : (((evalM x [] []).2 != 0) || (((evalM x [] []).1.kind == 1) && decide ((evalM x [] []).1.n < 0))) = true) : reckM x = none := by
 unfold reckM
 rw [if_neg (fun e => by rw [show (x.kids.any fun k => !(k.op == 1)) = x.kids.any noC from rfl, h] at e; cases e), if_pos h2]
theorem reck_3 {x : Expr} (h : x.kids.any noC = false) (h2 : (((evalM x [] []).2 != 0) || (((evalM x [] []).1.kind == 1) && decide ((evalM x [] []).1.n < 0))) = false) : reckM x = some (valX (evalM x [] []).1) := by
 unfold reckM
 rw [if_neg (fun e => by rw [show (x.kids.any fun k => !(k.op == 1)) = x.kids.any noC from rfl, h] at e; cases e), if_neg (by rw [h2]; simp)]
theorem c68 (n : Nat) (x : Expr) (hok : okE n x) (hn : n ≤ 1048576) (hrg : allE rngN x = true) (Hp : List AObj) : AFun Tryz.prog 68 [exprA x] Hp (optA (reckM x)) := by
 have hkl := (okE_kids hok)
 refine ACall.body [.cell 2 26, .tmp 3] [0] Tryz.func68 Tryz.ntmps68 (fun d => ?_)
 refine AW.seqR ?_
 refine R.boxRo ?_
 refine R.alloc Tryz.zeroValue26 ?_
 refine R.assign ?_
 refine R.fin [1, 2] ?_
 refine W.seq ?_
 refine AW.seqR ?_
 refine R.fieldAddrRo (off := 5) Tryz.underlying26 Tryz.sizeOf24 ?_
 refine R.loadRo Tryz.isAgg24 ?_
 refine R.call Tryz.call89 (c89 x.kids hkl _) ?_
 refine R.fin [1, 2, 8] ?_
 refine W.cond (fun ht8 => ?_) (fun ht8 => ?_)
 ·skip
  refine AW.seqR ?_
  refine R.build (places := #[(0, 1), (1, 1), (2, 3), (5, 1)]) Tryz.underlying26 (fun w => by simp) Tryz.zeroValue26 ?_
  refine R.wk 9 _ nullX_le ?_
  refine R.storeOwn Tryz.sizeOf26 ?_
  refine R.assign ?_
  refine R.fin [2, 3] ?_
  refine AW.ret ?_
  refine K.thR ?_
  exact K.fin (V.two (V.cellN Tryz.isAgg26 Tryz.sizeOf26) V.tmp) ⟨by rw [reck_1 ht8]; simp only [optA, Option.getD_some, Option.getD_none, exprA_eq]; try rfl, rfl⟩ (hlow := by simp [exprA_low])
 ·skip
  refine AW.skip ?_
  refine K.thN ?_
  refine AW.seqR ?_
  refine R.loadRoN Tryz.isAgg26 Tryz.sizeOf26 ?_
  refine R.call Tryz.call10 (ev_nil hok hn hrg _) ?_
  refine R.move ?_
  refine R.extract ?_
  refine R.extract ?_
  refine R.alloc Tryz.zeroValue23 ?_
  refine R.storeOwn Tryz.sizeOf23 ?_
  refine R.assign ?_
  refine R.fin [2, 4, 5] ?_
  refine W.seq ?_
  refine AW.seqR ?_
  refine R.move ?_
  refine R.neq ?_
  refine R.move ?_
  refine G.fieldAddrPtr (fo := 0) Tryz.underlying23 Tryz.sizeOf3 ?_
  refine G.loadOwn Tryz.isAgg3 ?_
  refine G.eql ?_
  refine G.move ?_
  refine G.fieldAddrPtr (fo := 1) Tryz.underlying23 Tryz.sizeOf2 ?_
  refine G.loadOwn Tryz.isAgg2 ?_
  refine G.lss ?_
  refine G.pickAnd ?_
  refine R.pickOr ?_
  refine R.fin [2, 4, 26] ?_
  refine W.cond (fun ht26 => ?_) (fun ht26 => ?_)
  ·skip
   refine AW.seqR ?_
   refine R.build (places := #[(0, 1), (1, 1), (2, 3), (5, 1)]) Tryz.underlying26 (fun w => by simp) Tryz.zeroValue26 ?_
   refine R.wk 27 _ nullX_le ?_
   refine R.storeOwn Tryz.sizeOf26 ?_
   refine R.assign ?_
   refine R.fin [2, 3] ?_
   refine AW.ret ?_
   refine K.thR ?_
   exact K.fin (V.two (V.cellN Tryz.isAgg26 Tryz.sizeOf26) V.tmp) ⟨by rw [reck_2 ht8 ht26]; simp only [optA, Option.getD_some, Option.getD_none, exprA_eq]; try rfl, rfl⟩ (hlow := by simp [exprA_low])
  ·skip
   refine AW.skip ?_
   refine K.thN ?_
   refine AW.seqR ?_
   refine R.loadOwnN Tryz.isAgg23 Tryz.sizeOf23 ?_
   refine R.call Tryz.call91 (c91 (evalM x [] []).1 _) ?_
   refine R.storeOwn Tryz.sizeOf26 ?_
   refine R.assign ?_
   refine R.fin [2, 3] ?_
   refine AW.ret ?_
   exact K.fin (V.two (V.cellN Tryz.isAgg26 Tryz.sizeOf26) V.tmp) ⟨by rw [reck_3 ht8 ht26]; simp only [optA, Option.getD_some, Option.getD_none, exprA_eq]; try rfl, rfl⟩ (hlow := by simp [exprA_low])

section
variable {o : Int} {t : Str} {ks : List Expr}
theorem ch_1 (h : ((((o == 6) && (t == ifW)) && ((ks.getD 0 nullX).val == boolV true))) = true) : chosenM o t ks = some (ks.getD 1 nullX) := if_pos h
theorem ch_2 (h1 : ((((o == 6) && (t == ifW)) && ((ks.getD 0 nullX).val == boolV true))) = false) (h : (((o == 6) && (t == ifW)) && (((ks.getD 0 nullX).val == boolV false) || ((ks.getD 0 nullX).val == noV))) = true) : chosenM o t ks = some (ks.getD 2 nullX) := by
 unfold chosenM
 rw [if_neg (by rw [h1]; simp), if_pos h]
theorem ch_3 (h1 : ((((o == 6) && (t == ifW)) && ((ks.getD 0 nullX).val == boolV true))) = false) (h2 : (((o == 6) && (t == ifW)) && (((ks.getD 0 nullX).val == boolV false) || ((ks.getD 0 nullX).val == noV))) = false) (h : (((o == 6) && (t == nvlW)) && ((ks.getD 0 nullX).val == noV)) = true) : chosenM o t ks = some (ks.getD 1 nullX) := by
 unfold chosenM
 rw [if_neg (by rw [h1]; simp), if_neg (by rw [h2]; simp), if_pos h]
theorem ch_4 (h1 : ((((o == 6) && (t == ifW)) && ((ks.getD 0 nullX).val == boolV true))) = false) (h2 : (((o == 6) && (t == ifW)) && (((ks.getD 0 nullX).val == boolV false) || ((ks.getD 0 nullX).val == noV))) = false) (h3 : (((o == 6) && (t == nvlW)) && ((ks.getD 0 nullX).val == noV)) = false) (h : ((o == 6) && (t == nvlW)) = true) : chosenM o t ks = some (ks.getD 0 nullX) := by
 unfold chosenM
 rw [if_neg (by rw [h1]; simp), if_neg (by rw [h2]; simp), if_neg (by rw [h3]; simp), if_pos h]
theorem ch_5 (h1 : ((((o == 6) && (t == ifW)) && ((ks.getD 0 nullX).val == boolV true))) = false) (h2 : (((o == 6) && (t == ifW)) && (((ks.getD 0 nullX).val == boolV false) || ((ks.getD 0 nullX).val == noV))) = false) (h3 : (((o == 6) && (t == nvlW)) && ((ks.getD 0 nullX).val == noV)) = false) (h4 : ((o == 6) && (t == nvlW)) = false) (h : ((o == 5) && (((t == orW) && ((ks.getD 0 nullX).val == boolV true)) || ((t == andW) && ((ks.getD 0 nullX).val == boolV false)))) = true) : chosenM o t ks = some (ks.getD 0 nullX) := by
 unfold chosenM
 rw [if_neg (by rw [h1]; simp), if_neg (by rw [h2]; simp), if_neg (by rw [h3]; simp), if_neg (by rw [h4]; simp), if_pos h]
theorem ch_6 (h1 : ((((o == 6) && (t == ifW)) && ((ks.getD 0 nullX).val == boolV true))) = false) (h2 : (((o == 6) && (t == ifW)) && (((ks.getD 0 nullX).val == boolV false) || ((ks.getD 0 nullX).val == noV))) = false) (h3 : (((o == 6) && (t == nvlW)) && ((ks.getD 0 nullX).val == noV)) = false) (h4 : ((o == 6) && (t == nvlW)) = false) (h : ((o == 5) && (((t == orW) && ((ks.getD 0 nullX).val == boolV true)) || ((t == andW) && ((ks.getD 0 nullX).val == boolV false)))) = false) : chosenM o t ks = none := by
 unfold chosenM
 rw [if_neg (by rw [h1]; simp), if_neg (by rw [h2]; simp), if_neg (by rw [h3]; simp), if_neg (by rw [h4]; simp), if_neg (by rw [h]; simp)]
end
theorem and3_len {a b c : Bool} (h : ((a && b) && c) = true) : (a && b) = true := by cases a <;> cases b <;> simp_all
theorem c67 (x : Expr) (h0 : 0 < x.kids.length) (h3 : ((x.op == 6) && (x.text == ifW)) = true → x.kids.length = 3) (h2 : ((x.op == 6) && (x.text == nvlW)) = true → x.kids.length = 2) (Hp : List AObj) : AFun Tryz.prog 67 [exprA x] Hp (optA (chosenM x.op x.text x.kids)) := by
 refine ACall.body [.cell 2 26, .tmp 3] [0] Tryz.func67 Tryz.ntmps67 (fun d => ?_)
 refine AW.seqR ?_
 refine R.boxRo ?_
 refine R.alloc Tryz.zeroValue26 ?_
 refine R.assign ?_
 refine R.fin [1, 2] ?_
 refine AW.seqR ?_
 refine R.fieldAddrRo (off := 5) Tryz.underlying26 Tryz.sizeOf24 ?_
 refine R.loadRo Tryz.isAgg24 ?_
 refine R.indexAddr (0) (exprA (x.kids.getD 0 nullX)) Tryz.underlying24 Tryz.sizeOf26 (getE_at h0) ?_
 refine R.fieldAddrRo (off := 2) Tryz.underlying26 Tryz.sizeOf23 ?_
 refine R.loadRoN Tryz.isAgg23 Tryz.sizeOf23 ?_
 refine R.alloc Tryz.zeroValue23 ?_
 refine R.storeOwn Tryz.sizeOf23 ?_
 refine R.fin [1, 2, 4] ?_
 refine W.draw [0, 0, 3, 7] 2 Tryzmixed (by kernel_rfl) ?_
 refine D.loadOwnN Tryz.isAgg23 Tryz.sizeOf23 ?_
 refine D.call Tryz.call30 (c30 true _) ?_
 refine D.tail ?_
 refine R.eqlAgg eg23 (fun w => equal23 (x.kids.getD 0 nullX).val.kind (x.kids.getD 0 nullX).val.n 3 1 (x.kids.getD 0 nullX).val.s [] w) ?_
 refine R.assign ?_
 refine R.fin [1, 2, 4, 5] ?_
 refine W.draw [0, 0, 3, 7] 2 Tryzmixed (by kernel_rfl) ?_
 refine D.loadOwnN Tryz.isAgg23 Tryz.sizeOf23 ?_
 refine D.call Tryz.call30 (c30 false _) ?_
 refine D.tail ?_
 refine R.eqlAgg eg23 (fun w => equal23 (x.kids.getD 0 nullX).val.kind (x.kids.getD 0 nullX).val.n 3 0 (x.kids.getD 0 nullX).val.s [] w) ?_
 refine R.assign ?_
 refine R.fin [1, 2, 4, 5, 6] ?_
 refine W.draw [0, 0, 3, 7] 2 Tryzmixed (by kernel_rfl) ?_
 refine D.loadOwnN Tryz.isAgg23 Tryz.sizeOf23 ?_
 refine D.call Tryz.call52 (c52 _) ?_
 refine D.tail ?_
 refine R.eqlAgg eg23 (fun w => equal23 (x.kids.getD 0 nullX).val.kind (x.kids.getD 0 nullX).val.n 0 0 (x.kids.getD 0 nullX).val.s [] w) ?_
 refine R.assign ?_
 refine R.fin [1, 2, 5, 6, 7] ?_
 refine W.seq ?_
 refine AW.block ?_
 refine AW.seqR ?_
 rw [val_is, val_is, val_is]
 refine R.fieldAddrRo (off := 0) Tryz.underlying26 Tryz.sizeOf3 ?_
 refine R.loadRo Tryz.isAgg3 ?_
 refine R.eql ?_
 refine R.move ?_
 refine G.fieldAddrRo (off := 1) Tryz.underlying26 Tryz.sizeOf9 ?_
 refine G.loadRo Tryz.isAgg9 ?_
 refine G.seql ?_
 refine R.pickAnd ?_
 refine R.move ?_
 refine G.move ?_
 refine R.pickAnd ?_
 refine R.assign ?_
 refine R.fin [1, 2, 5, 6, 7, 22] ?_
 refine W.cond (fun ht22 => ?_) (fun ht22 => ?_)
 ·skip
  have hq1 : (((x.op == 6) && (x.text == ifW)) && ((x.kids.getD 0 nullX).val == boolV true)) = true := ht22
  refine AW.seqR ?_
  refine R.fieldAddrRo (off := 5) Tryz.underlying26 Tryz.sizeOf24 ?_
  refine R.loadRo Tryz.isAgg24 ?_
  refine R.indexAddr (1) (exprA (x.kids.getD 1 nullX)) Tryz.underlying24 Tryz.sizeOf26 (getE_at (by have := h3 (and3_len hq1); omega)) ?_
  refine R.loadRoN Tryz.isAgg26 Tryz.sizeOf26 ?_
  refine R.storeOwn Tryz.sizeOf26 ?_
  refine R.assign ?_
  refine R.fin [2, 3] ?_
  refine AW.ret ?_
  refine K.blR ?_
  refine K.thR ?_
  exact K.fin (V.two (V.cellN Tryz.isAgg26 Tryz.sizeOf26) V.tmp) ⟨by rw [ch_1 hq1]; simp only [optA, Option.getD_some, exprA_eq]; try rfl, rfl⟩ (hlow := by simp [exprA_low])
 ·skip
  have hn1 : (((x.op == 6) && (x.text == ifW)) && ((x.kids.getD 0 nullX).val == boolV true)) = false := ht22
  refine AW.seqR ?_
  refine R.fieldAddrRo (off := 0) Tryz.underlying26 Tryz.sizeOf3 ?_
  refine R.loadRo Tryz.isAgg3 ?_
  refine R.eql ?_
  refine R.move ?_
  refine G.fieldAddrRo (off := 1) Tryz.underlying26 Tryz.sizeOf9 ?_
  refine G.loadRo Tryz.isAgg9 ?_
  refine G.seql ?_
  refine R.pickAnd ?_
  refine R.move ?_
  refine G.move ?_
  refine G.move ?_
  refine G.move ?_
  refine G.pickOr ?_
  refine R.pickAnd ?_
  refine R.assign ?_
  refine R.fin [1, 2, 5, 6, 7, 38] ?_
  refine W.cond (fun ht38 => ?_) (fun ht38 => ?_)
  ·skip
   have hq2 : (((x.op == 6) && (x.text == ifW)) && (((x.kids.getD 0 nullX).val == boolV false) || ((x.kids.getD 0 nullX).val == noV))) = true := ht38
   refine AW.seqR ?_
   refine R.fieldAddrRo (off := 5) Tryz.underlying26 Tryz.sizeOf24 ?_
   refine R.loadRo Tryz.isAgg24 ?_
   refine R.indexAddr (2) (exprA (x.kids.getD 2 nullX)) Tryz.underlying24 Tryz.sizeOf26 (getE_at (by have := h3 (and3_len hq2); omega)) ?_
   refine R.loadRoN Tryz.isAgg26 Tryz.sizeOf26 ?_
   refine R.storeOwn Tryz.sizeOf26 ?_
   refine R.assign ?_
   refine R.fin [2, 3] ?_
   refine AW.ret ?_
   refine K.blR ?_
   refine K.thR ?_
   exact K.fin (V.two (V.cellN Tryz.isAgg26 Tryz.sizeOf26) V.tmp) ⟨by rw [ch_2 hn1 hq2]; simp only [optA, Option.getD_some, exprA_eq]; try rfl, rfl⟩ (hlow := by simp [exprA_low])
  ·skip
   have hn2 : (((x.op == 6) && (x.text == ifW)) && (((x.kids.getD 0 nullX).val == boolV false) || ((x.kids.getD 0 nullX).val == noV))) = false := ht38
   refine AW.seqR ?_
   refine R.fieldAddrRo (off := 0) Tryz.underlying26 Tryz.sizeOf3 ?_
   refine R.loadRo Tryz.isAgg3 ?_
   refine R.eql ?_
   refine R.move ?_
   refine G.fieldAddrRo (off := 1) Tryz.underlying26 Tryz.sizeOf9 ?_
   refine G.loadRo Tryz.isAgg9 ?_
   refine G.seql ?_
   refine R.pickAnd ?_
   refine R.move ?_
   refine G.move ?_
   refine R.pickAnd ?_
   refine R.assign ?_
   refine R.fin [1, 2, 5, 6, 57] ?_
   refine W.cond (fun ht57 => ?_) (fun ht57 => ?_)
   ·skip
    have hq3 : (((x.op == 6) && (x.text == nvlW)) && ((x.kids.getD 0 nullX).val == noV)) = true := ht57
    refine AW.seqR ?_
    refine R.fieldAddrRo (off := 5) Tryz.underlying26 Tryz.sizeOf24 ?_
    refine R.loadRo Tryz.isAgg24 ?_
    refine R.indexAddr (1) (exprA (x.kids.getD 1 nullX)) Tryz.underlying24 Tryz.sizeOf26 (getE_at (by have := h2 (and3_len hq3); omega)) ?_
    refine R.loadRoN Tryz.isAgg26 Tryz.sizeOf26 ?_
    refine R.storeOwn Tryz.sizeOf26 ?_
    refine R.assign ?_
    refine R.fin [2, 3] ?_
    refine AW.ret ?_
    refine K.blR ?_
    refine K.thR ?_
    exact K.fin (V.two (V.cellN Tryz.isAgg26 Tryz.sizeOf26) V.tmp) ⟨by rw [ch_3 hn1 hn2 hq3]; simp only [optA, Option.getD_some, exprA_eq]; try rfl, rfl⟩ (hlow := by simp [exprA_low])
   ·skip
    have hn3 : (((x.op == 6) && (x.text == nvlW)) && ((x.kids.getD 0 nullX).val == noV)) = false := ht57
    refine AW.seqR ?_
    refine R.fieldAddrRo (off := 0) Tryz.underlying26 Tryz.sizeOf3 ?_
    refine R.loadRo Tryz.isAgg3 ?_
    refine R.eql ?_
    refine R.move ?_
    refine G.fieldAddrRo (off := 1) Tryz.underlying26 Tryz.sizeOf9 ?_
    refine G.loadRo Tryz.isAgg9 ?_
    refine G.seql ?_
    refine R.pickAnd ?_
    refine R.assign ?_
    refine R.fin [1, 2, 5, 6, 73] ?_
    refine W.cond (fun ht73 => ?_) (fun ht73 => ?_)
    ·skip
     refine AW.seqR ?_
     refine R.fieldAddrRo (off := 5) Tryz.underlying26 Tryz.sizeOf24 ?_
     refine R.loadRo Tryz.isAgg24 ?_
     refine R.indexAddr (0) (exprA (x.kids.getD 0 nullX)) Tryz.underlying24 Tryz.sizeOf26 (getE_at h0) ?_
     refine R.loadRoN Tryz.isAgg26 Tryz.sizeOf26 ?_
     refine R.storeOwn Tryz.sizeOf26 ?_
     refine R.assign ?_
     refine R.fin [2, 3] ?_
     refine AW.ret ?_
     refine K.blR ?_
     refine K.thR ?_
     exact K.fin (V.two (V.cellN Tryz.isAgg26 Tryz.sizeOf26) V.tmp) ⟨by rw [ch_4 hn1 hn2 hn3 ht73]; simp only [optA, Option.getD_some, exprA_eq]; try rfl, rfl⟩ (hlow := by simp [exprA_low])
    ·skip
     refine AW.seqR ?_
     refine R.fieldAddrRo (off := 0) Tryz.underlying26 Tryz.sizeOf3 ?_
     refine R.loadRo Tryz.isAgg3 ?_
     refine R.eql ?_
     refine R.move ?_
     refine G.fieldAddrRo (off := 1) Tryz.underlying26 Tryz.sizeOf9 ?_
     refine G.loadRo Tryz.isAgg9 ?_
     refine G.seql ?_
     refine G.move ?_
     refine G.move ?_
     refine G.pickAnd ?_
     refine G.move ?_
     refine G.fieldAddrRo (off := 1) Tryz.underlying26 Tryz.sizeOf9 ?_
     refine G.loadRo Tryz.isAgg9 ?_
     refine G.seql ?_
     refine G.move ?_
     refine G.move ?_
     refine G.pickAnd ?_
     refine G.pickOr ?_
     refine R.pickAnd ?_
     refine R.assign ?_
     refine R.fin [1, 2, 86] ?_
     refine W.cond (fun ht86 => ?_) (fun ht86 => ?_)
     ·skip
      refine AW.seqR ?_
      refine R.fieldAddrRo (off := 5) Tryz.underlying26 Tryz.sizeOf24 ?_
      refine R.loadRo Tryz.isAgg24 ?_
      refine R.indexAddr (0) (exprA (x.kids.getD 0 nullX)) Tryz.underlying24 Tryz.sizeOf26 (getE_at h0) ?_
      refine R.loadRoN Tryz.isAgg26 Tryz.sizeOf26 ?_
      refine R.storeOwn Tryz.sizeOf26 ?_
      refine R.assign ?_
      refine R.fin [2, 3] ?_
      refine AW.ret ?_
      refine K.blR ?_
      refine K.thR ?_
      exact K.fin (V.two (V.cellN Tryz.isAgg26 Tryz.sizeOf26) V.tmp) ⟨by rw [ch_5 hn1 hn2 hn3 ht73 ht86]; simp only [optA, Option.getD_some, exprA_eq]; try rfl, rfl⟩ (hlow := by simp [exprA_low])
     ·skip
      refine AW.skip ?_
      refine K.blN ?_
      refine K.thN ?_
      refine AW.seqR ?_
      refine R.build (places := #[(0, 1), (1, 1), (2, 3), (5, 1)]) Tryz.underlying26 (fun w => by simp) Tryz.zeroValue26 ?_
      refine R.wk 110 _ nullX_le ?_
      refine R.storeOwn Tryz.sizeOf26 ?_
      refine R.assign ?_
      refine R.fin [2, 3] ?_
      refine AW.ret ?_
      exact K.fin (V.two (V.cellN Tryz.isAgg26 Tryz.sizeOf26) V.tmp) ⟨by rw [ch_6 hn1 hn2 hn3 ht73 ht86]; simp only [optA, Option.getD_some, Option.getD_none, exprA_eq]; try rfl, rfl⟩ (hlow := by simp [exprA_low])

end Go.SX.Nb
namespace Go.SX.Nb
open Go Go.SX Go.Proofs
variable [ErrAt]
set_option maxRecDepth 4000
/-- Who takes what kids yield: item k at U k, never an end. -/
structure Takes1 (P : Program) (l : Nat) (L : List Expr) (U : Nat → List AObj) (n0 : Nat) : Prop where
 lenU : ∀ k, (U k).length = n0
 lowU : ∀ k, ∀ x ∈ U k, ObjLow n0 x
 lt : l < n0
 y : ∀ (X : List AObj) (k : Nat) (z : Expr), L[k]? = some z → AYield P l [exprA z] (U k ++ X) (fun b H' => b = true ∧ H' = U (k + 1) ++ X)
abbrev yo (own : Bool) (o : Int) (t : Str) (ks : List Expr) : AObj := .cells 26 [intA o, strA t, intA 0, intA 0, strA [], .slice own 6 (ks.map exprA)]
theorem low_yo {n : Nat} {own : Bool} {o : Int} {t : Str} {ks : List Expr} : ObjLow n (yo own o t ks) := by
 show ∀ z ∈ [intA o, strA t, intA 0, intA 0, strA [], AV.slice own 6 (ks.map exprA)], Low n z
 intro z hz
 simp only [List.mem_cons, List.not_mem_nil, or_false] at hz
 rcases hz with rfl | rfl | rfl | rfl | rfl | rfl
 all_goals first | exact low_exprs | simp
theorem snocE (ks : List Expr) (x : Expr) : ks.map exprA ++ [.agg [.v (.int .i64 x.op), .v (sv x.text), .v (.int .i64 x.val.kind), .v (.int .i64 x.val.n), .v (sv x.val.s), .slice false 6 (x.kids.map exprA)]] = (ks ++ [x]).map exprA := by rw [List.map_append, List.map_cons, List.map_nil, exprA_eq x]
theorem c66 (x : Expr) (Hp : List AObj) : AFun Tryz.prog 66 [exprA x] Hp (.fn (.func 88) [] [.ro (exprC x)]) := by
 refine ACall.body [.tmp 2] [0] Tryz.func66 Tryz.ntmps66 (fun d => ?_)
 refine AW.seqR ?_
 refine R.boxRo ?_
 refine R.assign ?_
 refine R.fin [1] ?_
 refine AW.seqR ?_
 refine R.makeFunc ?_
 refine R.assign ?_
 refine R.fin [2] ?_
 refine AW.ret ?_
 exact K.fin (V.one V.tmp) (hlow := by have := exprA_low Hp.length x; rw [exprA_eq] at this; simpa using this)

theorem c88 {l : Nat} {x : Expr} {U : Nat → List AObj} {n0 : Nat} (T : Takes1 Tryz.prog l (x.kids.map trimE) U n0) (hkl : x.kids.length ≤ 1048576) (ih : ∀ y ∈ x.kids, ∀ Hp : List AObj, AFun Tryz.prog 45 [exprA y] Hp (exprA (trimE y))) : ACall Tryz.prog 88 [.yield l, .ro (exprC x)] (U 0) (fun r H' => H' = U x.kids.length) := by
 refine ACall.body [] [0, 1] Tryz.func88 Tryz.ntmps88 (fun d => ?_)
 refine AW.seqR ?_
 refine R.fieldAddrRo (off := 5) Tryz.underlying26 Tryz.sizeOf24 ?_
 refine R.loadRo Tryz.isAgg24 ?_
 refine R.len Tryz.underlying24 ?_
 refine R.move ?_
 refine R.fin [0, 6, 7, 8] ?_
 refine AW.loopC (α := Nat) (fun k => ⟨18, setF 0 (.yield l) (setF 6 (.slice false 6 (x.kids.map exprA)) (setF 7 (intA x.kids.length) (setF 8 (intA (k : Nat)) (fun _ => .any)))), U k, [], [], none⟩) (fun k => k ≤ x.kids.length) (fun k => x.kids.length - k) (0) (Nat.zero_le _) (StLe.of_eq (by simp)) rfl (fun k hx => ?_)
 refine AW.seqR ?_
 refine R.lss ?_
 refine R.fin [0, 6, 7, 8, 9] ?_
 refine W.condX (fun ht9 => ?_) (fun ht9 => ?_)
 ·skip
  have hlt : k < x.kids.length := by simpa using ht9
  refine W.seq ?_
  refine AW.block ?_
  refine AW.seqR ?_
  refine R.indexAddr (k) (exprA x.kids[k]) Tryz.underlying24 Tryz.sizeOf26 (getMap hlt) ?_
  refine R.loadRoN Tryz.isAgg26 Tryz.sizeOf26 ?_
  refine R.alloc Tryz.zeroValue26 ?_
  refine R.storeOwn Tryz.sizeOf26 ?_
  refine R.fin [0, 4, 6, 7, 8] ?_
  refine AW.seqR ?_
  refine R.move ?_
  refine R.loadOwnN Tryz.isAgg26 Tryz.sizeOf26 ?_
  refine R.call Tryz.call45 (ih x.kids[k] (List.getElem_mem hlt) _) ?_
  refine R.yield (T.y _ k (trimE x.kids[k]) (by rw [List.getElem?_map, List.getElem?_eq_getElem hlt]; rfl)) ?_
  intro b Vv O hV hb
  obtain ⟨rfl, hH⟩ := hb
  obtain ⟨rfl, rfl⟩ := List.append_inj hH (by rw [hV, T.lenU, T.lenU])
  refine ⟨fun _ => by rw [T.lenU]; exact T.lowU _, fun o ho => by simp at ho, ?_⟩
  refine R.not ?_
  refine R.fin [0, 6, 7, 8, 16] ?_
  refine W.cond (fun ht16 => ?_) (fun ht16 => ?_)
  ·skip
   cases ht16
  ·skip
   refine AW.skip ?_
   refine K.blN ?_
   refine K.thN ?_
   refine AW.region ?_
   refine R.add64 ?_
   refine R.move ?_
   refine R.fin [0, 6, 7, 8] ?_
   refine K.lpN (k + 1) hlt (by omega) ?_
   exact StCut.take (own := []) (fun _ => .refl _) (by repeat (first | exact lowF_any | refine lowF_set (by first | exact low_exprs | (simp; done) | (have := T.lt; simp [T.lenU]; omega)) ?_)) (by simp) (by simp)
 ·skip
  have hke : k = x.kids.length := by simp at ht9; omega
  refine K.lpE ?_
  exact K.finN .nores (hp := by rw [hke])

theorem trimE_0 {x : Expr} (h : ((x.kids.length : Int) == 0) = true) : trimE x = x := by rw [trimE_eq, if_pos h]
theorem trimE_1 {x : Expr} (h : ((x.kids.length : Int) == 0) = false) : trimE x = trimN x.op x.text (x.kids.map trimE) := by rw [trimE_eq, if_neg (by rw [h]; simp)]
section
variable {o : Int} {t : Str} {ks : List Expr}
theorem tN_1 {z : Expr} (h : ((ks.getD 0 nullX).op == 1) = true) (hc : chosenM o t ks = some z) : trimN o t ks = z := by unfold trimN; rw [if_pos h, hc]
theorem tN_2 {z : Expr} (h : ((ks.getD 0 nullX).op == 1) = true) (hc : chosenM o t ks = none) (hr : reckM (.mk o t noV ks) = some z) : trimN o t ks = z := by unfold trimN; rw [if_pos h, hc]; simp only; rw [hr]
theorem tN_3 (h : ((ks.getD 0 nullX).op == 1) = true) (hc : chosenM o t ks = none) (hr : reckM (.mk o t noV ks) = none) : trimN o t ks = .mk o t noV ks := by unfold trimN; rw [if_pos h, hc]; simp only; rw [hr]
theorem tN_4 {z : Expr} (h : ((ks.getD 0 nullX).op == 1) = false) (hr : reckM (.mk o t noV ks) = some z) : trimN o t ks = z := by unfold trimN; rw [if_neg (by rw [h]; simp)]; simp only; rw [hr]
theorem tN_5 (h : ((ks.getD 0 nullX).op == 1) = false) (hr : reckM (.mk o t noV ks) = none) : trimN o t ks = .mk o t noV ks := by unfold trimN; rw [if_neg (by rw [h]; simp)]; simp only; rw [hr]
end
theorem opt_some {o : Option Expr} (h : o.isSome = true) : o = some (o.getD nullX) := by cases o <;> simp at h ⊢
theorem opt_none {o : Option Expr} (h : o.isSome = false) : o = none := by cases o <;> simp at h ⊢
theorem trim_kids {x : Expr} (hn : allE nodeM x = true) (hr : allE rngN x = true) (hk : 0 < x.kids.length) : allE nodeM (.mk x.op x.text noV (x.kids.map trimE)) = true ∧ allE rngN (.mk x.op x.text noV (x.kids.map trimE)) = true ∧ sizeE (.mk x.op x.text noV (x.kids.map trimE)) ≤ sizeE x ∧ depthE (.mk x.op x.text noV (x.kids.map trimE)) ≤ depthE x := by
 have h0 := hn
 rw [allE_eq, Bool.and_eq_true] at h0
 have h1 := hr
 rw [allE_eq, Bool.and_eq_true] at h1
 have ih : ∀ y ∈ x.kids, TrimOk [] [] y (trimE y) := fun y hy => trim_ok (fun v hv => by cases hv) _ y (Nat.le_refl _) ((allL_iff _ _).1 h0.2 y hy) ((allL_iff _ _).1 h1.2 y hy)
 obtain ⟨o, t, v, k⟩ := x
 simp only [Expr.op, Expr.text, Expr.kids] at *
 have hv : v = noV := by
  have hnn := h0.1
  rw [node_one, nodeOne_mk] at hnn
  split at hnn
  ·simp only [Bool.and_eq_true, beq_iff_eq] at hnn
   have := hnn.2
   omega
  ·split at hnn
   ·cases hnn
   ·rename_i hb; exact bare_no (by simpa using hb)
 subst hv
 have hmem : ∀ y ∈ k.map trimE, ∃ z ∈ k, y = trimE z := fun y hy => by
  obtain ⟨z, hz, rfl⟩ := List.mem_map.1 hy
  exact ⟨z, hz, rfl⟩
 refine ⟨?_, ?_, ?_, ?_⟩
 ·rw [allE, Bool.and_eq_true]
  refine ⟨?_, (allL_iff _ _).2 fun y hy => ?_⟩
  ·have hnn := h0.1
   rw [node_one, nodeOne_mk] at hnn ⊢
   rw [List.length_map]
   exact hnn
  ·obtain ⟨z, hz, rfl⟩ := hmem y hy
   exact (ih z hz).node
 ·rw [allE, Bool.and_eq_true]
  refine ⟨h1.1, (allL_iff _ _).2 fun y hy => ?_⟩
  obtain ⟨z, hz, rfl⟩ := hmem y hy
  exact (ih z hz).rng
 ·rw [sizeE, sizeE]
  have : ∀ r : List Expr, (∀ y ∈ r, y ∈ k) → sizeL (r.map trimE) ≤ sizeL r := fun r => by
   induction r with
   | nil => intro _; exact Nat.le_refl _
   | cons y r ihr =>
    intro hs
    rw [List.map_cons, sizeL, sizeL]
    have h1 := (ih y (hs y List.mem_cons_self)).size
    have h2 := ihr fun z hz => hs z (List.mem_cons_of_mem _ hz)
    omega
  have := this k fun _ h => h
  omega
 ·rw [depthE, depthE]
  have : ∀ r : List Expr, (∀ y ∈ r, y ∈ k) → depthL (r.map trimE) ≤ depthL r := fun r => by
   induction r with
   | nil => intro _; exact Nat.le_refl _
   | cons y r ihr =>
    intro hs
    rw [List.map_cons, depthL, depthL]
    have h1 := (ih y (hs y List.mem_cons_self)).depth
    have h2 := ihr fun z hz => hs z (List.mem_cons_of_mem _ hz)
    omega
  have := this k fun _ h => h
  omega
theorem trim_lens {o : Int} {t : Str} {ks : List Expr} (hn : allE nodeM (.mk o t noV ks) = true) : (((o == 6) && (t == ifW)) = true → ks.length = 3) ∧ (((o == 6) && (t == nvlW)) = true → ks.length = 2) := by
 rw [allE, Bool.and_eq_true] at hn
 obtain ⟨q5, q34, q6, qall⟩ := kids_len hn.1
 refine ⟨fun h => ?_, fun h => ?_⟩
 ·simp only [Bool.and_eq_true, beq_iff_eq] at h
  obtain ⟨rfl, rfl⟩ := h
  rcases call_names (q6 rfl) with ⟨e, _⟩ | ⟨e, _⟩ | ⟨e, _⟩ | ⟨e, _⟩ | ⟨e, _⟩ | ⟨e, _⟩ | ⟨e, _⟩ | ⟨_, e⟩
  all_goals first | exact e | exact absurd (show ifW = _ from e) (by decide)
 ·simp only [Bool.and_eq_true, beq_iff_eq] at h
  obtain ⟨rfl, rfl⟩ := h
  rcases call_names (q6 rfl) with ⟨e, _⟩ | ⟨e, _⟩ | ⟨e, _⟩ | ⟨e, _⟩ | ⟨_, e⟩ | ⟨e, _⟩ | ⟨e, _⟩ | ⟨e, _⟩
  all_goals first | exact e | exact absurd (show nvlW = _ from e) (by decide)
theorem c45  : ∀ (n : Nat) (x : Expr), okE n x → n ≤ 1000000 → allE nodeM x = true → allE rngN x = true → ∀ Hp : List AObj, AFun Tryz.prog 45 [exprA x] Hp (exprA (trimE x)) := by
 intro n
 induction n with
 | zero => exact fun x h => h.elim
 | succ n ih =>
 intro x hok hn hnode hrng Hp
 have hih : ∀ y ∈ x.kids, ∀ Hp : List AObj, AFun Tryz.prog 45 [exprA y] Hp (exprA (trimE y)) := fun y hy => ih y (hok.2.2 y hy) (by omega) (by rw [allE_eq, Bool.and_eq_true] at hnode; exact (allL_iff _ _).1 hnode.2 y hy) (by rw [allE_eq, Bool.and_eq_true] at hrng; exact (allL_iff _ _).1 hrng.2 y hy)
 refine ACall.body [.cell 2 26] [0, 4] Tryz.func45 Tryz.ntmps45 (fun d => ?_)
 refine AW.seqR ?_
 refine R.boxRo ?_
 refine R.alloc Tryz.zeroValue26 ?_
 refine R.fin [1, 2, 4] ?_
 refine W.seq ?_
 refine AW.seqR ?_
 refine R.fieldAddrRo (off := 5) Tryz.underlying26 Tryz.sizeOf24 ?_
 refine R.loadRo Tryz.isAgg24 ?_
 refine R.len Tryz.underlying24 ?_
 refine R.eql ?_
 refine R.fin [1, 2, 4, 12] ?_
 refine W.cond (fun ht12 => ?_) (fun ht12 => ?_)
 ·skip
  rw [List.length_map] at ht12
  refine AW.seqR ?_
  refine R.loadRoN Tryz.isAgg26 Tryz.sizeOf26 ?_
  refine R.storeOwn Tryz.sizeOf26 ?_
  refine R.fin [2] ?_
  refine AW.ret ?_
  refine K.thR ?_
  exact K.fin (V.one (V.cellN Tryz.isAgg26 Tryz.sizeOf26)) ⟨by rw [trimE_0 ht12]; simp only [exprA_eq]; try rfl, rfl⟩ (hlow := by simp [exprA_low])
 ·skip
  rw [List.length_map] at ht12
  have hte := trimE_1 ht12
  have hk1 : 0 < x.kids.length := by
   cases hk : x.kids with
   | nil => rw [hk] at ht12; cases ht12
   | cons a r => simp
  have hk0 : 0 < (x.kids.map trimE).length := by simpa using hk1
  obtain ⟨hyn, hyr, hys, hyd⟩ := trim_kids hnode hrng hk1
  obtain ⟨hy3, hy2⟩ := trim_lens hyn
  have hyok : okE (n + 1) (Expr.mk x.op x.text noV (x.kids.map trimE)) := node_okT (n + 1) _ (Nat.le_trans hyd (okE_depth _ _ hok)) hyn
  refine AW.skip ?_
  refine K.thN ?_
  refine AW.seqR ?_
  refine R.fieldAddrRo (off := 0) Tryz.underlying26 Tryz.sizeOf3 ?_
  refine R.loadRo Tryz.isAgg3 ?_
  refine R.fieldAddrRo (off := 1) Tryz.underlying26 Tryz.sizeOf9 ?_
  refine R.loadRo Tryz.isAgg9 ?_
  refine R.build (places := #[(0, 1), (1, 1), (2, 3), (5, 1)]) Tryz.underlying26 (fun w => by simp) Tryz.zeroValue26 ?_
  refine R.alloc Tryz.zeroValue26 ?_
  refine R.storeOwn Tryz.sizeOf26 ?_
  refine R.fin [1, 2, 3, 4] ?_
  refine W.seq ?_
  refine AW.seqR ?_
  refine R.nilCell 1 5 6 ?_
  refine R.assumeLow (fun hlow => ?_)
  refine R.loadRoN Tryz.isAgg26 Tryz.sizeOf26 ?_
  refine R.call Tryz.call66 (c66 x _) ?_
  refine R.fin [2, 3, 4, 20] ?_
  refine AW.block ?_
  refine W.rangeV (m := 2) Tryz.call88 (fun FR as' bd' hFR has hbd => ?_)
  have hFRl : ∀ s, Low (Hp.length + 4) (FR s) := by
   intro s
   rw [hFR]
   refine Low.strip ?_
   revert s
   repeat (first | exact lowF_any | refine lowF_set (by first | exact low_roE | (simp [oid, exprA_low] <;> try omega)) ?_)
  have hOl : ∀ {k : Nat}, ∀ y ∈ [.cells 26 [intA 0, strA [], intA 0, intA 0, strA [], .nil], yo true x.op x.text ((x.kids.map trimE).take k), AObj.defs, AObj.loop LoopState.ready none FR 50 #[21] as' bd' (oid Hp.length 2)], ObjLow (Hp.length + 4) y := by
   intro k y hy
   simp only [List.mem_cons, List.mem_nil_iff, or_false] at hy
   rcases hy with rfl | rfl | rfl | rfl
   ·exact low_z69
   ·exact low_yo
   ·trivial
   ·exact ⟨hFRl, by simp [oid]⟩
  refine ⟨fun _ H' => H' = Hp ++ [.cells 26 [intA 0, strA [], intA 0, intA 0, strA [], .nil], yo true x.op x.text ((x.kids.map trimE).take x.kids.length), AObj.defs, AObj.loop LoopState.ready none FR 50 #[21] as' bd' (oid Hp.length 2)], c88 (x := x) (l := oid Hp.length 3) (U := fun k => Hp ++ [.cells 26 [intA 0, strA [], intA 0, intA 0, strA [], .nil], yo true x.op x.text ((x.kids.map trimE).take k), AObj.defs, AObj.loop LoopState.ready none FR 50 #[21] as' bd' (oid Hp.length 2)]) (n0 := Hp.length + 4) ⟨fun k => by simp, fun k y hy => ?_, by simp [oid], fun X k z hz => ?_⟩ hok.2.1 hih, ?_⟩
  ·exact low_app (fun y hy => ObjLow.le (by omega) (hlow y hy)) hOl y hy
  ·skip
   have hklt : k < x.kids.length := by have := (List.getElem?_eq_some_iff.1 hz).1; simpa using this
   generalize hV : (Hp ++ [.cells 26 [intA 0, strA [], intA 0, intA 0, strA [], .nil], yo true x.op x.text ((x.kids.map trimE).take k), AObj.defs, AObj.loop LoopState.ready none FR 50 #[21] as' bd' (oid Hp.length 2)] ++ X) = V
   have hL : V[oid Hp.length 3]? = some (AObj.loop LoopState.ready none FR 50 #[21] as' bd' (oid Hp.length 2)) := by rw [← hV, List.append_assoc, get_oid]; rfl
   have hA0 : V[oid Hp.length 1]? = some (yo true x.op x.text ((x.kids.map trimE).take k)) := by rw [← hV, List.append_assoc, get_oid]; rfl
   refine AYield.ofRound (pd := none) (fr := FR) (sz := 50) (ps := #[21]) (df := oid Hp.length 2) (asg := as') (bd := bd') hL rfl (by decide) (fun d => ?_)
   subst hFR has hbd
   refine W.keep [3, 21] ?_
   refine AW.region ?_
   refine R.alloc Tryz.zeroValue26 ?_
   refine R.storeOwn Tryz.sizeOf26 ?_
   refine R.fin [3, 4] ?_
   refine ⟨rfl, none, hL, ?_⟩
   generalize hbz : (AObj.loop LoopState.busy _ _ _ _ _ _ _) = bz
   have hA : (V.set (oid Hp.length 3) bz)[oid Hp.length 1]? = some (yo true x.op x.text ((x.kids.map trimE).take k)) := by rw [List.getElem?_set_ne (oid_ne (by decide))]; exact hA0
   refine AW.block ?_
   refine W.drawT0 [0, 1, 0, 3, 0, 31, 63, 127, 63, 319] [1] [.q 1 [] [0], .s [23] (some 0) [] [], .q 3 [] []] (fun B => (V.set (oid Hp.length 3) bz).set (oid Hp.length 1) (if B 0 = true then yo false x.op x.text ((x.kids.map trimE).take k) else yo true x.op x.text ((x.kids.map trimE).take k))) (fun _ => [.cells 26 (exprC z)]) Tryzmixed (by kernel_rfl) (by simp only [Bool.false_eq_true, if_false]; exact set_same hA) rfl (fun B => by simp) ?_
   apply Y.q
   case h1 =>
    intro B hT hF
    refine D.fieldAddrPtr (fo := 5) Tryz.underlying26 Tryz.sizeOf24 ?_
    exact D.end rfl rfl
   case hTF => decide
   refine Y.loadUpT (o := oid Hp.length 1) (t' := 26) (cs := [intA x.op, strA x.text, intA 0, intA 0, strA [], .slice true 6 (((x.kids.map trimE).take k).map exprA)]) (cs' := [intA x.op, strA x.text, intA 0, intA 0, strA [], .slice false 6 (((x.kids.map trimE).take k).map exprA)]) Tryz.isAgg24 (fun B hB => ⟨by simp only [hB]; exact getset hA, by simp only [upd, if_true, List.set_set], rfl⟩) ?_
   apply Y.q
   case h1 =>
    intro B hT hF
    refine D.loadOwnN Tryz.isAgg26 Tryz.sizeOf26 ?_
    refine D.len Tryz.underlying24 ?_
    refine D.buildSlice Tryz.underlying24 Tryz.sizeOf26 Tryz.zeroValue26 ?_
    exact D.end rfl rfl
   case hTF => decide
   refine Y.appendPut (tn := [1]) (U := (V.set (oid Hp.length 3) bz).set (oid Hp.length 1) (yo false x.op x.text ((x.kids.map trimE).take k))) (O := [.cells 26 (exprC z)]) (o := oid Hp.length 1) (t' := 26) (cs := [intA x.op, strA x.text, intA 0, intA 0, strA [], .slice false 6 (((x.kids.map trimE).take k).map exprA)]) (by kernel_rfl) Tryz.underlying24 Tryz.type26 Tryz.sizeOf26 Tryz.sizeOf24 Tryz.underlying26 (get_up (getset hA)) ?_ ?_ ?_ (hfsz := Tryz.sizeOf24)
   ·have := hok.2.1; simp [Tryz.t26]; omega
   ·have := hok.2.1; simp [Tryz.t26]; omega
   refine R.fieldAddrPtr (fo := 5) Tryz.underlying26 Tryz.sizeOf24 ?_
   refine R.storeUpT Tryz.sizeOf24 (getset hA) ?_ ?_
   ·first | (rw [snocE]; exact low_exprs) | (simp only [exprA_eq]; exact low_exprs)
   refine R.fin [] ?_
   refine K.blN ?_
   subst hbz
   refine K.rdN (keep2 hL (oid_ne (by decide)) (oid_ne (by decide))) ?_
   refine ⟨rfl, ?_⟩
   subst hV
   simp only [List.append_assoc, set_oid, List.cons_append, List.nil_append, List.set_cons_succ, List.set_cons_zero]
   rw [take_item hz]
   try simp only [snocE]
   try rfl
  ·skip
   intro r H' hq
   subst hq
   refine ⟨Hp, _, _, _, rfl, rfl, fun h => h, ?_, rfl, by simp, ?_⟩
   ·intro o ho
    have : o = oid Hp.length 2 := by simpa using ho
    subst this
    rw [get_oid]
    rfl
   rw [show (x.kids.map trimE).take x.kids.length = x.kids.map trimE from List.take_of_length_le (by simp)]
   refine K.blN ?_
   refine K.thN ?_
   refine W.seq ?_
   refine AW.seqR ?_
   refine R.fieldAddrPtr (fo := 5) Tryz.underlying26 Tryz.sizeOf24 ?_
   refine R.loadOwn Tryz.isAgg24 ?_
   refine R.indexAddr (0) (exprA ((x.kids.map trimE).getD 0 nullX)) Tryz.underlying24 Tryz.sizeOf26 (getE_at hk0) ?_
   refine R.loadRoN Tryz.isAgg26 Tryz.sizeOf26 ?_
   refine R.call Tryz.call46 (c46 ((x.kids.map trimE).getD 0 nullX) _) ?_
   refine R.fin [2, 3, 34] ?_
   refine W.cond (fun ht34 => ?_) (fun ht34 => ?_)
   ·skip
    refine AW.seqR ?_
    refine R.loadOwnN Tryz.isAgg26 Tryz.sizeOf26 ?_
    refine R.call Tryz.call67 (c67 (Expr.mk x.op x.text noV (x.kids.map trimE)) hk0 hy3 hy2 _) ?_
    refine R.move ?_
    refine R.extract ?_
    refine R.extract ?_
    refine R.alloc Tryz.zeroValue26 ?_
    refine R.storeOwn Tryz.sizeOf26 ?_
    refine R.assign ?_
    refine R.fin [2, 3, 5, 6] ?_
    refine AW.seqR ?_
    refine R.move ?_
    refine R.fin [2, 3, 5, 40] ?_
    refine W.cond (fun ht40 => ?_) (fun ht40 => ?_)
    ·skip
     have hc : (chosenM x.op x.text (x.kids.map trimE)) = some ((chosenM x.op x.text (x.kids.map trimE)).getD nullX) := opt_some ht40
     refine AW.seqR ?_
     refine R.loadOwnN Tryz.isAgg26 Tryz.sizeOf26 ?_
     refine R.storeOwn Tryz.sizeOf26 ?_
     refine R.fin [2] ?_
     refine AW.ret ?_
     refine K.thR ?_
     exact K.fin (V.one (V.cellN Tryz.isAgg26 Tryz.sizeOf26)) ⟨by rw [hte, tN_1 ht34 hc]; simp only [exprA_eq]; try rfl, rfl⟩ (hlow := by simp [exprA_low])
    ·skip
     have hc : (chosenM x.op x.text (x.kids.map trimE)) = none := opt_none ht40
     refine AW.skip ?_
     refine K.thN ?_
     refine W.seq ?_
     refine AW.seqR ?_
     refine R.loadOwnN Tryz.isAgg26 Tryz.sizeOf26 ?_
     refine R.call Tryz.call68 (c68 (n + 1) (Expr.mk x.op x.text noV (x.kids.map trimE)) hyok (by omega) hyr _) ?_
     refine R.move ?_
     refine R.extract ?_
     refine R.extract ?_
     refine R.alloc Tryz.zeroValue26 ?_
     refine R.storeOwn Tryz.sizeOf26 ?_
     refine R.assign ?_
     refine R.fin [2, 3, 7, 8] ?_
     refine AW.seqR ?_
     refine R.move ?_
     refine R.fin [2, 3, 7, 47] ?_
     refine W.cond (fun ht47 => ?_) (fun ht47 => ?_)
     ·skip
      have hr : (reckM (Expr.mk x.op x.text noV (x.kids.map trimE))) = some ((reckM (Expr.mk x.op x.text noV (x.kids.map trimE))).getD nullX) := opt_some ht47
      refine AW.seqR ?_
      refine R.loadOwnN Tryz.isAgg26 Tryz.sizeOf26 ?_
      refine R.storeOwn Tryz.sizeOf26 ?_
      refine R.fin [2] ?_
      refine AW.ret ?_
      refine K.thR ?_
      exact K.fin (V.one (V.cellN Tryz.isAgg26 Tryz.sizeOf26)) ⟨by rw [hte, tN_2 ht34 hc hr]; simp only [exprA_eq]; try rfl, rfl⟩ (hlow := by simp [exprA_low])
     ·skip
      have hr : (reckM (Expr.mk x.op x.text noV (x.kids.map trimE))) = none := opt_none ht47
      refine AW.skip ?_
      refine K.thN ?_
      refine AW.seqR ?_
      refine R.loadOwnN Tryz.isAgg26 Tryz.sizeOf26 ?_
      refine R.storeOwn Tryz.sizeOf26 ?_
      refine R.fin [2] ?_
      refine AW.ret ?_
      exact K.fin (V.one (V.cellN Tryz.isAgg26 Tryz.sizeOf26)) ⟨by rw [hte, tN_3 ht34 hc hr]; simp only [exprA_eq]; try rfl, rfl⟩ (hlow := by simp [exprA_low])
   ·skip
    refine AW.skip ?_
    refine K.thN ?_
    refine W.seq ?_
    refine AW.seqR ?_
    refine R.loadOwnN Tryz.isAgg26 Tryz.sizeOf26 ?_
    refine R.call Tryz.call68 (c68 (n + 1) (Expr.mk x.op x.text noV (x.kids.map trimE)) hyok (by omega) hyr _) ?_
    refine R.move ?_
    refine R.extract ?_
    refine R.extract ?_
    refine R.alloc Tryz.zeroValue26 ?_
    refine R.storeOwn Tryz.sizeOf26 ?_
    refine R.assign ?_
    refine R.fin [2, 3, 7, 8] ?_
    refine AW.seqR ?_
    refine R.move ?_
    refine R.fin [2, 3, 7, 47] ?_
    refine W.cond (fun ht47 => ?_) (fun ht47 => ?_)
    ·skip
     have hr : (reckM (Expr.mk x.op x.text noV (x.kids.map trimE))) = some ((reckM (Expr.mk x.op x.text noV (x.kids.map trimE))).getD nullX) := opt_some ht47
     refine AW.seqR ?_
     refine R.loadOwnN Tryz.isAgg26 Tryz.sizeOf26 ?_
     refine R.storeOwn Tryz.sizeOf26 ?_
     refine R.fin [2] ?_
     refine AW.ret ?_
     refine K.thR ?_
     exact K.fin (V.one (V.cellN Tryz.isAgg26 Tryz.sizeOf26)) ⟨by rw [hte, tN_4 ht34 hr]; simp only [exprA_eq]; try rfl, rfl⟩ (hlow := by simp [exprA_low])
    ·skip
     have hr : (reckM (Expr.mk x.op x.text noV (x.kids.map trimE))) = none := opt_none ht47
     refine AW.skip ?_
     refine K.thN ?_
     refine AW.seqR ?_
     refine R.loadOwnN Tryz.isAgg26 Tryz.sizeOf26 ?_
     refine R.storeOwn Tryz.sizeOf26 ?_
     refine R.fin [2] ?_
     refine AW.ret ?_
     exact K.fin (V.one (V.cellN Tryz.isAgg26 Tryz.sizeOf26)) ⟨by rw [hte, tN_5 ht34 hr]; simp only [exprA_eq]; try rfl, rfl⟩ (hlow := by simp [exprA_low])

end Go.SX.Nb
namespace Go.SX.Nb
open Go Go.SX Go.Proofs
variable [ErrAt]
set_option maxRecDepth 4000
/-- trim.Trim: the tree and the error. -/
def trimM (x : Expr) : Expr × Int := if exprRightM x = true then (trimE x, 0) else (nullX, 1)
theorem trimM_1 {x : Expr} (h : exprRightM x = true) : trimM x = (trimE x, 0) := if_pos h
theorem trimM_0 {x : Expr} (h : exprRightM x = false) : trimM x = (nullX, 1) := if_neg (by rw [h]; simp)
theorem trimM_ok {n : Nat} {x : Expr} (hok : okE n x) (hg : allE rngN x = true) : okE n (trimM x).1 ∧ sizeE (trimM x).1 ≤ sizeE x ∧ allE rngN (trimM x).1 = true := by
 cases h : exprRightM x with
 | false =>
  rw [trimM_0 h]
  refine ⟨nullX_ok ?_, ?_, by kernel_rfl⟩
  ·cases n with
   | zero => exact hok.elim
   | succ n => omega
  ·rw [sizeE_eq x]; show 1 ≤ _; omega
 | true =>
  rw [trimM_1 h]
  have t := trim_ok (c := []) (l := []) (fun v hv => by cases hv) _ x (Nat.le_refl _) (rightE_node h) hg
  exact ⟨node_okT n _ (Nat.le_trans t.depth (okE_depth _ _ hok)) t.node, t.size, t.rng⟩
def savedM (x : Expr) : Int := if exprRightM x = true then (sizeE x : Int) - sizeE (trimM x).1 else 0
theorem trimM_err {x : Expr} (h : ((trimM x).2 != 0) = true) : exprRightM x = false := by
 cases hr : exprRightM x with
 | false => rfl
 | true => rw [trimM_1 hr] at h; cases h
theorem trimM_fine {x : Expr} (h : ((trimM x).2 != 0) = false) : exprRightM x = true := by
 cases hr : exprRightM x with
 | true => rfl
 | false => rw [trimM_0 hr] at h; cases h
theorem c17 (n : Nat) (x : Expr) (hok : okE n x) (hn : n ≤ 1000000) (hg : allE rngN x = true) (Hp : List AObj) : AFun Tryz.prog 17 [exprA x] Hp (.tup [exprA (trimM x).1, intA (trimM x).2]) := by
 refine ACall.body [.cell 2 26, .tmp 3] [0] Tryz.func17 Tryz.ntmps17 (fun d => ?_)
 refine AW.seqR ?_
 refine R.boxRo ?_
 refine R.alloc Tryz.zeroValue26 ?_
 refine R.assign ?_
 refine R.fin [1, 2] ?_
 refine W.seq ?_
 refine AW.seqR ?_
 refine R.loadRoN Tryz.isAgg26 Tryz.sizeOf26 ?_
 refine R.call Tryz.call27 (c27 n x hok (by omega) _) ?_
 refine R.not ?_
 refine R.fin [1, 2, 6] ?_
 refine W.cond (fun ht6 => ?_) (fun ht6 => ?_)
 ·skip
  have hr : exprRightM x = false := by simpa using ht6
  refine AW.seqR ?_
  refine R.build (places := #[(0, 1), (1, 1), (2, 3), (5, 1)]) Tryz.underlying26 (fun w => by simp) Tryz.zeroValue26 ?_
  refine R.wk 7 _ nullX_le ?_
  refine R.storeOwn Tryz.sizeOf26 ?_
  refine R.assign ?_
  refine R.fin [2, 3] ?_
  refine AW.ret ?_
  refine K.thR ?_
  exact K.fin (V.two (V.cellN Tryz.isAgg26 Tryz.sizeOf26) V.tmp) ⟨by rw [trimM_0 hr]; simp only [exprA_eq]; try rfl, rfl⟩ (hlow := by simp [exprA_low])
 ·skip
  have hr : exprRightM x = true := by simpa using ht6
  refine AW.skip ?_
  refine K.thN ?_
  refine AW.seqR ?_
  refine R.loadRoN Tryz.isAgg26 Tryz.sizeOf26 ?_
  refine R.call Tryz.call45 (c45 n x hok hn (rightE_node hr) hg _) ?_
  refine R.storeOwn Tryz.sizeOf26 ?_
  refine R.assign ?_
  refine R.fin [2, 3] ?_
  refine AW.ret ?_
  exact K.fin (V.two (V.cellN Tryz.isAgg26 Tryz.sizeOf26) V.tmp) ⟨by rw [trimM_1 hr]; simp only [exprA_eq]; try rfl, rfl⟩ (hlow := by simp [exprA_low])

theorem c19s (n : Nat) (x : Expr) (hok : okE n x) (hn : n ≤ 1000000) (hs : sizeE x ≤ 1048576) (hg : allE rngN x = true) (Hp : List AObj) : AFun Tryz.prog 19 [exprA x] Hp (intA (savedM x)) := by
 obtain ⟨hyo, hys, hyg⟩ := trimM_ok hok hg
 refine ACall.body [.tmp 2] [0] Tryz.func19 Tryz.ntmps19 (fun d => ?_)
 refine AW.seqR ?_
 refine R.boxRo ?_
 refine R.assign ?_
 refine R.fin [1] ?_
 refine AW.seqR ?_
 refine R.loadRoN Tryz.isAgg26 Tryz.sizeOf26 ?_
 refine R.call Tryz.call17 (c17 n x hok hn hg _) ?_
 refine R.move ?_
 refine R.extract ?_
 refine R.extract ?_
 refine R.alloc Tryz.zeroValue26 ?_
 refine R.storeOwn Tryz.sizeOf26 ?_
 refine R.assign ?_
 refine R.fin [1, 3, 4] ?_
 refine W.seq ?_
 refine AW.seqR ?_
 refine R.move ?_
 refine R.neq ?_
 refine R.fin [1, 3, 11] ?_
 refine W.cond (fun ht11 => ?_) (fun ht11 => ?_)
 ·skip
  have hm : savedM x = 0 := if_neg (by rw [trimM_err ht11]; simp)
  refine AW.seqR ?_
  refine R.assign ?_
  refine R.fin [2] ?_
  refine AW.ret ?_
  refine K.thR ?_
  exact K.fin (V.one V.tmp) ⟨by rw [hm], rfl⟩
 ·skip
  have hm : savedM x = (sizeE x : Int) - sizeE (trimM x).1 := if_pos (trimM_fine ht11)
  refine AW.skip ?_
  refine K.thN ?_
  refine W.draw [0, 1, 0, 7, 15, 31] 3 Tryzmixed (by kernel_rfl) ?_
  refine D.loadRoN Tryz.isAgg26 Tryz.sizeOf26 ?_
  refine D.call Tryz.call47 (c47 n x hok (by omega) hs _) ?_
  refine D.loadOwnN Tryz.isAgg26 Tryz.sizeOf26 ?_
  refine D.tail ?_
  refine R.call Tryz.call47 (c47 n (trimM x).1 hyo (by omega) (by omega) _) ?_
  refine R.sub64 ?_
  refine R.assign ?_
  refine R.fin [2] ?_
  refine AW.ret ?_
  exact K.fin (V.one V.tmp) ⟨by rw [hm], rfl⟩

def tS : Str := [105, 102, 40, 49, 32, 60, 32, 50, 44, 32, 97, 44, 32, 49, 32, 47, 32, 48, 41]
def tX : Expr := .mk 6 ifW noV [binX [60] (valX ⟨1, 1, []⟩) (valX ⟨1, 2, []⟩), nameE [97], wD]
theorem t_parse : parseM tS = (tX, 0, 0) := by kernel_rfl
theorem t_trim : trimM tX = (nameE [97], 0) := by kernel_rfl
theorem t_saved : savedM tX = 7 := by kernel_rfl
theorem t_ok : okE 30 tX := by
 have h : refRightM tX = true := by kernel_rfl
 unfold refRightM at h
 simp only [Bool.and_eq_true, decide_eq_true_eq] at h
 exact node_okT 30 tX h.1.1 h.2
theorem t_p (Hp : List AObj) : AFun Tryz.prog 25 [strA tS] Hp (.tup [exprA tX, .agg [intA 0, intA 0]]) := by
 have := c87p tS (by decide) Hp
 rw [t_parse] at this
 exact this
theorem t_t (Hp : List AObj) : AFun Tryz.prog 17 [exprA tX] Hp (.tup [exprA (nameE [97]), intA 0]) := by
 have := c17 30 tX t_ok (by decide) (by kernel_rfl) Hp
 rw [t_trim] at this
 exact this
theorem t_s (Hp : List AObj) : AFun Tryz.prog 19 [exprA tX] Hp (intA 7) := by
 have := c19s 30 tX t_ok (by decide) (by decide) (by kernel_rfl) Hp
 rw [t_saved] at this
 exact this
theorem c16 (Hp : List AObj) : AFun Tryz.prog 16 [] Hp (boolA true) := by
 refine ACall.body [.tmp 0] [] Tryz.func16 Tryz.ntmps16 (fun d => ?_)
 refine AW.seqR ?_
 refine R.assign ?_
 refine R.fin [] ?_
 refine AW.seqR ?_
 refine R.call Tryz.call25 (t_p _) ?_
 refine R.move ?_
 refine R.extract ?_
 refine R.extract ?_
 refine R.alloc Tryz.zeroValue26 ?_
 refine R.alloc Tryz.zeroValue53 ?_
 refine R.storeOwn Tryz.sizeOf26 ?_
 refine R.storeOwn Tryz.sizeOf53 ?_
 refine R.fin [1, 2] ?_
 refine AW.seqR ?_
 refine R.loadOwnN Tryz.isAgg26 Tryz.sizeOf26 ?_
 refine R.call Tryz.call17 (t_t _) ?_
 refine R.move ?_
 refine R.extract ?_
 refine R.extract ?_
 refine R.alloc Tryz.zeroValue26 ?_
 refine R.storeOwn Tryz.sizeOf26 ?_
 refine R.assign ?_
 refine R.fin [1, 2, 3, 4] ?_
 refine AW.seqR ?_
 refine R.fieldAddrPtr (fo := 0) Tryz.underlying53 Tryz.sizeOf33 ?_
 refine R.loadOwn Tryz.isAgg33 ?_
 refine R.eql ?_
 refine R.move ?_
 refine G.move ?_
 refine G.eql ?_
 refine R.pickAnd ?_
 refine R.move ?_
 refine G.fieldAddrPtr (fo := 0) Tryz.underlying26 Tryz.sizeOf3 ?_
 refine G.loadOwn Tryz.isAgg3 ?_
 refine G.eql ?_
 refine R.pickAnd ?_
 refine R.move ?_
 refine G.fieldAddrPtr (fo := 1) Tryz.underlying26 Tryz.sizeOf9 ?_
 refine G.loadOwn Tryz.isAgg9 ?_
 refine G.seql ?_
 refine R.pickAnd ?_
 refine R.move ?_
 refine G.loadOwnN Tryz.isAgg26 Tryz.sizeOf26 ?_
 refine G.call Tryz.call19 (fun hB => t_s _) ?_
 refine G.eql ?_
 refine R.pickAnd ?_
 refine R.assign ?_
 refine R.fin [0] ?_
 refine AW.ret ?_
 exact K.fin (V.one V.tmp)

theorem c4 (x : Expr) (gx : allE rngN x = true) (c : List Col) (l : List Val) (hlr : ∀ v ∈ l, -9223372036854775808 ≤ v.n ∧ v.n ≤ 9223372036854775807) (Hp : List AObj) : AFun Tryz.prog 4 [exprA x, colsA c, valsA l] Hp (boolA true) := by
 refine ACall.body [.tmp 6] [0, 1, 2] Tryz.func4 Tryz.ntmps4 (fun d => ?_)
 refine AW.seqR ?_
 refine R.boxRo ?_
 refine R.assign ?_
 refine R.fin [1, 2, 3] ?_
 refine W.seq ?_
 refine AW.seqR ?_
 refine R.call Tryz.call16 (c16 _) ?_
 refine R.not ?_
 refine R.fin [1, 2, 3, 14] ?_
 refine W.cond (fun ht14 => ?_) (fun ht14 => ?_)
 ·skip
  cases ht14
 ·skip
  refine AW.skip ?_
  refine K.thN ?_
  refine W.seq ?_
  refine AW.seqR ?_
  refine R.loadRoN Tryz.isAgg26 Tryz.sizeOf26 ?_
  refine R.call Tryz.call7 (c7 x _) ?_
  refine R.move ?_
  refine G.move ?_
  refine G.call Tryz.call8 (fun hB => c21u c _) ?_
  refine R.pickOr ?_
  refine R.move ?_
  refine G.move ?_
  refine G.call Tryz.call9 (fun hB => c9 l _) ?_
  refine R.pickOr ?_
  refine R.fin [1, 2, 3, 24] ?_
  refine W.cond (fun ht24 => ?_) (fun ht24 => ?_)
  ·skip
   refine AW.seqR ?_
   refine R.assign ?_
   refine R.fin [6] ?_
   refine AW.ret ?_
   refine K.thR ?_
   exact K.fin (V.one V.tmp)
  ·skip
   simp only [Bool.or_eq_false_iff] at ht24
   obtain ⟨⟨hwx, hmc⟩, hlg⟩ := ht24
   have hs := slim_of hwx
   have hc := many_ok hmc
   have hl1 := long_len hlg
   have hz : sizeE x ≤ 1048576 := by have := hs.size; omega
   obtain ⟨hyo, hys, hyg⟩ := trimM_ok hs.ok gx
   refine AW.skip ?_
   refine K.thN ?_
   refine AW.seqR ?_
   refine R.loadRoN Tryz.isAgg26 Tryz.sizeOf26 ?_
   refine R.call Tryz.call17 (c17 61 x hs.ok (by decide) gx _) ?_
   refine R.move ?_
   refine R.extract ?_
   refine R.extract ?_
   refine R.alloc Tryz.zeroValue26 ?_
   refine R.storeOwn Tryz.sizeOf26 ?_
   refine R.assign ?_
   refine R.fin [1, 2, 3, 7, 8] ?_
   refine W.seq ?_
   refine AW.seqR ?_
   refine R.move ?_
   refine R.neq ?_
   refine R.fin [1, 2, 3, 7, 31] ?_
   refine W.cond (fun ht31 => ?_) (fun ht31 => ?_)
   ·skip
    have hr := trimM_err ht31
    rw [exprRight_eq] at hr
    refine AW.seqR ?_
    refine R.loadRoN Tryz.isAgg26 Tryz.sizeOf26 ?_
    refine R.call Tryz.call14 (c14 61 x hs.ok (by decide) hz _) ?_
    refine R.not ?_
    refine R.assign ?_
    refine R.fin [6] ?_
    refine AW.ret ?_
    refine K.thR ?_
    exact K.fin (V.one V.tmp) ⟨by rw [hr]; rfl, rfl⟩
   ·skip
    have hr := trimM_fine ht31
    have hlaw : evalM (trimM x).1 c l = evalM x c l := by
     rw [trimM_1 hr]
     exact (trim_keeps (by rw [exprRight_eq] at hr; exact hr) gx c l hlr).2.2
    refine AW.skip ?_
    refine K.thN ?_
    refine AW.seqR ?_
    refine R.loadRoN Tryz.isAgg26 Tryz.sizeOf26 ?_
    refine R.move ?_
    refine R.move ?_
    refine R.call Tryz.call10 (c10 61 x hs.ok (by decide) gx c hc l hl1 hlr _) ?_
    refine R.move ?_
    refine R.extract ?_
    refine R.extract ?_
    refine R.alloc Tryz.zeroValue23 ?_
    refine R.storeOwn Tryz.sizeOf23 ?_
    refine R.assign ?_
    refine R.fin [1, 2, 7, 9, 10] ?_
    refine AW.seqR ?_
    refine R.loadOwnN Tryz.isAgg26 Tryz.sizeOf26 ?_
    refine R.move ?_
    refine R.move ?_
    refine R.call Tryz.call10 (c10 61 (trimM x).1 hyo (by decide) hyg c hc l hl1 hlr _) ?_
    refine R.move ?_
    refine R.extract ?_
    refine R.extract ?_
    refine R.alloc Tryz.zeroValue23 ?_
    refine R.storeOwn Tryz.sizeOf23 ?_
    refine R.assign ?_
    refine R.fin [9, 10, 11, 12] ?_
    refine AW.seqR ?_
    generalize evalM x c l = ra at hlaw ⊢
    generalize evalM (trimM x).1 c l = rb at hlaw ⊢
    refine R.loadOwnN Tryz.isAgg23 Tryz.sizeOf23 ?_
    refine R.loadOwnN Tryz.isAgg23 Tryz.sizeOf23 ?_
    refine R.eqlAgg eg23 (fun w => equal23 ra.1.kind ra.1.n rb.1.kind rb.1.n ra.1.s rb.1.s w) ?_
    refine R.move ?_
    refine G.move ?_
    refine G.move ?_
    refine G.eql ?_
    refine R.pickAnd ?_
    refine R.assign ?_
    refine R.fin [6] ?_
    refine AW.ret ?_
    exact K.fin (V.one V.tmp) ⟨by rw [hlaw]; simp, rfl⟩

end Go.SX.Nb
