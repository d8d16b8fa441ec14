/- Texts on the way to this: EvalPuts answers true for whatever it is handed: one tree put in a column's place comes to what its value would there, where it comes to one. (part 6) -/
import Derived.Test.YtmagaphdmgpneaaGreatDoorEvalPutsCardSaidPart5
set_option linter.all false
namespace Go.SX.Nb
open Go Go.SX Go.Proofs
variable [ErrAt]
set_option maxRecDepth 4000
abbrev resA (r : Rs) : AV := .tup [valA r.1, intA r.2]
abbrev intsA (l : List Int) : AV := .slice false 1 (l.map intA)
abbrev scopeA (c : List Col) (l : List Val) : AV := .agg [colsA c, valsA l]
theorem c43 (e : Int) (Hp : List AObj) : AFun Tryz.prog 43 [intA e] Hp (resA (wrongR e)) := by
 refine ACall.body [.cell 2 24, .tmp 3] [0] Tryz.func43 Tryz.ntmps43 (fun d => ?_)
 refine AW.seqR ?_
 refine R.alloc Tryz.zeroValue24 ?_
 refine R.assign ?_
 refine R.fin [0, 2] ?_
 refine AW.seqR ?_
 refine R.call Tryz.call59 (c59 _) ?_
 refine R.move ?_
 refine R.storeOwn Tryz.sizeOf24 ?_
 refine R.assign ?_
 refine R.fin [2, 3] ?_
 refine AW.ret ?_
 exact K.fin (V.two (V.cellN Tryz.isAgg24 Tryz.sizeOf24) V.tmp)

theorem c106 (n e : Int) (Hp : List AObj) : AFun Tryz.prog 106 [intA n, intA e] Hp (resA (wholeR (n, e))) := by
 refine ACall.body [.cell 4 24, .tmp 5] [0, 1] Tryz.func106 Tryz.ntmps106 (fun d => ?_)
 refine AW.seqR ?_
 refine R.alloc Tryz.zeroValue24 ?_
 refine R.assign ?_
 refine R.fin [0, 1, 4] ?_
 refine W.seq ?_
 refine AW.seqR ?_
 refine R.move ?_
 refine R.neq ?_
 refine R.fin [0, 1, 4, 7] ?_
 refine W.cond (fun ht7 => ?_) (fun ht7 => ?_)
 ·skip
  have hw : wholeR (n, e) = wrongR e := if_pos ht7
  refine AW.seqR ?_
  refine R.move ?_
  refine R.call Tryz.call43 (c43 _ _) ?_
  refine R.extract ?_
  refine R.extract ?_
  refine R.storeOwn Tryz.sizeOf24 ?_
  refine R.assign ?_
  refine R.fin [4, 5] ?_
  refine AW.ret ?_
  refine K.thR ?_
  exact K.fin (V.two (V.cellN Tryz.isAgg24 Tryz.sizeOf24) V.tmp) ⟨by rw [hw]; try rfl, rfl⟩
 ·skip
  have hw : wholeR (n, e) = (⟨1, n, []⟩, 0) := if_neg (by rw [ht7]; simp)
  refine AW.skip ?_
  refine K.thN ?_
  refine AW.seqR ?_
  refine R.move ?_
  refine R.call Tryz.call127 (c127 _ _) ?_
  refine R.storeOwn Tryz.sizeOf24 ?_
  refine R.assign ?_
  refine R.fin [4, 5] ?_
  refine AW.ret ?_
  exact K.fin (V.two (V.cellN Tryz.isAgg24 Tryz.sizeOf24) V.tmp) ⟨by rw [hw]; try rfl, rfl⟩

theorem kindsM_step {vs : List Val} {ks : List Int} (hl : ks.length ≤ vs.length) {x : Nat} (hk : x < ks.length) (hx : kindsM vs ks = kindsM (vs.drop x) (ks.drop x)) : kindsM vs ks = ((vs[x].kind == ks[x]) && kindsM (vs.drop (x + 1)) (ks.drop (x + 1))) := by
 rw [hx, List.drop_eq_getElem_cons hk, List.drop_eq_getElem_cons (show x < vs.length by omega), kindsM]
theorem c105 (vs : List Val) (ks : List Int) (hks : ks.length ≤ vs.length) (hk2 : ks.length ≤ 1048576) (Hp : List AObj) : AFun Tryz.prog 105 [valsA vs, intsA ks] Hp (boolA (kindsM vs ks)) := by
 refine ACall.body [.tmp 4] [0, 1] Tryz.func105 Tryz.ntmps105 (fun d => ?_)
 refine AW.seqR ?_
 refine R.assign ?_
 refine R.fin [0, 1] ?_
 refine W.seq ?_
 refine AW.seqR ?_
 refine R.move ?_
 refine R.len Tryz.underlying155 ?_
 refine R.move ?_
 refine R.fin [0, 7, 8, 9] ?_
 refine AW.loopC (α := Nat) (fun x => ⟨22, setF 0 (valsA vs) (setF 7 (intsA ks) (setF 8 (intA (ks.length : Nat)) (setF 9 (intA (x : Nat)) (fun _ => .any)))), Hp, [], [], none⟩) (fun x => x ≤ ks.length ∧ kindsM vs ks = kindsM (vs.drop x) (ks.drop x)) (fun x => ks.length - x) (0) ⟨Nat.zero_le _, rfl⟩ (StLe.of_eq (by simp)) rfl (fun x hx => ?_)
 refine AW.seqR ?_
 refine R.lss ?_
 refine R.fin [0, 7, 8, 9, 10] ?_
 refine W.condX (fun ht10 => ?_) (fun ht10 => ?_)
 ·skip
  have hlt : x < ks.length := by simpa using ht10
  have hls : x < vs.length := by omega
  have hst := kindsM_step hks hlt hx.2
  refine W.seq ?_
  refine AW.block ?_
  refine AW.seqR ?_
  refine R.move ?_
  refine R.indexAddr (x) (intA ks[x]) Tryz.underlying155 Tryz.sizeOf3 (getMap hlt) ?_
  refine R.loadRo Tryz.isAgg3 ?_
  refine R.assign ?_
  refine R.assign ?_
  refine R.fin [0, 5, 6, 7, 8, 9] ?_
  refine AW.seqR ?_
  refine R.move ?_
  refine R.move ?_
  refine R.indexAddr (x) (valA vs[x]) Tryz.underlying42 Tryz.sizeOf24 (getMap hls) ?_
  refine R.fieldAddrRo (off := 0) Tryz.underlying24 Tryz.sizeOf3 ?_
  refine R.loadRo Tryz.isAgg3 ?_
  refine R.move ?_
  refine R.neq ?_
  refine R.fin [0, 7, 8, 9, 20] ?_
  refine W.cond (fun ht20 => ?_) (fun ht20 => ?_)
  ·skip
   have hm : kindsM vs ks = false := by rw [hst]; simp only [bne_iff_ne, ne_eq] at ht20; simp [ht20]
   refine AW.seqR ?_
   refine R.assign ?_
   refine R.fin [4] ?_
   refine AW.ret ?_
   refine K.blR ?_
   refine K.thR ?_
   refine K.lpR ?_
   refine K.thR ?_
   exact K.fin (V.one V.tmp) ⟨by rw [hm], rfl⟩
  ·skip
   have hn : kindsM vs ks = kindsM (vs.drop (x + 1)) (ks.drop (x + 1)) := by rw [hst]; simp only [bne_eq_false_iff_eq] at ht20; simp [ht20]
   refine AW.skip ?_
   refine K.blN ?_
   refine K.thN ?_
   refine AW.region ?_
   refine R.add64 ?_
   refine R.move ?_
   refine R.fin [0, 7, 8, 9] ?_
   refine K.lpN (x + 1) ⟨hlt, hn⟩ (by omega) ?_
   exact StCut.of_eq (by simp)
 ·skip
  have hxe : ks.length ≤ x := by simpa using ht10
  have hm : kindsM vs ks = true := by rw [hx.2, List.drop_of_length_le hxe]; cases vs.drop x <;> rfl
  refine K.lpE ?_
  refine K.thN ?_
  refine AW.seqR ?_
  refine R.assign ?_
  refine R.fin [4] ?_
  refine AW.ret ?_
  exact K.fin (V.one V.tmp) ⟨by rw [hm], rfl⟩

theorem c123 (t : Str) (c : Int) (Hp : List AObj) : AFun Tryz.prog 123 [strA t, intA c] Hp (.tup [boolA (comparedM t c).1, boolA (comparedM t c).2]) := by
 refine ACall.body [.tmp 4, .tmp 5] [0, 1] Tryz.func123 Tryz.ntmps123 (fun d => ?_)
 refine AW.seqR ?_
 refine R.assign ?_
 refine R.assign ?_
 refine R.fin [0, 1] ?_
 refine W.seq ?_
 refine AW.seqR ?_
 refine R.move ?_
 refine R.fin [1, 6] ?_
 refine AW.block ?_
 refine AW.seqR ?_
 refine R.seql ?_
 refine R.assign ?_
 refine R.fin [1, 6, 7] ?_
 refine W.cond (fun ht7 => ?_) (fun ht7 => ?_)
 ·skip
  refine AW.seqR ?_
  refine R.move ?_
  refine R.eql ?_
  refine R.assign ?_
  refine R.assign ?_
  refine R.fin [4, 5] ?_
  refine AW.ret ?_
  refine K.blR ?_
  refine K.thR ?_
  first | (by_cases e0 : comparedM t c = (c == 0, true); exact K.fin (V.two V.tmp V.tmp) ⟨by rw [e0]; try rfl, rfl⟩; exfalso; refine e0 ?_; clear e0; simp_all [comparedM]; done) | (by_cases e0 : comparedM t c = (c != 0, true); exact K.fin (V.two V.tmp V.tmp) ⟨by rw [e0]; try rfl, rfl⟩; exfalso; refine e0 ?_; clear e0; simp_all [comparedM]; done) | (by_cases e0 : comparedM t c = (decide (c < 0), true); exact K.fin (V.two V.tmp V.tmp) ⟨by rw [e0]; try rfl, rfl⟩; exfalso; refine e0 ?_; clear e0; simp_all [comparedM]; done) | (by_cases e0 : comparedM t c = (decide (c ≤ 0), true); exact K.fin (V.two V.tmp V.tmp) ⟨by rw [e0]; try rfl, rfl⟩; exfalso; refine e0 ?_; clear e0; simp_all [comparedM]; done) | (by_cases e0 : comparedM t c = (decide (0 < c), true); exact K.fin (V.two V.tmp V.tmp) ⟨by rw [e0]; try rfl, rfl⟩; exfalso; refine e0 ?_; clear e0; simp_all [comparedM]; done) | (by_cases e0 : comparedM t c = (decide (0 ≤ c), true); exact K.fin (V.two V.tmp V.tmp) ⟨by rw [e0]; try rfl, rfl⟩; exfalso; refine e0 ?_; clear e0; simp_all [comparedM]; done) | (by_cases e0 : comparedM t c = (false, false); exact K.fin (V.two V.tmp V.tmp) ⟨by rw [e0]; try rfl, rfl⟩; exfalso; refine e0 ?_; clear e0; simp_all [comparedM]; done)
 ·skip
  refine AW.seqR ?_
  refine R.seql ?_
  refine R.assign ?_
  refine R.fin [1, 6, 11] ?_
  refine W.cond (fun ht11 => ?_) (fun ht11 => ?_)
  ·skip
   refine AW.seqR ?_
   refine R.move ?_
   refine R.neq ?_
   refine R.assign ?_
   refine R.assign ?_
   refine R.fin [4, 5] ?_
   refine AW.ret ?_
   refine K.blR ?_
   refine K.thR ?_
   first | (by_cases e0 : comparedM t c = (c == 0, true); exact K.fin (V.two V.tmp V.tmp) ⟨by rw [e0]; try rfl, rfl⟩; exfalso; refine e0 ?_; clear e0; simp_all [comparedM]; done) | (by_cases e0 : comparedM t c = (c != 0, true); exact K.fin (V.two V.tmp V.tmp) ⟨by rw [e0]; try rfl, rfl⟩; exfalso; refine e0 ?_; clear e0; simp_all [comparedM]; done) | (by_cases e0 : comparedM t c = (decide (c < 0), true); exact K.fin (V.two V.tmp V.tmp) ⟨by rw [e0]; try rfl, rfl⟩; exfalso; refine e0 ?_; clear e0; simp_all [comparedM]; done) | (by_cases e0 : comparedM t c = (decide (c ≤ 0), true); exact K.fin (V.two V.tmp V.tmp) ⟨by rw [e0]; try rfl, rfl⟩; exfalso; refine e0 ?_; clear e0; simp_all [comparedM]; done) | (by_cases e0 : comparedM t c = (decide (0 < c), true); exact K.fin (V.two V.tmp V.tmp) ⟨by rw [e0]; try rfl, rfl⟩; exfalso; refine e0 ?_; clear e0; simp_all [comparedM]; done) | (by_cases e0 : comparedM t c = (decide (0 ≤ c), true); exact K.fin (V.two V.tmp V.tmp) ⟨by rw [e0]; try rfl, rfl⟩; exfalso; refine e0 ?_; clear e0; simp_all [comparedM]; done) | (by_cases e0 : comparedM t c = (false, false); exact K.fin (V.two V.tmp V.tmp) ⟨by rw [e0]; try rfl, rfl⟩; exfalso; refine e0 ?_; clear e0; simp_all [comparedM]; done)
  ·skip
   refine AW.seqR ?_
   refine R.seql ?_
   refine R.assign ?_
   refine R.fin [1, 6, 15] ?_
   refine W.cond (fun ht15 => ?_) (fun ht15 => ?_)
   ·skip
    refine AW.seqR ?_
    refine R.move ?_
    refine R.lss ?_
    refine R.assign ?_
    refine R.assign ?_
    refine R.fin [4, 5] ?_
    refine AW.ret ?_
    refine K.blR ?_
    refine K.thR ?_
    first | (by_cases e0 : comparedM t c = (c == 0, true); exact K.fin (V.two V.tmp V.tmp) ⟨by rw [e0]; try rfl, rfl⟩; exfalso; refine e0 ?_; clear e0; simp_all [comparedM]; done) | (by_cases e0 : comparedM t c = (c != 0, true); exact K.fin (V.two V.tmp V.tmp) ⟨by rw [e0]; try rfl, rfl⟩; exfalso; refine e0 ?_; clear e0; simp_all [comparedM]; done) | (by_cases e0 : comparedM t c = (decide (c < 0), true); exact K.fin (V.two V.tmp V.tmp) ⟨by rw [e0]; try rfl, rfl⟩; exfalso; refine e0 ?_; clear e0; simp_all [comparedM]; done) | (by_cases e0 : comparedM t c = (decide (c ≤ 0), true); exact K.fin (V.two V.tmp V.tmp) ⟨by rw [e0]; try rfl, rfl⟩; exfalso; refine e0 ?_; clear e0; simp_all [comparedM]; done) | (by_cases e0 : comparedM t c = (decide (0 < c), true); exact K.fin (V.two V.tmp V.tmp) ⟨by rw [e0]; try rfl, rfl⟩; exfalso; refine e0 ?_; clear e0; simp_all [comparedM]; done) | (by_cases e0 : comparedM t c = (decide (0 ≤ c), true); exact K.fin (V.two V.tmp V.tmp) ⟨by rw [e0]; try rfl, rfl⟩; exfalso; refine e0 ?_; clear e0; simp_all [comparedM]; done) | (by_cases e0 : comparedM t c = (false, false); exact K.fin (V.two V.tmp V.tmp) ⟨by rw [e0]; try rfl, rfl⟩; exfalso; refine e0 ?_; clear e0; simp_all [comparedM]; done)
   ·skip
    refine AW.seqR ?_
    refine R.seql ?_
    refine R.assign ?_
    refine R.fin [1, 6, 19] ?_
    refine W.cond (fun ht19 => ?_) (fun ht19 => ?_)
    ·skip
     refine AW.seqR ?_
     refine R.move ?_
     refine R.leq ?_
     refine R.assign ?_
     refine R.assign ?_
     refine R.fin [4, 5] ?_
     refine AW.ret ?_
     refine K.blR ?_
     refine K.thR ?_
     first | (by_cases e0 : comparedM t c = (c == 0, true); exact K.fin (V.two V.tmp V.tmp) ⟨by rw [e0]; try rfl, rfl⟩; exfalso; refine e0 ?_; clear e0; simp_all [comparedM]; done) | (by_cases e0 : comparedM t c = (c != 0, true); exact K.fin (V.two V.tmp V.tmp) ⟨by rw [e0]; try rfl, rfl⟩; exfalso; refine e0 ?_; clear e0; simp_all [comparedM]; done) | (by_cases e0 : comparedM t c = (decide (c < 0), true); exact K.fin (V.two V.tmp V.tmp) ⟨by rw [e0]; try rfl, rfl⟩; exfalso; refine e0 ?_; clear e0; simp_all [comparedM]; done) | (by_cases e0 : comparedM t c = (decide (c ≤ 0), true); exact K.fin (V.two V.tmp V.tmp) ⟨by rw [e0]; try rfl, rfl⟩; exfalso; refine e0 ?_; clear e0; simp_all [comparedM]; done) | (by_cases e0 : comparedM t c = (decide (0 < c), true); exact K.fin (V.two V.tmp V.tmp) ⟨by rw [e0]; try rfl, rfl⟩; exfalso; refine e0 ?_; clear e0; simp_all [comparedM]; done) | (by_cases e0 : comparedM t c = (decide (0 ≤ c), true); exact K.fin (V.two V.tmp V.tmp) ⟨by rw [e0]; try rfl, rfl⟩; exfalso; refine e0 ?_; clear e0; simp_all [comparedM]; done) | (by_cases e0 : comparedM t c = (false, false); exact K.fin (V.two V.tmp V.tmp) ⟨by rw [e0]; try rfl, rfl⟩; exfalso; refine e0 ?_; clear e0; simp_all [comparedM]; done)
    ·skip
     refine AW.seqR ?_
     refine R.seql ?_
     refine R.assign ?_
     refine R.fin [1, 6, 23] ?_
     refine W.cond (fun ht23 => ?_) (fun ht23 => ?_)
     ·skip
      refine AW.seqR ?_
      refine R.move ?_
      refine R.gtr ?_
      refine R.assign ?_
      refine R.assign ?_
      refine R.fin [4, 5] ?_
      refine AW.ret ?_
      refine K.blR ?_
      refine K.thR ?_
      first | (by_cases e0 : comparedM t c = (c == 0, true); exact K.fin (V.two V.tmp V.tmp) ⟨by rw [e0]; try rfl, rfl⟩; exfalso; refine e0 ?_; clear e0; simp_all [comparedM]; done) | (by_cases e0 : comparedM t c = (c != 0, true); exact K.fin (V.two V.tmp V.tmp) ⟨by rw [e0]; try rfl, rfl⟩; exfalso; refine e0 ?_; clear e0; simp_all [comparedM]; done) | (by_cases e0 : comparedM t c = (decide (c < 0), true); exact K.fin (V.two V.tmp V.tmp) ⟨by rw [e0]; try rfl, rfl⟩; exfalso; refine e0 ?_; clear e0; simp_all [comparedM]; done) | (by_cases e0 : comparedM t c = (decide (c ≤ 0), true); exact K.fin (V.two V.tmp V.tmp) ⟨by rw [e0]; try rfl, rfl⟩; exfalso; refine e0 ?_; clear e0; simp_all [comparedM]; done) | (by_cases e0 : comparedM t c = (decide (0 < c), true); exact K.fin (V.two V.tmp V.tmp) ⟨by rw [e0]; try rfl, rfl⟩; exfalso; refine e0 ?_; clear e0; simp_all [comparedM]; done) | (by_cases e0 : comparedM t c = (decide (0 ≤ c), true); exact K.fin (V.two V.tmp V.tmp) ⟨by rw [e0]; try rfl, rfl⟩; exfalso; refine e0 ?_; clear e0; simp_all [comparedM]; done) | (by_cases e0 : comparedM t c = (false, false); exact K.fin (V.two V.tmp V.tmp) ⟨by rw [e0]; try rfl, rfl⟩; exfalso; refine e0 ?_; clear e0; simp_all [comparedM]; done)
     ·skip
      refine AW.seqR ?_
      refine R.seql ?_
      refine R.assign ?_
      refine R.fin [1, 27] ?_
      refine W.cond (fun ht27 => ?_) (fun ht27 => ?_)
      ·skip
       refine AW.seqR ?_
       refine R.move ?_
       refine R.geq ?_
       refine R.assign ?_
       refine R.assign ?_
       refine R.fin [4, 5] ?_
       refine AW.ret ?_
       refine K.blR ?_
       refine K.thR ?_
       first | (by_cases e0 : comparedM t c = (c == 0, true); exact K.fin (V.two V.tmp V.tmp) ⟨by rw [e0]; try rfl, rfl⟩; exfalso; refine e0 ?_; clear e0; simp_all [comparedM]; done) | (by_cases e0 : comparedM t c = (c != 0, true); exact K.fin (V.two V.tmp V.tmp) ⟨by rw [e0]; try rfl, rfl⟩; exfalso; refine e0 ?_; clear e0; simp_all [comparedM]; done) | (by_cases e0 : comparedM t c = (decide (c < 0), true); exact K.fin (V.two V.tmp V.tmp) ⟨by rw [e0]; try rfl, rfl⟩; exfalso; refine e0 ?_; clear e0; simp_all [comparedM]; done) | (by_cases e0 : comparedM t c = (decide (c ≤ 0), true); exact K.fin (V.two V.tmp V.tmp) ⟨by rw [e0]; try rfl, rfl⟩; exfalso; refine e0 ?_; clear e0; simp_all [comparedM]; done) | (by_cases e0 : comparedM t c = (decide (0 < c), true); exact K.fin (V.two V.tmp V.tmp) ⟨by rw [e0]; try rfl, rfl⟩; exfalso; refine e0 ?_; clear e0; simp_all [comparedM]; done) | (by_cases e0 : comparedM t c = (decide (0 ≤ c), true); exact K.fin (V.two V.tmp V.tmp) ⟨by rw [e0]; try rfl, rfl⟩; exfalso; refine e0 ?_; clear e0; simp_all [comparedM]; done) | (by_cases e0 : comparedM t c = (false, false); exact K.fin (V.two V.tmp V.tmp) ⟨by rw [e0]; try rfl, rfl⟩; exfalso; refine e0 ?_; clear e0; simp_all [comparedM]; done)
      ·skip
       refine AW.skip ?_
       refine K.blN ?_
       refine K.thN ?_
       refine AW.seqR ?_
       refine R.assign ?_
       refine R.assign ?_
       refine R.fin [4, 5] ?_
       refine AW.ret ?_
       first | (by_cases e0 : comparedM t c = (c == 0, true); exact K.fin (V.two V.tmp V.tmp) ⟨by rw [e0]; try rfl, rfl⟩; exfalso; refine e0 ?_; clear e0; simp_all [comparedM]; done) | (by_cases e0 : comparedM t c = (c != 0, true); exact K.fin (V.two V.tmp V.tmp) ⟨by rw [e0]; try rfl, rfl⟩; exfalso; refine e0 ?_; clear e0; simp_all [comparedM]; done) | (by_cases e0 : comparedM t c = (decide (c < 0), true); exact K.fin (V.two V.tmp V.tmp) ⟨by rw [e0]; try rfl, rfl⟩; exfalso; refine e0 ?_; clear e0; simp_all [comparedM]; done) | (by_cases e0 : comparedM t c = (decide (c ≤ 0), true); exact K.fin (V.two V.tmp V.tmp) ⟨by rw [e0]; try rfl, rfl⟩; exfalso; refine e0 ?_; clear e0; simp_all [comparedM]; done) | (by_cases e0 : comparedM t c = (decide (0 < c), true); exact K.fin (V.two V.tmp V.tmp) ⟨by rw [e0]; try rfl, rfl⟩; exfalso; refine e0 ?_; clear e0; simp_all [comparedM]; done) | (by_cases e0 : comparedM t c = (decide (0 ≤ c), true); exact K.fin (V.two V.tmp V.tmp) ⟨by rw [e0]; try rfl, rfl⟩; exfalso; refine e0 ?_; clear e0; simp_all [comparedM]; done) | (by_cases e0 : comparedM t c = (false, false); exact K.fin (V.two V.tmp V.tmp) ⟨by rw [e0]; try rfl, rfl⟩; exfalso; refine e0 ?_; clear e0; simp_all [comparedM]; done)

theorem c128 (a b : Int) (Hp : List AObj) : AFun Tryz.prog 128 [intA a, intA b] Hp (.tup [intA (subI a b).1, intA (subI a b).2]) := by
 refine ACall.body [.tmp 4, .tmp 5] [0, 1] Tryz.func128 Tryz.ntmps128 (fun d => ?_)
 refine AW.seqR ?_
 refine R.assign ?_
 refine R.assign ?_
 refine R.fin [0, 1] ?_
 refine AW.seqR ?_
 refine R.move ?_
 refine R.move ?_
 refine R.sub ?_
 refine R.assign ?_
 refine R.fin [0, 1, 6] ?_
 refine W.seq ?_
 refine AW.seqR ?_
 refine R.move ?_
 refine R.move ?_
 refine R.xor ?_
 refine R.move ?_
 refine R.move ?_
 refine R.xor ?_
 refine R.and ?_
 refine R.lss ?_
 refine R.fin [6, 17] ?_
 refine W.cond (fun ht17 => ?_) (fun ht17 => ?_)
 ·skip
  have hm : subI a b = (0, 4) := if_pos ht17
  refine AW.seqR ?_
  refine R.assign ?_
  refine R.assign ?_
  refine R.fin [4, 5] ?_
  refine AW.ret ?_
  refine K.thR ?_
  exact K.fin (V.two V.tmp V.tmp) ⟨by rw [hm], rfl⟩
 ·skip
  have hm : subI a b = (IntKind.i64.wrap (a - b), 0) := if_neg (by rw [ht17]; simp)
  refine AW.skip ?_
  refine K.thN ?_
  refine AW.seqR ?_
  refine R.move ?_
  refine R.assign ?_
  refine R.assign ?_
  refine R.fin [4, 5] ?_
  refine AW.ret ?_
  exact K.fin (V.two V.tmp V.tmp) ⟨by rw [hm], rfl⟩

theorem c153 (a b : Int) (Hp : List AObj) : AFun Tryz.prog 153 [intA a, intA b] Hp (.tup [intA (addI a b).1, intA (addI a b).2]) := by
 refine ACall.body [.tmp 4, .tmp 5] [0, 1] Tryz.func153 Tryz.ntmps153 (fun d => ?_)
 refine AW.seqR ?_
 refine R.assign ?_
 refine R.assign ?_
 refine R.fin [0, 1] ?_
 refine AW.seqR ?_
 refine R.move ?_
 refine R.move ?_
 refine R.add ?_
 refine R.assign ?_
 refine R.fin [0, 1, 6] ?_
 refine W.seq ?_
 refine AW.seqR ?_
 refine R.move ?_
 refine R.move ?_
 refine R.xor ?_
 refine R.move ?_
 refine R.move ?_
 refine R.xor ?_
 refine R.and ?_
 refine R.lss ?_
 refine R.fin [6, 17] ?_
 refine W.cond (fun ht17 => ?_) (fun ht17 => ?_)
 ·skip
  have hm : addI a b = (0, 4) := if_pos ht17
  refine AW.seqR ?_
  refine R.assign ?_
  refine R.assign ?_
  refine R.fin [4, 5] ?_
  refine AW.ret ?_
  refine K.thR ?_
  exact K.fin (V.two V.tmp V.tmp) ⟨by rw [hm], rfl⟩
 ·skip
  have hm : addI a b = (IntKind.i64.wrap (a + b), 0) := if_neg (by rw [ht17]; simp)
  refine AW.skip ?_
  refine K.thN ?_
  refine AW.seqR ?_
  refine R.move ?_
  refine R.assign ?_
  refine R.assign ?_
  refine R.fin [4, 5] ?_
  refine AW.ret ?_
  exact K.fin (V.two V.tmp V.tmp) ⟨by rw [hm], rfl⟩

theorem c107 (a : Int) (Hp : List AObj) : AFun Tryz.prog 107 [intA a] Hp (.tup [intA (subI 0 a).1, intA (subI 0 a).2]) := by
 refine ACall.body [.tmp 2, .tmp 3] [0] Tryz.func107 Tryz.ntmps107 (fun d => ?_)
 refine AW.seqR ?_
 refine R.assign ?_
 refine R.assign ?_
 refine R.fin [0] ?_
 refine AW.seqR ?_
 refine R.move ?_
 refine R.call Tryz.call128 (c128 _ _ _) ?_
 refine R.extract ?_
 refine R.extract ?_
 refine R.assign ?_
 refine R.assign ?_
 refine R.fin [2, 3] ?_
 refine AW.ret ?_
 exact K.fin (V.two V.tmp V.tmp)

theorem c180 (a : Int) (Hp : List AObj) : AFun Tryz.prog 180 [intA a] Hp (u64A (sizeI a)) := by
 refine ACall.body [.tmp 2] [0] Tryz.func180 Tryz.ntmps180 (fun d => ?_)
 refine AW.seqR ?_
 refine R.assign ?_
 refine R.fin [0] ?_
 refine W.seq ?_
 refine AW.seqR ?_
 refine R.move ?_
 refine R.lss ?_
 refine R.fin [0, 4] ?_
 refine W.cond (fun ht4 => ?_) (fun ht4 => ?_)
 ·skip
  have hm : sizeI a = IntKind.u64.wrap (0 - IntKind.u64.wrap a) := if_pos ht4
  refine AW.seqR ?_
  refine R.move ?_
  refine R.iconv Tryz.underlying2 Tryz.underlying116 ?_
  refine R.neg ?_
  refine R.assign ?_
  refine R.fin [2] ?_
  refine AW.ret ?_
  refine K.thR ?_
  exact K.fin (V.one V.tmp) ⟨by rw [hm], rfl⟩
 ·skip
  have hm : sizeI a = IntKind.u64.wrap a := if_neg (by rw [ht4]; simp)
  refine AW.skip ?_
  refine K.thN ?_
  refine AW.seqR ?_
  refine R.move ?_
  refine R.iconv Tryz.underlying2 Tryz.underlying116 ?_
  refine R.assign ?_
  refine R.fin [2] ?_
  refine AW.ret ?_
  exact K.fin (V.one V.tmp) ⟨by rw [hm], rfl⟩

theorem wrap_u (n : Int) : 0 ≤ IntKind.u64.wrap n ∧ IntKind.u64.wrap n < 18446744073709551616 := by rw [IntKind.wrap_u64]; omega
theorem size_u (a : Int) : 0 ≤ sizeI a ∧ sizeI a < 18446744073709551616 := by
 unfold sizeI
 split <;> exact wrap_u _
theorem c179 (x y : Int) (hx : 0 ≤ x ∧ x < 18446744073709551616) (hy : 0 ≤ y ∧ y < 18446744073709551616) (Hp : List AObj) : AFun Tryz.prog 179 [u64A x, u64A y] Hp (.tup [u64A (x * y / 18446744073709551616), u64A (x * y % 18446744073709551616)]) := by
 obtain ⟨m, rfl⟩ := Int.eq_ofNat_of_zero_le hx.1
 obtain ⟨n, rfl⟩ := Int.eq_ofNat_of_zero_le hy.1
 refine AFun.lib (xs := [.int .u64 m, .int .u64 n]) (v := .tuple #[.int .u64 ((m * n / 18446744073709551616 : Nat) : Int), .int .u64 ((m * n % 18446744073709551616 : Nat) : Int)]) (fun G w => rep_tup rfl (fun i y u hy hu => ?_)) (fun w hg => ?_)
 ·match i with
  | 0 => simp at hy hu; subst hy; subst hu; exact .v _ _
  | 1 => simp at hy hu; subst hy; subst hu; exact .v _ _
  | i + 2 => simp at hy
 refine (Any.bits_Mul64 Tryz.lays264 m n (by omega) (by omega) w).mono ?_
 rintro e w' ⟨rfl, rfl⟩
 exact ⟨rfl, Go.RowKit.Below.refl _ _⟩
theorem c152 (s t : Str) (Hp : List AObj) : AFun Tryz.prog 152 [strA s, strA t] Hp (intA (Lib.compareBytes s t)) := by
 refine AFun.lib (xs := [sv s, sv t]) (v := .int .i64 (Lib.compareBytes s t)) (fun G w => .v _ _) (fun w hg => ?_)
 refine (Any.strings_Compare Tryz.lays106 ⟨s.toArray⟩ ⟨t.toArray⟩ w).mono ?_
 rintro e w' ⟨rfl, rfl⟩
 exact ⟨rfl, Go.RowKit.Below.refl _ _⟩
theorem c154 (a b : Int) (Hp : List AObj) : AFun Tryz.prog 154 [intA a, intA b] Hp (.tup [intA (mulI a b).1, intA (mulI a b).2]) := by
 refine ACall.body [.tmp 4, .tmp 5] [0, 1] Tryz.func154 Tryz.ntmps154 (fun d => ?_)
 refine AW.seqR ?_
 refine R.assign ?_
 refine R.assign ?_
 refine R.fin [0, 1] ?_
 refine AW.seqR ?_
 refine R.move ?_
 refine R.call Tryz.call180 (c180 _ _) ?_
 refine R.move ?_
 refine R.call Tryz.call180 (c180 _ _) ?_
 refine R.call Tryz.call179 (c179 _ _ (size_u a) (size_u b) _) ?_
 refine R.move ?_
 refine R.extract ?_
 refine R.extract ?_
 refine R.assign ?_
 refine R.assign ?_
 refine R.fin [0, 1, 6, 7] ?_
 refine AW.seqR ?_
 refine R.move ?_
 refine R.lss ?_
 refine R.move ?_
 refine R.lss ?_
 refine R.bneq Tryz.underlying4 ?_
 refine R.assign ?_
 refine R.fin [6, 7, 8] ?_
 refine AW.seqR ?_
 refine R.assign ?_
 refine R.fin [6, 7, 8, 9] ?_
 refine W.seq ?_
 refine AW.seqR ?_
 refine R.move ?_
 refine R.fin [6, 7, 8, 9, 23] ?_
 refine W.cond (fun ht23 => ?_) (fun ht23 => ?_)
 ·skip
  refine AW.region ?_
  refine R.move ?_
  refine R.add ?_
  refine R.assign ?_
  refine R.fin [6, 7, 8, 9] ?_
  refine K.thN ?_
  refine W.seq ?_
  refine AW.block ?_
  refine AW.seqR ?_
  refine R.move ?_
  refine R.gtr ?_
  refine R.move ?_
  refine G.move ?_
  refine G.move ?_
  refine G.gtr ?_
  refine R.pickOr ?_
  refine R.assign ?_
  refine R.fin [7, 8, 26] ?_
  refine W.cond (fun ht26 => ?_) (fun ht26 => ?_)
  ·skip
   refine AW.seqR ?_
   refine R.assign ?_
   refine R.assign ?_
   refine R.fin [4, 5] ?_
   refine AW.ret ?_
   refine K.blR ?_
   refine K.thR ?_
   exact K.fin (V.two V.tmp V.tmp) ⟨by
    have w1 : IntKind.u64.wrap 9223372036854775808 = 9223372036854775808 := rfl
    simp_all [mulI]
    try first | (rw [if_pos ht26]; simp; done) | (rw [if_neg (by omega)]; simp; done), rfl⟩
  ·skip
   refine AW.seqR ?_
   refine R.move ?_
   refine R.assign ?_
   refine R.fin [7, 34] ?_
   refine W.cond (fun ht34 => ?_) (fun ht34 => ?_)
   ·skip
    refine AW.seqR ?_
    refine R.move ?_
    refine R.neg ?_
    refine R.iconv Tryz.underlying116 Tryz.underlying2 ?_
    refine R.assign ?_
    refine R.assign ?_
    refine R.fin [4, 5] ?_
    refine AW.ret ?_
    refine K.blR ?_
    refine K.thR ?_
    exact K.fin (V.two V.tmp V.tmp) ⟨by
     have w1 : IntKind.u64.wrap 9223372036854775808 = 9223372036854775808 := rfl
     simp_all [mulI]
     try first | (rw [if_pos ht26]; simp; done) | (rw [if_neg (by omega)]; simp; done), rfl⟩
   ·skip
    refine AW.skip ?_
    refine K.blN ?_
    refine K.thN ?_
    refine AW.seqR ?_
    refine R.move ?_
    refine R.iconv Tryz.underlying116 Tryz.underlying2 ?_
    refine R.assign ?_
    refine R.assign ?_
    refine R.fin [4, 5] ?_
    refine AW.ret ?_
    exact K.fin (V.two V.tmp V.tmp) ⟨by
     have w1 : IntKind.u64.wrap 9223372036854775808 = 9223372036854775808 := rfl
     simp_all [mulI]
     try first | (rw [if_pos ht26]; simp; done) | (rw [if_neg (by omega)]; simp; done), rfl⟩
 ·skip
  refine AW.skip ?_
  refine K.thN ?_
  refine W.seq ?_
  refine AW.block ?_
  refine AW.seqR ?_
  refine R.move ?_
  refine R.gtr ?_
  refine R.move ?_
  refine G.move ?_
  refine G.move ?_
  refine G.gtr ?_
  refine R.pickOr ?_
  refine R.assign ?_
  refine R.fin [7, 8, 26] ?_
  refine W.cond (fun ht26 => ?_) (fun ht26 => ?_)
  ·skip
   refine AW.seqR ?_
   refine R.assign ?_
   refine R.assign ?_
   refine R.fin [4, 5] ?_
   refine AW.ret ?_
   refine K.blR ?_
   refine K.thR ?_
   exact K.fin (V.two V.tmp V.tmp) ⟨by
    have w1 : IntKind.u64.wrap 9223372036854775808 = 9223372036854775808 := rfl
    simp_all [mulI]
    try first | (rw [if_pos ht26]; simp; done) | (rw [if_neg (by omega)]; simp; done), rfl⟩
  ·skip
   refine AW.seqR ?_
   refine R.move ?_
   refine R.assign ?_
   refine R.fin [7, 34] ?_
   refine W.cond (fun ht34 => ?_) (fun ht34 => ?_)
   ·skip
    refine AW.seqR ?_
    refine R.move ?_
    refine R.neg ?_
    refine R.iconv Tryz.underlying116 Tryz.underlying2 ?_
    refine R.assign ?_
    refine R.assign ?_
    refine R.fin [4, 5] ?_
    refine AW.ret ?_
    refine K.blR ?_
    refine K.thR ?_
    exact K.fin (V.two V.tmp V.tmp) ⟨by
     have w1 : IntKind.u64.wrap 9223372036854775808 = 9223372036854775808 := rfl
     simp_all [mulI]
     try first | (rw [if_pos ht26]; simp; done) | (rw [if_neg (by omega)]; simp; done), rfl⟩
   ·skip
    refine AW.skip ?_
    refine K.blN ?_
    refine K.thN ?_
    refine AW.seqR ?_
    refine R.move ?_
    refine R.iconv Tryz.underlying116 Tryz.underlying2 ?_
    refine R.assign ?_
    refine R.assign ?_
    refine R.fin [4, 5] ?_
    refine AW.ret ?_
    exact K.fin (V.two V.tmp V.tmp) ⟨by
     have w1 : IntKind.u64.wrap 9223372036854775808 = 9223372036854775808 := rfl
     simp_all [mulI]
     try first | (rw [if_pos ht26]; simp; done) | (rw [if_neg (by omega)]; simp; done), rfl⟩

theorem c155 (a b : Int) (Hp : List AObj) : AFun Tryz.prog 155 [intA a, intA b] Hp (.tup [intA (divI a b).1, intA (divI a b).2]) := by
 refine ACall.body [.tmp 4, .tmp 5] [0, 1] Tryz.func155 Tryz.ntmps155 (fun d => ?_)
 refine AW.seqR ?_
 refine R.assign ?_
 refine R.assign ?_
 refine R.fin [0, 1] ?_
 refine W.seq ?_
 refine AW.block ?_
 refine AW.seqR ?_
 refine R.move ?_
 refine R.eql ?_
 refine R.assign ?_
 refine R.fin [0, 1, 6] ?_
 refine W.cond (fun ht6 => ?_) (fun ht6 => ?_)
 ·skip
  refine AW.seqR ?_
  refine R.assign ?_
  refine R.assign ?_
  refine R.fin [4, 5] ?_
  refine AW.ret ?_
  refine K.blR ?_
  refine K.thR ?_
  first | (by_cases e0 : divI a b = (0, 5); exact K.fin (V.two V.tmp V.tmp) ⟨by rw [e0]; try rfl, rfl⟩; exfalso; refine e0 ?_; clear e0; simp_all [divI]; done) | (by_cases e0 : divI a b = (0, 4); exact K.fin (V.two V.tmp V.tmp) ⟨by rw [e0]; try rfl, rfl⟩; exfalso; refine e0 ?_; clear e0; simp_all [divI]; done) | (by_cases e0 : divI a b = (IntKind.i64.wrap (a.tdiv b), 0); exact K.fin (V.two V.tmp V.tmp) ⟨by rw [e0]; try rfl, rfl⟩; exfalso; refine e0 ?_; clear e0; simp_all [divI]; done)
 ·skip
  refine AW.seqR ?_
  refine R.move ?_
  refine R.eql ?_
  refine R.move ?_
  refine G.move ?_
  refine G.eql ?_
  refine R.pickAnd ?_
  refine R.assign ?_
  refine R.fin [0, 1, 9] ?_
  refine W.cond (fun ht9 => ?_) (fun ht9 => ?_)
  ·skip
   refine AW.seqR ?_
   refine R.assign ?_
   refine R.assign ?_
   refine R.fin [4, 5] ?_
   refine AW.ret ?_
   refine K.blR ?_
   refine K.thR ?_
   first | (by_cases e0 : divI a b = (0, 5); exact K.fin (V.two V.tmp V.tmp) ⟨by rw [e0]; try rfl, rfl⟩; exfalso; refine e0 ?_; clear e0; simp_all [divI]; done) | (by_cases e0 : divI a b = (0, 4); exact K.fin (V.two V.tmp V.tmp) ⟨by rw [e0]; try rfl, rfl⟩; exfalso; refine e0 ?_; clear e0; simp_all [divI]; done) | (by_cases e0 : divI a b = (IntKind.i64.wrap (a.tdiv b), 0); exact K.fin (V.two V.tmp V.tmp) ⟨by rw [e0]; try rfl, rfl⟩; exfalso; refine e0 ?_; clear e0; simp_all [divI]; done)
  ·skip
   refine AW.skip ?_
   refine K.blN ?_
   refine K.thN ?_
   refine AW.seqR ?_
   refine R.move ?_
   refine R.move ?_
   refine R.quo (h0 := by simpa using ht6) ?_
   refine R.assign ?_
   refine R.assign ?_
   refine R.fin [4, 5] ?_
   refine AW.ret ?_
   first | (by_cases e0 : divI a b = (0, 5); exact K.fin (V.two V.tmp V.tmp) ⟨by rw [e0]; try rfl, rfl⟩; exfalso; refine e0 ?_; clear e0; simp_all [divI]; done) | (by_cases e0 : divI a b = (0, 4); exact K.fin (V.two V.tmp V.tmp) ⟨by rw [e0]; try rfl, rfl⟩; exfalso; refine e0 ?_; clear e0; simp_all [divI]; done) | (by_cases e0 : divI a b = (IntKind.i64.wrap (a.tdiv b), 0); exact K.fin (V.two V.tmp V.tmp) ⟨by rw [e0]; try rfl, rfl⟩; exfalso; refine e0 ?_; clear e0; simp_all [divI]; done)

theorem tmod_wrap {a b : Int} (ha : -9223372036854775808 ≤ a ∧ a ≤ 9223372036854775807) : IntKind.i64.wrap (a.tmod b) = a.tmod b := by
 have h1 : (a.tmod b).natAbs ≤ a.natAbs := by rw [Int.natAbs_tmod]; exact Nat.mod_le _ _
 rw [IntKind.wrap_i64]
 rcases Int.le_total 0 a with h | h
 ·have := Int.tmod_nonneg b h
  omega
 ·have h2 := Int.tmod_nonneg b (show 0 ≤ -a by omega)
  rw [Int.neg_tmod] at h2
  omega
theorem c156 (a b : Int) (ha : -9223372036854775808 ≤ a ∧ a ≤ 9223372036854775807) (Hp : List AObj) : AFun Tryz.prog 156 [intA a, intA b] Hp (.tup [intA (remI a b).1, intA (remI a b).2]) := by
 refine ACall.body [.tmp 4, .tmp 5] [0, 1] Tryz.func156 Tryz.ntmps156 (fun d => ?_)
 refine AW.seqR ?_
 refine R.assign ?_
 refine R.assign ?_
 refine R.fin [0, 1] ?_
 refine W.seq ?_
 refine AW.seqR ?_
 refine R.move ?_
 refine R.fin [0, 1, 6] ?_
 refine AW.block ?_
 refine AW.seqR ?_
 refine R.eql ?_
 refine R.assign ?_
 refine R.fin [0, 1, 6, 7] ?_
 refine W.cond (fun ht7 => ?_) (fun ht7 => ?_)
 ·skip
  have hm : remI a b = (0, 5) := if_pos ht7
  refine AW.seqR ?_
  refine R.assign ?_
  refine R.assign ?_
  refine R.fin [4, 5] ?_
  refine AW.ret ?_
  refine K.blR ?_
  refine K.thR ?_
  exact K.fin (V.two V.tmp V.tmp) ⟨by rw [hm], rfl⟩
 ·skip
  refine AW.seqR ?_
  refine R.eql ?_
  refine R.assign ?_
  refine R.fin [0, 1, 9] ?_
  refine W.cond (fun ht9 => ?_) (fun ht9 => ?_)
  ·skip
   have hm : remI a b = (0, 0) := by unfold remI; rw [if_neg (by rw [ht7]; simp), if_pos ht9]
   refine AW.seqR ?_
   refine R.assign ?_
   refine R.assign ?_
   refine R.fin [4, 5] ?_
   refine AW.ret ?_
   refine K.blR ?_
   refine K.thR ?_
   exact K.fin (V.two V.tmp V.tmp) ⟨by rw [hm], rfl⟩
  ·skip
   have hm : remI a b = (a.tmod b, 0) := by unfold remI; rw [if_neg (by rw [ht7]; simp), if_neg (by rw [ht9]; simp), tmod_wrap ha]
   refine AW.skip ?_
   refine K.blN ?_
   refine K.thN ?_
   refine AW.seqR ?_
   refine R.move ?_
   refine R.move ?_
   refine R.rem (h0 := by simpa using ht7) ?_
   refine R.assign ?_
   refine R.assign ?_
   refine R.fin [4, 5] ?_
   refine AW.ret ?_
   exact K.fin (V.two V.tmp V.tmp) ⟨by rw [hm], rfl⟩

theorem c176 (a : Int) (Hp : List AObj) : AFun Tryz.prog 176 [intA a] Hp (boolA false) := by
 refine ACall.body [.tmp 2] [0] Tryz.func176 Tryz.ntmps176 (fun d => ?_)
 refine AW.seqR ?_
 refine R.assign ?_
 refine R.fin [0] ?_
 refine AW.seqR ?_
 refine R.move ?_
 refine R.move ?_
 refine R.neq ?_
 refine R.assign ?_
 refine R.fin [2] ?_
 refine AW.ret ?_
 exact K.fin (V.one V.tmp) ⟨by simp, rfl⟩

theorem c177 (a : Int) (Hp : List AObj) : AFun Tryz.prog 177 [intA a] Hp (boolA false) := by
 refine ACall.body [.tmp 2] [0] Tryz.func177 Tryz.ntmps177 (fun d => ?_)
 refine AW.seqR ?_
 refine R.assign ?_
 refine R.fin [0] ?_
 refine AW.seqR ?_
 refine R.move ?_
 refine R.move ?_
 refine R.neq ?_
 refine R.assign ?_
 refine R.fin [2] ?_
 refine AW.ret ?_
 exact K.fin (V.one V.tmp) ⟨by simp, rfl⟩

theorem c150 (a b : Int) (Hp : List AObj) : AFun Tryz.prog 150 [intA a, intA b] Hp (intA (cmpI a b)) := by
 refine ACall.body [.tmp 4] [0, 1] Tryz.func150 Tryz.ntmps150 (fun d => ?_)
 refine AW.seqR ?_
 refine R.assign ?_
 refine R.fin [0, 1] ?_
 refine AW.seqR ?_
 refine R.move ?_
 refine R.call Tryz.call176 (c176 _ _) ?_
 refine R.assign ?_
 refine R.fin [0, 1, 5] ?_
 refine AW.seqR ?_
 refine R.move ?_
 refine R.call Tryz.call176 (c176 _ _) ?_
 refine R.assign ?_
 refine R.fin [0, 1, 5, 6] ?_
 refine W.seq ?_
 refine AW.seqR ?_
 refine R.move ?_
 refine R.fin [0, 1, 6, 11] ?_
 refine W.cond (fun ht11 => ?_) (fun ht11 => ?_)
 ·skip
  cases ht11
 ·skip
  refine AW.skip ?_
  refine K.thN ?_
  refine W.seq ?_
  refine AW.seqR ?_
  refine R.move ?_
  refine R.fin [0, 1, 13] ?_
  refine W.cond (fun ht13 => ?_) (fun ht13 => ?_)
  ·skip
   cases ht13
  ·skip
   refine AW.skip ?_
   refine K.thN ?_
   refine W.seq ?_
   refine AW.seqR ?_
   refine R.move ?_
   refine R.move ?_
   refine R.lss ?_
   refine R.fin [0, 1, 16] ?_
   refine W.cond (fun ht16 => ?_) (fun ht16 => ?_)
   ·skip
    have hm : cmpI a b = -1 := if_pos ht16
    refine AW.seqR ?_
    refine R.assign ?_
    refine R.fin [4] ?_
    refine AW.ret ?_
    refine K.thR ?_
    exact K.fin (V.one V.tmp) ⟨by rw [hm], rfl⟩
   ·skip
    refine AW.skip ?_
    refine K.thN ?_
    refine W.seq ?_
    refine AW.seqR ?_
    refine R.move ?_
    refine R.move ?_
    refine R.gtr ?_
    refine R.fin [19] ?_
    refine W.cond (fun ht19 => ?_) (fun ht19 => ?_)
    ·skip
     have hm : cmpI a b = 1 := by unfold cmpI; rw [if_neg (by rw [ht16]; simp), if_pos ht19]
     refine AW.seqR ?_
     refine R.assign ?_
     refine R.fin [4] ?_
     refine AW.ret ?_
     refine K.thR ?_
     exact K.fin (V.one V.tmp) ⟨by rw [hm], rfl⟩
    ·skip
     have hm : cmpI a b = 0 := by unfold cmpI; rw [if_neg (by rw [ht16]; simp), if_neg (by rw [ht19]; simp)]
     refine AW.skip ?_
     refine K.thN ?_
     refine AW.seqR ?_
     refine R.assign ?_
     refine R.fin [4] ?_
     refine AW.ret ?_
     exact K.fin (V.one V.tmp) ⟨by rw [hm], rfl⟩

theorem c151 (a b : Int) (Hp : List AObj) : AFun Tryz.prog 151 [intA a, intA b] Hp (intA (cmpI a b)) := by
 refine ACall.body [.tmp 4] [0, 1] Tryz.func151 Tryz.ntmps151 (fun d => ?_)
 refine AW.seqR ?_
 refine R.assign ?_
 refine R.fin [0, 1] ?_
 refine AW.seqR ?_
 refine R.move ?_
 refine R.call Tryz.call177 (c177 _ _) ?_
 refine R.assign ?_
 refine R.fin [0, 1, 5] ?_
 refine AW.seqR ?_
 refine R.move ?_
 refine R.call Tryz.call177 (c177 _ _) ?_
 refine R.assign ?_
 refine R.fin [0, 1, 5, 6] ?_
 refine W.seq ?_
 refine AW.seqR ?_
 refine R.move ?_
 refine R.fin [0, 1, 6, 11] ?_
 refine W.cond (fun ht11 => ?_) (fun ht11 => ?_)
 ·skip
  cases ht11
 ·skip
  refine AW.skip ?_
  refine K.thN ?_
  refine W.seq ?_
  refine AW.seqR ?_
  refine R.move ?_
  refine R.fin [0, 1, 13] ?_
  refine W.cond (fun ht13 => ?_) (fun ht13 => ?_)
  ·skip
   cases ht13
  ·skip
   refine AW.skip ?_
   refine K.thN ?_
   refine W.seq ?_
   refine AW.seqR ?_
   refine R.move ?_
   refine R.move ?_
   refine R.lss ?_
   refine R.fin [0, 1, 16] ?_
   refine W.cond (fun ht16 => ?_) (fun ht16 => ?_)
   ·skip
    have hm : cmpI a b = -1 := if_pos ht16
    refine AW.seqR ?_
    refine R.assign ?_
    refine R.fin [4] ?_
    refine AW.ret ?_
    refine K.thR ?_
    exact K.fin (V.one V.tmp) ⟨by rw [hm], rfl⟩
   ·skip
    refine AW.skip ?_
    refine K.thN ?_
    refine W.seq ?_
    refine AW.seqR ?_
    refine R.move ?_
    refine R.move ?_
    refine R.gtr ?_
    refine R.fin [19] ?_
    refine W.cond (fun ht19 => ?_) (fun ht19 => ?_)
    ·skip
     have hm : cmpI a b = 1 := by unfold cmpI; rw [if_neg (by rw [ht16]; simp), if_pos ht19]
     refine AW.seqR ?_
     refine R.assign ?_
     refine R.fin [4] ?_
     refine AW.ret ?_
     refine K.thR ?_
     exact K.fin (V.one V.tmp) ⟨by rw [hm], rfl⟩
    ·skip
     have hm : cmpI a b = 0 := by unfold cmpI; rw [if_neg (by rw [ht16]; simp), if_neg (by rw [ht19]; simp)]
     refine AW.skip ?_
     refine K.thN ?_
     refine AW.seqR ?_
     refine R.assign ?_
     refine R.fin [4] ?_
     refine AW.ret ?_
     exact K.fin (V.one V.tmp) ⟨by rw [hm], rfl⟩

theorem orI_step {l : List Int} {x : Nat} (h : x < l.length) (hx : orI l = orI (l.drop x)) : orI l = if l[x] != 0 then l[x] else orI (l.drop (x + 1)) := by rw [hx, List.drop_eq_getElem_cons h, orI]
theorem c149 (l : List Int) (hl : l.length ≤ 1048576) (Hp : List AObj) : AFun Tryz.prog 149 [intsA l] Hp (intA (orI l)) := by
 refine ACall.body [.tmp 2] [0] Tryz.func149 Tryz.ntmps149 (fun d => ?_)
 refine AW.seqR ?_
 refine R.assign ?_
 refine R.fin [0] ?_
 refine AW.seqR ?_
 refine R.assign ?_
 refine R.fin [0, 3] ?_
 refine W.seq ?_
 refine AW.seqR ?_
 refine R.move ?_
 refine R.len Tryz.underlying155 ?_
 refine R.move ?_
 refine R.fin [3, 6, 7, 8] ?_
 refine AW.loopC (α := Nat) (fun x => ⟨18, setF 3 (intA 0) (setF 6 (intsA l) (setF 7 (intA (l.length : Nat)) (setF 8 (intA (x : Nat)) (fun _ => .any)))), Hp, [], [], none⟩) (fun x => x ≤ l.length ∧ orI l = orI (l.drop x)) (fun x => l.length - x) (0) ⟨Nat.zero_le _, rfl⟩ (StLe.of_eq (by simp)) rfl (fun x hx => ?_)
 refine AW.seqR ?_
 refine R.lss ?_
 refine R.fin [3, 6, 7, 8, 9] ?_
 refine W.condX (fun ht9 => ?_) (fun ht9 => ?_)
 ·skip
  have hlt : x < l.length := by simpa using ht9
  have hst := orI_step hlt hx.2
  refine W.seq ?_
  refine AW.block ?_
  refine AW.seqR ?_
  refine R.indexAddr (x) (intA l[x]) Tryz.underlying155 Tryz.sizeOf3 (getMap hlt) ?_
  refine R.loadRo Tryz.isAgg3 ?_
  refine R.assign ?_
  refine R.fin [3, 5, 6, 7, 8] ?_
  refine AW.seqR ?_
  refine R.move ?_
  refine R.move ?_
  refine R.neq ?_
  refine R.fin [3, 5, 6, 7, 8, 14] ?_
  refine W.cond (fun ht14 => ?_) (fun ht14 => ?_)
  ·skip
   have hm : orI l = l[x] := by rw [hst, if_pos ht14]
   refine AW.seqR ?_
   refine R.move ?_
   refine R.assign ?_
   refine R.fin [2] ?_
   refine AW.ret ?_
   refine K.blR ?_
   refine K.thR ?_
   refine K.lpR ?_
   refine K.thR ?_
   exact K.fin (V.one V.tmp) ⟨by rw [hm], rfl⟩
  ·skip
   have hn : orI l = orI (l.drop (x + 1)) := by rw [hst, if_neg (by rw [ht14]; simp)]
   refine AW.skip ?_
   refine K.blN ?_
   refine K.thN ?_
   refine AW.region ?_
   refine R.add64 ?_
   refine R.move ?_
   refine R.fin [3, 6, 7, 8] ?_
   refine K.lpN (x + 1) ⟨hlt, hn⟩ (by omega) ?_
   exact StCut.of_eq (by simp)
 ·skip
  have hxe : l.length ≤ x := by simpa using ht9
  have hm : orI l = 0 := by rw [hx.2, List.drop_of_length_le hxe]; rfl
  refine K.lpE ?_
  refine K.thN ?_
  refine AW.seqR ?_
  refine R.move ?_
  refine R.assign ?_
  refine R.fin [2] ?_
  refine AW.ret ?_
  exact K.fin (V.one V.tmp) ⟨by rw [hm], rfl⟩

theorem c124 (a b : Val) (Hp : List AObj) : AFun Tryz.prog 124 [valA a, valA b] Hp (intA (cmpV a b)) := by
 refine ACall.body [.tmp 4] [0, 1] Tryz.func124 Tryz.ntmps124 (fun d => ?_)
 refine AW.seqR ?_
 refine R.boxRo ?_
 refine R.boxRo ?_
 refine R.assign ?_
 refine R.fin [2, 3] ?_
 refine W.seq ?_
 refine AW.seqR ?_
 refine R.loadRoN Tryz.isAgg24 Tryz.sizeOf24 ?_
 refine R.call Tryz.call42 (c42 a _) ?_
 refine R.not ?_
 refine R.move ?_
 refine G.loadRoN Tryz.isAgg24 Tryz.sizeOf24 ?_
 refine G.call Tryz.call42 (fun hB => c42 b _) ?_
 refine G.not ?_
 refine R.pickOr ?_
 refine R.fin [2, 3, 12] ?_
 refine W.cond (fun ht12 => ?_) (fun ht12 => ?_)
 ·skip
  have hm : cmpV a b = 0 := if_pos ht12
  refine AW.seqR ?_
  refine R.assign ?_
  refine R.fin [4] ?_
  refine AW.ret ?_
  refine K.thR ?_
  exact K.fin (V.one V.tmp) ⟨by rw [hm], rfl⟩
 ·skip
  have hm : cmpV a b = orI [cmpI a.kind b.kind, cmpI a.n b.n, Lib.compareBytes a.s b.s] := if_neg (by rw [ht12]; simp)
  refine AW.skip ?_
  refine K.thN ?_
  refine W.draw [0, 1, 0, 4, 15, 0, 32, 0, 128, 511, 0, 1024, 0, 4096, 16383, 32767, 65535, 131071] 14 Tryzmixed (by kernel_rfl) ?_
  refine D.fieldAddrRo (off := 0) Tryz.underlying24 Tryz.sizeOf3 ?_
  refine D.loadRo Tryz.isAgg3 ?_
  refine D.fieldAddrRo (off := 0) Tryz.underlying24 Tryz.sizeOf3 ?_
  refine D.loadRo Tryz.isAgg3 ?_
  refine D.call Tryz.call150 (c150 _ _ _) ?_
  refine D.fieldAddrRo (off := 1) Tryz.underlying24 Tryz.sizeOf2 ?_
  refine D.loadRo Tryz.isAgg2 ?_
  refine D.fieldAddrRo (off := 1) Tryz.underlying24 Tryz.sizeOf2 ?_
  refine D.loadRo Tryz.isAgg2 ?_
  refine D.call Tryz.call151 (c151 _ _ _) ?_
  refine D.fieldAddrRo (off := 2) Tryz.underlying24 Tryz.sizeOf9 ?_
  refine D.loadRo Tryz.isAgg9 ?_
  refine D.fieldAddrRo (off := 2) Tryz.underlying24 Tryz.sizeOf9 ?_
  refine D.loadRo Tryz.isAgg9 ?_
  refine D.tail ?_
  refine R.call Tryz.call152 (c152 _ _ _) ?_
  refine R.buildSlice Tryz.underlying155 Tryz.sizeOf3 Tryz.zeroValue3 ?_
  refine R.call Tryz.call149 (c149 [cmpI a.kind b.kind, cmpI a.n b.n, Lib.compareBytes a.s b.s] (by simp) _) ?_
  refine R.assign ?_
  refine R.fin [4] ?_
  refine AW.ret ?_
  exact K.fin (V.one V.tmp) ⟨by rw [hm], rfl⟩

end Go.SX.Nb
namespace Go.SX.Nb
open Go Go.SX Go.Proofs
variable [ErrAt]
set_option maxRecDepth 4000
theorem c126 (t : Str) (a b : Int) (ha : -9223372036854775808 ≤ a ∧ a ≤ 9223372036854775807) (Hp : List AObj) : AFun Tryz.prog 126 [strA t, intA a, intA b] Hp (resA (wholeR (arithI t a b))) := by
 refine ACall.body [.cell 6 24, .tmp 7] [0, 1, 2] Tryz.func126 Tryz.ntmps126 (fun d => ?_)
 refine AW.seqR ?_
 refine R.alloc Tryz.zeroValue24 ?_
 refine R.assign ?_
 refine R.fin [0, 1, 2, 6] ?_
 refine W.seq ?_
 refine AW.seqR ?_
 refine R.move ?_
 refine R.fin [1, 2, 6, 8] ?_
 refine AW.block ?_
 refine AW.seqR ?_
 refine R.seql ?_
 refine R.assign ?_
 refine R.fin [1, 2, 6, 8, 9] ?_
 refine W.cond (fun ht9 => ?_) (fun ht9 => ?_)
 ·skip
  refine AW.seqR ?_
  refine R.move ?_
  refine R.move ?_
  refine R.call Tryz.call153 (c153 _ _ _) ?_
  refine R.extract ?_
  refine R.extract ?_
  refine R.call Tryz.call106 (c106 _ _ _) ?_
  refine R.extract ?_
  refine R.extract ?_
  refine R.storeOwn Tryz.sizeOf24 ?_
  refine R.assign ?_
  refine R.fin [6, 7] ?_
  refine AW.ret ?_
  refine K.blR ?_
  refine K.thR ?_
  first | (by_cases e0 : arithI t a b = addI a b; exact K.fin (V.two (V.cellN Tryz.isAgg24 Tryz.sizeOf24) V.tmp) ⟨by rw [e0]; try rfl, rfl⟩; exfalso; refine e0 ?_; clear e0; simp_all [arithI]; done) | (by_cases e0 : arithI t a b = subI a b; exact K.fin (V.two (V.cellN Tryz.isAgg24 Tryz.sizeOf24) V.tmp) ⟨by rw [e0]; try rfl, rfl⟩; exfalso; refine e0 ?_; clear e0; simp_all [arithI]; done) | (by_cases e0 : arithI t a b = mulI a b; exact K.fin (V.two (V.cellN Tryz.isAgg24 Tryz.sizeOf24) V.tmp) ⟨by rw [e0]; try rfl, rfl⟩; exfalso; refine e0 ?_; clear e0; simp_all [arithI]; done) | (by_cases e0 : arithI t a b = divI a b; exact K.fin (V.two (V.cellN Tryz.isAgg24 Tryz.sizeOf24) V.tmp) ⟨by rw [e0]; try rfl, rfl⟩; exfalso; refine e0 ?_; clear e0; simp_all [arithI]; done) | (by_cases e0 : arithI t a b = remI a b; exact K.fin (V.two (V.cellN Tryz.isAgg24 Tryz.sizeOf24) V.tmp) ⟨by rw [e0]; try rfl, rfl⟩; exfalso; refine e0 ?_; clear e0; simp_all [arithI]; done)
 ·skip
  refine AW.seqR ?_
  refine R.seql ?_
  refine R.assign ?_
  refine R.fin [1, 2, 6, 8, 19] ?_
  refine W.cond (fun ht19 => ?_) (fun ht19 => ?_)
  ·skip
   refine AW.seqR ?_
   refine R.move ?_
   refine R.move ?_
   refine R.call Tryz.call128 (c128 _ _ _) ?_
   refine R.extract ?_
   refine R.extract ?_
   refine R.call Tryz.call106 (c106 _ _ _) ?_
   refine R.extract ?_
   refine R.extract ?_
   refine R.storeOwn Tryz.sizeOf24 ?_
   refine R.assign ?_
   refine R.fin [6, 7] ?_
   refine AW.ret ?_
   refine K.blR ?_
   refine K.thR ?_
   first | (by_cases e0 : arithI t a b = addI a b; exact K.fin (V.two (V.cellN Tryz.isAgg24 Tryz.sizeOf24) V.tmp) ⟨by rw [e0]; try rfl, rfl⟩; exfalso; refine e0 ?_; clear e0; simp_all [arithI]; done) | (by_cases e0 : arithI t a b = subI a b; exact K.fin (V.two (V.cellN Tryz.isAgg24 Tryz.sizeOf24) V.tmp) ⟨by rw [e0]; try rfl, rfl⟩; exfalso; refine e0 ?_; clear e0; simp_all [arithI]; done) | (by_cases e0 : arithI t a b = mulI a b; exact K.fin (V.two (V.cellN Tryz.isAgg24 Tryz.sizeOf24) V.tmp) ⟨by rw [e0]; try rfl, rfl⟩; exfalso; refine e0 ?_; clear e0; simp_all [arithI]; done) | (by_cases e0 : arithI t a b = divI a b; exact K.fin (V.two (V.cellN Tryz.isAgg24 Tryz.sizeOf24) V.tmp) ⟨by rw [e0]; try rfl, rfl⟩; exfalso; refine e0 ?_; clear e0; simp_all [arithI]; done) | (by_cases e0 : arithI t a b = remI a b; exact K.fin (V.two (V.cellN Tryz.isAgg24 Tryz.sizeOf24) V.tmp) ⟨by rw [e0]; try rfl, rfl⟩; exfalso; refine e0 ?_; clear e0; simp_all [arithI]; done)
  ·skip
   refine AW.seqR ?_
   refine R.seql ?_
   refine R.assign ?_
   refine R.fin [1, 2, 6, 8, 29] ?_
   refine W.cond (fun ht29 => ?_) (fun ht29 => ?_)
   ·skip
    refine AW.seqR ?_
    refine R.move ?_
    refine R.move ?_
    refine R.call Tryz.call154 (c154 _ _ _) ?_
    refine R.extract ?_
    refine R.extract ?_
    refine R.call Tryz.call106 (c106 _ _ _) ?_
    refine R.extract ?_
    refine R.extract ?_
    refine R.storeOwn Tryz.sizeOf24 ?_
    refine R.assign ?_
    refine R.fin [6, 7] ?_
    refine AW.ret ?_
    refine K.blR ?_
    refine K.thR ?_
    first | (by_cases e0 : arithI t a b = addI a b; exact K.fin (V.two (V.cellN Tryz.isAgg24 Tryz.sizeOf24) V.tmp) ⟨by rw [e0]; try rfl, rfl⟩; exfalso; refine e0 ?_; clear e0; simp_all [arithI]; done) | (by_cases e0 : arithI t a b = subI a b; exact K.fin (V.two (V.cellN Tryz.isAgg24 Tryz.sizeOf24) V.tmp) ⟨by rw [e0]; try rfl, rfl⟩; exfalso; refine e0 ?_; clear e0; simp_all [arithI]; done) | (by_cases e0 : arithI t a b = mulI a b; exact K.fin (V.two (V.cellN Tryz.isAgg24 Tryz.sizeOf24) V.tmp) ⟨by rw [e0]; try rfl, rfl⟩; exfalso; refine e0 ?_; clear e0; simp_all [arithI]; done) | (by_cases e0 : arithI t a b = divI a b; exact K.fin (V.two (V.cellN Tryz.isAgg24 Tryz.sizeOf24) V.tmp) ⟨by rw [e0]; try rfl, rfl⟩; exfalso; refine e0 ?_; clear e0; simp_all [arithI]; done) | (by_cases e0 : arithI t a b = remI a b; exact K.fin (V.two (V.cellN Tryz.isAgg24 Tryz.sizeOf24) V.tmp) ⟨by rw [e0]; try rfl, rfl⟩; exfalso; refine e0 ?_; clear e0; simp_all [arithI]; done)
   ·skip
    refine AW.seqR ?_
    refine R.seql ?_
    refine R.assign ?_
    refine R.fin [1, 2, 6, 39] ?_
    refine W.cond (fun ht39 => ?_) (fun ht39 => ?_)
    ·skip
     refine AW.seqR ?_
     refine R.move ?_
     refine R.move ?_
     refine R.call Tryz.call155 (c155 _ _ _) ?_
     refine R.extract ?_
     refine R.extract ?_
     refine R.call Tryz.call106 (c106 _ _ _) ?_
     refine R.extract ?_
     refine R.extract ?_
     refine R.storeOwn Tryz.sizeOf24 ?_
     refine R.assign ?_
     refine R.fin [6, 7] ?_
     refine AW.ret ?_
     refine K.blR ?_
     refine K.thR ?_
     first | (by_cases e0 : arithI t a b = addI a b; exact K.fin (V.two (V.cellN Tryz.isAgg24 Tryz.sizeOf24) V.tmp) ⟨by rw [e0]; try rfl, rfl⟩; exfalso; refine e0 ?_; clear e0; simp_all [arithI]; done) | (by_cases e0 : arithI t a b = subI a b; exact K.fin (V.two (V.cellN Tryz.isAgg24 Tryz.sizeOf24) V.tmp) ⟨by rw [e0]; try rfl, rfl⟩; exfalso; refine e0 ?_; clear e0; simp_all [arithI]; done) | (by_cases e0 : arithI t a b = mulI a b; exact K.fin (V.two (V.cellN Tryz.isAgg24 Tryz.sizeOf24) V.tmp) ⟨by rw [e0]; try rfl, rfl⟩; exfalso; refine e0 ?_; clear e0; simp_all [arithI]; done) | (by_cases e0 : arithI t a b = divI a b; exact K.fin (V.two (V.cellN Tryz.isAgg24 Tryz.sizeOf24) V.tmp) ⟨by rw [e0]; try rfl, rfl⟩; exfalso; refine e0 ?_; clear e0; simp_all [arithI]; done) | (by_cases e0 : arithI t a b = remI a b; exact K.fin (V.two (V.cellN Tryz.isAgg24 Tryz.sizeOf24) V.tmp) ⟨by rw [e0]; try rfl, rfl⟩; exfalso; refine e0 ?_; clear e0; simp_all [arithI]; done)
    ·skip
     refine AW.skip ?_
     refine K.blN ?_
     refine K.thN ?_
     refine AW.seqR ?_
     refine R.move ?_
     refine R.move ?_
     refine R.call Tryz.call156 (c156 _ _ ha _) ?_
     refine R.extract ?_
     refine R.extract ?_
     refine R.call Tryz.call106 (c106 _ _ _) ?_
     refine R.extract ?_
     refine R.extract ?_
     refine R.storeOwn Tryz.sizeOf24 ?_
     refine R.assign ?_
     refine R.fin [6, 7] ?_
     refine AW.ret ?_
     first | (by_cases e0 : arithI t a b = addI a b; exact K.fin (V.two (V.cellN Tryz.isAgg24 Tryz.sizeOf24) V.tmp) ⟨by rw [e0]; try rfl, rfl⟩; exfalso; refine e0 ?_; clear e0; simp_all [arithI]; done) | (by_cases e0 : arithI t a b = subI a b; exact K.fin (V.two (V.cellN Tryz.isAgg24 Tryz.sizeOf24) V.tmp) ⟨by rw [e0]; try rfl, rfl⟩; exfalso; refine e0 ?_; clear e0; simp_all [arithI]; done) | (by_cases e0 : arithI t a b = mulI a b; exact K.fin (V.two (V.cellN Tryz.isAgg24 Tryz.sizeOf24) V.tmp) ⟨by rw [e0]; try rfl, rfl⟩; exfalso; refine e0 ?_; clear e0; simp_all [arithI]; done) | (by_cases e0 : arithI t a b = divI a b; exact K.fin (V.two (V.cellN Tryz.isAgg24 Tryz.sizeOf24) V.tmp) ⟨by rw [e0]; try rfl, rfl⟩; exfalso; refine e0 ?_; clear e0; simp_all [arithI]; done) | (by_cases e0 : arithI t a b = remI a b; exact K.fin (V.two (V.cellN Tryz.isAgg24 Tryz.sizeOf24) V.tmp) ⟨by rw [e0]; try rfl, rfl⟩; exfalso; refine e0 ?_; clear e0; simp_all [arithI]; done)

theorem c125 (a b : Val) (fa : Fine a) (fb : Fine b) (Hp : List AObj) : AFun Tryz.prog 125 [.slice false 3 [valA a, valA b]] Hp (resA (joinR a b)) := by
 refine ACall.body [.cell 2 24, .tmp 3] [0] Tryz.func125 Tryz.ntmps125 (fun d => ?_)
 refine AW.seqR ?_
 refine R.alloc Tryz.zeroValue24 ?_
 refine R.assign ?_
 refine R.fin [0, 2] ?_
 refine W.seq ?_
 refine AW.block ?_
 refine AW.seqR ?_
 refine R.move ?_
 refine R.buildSl Tryz.underlying155 Tryz.sizeOf3 Tryz.zeroValue3 ?_
 refine R.call Tryz.call105 (c105 [a, b] [2, 2] (by simp) (by simp) _) ?_
 refine R.not ?_
 refine R.assign ?_
 refine R.fin [0, 2, 4] ?_
 refine W.cond (fun ht4 => ?_) (fun ht4 => ?_)
 ·skip
  have hm : joinR a b = wrongR 10 := if_pos ht4
  refine AW.seqR ?_
  refine R.call Tryz.call43 (c43 _ _) ?_
  refine R.extract ?_
  refine R.extract ?_
  refine R.storeOwn Tryz.sizeOf24 ?_
  refine R.assign ?_
  refine R.fin [2, 3] ?_
  refine AW.ret ?_
  refine K.blR ?_
  refine K.thR ?_
  exact K.fin (V.two (V.cellN Tryz.isAgg24 Tryz.sizeOf24) V.tmp) ⟨by rw [hm]; try rfl, rfl⟩
 ·skip
  have hla := fa.len
  have hlb := fb.len
  refine W.draw [0, 1, 3, 7, 15, 0, 32, 96, 224, 480, 1023, 2047, 4095] 10 Tryzmixed (by kernel_rfl) ?_
  refine D.move ?_
  refine D.indexAddr (0) (valA a) Tryz.underlying42 Tryz.sizeOf24 (show ([valA a, valA b] : List AV)[0]? = some (valA a) from rfl) ?_
  refine D.fieldAddrRo (off := 2) Tryz.underlying24 Tryz.sizeOf9 ?_
  refine D.loadRo Tryz.isAgg9 ?_
  refine D.slen Tryz.underlying9 ?_
  refine D.move ?_
  refine D.indexAddr (1) (valA b) Tryz.underlying42 Tryz.sizeOf24 (show ([valA a, valA b] : List AV)[1]? = some (valA b) from rfl) ?_
  refine D.fieldAddrRo (off := 2) Tryz.underlying24 Tryz.sizeOf9 ?_
  refine D.loadRo Tryz.isAgg9 ?_
  refine D.slen Tryz.underlying9 ?_
  refine D.tail ?_
  refine R.add64 (h1 := by omega) (h2 := by omega) ?_
  refine R.gtr ?_
  refine R.assign ?_
  refine R.fin [0, 2, 12] ?_
  refine W.cond (fun ht12 => ?_) (fun ht12 => ?_)
  ·skip
   have hm : joinR a b = wrongR 3 := by unfold joinR; rw [if_neg (by rw [ht4]; simp), if_pos ht12]
   refine AW.seqR ?_
   refine R.call Tryz.call43 (c43 _ _) ?_
   refine R.extract ?_
   refine R.extract ?_
   refine R.storeOwn Tryz.sizeOf24 ?_
   refine R.assign ?_
   refine R.fin [2, 3] ?_
   refine AW.ret ?_
   refine K.blR ?_
   refine K.thR ?_
   exact K.fin (V.two (V.cellN Tryz.isAgg24 Tryz.sizeOf24) V.tmp) ⟨by rw [hm]; try rfl, rfl⟩
  ·skip
   have hm : joinR a b = (cutV (a.s ++ b.s), 0) := by unfold joinR; rw [if_neg (by rw [ht4]; simp), if_neg (by rw [ht12]; simp)]
   refine AW.skip ?_
   refine K.blN ?_
   refine K.thN ?_
   refine W.draw [0, 1, 3, 7, 0, 16, 48, 112, 255, 511, 1023, 2047] 8 Tryzmixed (by kernel_rfl) ?_
   refine D.move ?_
   refine D.indexAddr (0) (valA a) Tryz.underlying42 Tryz.sizeOf24 (show ([valA a, valA b] : List AV)[0]? = some (valA a) from rfl) ?_
   refine D.fieldAddrRo (off := 2) Tryz.underlying24 Tryz.sizeOf9 ?_
   refine D.loadRo Tryz.isAgg9 ?_
   refine D.move ?_
   refine D.indexAddr (1) (valA b) Tryz.underlying42 Tryz.sizeOf24 (show ([valA a, valA b] : List AV)[1]? = some (valA b) from rfl) ?_
   refine D.fieldAddrRo (off := 2) Tryz.underlying24 Tryz.sizeOf9 ?_
   refine D.loadRo Tryz.isAgg9 ?_
   refine D.tail ?_
   refine R.sadd (hl := by omega) ?_
   refine R.call Tryz.call129 (c129 _ _) ?_
   refine R.storeOwn Tryz.sizeOf24 ?_
   refine R.assign ?_
   refine R.fin [2, 3] ?_
   refine AW.ret ?_
   exact K.fin (V.two (V.cellN Tryz.isAgg24 Tryz.sizeOf24) V.tmp) ⟨by rw [hm]; try rfl, rfl⟩

theorem c104 (t : Str) (a b : Val) (fa : Fine a) (fb : Fine b) (Hp : List AObj) : AFun Tryz.prog 104 [strA t, .slice false 3 [valA a, valA b]] Hp (resA (binM t a b)) := by
 refine ACall.body [.cell 4 24, .tmp 5] [0, 1] Tryz.func104 Tryz.ntmps104 (fun d => ?_)
 refine AW.seqR ?_
 refine R.alloc Tryz.zeroValue24 ?_
 refine R.assign ?_
 refine R.fin [0, 1, 4] ?_
 refine W.seq ?_
 refine W.draw [0, 0, 2, 6, 0, 16, 48, 126, 255, 511, 1023, 1023, 2047, 8191] 13 Tryzmixed (by kernel_rfl) ?_
 refine D.move ?_
 refine D.move ?_
 refine D.indexAddr (0) (valA a) Tryz.underlying42 Tryz.sizeOf24 (show ([valA a, valA b] : List AV)[0]? = some (valA a) from rfl) ?_
 refine D.loadRoN Tryz.isAgg24 Tryz.sizeOf24 ?_
 refine D.move ?_
 refine D.indexAddr (1) (valA b) Tryz.underlying42 Tryz.sizeOf24 (show ([valA a, valA b] : List AV)[1]? = some (valA b) from rfl) ?_
 refine D.loadRoN Tryz.isAgg24 Tryz.sizeOf24 ?_
 refine D.call Tryz.call124 (c124 _ _ _) ?_
 refine D.call Tryz.call123 (c123 _ _ _) ?_
 refine D.move ?_
 refine D.extract ?_
 refine D.extract ?_
 refine D.assign ?_
 refine D.tail ?_
 refine R.assign ?_
 refine R.fin [0, 1, 4, 6, 7] ?_
 refine AW.seqR ?_
 refine R.move ?_
 refine R.fin [0, 1, 4, 6, 20] ?_
 refine W.cond (fun ht20 => ?_) (fun ht20 => ?_)
 ·skip
  refine W.seq ?_
  refine W.draw [0, 1, 3, 7, 0, 16, 48, 112, 255] 8 Tryzmixed (by kernel_rfl) ?_
  refine D.move ?_
  refine D.indexAddr (0) (valA a) Tryz.underlying42 Tryz.sizeOf24 (show ([valA a, valA b] : List AV)[0]? = some (valA a) from rfl) ?_
  refine D.fieldAddrRo (off := 0) Tryz.underlying24 Tryz.sizeOf3 ?_
  refine D.loadRo Tryz.isAgg3 ?_
  refine D.move ?_
  refine D.indexAddr (1) (valA b) Tryz.underlying42 Tryz.sizeOf24 (show ([valA a, valA b] : List AV)[1]? = some (valA b) from rfl) ?_
  refine D.fieldAddrRo (off := 0) Tryz.underlying24 Tryz.sizeOf3 ?_
  refine D.loadRo Tryz.isAgg3 ?_
  refine D.tail ?_
  refine R.neq ?_
  refine R.fin [4, 6, 29] ?_
  refine W.cond (fun ht29 => ?_) (fun ht29 => ?_)
  ·skip
   have hm : binM t a b = wrongR 10 := by unfold binM; rw [if_pos ht20, if_pos ht29]
   refine AW.seqR ?_
   refine R.call Tryz.call43 (c43 _ _) ?_
   refine R.extract ?_
   refine R.extract ?_
   refine R.storeOwn Tryz.sizeOf24 ?_
   refine R.assign ?_
   refine R.fin [4, 5] ?_
   refine AW.ret ?_
   refine K.thR ?_
   refine K.thR ?_
   exact K.fin (V.two (V.cellN Tryz.isAgg24 Tryz.sizeOf24) V.tmp) ⟨by rw [hm]; try rfl, rfl⟩
  ·skip
   have hm : binM t a b = (boolV (comparedM t (cmpV a b)).1, 0) := by unfold binM; rw [if_pos ht20, if_neg (by rw [ht29]; simp)]
   refine AW.skip ?_
   refine K.thN ?_
   refine AW.seqR ?_
   refine R.move ?_
   refine R.call Tryz.call61 (c61 _ _) ?_
   refine R.storeOwn Tryz.sizeOf24 ?_
   refine R.assign ?_
   refine R.fin [4, 5] ?_
   refine AW.ret ?_
   refine K.thR ?_
   exact K.fin (V.two (V.cellN Tryz.isAgg24 Tryz.sizeOf24) V.tmp) ⟨by rw [hm]; try rfl, rfl⟩
 ·skip
  refine AW.skip ?_
  refine K.thN ?_
  refine W.seq ?_
  refine AW.seqR ?_
  refine R.move ?_
  refine R.seql ?_
  refine R.fin [0, 1, 4, 36] ?_
  refine W.cond (fun ht36 => ?_) (fun ht36 => ?_)
  ·skip
   have hm : binM t a b = joinR a b := by unfold binM; rw [if_neg (by rw [ht20]; simp), if_pos ht36]
   refine AW.seqR ?_
   refine R.move ?_
   refine R.call Tryz.call125 (c125 a b fa fb _) ?_
   refine R.extract ?_
   refine R.extract ?_
   refine R.storeOwn Tryz.sizeOf24 ?_
   refine R.assign ?_
   refine R.fin [4, 5] ?_
   refine AW.ret ?_
   refine K.thR ?_
   exact K.fin (V.two (V.cellN Tryz.isAgg24 Tryz.sizeOf24) V.tmp) ⟨by rw [hm]; try rfl, rfl⟩
  ·skip
   refine AW.skip ?_
   refine K.thN ?_
   refine W.seq ?_
   refine AW.seqR ?_
   refine R.move ?_
   refine R.buildSl Tryz.underlying155 Tryz.sizeOf3 Tryz.zeroValue3 ?_
   refine R.call Tryz.call105 (c105 [a, b] [1, 1] (by simp) (by simp) _) ?_
   refine R.not ?_
   refine R.fin [0, 1, 4, 44] ?_
   refine W.cond (fun ht44 => ?_) (fun ht44 => ?_)
   ·skip
    have hm : binM t a b = wrongR 10 := by unfold binM; rw [if_neg (by rw [ht20]; simp), if_neg (by rw [ht36]; simp), if_pos ht44]
    refine AW.seqR ?_
    refine R.call Tryz.call43 (c43 _ _) ?_
    refine R.extract ?_
    refine R.extract ?_
    refine R.storeOwn Tryz.sizeOf24 ?_
    refine R.assign ?_
    refine R.fin [4, 5] ?_
    refine AW.ret ?_
    refine K.thR ?_
    exact K.fin (V.two (V.cellN Tryz.isAgg24 Tryz.sizeOf24) V.tmp) ⟨by rw [hm]; try rfl, rfl⟩
   ·skip
    have hm : binM t a b = wholeR (arithI t a.n b.n) := by unfold binM; rw [if_neg (by rw [ht20]; simp), if_neg (by rw [ht36]; simp), if_neg (by rw [ht44]; simp)]
    refine AW.skip ?_
    refine K.thN ?_
    refine W.draw [0, 0, 2, 6, 14, 0, 32, 96, 224, 511, 1023, 1023, 4095, 8191] 12 Tryzmixed (by kernel_rfl) ?_
    refine D.move ?_
    refine D.move ?_
    refine D.indexAddr (0) (valA a) Tryz.underlying42 Tryz.sizeOf24 (show ([valA a, valA b] : List AV)[0]? = some (valA a) from rfl) ?_
    refine D.fieldAddrRo (off := 1) Tryz.underlying24 Tryz.sizeOf2 ?_
    refine D.loadRo Tryz.isAgg2 ?_
    refine D.move ?_
    refine D.indexAddr (1) (valA b) Tryz.underlying42 Tryz.sizeOf24 (show ([valA a, valA b] : List AV)[1]? = some (valA b) from rfl) ?_
    refine D.fieldAddrRo (off := 1) Tryz.underlying24 Tryz.sizeOf2 ?_
    refine D.loadRo Tryz.isAgg2 ?_
    refine D.call Tryz.call126 (c126 _ _ _ ⟨fa.lo, fa.hi⟩ _) ?_
    refine D.extract ?_
    refine D.extract ?_
    refine D.tail ?_
    refine R.storeOwn Tryz.sizeOf24 ?_
    refine R.assign ?_
    refine R.fin [4, 5] ?_
    refine AW.ret ?_
    exact K.fin (V.two (V.cellN Tryz.isAgg24 Tryz.sizeOf24) V.tmp) ⟨by rw [hm]; try rfl, rfl⟩

theorem pieceK (s : Str) (n : Int) : ∃ k : Nat, (if (0 : Int) < (if (s.length : Int) < n then (s.length : Int) else n) then (if (s.length : Int) < n then (s.length : Int) else n) else 0) = (k : Int) ∧ k ≤ s.length ∧ k = (max 0 (min n s.length)).toNat := by
 refine ⟨(max 0 (min n s.length)).toNat, ?_, ?_, rfl⟩ <;> repeat' split
 all_goals omega
theorem c109 (t s : Str) (n : Int) (hs : s.length ≤ 1048576) (Hp : List AObj) : AFun Tryz.prog 109 [strA t, strA s, intA n] Hp (valA (pieceM t s n)) := by
 refine ACall.body [.cell 6 24] [0, 1, 2] Tryz.func109 Tryz.ntmps109 (fun d => ?_)
 refine AW.seqR ?_
 refine R.alloc Tryz.zeroValue24 ?_
 refine R.fin [0, 1, 2, 6] ?_
 refine AW.seqR ?_
 refine R.move ?_
 refine R.move ?_
 refine R.slen Tryz.underlying9 ?_
 refine R.minI ?_
 refine R.maxI ?_
 obtain ⟨k, hk, hks, hke⟩ := pieceK s n
 simp only [hk]
 refine R.assign ?_
 refine R.fin [0, 1, 6, 7] ?_
 refine W.seq ?_
 refine AW.seqR ?_
 refine R.move ?_
 refine R.seql ?_
 refine R.fin [1, 6, 7, 14] ?_
 refine W.cond (fun ht14 => ?_) (fun ht14 => ?_)
 ·skip
  have hm : pieceM t s n = cutV (s.take k) := by unfold pieceM; rw [if_pos ht14, ← hke]
  refine AW.seqR ?_
  refine R.move ?_
  refine R.move ?_
  refine R.scutH k Tryz.underlying9 (Nat.zero_le _) hks ?_
  refine R.call Tryz.call129 (c129 _ _) ?_
  refine R.storeOwn Tryz.sizeOf24 ?_
  refine R.fin [6] ?_
  refine AW.ret ?_
  refine K.thR ?_
  exact K.fin (V.one (V.cellN Tryz.isAgg24 Tryz.sizeOf24)) ⟨by rw [hm]; try rfl, rfl⟩
 ·skip
  have hm : pieceM t s n = cutV (s.drop (s.length - k)) := by unfold pieceM; rw [if_neg (by rw [ht14]; simp), ← hke]
  refine AW.skip ?_
  refine K.thN ?_
  refine AW.seqR ?_
  refine R.move ?_
  refine R.move ?_
  refine R.slen Tryz.underlying9 ?_
  refine R.move ?_
  refine R.sub64 (h1 := by omega) (h2 := by omega) ?_
  refine R.scutL (s.length - k) Tryz.underlying9 (show s.length - k ≤ s.length by omega) (Nat.le_refl _) ?_
  refine R.call Tryz.call129 (c129 _ _) ?_
  refine R.storeOwn Tryz.sizeOf24 ?_
  refine R.fin [6] ?_
  refine AW.ret ?_
  exact K.fin (V.one (V.cellN Tryz.isAgg24 Tryz.sizeOf24)) ⟨by rw [hm]; try rfl, rfl⟩

theorem c108 (t : Str) (v : Val) (h : Fine v) (Hp : List AObj) : AFun Tryz.prog 108 [strA t, valA v] Hp (resA (fun1M t v)) := by
 have hlen := h.len
 refine ACall.body [.cell 4 24, .tmp 5] [0, 1] Tryz.func108 Tryz.ntmps108 (fun d => ?_)
 refine AW.seqR ?_
 refine R.boxRo ?_
 refine R.alloc Tryz.zeroValue24 ?_
 refine R.assign ?_
 refine R.fin [0, 3, 4] ?_
 refine W.seq ?_
 refine AW.block ?_
 refine AW.seqR ?_
 refine R.move ?_
 refine R.seql ?_
 refine R.move ?_
 refine G.fieldAddrRo (off := 0) Tryz.underlying24 Tryz.sizeOf3 ?_
 refine G.loadRo Tryz.isAgg3 ?_
 refine G.eql ?_
 refine R.pickAnd ?_
 refine R.assign ?_
 refine R.fin [0, 3, 4, 6] ?_
 refine W.cond (fun ht6 => ?_) (fun ht6 => ?_)
 ·skip
  have hm : fun1M t v = (cutV (Lib.itoa v.n), 0) := if_pos ht6
  refine AW.seqR ?_
  refine R.fieldAddrRo (off := 1) Tryz.underlying24 Tryz.sizeOf2 ?_
  refine R.loadRo Tryz.isAgg2 ?_
  refine R.call Tryz.call75 (c75 _ h.lo h.hi _) ?_
  refine R.call Tryz.call129 (c129 _ _) ?_
  refine R.storeOwn Tryz.sizeOf24 ?_
  refine R.assign ?_
  refine R.fin [4, 5] ?_
  refine AW.ret ?_
  refine K.blR ?_
  refine K.thR ?_
  exact K.fin (V.two (V.cellN Tryz.isAgg24 Tryz.sizeOf24) V.tmp) ⟨by rw [hm]; try rfl, rfl⟩
 ·skip
  refine AW.seqR ?_
  refine R.move ?_
  refine R.seql ?_
  refine R.move ?_
  refine G.fieldAddrRo (off := 0) Tryz.underlying24 Tryz.sizeOf3 ?_
  refine G.loadRo Tryz.isAgg3 ?_
  refine G.eql ?_
  refine R.pickAnd ?_
  refine R.assign ?_
  refine R.fin [0, 3, 4, 18] ?_
  refine W.cond (fun ht18 => ?_) (fun ht18 => ?_)
  ·skip
   have hm : fun1M t v = (⟨1, v.s.length, []⟩, 0) := by unfold fun1M; rw [if_neg (by rw [ht6]; simp), if_pos ht18]
   refine AW.seqR ?_
   refine R.fieldAddrRo (off := 2) Tryz.underlying24 Tryz.sizeOf9 ?_
   refine R.loadRo Tryz.isAgg9 ?_
   refine R.slen Tryz.underlying9 ?_
   refine R.call Tryz.call127 (c127 _ _) ?_
   refine R.storeOwn Tryz.sizeOf24 ?_
   refine R.assign ?_
   refine R.fin [4, 5] ?_
   refine AW.ret ?_
   refine K.blR ?_
   refine K.thR ?_
   exact K.fin (V.two (V.cellN Tryz.isAgg24 Tryz.sizeOf24) V.tmp) ⟨by rw [hm]; try rfl, rfl⟩
  ·skip
   refine AW.seqR ?_
   refine R.move ?_
   refine R.seql ?_
   refine R.move ?_
   refine G.fieldAddrRo (off := 0) Tryz.underlying24 Tryz.sizeOf3 ?_
   refine G.loadRo Tryz.isAgg3 ?_
   refine G.eql ?_
   refine R.pickAnd ?_
   refine R.assign ?_
   refine R.fin [3, 4, 30] ?_
   refine W.cond (fun ht30 => ?_) (fun ht30 => ?_)
   ·skip
    have hm : fun1M t v = wholeR (numReadM v.s) := by unfold fun1M; rw [if_neg (by rw [ht6]; simp), if_neg (by rw [ht18]; simp), if_pos ht30]
    refine AW.seqR ?_
    refine R.fieldAddrRo (off := 2) Tryz.underlying24 Tryz.sizeOf9 ?_
    refine R.loadRo Tryz.isAgg9 ?_
    refine R.call Tryz.call130 (c130 v.s (by omega) _) ?_
    refine R.extract ?_
    refine R.extract ?_
    refine R.call Tryz.call106 (c106 _ _ _) ?_
    refine R.extract ?_
    refine R.extract ?_
    refine R.storeOwn Tryz.sizeOf24 ?_
    refine R.assign ?_
    refine R.fin [4, 5] ?_
    refine AW.ret ?_
    refine K.blR ?_
    refine K.thR ?_
    exact K.fin (V.two (V.cellN Tryz.isAgg24 Tryz.sizeOf24) V.tmp) ⟨by rw [hm]; try rfl, rfl⟩
   ·skip
    have hm : fun1M t v = wrongR 10 := by unfold fun1M; rw [if_neg (by rw [ht6]; simp), if_neg (by rw [ht18]; simp), if_neg (by rw [ht30]; simp)]
    refine AW.skip ?_
    refine K.blN ?_
    refine K.thN ?_
    refine AW.seqR ?_
    refine R.call Tryz.call43 (c43 _ _) ?_
    refine R.extract ?_
    refine R.extract ?_
    refine R.storeOwn Tryz.sizeOf24 ?_
    refine R.assign ?_
    refine R.fin [4, 5] ?_
    refine AW.ret ?_
    exact K.fin (V.two (V.cellN Tryz.isAgg24 Tryz.sizeOf24) V.tmp) ⟨by rw [hm]; try rfl, rfl⟩

theorem getV {vs : List Val} (h : 0 < vs.length) : vs.getD 0 noV = vs[0] := by rw [List.getD_eq_getElem?_getD, List.getElem?_eq_getElem h]; rfl
/-- As many values as a node asks for. -/
structure ArgsOk (o : Int) (vs : List Val) : Prop where
 two : o = 5 → ∃ a b, vs = [a, b]
 one : o = 3 ∨ o = 4 → vs.length = 1
 call : o = 6 → vs.length = 1 ∨ ∃ a b, vs = [a, b]
 fine : ∀ v ∈ vs, Fine v
theorem c85 (e : Expr) (vs : List Val) (h : ArgsOk e.op vs) (Hp : List AObj) : AFun Tryz.prog 85 [exprA e, valsA vs] Hp (resA (strictM e.op e.text vs)) := by
 refine ACall.body [.cell 4 24, .tmp 5] [0, 1] Tryz.func85 Tryz.ntmps85 (fun d => ?_)
 refine AW.seqR ?_
 refine R.boxRo ?_
 refine R.alloc Tryz.zeroValue24 ?_
 refine R.assign ?_
 refine R.fin [1, 2, 4] ?_
 refine W.seq ?_
 refine AW.block ?_
 refine AW.seqR ?_
 refine R.fieldAddrRo (off := 0) Tryz.underlying27 Tryz.sizeOf3 ?_
 refine R.loadRo Tryz.isAgg3 ?_
 refine R.eql ?_
 refine R.assign ?_
 refine R.fin [1, 2, 4, 6] ?_
 refine W.cond (fun ht6 => ?_) (fun ht6 => ?_)
 ·skip
  obtain ⟨a, b, rfl⟩ := h.two (by simpa using ht6)
  have hm : strictM e.op e.text [a, b] = binM e.text a b := if_pos ht6
  refine AW.seqR ?_
  refine R.fieldAddrRo (off := 1) Tryz.underlying27 Tryz.sizeOf9 ?_
  refine R.loadRo Tryz.isAgg9 ?_
  refine R.move ?_
  refine R.call Tryz.call104 (c104 e.text a b (h.fine a (by simp)) (h.fine b (by simp)) _) ?_
  refine R.extract ?_
  refine R.extract ?_
  refine R.storeOwn Tryz.sizeOf24 ?_
  refine R.assign ?_
  refine R.fin [4, 5] ?_
  refine AW.ret ?_
  refine K.blR ?_
  refine K.thR ?_
  exact K.fin (V.two (V.cellN Tryz.isAgg24 Tryz.sizeOf24) V.tmp) ⟨by rw [hm]; try rfl, rfl⟩
 ·skip
  refine AW.seqR ?_
  refine R.fieldAddrRo (off := 0) Tryz.underlying27 Tryz.sizeOf3 ?_
  refine R.loadRo Tryz.isAgg3 ?_
  refine R.eql ?_
  refine R.move ?_
  refine G.move ?_
  refine G.buildSl Tryz.underlying155 Tryz.sizeOf3 Tryz.zeroValue3 ?_
  refine G.call Tryz.call105 (C := ((e.op == 3) == true)) (fun hB => c105 vs [1] (by have := h.one (.inl (by simpa using hB)); simp [this]) (by simp) _) ?_
  refine R.pickAnd ?_
  refine R.assign ?_
  refine R.fin [1, 2, 4, 16] ?_
  refine W.cond (fun ht16 => ?_) (fun ht16 => ?_)
  ·skip
   have hm0 : ((e.op == 3) && kindsM vs [1]) = true := ht16
   have hop : e.op = 3 := by simp only [Bool.and_eq_true, beq_iff_eq] at hm0; exact hm0.1
   have hln := h.one (.inl hop)
   have hg0 : (vs.map valA)[0]? = some (valA (vs.getD 0 noV)) := by rw [getV (by omega)]; exact getMap (by omega)
   have hm : strictM e.op e.text vs = wholeR (subI 0 (vs.getD 0 noV).n) := by unfold strictM; rw [if_neg (by rw [ht6]; simp), if_pos ht16]
   refine AW.seqR ?_
   refine R.move ?_
   refine R.indexAddr (0) (valA (vs.getD 0 noV)) Tryz.underlying42 Tryz.sizeOf24 hg0 ?_
   refine R.fieldAddrRo (off := 1) Tryz.underlying24 Tryz.sizeOf2 ?_
   refine R.loadRo Tryz.isAgg2 ?_
   refine R.call Tryz.call107 (c107 _ _) ?_
   refine R.extract ?_
   refine R.extract ?_
   refine R.call Tryz.call106 (c106 _ _ _) ?_
   refine R.extract ?_
   refine R.extract ?_
   refine R.storeOwn Tryz.sizeOf24 ?_
   refine R.assign ?_
   refine R.fin [4, 5] ?_
   refine AW.ret ?_
   refine K.blR ?_
   refine K.thR ?_
   exact K.fin (V.two (V.cellN Tryz.isAgg24 Tryz.sizeOf24) V.tmp) ⟨by rw [hm]; try rfl, rfl⟩
  ·skip
   refine AW.seqR ?_
   refine R.fieldAddrRo (off := 0) Tryz.underlying27 Tryz.sizeOf3 ?_
   refine R.loadRo Tryz.isAgg3 ?_
   refine R.eql ?_
   refine R.move ?_
   refine G.move ?_
   refine G.buildSl Tryz.underlying155 Tryz.sizeOf3 Tryz.zeroValue3 ?_
   refine G.call Tryz.call105 (C := ((e.op == 4) == true)) (fun hB => c105 vs [3] (by have := h.one (.inr (by simpa using hB)); simp [this]) (by simp) _) ?_
   refine R.pickAnd ?_
   refine R.assign ?_
   refine R.fin [1, 2, 4, 35] ?_
   refine W.cond (fun ht35 => ?_) (fun ht35 => ?_)
   ·skip
    have hm0 : ((e.op == 4) && kindsM vs [3]) = true := ht35
    have hop : e.op = 4 := by simp only [Bool.and_eq_true, beq_iff_eq] at hm0; exact hm0.1
    have hln := h.one (.inr hop)
    have hg0 : (vs.map valA)[0]? = some (valA (vs.getD 0 noV)) := by rw [getV (by omega)]; exact getMap (by omega)
    have hm : strictM e.op e.text vs = (boolV ((vs.getD 0 noV).n == 0), 0) := by unfold strictM; rw [if_neg (by rw [ht6]; simp), if_neg (by rw [ht16]; simp), if_pos ht35]
    refine AW.seqR ?_
    refine R.move ?_
    refine R.indexAddr (0) (valA (vs.getD 0 noV)) Tryz.underlying42 Tryz.sizeOf24 hg0 ?_
    refine R.fieldAddrRo (off := 1) Tryz.underlying24 Tryz.sizeOf2 ?_
    refine R.loadRo Tryz.isAgg2 ?_
    refine R.eql ?_
    refine R.call Tryz.call61 (c61 _ _) ?_
    refine R.storeOwn Tryz.sizeOf24 ?_
    refine R.assign ?_
    refine R.fin [4, 5] ?_
    refine AW.ret ?_
    refine K.blR ?_
    refine K.thR ?_
    exact K.fin (V.two (V.cellN Tryz.isAgg24 Tryz.sizeOf24) V.tmp) ⟨by rw [hm]; try rfl, rfl⟩
   ·skip
    refine AW.seqR ?_
    refine R.fieldAddrRo (off := 0) Tryz.underlying27 Tryz.sizeOf3 ?_
    refine R.loadRo Tryz.isAgg3 ?_
    refine R.neq ?_
    refine R.assign ?_
    refine R.fin [1, 2, 4, 50] ?_
    refine W.cond (fun ht50 => ?_) (fun ht50 => ?_)
    ·skip
     have hm : strictM e.op e.text vs = wrongR 10 := by unfold strictM; rw [if_neg (by rw [ht6]; simp), if_neg (by rw [ht16]; simp), if_neg (by rw [ht35]; simp), if_pos ht50]
     refine AW.seqR ?_
     refine R.call Tryz.call43 (c43 _ _) ?_
     refine R.extract ?_
     refine R.extract ?_
     refine R.storeOwn Tryz.sizeOf24 ?_
     refine R.assign ?_
     refine R.fin [4, 5] ?_
     refine AW.ret ?_
     refine K.blR ?_
     refine K.thR ?_
     exact K.fin (V.two (V.cellN Tryz.isAgg24 Tryz.sizeOf24) V.tmp) ⟨by rw [hm]; try rfl, rfl⟩
    ·skip
     have hop : e.op = 6 := by simpa using ht50
     have hcl := h.call hop
     refine AW.seqR ?_
     refine R.move ?_
     refine R.len Tryz.underlying42 ?_
     refine R.eql ?_
     refine R.assign ?_
     refine R.fin [1, 2, 4, 57] ?_
     refine W.cond (fun ht57 => ?_) (fun ht57 => ?_)
     ·skip
      rw [List.length_map] at ht57
      have hln : vs.length = 1 := by have := ht57; simp only [beq_iff_eq] at this; omega
      have hg0 : (vs.map valA)[0]? = some (valA (vs.getD 0 noV)) := by rw [getV (by omega)]; exact getMap (by omega)
      have hf0 : Fine (vs.getD 0 noV) := by rw [getV (by omega)]; exact h.fine _ (List.getElem_mem _)
      have hm : strictM e.op e.text vs = fun1M e.text (vs.getD 0 noV) := by unfold strictM; rw [if_neg (by rw [ht6]; simp), if_neg (by rw [ht16]; simp), if_neg (by rw [ht35]; simp), if_neg (by rw [ht50]; simp), if_pos ht57]
      refine W.draw [0, 1, 0, 4, 12, 31, 63, 63, 255, 511] 8 Tryzmixed (by kernel_rfl) ?_
      refine D.fieldAddrRo (off := 1) Tryz.underlying27 Tryz.sizeOf9 ?_
      refine D.loadRo Tryz.isAgg9 ?_
      refine D.move ?_
      refine D.indexAddr (0) (valA (vs.getD 0 noV)) Tryz.underlying42 Tryz.sizeOf24 hg0 ?_
      refine D.loadRoN Tryz.isAgg24 Tryz.sizeOf24 ?_
      refine D.call Tryz.call108 (c108 _ _ hf0 _) ?_
      refine D.extract ?_
      refine D.extract ?_
      refine D.tail ?_
      refine R.storeOwn Tryz.sizeOf24 ?_
      refine R.assign ?_
      refine R.fin [4, 5] ?_
      refine AW.ret ?_
      refine K.blR ?_
      refine K.thR ?_
      exact K.fin (V.two (V.cellN Tryz.isAgg24 Tryz.sizeOf24) V.tmp) ⟨by rw [hm]; try rfl, rfl⟩
     ·skip
      rw [List.length_map] at ht57
      obtain ⟨a, b, rfl⟩ : ∃ a b, vs = [a, b] := by
       rcases hcl with h1 | h1
       ·exfalso
        have := ht57
        rw [h1] at this
        simp at this
       ·exact h1
      refine AW.seqR ?_
      refine R.move ?_
      refine R.buildSl Tryz.underlying155 Tryz.sizeOf3 Tryz.zeroValue3 ?_
      refine R.call Tryz.call105 (c105 [a, b] [2, 1] (by simp) (by simp) _) ?_
      refine R.not ?_
      refine R.assign ?_
      refine R.fin [1, 2, 4, 69] ?_
      refine W.cond (fun ht69 => ?_) (fun ht69 => ?_)
      ·skip
       have hm : strictM e.op e.text [a, b] = wrongR 10 := by unfold strictM; rw [if_neg (by rw [ht6]; simp), if_neg (by rw [ht16]; simp), if_neg (by rw [ht35]; simp), if_neg (by rw [ht50]; simp), if_neg (by rw [ht57]; simp), if_pos ht69]
       refine AW.seqR ?_
       refine R.call Tryz.call43 (c43 _ _) ?_
       refine R.extract ?_
       refine R.extract ?_
       refine R.storeOwn Tryz.sizeOf24 ?_
       refine R.assign ?_
       refine R.fin [4, 5] ?_
       refine AW.ret ?_
       refine K.blR ?_
       refine K.thR ?_
       exact K.fin (V.two (V.cellN Tryz.isAgg24 Tryz.sizeOf24) V.tmp) ⟨by rw [hm]; try rfl, rfl⟩
      ·skip
       have hm : strictM e.op e.text [a, b] = (pieceM e.text a.s b.n, 0) := by unfold strictM; rw [if_neg (by rw [ht6]; simp), if_neg (by rw [ht16]; simp), if_neg (by rw [ht35]; simp), if_neg (by rw [ht50]; simp), if_neg (by rw [ht57]; simp), if_neg (by rw [ht69]; simp)]; rfl
       refine AW.skip ?_
       refine K.blN ?_
       refine K.thN ?_
       refine W.draw [0, 1, 0, 4, 12, 28, 0, 64, 192, 448, 1023, 2047, 4095] 10 Tryzmixed (by kernel_rfl) ?_
       refine D.fieldAddrRo (off := 1) Tryz.underlying27 Tryz.sizeOf9 ?_
       refine D.loadRo Tryz.isAgg9 ?_
       refine D.move ?_
       refine D.indexAddr (0) (valA a) Tryz.underlying42 Tryz.sizeOf24 (show ([valA a, valA b] : List AV)[0]? = some (valA a) from rfl) ?_
       refine D.fieldAddrRo (off := 2) Tryz.underlying24 Tryz.sizeOf9 ?_
       refine D.loadRo Tryz.isAgg9 ?_
       refine D.move ?_
       refine D.indexAddr (1) (valA b) Tryz.underlying42 Tryz.sizeOf24 (show ([valA a, valA b] : List AV)[1]? = some (valA b) from rfl) ?_
       refine D.fieldAddrRo (off := 1) Tryz.underlying24 Tryz.sizeOf2 ?_
       refine D.loadRo Tryz.isAgg2 ?_
       refine D.tail ?_
       refine R.call Tryz.call109 (c109 e.text a.s b.n (by have := (h.fine a (by simp)).len; omega) _) ?_
       refine R.storeOwn Tryz.sizeOf24 ?_
       refine R.assign ?_
       refine R.fin [4, 5] ?_
       refine AW.ret ?_
       exact K.fin (V.two (V.cellN Tryz.isAgg24 Tryz.sizeOf24) V.tmp) ⟨by rw [hm]; try rfl, rfl⟩

end Go.SX.Nb
namespace Go.SX.Nb
open Go Go.SX Go.Proofs
variable [ErrAt]
set_option maxRecDepth 4000
theorem val_beq (a b : Val) : ((a.kind == b.kind && a.n == b.n) && a.s == b.s) = (a == b) := by
  obtain ⟨k, n, s⟩ := a
  obtain ⟨k', n', s'⟩ := b
  by_cases h : (⟨k, n, s⟩ : Val) = ⟨k', n', s'⟩
  · injection h with h1 h2 h3
    subst h1; subst h2; subst h3
    simp
  · have : ((⟨k, n, s⟩ : Val) == ⟨k', n', s'⟩) = false := by simpa using h
    rw [this]
    simp only [Bool.and_eq_false_iff, beq_eq_false_iff_ne]
    by_cases h1 : k = k'
    · by_cases h2 : n = n'
      · right
        rintro rfl
        exact h (by rw [h1, h2])
      · exact .inl (.inr h2)
    · exact .inl (.inl h1)
/-- What eval answers for a tree, over any heap. -/
abbrev EvalsTo (c : List Col) (l : List Val) (e : Expr) (r : Rs) : Prop := ∀ Hp, AFun Tryz.prog 44 [scopeA c l, exprA e] Hp (resA r)
theorem c84 (c : List Col) (l : List Val) (x : Expr) (r : Rs) (h : EvalsTo c l x r) (Hp : List AObj) : AFun Tryz.prog 84 [scopeA c l, exprA x] Hp (resA (truthR r)) := by
  refine ACall.body [.cell 4 24, .tmp 5] [0, 1] Tryz.func84 Tryz.ntmps84 (fun d => ?_)
  refine AW.seqR ?_
  refine R.boxRo ?_
  refine R.boxRo ?_
  refine R.alloc Tryz.zeroValue24 ?_
  refine R.assign ?_
  refine R.fin [2, 3, 4] ?_
  refine AW.seqR ?_
  refine R.loadRoN Tryz.isAgg83 Tryz.sizeOf83 ?_
  refine R.loadRoN Tryz.isAgg27 Tryz.sizeOf27 ?_
  refine R.call Tryz.call44 (h _) ?_
  refine R.move ?_
  refine R.extract ?_
  refine R.extract ?_
  refine R.alloc Tryz.zeroValue24 ?_
  refine R.storeOwn Tryz.sizeOf24 ?_
  refine R.assign ?_
  refine R.fin [4, 6, 7] ?_
  refine W.seq ?_
  refine AW.seqR ?_
  refine R.move ?_
  refine R.eql ?_
  refine R.move ?_
  refine G.fieldAddrPtr (fo := 0) Tryz.underlying24 Tryz.sizeOf3 ?_
  refine G.loadOwn Tryz.isAgg3 ?_
  refine G.neq ?_
  refine R.pickAnd ?_
  refine R.move ?_
  refine G.fieldAddrPtr (fo := 0) Tryz.underlying24 Tryz.sizeOf3 ?_
  refine G.loadOwn Tryz.isAgg3 ?_
  refine G.neq ?_
  refine R.pickAnd ?_
  refine R.fin [4, 6, 7, 25] ?_
  refine W.cond (fun ht25 => ?_) (fun ht25 => ?_)
  · skip
    have hm : truthR r = wrongR 10 := if_pos ht25
    refine AW.seqR ?_
    refine R.call Tryz.call43 (c43 _ _) ?_
    refine R.extract ?_
    refine R.extract ?_
    refine R.storeOwn Tryz.sizeOf24 ?_
    refine R.assign ?_
    refine R.fin [4, 5] ?_
    refine AW.ret ?_
    refine K.thR ?_
    exact K.fin (V.two (V.cellN Tryz.isAgg24 Tryz.sizeOf24) V.tmp) ⟨by rw [hm]; try rfl, rfl⟩
  · skip
    have hm : truthR r = r := if_neg (by rw [ht25]; simp)
    refine AW.skip ?_
    refine K.thN ?_
    refine AW.seqR ?_
    refine R.loadOwnN Tryz.isAgg24 Tryz.sizeOf24 ?_
    refine R.move ?_
    refine R.storeOwn Tryz.sizeOf24 ?_
    refine R.assign ?_
    refine R.fin [4, 5] ?_
    refine AW.ret ?_
    exact K.fin (V.two (V.cellN Tryz.isAgg24 Tryz.sizeOf24) V.tmp) ⟨by rw [hm]; try rfl, rfl⟩

theorem c60 (c : List Col) (l : List Val) (x k0 k1 : Expr) (s : Val) (ra rb : Rs) (h0 : (x.kids.map exprA)[0]? = some (exprA k0)) (h1 : (x.kids.map exprA)[1]? = some (exprA k1)) (ha : EvalsTo c l k0 ra) (hb : EvalsTo c l k1 rb) (Hp : List AObj) : AFun Tryz.prog 60 [scopeA c l, exprA x, valA s] Hp (resA (logicR s ra rb)) := by
  refine ACall.body [.cell 6 24, .tmp 7] [0, 1, 2] Tryz.func60 Tryz.ntmps60 (fun d => ?_)
  refine AW.seqR ?_
  refine R.boxRo ?_
  refine R.boxRo ?_
  refine R.boxRo ?_
  refine R.alloc Tryz.zeroValue24 ?_
  refine R.assign ?_
  refine R.fin [3, 4, 5, 6] ?_
  refine W.drawY [0, 0, 2, 6, 14, 31, 63, 127, 127, 0, 767, 2047] [9, 10] [.q 9 [] [], .s [8] (some 0) [] [1], .s [] (some 1) [0] []] (fun _ => Hp) (fun B => if B 0 = true then [.cells 24 [intA 0, intA 0, strA []], (if B 1 = true then .cells 24 [intA (truthR ra).1.kind, intA (truthR ra).1.n, strA (truthR ra).1.s] else .cells 24 [intA 0, intA 0, strA []] : AObj)] else [.cells 24 [intA 0, intA 0, strA []]]) Tryzmixed (by kernel_rfl) rfl rfl (fun _ => rfl) ?_
  apply Y.q
  case h1 =>
    intro B hT hF
    refine D.loadRoN Tryz.isAgg83 Tryz.sizeOf83 ?_
    refine D.fieldAddrRo (off := 5) Tryz.underlying27 Tryz.sizeOf25 ?_
    refine D.loadRo Tryz.isAgg25 ?_
    refine D.indexAddr (0) (exprA k0) Tryz.underlying25 Tryz.sizeOf27 h0 ?_
    refine D.loadRoN Tryz.isAgg27 Tryz.sizeOf27 ?_
    refine D.call Tryz.call84 (c84 c l k0 ra ha _) ?_
    refine D.move ?_
    refine D.extract ?_
    refine D.extract ?_
    exact D.end rfl rfl
  case hTF => decide
  refine Y.alloc (zs := [intA 0, intA 0, strA []]) (n := 1) (u := Hp.length) Tryz.zeroValue24 (fun B hT hF hB => ⟨rfl, by simp [hB], by simp [upd, hB, hF 1 (by simp)], rfl⟩) ?_
  refine Y.storeOwnT (u := Hp.length) (n := 1) (t' := 24) (cs := [intA 0, intA 0, strA []]) (cs' := [intA (truthR ra).1.kind, intA (truthR ra).1.n, strA (truthR ra).1.s]) Tryz.sizeOf24 (fun B hT hF hB => ⟨rfl, by simp [hT 0 (by simp), hB], by simp [upd, hT 0 (by simp), hB], rfl⟩) ?_
  refine Y.tail (tn := [9, 10]) (O := [.cells 24 [intA 0, intA 0, strA []], .cells 24 [intA (truthR ra).1.kind, intA (truthR ra).1.n, strA (truthR ra).1.s]]) ?_
  refine R.assign ?_
  refine R.fin [3, 4, 5, 6, 8, 9] ?_
  refine W.seq ?_
  refine AW.seqR ?_
  refine R.move ?_
  refine R.neq ?_
  refine R.move ?_
  refine G.loadOwnN Tryz.isAgg24 Tryz.sizeOf24 ?_
  refine G.loadRoN Tryz.isAgg24 Tryz.sizeOf24 ?_
  refine G.eqlAgg eg24 (fun w => equal24 (truthR ra).1.kind (truthR ra).1.n s.kind s.n (truthR ra).1.s s.s w) ?_
  refine R.pickOr ?_
  refine R.fin [3, 4, 5, 6, 8, 9, 26] ?_
  refine W.cond (fun ht26 => ?_) (fun ht26 => ?_)
  · skip
    rw [val_beq] at ht26
    have hm : logicR s ra rb = truthR ra := if_pos ht26
    refine AW.seqR ?_
    refine R.loadOwnN Tryz.isAgg24 Tryz.sizeOf24 ?_
    refine R.move ?_
    refine R.storeOwn Tryz.sizeOf24 ?_
    refine R.assign ?_
    refine R.fin [6, 7] ?_
    refine AW.ret ?_
    refine K.thR ?_
    exact K.fin (V.two (V.cellN Tryz.isAgg24 Tryz.sizeOf24) V.tmp) ⟨by rw [hm]; try rfl, rfl⟩
  · skip
    rw [val_beq] at ht26
    refine AW.skip ?_
    refine K.thN ?_
    refine W.drawY [0, 0, 2, 6, 14, 31, 63, 127, 127, 0, 767, 2047] [9, 10] [.q 9 [] [], .s [10] (some 0) [] [1], .s [] (some 1) [0] []] (fun _ => Hp) (fun B => if B 0 = true then [.cells 24 [intA 0, intA 0, strA []], .cells 24 [intA (truthR ra).1.kind, intA (truthR ra).1.n, strA (truthR ra).1.s], (if B 1 = true then .cells 24 [intA (truthR rb).1.kind, intA (truthR rb).1.n, strA (truthR rb).1.s] else .cells 24 [intA 0, intA 0, strA []] : AObj)] else [.cells 24 [intA 0, intA 0, strA []], .cells 24 [intA (truthR ra).1.kind, intA (truthR ra).1.n, strA (truthR ra).1.s]]) Tryzmixed (by kernel_rfl) rfl rfl (fun _ => rfl) ?_
    apply Y.q
    case h1 =>
      intro B hT hF
      refine D.loadRoN Tryz.isAgg83 Tryz.sizeOf83 ?_
      refine D.fieldAddrRo (off := 5) Tryz.underlying27 Tryz.sizeOf25 ?_
      refine D.loadRo Tryz.isAgg25 ?_
      refine D.indexAddr (1) (exprA k1) Tryz.underlying25 Tryz.sizeOf27 h1 ?_
      refine D.loadRoN Tryz.isAgg27 Tryz.sizeOf27 ?_
      refine D.call Tryz.call84 (c84 c l k1 rb hb _) ?_
      refine D.move ?_
      refine D.extract ?_
      refine D.extract ?_
      exact D.end rfl rfl
    case hTF => decide
    refine Y.alloc (zs := [intA 0, intA 0, strA []]) (n := 2) (u := Hp.length) Tryz.zeroValue24 (fun B hT hF hB => ⟨rfl, by simp [hB], by simp [upd, hB, hF 1 (by simp)], rfl⟩) ?_
    refine Y.storeOwnT (u := Hp.length) (n := 2) (t' := 24) (cs := [intA 0, intA 0, strA []]) (cs' := [intA (truthR rb).1.kind, intA (truthR rb).1.n, strA (truthR rb).1.s]) Tryz.sizeOf24 (fun B hT hF hB => ⟨rfl, by simp [hT 0 (by simp), hB], by simp [upd, hT 0 (by simp), hB], rfl⟩) ?_
    refine Y.tail (tn := [9, 10]) (O := [.cells 24 [intA 0, intA 0, strA []], .cells 24 [intA (truthR ra).1.kind, intA (truthR ra).1.n, strA (truthR ra).1.s], .cells 24 [intA (truthR rb).1.kind, intA (truthR rb).1.n, strA (truthR rb).1.s]]) ?_
    refine R.assign ?_
    refine R.fin [5, 6, 8, 9, 10] ?_
    refine W.seq ?_
    refine AW.seqR ?_
    refine R.move ?_
    refine R.neq ?_
    refine R.move ?_
    refine G.loadOwnN Tryz.isAgg24 Tryz.sizeOf24 ?_
    refine G.loadRoN Tryz.isAgg24 Tryz.sizeOf24 ?_
    refine G.eqlAgg eg24 (fun w => equal24 (truthR rb).1.kind (truthR rb).1.n s.kind s.n (truthR rb).1.s s.s w) ?_
    refine R.pickOr ?_
    refine R.move ?_
    refine G.fieldAddrPtr (fo := 0) Tryz.underlying24 Tryz.sizeOf3 ?_
    refine G.loadOwn Tryz.isAgg3 ?_
    refine G.neq ?_
    refine R.pickOr ?_
    refine R.fin [6, 8, 9, 10, 49] ?_
    refine W.cond (fun ht49 => ?_) (fun ht49 => ?_)
    · skip
      rw [val_beq] at ht49
      have hm : logicR s ra rb = truthR rb := by unfold logicR; rw [if_neg (by rw [ht26]; simp), if_pos ht49]
      refine AW.seqR ?_
      refine R.loadOwnN Tryz.isAgg24 Tryz.sizeOf24 ?_
      refine R.move ?_
      refine R.storeOwn Tryz.sizeOf24 ?_
      refine R.assign ?_
      refine R.fin [6, 7] ?_
      refine AW.ret ?_
      refine K.thR ?_
      exact K.fin (V.two (V.cellN Tryz.isAgg24 Tryz.sizeOf24) V.tmp) ⟨by rw [hm]; try rfl, rfl⟩
    · skip
      rw [val_beq] at ht49
      have hm : logicR s ra rb = ((truthR ra).1, 0) := by unfold logicR; rw [if_neg (by rw [ht26]; simp), if_neg (by rw [ht49]; simp)]
      refine AW.skip ?_
      refine K.thN ?_
      refine AW.seqR ?_
      refine R.loadOwnN Tryz.isAgg24 Tryz.sizeOf24 ?_
      refine R.storeOwn Tryz.sizeOf24 ?_
      refine R.assign ?_
      refine R.fin [6, 7] ?_
      refine AW.ret ?_
      exact K.fin (V.two (V.cellN Tryz.isAgg24 Tryz.sizeOf24) V.tmp) ⟨by rw [hm]; try rfl, rfl⟩

theorem c62 (c : List Col) (l : List Val) (x k0 k1 k2 : Expr) (ra rb d2 : Rs) (h0 : (x.kids.map exprA)[0]? = some (exprA k0)) (h1 : (x.text == isnullW) = false → (x.kids.map exprA)[1]? = some (exprA k1)) (h2 : (x.text == ifW) = true → (x.kids.map exprA)[2]? = some (exprA k2)) (ha : EvalsTo c l k0 ra) (hb : (x.text == isnullW) = false → EvalsTo c l k1 rb) (hd : (x.text == ifW) = true → EvalsTo c l k2 d2) (Hp : List AObj) : AFun Tryz.prog 62 [scopeA c l, exprA x] Hp (resA (callR x.text ra rb d2)) := by
  refine ACall.body [.cell 4 24, .tmp 5] [0, 1] Tryz.func62 Tryz.ntmps62 (fun d => ?_)
  refine AW.seqR ?_
  refine R.boxRo ?_
  refine R.boxRo ?_
  refine R.alloc Tryz.zeroValue24 ?_
  refine R.assign ?_
  refine R.fin [2, 3, 4] ?_
  refine W.seq ?_
  refine AW.seqR ?_
  refine R.fieldAddrRo (off := 1) Tryz.underlying27 Tryz.sizeOf9 ?_
  refine R.loadRo Tryz.isAgg9 ?_
  refine R.seql ?_
  refine R.fin [2, 3, 4, 12] ?_
  refine W.cond (fun ht12 => ?_) (fun ht12 => ?_)
  · skip
    have hni : (x.text == isnullW) = false := by have e : x.text = ifW := by simpa [ifW] using ht12
                                                 rw [e]; rfl
    have hc : callR x.text ra rb d2 = (if (truthR ra).2 != 0 then wrongR (truthR ra).2 else if (truthR ra).1 == boolV true then rb else d2) := if_pos ht12
    refine W.drawY [0, 0, 2, 6, 14, 31, 63, 127, 127, 0, 767, 2047] [9, 10] [.q 9 [] [], .s [6] (some 0) [] [1], .s [] (some 1) [0] []] (fun _ => Hp) (fun B => if B 0 = true then [.cells 24 [intA 0, intA 0, strA []], (if B 1 = true then .cells 24 [intA (truthR ra).1.kind, intA (truthR ra).1.n, strA (truthR ra).1.s] else .cells 24 [intA 0, intA 0, strA []] : AObj)] else [.cells 24 [intA 0, intA 0, strA []]]) Tryzmixed (by kernel_rfl) rfl rfl (fun _ => rfl) ?_
    apply Y.q
    case h1 =>
      intro B hT hF
      refine D.loadRoN Tryz.isAgg83 Tryz.sizeOf83 ?_
      refine D.fieldAddrRo (off := 5) Tryz.underlying27 Tryz.sizeOf25 ?_
      refine D.loadRo Tryz.isAgg25 ?_
      refine D.indexAddr (0) (exprA k0) Tryz.underlying25 Tryz.sizeOf27 h0 ?_
      refine D.loadRoN Tryz.isAgg27 Tryz.sizeOf27 ?_
      refine D.call Tryz.call84 (c84 c l k0 ra ha _) ?_
      refine D.move ?_
      refine D.extract ?_
      refine D.extract ?_
      exact D.end rfl rfl
    case hTF => decide
    refine Y.alloc (zs := [intA 0, intA 0, strA []]) (n := 1) (u := Hp.length) Tryz.zeroValue24 (fun B hT hF hB => ⟨rfl, by simp [hB], by simp [upd, hB, hF 1 (by simp)], rfl⟩) ?_
    refine Y.storeOwnT (u := Hp.length) (n := 1) (t' := 24) (cs := [intA 0, intA 0, strA []]) (cs' := [intA (truthR ra).1.kind, intA (truthR ra).1.n, strA (truthR ra).1.s]) Tryz.sizeOf24 (fun B hT hF hB => ⟨rfl, by simp [hT 0 (by simp), hB], by simp [upd, hT 0 (by simp), hB], rfl⟩) ?_
    refine Y.tail (tn := [9, 10]) (O := [.cells 24 [intA 0, intA 0, strA []], .cells 24 [intA (truthR ra).1.kind, intA (truthR ra).1.n, strA (truthR ra).1.s]]) ?_
    refine R.assign ?_
    refine R.fin [2, 3, 4, 6, 7] ?_
    refine W.seq ?_
    refine AW.block ?_
    refine AW.seqR ?_
    refine R.move ?_
    refine R.neq ?_
    refine R.assign ?_
    refine R.fin [2, 3, 4, 6, 7, 22] ?_
    refine W.cond (fun ht22 => ?_) (fun ht22 => ?_)
    · skip
      have hm : callR x.text ra rb d2 = wrongR (truthR ra).2 := by rw [hc, if_pos ht22]
      refine AW.seqR ?_
      refine R.move ?_
      refine R.call Tryz.call43 (c43 _ _) ?_
      refine R.extract ?_
      refine R.extract ?_
      refine R.storeOwn Tryz.sizeOf24 ?_
      refine R.assign ?_
      refine R.fin [4, 5] ?_
      refine AW.ret ?_
      refine K.blR ?_
      refine K.thR ?_
      refine K.thR ?_
      exact K.fin (V.two (V.cellN Tryz.isAgg24 Tryz.sizeOf24) V.tmp) ⟨by rw [hm]; try rfl, rfl⟩
    · skip
      refine W.draw [0, 0, 3, 7] 2 Tryzmixed (by kernel_rfl) ?_
      refine D.loadOwnN Tryz.isAgg24 Tryz.sizeOf24 ?_
      refine D.call Tryz.call61 (c61 true _) ?_
      refine D.tail ?_
      refine R.eqlAgg eg24 (fun w => equal24 (truthR ra).1.kind (truthR ra).1.n 3 1 (truthR ra).1.s [] w) ?_
      refine R.assign ?_
      refine R.fin [2, 3, 4, 29] ?_
      refine W.cond (fun ht29 => ?_) (fun ht29 => ?_)
      · skip
        rw [val_beq (truthR ra).1 ⟨3, 1, []⟩] at ht29
        have ht29b : ((truthR ra).1 == boolV true) = true := ht29
        have hm : callR x.text ra rb d2 = rb := by rw [hc, if_neg (by rw [ht22]; simp), if_pos ht29b]
        refine W.draw [0, 0, 2, 6, 14, 31, 63, 63, 255, 511] 8 Tryzmixed (by kernel_rfl) ?_
        refine D.loadRoN Tryz.isAgg83 Tryz.sizeOf83 ?_
        refine D.fieldAddrRo (off := 5) Tryz.underlying27 Tryz.sizeOf25 ?_
        refine D.loadRo Tryz.isAgg25 ?_
        refine D.indexAddr (1) (exprA k1) Tryz.underlying25 Tryz.sizeOf27 (h1 hni) ?_
        refine D.loadRoN Tryz.isAgg27 Tryz.sizeOf27 ?_
        refine D.call Tryz.call44 (hb hni _) ?_
        refine D.extract ?_
        refine D.extract ?_
        refine D.tail ?_
        refine R.storeOwn Tryz.sizeOf24 ?_
        refine R.assign ?_
        refine R.fin [4, 5] ?_
        refine AW.ret ?_
        refine K.blR ?_
        refine K.thR ?_
        refine K.thR ?_
        exact K.fin (V.two (V.cellN Tryz.isAgg24 Tryz.sizeOf24) V.tmp) ⟨by rw [hm]; try rfl, rfl⟩
      · skip
        rw [val_beq (truthR ra).1 ⟨3, 1, []⟩] at ht29
        have hm : callR x.text ra rb d2 = d2 := by rw [hc, if_neg (by rw [ht22]; simp), if_neg (by show ¬ ((truthR ra).1 == ⟨3, 1, []⟩) = true; rw [ht29]; simp)]
        refine AW.skip ?_
        refine K.blN ?_
        refine K.thN ?_
        refine W.draw [0, 0, 2, 6, 14, 31, 63, 63, 255, 511] 8 Tryzmixed (by kernel_rfl) ?_
        refine D.loadRoN Tryz.isAgg83 Tryz.sizeOf83 ?_
        refine D.fieldAddrRo (off := 5) Tryz.underlying27 Tryz.sizeOf25 ?_
        refine D.loadRo Tryz.isAgg25 ?_
        refine D.indexAddr (2) (exprA k2) Tryz.underlying25 Tryz.sizeOf27 (h2 ht12) ?_
        refine D.loadRoN Tryz.isAgg27 Tryz.sizeOf27 ?_
        refine D.call Tryz.call44 (hd ht12 _) ?_
        refine D.extract ?_
        refine D.extract ?_
        refine D.tail ?_
        refine R.storeOwn Tryz.sizeOf24 ?_
        refine R.assign ?_
        refine R.fin [4, 5] ?_
        refine AW.ret ?_
        refine K.thR ?_
        exact K.fin (V.two (V.cellN Tryz.isAgg24 Tryz.sizeOf24) V.tmp) ⟨by rw [hm]; try rfl, rfl⟩
  · skip
    have hc : callR x.text ra rb d2 = (if ra.2 != 0 then wrongR ra.2 else if x.text == isnullW then (boolV (ra.1.kind == 0), 0) else if ra.1.kind != 0 then (ra.1, 0) else rb) := if_neg (by show ¬ (x.text == ifW) = true; rw [show (x.text == ifW) = false from ht12]; simp)
    refine AW.skip ?_
    refine K.thN ?_
    refine W.drawY [0, 0, 2, 6, 14, 31, 63, 127, 127, 0, 767, 2047] [9, 10] [.q 9 [] [], .s [8] (some 0) [] [1], .s [] (some 1) [0] []] (fun _ => Hp) (fun B => if B 0 = true then [.cells 24 [intA 0, intA 0, strA []], (if B 1 = true then .cells 24 [intA ra.1.kind, intA ra.1.n, strA ra.1.s] else .cells 24 [intA 0, intA 0, strA []] : AObj)] else [.cells 24 [intA 0, intA 0, strA []]]) Tryzmixed (by kernel_rfl) rfl rfl (fun _ => rfl) ?_
    apply Y.q
    case h1 =>
      intro B hT hF
      refine D.loadRoN Tryz.isAgg83 Tryz.sizeOf83 ?_
      refine D.fieldAddrRo (off := 5) Tryz.underlying27 Tryz.sizeOf25 ?_
      refine D.loadRo Tryz.isAgg25 ?_
      refine D.indexAddr (0) (exprA k0) Tryz.underlying25 Tryz.sizeOf27 h0 ?_
      refine D.loadRoN Tryz.isAgg27 Tryz.sizeOf27 ?_
      refine D.call Tryz.call44 (ha _) ?_
      refine D.move ?_
      refine D.extract ?_
      refine D.extract ?_
      exact D.end rfl rfl
    case hTF => decide
    refine Y.alloc (zs := [intA 0, intA 0, strA []]) (n := 1) (u := Hp.length) Tryz.zeroValue24 (fun B hT hF hB => ⟨rfl, by simp [hB], by simp [upd, hB, hF 1 (by simp)], rfl⟩) ?_
    refine Y.storeOwnT (u := Hp.length) (n := 1) (t' := 24) (cs := [intA 0, intA 0, strA []]) (cs' := [intA ra.1.kind, intA ra.1.n, strA ra.1.s]) Tryz.sizeOf24 (fun B hT hF hB => ⟨rfl, by simp [hT 0 (by simp), hB], by simp [upd, hT 0 (by simp), hB], rfl⟩) ?_
    refine Y.tail (tn := [9, 10]) (O := [.cells 24 [intA 0, intA 0, strA []], .cells 24 [intA ra.1.kind, intA ra.1.n, strA ra.1.s]]) ?_
    refine R.assign ?_
    refine R.fin [2, 3, 4, 8, 9] ?_
    refine W.seq ?_
    refine AW.block ?_
    refine AW.seqR ?_
    refine R.move ?_
    refine R.neq ?_
    refine R.assign ?_
    refine R.fin [2, 3, 4, 8, 9, 58] ?_
    refine W.cond (fun ht58 => ?_) (fun ht58 => ?_)
    · skip
      have hm : callR x.text ra rb d2 = wrongR ra.2 := by rw [hc, if_pos ht58]
      refine AW.seqR ?_
      refine R.move ?_
      refine R.call Tryz.call43 (c43 _ _) ?_
      refine R.extract ?_
      refine R.extract ?_
      refine R.storeOwn Tryz.sizeOf24 ?_
      refine R.assign ?_
      refine R.fin [4, 5] ?_
      refine AW.ret ?_
      refine K.blR ?_
      refine K.thR ?_
      exact K.fin (V.two (V.cellN Tryz.isAgg24 Tryz.sizeOf24) V.tmp) ⟨by rw [hm]; try rfl, rfl⟩
    · skip
      refine AW.seqR ?_
      refine R.fieldAddrRo (off := 1) Tryz.underlying27 Tryz.sizeOf9 ?_
      refine R.loadRo Tryz.isAgg9 ?_
      refine R.seql ?_
      refine R.assign ?_
      refine R.fin [2, 3, 4, 8, 65] ?_
      refine W.cond (fun ht65 => ?_) (fun ht65 => ?_)
      · skip
        have hm : callR x.text ra rb d2 = (boolV (ra.1.kind == 0), 0) := by rw [hc, if_neg (by rw [ht58]; simp), if_pos (show (x.text == isnullW) = true from ht65)]
        refine AW.seqR ?_
        refine R.fieldAddrPtr (fo := 0) Tryz.underlying24 Tryz.sizeOf3 ?_
        refine R.loadOwn Tryz.isAgg3 ?_
        refine R.eql ?_
        refine R.call Tryz.call61 (c61 _ _) ?_
        refine R.storeOwn Tryz.sizeOf24 ?_
        refine R.assign ?_
        refine R.fin [4, 5] ?_
        refine AW.ret ?_
        refine K.blR ?_
        refine K.thR ?_
        exact K.fin (V.two (V.cellN Tryz.isAgg24 Tryz.sizeOf24) V.tmp) ⟨by rw [hm]; try rfl, rfl⟩
      · skip
        refine AW.seqR ?_
        refine R.fieldAddrPtr (fo := 0) Tryz.underlying24 Tryz.sizeOf3 ?_
        refine R.loadOwn Tryz.isAgg3 ?_
        refine R.neq ?_
        refine R.assign ?_
        refine R.fin [2, 3, 4, 8, 73] ?_
        refine W.cond (fun ht73 => ?_) (fun ht73 => ?_)
        · skip
          have hm : callR x.text ra rb d2 = (ra.1, 0) := by rw [hc, if_neg (by rw [ht58]; simp), if_neg (by show ¬ (x.text == isnullW) = true; rw [show (x.text == isnullW) = false from ht65]; simp), if_pos ht73]
          refine AW.seqR ?_
          refine R.loadOwnN Tryz.isAgg24 Tryz.sizeOf24 ?_
          refine R.storeOwn Tryz.sizeOf24 ?_
          refine R.assign ?_
          refine R.fin [4, 5] ?_
          refine AW.ret ?_
          refine K.blR ?_
          refine K.thR ?_
          exact K.fin (V.two (V.cellN Tryz.isAgg24 Tryz.sizeOf24) V.tmp) ⟨by rw [hm]; try rfl, rfl⟩
        · skip
          have hm : callR x.text ra rb d2 = rb := by rw [hc, if_neg (by rw [ht58]; simp), if_neg (by show ¬ (x.text == isnullW) = true; rw [show (x.text == isnullW) = false from ht65]; simp), if_neg (by rw [ht73]; simp)]
          refine AW.skip ?_
          refine K.blN ?_
          refine K.thN ?_
          refine W.draw [0, 0, 2, 6, 14, 31, 63, 63, 255, 511] 8 Tryzmixed (by kernel_rfl) ?_
          refine D.loadRoN Tryz.isAgg83 Tryz.sizeOf83 ?_
          refine D.fieldAddrRo (off := 5) Tryz.underlying27 Tryz.sizeOf25 ?_
          refine D.loadRo Tryz.isAgg25 ?_
          refine D.indexAddr (1) (exprA k1) Tryz.underlying25 Tryz.sizeOf27 (h1 ht65) ?_
          refine D.loadRoN Tryz.isAgg27 Tryz.sizeOf27 ?_
          refine D.call Tryz.call44 (hb ht65 _) ?_
          refine D.extract ?_
          refine D.extract ?_
          refine D.tail ?_
          refine R.storeOwn Tryz.sizeOf24 ?_
          refine R.assign ?_
          refine R.fin [4, 5] ?_
          refine AW.ret ?_
          exact K.fin (V.two (V.cellN Tryz.isAgg24 Tryz.sizeOf24) V.tmp) ⟨by rw [hm]; try rfl, rfl⟩

end Go.SX.Nb
namespace Go.SX.Nb
open Go Go.SX Go.Proofs
variable [ErrAt]
set_option maxRecDepth 4000
end Go.SX.Nb
namespace Go.SX.Nb
open Go Go.SX Go.Proofs
variable [ErrAt]
set_option maxRecDepth 4000
abbrev signA (s : Sign) : AV := .agg [.slice false 1 (s.kids.map intA), intA s.own]
structure FitAt (s : Sign) (ks : List Int) (x : Nat × Int) : Prop where
 le : x.1 ≤ ks.length
 eq : fitK s.kids ks 0 = fitK (s.kids.drop x.1) (ks.drop x.1) x.2
theorem FitAt.step {s : Sign} {ks : List Int} {x : Nat × Int} (h : FitAt s ks x) (hk : x.1 < ks.length) (hs : x.1 < s.kids.length) : fitK s.kids ks 0 = (if s.kids[x.1] == -2 then fitK (s.kids.drop (x.1 + 1)) (ks.drop (x.1 + 1)) x.2 else if s.kids[x.1] == -1 then (if (meetM x.2 ks[x.1]).2 then fitK (s.kids.drop (x.1 + 1)) (ks.drop (x.1 + 1)) (meetM x.2 ks[x.1]).1 else none) else if (meetM s.kids[x.1] ks[x.1]).2 then fitK (s.kids.drop (x.1 + 1)) (ks.drop (x.1 + 1)) x.2 else none) := by
 rw [h.eq, List.drop_eq_getElem_cons hk, List.drop_eq_getElem_cons hs, fitK]
theorem FitAt.skip {s : Sign} {ks : List Int} {x : Nat × Int} (h : FitAt s ks x) (hk : x.1 < ks.length) (hs : x.1 < s.kids.length) (h2 : (s.kids[x.1] == -2) = true) : FitAt s ks (x.1 + 1, x.2) := ⟨hk, by rw [h.step hk hs, if_pos h2]⟩
theorem FitAt.same {s : Sign} {ks : List Int} {x : Nat × Int} (h : FitAt s ks x) (hk : x.1 < ks.length) (hs : x.1 < s.kids.length) (h2 : (s.kids[x.1] == -2) = false) (h1 : (s.kids[x.1] == -1) = true) (hm : (meetM x.2 ks[x.1]).2 = true) : FitAt s ks (x.1 + 1, (meetM x.2 ks[x.1]).1) := ⟨hk, by rw [h.step hk hs, if_neg (by rw [h2]; simp), if_pos h1, if_pos hm]⟩
theorem FitAt.want {s : Sign} {ks : List Int} {x : Nat × Int} (h : FitAt s ks x) (hk : x.1 < ks.length) (hs : x.1 < s.kids.length) (h2 : (s.kids[x.1] == -2) = false) (h1 : (s.kids[x.1] == -1) = false) (hm : (meetM s.kids[x.1] ks[x.1]).2 = true) : FitAt s ks (x.1 + 1, x.2) := ⟨hk, by rw [h.step hk hs, if_neg (by rw [h2]; simp), if_neg (by rw [h1]; simp), if_pos hm]⟩
theorem FitAt.bad {s : Sign} {ks : List Int} {x : Nat × Int} (h : FitAt s ks x) (hk : x.1 < ks.length) (hs : x.1 < s.kids.length) (h2 : (s.kids[x.1] == -2) = false) (hm : (if s.kids[x.1] == -1 then (meetM x.2 ks[x.1]).2 else (meetM s.kids[x.1] ks[x.1]).2) = false) : fitM s ks = (0, 10) := by
 unfold fitM
 rw [h.step hk hs, if_neg (by rw [h2]; simp)]
 split at hm
 ·rename_i h1
  rw [if_pos h1, if_neg (by rw [hm]; simp)]
 ·rename_i h1
  rw [if_neg h1, if_neg (by rw [hm]; simp)]
theorem FitAt.out {s : Sign} {ks : List Int} {x : Nat × Int} (h : FitAt s ks x) (hk : ks.length ≤ x.1) : fitM s ks = if s.own == -1 then (x.2, 0) else (s.own, 0) := by
 unfold fitM
 rw [h.eq, List.drop_of_length_le hk]
 cases s.kids.drop x.1 <;> rfl
theorem low_roE {n : Nat} {e : Expr} : Low n (.ro (exprC e)) := by have := exprA_low n e; rw [exprA_eq] at this; simpa using this
theorem find_col {c : List Col} {t : Str} (h : ¬ (findM t c < 0)) : ∃ (j : Nat), findM t c = (j : Int) ∧ j < c.length := by
 obtain ⟨j, y, h2, _, h3⟩ := find_mem.1 h
 exact ⟨j, h3, (List.getElem?_eq_some_iff.1 h2).1⟩
theorem rightE_node {e : Expr} (h : exprRightM e = true) : allE nodeM e = true := by
 rw [exprRight_eq] at h
 unfold refRightM at h
 rw [Bool.and_eq_true] at h
 exact h.2
end Go.SX.Nb
namespace Go.SX.Nb
open Go Go.SX Go.Proofs
variable [ErrAt]
set_option maxRecDepth 4000
/-- The first fault of those that were asked. -/
structure AllAt (f : Expr → Rs) (k : List Expr) (x : Nat) : Prop where
 le : x ≤ k.length
 ok : ∀ (j : Nat) (y : Expr), j < x → k[j]? = some y → ((f y).2 != 0) = false
theorem AllAt.bad {f : Expr → Rs} {k : List Expr} {x : Nat} (h : AllAt f k x) (hx : x < k.length) (hb : ((f k[x]).2 != 0) = true) (g : List Val → Rs) : allR g (k.map f) = wrongR (f k[x]).2 := by
 unfold allR
 have : (k.map f).find? (fun q => q.2 != 0) = some ((k.map f)[x]'(by simpa using hx)) := find_at (by simpa using hx) (by simpa using hb) (fun j y hj hy => by
  rw [List.getElem?_map, Option.map_eq_some_iff] at hy
  obtain ⟨z, hz, rfl⟩ := hy
  exact h.ok j z hj hz)
 rw [this]
 simp
theorem AllAt.all {f : Expr → Rs} {k : List Expr} {x : Nat} (h : AllAt f k x) (hx : k.length ≤ x) (g : List Val → Rs) : allR g (k.map f) = if (k.take x).any (fun y => (f y).1.kind == 0) then (noV, 0) else g ((k.take x).map fun y => (f y).1) := by
 unfold allR
 have : (k.map f).find? (fun q => q.2 != 0) = none := find_none (fun j y hy => by
  rw [List.getElem?_map, Option.map_eq_some_iff] at hy
  obtain ⟨z, hz, rfl⟩ := hy
  exact h.ok j z (by have := (List.getElem?_eq_some_iff.1 hz).1; omega) hz)
 rw [this, List.take_of_length_le hx]
 simp only [List.any_map, List.map_map]
 rfl
theorem AllAt.next {f : Expr → Rs} {k : List Expr} {x : Nat} (h : AllAt f k x) (hx : x < k.length) (hb : ((f k[x]).2 != 0) = false) : AllAt f k (x + 1) := ⟨hx, upto_succ hx h.ok hb⟩
theorem any_snoc (f : Expr → Bool) (k : List Expr) {x : Nat} (h : x < k.length) : (k.take (x + 1)).any f = ((k.take x).any f || f k[x]) := by rw [List.take_succ_eq_append_getElem h, List.any_append]; simp
theorem vals_snoc (f : Expr → Val) (l : List Expr) {x : Nat} (h : x < l.length) : ((l.take x).map f).map valA ++ [valA (f l[x])] = ((l.take (x + 1)).map f).map valA := by rw [List.take_succ_eq_append_getElem h, List.map_append, List.map_append]; rfl
theorem low_vals {n k : Nat} {own : Bool} {l : List Val} : Low n (.slice own k (l.map valA)) := low_slice.2 fun y hy => by
 obtain ⟨z, _, rfl⟩ := List.mem_map.1 hy
 simp [or_imp, forall_and]
theorem c63 (c : List Col) (l : List Val) (e : Expr) (hk : e.kids.length ≤ 1048576) (hev : ∀ y ∈ e.kids, EvalsTo c l y (evalE c l y)) (hargs : ((∀ y ∈ e.kids, (evalE c l y).2 = 0) → ArgsOk e.op (e.kids.map fun y => (evalE c l y).1))) (Hp : List AObj) : AFun Tryz.prog 63 [scopeA c l, exprA e] Hp (resA (allR (strictM e.op e.text) (e.kids.map (evalE c l)))) := by
 refine ACall.body [.cell 4 24, .tmp 5] [0, 1] Tryz.func63 Tryz.ntmps63 (fun d => ?_)
 refine AW.seqR ?_
 refine R.boxRo ?_
 refine R.boxRo ?_
 refine R.alloc Tryz.zeroValue24 ?_
 refine R.assign ?_
 refine R.fin [2, 3, 4] ?_
 refine AW.seqR ?_
 refine R.assign ?_
 refine R.fin [2, 3, 4, 6] ?_
 refine AW.seqR ?_
 refine R.nilSl 6 3 ?_
 refine R.assign ?_
 refine R.fin [2, 3, 4, 6, 7] ?_
 refine W.seq ?_
 refine AW.seqR ?_
 refine R.fieldAddrRo (off := 5) Tryz.underlying27 Tryz.sizeOf25 ?_
 refine R.loadRo Tryz.isAgg25 ?_
 refine R.len Tryz.underlying25 ?_
 refine R.move ?_
 refine R.fin [2, 3, 4, 6, 7, 13, 14, 15] ?_
 refine AW.loopC (α := Nat) (fun x => ⟨49, setF 2 (.ro [colsA c, valsA l]) (setF 3 (.ro (exprC e)) (setF 4 (.ptr (oid Hp.length 0) 0) (setF 6 (.slice true 3 (((e.kids.take x).map fun y => (evalE c l y).1).map valA)) (setF 7 (boolA ((e.kids.take x).any fun y => (evalE c l y).1.kind == 0)) (setF 13 (.slice false 6 (e.kids.map exprA)) (setF 14 (intA (e.kids.length : Nat)) (setF 15 (intA (x : Nat)) (fun _ => .any)))))))), Hp, [.cells 24 [intA 0, intA 0, strA []]], [], none⟩) (fun x => AllAt (evalE c l) e.kids x) (fun x => e.kids.length - x) (0) ⟨Nat.zero_le _, fun j y h => by omega⟩ (StLe.of_eq (by simp)) rfl (fun x hx => ?_)
 refine AW.seqR ?_
 refine R.lss ?_
 refine R.fin [2, 3, 4, 6, 7, 13, 14, 15, 16] ?_
 refine W.condX (fun ht16 => ?_) (fun ht16 => ?_)
 ·skip
  have hlt : x < e.kids.length := by simpa using ht16
  refine W.seq ?_
  refine AW.block ?_
  refine AW.seqR ?_
  refine R.indexAddr (x) (exprA e.kids[x]) Tryz.underlying25 Tryz.sizeOf27 (getMap hlt) ?_
  refine R.loadRoN Tryz.isAgg27 Tryz.sizeOf27 ?_
  refine R.alloc Tryz.zeroValue27 ?_
  refine R.storeOwn Tryz.sizeOf27 ?_
  refine R.fin [2, 3, 4, 6, 7, 9, 13, 14, 15] ?_
  refine AW.seqR ?_
  refine R.loadRoN Tryz.isAgg83 Tryz.sizeOf83 ?_
  refine R.loadOwnN Tryz.isAgg27 Tryz.sizeOf27 ?_
  refine R.call Tryz.call44 (hev _ (List.getElem_mem hlt) _) ?_
  refine R.move ?_
  refine R.extract ?_
  refine R.extract ?_
  refine R.alloc Tryz.zeroValue24 ?_
  refine R.storeOwn Tryz.sizeOf24 ?_
  refine R.assign ?_
  refine R.fin [2, 3, 4, 6, 7, 10, 11, 13, 14, 15] ?_
  refine W.seq ?_
  refine AW.seqR ?_
  refine R.move ?_
  refine R.neq ?_
  refine R.fin [2, 3, 4, 6, 7, 10, 11, 13, 14, 15, 26] ?_
  refine W.cond (fun ht26 => ?_) (fun ht26 => ?_)
  ·skip
   have hm := hx.bad hlt ht26 (strictM e.op e.text)
   refine AW.seqR ?_
   refine R.move ?_
   refine R.call Tryz.call43 (c43 _ _) ?_
   refine R.extract ?_
   refine R.extract ?_
   refine R.storeOwn Tryz.sizeOf24 ?_
   refine R.assign ?_
   refine R.fin [4, 5] ?_
   refine AW.ret ?_
   refine K.thR ?_
   refine K.blR ?_
   refine K.thR ?_
   refine K.lpR ?_
   refine K.thR ?_
   exact K.fin (V.two (V.cellN Tryz.isAgg24 Tryz.sizeOf24) V.tmp) ⟨by rw [hm]; try rfl, rfl⟩
  ·skip
   refine AW.skip ?_
   refine K.thN ?_
   refine AW.seqR ?_
   refine R.move ?_
   refine R.move ?_
   refine G.fieldAddrPtr (fo := 0) Tryz.underlying24 Tryz.sizeOf3 ?_
   refine G.loadOwn Tryz.isAgg3 ?_
   refine G.eql ?_
   refine R.pickOr ?_
   refine R.assign ?_
   refine R.fin [2, 3, 4, 6, 7, 10, 13, 14, 15] ?_
   refine AW.region ?_
   refine R.moveT ?_
   refine R.loadOwnN Tryz.isAgg24 Tryz.sizeOf24 ?_
   refine R.buildSlice Tryz.underlying42 Tryz.sizeOf24 Tryz.zeroValue24 ?_
   refine R.append Tryz.underlying42 Tryz.type24 ?_ ?_ ?_
   ·simp only [List.length_map, List.length_take, List.length_cons, List.length_nil, Tryz.t24]; omega
   ·simp only [List.length_map, List.length_take, List.length_cons, List.length_nil, Tryz.t24]; omega
   refine R.assignT ?_
   refine R.fin [2, 3, 4, 6, 7, 13, 14, 15] ?_
   refine K.blN ?_
   refine K.thN ?_
   refine AW.region ?_
   refine R.add64 ?_
   refine R.move ?_
   refine R.fin [2, 3, 4, 6, 7, 13, 14, 15] ?_
   refine K.lpN (x + 1) (hx.next hlt ht26) (by omega) ?_
   simp only [show Tryz.t24.size = 3 from rfl, any_snoc _ _ hlt]
   have hvs : ((e.kids.take x).map fun y => (evalE c l y).1).map valA ++ [.agg [.v (.int .i64 (evalE c l e.kids[x]).1.kind), .v (.int .i64 (evalE c l e.kids[x]).1.n), .v (sv (evalE c l e.kids[x]).1.s)]] = ((e.kids.take (x + 1)).map fun y => (evalE c l y).1).map valA := vals_snoc _ _ hlt
   simp only [hvs]
   exact StCut.take (own := [.cells 24 [intA 0, intA 0, strA []]]) (fun _ => .refl _) (by repeat (first | exact lowF_any | refine lowF_set (by first | exact low_exprs | exact low_vals | exact low_roE | (simp [or_imp, forall_and, oid] <;> omega)) ?_)) (by intro y hy; rw [List.mem_singleton.1 hy]; intro z hz; simp only [List.mem_cons, List.not_mem_nil, or_false] at hz; rcases hz with rfl | rfl | rfl <;> simp) (by simp)
 ·skip
  have hxe : e.kids.length ≤ x := by simpa using ht16
  have ha := hx.all hxe (strictM e.op e.text)
  have htk : e.kids.take x = e.kids := List.take_of_length_le hxe
  have h00 : ∀ y ∈ e.kids, (evalE c l y).2 = 0 := fun y hy => by
   obtain ⟨j, hj⟩ := List.getElem?_of_mem hy
   have := hx.ok j y (by have := (List.getElem?_eq_some_iff.1 hj).1; omega) hj
   simpa using this
  have hao := hargs h00
  rw [← htk] at hao
  refine K.lpE ?_
  refine K.thN ?_
  refine W.seq ?_
  refine AW.seqR ?_
  refine R.move ?_
  refine R.fin [3, 4, 6, 42] ?_
  refine W.cond (fun ht42 => ?_) (fun ht42 => ?_)
  ·skip
   have hm : allR (strictM e.op e.text) (e.kids.map (evalE c l)) = (noV, 0) := by rw [ha, if_pos ht42]
   refine AW.seqR ?_
   refine R.call Tryz.call59 (c59 _) ?_
   refine R.storeOwn Tryz.sizeOf24 ?_
   refine R.assign ?_
   refine R.fin [4, 5] ?_
   refine AW.ret ?_
   refine K.thR ?_
   exact K.fin (V.two (V.cellN Tryz.isAgg24 Tryz.sizeOf24) V.tmp) ⟨by rw [hm]; try rfl, rfl⟩
  ·skip
   have hm : allR (strictM e.op e.text) (e.kids.map (evalE c l)) = strictM e.op e.text ((e.kids.take x).map fun y => (evalE c l y).1) := by rw [ha, if_neg (by rw [ht42]; simp)]
   refine AW.skip ?_
   refine K.thN ?_
   refine AW.seqR ?_
   refine R.loadRoN Tryz.isAgg27 Tryz.sizeOf27 ?_
   refine R.move ?_
   refine R.call Tryz.call85 (c85 e _ hao _) ?_
   refine R.extract ?_
   refine R.extract ?_
   refine R.storeOwn Tryz.sizeOf24 ?_
   refine R.assign ?_
   refine R.fin [4, 5] ?_
   refine AW.ret ?_
   exact K.fin (V.two (V.cellN Tryz.isAgg24 Tryz.sizeOf24) V.tmp) ⟨by rw [hm]; try rfl, rfl⟩

end Go.SX.Nb
namespace Go.SX.Nb
open Go Go.SX Go.Proofs
variable [ErrAt]
set_option maxRecDepth 8000
end Go.SX.Nb
namespace Go.SX.Nb
open Go Go.SX Go.Proofs
variable [ErrAt]
set_option maxRecDepth 4000
def headE (x y : Expr) : Bool := ((x.op == y.op) && (x.text == y.text)) && ((x.val.kind == y.val.kind && x.val.n == y.val.n) && x.val.s == y.val.s)
end Go.SX.Nb
namespace Go.SX.Nb
open Go Go.SX Go.Proofs
variable [ErrAt]
set_option maxRecDepth 4000
theorem put_in {s : Str} {y x : Expr} (h : ((x.op == 2) && (x.text == s)) = true) : putE s y x = y := by rw [putE_eq, if_pos h]
theorem put_out {s : Str} {y x : Expr} (h : ((x.op == 2) && (x.text == s)) = false) : putE s y x = .mk x.op x.text x.val (x.kids.map (putE s y)) := by rw [putE_eq, if_neg (by rw [h]; simp)]
theorem mk_agg (o : Int) (t : Str) (v : Val) (k : List Expr) : exprA (.mk o t v k) = .agg [intA o, .v (sv t), intA v.kind, intA v.n, .v (sv v.s), .slice false 6 (k.map exprA)] := by rw [exprA_eq]; rfl
theorem take_map {α β : Type} {f : α → β} {l : List α} {x : Nat} (h : x < l.length) : (l.take (x + 1)).map f = (l.take x).map f ++ [f l[x]] := by rw [List.take_succ_eq_append_getElem h, List.map_append]; rfl
theorem low_kids {n : Nat} {x : Expr} {o : Bool} {l : List Expr} : ObjLow n (.cells 27 [intA x.op, .v (sv x.text), intA x.val.kind, intA x.val.n, .v (sv x.val.s), .slice o 6 (l.map exprA)]) := by
 show ∀ z ∈ [intA x.op, AV.v (sv x.text), intA x.val.kind, intA x.val.n, AV.v (sv x.val.s), AV.slice o 6 (l.map exprA)], Low n z
 intro z hz
 simp only [List.mem_cons, List.not_mem_nil, or_false] at hz
 rcases hz with rfl | rfl | rfl | rfl | rfl | rfl
 all_goals first | exact low_exprs | simp
theorem mem2 {α : Type} {P : α → Prop} {a b : α} (h1 : P a) (h2 : P b) : ∀ x ∈ [a, b], P x := by
 intro x hx
 simp only [List.mem_cons, List.not_mem_nil, or_false] at hx
 rcases hx with rfl | rfl
 ·exact h1
 ·exact h2
theorem c27 (s : Str) (y : Expr) : ∀ (n : Nat) (x : Expr), okE n x → ∀ Hp : List AObj, AFun Tryz.prog 27 [exprA x, strA s, exprA y] Hp (exprA (putE s y x)) := by
 intro n
 induction n with
 | zero => exact fun x h => h.elim
 | succ n ih =>
 intro x hok Hp
 refine ACall.body [.cell 6 27] [0, 1, 2] Tryz.func27 Tryz.ntmps27 (fun d => ?_)
 refine AW.seqR ?_
 refine R.box ?_
 refine R.boxRo ?_
 refine R.alloc Tryz.zeroValue27 ?_
 refine R.fin [1, 3, 5, 6] ?_
 refine W.seq ?_
 refine AW.seqR ?_
 refine R.fieldAddrPtr (fo := 0) Tryz.underlying27 Tryz.sizeOf3 ?_
 refine R.loadOwn Tryz.isAgg3 ?_
 refine R.eql ?_
 refine R.move ?_
 refine G.fieldAddrPtr (fo := 1) Tryz.underlying27 Tryz.sizeOf9 ?_
 refine G.loadOwn Tryz.isAgg9 ?_
 refine G.move ?_
 refine G.seql ?_
 refine R.pickAnd ?_
 refine R.fin [1, 3, 5, 6, 18] ?_
 refine W.cond (fun ht18 => ?_) (fun ht18 => ?_)
 ·skip
  refine AW.seqR ?_
  refine R.loadRoN Tryz.isAgg27 Tryz.sizeOf27 ?_
  refine R.storeOwn Tryz.sizeOf27 ?_
  refine R.fin [6] ?_
  refine AW.ret ?_
  refine K.thR ?_
  exact K.fin (V.one (V.cellN Tryz.isAgg27 Tryz.sizeOf27)) ⟨by rw [put_in ht18, exprA_eq], rfl⟩ (hlow := low_agg _)
 ·skip
  refine AW.skip ?_
  refine K.thN ?_
  refine AW.seqR ?_
  refine R.fieldAddrPtr (fo := 5) Tryz.underlying27 Tryz.sizeOf25 ?_
  refine R.loadOwn Tryz.isAgg25 ?_
  refine R.assign ?_
  refine R.fin [1, 3, 5, 6, 7] ?_
  refine AW.seqR ?_
  refine R.fieldAddrPtr (fo := 5) Tryz.underlying27 Tryz.sizeOf25 ?_
  refine R.storeOwn Tryz.sizeOf25 ?_
  refine R.fin [1, 3, 5, 6, 7] ?_
  refine W.seq ?_
  refine AW.seqR ?_
  refine R.nilCell 0 5 6 ?_
  refine R.move ?_
  refine R.len Tryz.underlying25 ?_
  refine R.move ?_
  refine R.fin [1, 3, 5, 6, 23, 24, 25] ?_
  refine AW.loopC (α := Nat) (fun i => ⟨40, setF 1 (strA s) (setF 3 (.ptr (oid Hp.length 0) 0) (setF 5 (.ro (exprC y)) (setF 6 (.ptr (oid Hp.length 1) 0) (setF 23 (.slice false 6 (x.kids.map exprA)) (setF 24 (intA (x.kids.length : Nat)) (setF 25 (intA (i : Nat)) (fun _ => .any))))))), Hp, [.cells 27 [intA x.op, .v (sv x.text), intA x.val.kind, intA x.val.n, .v (sv x.val.s), .slice true 6 (((x.kids.take i).map (putE s y)).map exprA)], .cells 27 [intA 0, strA [], intA 0, intA 0, strA [], .nil]], [], none⟩) (fun i => i ≤ x.kids.length) (fun i => x.kids.length - i) (0) (Nat.zero_le _) (StLe.of_eq (by simp)) rfl (fun i hi => ?_)
  refine AW.seqR ?_
  refine R.lss ?_
  refine R.fin [1, 3, 5, 6, 23, 24, 25, 26] ?_
  refine W.condX (fun ht26 => ?_) (fun ht26 => ?_)
  ·skip
   have hlt : i < x.kids.length := by simpa using ht26
   have hkl := hok.2.1
   refine W.seq ?_
   refine AW.block ?_
   refine AW.seqR ?_
   refine R.indexAddr (i) (exprA x.kids[i]) Tryz.underlying25 Tryz.sizeOf27 (getMap hlt) ?_
   refine R.loadRoN Tryz.isAgg27 Tryz.sizeOf27 ?_
   refine R.alloc Tryz.zeroValue27 ?_
   refine R.storeOwn Tryz.sizeOf27 ?_
   refine R.fin [1, 3, 5, 6, 9, 23, 24, 25] ?_
   refine W.drawY0 [0, 1, 0, 0, 0, 28, 60, 127, 255, 511] [1] [.q 1 [] [0], .s [30] (some 0) [] [], .q 5 [] []] (fun _ => Hp) (fun B => [.cells 27 (if B 0 = true then [intA x.op, .v (sv x.text), intA x.val.kind, intA x.val.n, .v (sv x.val.s), .slice false 6 (((x.kids.take i).map (putE s y)).map exprA)] else [intA x.op, .v (sv x.text), intA x.val.kind, intA x.val.n, .v (sv x.val.s), .slice true 6 (((x.kids.take i).map (putE s y)).map exprA)]), .cells 27 [intA 0, strA [], intA 0, intA 0, strA [], .nil], .cells 27 (exprC x.kids[i])]) Tryzmixed (by kernel_rfl) rfl rfl (fun _ => rfl) ?_
   apply Y.q
   case h1 =>
    intro B hT hF
    refine D.fieldAddrPtr (fo := 5) Tryz.underlying27 Tryz.sizeOf25 ?_
    exact D.end rfl rfl
   case hTF => decide
   refine Y.loadOwnT (u := Hp.length) (n := 0) (t' := 27) (cs := [intA x.op, .v (sv x.text), intA x.val.kind, intA x.val.n, .v (sv x.val.s), .slice true 6 (((x.kids.take i).map (putE s y)).map exprA)]) (cs' := [intA x.op, .v (sv x.text), intA x.val.kind, intA x.val.n, .v (sv x.val.s), .slice false 6 (((x.kids.take i).map (putE s y)).map exprA)]) Tryz.isAgg25 (fun B hB => ⟨rfl, by simp only [hB]; rfl, by simp [upd], rfl⟩) ?_
   apply Y.q
   case h1 =>
    intro B hT hF
    refine D.loadOwnN Tryz.isAgg27 Tryz.sizeOf27 ?_
    refine D.move ?_
    refine D.loadRoN Tryz.isAgg27 Tryz.sizeOf27 ?_
    refine D.call Tryz.call27 (ih x.kids[i] (hok.2.2 _ (List.getElem_mem hlt)) _) ?_
    refine D.buildSlice Tryz.underlying25 Tryz.sizeOf27 Tryz.zeroValue27 ?_
    exact D.end rfl rfl
   case hTF => decide
   refine Y.tail (tn := [1]) (O := [.cells 27 [intA x.op, .v (sv x.text), intA x.val.kind, intA x.val.n, .v (sv x.val.s), .slice false 6 (((x.kids.take i).map (putE s y)).map exprA)], .cells 27 [intA 0, strA [], intA 0, intA 0, strA [], .nil], .cells 27 (exprC x.kids[i])]) ?_
   refine R.append Tryz.underlying25 Tryz.type27 ?_ ?_ ?_
   ·simp only [List.length_map, List.length_take, List.length_cons, List.length_nil, Tryz.t27]; omega
   ·simp only [List.length_map, List.length_take, List.length_cons, List.length_nil, Tryz.t27]; omega
   refine R.fieldAddrPtr (fo := 5) Tryz.underlying27 Tryz.sizeOf25 ?_
   refine R.storeOwnT Tryz.sizeOf25 ?_
   refine R.fin [1, 3, 5, 6, 23, 24, 25] ?_
   refine K.blN ?_
   refine K.thN ?_
   refine AW.region ?_
   refine R.add64 ?_
   refine R.move ?_
   refine R.fin [1, 3, 5, 6, 23, 24, 25] ?_
   refine K.lpN (i + 1) hlt (by omega) ?_
   have hlo := fun m => low_kids (n := m) (x := x) (o := true) (l := (x.kids.take i).map (putE s y) ++ [putE s y x.kids[i]])
   simp only [List.map_append, List.map_cons, List.map_nil, exprA_eq] at hlo
   simp only [show Tryz.t27.size = 6 from rfl]
   rw [take_map hlt, List.map_append, List.map_cons, List.map_nil, exprA_eq]
   exact StCut.take (fun _ => .refl _) (by repeat (first | exact lowF_any | refine lowF_set (by first | exact low_exprs | (simp [oid, exprA_low]; done) | (simp [oid] <;> omega)) ?_)) (mem2 (hlo _) low_z69) (by simp)
  ·skip
   have hxe : x.kids.length ≤ i := by simpa using ht26
   refine K.lpE ?_
   refine K.thN ?_
   refine AW.seqR ?_
   refine R.loadOwnN Tryz.isAgg27 Tryz.sizeOf27 ?_
   refine R.storeOwn Tryz.sizeOf27 ?_
   refine R.fin [6] ?_
   refine AW.ret ?_
   exact K.fin (V.one (V.cellN Tryz.isAgg27 Tryz.sizeOf27)) ⟨by rw [put_out ht18, mk_agg, List.take_of_length_le hxe], rfl⟩ (hlow := by have := exprA_low Hp.length (putE s y x); rw [put_out ht18, mk_agg] at this; rw [List.take_of_length_le hxe]; exact this)

end Go.SX.Nb
namespace Go.SX.Nb
open Go Go.SX Go.Proofs
variable [ErrAt]
set_option maxRecDepth 4000
theorem put_ok {s : Str} {y : Expr} {m : Nat} (hy : okE m y) : ∀ (n : Nat) (x : Expr), okE n x → okE (n + m) (putE s y x)
  | 0, x, h => h.elim
  | n + 1, x, h => by
    cases hc : (x.op == 2) && (x.text == s) with
    | true => rw [put_in hc]; exact okE_le (by omega) hy
    | false =>
      rw [put_out hc, show n + 1 + m = (n + m) + 1 by omega]
      refine ⟨h.1, by show (x.kids.map (putE s y)).length ≤ _; rw [List.length_map]; exact h.2.1, fun z hz => ?_⟩
      have hz' : z ∈ x.kids.map (putE s y) := hz
      obtain ⟨k, hk, rfl⟩ := List.mem_map.1 hz'
      exact put_ok hy n k (h.2.2 k hk)
mutual
theorem put_size (s : Str) (y : Expr) (S : Nat) (h1 : 1 ≤ S) (hy : sizeE y ≤ S) : ∀ x : Expr, sizeE (putE s y x) ≤ sizeE x * S
  | .mk o t v k => by
    rw [putE]
    split
    · rw [sizeE]
      have : S ≤ (1 + sizeL k) * S := Nat.le_mul_of_pos_left _ (by omega)
      omega
    · rw [sizeE, sizeE, Nat.add_mul]
      have := putL_size s y S h1 hy k
      omega
theorem putL_size (s : Str) (y : Expr) (S : Nat) (h1 : 1 ≤ S) (hy : sizeE y ≤ S) : ∀ l : List Expr, sizeL (putL s y l) ≤ sizeL l * S
  | [] => by simp [putL, sizeL]
  | e :: r => by
    rw [putL, sizeL, sizeL, Nat.add_mul]
    have a := put_size s y S h1 hy e
    have b := putL_size s y S h1 hy r
    omega
 end
end Go.SX.Nb
namespace Go.SX.Nb
open Go Go.SX Go.Proofs
variable [ErrAt]
set_option maxRecDepth 8000
/-! Who decides decides: the law's sources, columns and truths. -/
def lS1 : Str := [97, 32, 111, 114, 32, 98]
def lS2 : Str := [97, 32, 97, 110, 100, 32, 98]
def lS3 : Str := [110, 111, 116, 32, 40, 110, 111, 116, 32, 97, 32, 97, 110, 100, 32, 110, 111, 116, 32, 98, 41]
def lS4 : Str := [97, 32, 111, 114, 32, 49, 32, 47, 32, 48, 32, 61, 32, 110]
def lX1 : Expr := binX orW (nameE [97]) (nameE [98])
def lX2 : Expr := binX andW (nameE [97]) (nameE [98])
def lX3 : Expr := oneX 4 (binX andW (oneX 4 (nameE [97])) (oneX 4 (nameE [98])))
def lX4 : Expr := binX orW (nameE [97]) (binX [61] (binX [47] (valX ⟨1, 1, []⟩) (valX ⟨1, 0, []⟩)) (nameE [110]))
def lC : List Col := [⟨[97], 3⟩, ⟨[98], 3⟩, ⟨[110], 1⟩]
def lT : List Val := [noV, boolV false, boolV true]
def orV (x y : Val) : Val := if (x.n == 1) || ((x.kind == 0) && (y.n == 0)) then x else y
def andV (x y : Val) : Val := if ((x.kind == 3) && (x.n == 0)) || ((x.kind == 0) && ((y.kind == 0) || (y.n == 1))) then x else y
/-! Rows. -/
theorem row_iff {c : List Col} {l : List Val} : rowP c l = true ↔ colsM c = true ∧ l.length = c.length ∧ ∀ (i : Nat) (v : Val) (y : Col), l[i]? = some v → c[i]? = some y → plainM v = true ∧ (v.kind = 0 ∨ v.kind = y.kind) := by
 unfold rowP
 rw [Bool.and_eq_true, Bool.and_eq_true, cols_eq, beq_iff_eq, List.all_eq_true, and_assoc]
 refine and_congr_right fun _ => and_congr_right fun hl => ⟨fun h i v y hv hy => ?_, fun h p hp => ?_⟩
 ·have := h (v, y) (List.mem_of_getElem? (i := i) (by rw [List.getElem?_zip_eq_some]; exact ⟨hv, hy⟩))
  simpa using this
 ·obtain ⟨i, hi⟩ := List.getElem?_of_mem hp
  rw [List.getElem?_zip_eq_some] at hi
  have := h i p.1 p.2 hi.1 hi.2
  simpa using this
theorem row_set {c : List Col} {l : List Val} (h : rowP c l = true) {i : Nat} {v : Val} {y : Col} (hy : c[i]? = some y) (hp : plainM v = true) (hk : v.kind = 0 ∨ v.kind = y.kind) : rowP c (l.set i v) = true := by
 obtain ⟨h1, h2, h3⟩ := row_iff.1 h
 refine row_iff.2 ⟨h1, by rw [List.length_set]; exact h2, fun j w z hw hz => ?_⟩
 rw [List.getElem?_set] at hw
 split at hw
 ·rename_i e
  subst e
  split at hw
  ·injection hw with hw
   subst hw
   rw [hy] at hz
   injection hz with hz
   subst hz
   exact ⟨hp, hk⟩
  ·cases hw
 ·exact h3 j w z hw hz
theorem eval_of {x : Expr} {c : List Col} {l : List Val} (h1 : exprRightM x = true) (h2 : rowP c l = true) : evalM x c l = evalE c l x := by
 unfold evalM evalR
 rw [h1, h2]
 rfl
/-- One put in a column's place. -/
theorem eval_puts {x y : Expr} {c : List Col} {l : List Val} {i : Nat} {v : Val} (hr : rowP c l = true) (hi : i < c.length) (hy : evalM y c l = (v, 0)) (hf : plainM v = true) (hk : v.kind = 0 ∨ v.kind = c[i].kind) (hz : refRightM (putE c[i].name y x) = true) (hx : refRightM x = true) :
  evalM (putE c[i].name y x) c l = evalM x c (l.set i v) := by
 obtain ⟨h1, h2, h3⟩ := row_iff.1 hr
 have hn := (colsM_ok h1).2
 have hyr : exprRightM y = true := by
  cases h : exprRightM y with
  | true => rfl
  | false =>
   unfold evalM evalR at hy
   rw [h] at hy
   cases hy
 rw [eval_of hyr hr] at hy
 rw [eval_of (by rw [exprRight_eq]; exact hz) hr, eval_of (by rw [exprRight_eq]; exact hx) (row_set hr (List.getElem?_eq_getElem hi) hf hk)]
 have hfi : findM c[i].name c = (i : Int) := find_nodup hn (List.getElem?_eq_getElem hi)
 refine eval_put ?_ (fun t ht => ?_) x
 ·show nameR c (l.set i v) c[i].name = evalE c l y
  rw [hy]
  unfold nameR
  rw [hfi, if_neg (by omega), Int.toNat_natCast, List.getD_eq_getElem?_getD, List.getElem?_set_self (by omega)]
  rfl
 ·unfold nameR
  by_cases hl : findM t c < 0
  ·rw [if_pos hl, if_pos hl]
  ·rw [if_neg hl, if_neg hl]
   obtain ⟨j, z, hj, hz2, hfj⟩ := find_mem.1 hl
   have hne : i ≠ j := by
    rintro rfl
    rw [List.getElem?_eq_getElem hi] at hj
    injection hj with hj
    exact ht (by rw [← hz2, ← hj])
   rw [hfj, Int.toNat_natCast, List.getD_eq_getElem?_getD, List.getD_eq_getElem?_getD, List.getElem?_set_ne hne]
/-! Rows that differ in what is not named. -/
def turn1R (c : List Col) (l : List Val) (m : List Val) (s : Str) : List Val := if findM s c < 0 then m else m.set (findM s c).toNat (l.getD (findM s c).toNat noV)
def turnR (c : List Col) (l : List Val) (ns : List Str) (m : List Val) : List Val := ns.foldl (turn1R c l) m
end Go.SX.Nb
namespace Go.SX.Nb
open Go Go.SX Go.Proofs
variable [ErrAt]
set_option maxRecDepth 8000
/-! Who has a kind comes to it. -/
/-- What a tree of this kind may come to. -/
structure KOk (k : Int) (r : Rs) : Prop where
 kind : r.2 = 0 → r.1.kind = k ∨ r.1.kind = 0
 err : r.2 ≠ 0 → r.2 = 4 ∨ r.2 = 5 ∨ r.2 = 6 ∨ r.2 = 3
theorem KOk.val {k : Int} {v : Val} (h : v.kind = k) : KOk k (v, 0) := ⟨fun _ => .inl h, fun h => absurd rfl h⟩
theorem KOk.wrong {k e : Int} (h : e = 4 ∨ e = 5 ∨ e = 6 ∨ e = 3) : KOk k (wrongR e) := ⟨fun h0 => by rw [show e = 0 from h0] at h; omega, fun _ => h⟩
theorem KOk.whole {x : Int × Int} (h : x.2 ≠ 0 → x.2 = 4 ∨ x.2 = 5 ∨ x.2 = 6 ∨ x.2 = 3) : KOk 1 (wholeR x) := by
 unfold wholeR
 split
 ·rename_i h1; exact .wrong (h (by simpa using h1))
 ·exact .val rfl
theorem KOk.mono {k k' : Int} {r : Rs} (h : KOk k r) (hk : k = k' ∨ k = 0) : KOk k' r := ⟨fun h0 => by have := h.kind h0; omega, h.err⟩
theorem call_names {t : Str} {n : Nat} (h : arityM t = (n : Int)) : (t = [108, 101, 110] ∧ n = 1) ∨ (t = [115, 116, 114] ∧ n = 1) ∨ (t = [110, 117, 109] ∧ n = 1) ∨ (t = isnullW ∧ n = 1) ∨ (t = nvlW ∧ n = 2) ∨ (t = [108, 101, 102, 116] ∧ n = 2) ∨ (t = [114, 105, 103, 104, 116] ∧ n = 2) ∨ (t = ifW ∧ n = 3) := by
 by_cases hm : t ∈ arityList.map (·.1)
 ·have ha : ∀ s ∈ arityList.map (·.1), (s = [108, 101, 110] ∧ arityM s = 1) ∨ (s = [115, 116, 114] ∧ arityM s = 1) ∨ (s = [110, 117, 109] ∧ arityM s = 1) ∨ (s = isnullW ∧ arityM s = 1) ∨ (s = nvlW ∧ arityM s = 2) ∨ (s = [108, 101, 102, 116] ∧ arityM s = 2) ∨ (s = [114, 105, 103, 104, 116] ∧ arityM s = 2) ∨ (s = ifW ∧ arityM s = 3) := by
   have : ((arityList.map (·.1)).all fun s => decide ((s = [108, 101, 110] ∧ arityM s = 1) ∨ (s = [115, 116, 114] ∧ arityM s = 1) ∨ (s = [110, 117, 109] ∧ arityM s = 1) ∨ (s = isnullW ∧ arityM s = 1) ∨ (s = nvlW ∧ arityM s = 2) ∨ (s = [108, 101, 102, 116] ∧ arityM s = 2) ∨ (s = [114, 105, 103, 104, 116] ∧ arityM s = 2) ∨ (s = ifW ∧ arityM s = 3))) = true := by kernel_rfl
   exact fun s hs => of_decide_eq_true (List.all_eq_true.1 this s hs)
  have := ha t hm
  rw [h] at this
  rcases this with ⟨e, h2⟩ | ⟨e, h2⟩ | ⟨e, h2⟩ | ⟨e, h2⟩ | ⟨e, h2⟩ | ⟨e, h2⟩ | ⟨e, h2⟩ | ⟨e, h2⟩
  ·exact .inl ⟨e, by omega⟩
  ·exact .inr (.inl ⟨e, by omega⟩)
  ·exact .inr (.inr (.inl ⟨e, by omega⟩))
  ·exact .inr (.inr (.inr (.inl ⟨e, by omega⟩)))
  ·exact .inr (.inr (.inr (.inr (.inl ⟨e, by omega⟩))))
  ·exact .inr (.inr (.inr (.inr (.inr (.inl ⟨e, by omega⟩)))))
  ·exact .inr (.inr (.inr (.inr (.inr (.inr (.inl ⟨e, by omega⟩))))))
  ·exact .inr (.inr (.inr (.inr (.inr (.inr (.inr ⟨e, by omega⟩))))))
 ·have h1 : arityM t = -1 := by
   unfold arityM
   rw [List.find?_eq_none.2 fun p hp => by
    simp only [beq_iff_eq]
    rintro rfl
    exact hm (List.mem_map.2 ⟨p, hp, rfl⟩)]
  omega
theorem two_len {k : List Expr} (h : k.length = 2) : ∃ a b, k = [a, b] := by match k, h with | [a, b], _ => exact ⟨a, b, rfl⟩
end Go.SX.Nb
namespace Go.SX.Nb
open Go Go.SX Go.Proofs
variable [ErrAt]
set_option maxRecDepth 4000
theorem kids_len {e : Expr} (h : nodeM e = true) : (e.op = 5 → e.kids.length = 2) ∧ (e.op = 3 ∨ e.op = 4 → e.kids.length = 1) ∧ (e.op = 6 → arityM e.text = (e.kids.length : Int)) ∧ (e.op = 1 ∨ e.op = 2 ∨ e.op = 3 ∨ e.op = 4 ∨ e.op = 5 ∨ e.op = 6) := by
  cases node_cases h with
  | val v hp h0 => simp [valX, Expr.op]
  | name t ht => simp [nameE, Expr.op]
  | neg a => simp [oneX, Expr.op, Expr.kids]
  | no a => simp [oneX, Expr.op, Expr.kids]
  | bin t a b ht => simp [binX, Expr.op, Expr.kids]
  | call t k ht => simpa [Expr.op, Expr.kids, Expr.text] using ht
theorem kidD {k : List Expr} {i : Nat} (h : i < k.length) : (k.map exprA)[i]? = some (exprA (k.getD i nullX)) ∧ k.getD i nullX ∈ k ∧ ∀ (f : Expr → Rs) (d : Rs), (k.map f).getD i d = f (k.getD i nullX) := by
  have e : k.getD i nullX = k[i] := by rw [List.getD_eq_getElem?_getD, List.getElem?_eq_getElem h]; rfl
  rw [e]
  refine ⟨by simp [h], List.getElem_mem h, fun f d => ?_⟩
  rw [List.getD_eq_getElem?_getD, List.getElem?_map, List.getElem?_eq_getElem h]
  rfl
theorem evalN_strict {c : List Col} {l : List Val} {e : Expr} (h1 : (e.op == 1) = false) (h2 : (e.op == 2) = false) (h3 : ((e.op == 5) && (e.text == orW)) = false) (h4 : ((e.op == 5) && (e.text == andW)) = false) (h5 : ((e.op == 6) && (((e.text == ifW) || (e.text == nvlW)) || (e.text == isnullW))) = false) : evalE c l e = allR (strictM e.op e.text) (e.kids.map (evalE c l)) := by
  rw [evalE, evalS_eq]
  unfold evalN
  rw [h1, h2, h3, h4, h5]
  rfl
theorem args_ok {c : List Col} {l : List Val} (hf : ∀ v ∈ l, Fine v) {e : Expr} (hnd : allE nodeM e = true) (hrg : allE rngN e = true) (hv : allE valOk e = true) (h5 : ((e.op == 6) && (((e.text == ifW) || (e.text == nvlW)) || (e.text == isnullW))) = false) : ArgsOk e.op (e.kids.map fun y => (evalE c l y).1) := by
  rw [allE_eq, Bool.and_eq_true] at hnd hrg hv
  obtain ⟨k5, k34, k6, _⟩ := kids_len hnd.1
  refine ⟨fun h => ?_, fun h => by rw [List.length_map]; exact k34 h, fun h => ?_, fun v hv' => ?_⟩
  · obtain ⟨a, b, e⟩ := two_len (k5 h)
    rw [e]
    exact ⟨_, _, rfl⟩
  · rw [List.length_map]
    rw [h] at h5
    simp only [beq_self_eq_true, Bool.true_and, Bool.or_eq_false_iff, beq_eq_false_iff_ne] at h5
    rcases call_names (k6 h) with ⟨_, h⟩ | ⟨_, h⟩ | ⟨_, h⟩ | ⟨e, _⟩ | ⟨e, _⟩ | ⟨_, h⟩ | ⟨_, h⟩ | ⟨e, _⟩
    · exact .inl h
    · exact .inl h
    · exact .inl h
    · exact absurd e h5.2
    · exact absurd e h5.1.2
    · obtain ⟨a, b, e⟩ := two_len h
      rw [e]
      exact .inr ⟨_, _, rfl⟩
    · obtain ⟨a, b, e⟩ := two_len h
      rw [e]
      exact .inr ⟨_, _, rfl⟩
    · exact absurd e h5.1.1
  · obtain ⟨y, hy, rfl⟩ := List.mem_map.1 hv'
    exact fine_eval hf y ((allL_iff _ _).1 hv.2 y hy) ((allL_iff _ _).1 hrg.2 y hy)
theorem call_isnull (a b d : Rs) : callR isnullW a b d = callR isnullW a (noV, 0) (noV, 0) := by
  unfold callR
  rw [show (isnullW == ifW) = false from rfl, show (isnullW == isnullW) = true from rfl]
  rfl
theorem call_third {t : Str} (h : (t == ifW) = false) (a b d d' : Rs) : callR t a b d = callR t a b d' := by
  unfold callR
  rw [h]
  rfl
theorem call_second {t : Str} (h : (t == isnullW) = true) (a b b' d d' : Rs) : callR t a b d = callR t a b' d' := by
  have e : t = isnullW := by simpa using h
  subst e
  rw [call_isnull, call_isnull a b' d']
theorem call_kids {t : Str} {k : List Expr} {f : Expr → Rs} {a : Rs} (h1 : (t == isnullW) = false → 1 < k.length) (h2 : (t == ifW) = true → 2 < k.length) : callR t a ((k.map f).getD 1 (noV, 0)) ((k.map f).getD 2 (noV, 0)) = callR t a (f (k.getD 1 nullX)) (f (k.getD 2 nullX)) := by
  cases hn : t == isnullW with
  | true => exact call_second hn _ _ _ _ _
  | false =>
    rw [(kidD (h1 hn)).2.2]
    cases hi : t == ifW with
    | true => rw [(kidD (h2 hi)).2.2]
    | false => exact call_third hi _ _ _ _
theorem c44 (c : List Col) (l : List Val) (hc : OkCols c) (hl : l.length = c.length) (hf : ∀ v ∈ l, Fine v) : ∀ (n : Nat) (e : Expr), okE n e → allE nodeM e = true → allE rngN e = true → allE valOk e = true → EvalsTo c l e (evalE c l e) := by
  intro n
  induction n with
  | zero => exact fun e h => h.elim
  | succ n ih =>
  intro e hok hnd hrg hvo Hp
  have hnd0 := hnd
  have hrg0 := hrg
  have hvo0 := hvo
  rw [allE_eq, Bool.and_eq_true] at hnd0 hrg0 hvo0
  have hev : ∀ y ∈ e.kids, EvalsTo c l y (evalE c l y) := fun y hy => ih y (hok.2.2 y hy) ((allL_iff _ _).1 hnd0.2 y hy) ((allL_iff _ _).1 hrg0.2 y hy) ((allL_iff _ _).1 hvo0.2 y hy)
  obtain ⟨k5, k34, k6, _⟩ := kids_len hnd0.1
  have hev0 : evalE c l e = evalN strictM c l e.op e.text e.val (e.kids.map (evalE c l)) := evalS_eq _ _ _ _
  refine ACall.body [.cell 4 24, .tmp 5] [0, 1] Tryz.func44 Tryz.ntmps44 (fun d => ?_)
  refine AW.seqR ?_
  refine R.boxRo ?_
  refine R.boxRo ?_
  refine R.alloc Tryz.zeroValue24 ?_
  refine R.assign ?_
  refine R.fin [2, 3, 4] ?_
  refine W.seq ?_
  refine AW.block ?_
  refine AW.seqR ?_
  refine R.fieldAddrRo (off := 0) Tryz.underlying27 Tryz.sizeOf3 ?_
  refine R.loadRo Tryz.isAgg3 ?_
  refine R.eql ?_
  refine R.assign ?_
  refine R.fin [2, 3, 4, 7] ?_
  refine W.cond (fun ht7 => ?_) (fun ht7 => ?_)
  · skip
    have hm : evalE c l e = (e.val, 0) := by rw [hev0]; unfold evalN; rw [if_pos ht7]
    refine AW.seqR ?_
    refine R.fieldAddrRo (off := 2) Tryz.underlying27 Tryz.sizeOf24 ?_
    refine R.loadRoN Tryz.isAgg24 Tryz.sizeOf24 ?_
    refine R.storeOwn Tryz.sizeOf24 ?_
    refine R.assign ?_
    refine R.fin [4, 5] ?_
    refine AW.ret ?_
    refine K.blR ?_
    refine K.thR ?_
    exact K.fin (V.two (V.cellN Tryz.isAgg24 Tryz.sizeOf24) V.tmp) ⟨by rw [hm]; try rfl, rfl⟩
  · skip
    refine AW.seqR ?_
    refine R.fieldAddrRo (off := 0) Tryz.underlying27 Tryz.sizeOf3 ?_
    refine R.loadRo Tryz.isAgg3 ?_
    refine R.eql ?_
    refine R.assign ?_
    refine R.fin [2, 3, 4, 13] ?_
    refine W.cond (fun ht13 => ?_) (fun ht13 => ?_)
    · skip
      have hm0 : evalE c l e = nameR c l e.text := by rw [hev0]; unfold evalN; rw [if_neg (by rw [ht7]; simp), if_pos ht13]
      refine AW.seqR ?_
      refine R.fieldAddrRo (off := 0) Tryz.underlying83 Tryz.sizeOf45 ?_
      refine R.loadRo Tryz.isAgg45 ?_
      refine R.fieldAddrRo (off := 1) Tryz.underlying27 Tryz.sizeOf9 ?_
      refine R.loadRo Tryz.isAgg9 ?_
      refine R.call Tryz.call58 (c58 c hc e.text _) ?_
      refine R.assign ?_
      refine R.fin [2, 4, 6] ?_
      refine W.seq ?_
      refine AW.seqR ?_
      refine R.move ?_
      refine R.lss ?_
      refine R.fin [2, 4, 6, 23] ?_
      refine W.cond (fun ht23 => ?_) (fun ht23 => ?_)
      · skip
        have hm : evalE c l e = wrongR 9 := by rw [hm0]; exact if_pos (by simpa using ht23)
        refine AW.seqR ?_
        refine R.call Tryz.call43 (c43 _ _) ?_
        refine R.extract ?_
        refine R.extract ?_
        refine R.storeOwn Tryz.sizeOf24 ?_
        refine R.assign ?_
        refine R.fin [4, 5] ?_
        refine AW.ret ?_
        refine K.thR ?_
        refine K.blR ?_
        refine K.thR ?_
        exact K.fin (V.two (V.cellN Tryz.isAgg24 Tryz.sizeOf24) V.tmp) ⟨by rw [hm]; try rfl, rfl⟩
      · skip
        have hneg : ¬ (findM e.text c < 0) := by simpa using ht23
        obtain ⟨j, hj, hjc⟩ := find_col hneg
        have hjl : j < l.length := by omega
        have hm : evalE c l e = (l[j], 0) := by
          rw [hm0]
          unfold nameR
          rw [if_neg hneg, hj, Int.toNat_natCast, List.getD_eq_getElem?_getD, List.getElem?_eq_getElem hjl]
          rfl
        rw [hj]
        refine AW.skip ?_
        refine K.thN ?_
        refine AW.seqR ?_
        refine R.fieldAddrRo (off := 1) Tryz.underlying83 Tryz.sizeOf42 ?_
        refine R.loadRo Tryz.isAgg42 ?_
        refine R.move ?_
        refine R.indexAddr (j) (valA l[j]) Tryz.underlying42 Tryz.sizeOf24 (getMap hjl) ?_
        refine R.loadRoN Tryz.isAgg24 Tryz.sizeOf24 ?_
        refine R.storeOwn Tryz.sizeOf24 ?_
        refine R.assign ?_
        refine R.fin [4, 5] ?_
        refine AW.ret ?_
        refine K.blR ?_
        refine K.thR ?_
        exact K.fin (V.two (V.cellN Tryz.isAgg24 Tryz.sizeOf24) V.tmp) ⟨by rw [hm]; try rfl, rfl⟩
    · skip
      refine AW.seqR ?_
      refine R.fieldAddrRo (off := 0) Tryz.underlying27 Tryz.sizeOf3 ?_
      refine R.loadRo Tryz.isAgg3 ?_
      refine R.eql ?_
      refine R.move ?_
      refine G.fieldAddrRo (off := 1) Tryz.underlying27 Tryz.sizeOf9 ?_
      refine G.loadRo Tryz.isAgg9 ?_
      refine G.seql ?_
      refine R.pickAnd ?_
      refine R.assign ?_
      refine R.fin [2, 3, 4, 32] ?_
      refine W.cond (fun ht32 => ?_) (fun ht32 => ?_)
      · skip
        have h32 : ((e.op == 5) && (e.text == orW)) = true := ht32
        have hop : e.op = 5 := by simp only [Bool.and_eq_true, beq_iff_eq] at h32; exact h32.1
        have hkl := k5 hop
        have hm : evalE c l e = logicR (boolV true) (evalE c l (e.kids.getD 0 nullX)) (evalE c l (e.kids.getD 1 nullX)) := by rw [hev0]; unfold evalN; rw [if_neg (by rw [ht7]; simp), if_neg (by rw [ht13]; simp), if_pos h32, (kidD (by omega)).2.2, (kidD (by omega)).2.2]
        refine W.draw [0, 0, 0, 7, 15, 15, 63, 127] 6 Tryzmixed (by kernel_rfl) ?_
        refine D.loadRoN Tryz.isAgg83 Tryz.sizeOf83 ?_
        refine D.loadRoN Tryz.isAgg27 Tryz.sizeOf27 ?_
        refine D.call Tryz.call61 (c61 _ _) ?_
        refine D.call Tryz.call60 (c60 c l e (e.kids.getD 0 nullX) (e.kids.getD 1 nullX) (boolV true) _ _ (kidD (by omega)).1 (kidD (by omega)).1 (hev _ (kidD (by omega)).2.1) (hev _ (kidD (by omega)).2.1) _) ?_
        refine D.extract ?_
        refine D.extract ?_
        refine D.tail ?_
        refine R.storeOwn Tryz.sizeOf24 ?_
        refine R.assign ?_
        refine R.fin [4, 5] ?_
        refine AW.ret ?_
        refine K.blR ?_
        refine K.thR ?_
        exact K.fin (V.two (V.cellN Tryz.isAgg24 Tryz.sizeOf24) V.tmp) ⟨by rw [hm]; try rfl, rfl⟩
      · skip
        have h32 : ((e.op == 5) && (e.text == orW)) = false := ht32
        refine AW.seqR ?_
        refine R.fieldAddrRo (off := 0) Tryz.underlying27 Tryz.sizeOf3 ?_
        refine R.loadRo Tryz.isAgg3 ?_
        refine R.eql ?_
        refine R.move ?_
        refine G.fieldAddrRo (off := 1) Tryz.underlying27 Tryz.sizeOf9 ?_
        refine G.loadRo Tryz.isAgg9 ?_
        refine G.seql ?_
        refine R.pickAnd ?_
        refine R.assign ?_
        refine R.fin [2, 3, 4, 47] ?_
        refine W.cond (fun ht47 => ?_) (fun ht47 => ?_)
        · skip
          have h47 : ((e.op == 5) && (e.text == andW)) = true := ht47
          have hop : e.op = 5 := by simp only [Bool.and_eq_true, beq_iff_eq] at h47; exact h47.1
          have hkl := k5 hop
          have hm : evalE c l e = logicR (boolV false) (evalE c l (e.kids.getD 0 nullX)) (evalE c l (e.kids.getD 1 nullX)) := by rw [hev0]; unfold evalN; rw [if_neg (by rw [ht7]; simp), if_neg (by rw [ht13]; simp), if_neg (by rw [h32]; simp), if_pos h47, (kidD (by omega)).2.2, (kidD (by omega)).2.2]
          refine W.draw [0, 0, 0, 7, 15, 15, 63, 127] 6 Tryzmixed (by kernel_rfl) ?_
          refine D.loadRoN Tryz.isAgg83 Tryz.sizeOf83 ?_
          refine D.loadRoN Tryz.isAgg27 Tryz.sizeOf27 ?_
          refine D.call Tryz.call61 (c61 _ _) ?_
          refine D.call Tryz.call60 (c60 c l e (e.kids.getD 0 nullX) (e.kids.getD 1 nullX) (boolV false) _ _ (kidD (by omega)).1 (kidD (by omega)).1 (hev _ (kidD (by omega)).2.1) (hev _ (kidD (by omega)).2.1) _) ?_
          refine D.extract ?_
          refine D.extract ?_
          refine D.tail ?_
          refine R.storeOwn Tryz.sizeOf24 ?_
          refine R.assign ?_
          refine R.fin [4, 5] ?_
          refine AW.ret ?_
          refine K.blR ?_
          refine K.thR ?_
          exact K.fin (V.two (V.cellN Tryz.isAgg24 Tryz.sizeOf24) V.tmp) ⟨by rw [hm]; try rfl, rfl⟩
        · skip
          have h47 : ((e.op == 5) && (e.text == andW)) = false := ht47
          refine AW.seqR ?_
          refine R.fieldAddrRo (off := 0) Tryz.underlying27 Tryz.sizeOf3 ?_
          refine R.loadRo Tryz.isAgg3 ?_
          refine R.eql ?_
          refine R.move ?_
          refine G.fieldAddrRo (off := 1) Tryz.underlying27 Tryz.sizeOf9 ?_
          refine G.loadRo Tryz.isAgg9 ?_
          refine G.seql ?_
          refine G.move ?_
          refine G.fieldAddrRo (off := 1) Tryz.underlying27 Tryz.sizeOf9 ?_
          refine G.loadRo Tryz.isAgg9 ?_
          refine G.seql ?_
          refine G.pickOr ?_
          refine G.move ?_
          refine G.fieldAddrRo (off := 1) Tryz.underlying27 Tryz.sizeOf9 ?_
          refine G.loadRo Tryz.isAgg9 ?_
          refine G.seql ?_
          refine G.pickOr ?_
          refine R.pickAnd ?_
          refine R.assign ?_
          refine R.fin [2, 3, 4, 62] ?_
          refine W.cond (fun ht62 => ?_) (fun ht62 => ?_)
          · skip
            have h62 : ((e.op == 6) && (((e.text == ifW) || (e.text == nvlW)) || (e.text == isnullW))) = true := ht62
            obtain ⟨hkl, hl1, hl2⟩ : 0 < e.kids.length ∧ ((e.text == isnullW) = false → 1 < e.kids.length) ∧ ((e.text == ifW) = true → 2 < e.kids.length) := by
              have h := h62
              simp only [Bool.and_eq_true, Bool.or_eq_true, beq_iff_eq] at h
              have ha := k6 h.1
              rcases h.2 with (h1 | h1) | h1
              · rw [h1] at ha ⊢
                have : e.kids.length = 3 := by have : arityM ifW = 3 := by kernel_rfl
                                               omega
                exact ⟨by omega, fun _ => by omega, fun _ => by omega⟩
              · rw [h1] at ha ⊢
                have : e.kids.length = 2 := by have : arityM nvlW = 2 := by kernel_rfl
                                               omega
                exact ⟨by omega, fun _ => by omega, fun h => absurd h (by decide)⟩
              · rw [h1] at ha ⊢
                have : e.kids.length = 1 := by have : arityM isnullW = 1 := by kernel_rfl
                                               omega
                exact ⟨by omega, fun h => absurd h (by decide), fun h => absurd h (by decide)⟩
            have hm : evalE c l e = callR e.text (evalE c l (e.kids.getD 0 nullX)) (evalE c l (e.kids.getD 1 nullX)) (evalE c l (e.kids.getD 2 nullX)) := by
              rw [hev0]
              unfold evalN
              rw [if_neg (by rw [ht7]; simp), if_neg (by rw [ht13]; simp), if_neg (by rw [h32]; simp), if_neg (by rw [h47]; simp), if_pos h62, (kidD hkl).2.2]
              exact call_kids hl1 hl2
            refine AW.seqR ?_
            refine R.loadRoN Tryz.isAgg83 Tryz.sizeOf83 ?_
            refine R.loadRoN Tryz.isAgg27 Tryz.sizeOf27 ?_
            refine R.call Tryz.call62 (c62 c l e (e.kids.getD 0 nullX) (e.kids.getD 1 nullX) (e.kids.getD 2 nullX) _ _ _ (kidD (by omega)).1 (fun h => (kidD (hl1 h)).1) (fun h => (kidD (hl2 h)).1) (hev _ (kidD (by omega)).2.1) (fun h => hev _ (kidD (hl1 h)).2.1) (fun h => hev _ (kidD (hl2 h)).2.1) _) ?_
            refine R.extract ?_
            refine R.extract ?_
            refine R.storeOwn Tryz.sizeOf24 ?_
            refine R.assign ?_
            refine R.fin [4, 5] ?_
            refine AW.ret ?_
            refine K.blR ?_
            refine K.thR ?_
            exact K.fin (V.two (V.cellN Tryz.isAgg24 Tryz.sizeOf24) V.tmp) ⟨by rw [hm]; try rfl, rfl⟩
          · skip
            have h62 : ((e.op == 6) && (((e.text == ifW) || (e.text == nvlW)) || (e.text == isnullW))) = false := ht62
            have hm := evalN_strict (c := c) (l := l) ht7 ht13 h32 h47 h62
            refine AW.skip ?_
            refine K.blN ?_
            refine K.thN ?_
            refine AW.seqR ?_
            refine R.loadRoN Tryz.isAgg83 Tryz.sizeOf83 ?_
            refine R.loadRoN Tryz.isAgg27 Tryz.sizeOf27 ?_
            refine R.call Tryz.call63 (c63 c l e hok.2.1 hev (fun _ => args_ok hf hnd hrg hvo h62) _) ?_
            refine R.extract ?_
            refine R.extract ?_
            refine R.storeOwn Tryz.sizeOf24 ?_
            refine R.assign ?_
            refine R.fin [4, 5] ?_
            refine AW.ret ?_
            exact K.fin (V.two (V.cellN Tryz.isAgg24 Tryz.sizeOf24) V.tmp) ⟨by rw [hm]; try rfl, rfl⟩

end Go.SX.Nb
namespace Go.SX.Nb
open Go Go.SX Go.Proofs
variable [ErrAt]
set_option maxRecDepth 4000
abbrev xo (own : Bool) (t : Str) (ks : List Expr) : AObj := .cells 27 [intA 6, strA t, intA 0, intA 0, strA [], .slice own 6 (ks.map exprA)]
theorem low_xo {n : Nat} {own : Bool} {t : Str} {ks : List Expr} : ObjLow n (xo own t ks) := by
 show ∀ z ∈ [intA 6, strA t, intA 0, intA 0, strA [], AV.slice own 6 (ks.map exprA)], Low n z
 intro z hz
 simp only [List.mem_cons, List.not_mem_nil, or_false] at hz
 rcases hz with rfl | rfl | rfl | rfl | rfl | rfl
 all_goals first | exact low_exprs | simp
theorem const69 : constAV (.agg #[.int .i64 0, .string ⟨#[]⟩, .int .i64 0, .int .i64 0, .string ⟨#[]⟩, .slice none 0 0]) = .agg [intA 0, strA [], intA 0, intA 0, strA [], .nil] := rfl
attribute [go_sem] const69
theorem gA {Hp : List AObj} {o ox : Nat} {z A B : AObj} (ho : Hp[o]? = some z) (hne : ox ≠ o) : ((Hp.set o A).set ox B)[o]? = some A := by rw [List.getElem?_set_ne hne]; exact getset ho
theorem gB {Hp : List AObj} {o ox : Nat} {z A B : AObj} (hox : Hp[ox]? = some z) : ((Hp.set o A).set ox B)[ox]? = some B := by
 have := (List.getElem?_eq_some_iff.1 hox).1
 simp [this]
theorem setA {Hp : List AObj} {o ox : Nat} {A A' B : AObj} (hne : ox ≠ o) : ((Hp.set o A).set ox B).set o A' = (Hp.set o A').set ox B := by rw [List.set_comm _ _ hne, List.set_set]
theorem exprs_snoc (ks : List Expr) (x : Expr) : ks.map exprA ++ [.agg [.v (.int .i64 x.op), .v (sv x.text), .v (.int .i64 x.val.kind), .v (.int .i64 x.val.n), .v (sv x.val.s), .slice false 6 (x.kids.map exprA)]] = (ks ++ [x]).map exprA := by rw [List.map_append, List.map_cons, List.map_nil, exprA_eq x]
theorem c213 (l : List Tok) (S : PS) (t : Str) (Dv : Fam) (o ox : Nat) (Hp : List AObj) (hne : ox ≠ o) (ho : Hp[o]? = some (pr l S)) (hox : Hp[ox]? = some (xo true t [])) (hi : S.i < l.length) (hl : TokEnd l) (hll : l.length ≤ 1048576) (hf : Good l S.nest Dv.ei) (hcf : PC 46 l Dv.ei S.nest) : ACall Tryz.prog 213 [.ptr ox 0, .ro [.ptr o 0]] Hp (fun r H' => r = exprA (.mk 6 t noV (argsM l Dv.ei S).1) ∧ H' = (Hp.set o (pr l (argsM l Dv.ei S).2)).set ox (xo true t (argsM l Dv.ei S).1)) := by
 have hoxl := (List.getElem?_eq_some_iff.1 hox).1
 have hol := (List.getElem?_eq_some_iff.1 ho).1
 refine ACall.body [.cell 2 27] [0, 1] Tryz.func213 Tryz.ntmps213 (fun d => ?_)
 refine AW.seqR ?_
 refine R.alloc Tryz.zeroValue27 ?_
 refine R.fin [0, 1, 2] ?_
 refine W.drawT [0, 1, 0, 4, 3, 0, 63, 127, 255, 127, 639] [1, 3] [.q 1 [] [0], .s [4] (some 0) [] [], .q 1 [] [1], .s [6] (some 1) [] [], .q 2 [] []] (fun B => (Hp.set o (if B 1 = true then pr l (Dv.ei S).2 else pr l S)).set ox (if B 0 = true then xo false t [] else xo true t [])) (fun _ => [zero69]) Tryzmixed (by kernel_rfl) (by simp only [Bool.false_eq_true, if_false]; rw [set_same ho, set_same hox]) rfl (fun B => by simp) ?_
 apply Y.q
 case h1 =>
  intro B hT hF
  refine D.fieldAddrPtr (fo := 5) Tryz.underlying27 Tryz.sizeOf25 ?_
  exact D.end rfl rfl
 case hTF => decide
 refine Y.loadUpT (o := ox) (t' := 27) (cs := [intA 6, strA t, intA 0, intA 0, strA [], .slice true 6 ([].map exprA)]) (cs' := [intA 6, strA t, intA 0, intA 0, strA [], .slice false 6 ([].map exprA)]) Tryz.isAgg25 (fun B hB => ⟨by simp only [hB]; exact gB hox, by simp [upd, List.set_set] <;> rfl, rfl⟩) ?_
 apply Y.q
 case h1 =>
  intro B hT hF
  refine D.loadRo Tryz.isAgg88 ?_
  exact D.end rfl rfl
 case hTF => decide
 refine Y.callUp (r := exprA (Dv.ei S).1) (o := o) (x0 := pr l S) (x := pr l (Dv.ei S).2) Tryz.call46 (fun B hT hF hB => ⟨by simp only [hB]; exact gA ho hne, ?_, rfl, low_pr, ?_⟩) ?_
 ·simp only [upd, hB, Nat.reduceEqDiff, if_false, if_true, Bool.false_eq_true]
  exact (setA hne).symm
 ·simp only [hB]
  exact hcf o _ S (get_up (gA ho hne)) hi rfl
 apply Y.q
 case h1 =>
  intro B hT hF
  refine D.len Tryz.underlying25 ?_
  refine D.buildSlice Tryz.underlying25 Tryz.sizeOf27 Tryz.zeroValue27 ?_
  exact D.end rfl rfl
 case hTF => decide
 refine Y.appendPut (tn := [1, 3]) (U := (Hp.set o (pr l (Dv.ei S).2)).set ox (xo false t [])) (O := [zero69]) (o := ox) (t' := 27) (cs := [intA 6, strA t, intA 0, intA 0, strA [], .slice false 6 ([].map exprA)]) (by kernel_rfl) Tryz.underlying25 Tryz.type27 Tryz.sizeOf27 Tryz.sizeOf25 Tryz.underlying27 (get_up (gB hox)) ?_ ?_ ?_ (hfsz := Tryz.sizeOf25)
 ·simp [Tryz.t27]
 ·simp [Tryz.t27]
 refine R.fieldAddrPtr (fo := 5) Tryz.underlying27 Tryz.sizeOf25 ?_
 refine R.storeUpT Tryz.sizeOf25 (gB hox) ?_ ?_
 ·first | (rw [exprs_snoc]; exact low_exprs) | (have := low_exprs (n := ((Hp.set o (pr l (Dv.ei S).2)).set ox (xo false t [])).length) (k := 6) (o := true) (l := [(Dv.ei S).1]); simp only [List.map_cons, List.map_nil, exprA_eq] at this; exact this)
 refine R.fin [0, 1, 2] ?_
 refine W.seq ?_
 refine AW.loopC (α := List Expr × PS) (fun r => ⟨34, setF 0 (.ptr ox 0) (setF 1 (.ro [.ptr o 0]) (setF 2 (.ptr (oid Hp.length 0) 0) (fun _ => .any))), (Hp.set o (pr l r.2)).set ox (xo true t r.1), [zero69], [], none⟩) (fun r => ArgsAt l Dv.ei S r) (fun r => l.length - r.2.i) (([(Dv.ei S).1], (Dv.ei S).2)) (.start (hf S hi rfl)) (StLe.of_eq (by simp [List.set_set, xo, exprA_eq])) rfl (fun r hx => ?_)
 refine W.seq ?_
 refine AW.seqR ?_
 refine R.loadRo Tryz.isAgg88 ?_
 refine R.nilPtr ?_
 refine R.fieldAddrPtr (fo := 3) Tryz.underlying90 Tryz.sizeOf30 ?_
 refine R.fieldAddrPtr (fo := 0) Tryz.underlying30 Tryz.sizeOf28 ?_
 refine R.loadUp Tryz.isAgg28 (gA ho hne) ?_
 refine R.eql ?_
 refine R.move ?_
 refine G.loadRo Tryz.isAgg88 ?_
 refine G.call Tryz.call92 (fun hB => c92 l r.2 commaT o _ (get_up (gA ho hne)) hx.fact.lt hl (by decide)) ?_
 refine R.pickAnd ?_
 refine R.fin [0, 1, 2, 21] ?_
 refine W.cond (fun ht21 => ?_) (fun ht21 => ?_)
 ·skip
  have hon := hx.on hl ht21 hf
  have hle := hon.2.1.le
  have hlt0 := hx.fact.lt
  refine AW.skip ?_
  refine K.thN ?_
  refine AW.block ?_
  refine AW.seqR ?_
  refine R.loadRo Tryz.isAgg88 ?_
  refine R.callUp Tryz.call93 (gA ho hne) (by simp) low_pr (c93 l r.2 o _ (get_up (gA ho hne)) hx.fact.lt hll) ?_
  refine R.fin [0, 1, 2] ?_
  refine W.drawT0 [0, 1, 0, 4, 3, 0, 63, 127, 255, 127, 639] [1, 3] [.q 1 [] [0], .s [25] (some 0) [] [], .q 1 [] [1], .s [27] (some 1) [] [], .q 2 [] []] (fun B => (Hp.set o (if B 1 = true then pr l (Dv.ei (nextM r.2)).2 else pr l (nextM r.2))).set ox (if B 0 = true then xo false t r.1 else xo true t r.1)) (fun _ => [zero69]) Tryzmixed (by kernel_rfl) (by simp only [Bool.false_eq_true, if_false]; exact (setA hne).symm) rfl (fun B => by simp) ?_
  apply Y.q
  case h1 =>
   intro B hT hF
   refine D.fieldAddrPtr (fo := 5) Tryz.underlying27 Tryz.sizeOf25 ?_
   exact D.end rfl rfl
  case hTF => decide
  refine Y.loadUpT (o := ox) (t' := 27) (cs := [intA 6, strA t, intA 0, intA 0, strA [], .slice true 6 (r.1.map exprA)]) (cs' := [intA 6, strA t, intA 0, intA 0, strA [], .slice false 6 (r.1.map exprA)]) Tryz.isAgg25 (fun B hB => ⟨by simp only [hB]; exact gB hox, by simp [upd, List.set_set] <;> rfl, rfl⟩) ?_
  apply Y.q
  case h1 =>
   intro B hT hF
   refine D.loadRo Tryz.isAgg88 ?_
   exact D.end rfl rfl
  case hTF => decide
  refine Y.callUp (r := exprA (Dv.ei (nextM r.2)).1) (o := o) (x0 := pr l (nextM r.2)) (x := pr l (Dv.ei (nextM r.2)).2) Tryz.call46 (fun B hT hF hB => ⟨by simp only [hB]; exact gA ho hne, ?_, rfl, low_pr, ?_⟩) ?_
  ·simp only [upd, hB, Nat.reduceEqDiff, if_false, if_true, Bool.false_eq_true]
   exact (setA hne).symm
  ·simp only [hB]
   exact hcf o _ (nextM r.2) (get_up (gA ho hne)) hon.1 hx.fact.nest
  apply Y.q
  case h1 =>
   intro B hT hF
   refine D.len Tryz.underlying25 ?_
   refine D.buildSlice Tryz.underlying25 Tryz.sizeOf27 Tryz.zeroValue27 ?_
   exact D.end rfl rfl
  case hTF => decide
  refine Y.appendPut (tn := [1, 3]) (U := (Hp.set o (pr l (Dv.ei (nextM r.2)).2)).set ox (xo false t r.1)) (O := [zero69]) (o := ox) (t' := 27) (cs := [intA 6, strA t, intA 0, intA 0, strA [], .slice false 6 (r.1.map exprA)]) (by kernel_rfl) Tryz.underlying25 Tryz.type27 Tryz.sizeOf27 Tryz.sizeOf25 Tryz.underlying27 (get_up (gB hox)) ?_ ?_ ?_ (hfsz := Tryz.sizeOf25)
  ·have := hx.fact.len; have := hx.fact.lt; simp only [List.length_map, Tryz.t27]; omega
  ·have := hx.fact.len; have := hx.fact.lt; simp only [List.length_map, Tryz.t27]; omega
  refine R.fieldAddrPtr (fo := 5) Tryz.underlying27 Tryz.sizeOf25 ?_
  refine R.storeUpT Tryz.sizeOf25 (gB hox) ?_ ?_
  ·first | (rw [exprs_snoc]; exact low_exprs) | (have := low_exprs (n := ((Hp.set o (pr l (Dv.ei S).2)).set ox (xo false t [])).length) (k := 6) (o := true) (l := [(Dv.ei S).1]); simp only [List.map_cons, List.map_nil, exprA_eq] at this; exact this)
  refine R.fin [0, 1, 2] ?_
  refine K.blN ?_
  refine K.lpN (r.1 ++ [(Dv.ei (nextM r.2)).1], (Dv.ei (nextM r.2)).2) hon.2.2 (by show l.length - (Dv.ei (nextM r.2)).2.i < l.length - r.2.i; have : r.2.i + 1 ≤ (Dv.ei (nextM r.2)).2.i := hle; omega) (StCut.of_eq ?_)
  simp only [show Tryz.t27.size = 6 from rfl, exprs_snoc, List.set_set]
 ·skip
  have hout := hx.out (by rw [ht21]; simp)
  refine AW.exit ?_
  refine K.thE ?_
  refine K.lpE ?_
  refine K.thN ?_
  refine AW.seqR ?_
  refine R.loadUpN Tryz.isAgg27 Tryz.sizeOf27 (gB hox) ?_
  refine R.storeOwn Tryz.sizeOf27 ?_
  refine R.fin [2] ?_
  refine AW.ret ?_
  exact K.fin (V.one (V.cellN Tryz.isAgg27 Tryz.sizeOf27)) ⟨by rw [hout, mk_agg]; rfl, by rw [hout]⟩ (hlow := by have := exprA_low Hp.length (.mk 6 t noV r.1); rw [mk_agg] at this; simpa using this)

end Go.SX.Nb
namespace Go.SX.Nb
open Go Go.SX Go.Proofs
variable [ErrAt]
set_option maxRecDepth 4000
/-- within, with the function that gathers a call's kids. -/
theorem c227c (l : List Tok) (S : PS) (a : Int) (t : Str) (Dv : Fam) (o : Nat) (Hp : List AObj) (A0 A1 : AObj) (l0 : ObjLow 0 A0) (ho : Hp[o]? = some (pr l S)) (hi : S.i < l.length) (hl : TokEnd l) (hll : l.length ≤ 1048576) (hnl : S.nest ≤ 30) (hd : DeepC l Dv S.nest) :
  ACall Tryz.prog 116 [.ptr o 0, intA a, .fn (.func 213) [] [.ptr (oid Hp.length 2) 0, .ro [.ptr o 0]]] (Hp ++ [A0, A1, xo true t []]) (fun r H' => r = exprA (if S.nest = 30 then nullX else .mk 6 t noV (kidsM l a Dv.ei S).1) ∧ H' = Hp.set o (pr l (kidsM l a Dv.ei S).2) ++ [A0, A1, xo true t (kidsM l a Dv.ei S).1]) := by
 have hlt := (List.getElem?_eq_some_iff.1 ho).1
 have ho' : (Hp ++ [A0, A1, xo true t []])[o]? = some (pr l S) := get_up ho
 by_cases h30 : S.nest = 30
 ·refine (c116 l S a 213 [] [.ptr (oid Hp.length 2) 0, .ro [.ptr o 0]] nullX (deepM S) o (Hp ++ [A0, A1, xo true t []]) ((Hp ++ [A0, A1, xo true t []]).set o (pr l (deepM S))) ho' (by omega) Tryz.call213 (by simp) (getset ho') rfl (fun h => h) (fun h => absurd h30 h)).mono fun r H' h => ?_
  have e : kidsM l a Dv.ei S = ([], failM 18 a S) := if_pos (by rw [h30]; rfl)
  rw [e, if_pos h30]
  obtain ⟨h1, h2⟩ := h.1 h30
  exact ⟨h1, by rw [h2, List.set_append_left _ _ hlt]⟩
 ·have hq := argsM_fact (S := deepM S) hl hi (hd.ei h30).1
  refine (c116 l S a 213 [] [.ptr (oid Hp.length 2) 0, .ro [.ptr o 0]] (.mk 6 t noV (argsM l Dv.ei (deepM S)).1) (argsM l Dv.ei (deepM S)).2 o (Hp ++ [A0, A1, xo true t []]) (Hp.set o (pr l (argsM l Dv.ei (deepM S)).2) ++ [A0, A1, xo true t (argsM l Dv.ei (deepM S)).1]) ho' (by omega) Tryz.call213 (by simp) (get_up (getset ho)) hq.nest (fun h y hy => ?_) (fun _ own => ?_)).mono fun r H' h => ?_
  ·rw [List.set_append_left _ _ hlt] at h
   rcases List.mem_append.1 hy with hy | hy
   ·rcases List.mem_or_eq_of_mem_set hy with h1 | h1
    ·obtain ⟨i, hi', rfl⟩ := List.getElem_of_mem h1
     by_cases hio : i = o
     ·subst hio
      have : Hp[i] = pr l S := by rw [List.getElem?_eq_getElem hi'] at ho; injection ho
      rw [this]; exact low_pr
     ·refine h _ (List.mem_append_left _ ?_)
      rw [List.mem_iff_getElem?]
      exact ⟨i, by rw [List.getElem?_set_ne (Ne.symm hio), List.getElem?_eq_getElem hi']⟩
    ·rw [h1]; exact low_pr
   ·simp only [List.mem_cons, List.not_mem_nil, or_false] at hy
    rcases hy with rfl | rfl | rfl
    ·exact h _ (List.mem_append_right _ (by simp))
    ·exact h _ (List.mem_append_right _ (by simp))
    ·exact low_xo
  ·have hoid : oid Hp.length 2 ≠ o := by unfold oid; omega
   have e1 : (Hp ++ [A0, A1, xo true t []]).set o (pr l (deepM S)) ++ own = (Hp.set o (pr l (deepM S)) ++ [A0, A1, xo true t []]) ++ own := by rw [List.set_append_left _ _ hlt]
   rw [e1]
   have g1 : ((Hp.set o (pr l (deepM S)) ++ [A0, A1, xo true t []]) ++ own)[o]? = some (pr l (deepM S)) := get_up (get_up (getset ho))
   have g2 : ((Hp.set o (pr l (deepM S)) ++ [A0, A1, xo true t []]) ++ own)[oid Hp.length 2]? = some (xo true t []) := get_up (by
    have := get_oid (U := Hp.set o (pr l (deepM S))) (O := [A0, A1, xo true t []]) (n := 2)
    rw [List.length_set] at this
    exact this)
   refine (c213 l (deepM S) t Dv o (oid Hp.length 2) _ hoid g1 g2 hi hl hll (hd.ei h30).1 (hd.ei h30).2).mono fun r H' h => ⟨h.1, h.2.trans ?_⟩
   rw [List.append_assoc, List.set_append_left _ _ (by simpa using hlt), List.set_set]
   have := set_oid (U := Hp.set o (pr l (argsM l Dv.ei (deepM S)).2)) (O := [A0, A1, xo true t []] ++ own) (n := 2) (x := xo true t (argsM l Dv.ei (deepM S)).1)
   rw [List.length_set] at this
   rw [this]
   simp
  ·have e : kidsM l a Dv.ei S = ((argsM l Dv.ei (deepM S)).1, riseM (argsM l Dv.ei (deepM S)).2) := if_neg (by
    show ¬ (((S.nest : Int) == 30) = true)
    simp
    omega)
   rw [e, if_neg h30]
   obtain ⟨h1, h2⟩ := h.2 h30
   exact ⟨h1, by rw [h2, List.set_append_left _ _ (by simpa using hlt), List.set_set]⟩
theorem c210 (l : List Tok) (S : PS) (Dv : Fam) (t : Tok) (o : Nat) (Hp : List AObj) (ho : Hp[o]? = some (pr l S)) (hi : (nextM S).i < l.length) (hl : TokEnd l) (hll : l.length ≤ 1048576) (hnl : S.nest ≤ 30) (hd : DeepC l Dv S.nest) : ACall Tryz.prog 210 [.ptr o 0, tokA t] Hp (fun r H' => r = exprA (callM l Dv t S).1 ∧ H' = Hp.set o (pr l (callM l Dv t S).2)) := by
 have hi0 : S.i < l.length := by have : S.i + 1 < l.length := hi; omega
 have hol := (List.getElem?_eq_some_iff.1 ho).1
 have hkf : KFact l (nextM S) (callKM l Dv S) := kidsM_fact hl _ hi (fun h => (hd.ei h).1)
 refine ACall.body [.cell 4 27] [0, 1] Tryz.func210 Tryz.ntmps210 (fun d => ?_)
 refine AW.seqR ?_
 refine R.boxRo ?_
 refine R.boxRo ?_
 refine R.alloc Tryz.zeroValue27 ?_
 refine R.fin [2, 3, 4] ?_
 refine AW.seqR ?_
 refine R.fieldAddrRo (off := 1) Tryz.underlying66 Tryz.sizeOf9 ?_
 refine R.loadRo Tryz.isAgg9 ?_
 refine R.call Tryz.call73 (c73 t.text _) ?_
 refine R.assign ?_
 refine R.fin [2, 3, 4, 5] ?_
 refine W.seq ?_
 refine AW.seqR ?_
 refine R.move ?_
 refine R.lss ?_
 refine R.fin [2, 3, 4, 5, 12] ?_
 refine W.cond (fun ht12 => ?_) (fun ht12 => ?_)
 ·skip
  have hlt0 : arityM t.text < 0 := by simpa using ht12
  have e : callM l Dv t S = (nullX, failM 9 t.at_ S) := if_pos hlt0
  refine AW.seqR ?_
  refine R.loadRo Tryz.isAgg88 ?_
  refine R.fieldAddrRo (off := 2) Tryz.underlying66 Tryz.sizeOf3 ?_
  refine R.loadRo Tryz.isAgg3 ?_
  refine R.callUp Tryz.call48 ho (by simp) low_pr (c48 l S 9 t.at_ o _ (get_up ho)) ?_
  refine R.storeOwn Tryz.sizeOf27 ?_
  refine R.fin [4] ?_
  refine AW.ret ?_
  refine K.thR ?_
  exact K.fin (V.one (V.cellN Tryz.isAgg27 Tryz.sizeOf27)) ⟨by rw [e, exprA_eq], by rw [e]⟩ (hlow := low_agg _)
 ·skip
  have hge : ¬ arityM t.text < 0 := by simpa using ht12
  refine AW.skip ?_
  refine K.thN ?_
  refine AW.seqR ?_
  refine R.loadRo Tryz.isAgg88 ?_
  refine R.callUp Tryz.call93 ho (by simp) low_pr (c93 l S o _ (get_up ho) hi0 hll) ?_
  refine R.alloc Tryz.zeroValue66 ?_
  refine R.storeOwn Tryz.sizeOf66 ?_
  refine R.fin [2, 3, 4, 5, 6] ?_
  refine AW.seqR ?_
  refine R.fieldAddrRo (off := 1) Tryz.underlying66 Tryz.sizeOf9 ?_
  refine R.loadRo Tryz.isAgg9 ?_
  refine R.build (places := #[(0, 1), (1, 1), (2, 3), (5, 1)]) Tryz.underlying27 (fun w => by simp) Tryz.zeroValue27 ?_
  refine R.alloc Tryz.zeroValue27 ?_
  refine R.storeOwn Tryz.sizeOf27 ?_
  refine R.fin [2, 3, 4, 5, 6, 7] ?_
  refine AW.seqR ?_
  refine R.nilCell 2 5 6 ?_
  refine R.loadRo Tryz.isAgg88 ?_
  refine R.fieldAddrPtr (fo := 2) Tryz.underlying66 Tryz.sizeOf3 ?_
  refine R.loadOwn Tryz.isAgg3 ?_
  refine R.makeFunc ?_
  refine R.callX (up' := (Hp.set o (pr l (nextM S))).set o (pr l (callKM l Dv S).2)) (own' := [zero69, .cells 66 [intA (tokAt l S.i).kind, strA (tokAt l S.i).text, intA (tokAt l S.i).at_], xo true t.text (callKM l Dv S).1]) Tryz.call116 (by have := c227c l (nextM S) (tokAt l S.i).at_ t.text Dv o (Hp.set o (pr l (nextM S))) zero69 (.cells 66 [intA (tokAt l S.i).kind, strA (tokAt l S.i).text, intA (tokAt l S.i).at_]) low_z69 (getset ho) hi hl hll hnl hd; rw [List.length_set] at this; exact this) (by simp) (fun h => low_set h low_pr) ?_
  refine R.fin [2, 3, 4, 5, 7] ?_
  refine AW.seqR ?_
  refine R.loadRo Tryz.isAgg88 ?_
  refine R.callUp Tryz.call211 (getset (getset ho)) (by simp) low_pr (c211 l (callKM l Dv S).2 closeT o _ (get_up (getset (getset ho))) hkf.lt hll) ?_
  refine R.fin [2, 3, 4, 5, 7] ?_
  refine W.seq ?_
  refine AW.seqR ?_
  refine R.loadRo Tryz.isAgg88 ?_
  refine R.nilPtr ?_
  refine R.fieldAddrPtr (fo := 3) Tryz.underlying90 Tryz.sizeOf30 ?_
  refine R.fieldAddrPtr (fo := 0) Tryz.underlying30 Tryz.sizeOf28 ?_
  refine R.loadUp Tryz.isAgg28 (getset (getset (getset ho))) ?_
  refine R.eql ?_
  refine R.move ?_
  refine G.fieldAddrPtr (fo := 5) Tryz.underlying27 Tryz.sizeOf25 ?_
  refine G.loadOwn Tryz.isAgg25 ?_
  refine G.len Tryz.underlying25 ?_
  refine G.move ?_
  refine G.neq ?_
  refine R.pickAnd ?_
  refine R.fin [2, 3, 4, 7, 41] ?_
  refine W.cond (fun ht41 => ?_) (fun ht41 => ?_)
  ·skip
   have e : callM l Dv t S = (nullX, failM 8 t.at_ (wantM l closeT (callKM l Dv S).2)) := by
    unfold callM
    rw [if_neg hge, if_pos (by have := ht41; simp only [List.length_map] at this; exact this)]
   refine AW.seqR ?_
   refine R.loadRo Tryz.isAgg88 ?_
   refine R.fieldAddrRo (off := 2) Tryz.underlying66 Tryz.sizeOf3 ?_
   refine R.loadRo Tryz.isAgg3 ?_
   refine R.callUp Tryz.call48 (getset (getset (getset ho))) (by simp) low_pr (c48 l (wantM l closeT (callKM l Dv S).2) 8 t.at_ o _ (get_up (getset (getset (getset ho))))) ?_
   refine R.storeOwn Tryz.sizeOf27 ?_
   refine R.fin [4] ?_
   refine AW.ret ?_
   refine K.thR ?_
   exact K.fin (V.one (V.cellN Tryz.isAgg27 Tryz.sizeOf27)) ⟨by rw [e, exprA_eq], by rw [e, List.set_set, List.set_set, List.set_set]⟩ (hlow := low_agg _)
  ·skip
   have e : callM l Dv t S = (.mk 6 t.text noV (callKM l Dv S).1, (wantM l closeT (callKM l Dv S).2)) := by
    unfold callM
    rw [if_neg hge, if_neg (by have := ht41; simp only [List.length_map] at this; rw [Bool.eq_false_iff] at this; exact this)]
   refine AW.skip ?_
   refine K.thN ?_
   refine AW.seqR ?_
   refine R.loadOwnN Tryz.isAgg27 Tryz.sizeOf27 ?_
   refine R.storeOwn Tryz.sizeOf27 ?_
   refine R.fin [4] ?_
   refine AW.ret ?_
   exact K.fin (V.one (V.cellN Tryz.isAgg27 Tryz.sizeOf27)) ⟨by rw [e, mk_agg]; rfl, by rw [e, List.set_set, List.set_set]⟩ (hlow := by have := exprA_low Hp.length (.mk 6 t.text noV (callKM l Dv S).1); rw [mk_agg] at this; simpa using this)

theorem pcall_all {l : List Tok} (hl : TokEnd l) (hll : l.length ≤ 1048576) (n : Nat) (Dv : Fam) (hn : n ≤ 30) (hd : DeepC l Dv n) : PCall l Dv n := fun o Hp S t ho hi hS _ _ => by
 subst hS
 exact c210 l S Dv t o Hp ho hi hl hll hn hd
/-- expr.Parse. -/
theorem c87p (s : Str) (hs : s.length ≤ 1048576) (Hp : List AObj) : AFun Tryz.prog 10 [strA s] Hp (.tup [exprA (parseM s).1, .agg [intA (parseM s).2.1, intA (parseM s).2.2]]) := by
 by_cases h : (lexM s).2.1 = 0
 ·exact c10 s hs (fun n Dv hn hd => pcall_all (lex_end h) (by have := lex_len h; omega) n Dv hn hd) Hp
 ·refine c10 s hs (fun n Dv hn hd => ?_) Hp
  intro o Hp S t ho hi hS ht hop
  have : (lexM s).1 = [] := by
   unfold lexM at h ⊢
   split
   ·rfl
   ·rename_i h4
    rw [if_neg h4] at h
    cases hf : (itemsT s).find? (fun it => it.2 != 0) with
    | some it => rfl
    | none => rw [hf] at h; exact absurd rfl h
  rw [this] at hi
  cases hi
end Go.SX.Nb
namespace Go.SX.Nb
open Go Go.SX Go.Proofs
variable [ErrAt]
set_option maxRecDepth 4000
def longM (l : List Val) : Bool := decide ((50 : Int) < (l.length : Int)) || l.any fun v => decide ((400 : Int) < (v.s.length : Int))
theorem c22 (l : List Val) (Hp : List AObj) : AFun Tryz.prog 22 [valsA l] Hp (boolA (longM l)) := by
  refine ACall.body [.tmp 2] [0] Tryz.func22 Tryz.ntmps22 (fun d => ?_)
  refine AW.seqR ?_
  refine R.assign ?_
  refine R.fin [0] ?_
  refine W.seq ?_
  refine AW.seqR ?_
  refine R.move ?_
  refine R.len Tryz.underlying42 ?_
  refine R.gtr ?_
  refine R.fin [0, 6] ?_
  refine W.cond (fun ht6 => ?_) (fun ht6 => ?_)
  · skip
    rw [List.length_map] at ht6
    have hm : longM l = true := by unfold longM; rw [ht6]; rfl
    refine AW.seqR ?_
    refine R.assign ?_
    refine R.fin [2] ?_
    refine AW.ret ?_
    refine K.thR ?_
    exact K.fin (V.one V.tmp) ⟨by rw [hm], rfl⟩
  · skip
    rw [List.length_map] at ht6
    have hl50 : l.length ≤ 50 := by simp at ht6; omega
    refine AW.skip ?_
    refine K.thN ?_
    refine W.seq ?_
    refine AW.seqR ?_
    refine R.assign ?_
    refine R.fin [0, 3] ?_
    refine AW.loopC (α := Nat) (fun x => ⟨20, setF 0 (valsA l) (setF 3 (intA (x : Nat)) (fun _ => .any)), Hp, [], [], none⟩) (fun x => x ≤ l.length ∧ ∀ (j : Nat) (v : Val), j < x → l[j]? = some v → decide ((400 : Int) < (v.s.length : Int)) = false) (fun x => l.length - x) (0) ⟨Nat.zero_le _, fun j v h => by omega⟩ (StLe.of_eq (by simp)) rfl (fun x hx => ?_)
    refine W.seq ?_
    refine AW.seqR ?_
    refine R.move ?_
    refine R.move ?_
    refine R.len Tryz.underlying42 ?_
    refine R.lss ?_
    refine R.fin [0, 3, 10] ?_
    refine W.cond (fun ht10 => ?_) (fun ht10 => ?_)
    · skip
      have hlt : x < l.length := by simpa using ht10
      refine AW.skip ?_
      refine K.thN ?_
      refine W.seq ?_
      refine AW.block ?_
      refine AW.seqR ?_
      refine R.move ?_
      refine R.move ?_
      refine R.indexAddr (x) (valA l[x]) Tryz.underlying42 Tryz.sizeOf24 (getMap hlt) ?_
      refine R.fieldAddrRo (off := 2) Tryz.underlying24 Tryz.sizeOf9 ?_
      refine R.loadRo Tryz.isAgg9 ?_
      refine R.slen Tryz.underlying9 ?_
      refine R.gtr ?_
      refine R.fin [0, 3, 19] ?_
      refine W.cond (fun ht19 => ?_) (fun ht19 => ?_)
      · skip
        have hm : longM l = true := by unfold longM; rw [Bool.or_eq_true]; exact .inr (List.any_eq_true.2 ⟨l[x], List.getElem_mem hlt, ht19⟩)
        refine AW.seqR ?_
        refine R.assign ?_
        refine R.fin [2] ?_
        refine AW.ret ?_
        refine K.blR ?_
        refine K.thR ?_
        refine K.lpR ?_
        refine K.thR ?_
        exact K.fin (V.one V.tmp) ⟨by rw [hm], rfl⟩
      · skip
        refine AW.skip ?_
        refine K.blN ?_
        refine K.thN ?_
        refine AW.region ?_
        refine R.move ?_
        refine R.add64 (h1 := by omega) (h2 := by omega) ?_
        refine R.assign ?_
        refine R.fin [0, 3] ?_
        refine K.lpN (x + 1) ⟨hlt, upto_succ hlt hx.2 ht19⟩ (by omega) ?_
        exact StCut.of_eq (by simp)
    · skip
      have hxe : l.length ≤ x := by simpa using ht10
      have hm : longM l = false := by
        unfold longM
        rw [ht6, Bool.false_or, List.any_eq_false]
        intro v hv
        obtain ⟨j, hj⟩ := List.getElem?_of_mem hv
        have := hx.2 j v (by have := (List.getElem?_eq_some_iff.1 hj).1; omega) hj
        rw [this]
        simp
      refine AW.exit ?_
      refine K.thE ?_
      refine K.lpE ?_
      refine K.thN ?_
      refine AW.seqR ?_
      refine R.assign ?_
      refine R.fin [2] ?_
      refine AW.ret ?_
      exact K.fin (V.one V.tmp) ⟨by rw [hm], rfl⟩

structure RowAt (c : List Col) (l : List Val) (x : Nat) : Prop where
  le : x ≤ l.length
  ok : ∀ (i : Nat) (v : Val) (y : Col), i < x → l[i]? = some v → c[i]? = some y → plainM v = true ∧ (v.kind = 0 ∨ v.kind = y.kind)
theorem RowAt.next {c : List Col} {l : List Val} {x : Nat} (h : RowAt c l x) (hl : x < l.length) (hc : x < c.length) (hb : ((!(plainM l[x])) || ((l[x].kind != 0) && (l[x].kind != c[x].kind))) = false) : RowAt c l (x + 1) := ⟨hl, fun i v y hi hv hy => by
  rcases Nat.lt_or_ge i x with h' | h'
  · exact h.ok i v y h' hv hy
  · have e : i = x := by omega
    subst e
    rw [List.getElem?_eq_getElem hl] at hv
    rw [List.getElem?_eq_getElem hc] at hy
    injection hv with hv
    injection hy with hy
    subst hv
    subst hy
    simp only [Bool.or_eq_false_iff, Bool.not_eq_false', Bool.and_eq_false_iff, bne_eq_false_iff_eq] at hb
    exact ⟨hb.1, hb.2⟩⟩
theorem RowAt.bad {c : List Col} {l : List Val} {x : Nat} (hl : x < l.length) (hc : x < c.length) (hb : ((!(plainM l[x])) || ((l[x].kind != 0) && (l[x].kind != c[x].kind))) = true) : rowP c l = false := by
  cases h : rowP c l with
  | false => rfl
  | true =>
    obtain ⟨h1, h2⟩ := (row_iff.1 h).2.2 x l[x] c[x] (List.getElem?_eq_getElem hl) (List.getElem?_eq_getElem hc)
    rw [h1] at hb
    simp only [Bool.not_true, Bool.false_or, Bool.and_eq_true, bne_iff_ne] at hb
    omega
theorem c23 (c : List Col) (hc : OkCols c) (l : List Val) (hll : l.length ≤ 1048576) (Hp : List AObj) : AFun Tryz.prog 23 [colsA c, valsA l] Hp (boolA (rowP c l)) := by
  refine ACall.body [.tmp 4] [0, 1] Tryz.func23 Tryz.ntmps23 (fun d => ?_)
  refine AW.seqR ?_
  refine R.assign ?_
  refine R.fin [0, 1] ?_
  refine W.seq ?_
  refine AW.seqR ?_
  refine R.move ?_
  refine R.call Tryz.call41 (c41 c hc _) ?_
  refine R.not ?_
  refine R.move ?_
  refine G.move ?_
  refine G.len Tryz.underlying42 ?_
  refine G.move ?_
  refine G.len Tryz.underlying45 ?_
  refine G.neq ?_
  refine R.pickOr ?_
  refine R.fin [0, 1, 16] ?_
  refine W.cond (fun ht16 => ?_) (fun ht16 => ?_)
  · skip
    have hm : rowP c l = false := by
      simp only [List.length_map, Bool.or_eq_true, Bool.not_eq_true', bne_iff_ne, ne_eq] at ht16
      unfold rowP
      rcases ht16 with h | h
      · rw [h]; rfl
      · rw [show (l.length == c.length) = false by simpa using (show l.length ≠ c.length by omega)]; simp
    refine AW.seqR ?_
    refine R.assign ?_
    refine R.fin [4] ?_
    refine AW.ret ?_
    refine K.thR ?_
    exact K.fin (V.one V.tmp) ⟨by rw [hm], rfl⟩
  · skip
    have hcl : colsP c = true ∧ l.length = c.length := by
      simp only [List.length_map, Bool.or_eq_false_iff, Bool.not_eq_false', bne_eq_false_iff_eq] at ht16
      exact ⟨ht16.1, by omega⟩
    refine AW.skip ?_
    refine K.thN ?_
    refine W.seq ?_
    refine AW.seqR ?_
    refine R.move ?_
    refine R.len Tryz.underlying42 ?_
    refine R.move ?_
    refine R.fin [0, 17, 18, 19] ?_
    refine AW.loopC (α := Nat) (fun x => ⟨43, setF 0 (colsA c) (setF 17 (valsA l) (setF 18 (intA (l.length : Nat)) (setF 19 (intA (x : Nat)) (fun _ => .any)))), Hp, [], [], none⟩) (fun x => RowAt c l x) (fun x => l.length - x) (0) ⟨Nat.zero_le _, fun i v y h => by omega⟩ (StLe.of_eq (by simp)) rfl (fun x hx => ?_)
    refine AW.seqR ?_
    refine R.lss ?_
    refine R.fin [0, 17, 18, 19, 20] ?_
    refine W.condX (fun ht20 => ?_) (fun ht20 => ?_)
    · skip
      have hlt : x < l.length := by simpa using ht20
      have hlc : x < c.length := by omega
      refine W.seq ?_
      refine AW.block ?_
      refine AW.seqR ?_
      refine R.move ?_
      refine R.indexAddr (x) (valA l[x]) Tryz.underlying42 Tryz.sizeOf24 (getMap hlt) ?_
      refine R.loadRoN Tryz.isAgg24 Tryz.sizeOf24 ?_
      refine R.alloc Tryz.zeroValue24 ?_
      refine R.assign ?_
      refine R.storeOwn Tryz.sizeOf24 ?_
      refine R.fin [0, 5, 6, 17, 18, 19] ?_
      refine W.draw [0, 1, 3, 7, 15, 31, 63, 127, 255, 511, 255, 255, 3327, 7423, 15615, 32767, 65535, 131071] 15 Tryzmixed (by kernel_rfl) ?_
      refine D.loadOwnN Tryz.isAgg24 Tryz.sizeOf24 ?_
      refine D.call Tryz.call42 (c42 _ _) ?_
      refine D.not ?_
      refine D.move ?_
      refine H.fieldAddrPtr (fo := 0) Tryz.underlying24 Tryz.sizeOf3 ?_
      refine H.loadOwn Tryz.isAgg3 ?_
      refine H.neq ?_
      refine H.move ?_
      refine H.fieldAddrPtr (fo := 0) Tryz.underlying24 Tryz.sizeOf3 ?_
      refine H.loadOwn Tryz.isAgg3 ?_
      refine H.move ?_
      refine H.move ?_
      refine H.indexAddr (x) (colA c[x]) Tryz.underlying45 Tryz.sizeOf44 (fun _ => getMap hlc) ?_
      refine H.fieldAddrRo (off := 1) Tryz.underlying44 Tryz.sizeOf3 ?_
      refine H.loadRo Tryz.isAgg3 ?_
      refine D.tail ?_
      refine G.neq ?_
      refine G.pickAnd ?_
      refine R.pickOr ?_
      refine R.fin [0, 17, 18, 19, 41] ?_
      refine W.cond (fun ht41 => ?_) (fun ht41 => ?_)
      · skip
        have hm := RowAt.bad hlt hlc ht41
        refine AW.seqR ?_
        refine R.assign ?_
        refine R.fin [4] ?_
        refine AW.ret ?_
        refine K.blR ?_
        refine K.thR ?_
        refine K.lpR ?_
        refine K.thR ?_
        exact K.fin (V.one V.tmp) ⟨by rw [hm], rfl⟩
      · skip
        refine AW.skip ?_
        refine K.blN ?_
        refine K.thN ?_
        refine AW.region ?_
        refine R.add64 ?_
        refine R.move ?_
        refine R.fin [0, 17, 18, 19] ?_
        refine K.lpN (x + 1) (hx.next hlt hlc ht41) (by omega) ?_
        exact StCut.take (own := []) (fun _ => .refl _) (by repeat (first | exact lowF_any | refine lowF_set (by first | exact low_vals | exact low_cols | (simp [or_imp, forall_and]; done)) ?_)) (by simp) (by simp)
    · skip
      have hxe : l.length ≤ x := by simpa using ht20
      have hm : rowP c l = true := row_iff.2 ⟨by rw [← cols_eq]; exact hcl.1, hcl.2, fun i v y hv hy => hx.ok i v y (by have := (List.getElem?_eq_some_iff.1 hv).1; omega) hv hy⟩
      refine K.lpE ?_
      refine K.thN ?_
      refine AW.seqR ?_
      refine R.assign ?_
      refine R.fin [4] ?_
      refine AW.ret ?_
      exact K.fin (V.one V.tmp) ⟨by rw [hm], rfl⟩

theorem node_val {e : Expr} (h : nodeM e = true) : valOk e = true := by
  unfold valOk
  cases node_cases h with
  | val v hp h0 => simpa [valX, Expr.op, Expr.val] using hp
  | name t ht => rfl
  | neg a => rfl
  | no a => rfl
  | bin t a b ht => rfl
  | call t k ht => rfl
mutual
theorem val_all : ∀ e : Expr, allE nodeM e = true → allE valOk e = true
  | .mk o t v k, h => by
    rw [allE, Bool.and_eq_true] at h ⊢
    exact ⟨node_val h.1, val_allL k h.2⟩
theorem val_allL : ∀ k : List Expr, allL nodeM k = true → allL valOk k = true
  | [], _ => rfl
  | e :: r, h => by
    rw [allL, Bool.and_eq_true] at h ⊢
    exact ⟨val_all e h.1, val_allL r h.2⟩
 end
theorem row_fine {c : List Col} {l : List Val} (h : rowP c l = true) (hr : ∀ v ∈ l, -9223372036854775808 ≤ v.n ∧ v.n ≤ 9223372036854775807) : ∀ v ∈ l, Fine v := fun v hv => by
  obtain ⟨i, hi⟩ := List.getElem?_of_mem hv
  obtain ⟨_, h2, h3⟩ := row_iff.1 h
  have hil := (List.getElem?_eq_some_iff.1 hi).1
  exact ⟨(h3 i v _ hi (List.getElem?_eq_getElem (show i < c.length by omega))).1, (hr v hv).1, (hr v hv).2⟩
theorem c26 (n : Nat) (x : Expr) (hok : okE n x) (hn : n ≤ 1048576) (hrg : allE rngN x = true) (c : List Col) (hc : OkCols c) (l : List Val) (hll : l.length ≤ 1048576) (hlr : ∀ v ∈ l, -9223372036854775808 ≤ v.n ∧ v.n ≤ 9223372036854775807) (Hp : List AObj) : AFun Tryz.prog 26 [exprA x, colsA c, valsA l] Hp (resA (evalM x c l)) := by
  refine ACall.body [.cell 6 24, .tmp 7] [0, 1, 2] Tryz.func26 Tryz.ntmps26 (fun d => ?_)
  refine AW.seqR ?_
  refine R.boxRo ?_
  refine R.alloc Tryz.zeroValue24 ?_
  refine R.assign ?_
  refine R.fin [1, 2, 3, 6] ?_
  refine W.seq ?_
  refine AW.seqR ?_
  refine R.loadRoN Tryz.isAgg27 Tryz.sizeOf27 ?_
  refine R.call Tryz.call30 (c30 n x hok hn _) ?_
  refine R.not ?_
  refine R.move ?_
  refine G.move ?_
  refine G.move ?_
  refine G.call Tryz.call23 (fun hB => c23 c hc l hll _) ?_
  refine G.not ?_
  refine R.pickOr ?_
  refine R.fin [1, 2, 3, 6, 16] ?_
  refine W.cond (fun ht16 => ?_) (fun ht16 => ?_)
  · skip
    have hm : evalM x c l = wrongR 1 := if_pos ht16
    refine AW.seqR ?_
    refine R.call Tryz.call43 (c43 _ _) ?_
    refine R.extract ?_
    refine R.extract ?_
    refine R.storeOwn Tryz.sizeOf24 ?_
    refine R.assign ?_
    refine R.fin [6, 7] ?_
    refine AW.ret ?_
    refine K.thR ?_
    exact K.fin (V.two (V.cellN Tryz.isAgg24 Tryz.sizeOf24) V.tmp) ⟨by rw [hm]; try rfl, rfl⟩
  · skip
    have hm : evalM x c l = evalE c l x := if_neg (by rw [ht16]; simp)
    have hrr : exprRightM x = true ∧ rowP c l = true := by simpa using ht16
    obtain ⟨hr, hrow⟩ := hrr
    refine AW.skip ?_
    refine K.thN ?_
    refine AW.seqR ?_
    refine R.move ?_
    refine R.move ?_
    refine R.build (places := #[(0, 1), (1, 1)]) Tryz.underlying83 (fun w => by simp) Tryz.zeroValue83 ?_
    refine R.loadRoN Tryz.isAgg27 Tryz.sizeOf27 ?_
    refine R.call Tryz.call44 (c44 c l hc (row_iff.1 hrow).2.1 (row_fine hrow hlr) n x hok (rightE_node hr) hrg (val_all x (rightE_node hr)) _) ?_
    refine R.extract ?_
    refine R.extract ?_
    refine R.storeOwn Tryz.sizeOf24 ?_
    refine R.assign ?_
    refine R.fin [6, 7] ?_
    refine AW.ret ?_
    exact K.fin (V.two (V.cellN Tryz.isAgg24 Tryz.sizeOf24) V.tmp) ⟨by rw [hm]; try rfl, rfl⟩

def wS1 : Str := [105, 102, 40, 116, 114, 117, 101, 44, 32, 49, 44, 32, 49, 32, 47, 32, 48, 41]
def wS2 : Str := [110, 118, 108, 40, 49, 32, 47, 32, 48, 44, 32, 49, 41]
def wD : Expr := binX [47] (valX ⟨1, 1, []⟩) (valX ⟨1, 0, []⟩)
def wX1 : Expr := .mk 6 ifW noV [valX ⟨3, 1, []⟩, valX ⟨1, 1, []⟩, wD]
def wX2 : Expr := .mk 6 nvlW noV [wD, valX ⟨1, 1, []⟩]
theorem w_parse1 : parseM wS1 = (wX1, 0, 0) := by kernel_rfl
theorem w_parse2 : parseM wS2 = (wX2, 0, 0) := by kernel_rfl
theorem okE_dec {n : Nat} {e : Expr} (h1 : e.text.length ≤ 1048576) (h2 : e.kids.length ≤ 1048576) (h3 : ∀ y ∈ e.kids, okE n y) : okE (n + 1) e := ⟨h1, h2, h3⟩
theorem w_okD : okE 3 wD := okE_dec (by decide) (by decide) fun y hy => by
  have : y = valX ⟨1, 1, []⟩ ∨ y = valX ⟨1, 0, []⟩ := by simpa [wD, binX, Expr.kids] using hy
  rcases this with rfl | rfl <;> exact valX_ok (by decide) _
theorem w_ok1 : okE 4 wX1 := okE_dec (by decide) (by decide) fun y hy => by
  have : y = valX ⟨3, 1, []⟩ ∨ y = valX ⟨1, 1, []⟩ ∨ y = wD := by simpa [wX1, Expr.kids] using hy
  rcases this with rfl | rfl | rfl
  · exact valX_ok (by decide) _
  · exact valX_ok (by decide) _
  · exact w_okD
theorem w_ok2 : okE 4 wX2 := okE_dec (by decide) (by decide) fun y hy => by
  have : y = wD ∨ y = valX ⟨1, 1, []⟩ := by simpa [wX2, Expr.kids] using hy
  rcases this with rfl | rfl
  · exact w_okD
  · exact valX_ok (by decide) _
theorem w_eval1 : evalM wX1 [] [] = (⟨1, 1, []⟩, 0) := by kernel_rfl
theorem w_eval2 : evalM wX2 [] [] = (noV, 5) := by kernel_rfl
theorem ACall.argLe {P : Program} {g : FuncId} {args args' : List AV} {H : List AObj} {post : AV → List AObj → Prop} (h : ACall P g args' H post) (hl : args.length = args'.length) (hle : ∀ (i : Nat) (y y' : AV), args[i]? = some y → args'[i]? = some y' → Le y y') : ACall P g args H post :=
  fun d G w vs h1 h2 h3 h4 => h d G w vs (by rw [h1, hl]) (fun i y' u hy' hu => by
    have hlt : i < args.length := by rw [hl]; exact (List.getElem?_eq_some_iff.1 hy').1
    exact (h2 i args[i] u (List.getElem?_eq_getElem hlt) hu).le (hle i args[i] y' (List.getElem?_eq_getElem hlt) hy')) h3 h4
theorem w_p1 (Hp : List AObj) : AFun Tryz.prog 10 [strA wS1] Hp (.tup [exprA wX1, .agg [intA 0, intA 0]]) := by
  have := c87p wS1 (by decide) Hp
  rw [w_parse1] at this
  exact this
theorem w_p2 (Hp : List AObj) : AFun Tryz.prog 10 [strA wS2] Hp (.tup [exprA wX2, .agg [intA 0, intA 0]]) := by
  have := c87p wS2 (by decide) Hp
  rw [w_parse2] at this
  exact this
theorem w_nil {x : Expr} {r : Rs} (hok : okE 4 x) (hrg : allE rngN x = true) (h : evalM x [] [] = r) (Hp : List AObj) : AFun Tryz.prog 26 [exprA x, .nil, .nil] Hp (resA r) := by
  have := c26 4 x hok (by decide) hrg [] ⟨by decide, by decide⟩ [] (by decide) (fun v hv => by cases hv) Hp
  rw [h] at this
  refine ACall.argLe this rfl fun i y y' h1 h2 => ?_
  match i with
  | 0 => simp at h1 h2; subst h1; subst h2; exact .refl _
  | 1 => simp at h1 h2; subst h1; subst h2; exact .nil false 2
  | 2 => simp at h1 h2; subst h1; subst h2; exact .nil false 3
  | i + 3 => simp at h1
theorem c19 (Hp : List AObj) : AFun Tryz.prog 19 [] Hp (boolA true) := by
  refine ACall.body [.tmp 0] [] Tryz.func19 Tryz.ntmps19 (fun d => ?_)
  refine AW.seqR ?_
  refine R.assign ?_
  refine R.fin [] ?_
  refine AW.seqR ?_
  refine R.call Tryz.call10 (w_p1 _) ?_
  refine R.move ?_
  refine R.extract ?_
  refine R.extract ?_
  refine R.alloc Tryz.zeroValue27 ?_
  refine R.alloc Tryz.zeroValue30 ?_
  refine R.storeOwn Tryz.sizeOf27 ?_
  refine R.storeOwn Tryz.sizeOf30 ?_
  refine R.fin [1, 2] ?_
  refine AW.seqR ?_
  refine R.call Tryz.call10 (w_p2 _) ?_
  refine R.move ?_
  refine R.extract ?_
  refine R.extract ?_
  refine R.alloc Tryz.zeroValue27 ?_
  refine R.alloc Tryz.zeroValue30 ?_
  refine R.storeOwn Tryz.sizeOf27 ?_
  refine R.storeOwn Tryz.sizeOf30 ?_
  refine R.fin [1, 2, 3, 4] ?_
  refine AW.seqR ?_
  refine R.loadOwnN Tryz.isAgg27 Tryz.sizeOf27 ?_
  refine R.call Tryz.call26 (w_nil w_ok1 (by kernel_rfl) w_eval1 _) ?_
  refine R.move ?_
  refine R.extract ?_
  refine R.extract ?_
  refine R.alloc Tryz.zeroValue24 ?_
  refine R.storeOwn Tryz.sizeOf24 ?_
  refine R.assign ?_
  refine R.fin [2, 3, 4, 5, 6] ?_
  refine AW.seqR ?_
  refine R.loadOwnN Tryz.isAgg27 Tryz.sizeOf27 ?_
  refine R.call Tryz.call26 (w_nil w_ok2 (by kernel_rfl) w_eval2 _) ?_
  refine R.move ?_
  refine R.extract ?_
  refine R.extract ?_
  refine R.alloc Tryz.zeroValue24 ?_
  refine R.storeOwn Tryz.sizeOf24 ?_
  refine R.assign ?_
  refine R.fin [2, 4, 5, 6, 8] ?_
  refine AW.seqR ?_
  refine R.fieldAddrPtr (fo := 0) Tryz.underlying30 Tryz.sizeOf28 ?_
  refine R.loadOwn Tryz.isAgg28 ?_
  refine R.eql ?_
  refine R.move ?_
  refine G.fieldAddrPtr (fo := 0) Tryz.underlying30 Tryz.sizeOf28 ?_
  refine G.loadOwn Tryz.isAgg28 ?_
  refine G.eql ?_
  refine R.pickAnd ?_
  refine R.move ?_
  refine G.loadOwnN Tryz.isAgg24 Tryz.sizeOf24 ?_
  refine G.build (places := #[(0, 1), (1, 1), (2, 1)]) Tryz.underlying24 (fun w => by simp) Tryz.zeroValue24 ?_
  refine G.eqlAgg eg24 (fun w => equal24 1 1 1 1 [] [] w) ?_
  refine R.pickAnd ?_
  refine R.move ?_
  refine G.move ?_
  refine G.eql ?_
  refine R.pickAnd ?_
  refine R.move ?_
  refine G.move ?_
  refine G.eql ?_
  refine R.pickAnd ?_
  refine R.assign ?_
  refine R.fin [0] ?_
  refine AW.ret ?_
  exact K.fin (V.one V.tmp)

theorem long_len {l : List Val} (h : longM l = false) : l.length ≤ 1048576 := by
  unfold longM at h
  simp only [Bool.or_eq_false_iff, decide_eq_false_iff_not] at h
  omega
theorem guard_many {a c : Bool} {x : List Col} (h : (((a || manyM x) || c) == false) = true) : manyM x = false := by
  cases hm : manyM x with
  | false => rfl
  | true => rw [hm] at h; cases a <;> cases c <;> simp at h
theorem guard_long {a : Bool} {l : List Val} (h : ((a || longM l) == false) = true) : l.length ≤ 1048576 := by
  cases hm : longM l with
  | false => exact long_len hm
  | true => rw [hm] at h; cases a <;> simp at h
end Go.SX.Nb
namespace Go.SX
variable [GI : GlobInv]
open Classical
@[simp] theorem low_sl {n o k m c : Nat} : Low n (.sl o k m c) ↔ o < n := ⟨fun h => by cases h; assumption, fun h => .sl o k m c h⟩
@[simp] theorem low_cellp {n k : Nat} : Low n (.cellp k) := .cellp k
/-- The cells of elements, one behind the other. -/
abbrev flatA (xs : List AV) : List AV := xs.flatMap AV.cells
theorem flatA_cons (x : AV) (r : List AV) : flatA (x :: r) = x.cells ++ flatA r := by simp [flatA]
theorem flatA_len {k : Nat} : ∀ {xs : List AV}, (∀ x ∈ xs, x.cells.length = k) → (flatA xs).length = xs.length * k
 | [], _ => by simp
 | x :: r, h => by
  rw [flatA_cons, List.length_append, h x List.mem_cons_self, flatA_len (fun y hy => h y (List.mem_cons_of_mem _ hy)), List.length_cons, Nat.add_mul]
  omega
theorem flatA_get {k : Nat} : ∀ {xs : List AV}, (∀ x ∈ xs, x.cells.length = k) → ∀ {i j : Nat} {x y : AV}, xs[i]? = some x → x.cells[j]? = some y → (flatA xs)[i * k + j]? = some y
 | [], _, i, j, x, y, h, _ => by simp at h
 | a :: r, hk, 0, j, x, y, h, h2 => by
  simp at h
  subst h
  rw [flatA_cons, Nat.zero_mul, Nat.zero_add, List.getElem?_append_left (List.getElem?_eq_some_iff.1 h2).1]
  exact h2
 | a :: r, hk, i + 1, j, x, y, h, h2 => by
  rw [List.getElem?_cons_succ] at h
  have ha := hk a List.mem_cons_self
  have hh := flatA_get (fun y hy => hk y (List.mem_cons_of_mem _ hy)) h h2
  rw [flatA_cons, List.getElem?_append_right (by rw [ha, Nat.add_mul]; omega), ha]
  rw [show (i + 1) * k + j - k = i * k + j by rw [Nat.add_mul]; omega]
  exact hh
section
variable {P : Program} {d : Nat} {st : St} {dst : Option Tmp} {ty : TypeId} {pos : String} {aft : Array Edge} {gd : Option (Nat × Bool)}
/-- The address of an element. -/
theorem OpV.indexAddrSl {t e : TypeId} {x i : Operand} {o k n c m : Nat} {q : IntKind} (hu : P.underlying t = some (.slice e)) (hsz : ∀ w, (sizeOf e).run P w = .ok k w) (hm : m < n)
  (hx : st.ev x = .sl o k n c) (hi : st.ev i = .v (.int q (m : Int))) : OpV P d ⟨dst, .indexAddr t x i, ty, pos, aft, gd⟩ st (.ptr o (m * k)) :=
 OpV.pure (by intro c h; cases h) fun G a w h => by
  have hr := hx ▸ h.eval x
  have hi' := ev_v h hi
  generalize hv : a.eval x = u at hr
  cases hr with
  | sl l o k n c ho =>
   have hlt' : (m : Int) < n := by omega
   refine ⟨.pointer (some ((⟨G.blk o, 0, none⟩ : Addr).add (m * k))), by simp [execOp, Instr.indexAt, asIntOf, hi', hv, run_underlying hu, hm, hlt', hsz], ?_⟩
   rw [add_of_none rfl, Nat.zero_add]
   exact .ptr _ o _ ho
/-- An empty slice, over an object of its own. -/
theorem AOp.buildObj0 {t e : TypeId} {k s n : Nat} (hu : P.underlying t = some (.slice e)) (hsz : ∀ w, (sizeOf e).run P w = .ok k w) (hn : st.own.length = n) (hs : s < st.sz) :
  AOp P d ⟨some s, .buildSlice t 0 #[], ty, pos, aft, gd⟩ st (· = ({ st with own := st.own ++ [.cells e []] } : St).set s (.sl (st.up.length + n) k 0 0)) := by
 intro G a w h Q'
 obtain ⟨G', h1, T, hb, hlt⟩ := alloc_obj h e [] #[] rfl (fun j y u h1 _ => by simp at h1)
 have hlen : (st.up ++ st.own).length = st.up.length + n := by rw [List.length_append, hn]
 rw [hlen] at hb hlt
 have hrun : (execOp a.eval (⟨some s, .buildSlice t 0 #[], ty, pos, aft, gd⟩ : Oper)).run P w = .ok (.value (.slice (some ⟨w.heap.size, 0, none⟩) 0 0)) (w.alloc (.cells #[] e)) := by
  have hfl : ∀ f : Nat → Option (Nat × Nat), Instr.fill f ((Array.range 0).map fun _ => (default : Value)) [] = some #[] := fun f => by simp [Instr.fill]
  simp [execOp, Instr.buildSlice, run_underlying hu, hsz, newRow, hfl]
 refine wpIn_value (by intro c h; cases h) hrun ⟨G', _, h1.put (s := s) (y := .sl (st.up.length + n) k 0 0) hs ?_, T.keep d, rfl, rfl, rfl, rfl⟩
 rw [← hb]
 exact .sl _ _ _ _ _ hlt
/-- What is appended to an empty slice lies in a new object of ours; of its spare cells nothing is known. -/
theorem AOp.appendObj {t e : TypeId} {i : TypeInfo} {z : Value} {k by' s o n : Nat} {xr x : Operand} {o2 : Bool} {ys : List AV}
  (hu : P.underlying t = some (.slice e)) (hi : P.info? e = some i) (hz : i.zero = some z) (hsz : i.size = k) (hby : i.bytes = by') (hzk : z.cells.size = k) (hk : 0 < k)
  (hb : st.ev xr = .sl o k 0 0) (hx : AsSl (st.ev x) o2 k ys) (hne : ys ≠ []) (hn : st.own.length = n) (hs : s < st.sz) (hl : ys.length * by' ≤ 140737488355328) (hl2 : ys.length ≤ 4611686018427387904) :
  AOp P d ⟨some s, .call ⟨.builtin .append, #[xr, x], #[t, t]⟩, ty, pos, aft, gd⟩ st (fun st' => ∃ c, ys.length ≤ c ∧ st' = ({ st with own := st.own ++ [.cells e (flatA ys ++ List.replicate ((c - ys.length) * k) .any)] } : St).set s (.sl (st.up.length + n) k ys.length c)) := by
 subst hsz
 subst hby
 intro G a w h Q'
 have hrb := hb ▸ h.eval xr
 have hrx := h.eval x
 have hm : ys.length ≠ 0 := fun e => hne (List.eq_nil_of_length_eq_zero e)
 generalize hvb : a.eval xr = vb at hrb
 cases hrb with
 | sl l o k n' c ho =>
  rcases asSl_cases hx hrx with ⟨_, e0⟩ | ⟨ad2, c2, f2, hvx, hc2, F2, _⟩
  ·exact absurd e0 hne
  ·have hge := grownCap_ge' w (0 + ys.length) 0 e
   have hv := run_append_grow (P := P) w t ty e i z hu hi hz ⟨G.blk o, 0, none⟩ 0 0 [] (by simp) (by simp) ad2 ys.length c2 (flatVals i.size ys.length f2) (flatVals_length _ _ _) (F2.vals hk) (by omega) (by omega) (growslice_fits (by omega) (by rw [Nat.zero_add]; exact hl))
   rw [Nat.zero_add] at hv hge
   let c' := grownCap w ys.length 0 e
   have hfl : (flatA ys).length = ys.length * i.size := flatA_len F2.k
   have hd' : StRel d G st a w.drew := h.drew (w.drawn + 1)
   obtain ⟨G', h1, T, hbk, hlt⟩ := alloc_obj hd' e (flatA ys ++ List.replicate ((c' - ys.length) * i.size) .any) (([] : List Value).toArray ++ (flatVals i.size ys.length f2).toArray ++ Builtin.zeroCells z.cells (c' - ys.length)) (by
     simp only [Array.size_append, List.size_toArray, flatVals_length, Value.oneSize _ hzk, List.length_append, List.length_replicate, hfl, List.length_nil]
     omega) (fun j y u hy hu' => by
     by_cases hj : j < ys.length * i.size
     ·rw [List.getElem?_append_left (by rw [hfl]; exact hj)] at hy
      have hq : j / i.size < ys.length := by rw [Nat.div_lt_iff_lt_mul hk]; exact hj
      have hjm : j % i.size < i.size := Nat.mod_lt _ hk
      have hx0 : ys[j / i.size]? = some (ys[j / i.size]) := List.getElem?_eq_getElem hq
      have hcl := F2.k _ (List.getElem_mem hq)
      have hy0 : (ys[j / i.size]).cells[j % i.size]? = some ((ys[j / i.size]).cells[j % i.size]'(by omega)) := List.getElem?_eq_getElem _
      have e1 : j / i.size * i.size + j % i.size = j := by have := Nat.div_add_mod j i.size; rw [Nat.mul_comm] at this; exact this
      have hfg := flatA_get F2.k hx0 hy0
      rw [e1, hy] at hfg
      injection hfg with hfg
      have hval : (flatVals i.size ys.length f2)[j]? = some (f2 (j / i.size) (j % i.size)) := flatVals_get hj
      rw [Array.getElem?_append_left (by simp only [Array.size_append, List.size_toArray, flatVals_length, List.length_nil]; omega)] at hu'
      have e2 : u = f2 (j / i.size) (j % i.size) := by
       have : (([] : List Value).toArray ++ (flatVals i.size ys.length f2).toArray)[j]? = (flatVals i.size ys.length f2)[j]? := by simp
       rw [this, hval] at hu'
       injection hu' with hu'
       exact hu'.symm
      rw [e2, hfg]
      exact (drew_turn G w (w.drawn + 1)).rep (F2.rep _ _ _ _ hx0 hy0)
     ·rw [List.getElem?_append_right (by rw [hfl]; omega)] at hy
      rw [List.getElem?_replicate] at hy
      split at hy
      ·injection hy with hy; subst hy; exact .any _ _
      ·cases hy)
   have hlen : (st.up ++ st.own).length = st.up.length + n := by rw [List.length_append, hn]
   rw [hlen] at hbk hlt
   have hrun : (execOp a.eval (⟨some s, .call ⟨.builtin .append, #[xr, x], #[t, t]⟩, ty, pos, aft, gd⟩ : Oper)).run P w = .ok (.value (.slice (some ⟨w.heap.size, 0, none⟩) ys.length c')) (w.drew.alloc (.cells (([] : List Value).toArray ++ (flatVals i.size ys.length f2).toArray ++ Builtin.zeroCells z.cells (c' - ys.length)) e)) := by
    simp only [execOp, resolve, invoke, builtin, Sem.run_bind, Sem.run_pure, Result.andThen_ok, List.map_toArray, List.map_cons, List.map_nil, hvb, hvx, hv]
    rfl
   have K0 := (drew_turn G w (w.drawn + 1)).keep d
   refine wpIn_value (by intro c h; cases h) hrun ⟨G', _, h1.put (s := s) (y := .sl (st.up.length + n) i.size ys.length c') hs ?_, K0.trans (T.keep d), rfl, rfl, rfl, c', hge, rfl⟩
   have hsz' : w.drew.heap.size = w.heap.size := rfl
   rw [← hsz', ← hbk]
   exact .sl _ _ _ _ _ hlt

/-- The elements are written no more: the object goes, and the slice is one of known elements. -/
theorem StRel.freeze {G : Gh} {a : Act} {w : World} (h : StRel d G st a w) {r i k c : Nat} {t : TypeId} {cs xs : List AV} (hr : st.fr r = .sl (st.up.length + i) k xs.length c) (ho : st.own[i]? = some (.cells t cs)) (hnc : xs.length ≤ c)
  (hcs : cs.take (xs.length * k) = flatA xs) (hk : ∀ x ∈ xs, x.cells.length = k) (h1 : ∀ x ∈ xs, ∀ y ∈ x.cells, y.one = true) (hst : ∀ x ∈ xs, ∀ y ∈ x.cells, y.strip = y) :
  ∃ G', StRel d G' { st with fr := setF r (.slice false k xs) st.fr, own := st.own.set i .gone } a w ∧ Keep d G w G' w := by
 let G' : Gh := { G with tag := fun b q => if G.tag b q = .obj (st.up.length + i) then .fix else G.tag b q }
 have hto : (st.up ++ st.own)[st.up.length + i]? = some (.cells t cs) := by rw [get_own]; exact ho
 have hol : st.up.length + i < (st.up ++ st.own).length := (List.getElem?_eq_some_iff.1 hto).1
 have htag : ∀ b q, G.tag b q ≠ .obj (st.up.length + i) → G'.tag b q = G.tag b q := fun b q hb => by simp only [G']; rw [if_neg hb]
 have htagO : ∀ b q, G.tag b q = .obj (st.up.length + i) → G'.tag b q = .fix := fun b q hb => by simp only [G']; rw [if_pos hb]
 have hfix : ∀ b q, G.tag b q = .fix → G'.tag b q = .fix := fun b q hb => by rw [htag b q (by rw [hb]; simp)]; exact hb
 have htail : ∀ b q L, G.tag b q = .tail L → G'.tag b q = .tail L := fun b q L hb => by rw [htag b q (by rw [hb]; simp)]; exact hb
 have hrep : ∀ {l : Option Loc} {y : AV} {u : Value}, Rep G w l y u → Rep G' w l y u := fun hy =>
  hy.mono (G' := G') (fun b q e => ⟨hfix b q e, rfl⟩) (Nat.le_refl _) (fun _ _ => rfl) (fun L _ b q e => htail b q L e)
 have hst' : Still G w G' w := fun b hb => ⟨rfl, hb.1, fun q => by
  rcases hb.2.1 q with e | e
  ·exact .inl (hfix b q e)
  ·exact .inr (by rw [htag b q (by rw [e]; simp)]; exact e), hb.2.2⟩
 obtain ⟨vs, q1, q2, q3, q4⟩ := h.heap.obj _ _ hto
 refine ⟨G', ⟨h.size, fun s => ?_, ⟨fun j x hx => ?_, ?_, h.heap.inj⟩, h.defs, fun q hq => ?_, h.defsNodup, h.defsGe, ⟨fun b q hb => h.tags.ex b q (fun e => ?_), fun b q j hb => ?_, fun b q L hb => ?_, h.tags.globKeep hst'⟩, h.rnd, h.low⟩,
  ⟨fun b q e => ⟨hfix b q e, rfl⟩, fun b q e s _ ht => htail b q _ ht, Nat.le_refl _, fun _ _ => rfl, rfl, rfl, rfl, Nat.le_refl _, hst'⟩⟩
 ·show Rep G' w _ (setF r (.slice false k xs) st.fr s) _
  unfold setF
  by_cases hs : s = r
  ·subst hs
   rw [if_pos rfl]
   have hsl := h.slots s
   rw [hr] at hsl
   generalize a.tmps.getD s undef = v at hsl
   cases hsl with
   | sl l o k n c ho' =>
    refine .slice _ false k xs ⟨G.blk (st.up.length + i), 0, none⟩ _ c (fun q j => vs.getD (q * k + j) undef) rfl rfl hnc hk h1 (fun q x j y hx hy => ?_) (fun q x j y hx hy => ?_) (fun e => by cases e)
    all_goals
     have hfg := flatA_get hk hx hy
     have hlt : q * k + j < xs.length * k := by
      have := (List.getElem?_eq_some_iff.1 hfg).1
      rw [flatA_len hk] at this; exact this
     rw [← hcs, List.getElem?_take_of_lt hlt] at hfg
     have hcl := (List.getElem?_eq_some_iff.1 hfg).1
    ·refine ⟨htagO _ _ (by simpa using q4 _ hcl), ?_⟩
     simp only [Nat.zero_add]
     simp [World.cell?, q1, show q * k + j < vs.size by omega]
    ·have hu := q3 _ y (vs[q * k + j]'(by omega)) hfg (Array.getElem?_eq_getElem (by omega))
     have e1 : vs.getD (q * k + j) undef = vs[q * k + j]'(by omega) := by simp [show q * k + j < vs.size by omega]
     rw [e1]
     have := hrep (hu.strip (l' := none))
     rw [hst x (List.mem_of_getElem? hx) y (List.mem_of_getElem? hy)] at this
     exact this
  ·rw [if_neg hs]
   exact hrep (h.slots s)
 ·have hx' : (st.up ++ st.own.set i .gone)[j]? = some x := hx
  rw [← set_append_own, List.getElem?_set] at hx'
  by_cases hj : st.up.length + i = j
  ·rw [if_pos hj, if_pos hol] at hx'
   injection hx' with hx'
   subst hx'
   subst hj
   exact ⟨vs, t, (0, 0), q1, fun q hq => htagO _ _ (q4 q (by omega))⟩
  ·rw [if_neg hj] at hx'
   exact (h.heap.obj j x hx').free (fun e => hj e.symm) htag rfl rfl
 ·show G.n = (st.up ++ st.own.set i .gone).length
  have := h.heap.n
  simpa using this
 ·show (st.up ++ st.own.set i .gone)[q]? = _
  have h2 := h.defsAt q hq
  rw [← set_append_own, List.getElem?_set]
  by_cases hj : st.up.length + i = q
  ·subst hj; rw [hto] at h2; cases h2
  ·rw [if_neg hj]; exact h2
 ·simp only [G'] at hb
  split at hb
  ·rename_i e'; rw [e] at e'; cases e'
  ·exact hb e
 ·simp only [G'] at hb
  split at hb
  ·cases hb
  ·exact h.tags.obj b q j hb
 ·simp only [G'] at hb
  split at hb
  ·cases hb
  ·exact h.tags.tail b q L hb
end
section
variable {P : Program} {d : Nat} {ops : Array Oper}
theorem ARun.turnSt {l : List Oper} {st st' : St} {Q : St → Prop} (h : ∀ (G : Gh) (a : Act) (w : World), StRel d G st a w → ∃ G', StRel d G' st' a w ∧ Keep d G w G' w) (e1 : st'.up.length = st.up.length) (e2 : st'.rnd = st.rnd) (e3 : st'.sz = st.sz) (hr : ARun P d ops l st' Q) : ARun P d ops l st Q := by
 intro G a w hrel idx hidx
 obtain ⟨G', h1, k⟩ := h G a w hrel
 have := hr G' a w h1 idx hidx
 rw [fr_keep hrel k e2] at this
 exact opsIn_mono (fun e a' w' hp => ⟨hp.1, hp.2.next k e1 e2 e3⟩) _ _ _ this
variable {sz : Nat} {fr : Nat → AV} {up own own' : List AObj} {dfs : List Nat} {rnd : Option Nat} {Q : St → Prop} {rest : List Oper} {s : Nat} {ty : TypeId} {pos : String} {aft : Array Edge}
theorem R.indexAddrSl {t e : TypeId} {x i : Operand} {o k n c : Nat} {q : IntKind} {z : Int} (m : Nat) (ht : P.underlying t = some (.slice e)) (hsz : ∀ w, (Go.sizeOf e).run P w = .ok k w) (hm : m < n) (hr : ARun P d ops rest ⟨sz, setF s (.ptr o (m * k)) fr, up, own, dfs, rnd⟩ Q)
  (hx : frEv fr x = .sl o k n c := by simp only [go_sem, ↓reduceIte, Nat.reduceEqDiff, Nat.reduceAdd] <;> rfl) (hi : frEv fr i = .v (.int q z) := by simp only [go_sem, ↓reduceIte, Nat.reduceEqDiff, Nat.reduceAdd] <;> rfl) (hz : z = (m : Int) := by first | rfl | omega) (hs : Nat.blt s sz = true := by rfl) :
  ARun P d ops (⟨some s, .indexAddr t x i, ty, pos, aft, none⟩ :: rest) ⟨sz, fr, up, own, dfs, rnd⟩ Q :=
 ARun.vv rfl rfl hs (OpV.indexAddrSl ht hsz hm hx (by subst hz; exact hi)) hr
theorem R.buildObj0 {t e : TypeId} {k n : Nat} (ht : P.underlying t = some (.slice e)) (hsz : ∀ w, (Go.sizeOf e).run P w = .ok k w) (hr : ARun P d ops rest ⟨sz, setF s (.sl (oid up.length n) k 0 0) fr, up, own', dfs, rnd⟩ Q)
  (hn : own.length = n := by rfl) (ho : own ++ [.cells e []] = own' := by rfl) (hs : Nat.blt s sz = true := by rfl) :
  ARun P d ops (⟨some s, .buildSlice t 0 #[], ty, pos, aft, none⟩ :: rest) ⟨sz, fr, up, own, dfs, rnd⟩ Q := by
 subst ho
 exact ARun.aop rfl (AOp.buildObj0 (st := ⟨sz, fr, up, own, dfs, rnd⟩) ht hsz hn (by simpa using hs)) hr
theorem R.appendObj {t e : TypeId} {i : TypeInfo} {z : Value} {k o n : Nat} {xr x : Operand} {o2 : Bool} {y : AV} {ys : List AV} (hu : P.underlying t = some (.slice e)) (hi : P.info? e = some i) (hne : ys ≠ []) (hl : ys.length * i.bytes ≤ 140737488355328) (hl2 : ys.length ≤ 4611686018427387904)
  (hr : ∀ c, ys.length ≤ c → ARun P d ops rest ⟨sz, setF s (.sl (oid up.length n) k ys.length c) fr, up, own ++ [.cells e (flatA ys ++ List.replicate ((c - ys.length) * k) .any)], dfs, rnd⟩ Q)
  (hz : i.zero = some z := by rfl) (hsz : i.size = k := by rfl) (hzk : z.cells.size = k := by rfl) (hk : 0 < k := by decide) (hb : frEv fr xr = .sl o k 0 0 := by simp only [go_sem, ↓reduceIte, Nat.reduceEqDiff, Nat.reduceAdd] <;> rfl)
  (hx : frEv fr x = y := by simp only [go_sem, ↓reduceIte, Nat.reduceEqDiff, Nat.reduceAdd] <;> rfl) (hx' : AsSl y o2 k ys := by first | exact .inl rfl | exact .inr ⟨rfl, rfl⟩) (hn : own.length = n := by rfl) (hs : Nat.blt s sz = true := by rfl) :
  ARun P d ops (⟨some s, .call ⟨.builtin .append, #[xr, x], #[t, t]⟩, ty, pos, aft, none⟩ :: rest) ⟨sz, fr, up, own, dfs, rnd⟩ Q := by
 subst hx
 refine ARun.op rfl (AOp.appendObj (st := ⟨sz, fr, up, own, dfs, rnd⟩) hu hi hz hsz rfl hzk hk hb hx' hne hn (by simpa using hs) hl hl2) (fun s' hs' => ?_)
 obtain ⟨c, hc, rfl⟩ := hs'
 exact hr c hc
/-- The elements of the slice in slot r, over object i of ours, are written no more. -/
theorem R.freeze {l : List Oper} (r i : Nat) {k n c : Nat} {t : TypeId} {cs : List AV} (xs : List AV) (hnc : n ≤ c) (hn : n = xs.length) (hcs : cs.take (n * k) = flatA xs) (hk : ∀ x ∈ xs, x.cells.length = k) (h1 : ∀ x ∈ xs, ∀ y ∈ x.cells, y.one = true) (hst : ∀ x ∈ xs, ∀ y ∈ x.cells, y.strip = y)
  (hr : ARun P d ops l ⟨sz, setF r (.slice false k xs) fr, up, own', dfs, rnd⟩ Q) (hf : fr r = .sl (oid up.length i) k n c := by simp only [go_sem, ↓reduceIte, Nat.reduceEqDiff, Nat.reduceAdd] <;> rfl) (ho : own[i]? = some (.cells t cs) := by rfl) (hset : own.set i .gone = own' := by rfl) :
  ARun P d ops l ⟨sz, fr, up, own, dfs, rnd⟩ Q := by
 subst hset
 subst hn
 exact ARun.turnSt (fun G a w h => h.freeze (st := ⟨sz, fr, up, own, dfs, rnd⟩) hf ho hnc hcs hk h1 hst) rfl rfl rfl hr
end
end Go.SX
namespace Go.SX
variable [GI : GlobInv]
open Classical
section
variable {P : Program} {d : Nat} {st : St} {ty : TypeId} {pos : String} {aft : Array Edge} {gd : Option (Nat × Bool)}
end
section
variable {P : Program} {d : Nat} {sz : Nat} {dfs : List Nat} {rnd : Option Nat} {l0 : List Oper} {up own : (Nat → Bool) → List AObj} {E : List Oper → (Nat → AV) → Prop} {S : List SegY} {l : List Oper} {fr : Nat → AV} {ty : TypeId} {pos : String} {aft : Array Edge} {s : Nat} {T F : List Nat}
end
end Go.SX
