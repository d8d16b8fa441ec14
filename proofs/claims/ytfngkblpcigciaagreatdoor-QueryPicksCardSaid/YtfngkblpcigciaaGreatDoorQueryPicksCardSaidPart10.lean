/- Texts on the way to this: QueryPicks answers true for whatever it is handed: the answer has, of each row that the query of all columns tells, just the values of its own columns. (part 10) -/
import Derived.Test.YtfngkblpcigciaaGreatDoorQueryPicksCardSaidPart9
set_option linter.all false
namespace Go.SX.Nb
open Go Go.SX Go.Proofs
variable [ErrAt]
set_option maxRecDepth 4000
/-- What a card says of rows. -/
structure RW (l : List Row) : Prop where
 len : l.length ≤ 1048576
 each : ∀ x ∈ l, x.l.length ≤ 1048576 ∧ ∀ v ∈ x.l, -9223372036854775808 ≤ v.n ∧ v.n ≤ 9223372036854775807
def Jz (l : List Row) : Bool := decide ((60 : Int) < (l.length : Int)) || l.any fun x => Hu x.l
theorem c9 (l : List Row) (Hp : List AObj) : AFun Tryz.prog 9 [Ew l] Hp (Ak (Jz l)) := by
 refine ACall.body [.tmp 2] [0] Tryz.func9 Tryz.ntmps9 (fun d => ?_)
 refine Z88 ?_;refine Z9 ?_;refine Xr ?_;refine R.fin [0, 6] ?_
 refine W.cond (fun ht6 => ?_) (fun ht6 => ?_)
 ·rw [List.length_map] at ht6
  have hm : Jz l = true := by unfold Jz; rw [ht6]; rfl
  refine Z57 ?_;exact Z60
 rw [List.length_map] at ht6
 have hl50 : l.length ≤ 60 := by simp at ht6; omega
 refine Z5 ?_;refine Ua ?_;refine Lk ?_
 refine AW.loopC (α := Nat) (fun x => ⟨19, A6 0 (Ew l) (A6 3 (A4 (x : Nat)) (fun _ => .any)), Hp, [], [], none⟩) (fun x => x ≤ l.length ∧ ∀ (j : Nat) (v : Row), j < x → l[j]? = some v → Hu v.l = false) (fun x => l.length - x) (0) ⟨Nat.zero_le _, fun j v h => by omega⟩ (StLe.of_eq (by simp)) rfl (fun x hx => ?_)
 refine Xw ?_;refine R.fin [0, 3, 10] ?_
 refine W.cond (fun ht10 => ?_) (fun ht10 => ?_)
 ·have hlt : x < l.length := by simpa using ht10
  refine Ud ?_;refine Z29 ?_;refine R.indexAddr (x) (Df l[x]) jU jS (Be hlt) ?_;refine lq ?_;refine R.call Tryz.call18 (c18 l[x].l _) ?_;refine R.fin [0, 3, 18] ?_
  refine W.cond (fun ht18 => ?_) (fun ht18 => ?_)
  ·have hm : Jz l = true := by unfold Jz; rw [Bool.or_eq_true]; exact .inr (List.any_eq_true.2 ⟨l[x], List.getElem_mem hlt, ht18⟩)
   refine Z57 ?_;exact ax
  refine Z17 ?_;refine Z21 ?_;refine R.add64 (h1 := by omega) (h2 := by omega) ?_;refine gj ?_;refine K.lpN (x + 1) ⟨hlt, Da hlt hx.2 ht18⟩ (by omega) ?_;exact StCut.of_eq (by simp)
 have hxe : l.length ≤ x := by simpa using ht10
 have hm : Jz l = false := by
  unfold Jz
  rw [ht6, Bool.false_or, List.any_eq_false]
  intro v hv
  obtain ⟨j, hj⟩ := List.getElem?_of_mem hv
  have := hx.2 j v (by have := (List.getElem?_eq_some_iff.1 hj).1; omega) hj
  rw [this]
  simp
 refine Oe ?_;exact pm

theorem c49 (l : List Val) (hl : l.length ≤ 1048576) (Hp : List AObj) : AFun Tryz.prog 49 [Ev l] Hp (Ev l) := by
 refine ACall.body [.tmp 2] [0] Tryz.func49 Tryz.ntmps49 (fun d => ?_)
 refine Z88 ?_;refine Z9 ?_
 refine R.eqlNil jU (by kernel_rfl) (fun b hb => ?_)
 refine R.fin [0, 4] ?_
 refine W.cond (fun ht4 => ?_) (fun ht4 => ?_)
 ·have hl0 : l = [] := by simpa using hb ht4
  subst hl0
  refine Z3 ?_;refine R.nilTmp 2 3 false ?_;refine Z2 ?_;refine K.thR ?_;exact K.fin (V.one V.tmp) ⟨rfl, rfl⟩
 refine Lj ?_;refine Mk ?_;refine At ?_
 refine R.append jU Tryz.type24 ?_ ?_ ?_
 ·simp [Tryz.t24] <;> omega
 ·simp [Tryz.t24] <;> omega
 refine R.assignT ?_;refine Z2 ?_;exact K.fin (V.one V.tmp) ⟨rfl, rfl⟩

theorem c32 (n : Nat) (e : Expr) (hok : okE n e) (hn : n ≤ 1048576) (c : List Col) (hc : OkCols c) (w : Int) (Hp : List AObj) : AFun Tryz.prog 32 [Ab e, C0 c, A4 w] Hp (Ak (Wo e c w)) := by
 refine ACall.body [.tmp 6] [0, 1, 2] Tryz.func32 Tryz.ntmps32 (fun d => ?_)
 refine Z97 ?_;refine R.fin [1, 2, 3] ?_;refine Z54 ?_;refine At ?_;refine R.call Tryz.call31 (c31 n e hok hn c hc _) ?_;refine Jb ?_;refine R.fin [2, 7, 8] ?_;refine Z0 ?_;refine R.eql ?_;refine Me ?_;refine G.eql ?_;refine G.move ?_;refine G.move ?_;refine G.eql ?_;refine G.pickOr ?_;refine Z32 ?_;refine R.fin [6] ?_;refine AW.ret ?_;exact K.fin (V.one V.tmp) ⟨by unfold Wo; rfl, rfl⟩

theorem c83 (n : Nat) (x : Expr) (hok : okE n x) (hn : n ≤ 1048576) (hrg : Cf F1 x = true) (c : List Col) (hc : OkCols c) (l : List Val) (hll : l.length ≤ 1048576) (hlr : ∀ v ∈ l, -9223372036854775808 ≤ v.n ∧ v.n ≤ 9223372036854775807) (Hp : List AObj) : AFun Tryz.prog 83 [Ab x, C0 c, Ev l] Hp (.tup [Ak (Wp (Fh x c l)), A4 (Pu (Fh x c l))]) := by
 refine ACall.body [.tmp 6, .tmp 7] [0, 1, 2] Tryz.func83 Tryz.ntmps83 (fun d => ?_)
 refine Ue ?_;refine R.fin [1, 2, 3] ?_;refine Z54 ?_;refine Z79 ?_;refine R.call Tryz.call121 (vg n x hok hn hrg c hc l hll hlr _) ?_;refine Xy ?_;refine R.fin [8, 9] ?_;refine Z9 ?_;refine Mf ?_;refine Z71 ?_;refine G.neq ?_;refine U2 ?_;refine Z71 ?_;refine G.neq ?_;refine R.pickAnd ?_;refine R.fin [8, 9, 28] ?_
 refine W.cond (fun ht28 => ?_) (fun ht28 => ?_)
 ·have hm : Pu (Fh x c l) = 10 := if_pos ht28
  refine Xn ?_;refine R.fin [8, 9] ?_;refine K.thN ?_;refine pq ?_;refine D.eql ?_;refine D.move ?_;refine H.loadOwnN jA jS ?_;refine o9 ?_;refine D.pickAnd ?_;refine D.move ?_;refine Xp ?_;refine Z66 ?_;exact oc
 have hm : Pu (Fh x c l) = (Fh x c l).2 := if_neg (by rw [ht28]; simp)
 refine Z5 ?_;refine pq ?_;refine D.eql ?_;refine D.move ?_;refine H.loadOwnN jA jS ?_;refine o9 ?_;refine D.pickAnd ?_;refine D.move ?_;refine Xp ?_;refine Z66 ?_;exact oc

theorem c48 (q : Qry) (h : QW q) (c : List Col) (hc : OkCols c) (l : List Val) (hll : l.length ≤ 1048576) (hlr : ∀ v ∈ l, -9223372036854775808 ≤ v.n ∧ v.n ≤ 9223372036854775807) (Hp : List AObj) : AFun Tryz.prog 48 [J4 q, C0 c, Ev l] Hp (.tup [Ak (Aw q c l).1, A4 (Aw q c l).2]) := by
 refine ACall.body [.tmp 6, .tmp 7] [0, 1, 2] Tryz.func48 Tryz.ntmps48 (fun d => ?_)
 refine Ue ?_;refine R.fin [1, 2, 3] ?_;refine Lh ?_;refine R.call Tryz.call82 (c82 c hc l hll _) ?_;refine R.not ?_;refine R.fin [1, 2, 3, 11] ?_
 refine W.cond (fun ht11 => ?_) (fun ht11 => ?_)
 ·have hm : Aw q c l = (false, 1) := by unfold Aw; rw [if_pos ht11]
  refine Z3 ?_;refine Z66 ?_;exact oi
 refine Z5 ?_;refine Mc ?_;refine R.call Tryz.call30 (c30 q h _) ?_;refine R.not ?_;refine R.fin [1, 2, 3, 14] ?_
 refine W.cond (fun ht14 => ?_) (fun ht14 => ?_)
 ·have hm : Aw q c l = (true, 0) := by unfold Aw; rw [if_neg (by rw [ht11]; simp), if_pos ht14]
  refine Z3 ?_;refine Z66 ?_;exact oi
 have hm : Aw q c l = (Wp (Fh q.whr c l), Pu (Fh q.whr c l)) := by unfold Aw; rw [if_neg (by rw [ht11]; simp), if_neg (by rw [ht14]; simp)]
 refine Lj ?_;refine Z85 ?_;refine Z79 ?_;refine R.call Tryz.call83 (c83 61 q.whr h.ok (by decide) h.rng c hc l hll hlr _) ?_;refine Z8 ?_;refine Z14 ?_;refine R.fin [6, 7] ?_;refine AW.ret ?_;exact qh

def ke (c : List Col) (s : Str) : Bool := decide (B2 s c < 0)
def O3 (p : Str → Bool) (ks : List Str) : Int := if ks.any p then (ks.findIdx p : Int) else -1
theorem en {p : Str → Bool} {ks : List Str} {i : Nat} (h : i < ks.length) (hn : p ks[i] = true) (hp : ∀ (j : Nat) (y : Str), j < i → ks[j]? = some y → ¬ p y = true) : (i : Int) = O3 p ks := by
 unfold O3
 rw [if_pos (List.any_eq_true.2 ⟨_, List.getElem_mem h, hn⟩)]
 congr 1
 refine (List.findIdx_eq h |>.2 ⟨hn, fun j hj => ?_⟩).symm
 have := hp j (ks[j]'(by omega)) hj (List.getElem?_eq_getElem (by omega))
 simpa using this
theorem Vp {p : Str → Bool} {ks : List Str} (hp : ∀ (j : Nat) (y : Str), ks[j]? = some y → ¬ p y = true) : (-1 : Int) = O3 p ks := by
 unfold O3
 rw [if_neg]
 intro h
 obtain ⟨y, hy, hn⟩ := List.any_eq_true.1 h
 obtain ⟨j, hj⟩ := List.getElem?_of_mem hy
 exact hp j y hj hn
theorem Zm (p : Str → Bool) (ks : List Str) : decide (0 ≤ O3 p ks) = ks.any p := by
 unfold O3
 cases ks.any p <;> simp
theorem c28 (c : List Col) (hc : OkCols c) (s : Str) (Hp : List AObj) : AFun Tryz.prog 28 [A8 s, .ro [C0 c]] Hp (Ak (ke c s)) := by
 refine ACall.body [.tmp 3] [0, 1] Tryz.func28 Tryz.ntmps28 (fun d => ?_)
 refine Z87 ?_;refine Qg ?_;refine At ?_;refine R.call Tryz.call29 (c29 c hc s _) ?_;refine R.lss ?_;refine Au ?_;refine R.fin [3] ?_;exact g8

theorem vh (c : List Col) (hc : OkCols c) (ks : List Str) (hkl : ks.length ≤ 1048576) (Hp : List AObj) : AFun Tryz.prog 63 [Gq ks, .fn (.func 28) [] [.ro [C0 c]]] Hp (A4 (O3 (ke c) ks)) := by
 refine ACall.body [.tmp 4] [0, 1] Tryz.func63 Tryz.ntmps63 (fun d => ?_)
 refine Z87 ?_;refine Of ?_;refine R.fin [0, 1, 7, 8] ?_
 refine AW.loopC (α := Nat) (fun x => ⟨19, A6 0 (Gq ks) (A6 1 (.fn (.func 28) [] [.ro [C0 c]]) (A6 7 (A4 ks.length) (A6 8 (A4 (x : Nat)) (fun _ => .any)))), Hp, [], [], none⟩) (fun x => x ≤ ks.length ∧ ∀ (j : Nat) (y : Str), j < x → ks[j]? = some y → ¬ ke c y = true) (fun x => ks.length - x) (0) (by simp) (StLe.of_eq (by simp)) rfl (fun x hx => ?_)
 refine Z89 ?_;refine R.fin [0, 1, 7, 8, 9] ?_
 refine W.condX (fun ht9 => ?_) (fun ht9 => ?_)
 ·have hlt : x < ks.length := by simpa using ht9
  refine Z26 ?_;refine Z64 ?_;refine R.fin [0, 1, 5, 7, 8] ?_;refine Z29 ?_;refine At ?_;refine R.indexAddr (x) (A8 ks[x]) jU jS (Be hlt) ?_;refine Cq ?_;refine R.callV Tryz.call28 (c28 c hc ks[x] _) ?_;refine R.fin [0, 1, 5, 7, 8, 16] ?_
  refine W.cond (fun ht16 => ?_) (fun ht16 => ?_)
  ·refine Z64 ?_;refine Z41 ?_;refine Oa ?_;exact K.fin (V.one V.tmp) ⟨by rw [en hlt ht16 hx.2], rfl⟩
  refine Mi ?_;exact o8
 refine Z55 ?_;refine Uh ?_;exact K.fin (V.one V.tmp) ⟨by rw [Vp (Hb (by simp at ht9; omega) hx.2)], rfl⟩

theorem vi (c : List Col) (hc : OkCols c) (ks : List Str) (hkl : ks.length ≤ 1048576) (Hp : List AObj) : AFun Tryz.prog 27 [Gq ks, .fn (.func 28) [] [.ro [C0 c]]] Hp (Ak (ks.any (ke c))) := by
 refine ACall.body [.tmp 4] [0, 1] Tryz.func27 Tryz.ntmps27 (fun d => ?_)
 refine Z87 ?_;refine Z29 ?_;refine R.call Tryz.call63 (vh c hc ks hkl _) ?_;refine R.geq ?_;refine Au ?_;refine Z41 ?_;exact K.fin (V.one V.tmp) ⟨by rw [← Zm]; try rfl, rfl⟩

theorem c12 (q : Qry) (h : QW q) (c : List Col) (hc : OkCols c) (Hp : List AObj) : AFun Tryz.prog 12 [J4 q, C0 c] Hp (A4 (Bz q c)) := by
 refine ACall.body [.tmp 4] [0, 1] Tryz.func12 Tryz.ntmps12 (fun d => ?_)
 refine Li ?_;refine Z40 ?_;refine Mc ?_;refine R.call Tryz.call25 (c25 q h _) ?_;refine R.not ?_;refine At ?_;refine G.loadRo jA ?_;refine G.call Tryz.call26 (C := (((!(Cj q)) == false))) (fun hB => c26 c hc _) ?_;refine ba ?_;refine R.fin [2, 3, 14] ?_
 refine W.cond (fun ht14 => ?_) (fun ht14 => ?_)
 ·have hm : Bz q c = 1 := if_pos ht14
  exact gn
 refine Z5 ?_;refine Z27 ?_;refine Z51 ?_;refine R.makeFunc ?_;refine R.call Tryz.call27 (vi c hc q.cols h.len _) ?_;refine R.fin [2, 3, 18] ?_
 refine W.cond (fun ht18 => ?_) (fun ht18 => ?_)
 ·have hm : Bz q c = 9 := by unfold Bz; rw [if_neg (by rw [ht14]; simp)]; exact if_pos ht18
  exact gn
 have ht18b : ¬ (q.cols.any fun s => decide (B2 s c < 0)) = true := fun e => Bool.false_ne_true (ht18.symm.trans e)
 refine Z5 ?_;refine Mc ?_;refine R.call Tryz.call30 (c30 q h _) ?_;refine R.not ?_;refine R.fin [2, 3, 21] ?_
 refine W.cond (fun ht21 => ?_) (fun ht21 => ?_)
 ·have hm : Bz q c = 0 := by unfold Bz; rw [if_neg (by rw [ht14]; simp), if_neg ht18b, if_pos ht21]
  exact gn
 have hm0 : Bz q c = if (Gs q.whr c).2 != 0 then (Gs q.whr c).2 else if !Wo q.whr c 3 then 10 else 0 := by unfold Bz; rw [if_neg (by rw [ht14]; simp), if_neg ht18b, if_neg (by rw [ht21]; simp)]
 refine Z5 ?_;refine Z27 ?_;refine Z85 ?_;refine Cq ?_;refine R.call Tryz.call31 (c31 61 q.whr h.ok (by decide) c hc _) ?_;refine Jb ?_;refine R.fin [2, 3, 6] ?_;refine Z0 ?_;refine R.neq ?_;refine R.fin [2, 3, 6, 30] ?_
 refine W.cond (fun ht30 => ?_) (fun ht30 => ?_)
 ·have hm : Bz q c = (Gs q.whr c).2 := by rw [hm0, if_pos ht30]
  refine Z64 ?_;exact nx
 refine Z5 ?_;refine Z27 ?_;refine Z85 ?_;refine Cq ?_;refine R.call Tryz.call32 (c32 61 q.whr h.ok (by decide) c hc 3 _) ?_;refine R.not ?_;refine R.fin [36] ?_
 refine W.cond (fun ht36 => ?_) (fun ht36 => ?_)
 ·have hm : Bz q c = 10 := by rw [hm0, if_neg (by rw [ht30]; simp), if_pos ht36]
  exact gn
 have hm : Bz q c = 0 := by rw [hm0, if_neg (by rw [ht30]; simp), if_neg (by rw [ht36]; simp)]
 refine Z5 ?_;refine Uh ?_;exact K.fin (V.one V.tmp) ⟨by rw [hm] <;> rfl, rfl⟩

abbrev nn (r : Row) : List AV := [A4 r.key, Ev r.l]
theorem RW.at {rows : List Row} (h : RW rows) {k : Nat} (hk : k < rows.length) : rows[k].l.length ≤ 1048576 ∧ ∀ v ∈ rows[k].l, -9223372036854775808 ≤ v.n ∧ v.n ≤ 9223372036854775807 := h.each _ (List.getElem_mem hk)
theorem c19 (q : Qry) (c : List Col) (rows : List Row) (Hp : List AObj) : AFun Tryz.prog 19 [J4 q, C0 c, Ew rows] Hp (.fn (.func 47) [] [.ro [Ew rows], .ro (qoC false q), .ro [C0 c]]) := by
 refine ACall.body [.tmp 6] [0, 1, 2] Tryz.func19 Tryz.ntmps19 (fun d => ?_)
 refine Li ?_;refine R.boxRo ?_;refine Au ?_;refine R.fin [3, 4, 5] ?_;refine Ba ?_;refine R.makeFunc ?_;refine Au ?_;refine R.fin [6] ?_;refine AW.ret ?_;exact K.fin (V.one V.tmp) ⟨rfl, rfl⟩ (hlow := by simp [or_imp, forall_and]; exact fun a _ => Aj _ a)

theorem c47 (l : Nat) (q : Qry) (h : QW q) (c : List Col) (hc : OkCols c) (rows : List Row) (hw : RW rows) (U : Nat → List AObj) (N : Nat → Prop) (Z : List AObj → Prop) (hlen : ∀ k, (U k).length = (U 0).length) (hll : l < (U 0).length)
  (hlw : ∀ k, ∀ x ∈ U k, ObjLow (U 0).length x) (h0 : N 0) (hn : ∀ k y, rows[k]? = some y → N k → (Aw q c y.l).2 = 0 → (Aw q c y.l).1 = false → N (k + 1) ∧ U (k + 1) = U k)
  (he : ∀ k y X, rows[k]? = some y → N k → (Aw q c y.l).2 ≠ 0 → AYield Tryz.prog l [.agg [A4 0, .nil], A4 (Aw q c y.l).2] (U k ++ X) (fun b H' => ∃ V, H' = V ++ X ∧ V.length = (U 0).length ∧ (∀ x ∈ V, ObjLow (U 0).length x) ∧ Z V))
  (hy : ∀ k y X, rows[k]? = some y → N k → (Aw q c y.l).2 = 0 → (Aw q c y.l).1 = true → AYield Tryz.prog l [Df y, A4 0] (U k ++ X) (fun b H' => (b = true ∧ N (k + 1) ∧ H' = U (k + 1) ++ X) ∨ (b = false ∧ ∃ V, H' = V ++ X ∧ V.length = (U 0).length ∧ (∀ x ∈ V, ObjLow (U 0).length x) ∧ Z V)))
  (hR : N rows.length → Z (U rows.length)) : ACall Tryz.prog 47 [.yield l, .ro [Ew rows], .ro (qoC false q), .ro [C0 c]] (U 0) (fun _ H' => Z H') := by
 refine ACall.body [] [0, 1, 2, 3] Tryz.func47 Tryz.ntmps47 (fun d => ?_)
 refine Qg ?_;refine Z70 ?_;refine R.fin [0, 2, 3, 9, 10, 11] ?_
 refine AW.loopC (α := Nat) (fun x => ⟨37, A6 0 (.yield l) (A6 2 (.ro (qoC false q)) (A6 3 (.ro [C0 c]) (A6 9 (Ew rows) (A6 10 (A4 rows.length) (A6 11 (A4 (x : Nat)) (fun _ => .any)))))), U x, [], [], none⟩) (fun x => x ≤ rows.length ∧ N x) (fun x => rows.length - x) (0) ⟨Nat.zero_le _, h0⟩ (StLe.of_eq (by simp)) rfl (fun x hx => ?_)
 refine Z89 ?_;refine R.fin [0, 2, 3, 9, 10, 11, 12] ?_
 refine W.condX (fun ht12 => ?_) (fun ht12 => ?_)
 ·have hlt : x < rows.length := by simpa using ht12
  have hwl := hw.len
  refine Qk ?_;refine R.indexAddr (x) (Df rows[x]) jU jS (Be hlt) ?_;refine Dn ?_;refine Z16 ?_;refine R.fin [0, 2, 3, 6, 9, 10, 11] ?_;refine Z54 ?_;refine Cq ?_;refine R.fieldAddrPtr (fo := 1) jU Tryz.sizeOf44 ?_;refine In ?_;refine R.call Tryz.call48 (c48 q h c hc rows[x].l (hw.at hlt).1 (hw.at hlt).2 _) ?_;refine Jb ?_;refine R.fin [0, 2, 3, 6, 7, 8, 9, 10, 11] ?_;refine Mh ?_;refine R.fin [0, 2, 3, 6, 7, 8, 9, 10, 11, 24] ?_
  refine W.cond (fun ht24 => ?_) (fun ht24 => ?_)
  ·refine Z0 ?_;refine Uk ?_;refine At ?_
   refine R.yield (l := l) (args := [.agg [A4 0, .nil], A4 (Aw q c rows[x].l).2]) (he x rows[x] _ (List.getElem?_eq_getElem hlt) hx.2 (by simpa using ht24)) ?_
   rintro b V O hV ⟨W, h2, h3, h4, h5⟩
   obtain ⟨rfl, rfl⟩ := List.append_inj h2 (by rw [hV, hlen x, h3])
   refine ⟨fun _ => by rw [h3]; exact h4, fun o ho => (by cases ho), ?_⟩
   refine b9 ?_;refine Z84 ?_;exact K.fin .nores (hp := h5)
  refine Jc ?_;refine Z22 ?_;refine G.loadOwnN jA jS ?_
  refine G.yield (l := l) (C := ((Aw q c rows[x].l).1 == true)) (args := [Df rows[x], A4 0]) (fun hC => hy x rows[x] _ (List.getElem?_eq_getElem hlt) hx.2 (by simpa using ht24) (by simpa using hC)) ?_
  intro b V O hV hb hb0
  have hVO : O = [AObj.cells 46 (nn rows[x])] ∧ (((Aw q c rows[x].l).1 = false ∧ N (x + 1) ∧ V = U (x + 1)) ∨ ((Aw q c rows[x].l).1 = true ∧ b = true ∧ N (x + 1) ∧ V = U (x + 1)) ∨ ((Aw q c rows[x].l).1 = true ∧ b = false ∧ V.length = (U 0).length ∧ (∀ y ∈ V, ObjLow (U 0).length y) ∧ Z V)) := by
   cases hcn : (Aw q c rows[x].l).1 with
   | false =>
    obtain ⟨h1, h2⟩ := hb0 (by rw [hcn]; rfl)
    obtain ⟨h3, h4⟩ := hn x _ (List.getElem?_eq_getElem hlt) hx.2 (by simpa using ht24) hcn
    exact ⟨h2, .inl ⟨rfl, h3, h1.trans h4.symm⟩⟩
   | true =>
    rcases hb (by rw [hcn]; rfl) with ⟨h1, h3, h2⟩ | ⟨h1, W, h2, h3, h4, h5⟩
    ·have h6 := List.append_inj h2 (by rw [hV, hlen x, hlen (x + 1)])
     exact ⟨h6.2, .inr (.inl ⟨rfl, h1, h3, h6.1⟩)⟩
    obtain ⟨rfl, rfl⟩ := List.append_inj h2 (by rw [hV, hlen x, h3])
    exact ⟨rfl, .inr (.inr ⟨rfl, h1, h3, h4, h5⟩)⟩
  obtain ⟨rfl, hVO⟩ := hVO
  have hVl : V.length = (U 0).length := by rw [hV, hlen x]
  have hVw : ∀ y ∈ V, ObjLow (U 0).length y := by
   rcases hVO with ⟨_, _, rfl⟩ | ⟨_, _, _, rfl⟩ | ⟨_, _, _, h, _⟩
   ·exact hlw _
   ·exact hlw _
   exact h
  refine ⟨fun _ => by rw [hVl]; exact hVw, fun o ho => (by cases ho), ?_⟩
  refine G.not ?_;refine R.pickAnd ?_;refine R.fin [0, 2, 3, 9, 10, 11, 35] ?_
  refine W.cond (fun ht35 => ?_) (fun ht35 => ?_)
  ·have hRV : Z V := by
    rcases hVO with ⟨h1, _⟩ | ⟨h1, h2, _⟩ | ⟨_, _, _, _, h5⟩
    ·rw [h1] at ht35; simp at ht35
    ·rw [h1, h2] at ht35; simp at ht35
    exact h5
   refine Z59 ?_;refine K.lpR ?_;exact K.fin .nores (hp := hRV)
  have hVn : N (x + 1) ∧ V = U (x + 1) := by
   rcases hVO with ⟨_, h2, h3⟩ | ⟨_, _, h2, h3⟩ | ⟨h1, h2, _⟩
   ·exact ⟨h2, h3⟩
   ·exact ⟨h2, h3⟩
   rw [h1, h2] at ht35; simp at ht35
  obtain ⟨hN, rfl⟩ := hVn
  refine Mi ?_;refine R.fin [0, 2, 3, 9, 10, 11] ?_;refine K.lpN (x + 1) ⟨hlt, hN⟩ (by omega) ?_
  exact StCut.take (own := []) (fun _ => .refl _) (by repeat (first | exact B6 | refine B5 (by first | (simp [or_imp, forall_and]; done) | (simp [or_imp, forall_and]; exact fun a _ => Aj _ a) | (have := hlen (x + 1); simp; omega)) ?_)) (by simp) (by simp)
 have hxe : x = rows.length := by have := hx.1; simp at ht12; omega
 refine K.lpE ?_;exact K.finN .nores (hp := by rw [hxe]; exact hR (hxe ▸ hx.2))

def Hv (c : List Col) (x : Row) (s : Str) : Val := x.l.getD (B2 s c).toNat noV
theorem eo {q : Qry} {c : List Col} {x : Row} (h : q.all = true) : Ex q c x = x := by unfold Ex; rw [h]; rfl
theorem Ko {q : Qry} {c : List Col} {x : Row} (h : q.all = false) : Ex q c x = ⟨x.key, q.cols.map (Hv c x)⟩ := by unfold Ex; rw [h]; rfl
theorem Wy {c : List Col} {s : Str} (h : ¬ B2 s c < 0) : ∃ j : Nat, B2 s c = (j : Int) ∧ j < c.length := O2 h
theorem c20 (q : Qry) (h : QW q) (c : List Col) (hc : OkCols c) (x : Row) (hx : x.l.length ≤ 1048576) (hr : c.length = x.l.length) (hn : ∀ s ∈ q.cols, ¬ B2 s c < 0) (Hp : List AObj) : AFun Tryz.prog 20 [J4 q, C0 c, Df x] Hp (Df (Ex q c x)) := by
 refine ACall.body [.cell 6 46] [0, 1, 2] Tryz.func20 Tryz.ntmps20 (fun d => ?_)
 refine Li ?_;refine R.alloc jZ ?_;refine R.fin [1, 3, 5, 6] ?_;refine Ba ?_;refine R.fieldAddrRo (off := 0) jU Tryz.sizeOf2 ?_;refine Cq ?_;refine Uk ?_;refine Z16 ?_;refine R.fin [1, 3, 5, 6, 7] ?_;refine Z27 ?_;refine ls ?_;refine R.fin [1, 3, 5, 6, 7, 14] ?_
 refine W.cond (fun ht14 => ?_) (fun ht14 => ?_)
 ·refine Ba ?_;refine lq ?_;refine R.call Tryz.call49 (c49 x.l hx _) ?_;refine R.fieldAddrPtr (fo := 1) jU Tryz.sizeOf44 ?_;refine ge ?_;refine Z31 ?_;refine fl ?_;refine Z11 ?_;exact K.fin (V.one (V.cellN jA jS)) ⟨by rw [eo ht14], rfl⟩ (hlow := by simp [or_imp, forall_and])
 refine Z5 ?_;refine Z27 ?_;refine R.nilCell 1 1 3 ?_;refine Z51 ?_;refine Z70 ?_;refine R.fin [1, 5, 6, 7, 21, 22, 23] ?_
 refine AW.loopC (α := Nat) (fun i => ⟨41, A6 1 (C0 c) (A6 5 (.ro (nn x)) (A6 6 (.ptr (oid Hp.length 0) 0) (A6 7 (.ptr (oid Hp.length 1) 0) (A6 21 (Gq q.cols) (A6 22 (A4 (q.cols.length : Nat)) (A6 23 (A4 (i : Nat)) (fun _ => .any))))))), Hp, [.cells 46 [A4 0, .nil], .cells 46 [A4 x.key, .slice true 3 (((q.cols.take i).map (Hv c x)).map Bh)]], [], none⟩) (fun i => i ≤ q.cols.length) (fun i => q.cols.length - i) (0) (Nat.zero_le _) (StLe.of_eq (by simp)) rfl (fun i hi => ?_)
 refine Z89 ?_;refine R.fin [1, 5, 6, 7, 21, 22, 23, 24] ?_
 refine W.condX (fun ht24 => ?_) (fun ht24 => ?_)
 ·have hlt : i < q.cols.length := by simpa using ht24
  have hkl := h.len
  obtain ⟨j, hj, hjc⟩ := Wy (hn _ (List.getElem_mem hlt))
  have hk : 0 ≤ B2 q.cols[i] c ∧ (B2 q.cols[i] c).toNat < x.l.length := by omega
  have hget : (x.l.map Bh)[(B2 q.cols[i] c).toNat]? = some (Bh (Hv c x q.cols[i])) := by
   rw [List.getElem?_map, List.getElem?_eq_getElem hk.2]
   unfold Hv
   rw [List.getD_eq_getElem?_getD, List.getElem?_eq_getElem hk.2]
   rfl
  refine Qk ?_;refine R.indexAddr (i) (A8 q.cols[i]) jU jS (Be hlt) ?_;refine Cq ?_;refine Au ?_;refine R.fin [1, 5, 6, 7, 9, 21, 22, 23] ?_;refine W.drawY0 [0, 1, 0, 4, 0, 0, 48, 124, 252, 508, 1023, 2047, 4095] [1] [.q 1 [] [0], .s [28] (some 0) [] [], .q 8 [] []] (fun _ => Hp) (fun B => [.cells 46 [A4 0, .nil], .cells 46 (if B 0 = true then [A4 x.key, .slice false 3 (((q.cols.take i).map (Hv c x)).map Bh)] else [A4 x.key, .slice true 3 (((q.cols.take i).map (Hv c x)).map Bh)])]) Ae (by kernel_rfl) rfl rfl (fun _ => rfl) ?_
  apply Y.q
  case h1 =>
   intro B hT hF
   refine D.fieldAddrPtr (fo := 1) jU Tryz.sizeOf44 ?_;exact Jd
  case hTF => decide
  refine Y.loadOwnT (u := Hp.length) (n := 1) (t' := 46) (cs := [A4 x.key, .slice true 3 (((q.cols.take i).map (Hv c x)).map Bh)]) (cs' := [A4 x.key, .slice false 3 (((q.cols.take i).map (Hv c x)).map Bh)]) Tryz.isAgg44 (fun B hB => ⟨rfl, by simp only [hB]; rfl, by simp [upd], rfl⟩) ?_
  apply Y.q
  case h1 =>
   intro B hT hF
   refine D.fieldAddrRo (off := 1) jU Tryz.sizeOf44 ?_;refine Fs ?_;refine Xo ?_;refine D.call Tryz.call29 (c29 c hc q.cols[i] _) ?_;refine D.indexAddr ((B2 q.cols[i] c).toNat) (Bh (Hv c x q.cols[i])) jU jS hget ?_;refine I9 ?_;exact Z94
  case hTF => decide
  refine Y.tail (tn := [1]) (O := [.cells 46 [A4 0, .nil], .cells 46 [A4 x.key, .slice false 3 (((q.cols.take i).map (Hv c x)).map Bh)]]) ?_
  refine R.append jU Tryz.type24 ?_ ?_ ?_
  ·simp only [List.length_map, List.length_take, List.length_cons, List.length_nil, Tryz.t24]; omega
  ·simp only [List.length_map, List.length_take, List.length_cons, List.length_nil, Tryz.t24]; omega
  refine R.fieldAddrPtr (fo := 1) jU Tryz.sizeOf44 ?_;refine R.storeOwnT jS ?_;refine R.fin [1, 5, 6, 7, 21, 22, 23] ?_;refine U8 ?_;refine R.fin [1, 5, 6, 7, 21, 22, 23] ?_;refine K.lpN (i + 1) hlt (by omega) ?_;exact StCut.of_eq (by rw [dd hlt, List.map_append]; rfl)
 have hxe : q.cols.length ≤ i := by simpa using ht24
 refine Z55 ?_;refine Z31 ?_;refine Xv ?_;exact K.fin (V.one (V.cellN jA jS)) ⟨by rw [Ko ht14, List.take_of_length_le hxe], rfl⟩ (hlow := by simp [or_imp, forall_and]; intro y hy; obtain ⟨s, _, rfl⟩ := List.mem_map.1 (List.mem_of_mem_take hy); simp [or_imp, forall_and])

def D9 (q : Qry) (c : List Col) (rows : List Row) (k : Nat) : List Row := ((rows.take k).filter fun x => (Aw q c x.l).1).map (Ex q c)
theorem Kp {q : Qry} {c : List Col} {rows : List Row} {k : Nat} {y : Row} (hk : rows[k]? = some y) (hf : (Aw q c y.l).1 = false) : D9 q c rows (k + 1) = D9 q c rows k := by
 unfold D9
 rw [List.take_succ, hk, List.filter_append]
 simp [List.filter_cons, hf]
theorem K0 {q : Qry} {c : List Col} {rows : List Row} {k : Nat} {y : Row} (hk : rows[k]? = some y) (hf : (Aw q c y.l).1 = true) : D9 q c rows (k + 1) = D9 q c rows k ++ [Ex q c y] := by
 unfold D9
 rw [List.take_succ, hk, List.filter_append]
 simp [List.filter_cons, hf]
theorem O4 (q : Qry) (c : List Col) (rows : List Row) (k : Nat) : (D9 q c rows k).length ≤ rows.length := by
 unfold D9
 rw [List.length_map]
 exact Nat.le_trans (List.length_filter_le _ _) (by rw [List.length_take]; omega)
def NK (q : Qry) (c : List Col) (rows : List Row) (k : Nat) : Prop := Ec q c rows [] = Ec q c (rows.drop k) (D9 q c rows k)
theorem K1 {rows : List Row} {k : Nat} {y : Row} (hk : rows[k]? = some y) : rows.drop k = y :: rows.drop (k + 1) := by
 obtain ⟨h1, h2⟩ := List.getElem?_eq_some_iff.1 hk
 rw [List.drop_eq_getElem_cons h1, h2]
theorem kg {q : Qry} {c : List Col} {rows : List Row} {k : Nat} {y : Row} (hk : rows[k]? = some y) (hN : NK q c rows k) (he : (Aw q c y.l).2 ≠ 0) : Ec q c rows [] = ([], (Aw q c y.l).2) := by
 rw [hN, K1 hk, Ec, if_pos (by simpa using he)]
theorem er {q : Qry} {c : List Col} {rows : List Row} {k : Nat} {y : Row} (hk : rows[k]? = some y) (hN : NK q c rows k) (he : (Aw q c y.l).2 = 0) (hf : (Aw q c y.l).1 = false) : NK q c rows (k + 1) := by
 unfold NK
 rw [hN, K1 hk, Ec, if_neg (by rw [he]; simp), if_neg (by rw [hf]; simp), Kp hk hf]
theorem np {q : Qry} {c : List Col} {rows : List Row} {k : Nat} {y : Row} (hk : rows[k]? = some y) (hN : NK q c rows k) (he : (Aw q c y.l).2 = 0) (hf : (Aw q c y.l).1 = true) (hl : (((D9 q c rows k).length + 1 : Nat) : Int) ≠ q.lim) : NK q c rows (k + 1) := by
 unfold NK
 rw [hN, K1 hk, Ec, if_neg (by rw [he]; simp), if_pos hf, if_neg (by simpa using hl), K0 hk hf]
theorem ki {q : Qry} {c : List Col} {rows : List Row} {k : Nat} {y : Row} (hk : rows[k]? = some y) (hN : NK q c rows k) (he : (Aw q c y.l).2 = 0) (hf : (Aw q c y.l).1 = true) (hl : (((D9 q c rows k).length + 1 : Nat) : Int) = q.lim) : Ec q c rows [] = (D9 q c rows (k + 1), 0) := by
 rw [hN, K1 hk, Ec, if_neg (by rw [he]; simp), if_pos hf, if_pos (by simpa using hl), K0 hk hf]
theorem kj {q : Qry} {c : List Col} {rows : List Row} (hN : NK q c rows rows.length) : Ec q c rows [] = (D9 q c rows rows.length, 0) := by
 rw [hN, List.drop_length, Ec]
theorem s8 {q : Qry} {c : List Col} {rows : List Row} : NK q c rows 0 := rfl
theorem Zn {n k : Nat} {o : Bool} {l : List Row} : Low n (.slice o k (l.map Df)) := by simp [or_imp, forall_and]
theorem low1 {n : Nat} {x : AV} (h : Low n x) : ∀ y ∈ [x], Low n y := fun y hy => by rw [List.mem_singleton.1 hy]; exact h
theorem Zo {n k : Nat} {o : Bool} {l : List Row} {r : Row} : Low n (.slice o k (l.map Df ++ [Df r])) := by simp [or_imp, forall_and]
theorem vj {U : List AObj} {i j : Nat} {x y : AObj} (h : U[i]? = some x) (hne : j ≠ i) : (U.set j y)[i]? = some x := by rw [List.getElem?_set_ne hne]; exact h
theorem km {q : Qry} {c : List Col} {l : List Val} (h : (Aw q c l).2 = 0) : c.length = l.length := by
 have h1 := Pv (q := q) (c := c) (l := l) (by rw [h]; rfl)
 unfold G9 at h1
 simp only [Bool.and_eq_true, beq_iff_eq] at h1
 exact h1.1.2.symm
theorem Vq {q : Qry} {c : List Col} (h : Bz q c = 0) : ∀ s ∈ q.cols, ¬ B2 s c < 0 := by
 intro s hs hf
 unfold Bz at h
 split at h
 ·cases h
 rw [if_pos (List.any_eq_true.2 ⟨s, hs, by simpa using hf⟩)] at h
 cases h
theorem kn {q : Qry} {c : List Col} {rows : List Row} (h : ((Bz q c != 0) || (q.lim == 0)) = true) : C3 q c rows = ([], Bz q c) := if_pos h
theorem ko {q : Qry} {c : List Col} {rows : List Row} (h : ((Bz q c != 0) || (q.lim == 0)) = false) : Bz q c = 0 ∧ C3 q c rows = Ec q c rows [] := by
 refine ⟨?_, if_neg (by rw [h]; simp)⟩
 simp only [Bool.or_eq_false_iff, bne_eq_false_iff_eq] at h
 exact h.1
theorem c10 (q : Qry) (h : QW q) (c : List Col) (hc : OkCols c) (rows : List Row) (hw : RW rows) (Hp : List AObj) : AFun Tryz.prog 10 [J4 q, C0 c, Ew rows] Hp (.tup [Ew (C3 q c rows).1, A4 (C3 q c rows).2]) := by
 refine ACall.body [.cell 6 31, .cell 7 36] [0, 1, 2, 10, 11] Tryz.func10 Tryz.ntmps10 (fun d => ?_)
 refine Li ?_;refine R.alloc jZ ?_;refine R.alloc jZ ?_;refine R.fin [2, 3, 4, 6, 7, 10, 11] ?_;refine Mc ?_;refine Cq ?_;refine R.call Tryz.call12 (c12 q h c hc _) ?_;refine Au ?_;refine R.fin [2, 3, 4, 6, 7, 8, 10, 11] ?_;refine Z0 ?_;refine R.neq ?_;refine At ?_;refine lv ?_;refine b7 ?_;refine R.fin [2, 3, 4, 6, 7, 8, 10, 11, 21] ?_
 refine W.cond (fun ht21 => ?_) (fun ht21 => ?_)
 ·have hm := kn (rows := rows) ht21
  refine Z0 ?_;refine Do ?_;refine R.nilOwn 0 2 ?_;refine ge ?_;refine Z11 ?_;exact K.fin (V.two (V.cell jA) (V.cell jA)) ⟨by rw [hm]; rfl, rfl⟩
 have hy := ko (rows := rows) ht21
 refine Z5 ?_;refine Z30 ?_;refine R.fin [2, 3, 4, 6, 7, 9, 10, 11] ?_;refine Z27 ?_;refine R.nilOwn 2 2 ?_
 refine R.assumeLow (fun hlow => ?_)
 refine Dn ?_;refine Cq ?_;refine At ?_;refine R.call Tryz.call19 (c19 q c rows _) ?_;refine R.fin [3, 4, 6, 7, 9, 10, 11, 26] ?_;refine Eq ?_
 refine W.rangeV (m := 3) Tryz.call47 (fun FR as' bd' hFR has hbd => ?_)
 have hFRl : ∀ s, Low (Hp.length + 5) (FR s) := by
  intro s
  rw [hFR]
  refine Low.strip ?_
  revert s
  repeat (first | exact B6 | refine B5 (by first | (simp [oid, or_imp, forall_and]; done) | (simp [oid, or_imp, forall_and] <;> (first | exact fun a _ => Aj _ a | omega))) ?_)
 have hOl : ∀ {e : Int} {o : List Row} {lp : AObj}, ObjLow (Hp.length + 5) lp → ∀ x ∈ Hp ++ [AObj.cells 31 [AV.nil], AObj.cells 36 [A4 e], AObj.cells 31 [AV.slice true 2 ((o).map Df)], AObj.defs, lp], ObjLow (Hp.length + 5) x := by
  intro e o lp hlp x hx
  refine Jj (fun x hx => ObjLow.le (by omega) (hlow x hx)) (fun x hx => ?_) x hx
  simp only [List.mem_cons, List.mem_nil_iff, or_false] at hx
  rcases hx with rfl | rfl | rfl | rfl | rfl
  ·intro y hy; rw [List.mem_singleton.1 hy]; simp
  ·intro y hy; rw [List.mem_singleton.1 hy]; simp
  ·intro y hy; rw [List.mem_singleton.1 hy]; exact Zn
  ·trivial
  exact hlp
 have hwy : ∀ {k : Nat} {y : Row}, rows[k]? = some y → y.l.length ≤ 1048576 ∧ ∀ v ∈ y.l, -9223372036854775808 ≤ v.n ∧ v.n ≤ 9223372036854775807 := fun hk => hw.each _ (List.mem_of_getElem? hk)
 refine ⟨_, c47 (oid Hp.length 4) q h c hc rows hw (fun k => Hp ++ [AObj.cells 31 [AV.nil], AObj.cells 36 [A4 0], AObj.cells 31 [AV.slice true 2 ((D9 q c rows k).map Df)], AObj.defs, AObj.loop LoopState.ready none FR 45 #[27, 28] as' bd' (oid Hp.length 3)]) (NK q c rows) (fun V => (∃ o lp, V = Hp ++ [AObj.cells 31 [AV.nil], AObj.cells 36 [A4 0], AObj.cells 31 [AV.slice true 2 ((o).map Df)], AObj.defs, lp] ∧ (lp = AObj.loop LoopState.ready none FR 45 #[27, 28] as' bd' (oid Hp.length 3) ∨ lp = AObj.loop LoopState.done (some (Code.exit 0)) FR 45 #[27, 28] as' bd' (oid Hp.length 3)) ∧ Ec q c rows [] = (o, 0)) ∨ (∃ e k, V = Hp ++ [AObj.cells 31 [AV.nil], AObj.cells 36 [A4 e], AObj.cells 31 [AV.slice true 2 ((D9 q c rows k).map Df)], AObj.defs, AObj.loop LoopState.done (some Code.ret) FR 45 #[27, 28] as' bd' (oid Hp.length 3)] ∧ Ec q c rows [] = ([], e))) (fun k => by simp) (by simp [oid]) (fun k => (fun x hx => by rw [List.length_append]; exact hOl (lp := AObj.loop LoopState.ready none FR 45 #[27, 28] as' bd' (oid Hp.length 3)) (by exact ⟨hFRl, by simp [oid]⟩) x hx)) s8 (fun k y hk hN he0 hf => ⟨er hk hN he0 hf, by simp only [Kp hk hf]⟩) (fun k y X hk hN hne => ?_) (fun k y X hk hN he0 hf => ?_) (fun hN => .inl ⟨_, _, rfl, .inl rfl, kj hN⟩), ?_⟩
 ·generalize hV : Hp ++ [AObj.cells 31 [AV.nil], AObj.cells 36 [A4 0], AObj.cells 31 [AV.slice true 2 ((D9 q c rows k).map Df)], AObj.defs, AObj.loop LoopState.ready none FR 45 #[27, 28] as' bd' (oid Hp.length 3)] ++ X = V
  have hL : V[oid Hp.length 4]? = some (AObj.loop LoopState.ready none FR 45 #[27, 28] as' bd' (oid Hp.length 3)) := by rw [← hV, List.append_assoc, Am]; rfl
  have hA0 : V[oid Hp.length 2]? = some (AObj.cells 31 [AV.slice true 2 ((D9 q c rows k).map Df)]) := by rw [← hV, List.append_assoc, Am]; rfl
  have hB0 : V[oid Hp.length 0]? = some (AObj.cells 31 [AV.nil]) := by rw [← hV, List.append_assoc, Am]; rfl
  have hC0 : V[oid Hp.length 1]? = some (AObj.cells 36 [A4 0]) := by rw [← hV, List.append_assoc, Am]; rfl
  refine AYield.ofRound (pd := none) (fr := FR) (sz := 45) (ps := #[27, 28]) (df := oid Hp.length 3) (asg := as') (bd := bd') hL rfl (by decide) (fun d => ?_)
  subst hFR has hbd
  refine W.keep [3, 4, 6, 7, 9, 27, 28] ?_;refine U6 ?_;refine R.fin [3, 4, 6, 7, 9, 10, 28] ?_;refine Xn ?_;refine R.fin [3, 4, 6, 7, 9, 10, 11] ?_
  refine ⟨rfl, none, hL, ?_⟩
  generalize hbz : (AObj.loop LoopState.busy _ _ _ _ _ _ _) = bz
  have hA : (V.set (oid Hp.length 4) bz)[oid Hp.length 2]? = some (AObj.cells 31 [AV.slice true 2 ((D9 q c rows k).map Df)]) := by rw [List.getElem?_set_ne (Bq (by decide))]; exact hA0
  have hB : (V.set (oid Hp.length 4) bz)[oid Hp.length 0]? = some (AObj.cells 31 [AV.nil]) := by rw [List.getElem?_set_ne (Bq (by decide))]; exact hB0
  have hC : (V.set (oid Hp.length 4) bz)[oid Hp.length 1]? = some (AObj.cells 36 [A4 0]) := by rw [List.getElem?_set_ne (Bq (by decide))]; exact hC0
  refine Eq ?_;refine Mh ?_;refine R.fin [3, 4, 6, 7, 9, 10, 11, 30] ?_
  refine W.cond (fun ht30 => ?_) (fun ht30 => ?_)
  ·refine Z0 ?_
   refine R.storeUp jS hB ?_ ?_
   ·simp
   refine R.storeUp jS (vj hC (Bq (by decide))) ?_ ?_
   ·simp
   refine b9 ?_;refine K.blR ?_
   subst hbz
   refine K.rdR (Ro hL (Bq (by decide)) (Bq (by decide))) ?_
   refine ⟨Hp ++ [AObj.cells 31 [AV.nil], AObj.cells 36 [A4 (Aw q c y.l).2], AObj.cells 31 [AV.slice true 2 ((D9 q c rows k).map Df)], AObj.defs, _], ?_, by simp, (fun x hx => by rw [List.length_append]; exact hOl (lp := _) (by exact ⟨hFRl, by simp [oid]⟩) x hx), .inr ⟨_, _, rfl, kg hk hN hne⟩⟩
   subst hV
   simp only [List.append_assoc, Ck, List.cons_append, List.nil_append, List.set_cons_succ, List.set_cons_zero]
  exact absurd hne (by simpa using ht30)
 ·generalize hV : Hp ++ [AObj.cells 31 [AV.nil], AObj.cells 36 [A4 0], AObj.cells 31 [AV.slice true 2 ((D9 q c rows k).map Df)], AObj.defs, AObj.loop LoopState.ready none FR 45 #[27, 28] as' bd' (oid Hp.length 3)] ++ X = V
  have hL : V[oid Hp.length 4]? = some (AObj.loop LoopState.ready none FR 45 #[27, 28] as' bd' (oid Hp.length 3)) := by rw [← hV, List.append_assoc, Am]; rfl
  have hA0 : V[oid Hp.length 2]? = some (AObj.cells 31 [AV.slice true 2 ((D9 q c rows k).map Df)]) := by rw [← hV, List.append_assoc, Am]; rfl
  have hB0 : V[oid Hp.length 0]? = some (AObj.cells 31 [AV.nil]) := by rw [← hV, List.append_assoc, Am]; rfl
  have hC0 : V[oid Hp.length 1]? = some (AObj.cells 36 [A4 0]) := by rw [← hV, List.append_assoc, Am]; rfl
  refine AYield.ofRound (pd := none) (fr := FR) (sz := 45) (ps := #[27, 28]) (df := oid Hp.length 3) (asg := as') (bd := bd') hL rfl (by decide) (fun d => ?_)
  subst hFR has hbd
  refine W.keep [3, 4, 6, 7, 9, 27, 28] ?_;refine U6 ?_;refine R.fin [3, 4, 6, 7, 9, 10, 28] ?_;refine Xn ?_;refine R.fin [3, 4, 6, 7, 9, 10, 11] ?_
  refine ⟨rfl, none, hL, ?_⟩
  generalize hbz : (AObj.loop LoopState.busy _ _ _ _ _ _ _) = bz
  have hA : (V.set (oid Hp.length 4) bz)[oid Hp.length 2]? = some (AObj.cells 31 [AV.slice true 2 ((D9 q c rows k).map Df)]) := by rw [List.getElem?_set_ne (Bq (by decide))]; exact hA0
  have hB : (V.set (oid Hp.length 4) bz)[oid Hp.length 0]? = some (AObj.cells 31 [AV.nil]) := by rw [List.getElem?_set_ne (Bq (by decide))]; exact hB0
  have hC : (V.set (oid Hp.length 4) bz)[oid Hp.length 1]? = some (AObj.cells 36 [A4 0]) := by rw [List.getElem?_set_ne (Bq (by decide))]; exact hC0
  refine Eq ?_;refine Mh ?_;refine R.fin [3, 4, 6, 7, 9, 10, 11, 30] ?_
  refine W.cond (fun ht30 => ?_) (fun ht30 => ?_)
  ·simp at ht30
  refine Z5 ?_;refine W.drawY [0, 0, 0, 0, 14, 30, 63, 127] [0] [.s [32] (some 0) [] [], .q 5 [] []] (fun B => (V.set (oid Hp.length 4) bz).set (oid Hp.length 2) (if B 0 = true then .cells 31 [AV.slice false 2 ((D9 q c rows k).map Df)] else .cells 31 [AV.slice true 2 ((D9 q c rows k).map Df)])) (fun _ => [AObj.cells 46 (nn y)]) Ae (by kernel_rfl) (B4 hA) rfl (fun B => by simp) ?_
  refine Y.loadUpT (o := oid Hp.length 2) (t' := 31) (cs := [AV.slice true 2 ((D9 q c rows k).map Df)]) (cs' := [AV.slice false 2 ((D9 q c rows k).map Df)]) Tryz.isAgg31 (fun B hB => ⟨by simp only [hB]; exact Ad hA, (List.set_set ..).symm, rfl⟩) ?_
  apply Y.q
  case h1 =>
   intro B hT hF
   refine I9 ?_;refine Fs ?_;refine D.loadOwnN jA jS ?_;refine D.call Tryz.call20 (c20 q h c hc y (hwy hk).1 (km he0) (Vq hy.1) _) ?_;exact Z94
  case hTF => decide
  refine Y.tail (tn := [0]) (U := (V.set (oid Hp.length 4) bz).set (oid Hp.length 2) (.cells 31 [AV.slice false 2 ((D9 q c rows k).map Df)])) ?_
  refine R.append jU Tryz.type46 ?_ ?_ ?_
  ·have hwl := hw.len; have := O4 q c rows k; simp [Tryz.t46]; omega
  ·have hwl := hw.len; have := O4 q c rows k; simp [Tryz.t46]; omega
  refine R.storeUpT jS (Ad hA) ?_ ?_
  ·exact Zo
  refine R.fin [3, 9] ?_;refine Ba ?_;refine R.loadUp jA (Ad (Ad hA)) ?_;refine R.len jU ?_;refine fu ?_;refine R.eql ?_;refine R.fin [43] ?_
  refine W.cond (fun ht43 => ?_) (fun ht43 => ?_)
  ·refine AW.exit ?_;refine K.blO (by decide) ?_
   subst hbz
   refine K.rdE (Ro hL (Bq (by decide)) (Bq (by decide))) ?_
   refine .inr ⟨rfl, Hp ++ [AObj.cells 31 [AV.nil], AObj.cells 36 [A4 0], AObj.cells 31 [AV.slice true 2 ((D9 q c rows (k + 1)).map Df)], AObj.defs, _], ?_, by simp, (fun x hx => by rw [List.length_append]; exact hOl (lp := _) (by exact ⟨hFRl, by simp [oid]⟩) x hx), .inl ⟨_, _, rfl, .inr rfl, ki hk hN he0 hf (by simpa using ht43)⟩⟩
   subst hV
   simp only [List.append_assoc, Ck, List.cons_append, List.nil_append, List.set_cons_succ, List.set_cons_zero]
   rw [K0 hk hf, List.map_append]
   rfl
  refine AW.skip ?_;refine K.blN ?_
  subst hbz
  refine K.rdN (Ro hL (Bq (by decide)) (Bq (by decide))) ?_
  refine .inl ⟨rfl, np hk hN he0 hf (by simpa using ht43), ?_⟩
  subst hV
  simp only [List.append_assoc, Ck, List.cons_append, List.nil_append, List.set_cons_succ, List.set_cons_zero]
  rw [K0 hk hf, List.map_append]
  rfl
 rintro r H' (⟨o, lp, rfl, rfl | rfl, hrun⟩ | ⟨e, k, rfl, hrun⟩)
 ·refine ⟨Hp, _, _, _, rfl, rfl, fun h => h, ?_, rfl, by simp, ?_⟩
  ·intro o ho
   have : o = oid Hp.length 3 := by simpa using ho
   subst this
   rw [Am]
   rfl
  refine Z13 ?_;refine au ?_;refine Do ?_;refine ge ?_;exact o6
 ·refine ⟨Hp, _, _, _, rfl, rfl, fun h => h, ?_, rfl, by simp, ?_⟩
  ·intro o ho
   have : o = oid Hp.length 3 := by simpa using ho
   subst this
   rw [Am]
   rfl
  refine AW.exit ?_;refine K.blE ?_;refine K.thN ?_;refine au ?_;refine Do ?_;refine ge ?_;exact o6
 refine ⟨Hp, _, _, _, rfl, rfl, fun h => h, ?_, rfl, by simp, ?_⟩
 ·intro o ho
  have : o = oid Hp.length 3 := by simpa using ho
  subst this
  rw [Am]
  rfl
 refine W.nilOwn 0 2 ?_;refine Z59 ?_;exact K.fin (V.two (V.cell jA) (V.cell jA)) ⟨by rw [hy.2, hrun]; rfl, rfl⟩

/-- The last column of a name among the first ones. -/
def Gv (c : List Col) (s : Str) : Nat → Int
 | 0 => -1
 | j + 1 => if (c.getD j ⟨[], 0⟩).name == s then (j : Int) else Gv c s j
theorem Wz {c : List Col} {s : Str} (h : Fd c = true) : ∀ j, j ≤ c.length → (Gv c s j = -1 ∧ ∀ (i : Nat) (y : Col), i < j → c[i]? = some y → y.name ≠ s) ∨ Gv c s j = B2 s c
 | 0, _ => .inl ⟨rfl, fun i y hi => by omega⟩
 | j + 1, hj => by
  have hg : c[j]? = some c[j] := List.getElem?_eq_getElem (by omega)
  have hd : c.getD j ⟨[], 0⟩ = c[j] := by rw [List.getD_eq_getElem?_getD, hg]; rfl
  unfold Gv
  rw [hd]
  by_cases hn : c[j].name = s
  ·right
   have h1 := colsP_true.1 h j _ hg
   unfold Is at h1
   simp only [Bool.not_eq_true', Bool.or_eq_false_iff, bne_eq_false_iff_eq] at h1
   rw [hn] at h1
   simp [hn, h1.2]
  rcases Wz (s := s) h j (by omega) with ⟨h1, h2⟩ | h1
  ·left
   refine ⟨by simp [hn, h1], fun i y hi hy => ?_⟩
   by_cases he : i = j
   ·subst he
    rw [hg] at hy
    injection hy with hy
    rw [← hy]
    exact hn
   exact h2 i y (by omega) hy
  right
  simp [hn, h1]
theorem Zp {c : List Col} {s : Str} (h : Fd c = true) (hf : ¬ B2 s c < 0) : Gv c s c.length = B2 s c := by
 rcases Wz (s := s) h c.length (Nat.le_refl _) with ⟨_, h2⟩ | h1
 ·exfalso
  apply hf
  unfold B2
  cases hx : c.findIdx? (fun y => y.name == s) with
  | none => decide
  | some i =>
   rw [List.findIdx?_eq_some_iff_getElem] at hx
   obtain ⟨hl, hn, _⟩ := hx
   exact absurd (by simpa using hn) (h2 i _ hl (List.getElem?_eq_getElem hl))
 exact h1
theorem kp {rows : List Row} (h : Jz rows = false) (hg : ∀ x ∈ rows, ∀ v ∈ x.l, -9223372036854775808 ≤ v.n ∧ v.n ≤ 9223372036854775807) : RW rows ∧ rows.length ≤ 60 := by
 unfold Jz at h
 simp only [Bool.or_eq_false_iff, decide_eq_false_iff_not] at h
 obtain ⟨h1, h2⟩ := h
 refine ⟨⟨by omega, fun x hx => ⟨?_, hg x hx⟩⟩, by omega⟩
 have h3 := List.any_eq_false.1 h2 x hx
 exact el (by simpa using h3)
theorem Zq {q : Qry} {c : List Col} {rows : List Row} (hw : RW rows) (hq : q.cols.length ≤ 1048576) (k : Nat) : ∀ x ∈ D9 q c rows k, x.l.length ≤ 1048576 := by
 intro x hx
 unfold D9 at hx
 obtain ⟨y, hy, rfl⟩ := List.mem_map.1 hx
 have h1 := (hw.each y (List.mem_of_mem_take (List.mem_filter.1 hy).1)).1
 unfold Ex
 show (if q.all = true then y.l else q.cols.map _).length ≤ 1048576
 split
 ·exact h1
 rw [List.length_map]; exact hq
theorem O5 {q : Qry} {c : List Col} {rows : List Row} : ∀ (r : List Row) (k : Nat), rows.drop k = r → (Ec q c r (D9 q c rows k)).1 = [] ∨ ∃ j, (Ec q c r (D9 q c rows k)).1 = D9 q c rows j
 | [], k, _ => .inr ⟨k, rfl⟩
 | x :: r, k, hk => by
  have hx : rows[k]? = some x := by
   have : (rows.drop k)[0]? = some x := by rw [hk]; rfl
   simpa using this
  have hr : rows.drop (k + 1) = r := by
   have := K1 hx
   rw [hk] at this
   injection this with _ h
   exact h.symm
  rw [Ec]
  split
  ·exact .inl rfl
  split
  ·rename_i h1
   have e := K0 hx h1
   split
   ·exact .inr ⟨k + 1, e.symm⟩
   rw [← e]; exact O5 r (k + 1) hr
  rename_i h1
  rw [← Kp hx (by simpa using h1)]
  exact O5 r (k + 1) hr
theorem kq {q : Qry} {c : List Col} {rows : List Row} (hw : RW rows) (hq : q.cols.length ≤ 1048576) : (C3 q c rows).1.length ≤ rows.length ∧ ∀ x ∈ (C3 q c rows).1, x.l.length ≤ 1048576 := by
 unfold C3
 split
 ·exact ⟨Nat.zero_le _, fun x hx => by cases hx⟩
 rcases O5 (q := q) (c := c) (rows := rows) rows 0 rfl with h | ⟨j, h⟩
 ·rw [show ([] : List Row) = D9 q c rows 0 from rfl, h]
  exact ⟨Nat.zero_le _, fun x hx => by cases hx⟩
 rw [show ([] : List Row) = D9 q c rows 0 from rfl, h]
 exact ⟨O4 _ _ _ _, Zq hw hq j⟩
theorem kr {q : Qry} {c : List Col} {a b : List Row} (h : Picked q c a b) {x : Nat} (ha : x < a.length) (hb : x < b.length) : G9 c b[x].l = true ∧ a[x] = Ex q c b[x] :=
 h.at x _ _ (List.getElem?_eq_getElem ha) (List.getElem?_eq_getElem hb)
theorem Zr {q : Qry} (h : Cj q = true) (hk : 0 < q.cols.length) : q.all = false := by
 unfold Cj at h
 split at h
 ·cases h
 rename_i h1
 simp only [Bool.or_eq_true, not_or] at h1
 have h2 := h1.1.1.1
 have h3 : ((q.cols.length : Int) == 0) = false := by simp; intro e; rw [e] at hk; simp at hk
 rw [h3] at h2
 simpa using h2
theorem kt {c : List Col} {s : Str} {j : Nat} (h : j < c.length) (e : (c[j].name == s) = true) : (j : Int) = Gv c s (j + 1) := by
 rw [Gv, List.getD_eq_getElem?_getD, List.getElem?_eq_getElem h]
 exact (if_pos e).symm
theorem et {c : List Col} {s : Str} {j : Nat} (h : j < c.length) (e : (c[j].name == s) = false) : Gv c s j = Gv c s (j + 1) := by
 rw [Gv, List.getD_eq_getElem?_getD, List.getElem?_eq_getElem h]
 exact (if_neg (by show ¬ (c[j].name == s) = true; rw [e]; simp)).symm
theorem eu {c : List Col} {l : List Val} (h : G9 c l = true) : l.length = c.length := by
 unfold G9 at h
 simp only [Bool.and_eq_true, beq_iff_eq] at h
 exact h.1.2
theorem nq {q : Qry} {c : List Col} {x : Row} (ha : q.all = false) {k : Nat} (hk : k < q.cols.length) : (Ex q c x).l.getD k noV = x.l.getD (B2 q.cols[k] c).toNat noV := by
 rw [Ko ha]
 show (q.cols.map (Hv c x)).getD k noV = _
 rw [List.getD_eq_getElem?_getD, List.getElem?_map, List.getElem?_eq_getElem hk]
 rfl
theorem ew {q : Qry} {c : List Col} {x : Row} (ha : q.all = false) : (Ex q c x).l.length = q.cols.length := by
 rw [Ko ha]
 exact List.length_map _
theorem X0 {l : List Val} {k : Nat} (h : k < l.length) : (l.map Bh)[k]? = some (Bh (l.getD k noV)) := by
 rw [List.getElem?_map, List.getElem?_eq_getElem h, List.getD_eq_getElem?_getD, List.getElem?_eq_getElem h]
 rfl
theorem nr {q : Qry} (h : QW q) : QW (Ch q) := ⟨h.ok, h.size, h.rng, by show (0 : Nat) ≤ _; omega, fun s hs => by cases hs⟩
theorem c5P (q : Qry) (gq : Cf F1 q.whr = true) (c : List Col) (rows : List Row) (gr : ∀ x ∈ rows, ∀ v ∈ x.l, -9223372036854775808 ≤ v.n ∧ v.n ≤ 9223372036854775807) (Hp : List AObj) : AFun Tryz.prog 5 [J4 q, C0 c, Ew rows] Hp (Ak true) := by
 refine ACall.body [.tmp 6] [0, 1, 2] Tryz.func5 Tryz.ntmps5 (fun d => ?_)
 refine Z97 ?_;refine R.fin [1, 2, 3] ?_;refine Z27 ?_;refine R.call Tryz.call6 (c5 _) ?_;refine R.not ?_;refine R.fin [1, 2, 3, 17] ?_
 refine W.cond (fun ht17 => ?_) (fun ht17 => ?_)
 ·cases ht17
 refine Z5 ?_;refine Mc ?_;refine R.call Tryz.call7 (c7 q _) ?_;refine Z22 ?_;refine G.call Tryz.call8 (fun hB => th c _) ?_;refine R.pickOr ?_;refine Z22 ?_;refine G.call Tryz.call9 (fun hB => c9 rows _) ?_;refine R.pickOr ?_;refine R.fin [1, 2, 3, 27] ?_
 refine W.cond (fun ht27 => ?_) (fun ht27 => ?_)
 ·refine Rt ?_;refine Z11 ?_;exact Y0
 simp only [Bool.or_eq_false_iff] at ht27
 have hq0 := rt ht27.1.1 gq
 have hc := j3 ht27.1.2
 have hcl := hc.1
 obtain ⟨hw, hl60⟩ := kp ht27.2 gr
 refine Z5 ?_;refine Z54 ?_;refine Z79 ?_;refine R.call Tryz.call10 (c10 q hq0 c hc rows hw _) ?_;refine Jb ?_;refine R.fin [1, 2, 3, 7, 8] ?_;refine Z9 ?_;refine Xx ?_;refine b7 ?_;refine R.fin [1, 2, 3, 7, 8, 40] ?_
 refine W.cond (fun ht40 => ?_) (fun ht40 => ?_)
 ·have hne : (C3 q c rows).2 ≠ 0 := by
   intro e
   rw [e] at ht40
   simp at ht40
  have hnil := de hne
  refine Z0 ?_;refine R.len jU ?_;refine Z20 ?_;refine R.fin [6] ?_;refine Z11 ?_;exact K.fin (V.one V.tmp) ⟨by rw [hnil]; rfl, rfl⟩
 simp only [Bool.or_eq_false_iff, beq_eq_false_iff_ne] at ht40
 obtain ⟨he, hP, hR⟩ := ri (q := q) (c := c) (r := rows) ht40.1 ht40.2
 have hPl := hP.len
 have hfit := kq (q := q) (c := c) hw hq0.len
 refine Lj ?_;refine Z85 ?_;refine fu ?_;refine R.build (places := #[(0, 1), (1, 1), (2, 6), (8, 1)]) jU (fun w => by simp) jZ ?_;refine Z16 ?_;refine R.fin [1, 2, 3, 7, 8, 9] ?_;refine Ba ?_;refine R.nilCell 0 1 1 ?_;refine Mj ?_;refine Z79 ?_;refine R.call Tryz.call10 (c10 (Ch q) (nr hq0) c hc rows hw _) ?_;refine Jb ?_;refine R.fin [1, 3, 7, 8, 10, 11] ?_;refine Lh ?_;refine R.neq ?_;refine Z22 ?_;refine G.len jU ?_;refine G.move ?_;refine G.len jU ?_;refine U4 ?_;refine R.fin [1, 3, 7, 10, 65] ?_
 refine W.cond (fun ht65 => ?_) (fun ht65 => ?_)
 ·rw [he] at ht65; simp [hPl] at ht65
 refine Z5 ?_;refine Ua ?_;refine R.fin [1, 3, 7, 10, 12] ?_
 refine AW.loopC (α := Nat) (fun x => ⟨146, A6 1 (C0 c) (A6 3 (.ro (qoC false q)) (A6 7 (Ew (C3 q c rows).1) (A6 10 (Ew (C3 (Ch q) c rows).1) (A6 12 (A4 (x : Nat)) (fun _ => .any))))), Hp, [.cells 29 [Ak true, .slice true 1 [], A4 q.whr.op, A8 q.whr.text, A4 q.whr.val.kind, A4 q.whr.val.n, A8 q.whr.val.s, .slice false 6 (q.whr.kids.map Ab), A4 q.lim]], [], none⟩) (fun x => x ≤ (C3 q c rows).1.length) (fun x => (C3 q c rows).1.length - x) (0) (Nat.zero_le _) (StLe.of_eq (by simp)) rfl (fun x hx => ?_)
 refine Xw ?_;refine R.fin [1, 3, 7, 10, 12, 69] ?_
 refine W.cond (fun ht69 => ?_) (fun ht69 => ?_)
 ·have hlt : x < (C3 q c rows).1.length := by simpa using ht69
  have hlb : x < (C3 (Ch q) c rows).1.length := by omega
  obtain ⟨hrp, hxe⟩ := kr hP hlt hlb
  have e1 : (C3 q c rows).1[x].key = (C3 (Ch q) c rows).1[x].key := by rw [hxe]; rfl
  have e2 : q.all = false → (C3 q c rows).1[x].l.length = q.cols.length := fun h => by rw [hxe]; exact ew h
  obtain ⟨hrq, hcp, hnn⟩ := hR (fun e => by rw [e] at hlt; cases hlt)
  refine Ud ?_;refine W.seq ?_;refine W.draw [0, 0, 3, 7, 15, 0, 0, 96, 224, 480, 1023, 2047, 4095, 8191, 16383, 32767, 65535, 65535, 262143, 524287, 1048575, 2097151, 65535, 4259839, 12648447, 33554431, 67108863, 134217727] 25 Ae (by kernel_rfl) ?_;refine Xo ?_;refine D.indexAddr (x) (Df (C3 q c rows).1[x]) jU jS (Be hlt) ?_;refine D.fieldAddrRo (off := 0) jU Tryz.sizeOf2 ?_;refine Fs ?_;refine Xo ?_;refine D.indexAddr (x) (Df (C3 (Ch q) c rows).1[x]) jU jS (Be hlb) ?_;refine D.fieldAddrRo (off := 0) jU Tryz.sizeOf2 ?_;refine Fs ?_;refine D.neq ?_;refine D.move ?_;refine H.fieldAddrRo (off := 0) jU Tryz.sizeOf4 ?_;refine H.loadRo jA ?_;refine H.not ?_;refine H.move ?_;refine H.move ?_;refine pl ?_;refine ln ?_;refine H.len jU ?_;refine H.fieldAddrRo (off := 1) jU Tryz.sizeOf22 ?_;refine H.loadRo jA ?_;refine H.len jU ?_;refine D.tail ?_
  refine G.neq ?_;refine G.pickAnd ?_;refine R.pickOr ?_;refine R.fin [1, 3, 7, 10, 12, 99] ?_
  refine W.cond (fun ht99 => ?_) (fun ht99 => ?_)
  ·cases hqa : q.all with
   | true => simp [e1, hqa] at ht99
   | false => simp [e1, hqa, e2 hqa] at ht99
  refine Z5 ?_;refine Z3 ?_;refine R.fin [1, 3, 7, 10, 12, 13] ?_
  refine AW.loopC (α := Nat) (fun k => ⟨146, A6 1 (C0 c) (A6 3 (.ro (qoC false q)) (A6 7 (Ew (C3 q c rows).1) (A6 10 (Ew (C3 (Ch q) c rows).1) (A6 12 (A4 (x : Nat)) (A6 13 (A4 (k : Nat)) (fun _ => .any)))))), Hp, [.cells 29 [Ak true, .slice true 1 [], A4 q.whr.op, A8 q.whr.text, A4 q.whr.val.kind, A4 q.whr.val.n, A8 q.whr.val.s, .slice false 6 (q.whr.kids.map Ab), A4 q.lim]], [], none⟩) (fun k => k ≤ q.cols.length) (fun k => q.cols.length - k) (0) (Nat.zero_le _) (StLe.of_eq (by simp)) rfl (fun k hk => ?_)
  refine Z9 ?_;refine Z51 ?_;refine lh ?_;refine R.fin [1, 3, 7, 10, 12, 13, 104] ?_
  refine W.cond (fun ht104 => ?_) (fun ht104 => ?_)
  ·have hkl : k < q.cols.length := by simpa using ht104
   have hqa := Zr hrq (by omega)
   have hqcl := hq0.len
   have hnf := hnn _ (List.getElem_mem hkl)
   obtain ⟨jj, hjj, hjc⟩ := Wy hnf
   have hg1 : k < (C3 q c rows).1[x].l.length := by rw [e2 hqa]; exact hkl
   have hg2 : (B2 q.cols[k] c).toNat < (C3 (Ch q) c rows).1[x].l.length := by rw [eu hrp]; omega
   have hv : ((C3 q c rows).1[x].l.getD k noV) = ((C3 (Ch q) c rows).1[x].l.getD (B2 q.cols[k] c).toNat noV) := by rw [hxe]; exact nq hqa hkl
   refine Ud ?_;refine Z3 ?_;refine R.fin [1, 3, 7, 10, 12, 13, 14] ?_;refine Ua ?_;refine R.fin [1, 3, 7, 10, 12, 13, 14, 15] ?_
   refine AW.loopC (α := Nat) (fun j => ⟨146, A6 1 (C0 c) (A6 3 (.ro (qoC false q)) (A6 7 (Ew (C3 q c rows).1) (A6 10 (Ew (C3 (Ch q) c rows).1) (A6 12 (A4 (x : Nat)) (A6 13 (A4 (k : Nat)) (A6 14 (A4 (Gv c q.cols[k] j)) (A6 15 (A4 (j : Nat)) (fun _ => .any)))))))), Hp, [.cells 29 [Ak true, .slice true 1 [], A4 q.whr.op, A8 q.whr.text, A4 q.whr.val.kind, A4 q.whr.val.n, A8 q.whr.val.s, .slice false 6 (q.whr.kids.map Ab), A4 q.lim]], [], none⟩) (fun j => j ≤ c.length) (fun j => c.length - j) (0) (Nat.zero_le _) (StLe.of_eq (by simp [Gv])) rfl (fun j hj => ?_)
   refine Xw ?_;refine R.fin [1, 3, 7, 10, 12, 13, 14, 15, 110] ?_
   refine W.cond (fun ht110 => ?_) (fun ht110 => ?_)
   ·have hjl : j < c.length := by simpa using ht110
    refine Ud ?_;refine W.draw [0, 0, 3, 7, 15, 0, 32, 0, 224, 480, 1023] 10 Ae (by kernel_rfl) ?_;refine Xo ?_;refine D.indexAddr (j) (Rz c[j]) jU jS (Be hjl) ?_;refine D.fieldAddrRo (off := 0) jU Tryz.sizeOf9 ?_;refine Fs ?_;refine D.fieldAddrRo (off := 1) jU Tryz.sizeOf22 ?_;refine Fs ?_;refine D.move ?_;refine D.indexAddr (k) (A8 q.cols[k]) jU jS (Be hkl) ?_;refine Fs ?_;refine D.tail ?_;refine R.seql ?_;refine R.fin [1, 3, 7, 10, 12, 13, 14, 15, 123] ?_
    refine W.cond (fun ht123 => ?_) (fun ht123 => ?_)
    ·refine Z21 ?_;refine Au ?_;refine R.fin [1, 3, 7, 10, 12, 13, 14, 15] ?_;refine Z13 ?_;refine Qm ?_;exact o0
    refine Z17 ?_;refine Qm ?_;exact o0
   have hje : j = c.length := by simp at ht110; omega
   subst hje
   refine Oe ?_;refine W.draw [0, 1, 3, 7, 7, 31, 63, 127, 7, 511, 1023, 7, 7, 6151, 14343, 30727, 7, 129031, 260103, 524287, 1048575] 19 Ae (by kernel_rfl) ?_
   rw [Zp hcp hnf]
   refine D.move ?_;refine D.lss ?_;refine D.move ?_;refine H.move ?_;refine pl ?_;refine ln ?_;refine H.move ?_;refine H.indexAddr (k) (Bh ((C3 q c rows).1[x].l.getD k noV)) jU jS (fun _ => X0 hg1) ?_;refine H.loadRoN jA jS ?_;refine H.move ?_;refine H.move ?_;refine H.indexAddr (x) (Df (C3 (Ch q) c rows).1[x]) jU jS (fun _ => Be hlb) ?_;refine ln ?_;refine H.move ?_;refine H.indexAddr ((B2 q.cols[k] c).toNat) (Bh ((C3 (Ch q) c rows).1[x].l.getD (B2 q.cols[k] c).toNat noV)) jU jS (fun _ => X0 hg2) ?_;refine H.loadRoN jA jS ?_;refine D.tail ?_
   refine G.neqAgg S1 (Fl ((C3 q c rows).1[x].l.getD k noV).kind ((C3 q c rows).1[x].l.getD k noV).n ((C3 (Ch q) c rows).1[x].l.getD (B2 q.cols[k] c).toNat noV).kind ((C3 (Ch q) c rows).1[x].l.getD (B2 q.cols[k] c).toNat noV).n ((C3 q c rows).1[x].l.getD k noV).s ((C3 (Ch q) c rows).1[x].l.getD (B2 q.cols[k] c).toNat noV).s) ?_;refine R.pickOr ?_;refine R.fin [1, 3, 7, 10, 12, 13, 145] ?_
   refine W.cond (fun ht145 => ?_) (fun ht145 => ?_)
   ·rw [hv] at ht145; simp at ht145
    omega
   refine Z17 ?_;refine Qm ?_;refine R.fin [1, 3, 7, 10, 12, 13] ?_;exact K.lpN (k + 1) hkl (by omega) (StCut.of_eq rfl)
  refine Z96 ?_;refine K.lpE ?_;refine Z13 ?_;refine Qm ?_;refine R.fin [1, 3, 7, 10, 12] ?_;exact K.lpN (x + 1) hlt (by omega) (StCut.of_eq rfl)
 refine Oe ?_;refine Rt ?_;exact g8

end Go.SX.Nb
