/- Texts on the way to this: QueryLimits answers true for whatever it is handed: with a limit the answer is the beginning of the one without; two pieces of the rows have the answers of both. (part 10) -/
import Derived.Test.YtfngkblpcigciaaGreatDoorQueryLimitsCardSaidPart9
set_option linter.all false
namespace Go.SX.Nb
open Go Go.SX Go.Proofs
variable [ErrAt]
set_option maxRecDepth 4000
/-- What a card says of rows. -/
structure RW (l : List Row) : Prop where
 len : l.length ≤ 1048576
 each : ∀ x ∈ l, x.l.length ≤ 1048576 ∧ ∀ v ∈ x.l, -9223372036854775808 ≤ v.n ∧ v.n ≤ 9223372036854775807
def K0 (l : List Row) : Bool := decide ((60 : Int) < (l.length : Int)) || l.any fun x => Ht x.l
theorem Q8 {α : Type} {a b : List α} (h : a.length = b.length) (hp : ∀ (j : Nat) (y : α), j < a.length → a[j]? = some y → b[j]? = some y) : a = b := Ie h fun j y hj hy => hp j y (by omega) hy
theorem c9 (l : List Row) (Hp : List AObj) : AFun Tryz.prog 9 [Fk l] Hp (Al (K0 l)) := by
 refine ACall.body [.tmp 2] [0] Tryz.func9 Tryz.ntmps9 (fun d => ?_)
 refine Z88 ?_;refine Z9 ?_;refine Uc ?_;refine R.fin [0, 6] ?_
 refine W.cond (fun ht6 => ?_) (fun ht6 => ?_)
 ·rw [List.length_map] at ht6
  have hm : K0 l = true := by unfold K0; rw [ht6]; rfl
  refine Z56 ?_;exact Z47
 rw [List.length_map] at ht6
 have hl50 : l.length ≤ 60 := by simp at ht6; omega
 refine Z5 ?_;refine Um ?_;refine Lm ?_
 refine AW.loopC (α := Nat) (fun x => ⟨19, A5 0 (Fk l) (A5 3 (A4 (x : Nat)) (fun _ => .any)), Hp, [], [], none⟩) (fun x => x ≤ l.length ∧ ∀ (j : Nat) (v : Row), j < x → l[j]? = some v → Ht v.l = false) (fun x => l.length - x) (0) ⟨Nat.zero_le _, fun j v h => by omega⟩ (StLe.of_eq (by simp)) rfl (fun x hx => ?_)
 refine Y6 ?_;refine R.fin [0, 3, 10] ?_
 refine W.cond (fun ht10 => ?_) (fun ht10 => ?_)
 ·have hlt : x < l.length := by simpa using ht10
  refine Z5 ?_;refine Z27 ?_;refine Z29 ?_;refine R.indexAddr (x) (Cu l[x]) jU jS (Bf hlt) ?_;refine m3 ?_;refine R.call Tryz.call18 (c18 l[x].l _) ?_;refine R.fin [0, 3, 18] ?_
  refine W.cond (fun ht18 => ?_) (fun ht18 => ?_)
  ·have hm : K0 l = true := by unfold K0; rw [Bool.or_eq_true]; exact .inr (List.any_eq_true.2 ⟨l[x], List.getElem_mem hlt, ht18⟩)
   refine Z56 ?_;exact gu
  refine Z17 ?_;refine Z26 ?_;refine R.add64 (h1 := by omega) (h2 := by omega) ?_;refine ib ?_;refine K.lpN (x + 1) ⟨hlt, Db hlt hx.2 ht18⟩ (by omega) ?_;exact StCut.of_eq (by simp)
 have hxe : l.length ≤ x := by simpa using ht10
 have hm : K0 l = false := by
  unfold K0
  rw [ht6, Bool.false_or, List.any_eq_false]
  intro v hv
  obtain ⟨j, hj⟩ := List.getElem?_of_mem hv
  have := hx.2 j v (by have := (List.getElem?_eq_some_iff.1 hj).1; omega) hj
  rw [this]
  simp
 refine Oj ?_;exact q8

theorem c36 (a b : List Val) (ha : a.length ≤ 1048576) (Hp : List AObj) : AFun Tryz.prog 36 [Dp a, Dp b] Hp (Al (decide (a = b))) := by
 refine ACall.body [.tmp 4] [0, 1] Tryz.func36 Tryz.ntmps36 (fun d => ?_)
 refine Y9 ?_;refine R.len jU ?_;refine R.neq ?_;refine R.fin [0, 1, 10] ?_
 refine W.cond (fun ht10 => ?_) (fun ht10 => ?_)
 ·have hm : decide (a = b) = false := by rw [decide_eq_false]; rintro rfl; simp at ht10
  exact Rz
 have hlen : a.length = b.length := by have := ht10; simp at this; omega
 refine Z5 ?_;refine Um ?_;refine Ok ?_
 refine AW.loopC (α := Nat) (fun x => ⟨26, A5 0 (Dp a) (A5 1 (Dp b) (A5 5 (A4 (x : Nat)) (fun _ => .any))), Hp, [], [], none⟩) (fun x => x ≤ a.length ∧ ∀ (j : Nat) (y : Val), j < x → a[j]? = some y → b[j]? = some y) (fun x => a.length - x) (0) ⟨Nat.zero_le _, fun j y h => by omega⟩ (StLe.of_eq (by simp)) rfl (fun x hx => ?_)
 refine Y6 ?_;refine R.fin [0, 1, 5, 14] ?_
 refine W.cond (fun ht14 => ?_) (fun ht14 => ?_)
 ·have hlt : x < a.length := by simpa using ht14
  have hlb : x < b.length := by omega
  refine Z5 ?_;refine Z27 ?_;refine W.draw [0, 0, 3, 7, 0, 0, 48, 112, 255] 8 Ae (by kernel_rfl) ?_;refine Qo ?_;refine D.indexAddr (x) (Bl a[x]) jU jS (Bf hlt) ?_;refine Gt ?_;refine Qo ?_;refine D.indexAddr (x) (Bl b[x]) jU jS (Bf hlb) ?_;refine Gt ?_;refine D.tail ?_;refine R.neqAgg S8 (Fl a[x].kind a[x].n b[x].kind b[x].n a[x].s b[x].s) ?_;refine R.fin [0, 1, 5, 25] ?_
  refine W.cond (fun ht25 => ?_) (fun ht25 => ?_)
  ·rw [W6] at ht25
   have hm : decide (a = b) = false := by
    rw [decide_eq_false]
    rintro rfl
    simp at ht25
   exact i7
  rw [W6] at ht25
  have heq : a[x] = b[x] := by simpa using ht25
  refine Z17 ?_;refine Ui ?_;refine Ok ?_
  exact K.lpN (x + 1) ⟨hlt, Io (p := fun j y => b[j]? = some y) hlt hx.2 (by rw [List.getElem?_eq_getElem hlb, heq])⟩ (by omega) (StCut.of_eq rfl)
 have hxe : a.length ≤ x := by simpa using ht14
 have hm : decide (a = b) = true := decide_eq_true (Q8 hlen fun j y hj hy => hx.2 j y (by omega) hy)
 refine Oj ?_;exact Y2

theorem c14 (a b : List Row) (ha : a.length ≤ 1048576) (he : ∀ x ∈ a, x.l.length ≤ 1048576) (Hp : List AObj) : AFun Tryz.prog 14 [Fk a, Fk b] Hp (Al (decide (a = b))) := by
 refine ACall.body [.tmp 4] [0, 1] Tryz.func14 Tryz.ntmps14 (fun d => ?_)
 refine Y9 ?_;refine R.len jU ?_;refine R.neq ?_;refine R.fin [0, 1, 10] ?_
 refine W.cond (fun ht10 => ?_) (fun ht10 => ?_)
 ·have hm : decide (a = b) = false := by rw [decide_eq_false]; rintro rfl; simp at ht10
  exact Rz
 have hlen : a.length = b.length := by have := ht10; simp at this; omega
 refine Z5 ?_;refine Um ?_;refine Ok ?_
 refine AW.loopC (α := Nat) (fun x => ⟨42, A5 0 (Fk a) (A5 1 (Fk b) (A5 5 (A4 (x : Nat)) (fun _ => .any))), Hp, [], [], none⟩) (fun x => x ≤ a.length ∧ ∀ (j : Nat) (y : Row), j < x → a[j]? = some y → b[j]? = some y) (fun x => a.length - x) (0) ⟨Nat.zero_le _, fun j y h => by omega⟩ (StLe.of_eq (by simp)) rfl (fun x hx => ?_)
 refine Y6 ?_;refine R.fin [0, 1, 5, 14] ?_
 refine W.cond (fun ht14 => ?_) (fun ht14 => ?_)
 ·have hlt : x < a.length := by simpa using ht14
  have hlb : x < b.length := by omega
  refine Z5 ?_;refine Z27 ?_;refine W.draw [0, 0, 3, 7, 15, 0, 0, 96, 224, 480, 1023, 2047, 4095, 4095, 16383, 32767, 65535, 4095, 4095, 397311, 921599, 1970175, 4194303, 8388607, 16777215] 22 Ae (by kernel_rfl) ?_;refine Qo ?_;refine D.indexAddr (x) (Cu a[x]) jU jS (Bf hlt) ?_;refine D.fieldAddrRo (off := 0) jU Tryz.sizeOf2 ?_;refine Gs ?_;refine Qo ?_;refine D.indexAddr (x) (Cu b[x]) jU jS (Bf hlb) ?_;refine D.fieldAddrRo (off := 0) jU Tryz.sizeOf2 ?_;refine Gs ?_;refine D.neq ?_;refine D.move ?_;refine H.move ?_;refine H.move ?_;refine H.indexAddr (x) (Cu a[x]) jU jS (fun _ => Bf hlt) ?_;refine H.fieldAddrRo (off := 1) jU Tryz.sizeOf44 ?_;refine H.loadRo jA ?_;refine H.move ?_;refine H.move ?_;refine H.indexAddr (x) (Cu b[x]) jU jS (fun _ => Bf hlb) ?_;refine H.fieldAddrRo (off := 1) jU Tryz.sizeOf44 ?_;refine H.loadRo jA ?_;refine D.tail ?_
  refine G.call Tryz.call36 (fun hB => c36 a[x].l b[x].l (he _ (List.getElem_mem hlt)) _) ?_;refine Ud ?_;refine R.fin [0, 1, 5, 41] ?_
  refine W.cond (fun ht41 => ?_) (fun ht41 => ?_)
  ·rw [W7] at ht41
   have hm : decide (a = b) = false := by
    rw [decide_eq_false]
    rintro rfl
    simp at ht41
   exact i7
  rw [W7] at ht41
  have heq : a[x] = b[x] := by simpa using ht41
  refine Z17 ?_;refine Ui ?_;refine Ok ?_
  exact K.lpN (x + 1) ⟨hlt, Io (p := fun j y => b[j]? = some y) hlt hx.2 (by rw [List.getElem?_eq_getElem hlb, heq])⟩ (by omega) (StCut.of_eq rfl)
 have hxe : a.length ≤ x := by simpa using ht14
 have hm : decide (a = b) = true := decide_eq_true (Q8 hlen fun j y hj hy => hx.2 j y (by omega) hy)
 refine Oj ?_;exact Y2

theorem c49 (l : List Val) (hl : l.length ≤ 1048576) (Hp : List AObj) : AFun Tryz.prog 49 [Dp l] Hp (Dp l) := by
 refine ACall.body [.tmp 2] [0] Tryz.func49 Tryz.ntmps49 (fun d => ?_)
 refine Z88 ?_;refine Z9 ?_
 refine R.eqlNil jU (by kernel_rfl) (fun b hb => ?_)
 refine R.fin [0, 4] ?_
 refine W.cond (fun ht4 => ?_) (fun ht4 => ?_)
 ·have hl0 : l = [] := by simpa using hb ht4
  subst hl0
  refine Z2 ?_;refine R.nilTmp 2 3 false ?_;refine Z3 ?_;refine K.thR ?_;exact K.fin (V.one V.tmp) ⟨rfl, rfl⟩
 refine Lk ?_;refine Mm ?_;refine Au ?_
 refine R.append jU Tryz.type24 ?_ ?_ ?_
 ·simp [Tryz.t24] <;> omega
 ·simp [Tryz.t24] <;> omega
 refine R.assignT ?_;refine Z3 ?_;exact K.fin (V.one V.tmp) ⟨rfl, rfl⟩

theorem c32 (n : Nat) (e : Expr) (hok : okE n e) (hn : n ≤ 1048576) (c : List Col) (hc : OkCols c) (w : Int) (Hp : List AObj) : AFun Tryz.prog 32 [Ab e, C3 c, A4 w] Hp (Al (Wy e c w)) := by
 refine ACall.body [.tmp 6] [0, 1, 2] Tryz.func32 Tryz.ntmps32 (fun d => ?_)
 refine Xu ?_;refine R.fin [1, 2, 3] ?_;refine Z57 ?_;refine Au ?_;refine R.call Tryz.call31 (c31 n e hok hn c hc _) ?_;refine Jb ?_;refine R.fin [2, 7, 8] ?_;refine Z0 ?_;refine R.eql ?_;refine K6 ?_;refine bx ?_;refine G.move ?_;refine G.eql ?_;refine G.pickOr ?_;refine Z32 ?_;refine R.fin [6] ?_;refine AW.ret ?_;exact K.fin (V.one V.tmp) ⟨by unfold Wy; rfl, rfl⟩

theorem c83 (n : Nat) (x : Expr) (hok : okE n x) (hn : n ≤ 1048576) (hrg : Cg F0 x = true) (c : List Col) (hc : OkCols c) (l : List Val) (hll : l.length ≤ 1048576) (hlr : ∀ v ∈ l, -9223372036854775808 ≤ v.n ∧ v.n ≤ 9223372036854775807) (Hp : List AObj) : AFun Tryz.prog 83 [Ab x, C3 c, Dp l] Hp (.tup [Al (Wz (Ff x c l)), A4 (Py (Ff x c l))]) := by
 refine ACall.body [.tmp 6, .tmp 7] [0, 1, 2] Tryz.func83 Tryz.ntmps83 (fun d => ?_)
 refine Uo ?_;refine R.fin [1, 2, 3] ?_;refine Z57 ?_;refine Z76 ?_;refine R.call Tryz.call121 (vo n x hok hn hrg c hc l hll hlr _) ?_;refine Y8 ?_;refine R.fin [8, 9] ?_;refine Z9 ?_;refine Mi ?_;refine Z74 ?_;refine G.neq ?_;refine U8 ?_;refine Z74 ?_;refine G.neq ?_;refine R.pickAnd ?_;refine R.fin [8, 9, 28] ?_
 refine W.cond (fun ht28 => ?_) (fun ht28 => ?_)
 ·have hm : Py (Ff x c l) = 10 := if_pos ht28
  refine Xy ?_;refine R.fin [8, 9] ?_;refine K.thN ?_;refine q9 ?_;refine D.eql ?_;refine D.move ?_;refine H.loadOwnN jA jS ?_;refine oi ?_;refine D.pickAnd ?_;refine D.move ?_;refine Rx ?_;refine Z69 ?_;exact ot
 have hm : Py (Ff x c l) = (Ff x c l).2 := if_neg (by rw [ht28]; simp)
 refine Z5 ?_;refine q9 ?_;refine D.eql ?_;refine D.move ?_;refine H.loadOwnN jA jS ?_;refine oi ?_;refine D.pickAnd ?_;refine D.move ?_;refine Rx ?_;refine Z69 ?_;exact ot

theorem c48 (q : Qry) (h : QW q) (c : List Col) (hc : OkCols c) (l : List Val) (hll : l.length ≤ 1048576) (hlr : ∀ v ∈ l, -9223372036854775808 ≤ v.n ∧ v.n ≤ 9223372036854775807) (Hp : List AObj) : AFun Tryz.prog 48 [J4 q, C3 c, Dp l] Hp (.tup [Al (Ao q c l).1, A4 (Ao q c l).2]) := by
 refine ACall.body [.tmp 6, .tmp 7] [0, 1, 2] Tryz.func48 Tryz.ntmps48 (fun d => ?_)
 refine Uo ?_;refine R.fin [1, 2, 3] ?_;refine Mg ?_;refine R.call Tryz.call82 (c82 c hc l hll _) ?_;refine R.not ?_;refine R.fin [1, 2, 3, 11] ?_
 refine W.cond (fun ht11 => ?_) (fun ht11 => ?_)
 ·have hm : Ao q c l = (false, 1) := by unfold Ao; rw [if_pos ht11]
  refine Z2 ?_;refine Z69 ?_;exact p8
 refine Z5 ?_;refine Oe ?_;refine R.call Tryz.call30 (c30 q h _) ?_;refine R.not ?_;refine R.fin [1, 2, 3, 14] ?_
 refine W.cond (fun ht14 => ?_) (fun ht14 => ?_)
 ·have hm : Ao q c l = (true, 0) := by unfold Ao; rw [if_neg (by rw [ht11]; simp), if_pos ht14]
  refine Z2 ?_;refine Z69 ?_;exact p8
 have hm : Ao q c l = (Wz (Ff q.whr c l), Py (Ff q.whr c l)) := by unfold Ao; rw [if_neg (by rw [ht11]; simp), if_neg (by rw [ht14]; simp)]
 refine Lk ?_;refine b8 ?_;refine Z76 ?_;refine R.call Tryz.call83 (c83 61 q.whr h.ok (by decide) h.rng c hc l hll hlr _) ?_;refine Z8 ?_;refine Z14 ?_;refine R.fin [6, 7] ?_;refine AW.ret ?_;exact qu

def kw (c : List Col) (s : Str) : Bool := decide (C4 s c < 0)
def O7 (p : Str → Bool) (ks : List Str) : Int := if ks.any p then (ks.findIdx p : Int) else -1
theorem fk {p : Str → Bool} {ks : List Str} {i : Nat} (h : i < ks.length) (hn : p ks[i] = true) (hp : ∀ (j : Nat) (y : Str), j < i → ks[j]? = some y → ¬ p y = true) : (i : Int) = O7 p ks := by
 unfold O7
 rw [if_pos (List.any_eq_true.2 ⟨_, List.getElem_mem h, hn⟩)]
 congr 1
 refine (List.findIdx_eq h |>.2 ⟨hn, fun j hj => ?_⟩).symm
 have := hp j (ks[j]'(by omega)) hj (List.getElem?_eq_getElem (by omega))
 simpa using this
theorem Vy {p : Str → Bool} {ks : List Str} (hp : ∀ (j : Nat) (y : Str), ks[j]? = some y → ¬ p y = true) : (-1 : Int) = O7 p ks := by
 unfold O7
 rw [if_neg]
 intro h
 obtain ⟨y, hy, hn⟩ := List.any_eq_true.1 h
 obtain ⟨j, hj⟩ := List.getElem?_of_mem hy
 exact hp j y hj hn
theorem ae (p : Str → Bool) (ks : List Str) : decide (0 ≤ O7 p ks) = ks.any p := by
 unfold O7
 cases ks.any p <;> simp
theorem c28 (c : List Col) (hc : OkCols c) (s : Str) (Hp : List AObj) : AFun Tryz.prog 28 [A8 s, .ro [C3 c]] Hp (Al (kw c s)) := by
 refine ACall.body [.tmp 3] [0, 1] Tryz.func28 Tryz.ntmps28 (fun d => ?_)
 refine Z73 ?_;refine Qm ?_;refine Au ?_;refine R.call Tryz.call29 (c29 c hc s _) ?_;refine R.lss ?_;refine Ax ?_;refine R.fin [3] ?_;exact me

theorem vp (c : List Col) (hc : OkCols c) (ks : List Str) (hkl : ks.length ≤ 1048576) (Hp : List AObj) : AFun Tryz.prog 63 [Gm ks, .fn (.func 28) [] [.ro [C3 c]]] Hp (A4 (O7 (kw c) ks)) := by
 refine ACall.body [.tmp 4] [0, 1] Tryz.func63 Tryz.ntmps63 (fun d => ?_)
 refine Y9 ?_;refine R.fin [0, 1, 7, 8] ?_
 refine AW.loopC (α := Nat) (fun x => ⟨19, A5 0 (Gm ks) (A5 1 (.fn (.func 28) [] [.ro [C3 c]]) (A5 7 (A4 ks.length) (A5 8 (A4 (x : Nat)) (fun _ => .any)))), Hp, [], [], none⟩) (fun x => x ≤ ks.length ∧ ∀ (j : Nat) (y : Str), j < x → ks[j]? = some y → ¬ kw c y = true) (fun x => ks.length - x) (0) (by simp) (StLe.of_eq (by simp)) rfl (fun x hx => ?_)
 refine Z89 ?_;refine R.fin [0, 1, 7, 8, 9] ?_
 refine W.condX (fun ht9 => ?_) (fun ht9 => ?_)
 ·have hlt : x < ks.length := by simpa using ht9
  refine Z27 ?_;refine Z66 ?_;refine R.fin [0, 1, 5, 7, 8] ?_;refine Z29 ?_;refine Au ?_;refine R.indexAddr (x) (A8 ks[x]) jU jS (Bf hlt) ?_;refine Cp ?_;refine R.callV Tryz.call28 (c28 c hc ks[x] _) ?_;refine R.fin [0, 1, 5, 7, 8, 16] ?_
  refine W.cond (fun ht16 => ?_) (fun ht16 => ?_)
  ·refine Z66 ?_;refine Z36 ?_;refine Og ?_;exact K.fin (V.one V.tmp) ⟨by rw [fk hlt ht16 hx.2], rfl⟩
  refine Mk ?_;exact oh
 refine Z54 ?_;refine Xz ?_;exact K.fin (V.one V.tmp) ⟨by rw [Vy (Ha (by simp at ht9; omega) hx.2)], rfl⟩

theorem vq (c : List Col) (hc : OkCols c) (ks : List Str) (hkl : ks.length ≤ 1048576) (Hp : List AObj) : AFun Tryz.prog 27 [Gm ks, .fn (.func 28) [] [.ro [C3 c]]] Hp (Al (ks.any (kw c))) := by
 refine ACall.body [.tmp 4] [0, 1] Tryz.func27 Tryz.ntmps27 (fun d => ?_)
 refine Z73 ?_;refine Z29 ?_;refine R.call Tryz.call63 (vp c hc ks hkl _) ?_;refine R.geq ?_;refine Ax ?_;refine Z36 ?_;exact K.fin (V.one V.tmp) ⟨by rw [← ae]; try rfl, rfl⟩

theorem c12 (q : Qry) (h : QW q) (c : List Col) (hc : OkCols c) (Hp : List AObj) : AFun Tryz.prog 12 [J4 q, C3 c] Hp (A4 (Bu q c)) := by
 refine ACall.body [.tmp 4] [0, 1] Tryz.func12 Tryz.ntmps12 (fun d => ?_)
 refine Lj ?_;refine Z41 ?_;refine Oe ?_;refine R.call Tryz.call25 (c25 q h _) ?_;refine R.not ?_;refine Au ?_;refine G.loadRo jA ?_;refine G.call Tryz.call26 (C := (((!(Dg q)) == false))) (fun hB => c26 c hc _) ?_;refine Ud ?_;refine R.fin [2, 3, 14] ?_
 refine W.cond (fun ht14 => ?_) (fun ht14 => ?_)
 ·have hm : Bu q c = 1 := if_pos ht14
  exact ic
 refine Z5 ?_;refine Z23 ?_;refine Z60 ?_;refine R.makeFunc ?_;refine R.call Tryz.call27 (vq c hc q.cols h.len _) ?_;refine R.fin [2, 3, 18] ?_
 refine W.cond (fun ht18 => ?_) (fun ht18 => ?_)
 ·have hm : Bu q c = 9 := by unfold Bu; rw [if_neg (by rw [ht14]; simp)]; exact if_pos ht18
  exact ic
 have ht18b : ¬ (q.cols.any fun s => decide (C4 s c < 0)) = true := fun e => Bool.false_ne_true (ht18.symm.trans e)
 refine Z5 ?_;refine Oe ?_;refine R.call Tryz.call30 (c30 q h _) ?_;refine R.not ?_;refine R.fin [2, 3, 21] ?_
 refine W.cond (fun ht21 => ?_) (fun ht21 => ?_)
 ·have hm : Bu q c = 0 := by unfold Bu; rw [if_neg (by rw [ht14]; simp), if_neg ht18b, if_pos ht21]
  exact ic
 have hm0 : Bu q c = if (Gp q.whr c).2 != 0 then (Gp q.whr c).2 else if !Wy q.whr c 3 then 10 else 0 := by unfold Bu; rw [if_neg (by rw [ht14]; simp), if_neg ht18b, if_neg (by rw [ht21]; simp)]
 refine Z5 ?_;refine Z23 ?_;refine b8 ?_;refine Cp ?_;refine R.call Tryz.call31 (c31 61 q.whr h.ok (by decide) c hc _) ?_;refine Jb ?_;refine R.fin [2, 3, 6] ?_;refine Z0 ?_;refine R.neq ?_;refine R.fin [2, 3, 6, 30] ?_
 refine W.cond (fun ht30 => ?_) (fun ht30 => ?_)
 ·have hm : Bu q c = (Gp q.whr c).2 := by rw [hm0, if_pos ht30]
  refine Z66 ?_;refine R.fin [4] ?_;exact o8
 refine Z5 ?_;refine Z23 ?_;refine b8 ?_;refine Cp ?_;refine R.call Tryz.call32 (c32 61 q.whr h.ok (by decide) c hc 3 _) ?_;refine R.not ?_;refine R.fin [36] ?_
 refine W.cond (fun ht36 => ?_) (fun ht36 => ?_)
 ·have hm : Bu q c = 10 := by rw [hm0, if_neg (by rw [ht30]; simp), if_pos ht36]
  exact ic
 have hm : Bu q c = 0 := by rw [hm0, if_neg (by rw [ht30]; simp), if_neg (by rw [ht36]; simp)]
 refine Z5 ?_;refine Xz ?_;exact K.fin (V.one V.tmp) ⟨by rw [hm] <;> rfl, rfl⟩

abbrev o1 (r : Row) : List AV := [A4 r.key, Dp r.l]
theorem RW.at {rows : List Row} (h : RW rows) {k : Nat} (hk : k < rows.length) : rows[k].l.length ≤ 1048576 ∧ ∀ v ∈ rows[k].l, -9223372036854775808 ≤ v.n ∧ v.n ≤ 9223372036854775807 := h.each _ (List.getElem_mem hk)
theorem c19 (q : Qry) (c : List Col) (rows : List Row) (Hp : List AObj) : AFun Tryz.prog 19 [J4 q, C3 c, Fk rows] Hp (.fn (.func 47) [] [.ro [Fk rows], .ro (qoC false q), .ro [C3 c]]) := by
 refine ACall.body [.tmp 6] [0, 1, 2] Tryz.func19 Tryz.ntmps19 (fun d => ?_)
 refine Lj ?_;refine R.boxRo ?_;refine Ax ?_;refine R.fin [3, 4, 5] ?_;refine B9 ?_;refine R.makeFunc ?_;refine Ax ?_;refine R.fin [6] ?_;refine AW.ret ?_;exact K.fin (V.one V.tmp) ⟨rfl, rfl⟩ (hlow := by simp [or_imp, forall_and]; exact fun a _ => Ak _ a)

theorem c47 (l : Nat) (q : Qry) (h : QW q) (c : List Col) (hc : OkCols c) (rows : List Row) (hw : RW rows) (U : Nat → List AObj) (N : Nat → Prop) (Z : List AObj → Prop) (hlen : ∀ k, (U k).length = (U 0).length) (hll : l < (U 0).length)
  (hlw : ∀ k, ∀ x ∈ U k, ObjLow (U 0).length x) (h0 : N 0) (hn : ∀ k y, rows[k]? = some y → N k → (Ao q c y.l).2 = 0 → (Ao q c y.l).1 = false → N (k + 1) ∧ U (k + 1) = U k)
  (he : ∀ k y X, rows[k]? = some y → N k → (Ao q c y.l).2 ≠ 0 → AYield Tryz.prog l [.agg [A4 0, .nil], A4 (Ao q c y.l).2] (U k ++ X) (fun b H' => ∃ V, H' = V ++ X ∧ V.length = (U 0).length ∧ (∀ x ∈ V, ObjLow (U 0).length x) ∧ Z V))
  (hy : ∀ k y X, rows[k]? = some y → N k → (Ao q c y.l).2 = 0 → (Ao q c y.l).1 = true → AYield Tryz.prog l [Cu y, A4 0] (U k ++ X) (fun b H' => (b = true ∧ N (k + 1) ∧ H' = U (k + 1) ++ X) ∨ (b = false ∧ ∃ V, H' = V ++ X ∧ V.length = (U 0).length ∧ (∀ x ∈ V, ObjLow (U 0).length x) ∧ Z V)))
  (hR : N rows.length → Z (U rows.length)) : ACall Tryz.prog 47 [.yield l, .ro [Fk rows], .ro (qoC false q), .ro [C3 c]] (U 0) (fun _ H' => Z H') := by
 refine ACall.body [] [0, 1, 2, 3] Tryz.func47 Tryz.ntmps47 (fun d => ?_)
 refine Qm ?_;refine Z64 ?_;refine R.fin [0, 2, 3, 9, 10, 11] ?_
 refine AW.loopC (α := Nat) (fun x => ⟨37, A5 0 (.yield l) (A5 2 (.ro (qoC false q)) (A5 3 (.ro [C3 c]) (A5 9 (Fk rows) (A5 10 (A4 rows.length) (A5 11 (A4 (x : Nat)) (fun _ => .any)))))), U x, [], [], none⟩) (fun x => x ≤ rows.length ∧ N x) (fun x => rows.length - x) (0) ⟨Nat.zero_le _, h0⟩ (StLe.of_eq (by simp)) rfl (fun x hx => ?_)
 refine Z89 ?_;refine R.fin [0, 2, 3, 9, 10, 11, 12] ?_
 refine W.condX (fun ht12 => ?_) (fun ht12 => ?_)
 ·have hlt : x < rows.length := by simpa using ht12
  have hwl := hw.len
  refine Qr ?_;refine R.indexAddr (x) (Cu rows[x]) jU jS (Bf hlt) ?_;refine Dq ?_;refine Z16 ?_;refine R.fin [0, 2, 3, 6, 9, 10, 11] ?_;refine Z57 ?_;refine Cp ?_;refine R.fieldAddrPtr (fo := 1) jU Tryz.sizeOf44 ?_;refine Im ?_;refine R.call Tryz.call48 (c48 q h c hc rows[x].l (hw.at hlt).1 (hw.at hlt).2 _) ?_;refine Jb ?_;refine R.fin [0, 2, 3, 6, 7, 8, 9, 10, 11] ?_;refine Ll ?_;refine R.fin [0, 2, 3, 6, 7, 8, 9, 10, 11, 24] ?_
  refine W.cond (fun ht24 => ?_) (fun ht24 => ?_)
  ·refine Z0 ?_;refine Us ?_;refine Au ?_
   refine R.yield (l := l) (args := [.agg [A4 0, .nil], A4 (Ao q c rows[x].l).2]) (he x rows[x] _ (List.getElem?_eq_getElem hlt) hx.2 (by simpa using ht24)) ?_
   rintro b V O hV ⟨W, h2, h3, h4, h5⟩
   obtain ⟨rfl, rfl⟩ := List.append_inj h2 (by rw [hV, hlen x, h3])
   refine ⟨fun _ => by rw [h3]; exact h4, fun o ho => (by cases ho), ?_⟩
   refine bv ?_;refine Z79 ?_;exact K.fin .nores (hp := h5)
  refine I7 ?_;refine Z20 ?_;refine G.loadOwnN jA jS ?_
  refine G.yield (l := l) (C := ((Ao q c rows[x].l).1 == true)) (args := [Cu rows[x], A4 0]) (fun hC => hy x rows[x] _ (List.getElem?_eq_getElem hlt) hx.2 (by simpa using ht24) (by simpa using hC)) ?_
  intro b V O hV hb hb0
  have hVO : O = [AObj.cells 46 (o1 rows[x])] ∧ (((Ao q c rows[x].l).1 = false ∧ N (x + 1) ∧ V = U (x + 1)) ∨ ((Ao q c rows[x].l).1 = true ∧ b = true ∧ N (x + 1) ∧ V = U (x + 1)) ∨ ((Ao q c rows[x].l).1 = true ∧ b = false ∧ V.length = (U 0).length ∧ (∀ y ∈ V, ObjLow (U 0).length y) ∧ Z V)) := by
   cases hcn : (Ao q c rows[x].l).1 with
   | false =>
    obtain ⟨h1, h2⟩ := hb0 (by rw [hcn]; rfl)
    obtain ⟨h3, h4⟩ := hn x _ (List.getElem?_eq_getElem hlt) hx.2 (by simpa using ht24) hcn
    exact ⟨h2, .inl ⟨rfl, h3, h1.trans h4.symm⟩⟩
   | true =>
    rcases hb (by rw [hcn]; rfl) with ⟨h1, h3, h2⟩ | ⟨h1, W, h2, h3, h4, h5⟩
    ·have h6 := List.append_inj h2 (by rw [hV, hlen x, hlen (x + 1)])
     exact ⟨h6.2, .inr (.inl ⟨rfl, h1, h3, h6.1⟩)⟩
    obtain ⟨rfl, rfl⟩ := List.append_inj h2 (by rw [hV, hlen x, h3])
    exact ⟨rfl, .inr (.inr ⟨rfl, h1, h3, h4, h5⟩)⟩
  obtain ⟨rfl, hVO⟩ := hVO
  have hVl : V.length = (U 0).length := by rw [hV, hlen x]
  have hVw : ∀ y ∈ V, ObjLow (U 0).length y := by
   rcases hVO with ⟨_, _, rfl⟩ | ⟨_, _, _, rfl⟩ | ⟨_, _, _, h, _⟩
   ·exact hlw _
   ·exact hlw _
   exact h
  refine ⟨fun _ => by rw [hVl]; exact hVw, fun o ho => (by cases ho), ?_⟩
  refine G.not ?_;refine R.pickAnd ?_;refine R.fin [0, 2, 3, 9, 10, 11, 35] ?_
  refine W.cond (fun ht35 => ?_) (fun ht35 => ?_)
  ·have hRV : Z V := by
    rcases hVO with ⟨h1, _⟩ | ⟨h1, h2, _⟩ | ⟨_, _, _, _, h5⟩
    ·rw [h1] at ht35; simp at ht35
    ·rw [h1, h2] at ht35; simp at ht35
    exact h5
   refine Z59 ?_;refine K.lpR ?_;exact K.fin .nores (hp := hRV)
  have hVn : N (x + 1) ∧ V = U (x + 1) := by
   rcases hVO with ⟨_, h2, h3⟩ | ⟨_, _, h2, h3⟩ | ⟨h1, h2, _⟩
   ·exact ⟨h2, h3⟩
   ·exact ⟨h2, h3⟩
   rw [h1, h2] at ht35; simp at ht35
  obtain ⟨hN, rfl⟩ := hVn
  refine Mk ?_;refine R.fin [0, 2, 3, 9, 10, 11] ?_;refine K.lpN (x + 1) ⟨hlt, hN⟩ (by omega) ?_
  exact StCut.take (own := []) (fun _ => .refl _) (by repeat (first | exact B7 | refine B6 (by first | (simp [or_imp, forall_and]; done) | (simp [or_imp, forall_and]; exact fun a _ => Ak _ a) | (have := hlen (x + 1); simp; omega)) ?_)) (by simp) (by simp)
 have hxe : x = rows.length := by have := hx.1; simp at ht12; omega
 refine K.lpE ?_;exact K.finN .nores (hp := by rw [hxe]; exact hR (hxe ▸ hx.2))

def Ih (c : List Col) (x : Row) (s : Str) : Val := x.l.getD (C4 s c).toNat noV
theorem fl {q : Qry} {c : List Col} {x : Row} (h : q.all = true) : Fi q c x = x := by unfold Fi; rw [h]; rfl
theorem af {q : Qry} {c : List Col} {x : Row} (h : q.all = false) : Fi q c x = ⟨x.key, q.cols.map (Ih c x)⟩ := by unfold Fi; rw [h]; rfl
theorem kx {c : List Col} {s : Str} (h : ¬ C4 s c < 0) : ∃ j : Nat, C4 s c = (j : Int) ∧ j < c.length := O6 h
theorem c20 (q : Qry) (h : QW q) (c : List Col) (hc : OkCols c) (x : Row) (hx : x.l.length ≤ 1048576) (hr : c.length = x.l.length) (hn : ∀ s ∈ q.cols, ¬ C4 s c < 0) (Hp : List AObj) : AFun Tryz.prog 20 [J4 q, C3 c, Cu x] Hp (Cu (Fi q c x)) := by
 refine ACall.body [.cell 6 46] [0, 1, 2] Tryz.func20 Tryz.ntmps20 (fun d => ?_)
 refine Lj ?_;refine R.alloc jZ ?_;refine R.fin [1, 3, 5, 6] ?_;refine B9 ?_;refine R.fieldAddrRo (off := 0) jU Tryz.sizeOf2 ?_;refine Cp ?_;refine Us ?_;refine Z16 ?_;refine R.fin [1, 3, 5, 6, 7] ?_;refine Z23 ?_;refine m6 ?_;refine R.fin [1, 3, 5, 6, 7, 14] ?_
 refine W.cond (fun ht14 => ?_) (fun ht14 => ?_)
 ·refine B9 ?_;refine m3 ?_;refine R.call Tryz.call49 (c49 x.l hx _) ?_;refine R.fieldAddrPtr (fo := 1) jU Tryz.sizeOf44 ?_;refine gz ?_;refine Z28 ?_;refine gh ?_;refine Z11 ?_;exact K.fin (V.one (V.cellN jA jS)) ⟨by rw [fl ht14], rfl⟩ (hlow := by simp [or_imp, forall_and])
 refine Z5 ?_;refine Z23 ?_;refine R.nilCell 1 1 3 ?_;refine Z60 ?_;refine Z64 ?_;refine R.fin [1, 5, 6, 7, 21, 22, 23] ?_
 refine AW.loopC (α := Nat) (fun i => ⟨41, A5 1 (C3 c) (A5 5 (.ro (o1 x)) (A5 6 (.ptr (oid Hp.length 0) 0) (A5 7 (.ptr (oid Hp.length 1) 0) (A5 21 (Gm q.cols) (A5 22 (A4 (q.cols.length : Nat)) (A5 23 (A4 (i : Nat)) (fun _ => .any))))))), Hp, [.cells 46 [A4 0, .nil], .cells 46 [A4 x.key, .slice true 3 (((q.cols.take i).map (Ih c x)).map Bl)]], [], none⟩) (fun i => i ≤ q.cols.length) (fun i => q.cols.length - i) (0) (Nat.zero_le _) (StLe.of_eq (by simp)) rfl (fun i hi => ?_)
 refine Z89 ?_;refine R.fin [1, 5, 6, 7, 21, 22, 23, 24] ?_
 refine W.condX (fun ht24 => ?_) (fun ht24 => ?_)
 ·have hlt : i < q.cols.length := by simpa using ht24
  have hkl := h.len
  obtain ⟨j, hj, hjc⟩ := kx (hn _ (List.getElem_mem hlt))
  have hk : 0 ≤ C4 q.cols[i] c ∧ (C4 q.cols[i] c).toNat < x.l.length := by omega
  have hget : (x.l.map Bl)[(C4 q.cols[i] c).toNat]? = some (Bl (Ih c x q.cols[i])) := by
   rw [List.getElem?_map, List.getElem?_eq_getElem hk.2]
   unfold Ih
   rw [List.getD_eq_getElem?_getD, List.getElem?_eq_getElem hk.2]
   rfl
  refine Qr ?_;refine R.indexAddr (i) (A8 q.cols[i]) jU jS (Bf hlt) ?_;refine Cp ?_;refine Ax ?_;refine R.fin [1, 5, 6, 7, 9, 21, 22, 23] ?_;refine W.drawY0 [0, 1, 0, 4, 0, 0, 48, 124, 252, 508, 1023, 2047, 4095] [1] [.q 1 [] [0], .s [28] (some 0) [] [], .q 8 [] []] (fun _ => Hp) (fun B => [.cells 46 [A4 0, .nil], .cells 46 (if B 0 = true then [A4 x.key, .slice false 3 (((q.cols.take i).map (Ih c x)).map Bl)] else [A4 x.key, .slice true 3 (((q.cols.take i).map (Ih c x)).map Bl)])]) Ae (by kernel_rfl) rfl rfl (fun _ => rfl) ?_
  apply Y.q
  case h1 =>
   intro B hT hF
   refine D.fieldAddrPtr (fo := 1) jU Tryz.sizeOf44 ?_;exact Jc
  case hTF => decide
  refine Y.loadOwnT (u := Hp.length) (n := 1) (t' := 46) (cs := [A4 x.key, .slice true 3 (((q.cols.take i).map (Ih c x)).map Bl)]) (cs' := [A4 x.key, .slice false 3 (((q.cols.take i).map (Ih c x)).map Bl)]) Tryz.isAgg44 (fun B hB => ⟨rfl, by simp only [hB]; rfl, by simp [upd], rfl⟩) ?_
  apply Y.q
  case h1 =>
   intro B hT hF
   refine D.fieldAddrRo (off := 1) jU Tryz.sizeOf44 ?_;refine Gs ?_;refine Qo ?_;refine D.call Tryz.call29 (c29 c hc q.cols[i] _) ?_;refine D.indexAddr ((C4 q.cols[i] c).toNat) (Bl (Ih c x q.cols[i])) jU jS hget ?_;refine Gt ?_;exact Z92
  case hTF => decide
  refine Y.tail (tn := [1]) (O := [.cells 46 [A4 0, .nil], .cells 46 [A4 x.key, .slice false 3 (((q.cols.take i).map (Ih c x)).map Bl)]]) ?_
  refine R.append jU Tryz.type24 ?_ ?_ ?_
  ·simp only [List.length_map, List.length_take, List.length_cons, List.length_nil, Tryz.t24]; omega
  ·simp only [List.length_map, List.length_take, List.length_cons, List.length_nil, Tryz.t24]; omega
  refine R.fieldAddrPtr (fo := 1) jU Tryz.sizeOf44 ?_;refine R.storeOwnT jS ?_;refine R.fin [1, 5, 6, 7, 21, 22, 23] ?_;refine Uj ?_;refine R.fin [1, 5, 6, 7, 21, 22, 23] ?_;refine K.lpN (i + 1) hlt (by omega) ?_;exact StCut.of_eq (by rw [dz hlt, List.map_append]; rfl)
 have hxe : q.cols.length ≤ i := by simpa using ht24
 refine Z54 ?_;refine Z28 ?_;refine Y5 ?_;exact K.fin (V.one (V.cellN jA jS)) ⟨by rw [af ht14, List.take_of_length_le hxe], rfl⟩ (hlow := by simp [or_imp, forall_and]; intro y hy; obtain ⟨s, _, rfl⟩ := List.mem_map.1 (List.mem_of_mem_take hy); simp [or_imp, forall_and])

def Da (q : Qry) (c : List Col) (rows : List Row) (k : Nat) : List Row := ((rows.take k).filter fun x => (Ao q c x.l).1).map (Fi q c)
theorem Ks {q : Qry} {c : List Col} {rows : List Row} {k : Nat} {y : Row} (hk : rows[k]? = some y) (hf : (Ao q c y.l).1 = false) : Da q c rows (k + 1) = Da q c rows k := by
 unfold Da
 rw [List.take_succ, hk, List.filter_append]
 simp [List.filter_cons, hf]
theorem K1 {q : Qry} {c : List Col} {rows : List Row} {k : Nat} {y : Row} (hk : rows[k]? = some y) (hf : (Ao q c y.l).1 = true) : Da q c rows (k + 1) = Da q c rows k ++ [Fi q c y] := by
 unfold Da
 rw [List.take_succ, hk, List.filter_append]
 simp [List.filter_cons, hf]
theorem O8 (q : Qry) (c : List Col) (rows : List Row) (k : Nat) : (Da q c rows k).length ≤ rows.length := by
 unfold Da
 rw [List.length_map]
 exact Nat.le_trans (List.length_filter_le _ _) (by rw [List.length_take]; omega)
def NK (q : Qry) (c : List Col) (rows : List Row) (k : Nat) : Prop := En q c rows [] = En q c (rows.drop k) (Da q c rows k)
theorem K2 {rows : List Row} {k : Nat} {y : Row} (hk : rows[k]? = some y) : rows.drop k = y :: rows.drop (k + 1) := by
 obtain ⟨h1, h2⟩ := List.getElem?_eq_some_iff.1 hk
 rw [List.drop_eq_getElem_cons h1, h2]
theorem ky {q : Qry} {c : List Col} {rows : List Row} {k : Nat} {y : Row} (hk : rows[k]? = some y) (hN : NK q c rows k) (he : (Ao q c y.l).2 ≠ 0) : En q c rows [] = ([], (Ao q c y.l).2) := by
 rw [hN, K2 hk, En, if_pos (by simpa using he)]
theorem fm {q : Qry} {c : List Col} {rows : List Row} {k : Nat} {y : Row} (hk : rows[k]? = some y) (hN : NK q c rows k) (he : (Ao q c y.l).2 = 0) (hf : (Ao q c y.l).1 = false) : NK q c rows (k + 1) := by
 unfold NK
 rw [hN, K2 hk, En, if_neg (by rw [he]; simp), if_neg (by rw [hf]; simp), Ks hk hf]
theorem o3 {q : Qry} {c : List Col} {rows : List Row} {k : Nat} {y : Row} (hk : rows[k]? = some y) (hN : NK q c rows k) (he : (Ao q c y.l).2 = 0) (hf : (Ao q c y.l).1 = true) (hl : (((Da q c rows k).length + 1 : Nat) : Int) ≠ q.lim) : NK q c rows (k + 1) := by
 unfold NK
 rw [hN, K2 hk, En, if_neg (by rw [he]; simp), if_pos hf, if_neg (by simpa using hl), K1 hk hf]
theorem kz {q : Qry} {c : List Col} {rows : List Row} {k : Nat} {y : Row} (hk : rows[k]? = some y) (hN : NK q c rows k) (he : (Ao q c y.l).2 = 0) (hf : (Ao q c y.l).1 = true) (hl : (((Da q c rows k).length + 1 : Nat) : Int) = q.lim) : En q c rows [] = (Da q c rows (k + 1), 0) := by
 rw [hN, K2 hk, En, if_neg (by rw [he]; simp), if_pos hf, if_pos (by simpa using hl), K1 hk hf]
theorem l3 {q : Qry} {c : List Col} {rows : List Row} (hN : NK q c rows rows.length) : En q c rows [] = (Da q c rows rows.length, 0) := by
 rw [hN, List.drop_length, En]
theorem sh {q : Qry} {c : List Col} {rows : List Row} : NK q c rows 0 := rfl
theorem ag {n k : Nat} {o : Bool} {l : List Row} : Low n (.slice o k (l.map Cu)) := by simp [or_imp, forall_and]
theorem low1 {n : Nat} {x : AV} (h : Low n x) : ∀ y ∈ [x], Low n y := fun y hy => by rw [List.mem_singleton.1 hy]; exact h
theorem ah {n k : Nat} {o : Bool} {l : List Row} {r : Row} : Low n (.slice o k (l.map Cu ++ [Cu r])) := by simp [or_imp, forall_and]
theorem vr {U : List AObj} {i j : Nat} {x y : AObj} (h : U[i]? = some x) (hne : j ≠ i) : (U.set j y)[i]? = some x := by rw [List.getElem?_set_ne hne]; exact h
theorem l4 {q : Qry} {c : List Col} {l : List Val} (h : (Ao q c l).2 = 0) : c.length = l.length := by
 have h1 := Zl (q := q) (c := c) (l := l) (by rw [h]; rfl)
 unfold Iu at h1
 simp only [Bool.and_eq_true, beq_iff_eq] at h1
 exact h1.1.2.symm
theorem Vz {q : Qry} {c : List Col} (h : Bu q c = 0) : ∀ s ∈ q.cols, ¬ C4 s c < 0 := by
 intro s hs hf
 unfold Bu at h
 split at h
 ·cases h
 rw [if_pos (List.any_eq_true.2 ⟨s, hs, by simpa using hf⟩)] at h
 cases h
theorem l5 {q : Qry} {c : List Col} {rows : List Row} (h : ((Bu q c != 0) || (q.lim == 0)) = true) : Cy q c rows = ([], Bu q c) := if_pos h
theorem l6 {q : Qry} {c : List Col} {rows : List Row} (h : ((Bu q c != 0) || (q.lim == 0)) = false) : Bu q c = 0 ∧ Cy q c rows = En q c rows [] := by
 refine ⟨?_, if_neg (by rw [h]; simp)⟩
 simp only [Bool.or_eq_false_iff, bne_eq_false_iff_eq] at h
 exact h.1
theorem c10 (q : Qry) (h : QW q) (c : List Col) (hc : OkCols c) (rows : List Row) (hw : RW rows) (Hp : List AObj) : AFun Tryz.prog 10 [J4 q, C3 c, Fk rows] Hp (.tup [Fk (Cy q c rows).1, A4 (Cy q c rows).2]) := by
 refine ACall.body [.cell 6 31, .cell 7 36] [0, 1, 2, 10, 11] Tryz.func10 Tryz.ntmps10 (fun d => ?_)
 refine Lj ?_;refine R.alloc jZ ?_;refine R.alloc jZ ?_;refine R.fin [2, 3, 4, 6, 7, 10, 11] ?_;refine Oe ?_;refine Cp ?_;refine R.call Tryz.call12 (c12 q h c hc _) ?_;refine Ax ?_;refine R.fin [2, 3, 4, 6, 7, 8, 10, 11] ?_;refine Z0 ?_;refine R.neq ?_;refine Au ?_;refine m8 ?_;refine G.eql ?_;refine R.pickOr ?_;refine R.fin [2, 3, 4, 6, 7, 8, 10, 11, 21] ?_
 refine W.cond (fun ht21 => ?_) (fun ht21 => ?_)
 ·have hm := l5 (rows := rows) ht21
  refine Z0 ?_;refine Dh ?_;refine R.nilOwn 0 2 ?_;refine gz ?_;refine Z11 ?_;exact K.fin (V.two (V.cell jA) (V.cell jA)) ⟨by rw [hm]; rfl, rfl⟩
 have hy := l6 (rows := rows) ht21
 refine Z5 ?_;refine Z31 ?_;refine R.fin [2, 3, 4, 6, 7, 9, 10, 11] ?_;refine Z23 ?_;refine R.nilOwn 2 2 ?_
 refine R.assumeLow (fun hlow => ?_)
 refine Dq ?_;refine Cp ?_;refine Au ?_;refine R.call Tryz.call19 (c19 q c rows _) ?_;refine R.fin [3, 4, 6, 7, 9, 10, 11, 26] ?_;refine Es ?_
 refine W.rangeV (m := 3) Tryz.call47 (fun FR as' bd' hFR has hbd => ?_)
 have hFRl : ∀ s, Low (Hp.length + 5) (FR s) := by
  intro s
  rw [hFR]
  refine Low.strip ?_
  revert s
  repeat (first | exact B7 | refine B6 (by first | (simp [oid, or_imp, forall_and]; done) | (simp [oid, or_imp, forall_and] <;> (first | exact fun a _ => Ak _ a | omega))) ?_)
 have hOl : ∀ {e : Int} {o : List Row} {lp : AObj}, ObjLow (Hp.length + 5) lp → ∀ x ∈ Hp ++ [AObj.cells 31 [AV.nil], AObj.cells 36 [A4 e], AObj.cells 31 [AV.slice true 2 ((o).map Cu)], AObj.defs, lp], ObjLow (Hp.length + 5) x := by
  intro e o lp hlp x hx
  refine Ji (fun x hx => ObjLow.le (by omega) (hlow x hx)) (fun x hx => ?_) x hx
  simp only [List.mem_cons, List.mem_nil_iff, or_false] at hx
  rcases hx with rfl | rfl | rfl | rfl | rfl
  ·intro y hy; rw [List.mem_singleton.1 hy]; simp
  ·intro y hy; rw [List.mem_singleton.1 hy]; simp
  ·intro y hy; rw [List.mem_singleton.1 hy]; exact ag
  ·trivial
  exact hlp
 have hwy : ∀ {k : Nat} {y : Row}, rows[k]? = some y → y.l.length ≤ 1048576 ∧ ∀ v ∈ y.l, -9223372036854775808 ≤ v.n ∧ v.n ≤ 9223372036854775807 := fun hk => hw.each _ (List.mem_of_getElem? hk)
 refine ⟨_, c47 (oid Hp.length 4) q h c hc rows hw (fun k => Hp ++ [AObj.cells 31 [AV.nil], AObj.cells 36 [A4 0], AObj.cells 31 [AV.slice true 2 ((Da q c rows k).map Cu)], AObj.defs, AObj.loop LoopState.ready none FR 45 #[27, 28] as' bd' (oid Hp.length 3)]) (NK q c rows) (fun V => (∃ o lp, V = Hp ++ [AObj.cells 31 [AV.nil], AObj.cells 36 [A4 0], AObj.cells 31 [AV.slice true 2 ((o).map Cu)], AObj.defs, lp] ∧ (lp = AObj.loop LoopState.ready none FR 45 #[27, 28] as' bd' (oid Hp.length 3) ∨ lp = AObj.loop LoopState.done (some (Code.exit 0)) FR 45 #[27, 28] as' bd' (oid Hp.length 3)) ∧ En q c rows [] = (o, 0)) ∨ (∃ e k, V = Hp ++ [AObj.cells 31 [AV.nil], AObj.cells 36 [A4 e], AObj.cells 31 [AV.slice true 2 ((Da q c rows k).map Cu)], AObj.defs, AObj.loop LoopState.done (some Code.ret) FR 45 #[27, 28] as' bd' (oid Hp.length 3)] ∧ En q c rows [] = ([], e))) (fun k => by simp) (by simp [oid]) (fun k => (fun x hx => by rw [List.length_append]; exact hOl (lp := AObj.loop LoopState.ready none FR 45 #[27, 28] as' bd' (oid Hp.length 3)) (by exact ⟨hFRl, by simp [oid]⟩) x hx)) sh (fun k y hk hN he0 hf => ⟨fm hk hN he0 hf, by simp only [Ks hk hf]⟩) (fun k y X hk hN hne => ?_) (fun k y X hk hN he0 hf => ?_) (fun hN => .inl ⟨_, _, rfl, .inl rfl, l3 hN⟩), ?_⟩
 ·generalize hV : Hp ++ [AObj.cells 31 [AV.nil], AObj.cells 36 [A4 0], AObj.cells 31 [AV.slice true 2 ((Da q c rows k).map Cu)], AObj.defs, AObj.loop LoopState.ready none FR 45 #[27, 28] as' bd' (oid Hp.length 3)] ++ X = V
  have hL : V[oid Hp.length 4]? = some (AObj.loop LoopState.ready none FR 45 #[27, 28] as' bd' (oid Hp.length 3)) := by rw [← hV, List.append_assoc, An]; rfl
  have hA0 : V[oid Hp.length 2]? = some (AObj.cells 31 [AV.slice true 2 ((Da q c rows k).map Cu)]) := by rw [← hV, List.append_assoc, An]; rfl
  have hB0 : V[oid Hp.length 0]? = some (AObj.cells 31 [AV.nil]) := by rw [← hV, List.append_assoc, An]; rfl
  have hC0 : V[oid Hp.length 1]? = some (AObj.cells 36 [A4 0]) := by rw [← hV, List.append_assoc, An]; rfl
  refine AYield.ofRound (pd := none) (fr := FR) (sz := 45) (ps := #[27, 28]) (df := oid Hp.length 3) (asg := as') (bd := bd') hL rfl (by decide) (fun d => ?_)
  subst hFR has hbd
  refine W.keep [3, 4, 6, 7, 9, 27, 28] ?_;refine Uf ?_;refine R.fin [3, 4, 6, 7, 9, 10, 28] ?_;refine Xy ?_;refine R.fin [3, 4, 6, 7, 9, 10, 11] ?_
  refine ⟨rfl, none, hL, ?_⟩
  generalize hbz : (AObj.loop LoopState.busy _ _ _ _ _ _ _) = bz
  have hA : (V.set (oid Hp.length 4) bz)[oid Hp.length 2]? = some (AObj.cells 31 [AV.slice true 2 ((Da q c rows k).map Cu)]) := by rw [List.getElem?_set_ne (Bs (by decide))]; exact hA0
  have hB : (V.set (oid Hp.length 4) bz)[oid Hp.length 0]? = some (AObj.cells 31 [AV.nil]) := by rw [List.getElem?_set_ne (Bs (by decide))]; exact hB0
  have hC : (V.set (oid Hp.length 4) bz)[oid Hp.length 1]? = some (AObj.cells 36 [A4 0]) := by rw [List.getElem?_set_ne (Bs (by decide))]; exact hC0
  refine Es ?_;refine Ll ?_;refine R.fin [3, 4, 6, 7, 9, 10, 11, 30] ?_
  refine W.cond (fun ht30 => ?_) (fun ht30 => ?_)
  ·refine Z0 ?_
   refine R.storeUp jS hB ?_ ?_
   ·simp
   refine R.storeUp jS (vr hC (Bs (by decide))) ?_ ?_
   ·simp
   refine bv ?_;refine K.blR ?_
   subst hbz
   refine K.rdR (Rv hL (Bs (by decide)) (Bs (by decide))) ?_
   refine ⟨Hp ++ [AObj.cells 31 [AV.nil], AObj.cells 36 [A4 (Ao q c y.l).2], AObj.cells 31 [AV.slice true 2 ((Da q c rows k).map Cu)], AObj.defs, _], ?_, by simp, (fun x hx => by rw [List.length_append]; exact hOl (lp := _) (by exact ⟨hFRl, by simp [oid]⟩) x hx), .inr ⟨_, _, rfl, ky hk hN hne⟩⟩
   subst hV
   simp only [List.append_assoc, Cj, List.cons_append, List.nil_append, List.set_cons_succ, List.set_cons_zero]
  exact absurd hne (by simpa using ht30)
 ·generalize hV : Hp ++ [AObj.cells 31 [AV.nil], AObj.cells 36 [A4 0], AObj.cells 31 [AV.slice true 2 ((Da q c rows k).map Cu)], AObj.defs, AObj.loop LoopState.ready none FR 45 #[27, 28] as' bd' (oid Hp.length 3)] ++ X = V
  have hL : V[oid Hp.length 4]? = some (AObj.loop LoopState.ready none FR 45 #[27, 28] as' bd' (oid Hp.length 3)) := by rw [← hV, List.append_assoc, An]; rfl
  have hA0 : V[oid Hp.length 2]? = some (AObj.cells 31 [AV.slice true 2 ((Da q c rows k).map Cu)]) := by rw [← hV, List.append_assoc, An]; rfl
  have hB0 : V[oid Hp.length 0]? = some (AObj.cells 31 [AV.nil]) := by rw [← hV, List.append_assoc, An]; rfl
  have hC0 : V[oid Hp.length 1]? = some (AObj.cells 36 [A4 0]) := by rw [← hV, List.append_assoc, An]; rfl
  refine AYield.ofRound (pd := none) (fr := FR) (sz := 45) (ps := #[27, 28]) (df := oid Hp.length 3) (asg := as') (bd := bd') hL rfl (by decide) (fun d => ?_)
  subst hFR has hbd
  refine W.keep [3, 4, 6, 7, 9, 27, 28] ?_;refine Uf ?_;refine R.fin [3, 4, 6, 7, 9, 10, 28] ?_;refine Xy ?_;refine R.fin [3, 4, 6, 7, 9, 10, 11] ?_
  refine ⟨rfl, none, hL, ?_⟩
  generalize hbz : (AObj.loop LoopState.busy _ _ _ _ _ _ _) = bz
  have hA : (V.set (oid Hp.length 4) bz)[oid Hp.length 2]? = some (AObj.cells 31 [AV.slice true 2 ((Da q c rows k).map Cu)]) := by rw [List.getElem?_set_ne (Bs (by decide))]; exact hA0
  have hB : (V.set (oid Hp.length 4) bz)[oid Hp.length 0]? = some (AObj.cells 31 [AV.nil]) := by rw [List.getElem?_set_ne (Bs (by decide))]; exact hB0
  have hC : (V.set (oid Hp.length 4) bz)[oid Hp.length 1]? = some (AObj.cells 36 [A4 0]) := by rw [List.getElem?_set_ne (Bs (by decide))]; exact hC0
  refine Es ?_;refine Ll ?_;refine R.fin [3, 4, 6, 7, 9, 10, 11, 30] ?_
  refine W.cond (fun ht30 => ?_) (fun ht30 => ?_)
  ·simp at ht30
  refine Z5 ?_;refine W.drawY [0, 0, 0, 0, 14, 30, 63, 127] [0] [.s [32] (some 0) [] [], .q 5 [] []] (fun B => (V.set (oid Hp.length 4) bz).set (oid Hp.length 2) (if B 0 = true then .cells 31 [AV.slice false 2 ((Da q c rows k).map Cu)] else .cells 31 [AV.slice true 2 ((Da q c rows k).map Cu)])) (fun _ => [AObj.cells 46 (o1 y)]) Ae (by kernel_rfl) (B5 hA) rfl (fun B => by simp) ?_
  refine Y.loadUpT (o := oid Hp.length 2) (t' := 31) (cs := [AV.slice true 2 ((Da q c rows k).map Cu)]) (cs' := [AV.slice false 2 ((Da q c rows k).map Cu)]) Tryz.isAgg31 (fun B hB => ⟨by simp only [hB]; exact Ad hA, (List.set_set ..).symm, rfl⟩) ?_
  apply Y.q
  case h1 =>
   intro B hT hF
   refine Gt ?_;refine Gs ?_;refine S7 ?_;refine D.call Tryz.call20 (c20 q h c hc y (hwy hk).1 (l4 he0) (Vz hy.1) _) ?_;exact Z92
  case hTF => decide
  refine Y.tail (tn := [0]) (U := (V.set (oid Hp.length 4) bz).set (oid Hp.length 2) (.cells 31 [AV.slice false 2 ((Da q c rows k).map Cu)])) ?_
  refine R.append jU Tryz.type46 ?_ ?_ ?_
  ·have hwl := hw.len; have := O8 q c rows k; simp [Tryz.t46]; omega
  ·have hwl := hw.len; have := O8 q c rows k; simp [Tryz.t46]; omega
  refine R.storeUpT jS (Ad hA) ?_ ?_
  ·exact ah
  refine R.fin [3, 9] ?_;refine B9 ?_;refine R.loadUp jA (Ad (Ad hA)) ?_;refine R.len jU ?_;refine m4 ?_;refine R.eql ?_;refine R.fin [43] ?_
  refine W.cond (fun ht43 => ?_) (fun ht43 => ?_)
  ·refine AW.exit ?_;refine K.blO (by decide) ?_
   subst hbz
   refine K.rdE (Rv hL (Bs (by decide)) (Bs (by decide))) ?_
   refine .inr ⟨rfl, Hp ++ [AObj.cells 31 [AV.nil], AObj.cells 36 [A4 0], AObj.cells 31 [AV.slice true 2 ((Da q c rows (k + 1)).map Cu)], AObj.defs, _], ?_, by simp, (fun x hx => by rw [List.length_append]; exact hOl (lp := _) (by exact ⟨hFRl, by simp [oid]⟩) x hx), .inl ⟨_, _, rfl, .inr rfl, kz hk hN he0 hf (by simpa using ht43)⟩⟩
   subst hV
   simp only [List.append_assoc, Cj, List.cons_append, List.nil_append, List.set_cons_succ, List.set_cons_zero]
   rw [K1 hk hf, List.map_append]
   rfl
  refine AW.skip ?_;refine K.blN ?_
  subst hbz
  refine K.rdN (Rv hL (Bs (by decide)) (Bs (by decide))) ?_
  refine .inl ⟨rfl, o3 hk hN he0 hf (by simpa using ht43), ?_⟩
  subst hV
  simp only [List.append_assoc, Cj, List.cons_append, List.nil_append, List.set_cons_succ, List.set_cons_zero]
  rw [K1 hk hf, List.map_append]
  rfl
 rintro r H' (⟨o, lp, rfl, rfl | rfl, hrun⟩ | ⟨e, k, rfl, hrun⟩)
 ·refine ⟨Hp, _, _, _, rfl, rfl, fun h => h, ?_, rfl, by simp, ?_⟩
  ·intro o ho
   have : o = oid Hp.length 3 := by simpa using ho
   subst this
   rw [An]
   rfl
  refine Z13 ?_;refine bl ?_;refine Dh ?_;refine gz ?_;exact oe
 ·refine ⟨Hp, _, _, _, rfl, rfl, fun h => h, ?_, rfl, by simp, ?_⟩
  ·intro o ho
   have : o = oid Hp.length 3 := by simpa using ho
   subst this
   rw [An]
   rfl
  refine AW.exit ?_;refine K.blE ?_;refine K.thN ?_;refine bl ?_;refine Dh ?_;refine gz ?_;exact oe
 refine ⟨Hp, _, _, _, rfl, rfl, fun h => h, ?_, rfl, by simp, ?_⟩
 ·intro o ho
  have : o = oid Hp.length 3 := by simpa using ho
  subst this
  rw [An]
  rfl
 refine W.nilOwn 0 2 ?_;refine Z59 ?_;exact K.fin (V.two (V.cell jA) (V.cell jA)) ⟨by rw [hy.2, hrun]; rfl, rfl⟩

theorem fp {q : Qry} (h : QW q) (n : Int) : QW (Ai q n) := ⟨h.ok, h.size, h.rng, h.len, h.names⟩
theorem l7 {rows : List Row} (h : K0 rows = false) (hg : ∀ x ∈ rows, ∀ v ∈ x.l, -9223372036854775808 ≤ v.n ∧ v.n ≤ 9223372036854775807) : RW rows ∧ rows.length ≤ 60 := by
 unfold K0 at h
 simp only [Bool.or_eq_false_iff, decide_eq_false_iff_not] at h
 obtain ⟨h1, h2⟩ := h
 refine ⟨⟨by omega, fun x hx => ⟨?_, hg x hx⟩⟩, by omega⟩
 have h3 := List.any_eq_false.1 h2 x hx
 exact fj (by simpa using h3)
theorem X8 {rows : List Row} (h : RW rows) (k : Nat) : RW (rows.take k) := ⟨by rw [List.length_take]; have := h.len; omega, fun x hx => h.each x (List.mem_of_mem_take hx)⟩
theorem X9 {rows : List Row} (h : RW rows) (k : Nat) : RW (rows.drop k) := ⟨by rw [List.length_drop]; have := h.len; omega, fun x hx => h.each x (List.mem_of_mem_drop hx)⟩
theorem ai {q : Qry} {c : List Col} {rows : List Row} (hw : RW rows) (hq : q.cols.length ≤ 1048576) (k : Nat) : ∀ x ∈ Da q c rows k, x.l.length ≤ 1048576 := by
 intro x hx
 unfold Da at hx
 obtain ⟨y, hy, rfl⟩ := List.mem_map.1 hx
 have h1 := (hw.each y (List.mem_of_mem_take (List.mem_filter.1 hy).1)).1
 unfold Fi
 show (if q.all = true then y.l else q.cols.map _).length ≤ 1048576
 split
 ·exact h1
 rw [List.length_map]; exact hq
theorem O9 {q : Qry} {c : List Col} {rows : List Row} : ∀ (r : List Row) (k : Nat), rows.drop k = r → (En q c r (Da q c rows k)).1 = [] ∨ ∃ j, (En q c r (Da q c rows k)).1 = Da q c rows j
 | [], k, _ => .inr ⟨k, rfl⟩
 | x :: r, k, hk => by
  have hx : rows[k]? = some x := by
   have : (rows.drop k)[0]? = some x := by rw [hk]; rfl
   simpa using this
  have hr : rows.drop (k + 1) = r := by
   have := K2 hx
   rw [hk] at this
   injection this with _ h
   exact h.symm
  rw [En]
  split
  ·exact .inl rfl
  split
  ·rename_i h1
   have e := K1 hx h1
   split
   ·exact .inr ⟨k + 1, e.symm⟩
   rw [← e]; exact O9 r (k + 1) hr
  rename_i h1
  rw [← Ks hx (by simpa using h1)]
  exact O9 r (k + 1) hr
theorem Ly {q : Qry} {c : List Col} {rows : List Row} (hw : RW rows) (hq : q.cols.length ≤ 1048576) : (Cy q c rows).1.length ≤ rows.length ∧ ∀ x ∈ (Cy q c rows).1, x.l.length ≤ 1048576 := by
 unfold Cy
 split
 ·exact ⟨Nat.zero_le _, fun x hx => by cases hx⟩
 rcases O9 (q := q) (c := c) (rows := rows) rows 0 rfl with h | ⟨j, h⟩
 ·rw [show ([] : List Row) = Da q c rows 0 from rfl, h]
  exact ⟨Nat.zero_le _, fun x hx => by cases hx⟩
 rw [show ([] : List Row) = Da q c rows 0 from rfl, h]
 exact ⟨O8 _ _ _ _, ai hw hq j⟩
theorem aj {α : Type} (l : List α) (n : Nat) (h : l.length < n) : l.take n = l.take l.length := by rw [List.take_of_length_le (by omega), List.take_of_length_le (Nat.le_refl _)]
theorem c4L (q : Qry) (gq : Cg F0 q.whr = true) (c : List Col) (rows : List Row) (gr : ∀ x ∈ rows, ∀ v ∈ x.l, -9223372036854775808 ≤ v.n ∧ v.n ≤ 9223372036854775807) (limit at_ : Int) (Hp : List AObj) : AFun Tryz.prog 4 [J4 q, C3 c, Fk rows, A4 limit, A4 at_] Hp (Al true) := by
 refine ACall.body [.tmp 10] [0, 1, 2, 3, 4] Tryz.func4 Tryz.ntmps4 (fun d => ?_)
 refine B9 ?_;refine bt ?_;refine R.fin [1, 2, 3, 4, 5] ?_;refine Z23 ?_;refine R.call Tryz.call6 (c5 _) ?_;refine R.not ?_;refine R.fin [1, 2, 3, 4, 5, 22] ?_
 refine W.cond (fun ht22 => ?_) (fun ht22 => ?_)
 ·cases ht22
 refine Z5 ?_;refine Z23 ?_;refine Ml ?_;refine R.call Tryz.call7 (c7 q _) ?_;refine Z20 ?_;refine G.call Tryz.call8 (fun hB => tz c _) ?_;refine R.pickOr ?_;refine Z20 ?_;refine G.call Tryz.call9 (fun hB => c9 rows _) ?_;refine R.pickOr ?_;refine R.fin [1, 2, 3, 4, 5, 32] ?_
 refine W.cond (fun ht32 => ?_) (fun ht32 => ?_)
 ·refine Z2 ?_;refine R.fin [10] ?_;refine Z11 ?_;exact Yb
 simp only [Bool.or_eq_false_iff] at ht32
 have hq0 := s8 ht32.1.1 gq
 have hq1 := fp hq0 (-1)
 have hc := jh ht32.1.2
 obtain ⟨hw, hl60⟩ := l7 ht32.2 gr
 refine Lk ?_;refine R.fieldAddrPtr (fo := 8) jU Tryz.sizeOf3 ?_;refine Dh ?_;refine R.fin [1, 2, 3, 4, 5] ?_;refine Z28 ?_;refine Z76 ?_;refine R.call Tryz.call10 (c10 (Ai q (-1)) hq1 c hc rows hw _) ?_;refine Jb ?_;refine R.fin [1, 2, 3, 4, 5, 11, 12] ?_;refine Z0 ?_;refine Ln ?_;refine Au ?_;refine R.len jU ?_
 refine R.add64 (h2 := by rw [List.length_map]; omega) ?_
 refine Ln ?_
 refine R.rem (h0 := by rw [List.length_map, wrap_u64 (by omega) (by omega)]; omega) ?_
 refine Ln ?_
 obtain ⟨k, hkl, hke⟩ := lg at_ (rows.length + 1) (by omega) (by omega)
 have hke2 : IntKind.i64.wrap ((IntKind.u64.wrap at_).tmod (IntKind.u64.wrap ((rows.length : Int) + 1))) = (k : Int) := by simpa using hke
 rw [List.length_map, hke2]
 refine Ax ?_;refine R.fin [1, 2, 3, 5, 11, 12, 13] ?_;refine ov ?_;refine Qo ?_;refine D.move ?_
 refine D.cutH k jU Tryz.sizeOf46 (Nat.zero_le _) (show k ≤ (rows.map Cu).length by rw [List.length_map]; omega) ?_
 rw [← List.map_take]
 refine D.call Tryz.call10 (c10 (Ai q (-1)) hq1 c hc (rows.take k) (X8 hw k) _) ?_;refine bi ?_;refine Rx ?_;refine Ax ?_;refine R.fin [1, 2, 3, 5, 11, 12, 13, 14, 15] ?_;refine ov ?_;refine Qo ?_;refine D.move ?_
 refine D.cutL k jU Tryz.sizeOf46 (show k ≤ (rows.map Cu).length by rw [List.length_map]; omega) (Nat.le_refl _) ?_
 rw [← List.map_drop]
 refine D.call Tryz.call10 (c10 (Ai q (-1)) hq1 c hc (rows.drop k) (X9 hw k) _) ?_;refine bi ?_;refine Rx ?_;refine Ax ?_;refine R.fin [1, 2, 3, 5, 11, 12, 14, 15, 16, 17] ?_;refine Z23 ?_
 have hfa := Ly (q := (Ai q (-1))) (c := c) hw hq1.len
 have hfb := Ly (q := (Ai q (-1))) (c := c) (X8 hw k) hq1.len
 have hfc := Ly (q := (Ai q (-1))) (c := c) (X9 hw k) hq1.len
 rw [List.length_take] at hfb
 rw [List.length_drop] at hfc
 refine Au ?_;refine R.neq ?_;refine R.fin [1, 2, 3, 5, 11, 12, 14, 15, 16, 17, 68] ?_
 refine W.cond (fun ht68 => ?_) (fun ht68 => ?_)
 ·have hlaw := Zk (q := q) (c := c) (a := rows.take k) (b := rows.drop k) (by rw [List.take_append_drop]; simpa using ht68)
  rw [List.take_append_drop] at hlaw
  refine Z29 ?_;refine Y7 ?_;refine bx ?_;refine G.move ?_;refine G.move ?_;refine G.eql ?_;refine G.pickAnd ?_;refine bo ?_;refine R.fin [10] ?_;refine Z11 ?_;exact K.fin (V.one V.tmp) ⟨by rcases hlaw with h | ⟨h1, h2⟩ <;> simp [*], rfl⟩
 have hlaw := ea (q := q) (c := c) (a := rows.take k) (b := rows.drop k) (by rw [List.take_append_drop]; simpa using ht68)
 rw [List.take_append_drop] at hlaw
 refine Z5 ?_;refine Ll ?_;refine Z20 ?_;refine Ub ?_;refine Z20 ?_;refine G.buildSlice jU jS jZ ?_;refine G.move ?_
 refine G.append jU Tryz.type46 (fun hB => ?_) (fun hB => ?_) ?_
 ·have := hfb.1; simp only [List.length_map, List.length_nil, List.length_append, List.length_take, List.length_drop, Tryz.t46] at *; omega
 ·have := hfb.1; simp only [List.length_map, List.length_nil, List.length_append, List.length_take, List.length_drop, Tryz.t46] at *; omega
 refine G.move ?_
 refine G.append jU Tryz.type46 (fun hB => ?_) (fun hB => ?_) ?_
 ·have := hfb.1; have := hfc.1; simp only [List.length_map, List.length_nil, List.length_append, List.length_take, List.length_drop, Tryz.t46] at *; omega
 ·have := hfb.1; have := hfc.1; simp only [List.length_map, List.length_nil, List.length_append, List.length_take, List.length_drop, Tryz.t46] at *; omega
 simp only [List.nil_append, ← List.map_append]
 refine G.call Tryz.call14 (fun hB => c14 (Cy (Ai q (-1)) c rows).1 ((Cy (Ai q (-1)) c (rows.take k)).1 ++ (Cy (Ai q (-1)) c (rows.drop k)).1) (by have := hfa.1; omega) hfa.2 _) ?_
 refine Ud ?_;refine R.fin [1, 2, 3, 5, 11, 96] ?_
 refine W.cond (fun ht96 => ?_) (fun ht96 => ?_)
 ·simp [hlaw.1, hlaw.2.1, hlaw.2.2] at ht96
 refine I7 ?_;refine Ln ?_;refine R.rem ?_;refine Ln ?_
 obtain ⟨n, hnl, hne⟩ := lg limit 70 (by omega) (by omega)
 have hne2 : IntKind.i64.wrap ((IntKind.u64.wrap limit).tmod 70) = (n : Int) := by
  have e : IntKind.u64.wrap ((70 : Nat) : Int) = 70 := rfl
  rw [e] at hne
  exact hne
 rw [hne2]
 refine Ax ?_;refine R.fin [1, 2, 5, 11, 18] ?_;refine Z0 ?_;refine R.fieldAddrPtr (fo := 8) jU Tryz.sizeOf3 ?_;refine Dh ?_;refine R.fin [1, 2, 5, 11, 18] ?_;refine Z28 ?_;refine Z76 ?_;refine R.call Tryz.call10 (c10 (Ai q (n : Int)) (fp hq0 _) c hc rows hw _) ?_;refine Jb ?_;refine R.fin [11, 18, 19, 20] ?_;refine Z23 ?_
 have hfs := Ly (q := Ai q (n : Int)) (c := c) hw hq0.len
 refine Z76 ?_;refine Uc ?_;refine R.fin [11, 18, 19, 20, 113] ?_
 refine W.cond (fun ht113 => ?_) (fun ht113 => ?_)
 ·refine Z26 ?_;refine R.len jU ?_;refine Ax ?_;refine R.fin [11, 18, 19, 20] ?_;refine K.thN ?_;refine B9 ?_
  simp only [List.length_map]
  refine Au ?_;refine R.eql ?_;refine K6 ?_;refine G.move ?_
  refine G.cutH (Cy (Ai q (-1)) c rows).1.length jU Tryz.sizeOf46 (fun _ => Nat.zero_le _) (fun _ => show _ ≤ ((Cy (Ai q (-1)) c rows).1.map Cu).length by rw [List.length_map]; exact Nat.le_refl _) ?_
  rw [← List.map_take]
  refine G.call Tryz.call14 (fun hB => c14 (Cy (Ai q (n : Int)) c rows).1 ((Cy (Ai q (-1)) c rows).1.take (Cy (Ai q (-1)) c rows).1.length) (by have := hfs.1; omega) hfs.2 _) ?_
  refine Z32 ?_;refine R.fin [10] ?_;refine AW.ret ?_
  have hcut := Q0 (q := q) (c := c) (r := rows) (n := n) (by omega) (by simpa using ht68)
  exact K.fin (V.one V.tmp) ⟨by rw [hcut]; rw [aj _ _ (by rw [List.length_map] at ht113; simpa using ht113)]; simp, rfl⟩
 refine I7 ?_;refine R.eql ?_;refine K6 ?_;refine G.move ?_;refine G.cutH n jU Tryz.sizeOf46 (fun _ => Nat.zero_le _) (fun _ => show n ≤ ((Cy (Ai q (-1)) c rows).1.map Cu).length by simpa using ht113) ?_
 rw [← List.map_take]
 refine G.call Tryz.call14 (fun hB => c14 (Cy (Ai q (n : Int)) c rows).1 ((Cy (Ai q (-1)) c rows).1.take n) (by have := hfs.1; omega) hfs.2 _) ?_
 refine Z32 ?_;refine R.fin [10] ?_;refine AW.ret ?_
 have hcut := Q0 (q := q) (c := c) (r := rows) (n := n) (by omega) (by simpa using ht68)
 exact K.fin (V.one V.tmp) ⟨by rw [hcut]; simp, rfl⟩

end Go.SX.Nb
