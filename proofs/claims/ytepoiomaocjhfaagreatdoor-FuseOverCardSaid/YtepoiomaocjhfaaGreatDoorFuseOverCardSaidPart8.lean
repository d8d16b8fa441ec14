/- Texts on the way to this: FuseOver answers true for whatever it is handed: any tree over any trees of any columns is what the chapter says, or the error, and the weight of trees is the sum of their nodes. (part 8) -/
import Derived.Lib.SliceRun
import Derived.Test.YtepoiomaocjhfaaGreatDoorFuseOverCardSaidPart7
set_option linter.all false
namespace Go.SX.Nb
open Go Go.SX Go.Proofs
variable [ErrAt]
set_option maxRecDepth 4000
abbrev pmO (L : List Tok) (i : Nat) : AObj := .cells 96 [Ys L, A2 (i : Int)]
abbrev mvC (m : Mov) : List AV := [A2 m.kind, .slice true 1 (m.take.map A6), .slice true 2 (m.give.map Av), .slice true 6 (m.ahead.map A3), .slice true 6 (m.back.map A3)]
abbrev mvO (m : Mov) : AObj := .cells 64 (mvC m)
abbrev Jv : AV := .v (.tuple #[])
theorem C4 {n : Nat} {L : List Tok} {i : Nat} : ObjLow n (pmO L i) := by
 show ∀ y ∈ [AV.slice false 3 (L.map Gn), A2 (i : Int)], Low n y
 intro y hy
 simp only [List.mem_cons, List.not_mem_nil, or_false] at hy
 rcases hy with rfl | rfl
 ·simp [or_imp, forall_and]
 simp
/-- A contract of the parser, of sources that are right: it comes to what the model comes to. -/
structure CP (g : FuncId) (args : List AV) (H : List AObj) {α : Type} (X : PR α) (Q : α → Nat → AV → List AObj → Prop) (R : List AObj → Prop) : Prop where
 run : (∃ c j, X = .ok c j) → ACall Tryz.prog g args H (fun r H' => ∃ c j, X = .ok c j ∧ Q c j r H')
theorem CP.ok {g : FuncId} {args : List AV} {H : List AObj} {α : Type} {X : PR α} {Q : α → Nat → AV → List AObj → Prop} {R : List AObj → Prop} {c : α} {j : Nat} (h : CP g args H X Q R) (hX : X = .ok c j) : ACall Tryz.prog g args H (fun r H' => Q c j r H') :=
 (h.run ⟨c, j, hX⟩).mono (fun r H' ⟨c', j', e, hq⟩ => by rw [hX] at e; injection e with e1 e2; subst e1; subst e2; exact hq)
theorem Be {α : Type} {X : PR α} {e a : Int} (h : ∃ c j, X = .ok c j) (hX : X = .bad e a) : False := by
 obtain ⟨c, j, h⟩ := h
 rw [hX] at h
 cases h
def PR.isOk {α : Type} : PR α → Bool
 | .ok _ _ => true
 | .bad _ _ => false
theorem wl {α : Type} {X : PR α} (h : X.isOk = true) : ∃ c j, X = .ok c j := by
 cases X with
 | ok c j => exact ⟨c, j, rfl⟩
 | bad e a => cases h
/-- The parser's object alone has turned. -/
def W1 (L : List Tok) (o : Nat) (Hp H' : List AObj) : Prop := ∃ j, H' = Hp.set o (pmO L j)
theorem c88 (L : List Tok) (i o : Nat) (Hp : List AObj) (ho : Hp[o]? = some (pmO L i)) (hi : i < L.length) : AFun Tryz.prog 88 [.ptr o 0] Hp (Gn (A7 L i)) := by
 refine ACall.body [.cell 2 125] [0] Tryz.func88 Tryz.ntmps88 (fun d => ?_)
 refine uo ?_;refine Z56 ?_
 refine D.go (h := Q.loadUp ho) (hr := ?_)
 refine Z56 ?_
 refine D.go (h := Q.loadUp ho) (hr := ?_)
 refine D.tail ?_
 refine R.go (h := Q.indexAddr (i) (Gn (A7 L i)) (fun _ => Oo hi)) (hr := ?_)
 refine R.go ?_;exact mc

theorem wm (L : List Tok) (s : Str) (i o : Nat) (Hp : List AObj) (ho : Hp[o]? = some (pmO L i)) (hi : i < L.length) : AFun Tryz.prog 162 [.ptr o 0, A6 s] Hp (An (isP L s i)) := by
 refine ACall.body [.tmp 4] [0, 1] Tryz.func162 Tryz.ntmps162 (fun d => ?_)
 refine Z54 ?_;refine qx ?_;refine Z15 ?_;refine R.fin [1, 5] ?_;refine Z33 ?_;refine Z58 ?_;refine Wv ?_;exact mn

/-! Where the parser of moves comes to. -/
def PR.In {α : Type} (x : PR α) (i n : Nat) : Prop := ∀ r j, x = .ok r j → i < j ∧ j < n
theorem PR.bind_ok {α β : Type} {x : PR α} {f : α → Nat → PR β} {r : β} {j : Nat} (h : x.bind f = .ok r j) : ∃ a k, x = .ok a k ∧ f a k = .ok r j := by
 cases x with
 | ok a k => exact ⟨a, k, rfl, h⟩
 | bad e a => cases h
theorem o8 {L : List Tok} {s : Str} {i : Nat} (h : isP L s i = true) : (A7 L i).kind ≠ 0 := by
 unfold isP at h
 simp only [Bool.and_eq_true, Bool.or_eq_true, beq_iff_eq] at h
 rcases h.1 with h | h <;> rw [h] <;> decide
theorem Dt {L : List Tok} (hl : TokEnd L) {s : Str} {i : Nat} (hi : i < L.length) : (Bg L s i).In i L.length := by
 intro r j h
 unfold Bg at h
 split at h
 ·rename_i h1
  injection h with _ h
  subst h
  exact ⟨Nat.lt_succ_self i, hl.step hi (o8 h1)⟩
 cases h
theorem F3 {L : List Tok} (hl : TokEnd L) {i : Nat} (hi : i < L.length) : (Ef L i).In i L.length := by
 intro r j h
 unfold Ef at h
 split at h
 ·cases h
 rename_i h1
 injection h with _ h
 subst h
 have hk : (A7 L i).kind = 1 := by simpa using h1
 exact vh
theorem o9 {L : List Tok} (hl : TokEnd L) {nm : Str} {i : Nat} (hi : i < L.length) : (Zk L nm i).In i L.length := by
 intro r j h
 unfold Zk at h
 split at h
 ·cases h
 rename_i h1
 injection h with _ h
 subst h
 have hk : (A7 L i).kind = 2 := by simp only [Bool.not_eq_true, Bool.or_eq_false_iff, bne_eq_false_iff_eq] at h1; exact h1.1
 exact vh
theorem Rf {L : List Tok} (hl : TokEnd L) {i : Nat} (hi : i < L.length) : (Gf L i).In i L.length := by
 intro r j h
 obtain ⟨a, k, h1, h2⟩ := PR.bind_ok h
 obtain ⟨a1, a2⟩ := F3 hl hi _ _ h1
 obtain ⟨b1, b2⟩ := o9 hl a2 _ _ h2
 exact ⟨by omega, b2⟩
theorem L9 {L : List Tok} (hl : TokEnd L) (hll : L.length ≤ 500000) {i : Nat} (hi : i < L.length) {x : Expr} {k : Nat} (h : I5 L i = .ok x k) : i ≤ k ∧ k < L.length := by
 unfold I5 at h
 split at h
 ·cases h
 rename_i h0
 injection h with _ h
 subst h
 have h0 : (atM L i).2.2.1 = 0 := by simpa using h0
 have hq := P7 hl (by omega : L.length ≤ 1048576) hi
 unfold atM at h0 ⊢
 split at h0
 ·rename_i h1
  have : (atS L i (atR L i)).code = 0 := h0
  rw [this] at h1
  cases h1
 rename_i h1
 rw [if_neg h1]
 have e : (atS L i (atR L i)).i = (atR L i).2.i := by
  unfold atS
  repeat' split
  all_goals first | rfl | exact failM_i.1
 show i ≤ ((atS L i (atR L i)).i : Int).toNat ∧ ((atS L i (atR L i)).i : Int).toNat < _
 rw [Int.toNat_natCast, e]
 exact ⟨hq.le, hq.lt⟩
/-- A move has no more parts than so many. -/
structure MvLe (m : Mov) (n : Nat) : Prop where
 take : m.take.length ≤ n
 give : m.give.length ≤ n
 ahead : m.ahead.length ≤ n
 back : m.back.length ≤ n
theorem MvLe.mono {m : Mov} {i j : Nat} (h : MvLe m i) (hij : i ≤ j) : MvLe m j := ⟨Nat.le_trans h.take hij, Nat.le_trans h.give hij, Nat.le_trans h.ahead hij, Nat.le_trans h.back hij⟩
/-- What a part of a move comes to. -/
def s7 (x : PR Mov) (i n : Nat) : Prop := ∀ m j, x = .ok m j → i ≤ j ∧ j < n ∧ MvLe m (2 * j)
/-- A part of a move that goes on from i. -/
def Qa (L : List Tok) (one : Mov → Nat → PR Mov) : Prop := ∀ m i, MvLe m (2 * i - 1) → 0 < i → i < L.length → s7 (one m i) i L.length
theorem Gx {L : List Tok} (hl : TokEnd L) (hll : L.length ≤ 500000) : Qa L (Co L) := by
 intro m i hm _ hi m' k h
 obtain ⟨c, j, h1, h2⟩ := PR.bind_ok h
 obtain ⟨u, j2, h3, h4⟩ := PR.bind_ok h2
 obtain ⟨x, j3, h5, h6⟩ := PR.bind_ok h4
 injection h6 with h6 h7
 subst h6; subst h7
 have a1 := Rf hl hi _ _ h1
 have a2 := Dt hl a1.2 _ _ h3
 have a3 := L9 hl hll a2.2 h5
 obtain ⟨b1, b2, b3, b4⟩ := hm
 exact ⟨by omega, a3.2, by show m.take.length ≤ _; omega, by show (m.give ++ [c]).length ≤ _; rw [List.length_append, List.length_singleton]; omega, by show (m.ahead ++ [x]).length ≤ _; rw [List.length_append, List.length_singleton]; omega, by show m.back.length ≤ _; omega⟩
theorem Vn {L : List Tok} (hl : TokEnd L) (hll : L.length ≤ 500000) : Qa L (N1 L) := by
 intro m i hm h0 hi m' k h
 obtain ⟨x, j, h1, h2⟩ := PR.bind_ok h
 injection h2 with h6 h7
 subst h6; subst h7
 have a3 := L9 hl hll hi h1
 obtain ⟨b1, b2, b3, b4⟩ := hm
 exact ⟨by omega, a3.2, by show m.take.length ≤ _; omega, by show m.give.length ≤ _; omega, by show m.ahead.length ≤ _; omega, by show (m.back ++ [x]).length ≤ _; rw [List.length_append, List.length_singleton]; omega⟩
theorem Pa {L : List Tok} (hl : TokEnd L) : Qa L (L8 L) := by
 intro m i hm _ hi m' k h
 obtain ⟨s, j, h1, h2⟩ := PR.bind_ok h
 injection h2 with h6 h7
 subst h6; subst h7
 have a1 := F3 hl hi _ _ h1
 obtain ⟨b1, b2, b3, b4⟩ := hm
 exact ⟨by omega, a1.2, by show (m.take ++ [s]).length ≤ _; rw [List.length_append, List.length_singleton]; omega, by show m.give.length ≤ _; omega, by show m.ahead.length ≤ _; omega, by show m.back.length ≤ _; omega⟩
theorem Hv {L : List Tok} {s : Str} {i : Nat} {u : Unit} {j : Nat} (h : Bg L s i = .ok u j) : j = i + 1 := by
 unfold Bg at h
 split at h
 ·injection h with _ h; exact h.symm
 cases h
theorem Vo {L : List Tok} (hl : TokEnd L) {n : Int} {one : Mov → Nat → PR Mov} (hP : Qa L one) : ∀ (f k : Nat) (m : Mov) (i : Nat), MvLe m (2 * i) → 0 < i → i < L.length → s7 (L7 L n one f k m i) i L.length
 | 0, k, m, i, hm, h0, hi => fun m' j h => by
  injection h with h1 h2
  subst h1; subst h2
  exact ⟨Nat.le_refl _, hi, hm⟩
 | f + 1, k, m, i, hm, h0, hi => fun m' j h => by
  rw [L7] at h
  split at h
  ·obtain ⟨u, j1, h1, h2⟩ := PR.bind_ok h
   obtain ⟨m1, j2, h3, h4⟩ := PR.bind_ok h2
   have e := Hv h1
   have a1 := Dt hl hi _ _ h1
   obtain ⟨b1, b2, b3⟩ := hP m j1 (hm.mono (by omega)) (by omega) a1.2 _ _ h3
   obtain ⟨c1, c2, c3⟩ := Vo hl hP f (k + 1) m1 j2 b3 (by omega) b2 _ _ h4
   exact X1
  injection h with h1 h2
  subst h1; subst h2
  exact ⟨Nat.le_refl _, hi, hm⟩
theorem La {L : List Tok} (hl : TokEnd L) {n : Int} {one : Mov → Nat → PR Mov} (hP : Qa L one) : Qa L (F0 L n one) := by
 intro m i hm h0 hi m' k h
 obtain ⟨m1, j, h1, h2⟩ := PR.bind_ok h
 obtain ⟨b1, b2, b3⟩ := hP m i hm h0 hi _ _ h1
 obtain ⟨c1, c2, c3⟩ := Vo hl hP _ _ m1 j b3 (by omega) b2 _ _ h2
 exact X1
theorem Np {L : List Tok} (hl : TokEnd L) (hll : L.length ≤ 500000) {m : Mov} {i : Nat} (hm : MvLe m (2 * i)) (hi : i < L.length) : s7 (Dk L m i) i L.length := by
 intro m' k h
 obtain ⟨u, j, h1, h2⟩ := PR.bind_ok h
 have e := Hv h1
 have a1 := Dt hl hi _ _ h1
 obtain ⟨c1, c2, c3⟩ := La hl (Vn hl hll) m j (hm.mono (by omega)) (by omega) a1.2 _ _ h2
 exact X1
theorem db {L : List Tok} (hl : TokEnd L) : Qa L (Gg L) := by
 intro m i hm h0 hi m' k h
 obtain ⟨s, j, h1, h2⟩ := PR.bind_ok h
 obtain ⟨u, j2, h3, h4⟩ := PR.bind_ok h2
 obtain ⟨t, j3, h5, h6⟩ := PR.bind_ok h4
 injection h6 with h6 h7
 subst h6; subst h7
 have a1 := F3 hl hi _ _ h1
 have a2 := Dt hl a1.2 _ _ h3
 have a3 := F3 hl a2.2 _ _ h5
 exact ⟨by omega, a3.2, by show 1 ≤ _; omega, by show 1 ≤ _; omega, by show 1 ≤ _; omega, by show 1 ≤ _; omega⟩
theorem MvLe.takeS {m : Mov} {n : Nat} (h : MvLe m n) {s : Str} (h1 : 1 ≤ n) : MvLe (takeS m s) n := ⟨h1, h.give, h.ahead, h.back⟩
theorem Zo {L : List Tok} (hl : TokEnd L) (hll : L.length ≤ 500000) : Qa L (F1 L) := by
 intro m i hm h0 hi m' k h
 unfold F1 at h
 split at h
 ·exact Gx hl hll m i hm h0 hi _ _ h
 split at h
 ·obtain ⟨s, j, h1, h2⟩ := PR.bind_ok h
  have a1 := F3 hl hi _ _ h1
  obtain ⟨c1, c2, c3⟩ := Np hl hll ((hm.mono (by omega : 2 * i - 1 ≤ 2 * j)).takeS (by omega)) a1.2 _ _ h2
  exact X1
 split at h
 ·exact db hl m i hm h0 hi _ _ h
 split at h
 ·obtain ⟨s, j, h1, h2⟩ := PR.bind_ok h
  obtain ⟨u, j2, h3, h4⟩ := PR.bind_ok h2
  obtain ⟨m1, j3, h5, h6⟩ := PR.bind_ok h4
  have a1 := F3 hl hi _ _ h1
  have a2 := Dt hl a1.2 _ _ h3
  obtain ⟨b1, b2, b3⟩ := La hl (Gx hl hll) (takeS m s) j2 ((hm.mono (by omega : 2 * i - 1 ≤ 2 * j2 - 1)).takeS (by omega)) (by omega) a2.2 _ _ h5
  obtain ⟨c1, c2, c3⟩ := Np hl hll b3 b2 _ _ h6
  exact X1
 split at h
 ·obtain ⟨m1, j, h1, h2⟩ := PR.bind_ok h
  obtain ⟨u, j2, h3, h4⟩ := PR.bind_ok h2
  obtain ⟨m2, j3, h5, h6⟩ := PR.bind_ok h4
  obtain ⟨b1, b2, b3⟩ := La hl (Pa hl) m i hm h0 hi _ _ h1
  have e := Hv h3
  have a2 := Dt hl b2 _ _ h3
  obtain ⟨d1, d2, d3⟩ := Gx hl hll m1 j2 (b3.mono (by omega)) (by omega) a2.2 _ _ h5
  obtain ⟨c1, c2, c3⟩ := Np hl hll d3 d2 _ _ h6
  exact X1
 split at h
 ·obtain ⟨m1, j, h1, h2⟩ := PR.bind_ok h
  obtain ⟨d1, d2, d3⟩ := Gx hl hll m i hm h0 hi _ _ h1
  obtain ⟨c1, c2, c3⟩ := Np hl hll (d3.takeS (by omega)) d2 _ _ h2
  exact X1
 injection h with h1 h2
 subst h1; subst h2
 exact ⟨Nat.le_refl _, hi, hm.mono (by omega)⟩
theorem k8 {s : Str} {y x : Expr} (h : ((x.op == 2) && (x.text == s)) = true) : Eb s y x = y := by rw [Yx, if_pos h]
theorem Zp {s : Str} {y x : Expr} (h : ((x.op == 2) && (x.text == s)) = false) : Eb s y x = .mk x.op x.text x.val (x.kids.map (Eb s y)) := by rw [Yx, if_neg (by rw [h]; simp)]
theorem Kd (o : Int) (t : Str) (v : Val) (k : List Expr) : A3 (.mk o t v k) = .agg [A2 o, .v (sv t), A2 v.kind, A2 v.n, .v (sv v.s), .slice false 6 (k.map A3)] := by rw [A8]; rfl
theorem k9 {α β : Type} {f : α → β} {l : List α} {x : Nat} (h : x < l.length) : (l.take (x + 1)).map f = (l.take x).map f ++ [f l[x]] := by rw [List.take_succ_eq_append_getElem h, List.map_append]; rfl
theorem ka {n : Nat} {x : Expr} {o : Bool} {l : List Expr} : ObjLow n (.cells 45 [A2 x.op, .v (sv x.text), A2 x.val.kind, A2 x.val.n, .v (sv x.val.s), .slice o 6 (l.map A3)]) := by
 show ∀ z ∈ [A2 x.op, AV.v (sv x.text), A2 x.val.kind, A2 x.val.n, AV.v (sv x.val.s), AV.slice o 6 (l.map A3)], Low n z
 intro z hz
 simp only [List.mem_cons, List.not_mem_nil, or_false] at hz
 rcases hz with rfl | rfl | rfl | rfl | rfl | rfl
 all_goals first | exact Bb | simp
theorem zc {α : Type} {P : α → Prop} {a b : α} (h1 : P a) (h2 : P b) : ∀ x ∈ [a, b], P x := by
 intro x hx
 simp only [List.mem_cons, List.not_mem_nil, or_false] at hx
 rcases hx with rfl | rfl
 ·exact h1
 exact h2
theorem c51 (s : Str) (y : Expr) : ∀ (n : Nat) (x : Expr), okE n x → ∀ Hp : List AObj, AFun Tryz.prog 51 [A3 x, A6 s, A3 y] Hp (A3 (Eb s y x)) := by
 intro n
 induction n with
 | zero => exact fun x h => h.elim
 | succ n ih =>
 intro x hok Hp
 refine ACall.body [.cell 6 45] [0, 1, 2] Tryz.func51 Tryz.ntmps51 (fun d => ?_)
 refine Z4 ?_;refine R.alloc jZ ?_;refine R.fin [1, 3, 5, 6] ?_;refine Z46 ?_;refine Z9 ?_;refine Lo ?_;refine R.fin [1, 3, 5, 6, 17] ?_
 refine W.cond (fun ht17 => ?_) (fun ht17 => ?_)
 ·refine Z80 ?_;refine U3 ?_;exact K.fin (V.one (V.cellN jA jS)) ⟨by rw [k8 ht17, A8], rfl⟩ (hlow := low_agg _)
 refine Lp ?_;refine Z25 ?_;refine X0 ?_;refine Z15 ?_;refine R.fin [1, 3, 5, 6, 7] ?_;refine Z65 ?_;refine R.nilCell 1 5 6 ?_;refine R.go ?_;refine R.fin [1, 3, 5, 6, 7, 8] ?_
 refine AW.loopC (α := Nat) (fun i => ⟨47, A4 1 (A6 s) (A4 3 (.ro (Ba x)) (A4 5 (.ro (Ba y)) (A4 6 (.ptr (oid Hp.length 0) 0) (A4 7 (.ptr (oid Hp.length 1) 0) (A4 8 (A2 (i : Nat)) (fun _ => .any)))))), Hp, [.cells 45 [A2 0, A6 [], A2 0, A2 0, A6 [], .nil], .cells 45 [A2 x.op, .v (sv x.text), A2 x.val.kind, A2 x.val.n, .v (sv x.val.s), .slice true 6 (((x.kids.take i).map (Eb s y)).map A3)]], [], none⟩) (fun i => i ≤ x.kids.length) (fun i => x.kids.length - i) (0) (Nat.zero_le _) (StLe.of_eq (by simp)) rfl (fun i hi => ?_)
 refine Z18 ?_;refine Z1 ?_;refine R.fin [1, 3, 5, 6, 7, 8, 30] ?_
 refine W.cond (fun ht30 => ?_) (fun ht30 => ?_)
 ·have hlt : i < x.kids.length := by simpa using ht30
  have hkl := hok.2.1
  refine Z62 ?_;refine W.drawY0 [0, 1, 0, 4, 0, 28, 60, 0, 0, 508, 1020, 2047, 4095, 8191] [1] [.q 1 [] [0], .s [34] (some 0) [] [], .q 9 [] []] (fun _ => Hp) (fun B => [.cells 45 [A2 0, A6 [], A2 0, A2 0, A6 [], .nil], .cells 45 (if B 0 = true then [A2 x.op, .v (sv x.text), A2 x.val.kind, A2 x.val.n, .v (sv x.val.s), .slice false 6 (((x.kids.take i).map (Eb s y)).map A3)] else [A2 x.op, .v (sv x.text), A2 x.val.kind, A2 x.val.n, .v (sv x.val.s), .slice true 6 (((x.kids.take i).map (Eb s y)).map A3)])]) Ad (by kernel_rfl) rfl rfl (fun _ => rfl) ?_
  apply Y.q
  case h1 =>
   intro B hT hF
   exact Z68
  case hTF => decide
  refine Y.loadOwnT (u := Hp.length) (n := 1) (t' := 45) (cs := [A2 x.op, .v (sv x.text), A2 x.val.kind, A2 x.val.n, .v (sv x.val.s), .slice true 6 (((x.kids.take i).map (Eb s y)).map A3)]) (cs' := [A2 x.op, .v (sv x.text), A2 x.val.kind, A2 x.val.n, .v (sv x.val.s), .slice false 6 (((x.kids.take i).map (Eb s y)).map A3)]) Tryz.isAgg43 (fun B hB => ⟨rfl, by simp only [hB]; rfl, by simp [upd], rfl⟩) ?_
  apply Y.q
  case h1 =>
   intro B hT hF
   refine Z56 ?_
   refine D.go (h := Q.indexAddr (i) (A3 x.kids[i]) (fun _ => Ak hlt)) (hr := ?_)
   refine Z56 ?_;refine D.call Tryz.call51 (ih x.kids[i] (hok.2.2 _ (List.getElem_mem hlt)) _) ?_;exact Z44
  case hTF => decide
  refine Y.tail (tn := [1]) (O := [.cells 45 [A2 0, A6 [], A2 0, A2 0, A6 [], .nil], .cells 45 [A2 x.op, .v (sv x.text), A2 x.val.kind, A2 x.val.n, .v (sv x.val.s), .slice false 6 (((x.kids.take i).map (Eb s y)).map A3)]]) ?_
  refine R.append jU Tryz.type45 ?_ ?_ ?_
  ·simp only [List.length_map, List.length_take, List.length_cons, List.length_nil, Tryz.t45]; omega
  ·simp only [List.length_map, List.length_take, List.length_cons, List.length_nil, Tryz.t45]; omega
  refine R.go ?_;refine R.storeOwnT jS ?_;refine R.fin [1, 3, 5, 6, 7, 8] ?_;refine Px ?_;refine R.fin [1, 3, 5, 6, 7, 8] ?_
  refine K.lpN (i + 1) hlt (by omega) (StCut.of_eq ?_)
  rw [k9 hlt, List.map_append, List.map_cons, List.map_nil, A8]
  rfl
 have hxe : x.kids.length ≤ i := by simpa using ht30
 refine Z59 ?_;refine Z80 ?_;refine Z67 ?_;exact K.fin (V.one (V.cellN jA jS)) ⟨by rw [Zp ht17, Kd, List.take_of_length_le hxe], rfl⟩ (hlow := by have := Ab Hp.length (Eb s y x); rw [Zp ht17, Kd] at this; rw [List.take_of_length_le hxe]; exact this)

abbrev xo (own : Bool) (t : Str) (ks : List Expr) : AObj := .cells 45 [A2 6, A6 t, A2 0, A2 0, A6 [], .slice own 6 (ks.map A3)]
theorem s8 {n : Nat} {own : Bool} {t : Str} {ks : List Expr} : ObjLow n (xo own t ks) := by
 show ∀ z ∈ [A2 6, A6 t, A2 0, A2 0, A6 [], AV.slice own 6 (ks.map A3)], Low n z
 intro z hz
 simp only [List.mem_cons, List.not_mem_nil, or_false] at hz
 rcases hz with rfl | rfl | rfl | rfl | rfl | rfl
 all_goals first | exact Bb | simp
theorem oa : Ci (.agg #[.int .i64 0, .string ⟨#[]⟩, .int .i64 0, .int .i64 0, .string ⟨#[]⟩, .slice none 0 0]) = .agg [A2 0, A6 [], A2 0, A2 0, A6 [], .nil] := rfl
attribute [go_sem] oa
theorem gA {Hp : List AObj} {o ox : Nat} {z A B : AObj} (ho : Hp[o]? = some z) (hne : ox ≠ o) : ((Hp.set o A).set ox B)[o]? = some A := by rw [List.getElem?_set_ne hne]; exact getset ho
theorem gB {Hp : List AObj} {o ox : Nat} {z A B : AObj} (hox : Hp[ox]? = some z) : ((Hp.set o A).set ox B)[ox]? = some B := by
 have := (List.getElem?_eq_some_iff.1 hox).1
 simp [this]
theorem kb {Hp : List AObj} {o ox : Nat} {A A' B : AObj} (hne : ox ≠ o) : ((Hp.set o A).set ox B).set o A' = (Hp.set o A').set ox B := by rw [List.set_comm _ _ hne, List.set_set]
theorem Ke (ks : List Expr) (x : Expr) : ks.map A3 ++ [.agg [.v (.int .i64 x.op), .v (sv x.text), .v (.int .i64 x.val.kind), .v (.int .i64 x.val.n), .v (sv x.val.s), .slice false 6 (x.kids.map A3)]] = (ks ++ [x]).map A3 := by rw [List.map_append, List.map_cons, List.map_nil, A8 x]
theorem zd (l : List Tok) (S : PS) (t : Str) (Dv : Fam) (o ox : Nat) (Hp : List AObj) (hne : ox ≠ o) (ho : Hp[o]? = some (pr l S)) (hox : Hp[ox]? = some (xo true t [])) (hi : S.i < l.length) (hl : TokEnd l) (hll : l.length ≤ 1048576) (hf : Ck l S.nest Dv.ei) (hcf : PC 219 l Dv.ei S.nest) : ACall Tryz.prog 269 [.ptr ox 0, .ro [.ptr o 0]] Hp (fun r H' => r = A3 (.mk 6 t noV (F7 l Dv.ei S).1) ∧ H' = (Hp.set o (pr l (F7 l Dv.ei S).2)).set ox (xo true t (F7 l Dv.ei S).1)) := by
 have hoxl := (List.getElem?_eq_some_iff.1 hox).1
 have hol := (List.getElem?_eq_some_iff.1 ho).1
 refine ACall.body [.cell 2 45] [0, 1] Tryz.func269 Tryz.ntmps269 (fun d => ?_)
 refine Z29 ?_;refine R.fin [0, 1, 2] ?_
 refine W.drawT [0, 1, 0, 4, 3, 0, 63, 127, 255, 127, 639] [1, 3] [.q 1 [] [0], .s [4] (some 0) [] [], .q 1 [] [1], .s [6] (some 1) [] [], .q 2 [] []] (fun B => (Hp.set o (if B 1 = true then pr l (Dv.ei S).2 else pr l S)).set ox (if B 0 = true then xo false t [] else xo true t [])) (fun _ => [H0]) Ad (by kernel_rfl) (by simp only [Bool.false_eq_true, if_false]; rw [Ed ho, Ed hox]) rfl (fun B => by simp) ?_
 apply Y.q
 case h1 =>
  intro B hT hF
  exact Z68
 case hTF => decide
 refine Y.loadUpT (o := ox) (t' := 45) (cs := [A2 6, A6 t, A2 0, A2 0, A6 [], .slice true 6 ([].map A3)]) (cs' := [A2 6, A6 t, A2 0, A2 0, A6 [], .slice false 6 ([].map A3)]) Tryz.isAgg43 (fun B hB => ⟨by simp only [hB]; exact gB hox, by simp [upd, List.set_set] <;> rfl, rfl⟩) ?_
 apply Y.q
 case h1 =>
  intro B hT hF
  exact Z68
 case hTF => decide
 refine Y.callUp (r := A3 (Dv.ei S).1) (o := o) (x0 := pr l S) (x := pr l (Dv.ei S).2) Tryz.call219 (fun B hT hF hB => ⟨by simp only [hB]; exact gA ho hne, ?_, rfl, Bj, ?_⟩) ?_
 ·simp only [upd, hB, Nat.reduceEqDiff, if_false, if_true, Bool.false_eq_true]
  exact (kb hne).symm
 ·simp only [hB]
  exact hcf o _ S (A5 (gA ho hne)) hi rfl
 apply Y.q
 case h1 =>
  intro B hT hF
  exact mg
 case hTF => decide
 refine Y.appendPut (tn := [1, 3]) (U := (Hp.set o (pr l (Dv.ei S).2)).set ox (xo false t [])) (O := [H0]) (o := ox) (t' := 45) (cs := [A2 6, A6 t, A2 0, A2 0, A6 [], .slice false 6 ([].map A3)]) (by kernel_rfl) jU Tryz.type45 Tryz.sizeOf45 Tryz.sizeOf43 jU (A5 (gB hox)) ?_ ?_ ?_ (hfsz := Tryz.sizeOf43)
 ·simp [Tryz.t45]
 ·simp [Tryz.t45]
 refine R.go ?_
 refine R.storeUpT jS (gB hox) ?_ ?_
 ·first | (rw [Ke]; exact Bb) | (have := Bb (n := ((Hp.set o (pr l (Dv.ei S).2)).set ox (xo false t [])).length) (k := 6) (o := true) (l := [(Dv.ei S).1]); simp only [List.map_cons, List.map_nil, A8] at this; exact this)
 refine R.fin [0, 1, 2] ?_;refine W.seq ?_
 refine AW.loopC (α := List Expr × PS) (fun r => ⟨34, A4 0 (.ptr ox 0) (A4 1 (.ro [.ptr o 0]) (A4 2 (.ptr (oid Hp.length 0) 0) (fun _ => .any))), (Hp.set o (pr l r.2)).set ox (xo true t r.1), [H0], [], none⟩) (fun r => ArgsAt l Dv.ei S r) (fun r => l.length - r.2.i) (([(Dv.ei S).1], (Dv.ei S).2)) (.start (hf S hi rfl)) (StLe.of_eq (by simp [List.set_set, xo, A8])) rfl (fun r hx => ?_)
 refine Z46 ?_
 refine R.go (h := Q.loadUp (gA ho hne)) (hr := ?_)
 refine Z82 ?_;refine G.call Tryz.call249 (fun hB => Vh l r.2 P0 o _ (A5 (gA ho hne)) hx.fact.lt hl (by decide)) ?_;refine R.go ?_;refine R.fin [0, 1, 2, 21] ?_
 refine W.cond (fun ht21 => ?_) (fun ht21 => ?_)
 ·have hon := hx.on hl ht21 hf
  have hle := hon.2.1.le
  have hlt0 := hx.fact.lt
  refine gt ?_;refine Z0 ?_;refine R.callUp Tryz.call250 (gA ho hne) (by simp) Bj (jn l r.2 o _ (A5 (gA ho hne)) hx.fact.lt hll) ?_;refine R.fin [0, 1, 2] ?_
  refine W.drawT0 [0, 1, 0, 4, 3, 0, 63, 127, 255, 127, 639] [1, 3] [.q 1 [] [0], .s [25] (some 0) [] [], .q 1 [] [1], .s [27] (some 1) [] [], .q 2 [] []] (fun B => (Hp.set o (if B 1 = true then pr l (Dv.ei (A9 r.2)).2 else pr l (A9 r.2))).set ox (if B 0 = true then xo false t r.1 else xo true t r.1)) (fun _ => [H0]) Ad (by kernel_rfl) (by simp only [Bool.false_eq_true, if_false]; exact (kb hne).symm) rfl (fun B => by simp) ?_
  apply Y.q
  case h1 =>
   intro B hT hF
   exact Z68
  case hTF => decide
  refine Y.loadUpT (o := ox) (t' := 45) (cs := [A2 6, A6 t, A2 0, A2 0, A6 [], .slice true 6 (r.1.map A3)]) (cs' := [A2 6, A6 t, A2 0, A2 0, A6 [], .slice false 6 (r.1.map A3)]) Tryz.isAgg43 (fun B hB => ⟨by simp only [hB]; exact gB hox, by simp [upd, List.set_set] <;> rfl, rfl⟩) ?_
  apply Y.q
  case h1 =>
   intro B hT hF
   exact Z68
  case hTF => decide
  refine Y.callUp (r := A3 (Dv.ei (A9 r.2)).1) (o := o) (x0 := pr l (A9 r.2)) (x := pr l (Dv.ei (A9 r.2)).2) Tryz.call219 (fun B hT hF hB => ⟨by simp only [hB]; exact gA ho hne, ?_, rfl, Bj, ?_⟩) ?_
  ·simp only [upd, hB, Nat.reduceEqDiff, if_false, if_true, Bool.false_eq_true]
   exact (kb hne).symm
  ·simp only [hB]
   exact hcf o _ (A9 r.2) (A5 (gA ho hne)) hon.1 hx.fact.nest
  apply Y.q
  case h1 =>
   intro B hT hF
   exact mg
  case hTF => decide
  refine Y.appendPut (tn := [1, 3]) (U := (Hp.set o (pr l (Dv.ei (A9 r.2)).2)).set ox (xo false t r.1)) (O := [H0]) (o := ox) (t' := 45) (cs := [A2 6, A6 t, A2 0, A2 0, A6 [], .slice false 6 (r.1.map A3)]) (by kernel_rfl) jU Tryz.type45 Tryz.sizeOf45 Tryz.sizeOf43 jU (A5 (gB hox)) ?_ ?_ ?_ (hfsz := Tryz.sizeOf43)
  ·have := hx.fact.len; have := hx.fact.lt; simp only [List.length_map, Tryz.t45]; omega
  ·have := hx.fact.len; have := hx.fact.lt; simp only [List.length_map, Tryz.t45]; omega
  refine R.go ?_
  refine R.storeUpT jS (gB hox) ?_ ?_
  ·first | (rw [Ke]; exact Bb) | (have := Bb (n := ((Hp.set o (pr l (Dv.ei S).2)).set ox (xo false t [])).length) (k := 6) (o := true) (l := [(Dv.ei S).1]); simp only [List.map_cons, List.map_nil, A8] at this; exact this)
  refine R.fin [0, 1, 2] ?_;refine K.blN ?_
  refine K.lpN (r.1 ++ [(Dv.ei (A9 r.2)).1], (Dv.ei (A9 r.2)).2) hon.2.2 (by show l.length - (Dv.ei (A9 r.2)).2.i < l.length - r.2.i; have : r.2.i + 1 ≤ (Dv.ei (A9 r.2)).2.i := hle; omega) (StCut.of_eq ?_)
  simp only [show Tryz.t45.size = 6 from rfl, Ke, List.set_set]
 have hout := hx.out (by rw [ht21]; simp)
 refine Z59 ?_;refine Cs ?_
 refine R.go (h := Q.loadUpN (gB hox)) (hr := ?_)
 refine Z11 ?_;exact K.fin (V.one (V.cellN jA jS)) ⟨by rw [hout, Kd]; rfl, by rw [hout]⟩ (hlow := by have := Ab Hp.length (.mk 6 t noV r.1); rw [Kd] at this; simpa using this)

/-- within, with the function that gathers a call's kids. -/
theorem wn (l : List Tok) (S : PS) (a : Int) (t : Str) (Dv : Fam) (o : Nat) (Hp : List AObj) (A0 A1 : AObj) (l0 : ObjLow 0 A0) (ho : Hp[o]? = some (pr l S)) (hi : S.i < l.length) (hl : TokEnd l) (hll : l.length ≤ 1048576) (hnl : S.nest ≤ 30) (hd : DeepC l Dv S.nest) :
  ACall Tryz.prog 260 [.ptr o 0, A2 a, .fn (.func 269) [] [.ptr (oid Hp.length 2) 0, .ro [.ptr o 0]]] (Hp ++ [A0, A1, xo true t []]) (fun r H' => r = A3 (if S.nest = 30 then Aa else .mk 6 t noV (Mz l a Dv.ei S).1) ∧ H' = Hp.set o (pr l (Mz l a Dv.ei S).2) ++ [A0, A1, xo true t (Mz l a Dv.ei S).1]) := by
 have hlt := (List.getElem?_eq_some_iff.1 ho).1
 have ho' : (Hp ++ [A0, A1, xo true t []])[o]? = some (pr l S) := A5 ho
 by_cases h30 : S.nest = 30
 ·refine (nt l S a 269 [] [.ptr (oid Hp.length 2) 0, .ro [.ptr o 0]] Aa (Bm S) o (Hp ++ [A0, A1, xo true t []]) ((Hp ++ [A0, A1, xo true t []]).set o (pr l (Bm S))) ho' (by omega) Tryz.call269 (by simp) (getset ho') rfl (fun h => h) (fun h => absurd h30 h)).mono fun r H' h => ?_
  have e : Mz l a Dv.ei S = ([], Ce 18 a S) := if_pos (by rw [h30]; rfl)
  rw [e, if_pos h30]
  obtain ⟨h1, h2⟩ := h.1 h30
  exact ⟨h1, by rw [h2, List.set_append_left _ _ hlt]⟩
 have hq := P2 (S := Bm S) hl hi (hd.ei h30).1
 refine (nt l S a 269 [] [.ptr (oid Hp.length 2) 0, .ro [.ptr o 0]] (.mk 6 t noV (F7 l Dv.ei (Bm S)).1) (F7 l Dv.ei (Bm S)).2 o (Hp ++ [A0, A1, xo true t []]) (Hp.set o (pr l (F7 l Dv.ei (Bm S)).2) ++ [A0, A1, xo true t (F7 l Dv.ei (Bm S)).1]) ho' (by omega) Tryz.call269 (by simp) (A5 (getset ho)) hq.nest (fun h y hy => ?_) (fun _ own => ?_)).mono fun r H' h => ?_
 ·rw [List.set_append_left _ _ hlt] at h
  rcases List.mem_append.1 hy with hy | hy
  ·rcases List.mem_or_eq_of_mem_set hy with h1 | h1
   ·obtain ⟨i, hi', rfl⟩ := List.getElem_of_mem h1
    by_cases hio : i = o
    ·subst hio
     have : Hp[i] = pr l S := by rw [List.getElem?_eq_getElem hi'] at ho; injection ho
     rw [this]; exact Bj
    refine h _ (List.mem_append_left _ ?_)
    rw [List.mem_iff_getElem?]
    exact ⟨i, by rw [List.getElem?_set_ne (Ne.symm hio), List.getElem?_eq_getElem hi']⟩
   rw [h1]; exact Bj
  simp only [List.mem_cons, List.not_mem_nil, or_false] at hy
  rcases hy with rfl | rfl | rfl
  ·exact h _ (List.mem_append_right _ (by simp))
  ·exact h _ (List.mem_append_right _ (by simp))
  exact s8
 ·have hoid : oid Hp.length 2 ≠ o := by unfold oid; omega
  have e1 : (Hp ++ [A0, A1, xo true t []]).set o (pr l (Bm S)) ++ own = (Hp.set o (pr l (Bm S)) ++ [A0, A1, xo true t []]) ++ own := by rw [List.set_append_left _ _ hlt]
  rw [e1]
  have g1 : ((Hp.set o (pr l (Bm S)) ++ [A0, A1, xo true t []]) ++ own)[o]? = some (pr l (Bm S)) := A5 (A5 (getset ho))
  have g2 : ((Hp.set o (pr l (Bm S)) ++ [A0, A1, xo true t []]) ++ own)[oid Hp.length 2]? = some (xo true t []) := A5 (by
   have := Aw (U := Hp.set o (pr l (Bm S))) (O := [A0, A1, xo true t []]) (n := 2)
   rw [List.length_set] at this
   exact this)
  refine (zd l (Bm S) t Dv o (oid Hp.length 2) _ hoid g1 g2 hi hl hll (hd.ei h30).1 (hd.ei h30).2).mono fun r H' h => ⟨h.1, h.2.trans ?_⟩
  rw [List.append_assoc, List.set_append_left _ _ (by simpa using hlt), List.set_set]
  have := E5 (U := Hp.set o (pr l (F7 l Dv.ei (Bm S)).2)) (O := [A0, A1, xo true t []] ++ own) (n := 2) (x := xo true t (F7 l Dv.ei (Bm S)).1)
  rw [List.length_set] at this
  rw [this]
  simp
 have e : Mz l a Dv.ei S = ((F7 l Dv.ei (Bm S)).1, R2 (F7 l Dv.ei (Bm S)).2) := if_neg (by
  show ¬ (((S.nest : Int) == 30) = true)
  simp
  omega)
 rw [e, if_neg h30]
 obtain ⟨h1, h2⟩ := h.2 h30
 exact ⟨h1, by rw [h2, List.set_append_left _ _ (by simpa using hlt), List.set_set]⟩
theorem ze (l : List Tok) (S : PS) (Dv : Fam) (t : Tok) (o : Nat) (Hp : List AObj) (ho : Hp[o]? = some (pr l S)) (hi : (A9 S).i < l.length) (hl : TokEnd l) (hll : l.length ≤ 1048576) (hnl : S.nest ≤ 30) (hd : DeepC l Dv S.nest) : ACall Tryz.prog 267 [.ptr o 0, Gn t] Hp (fun r H' => r = A3 (F8 l Dv t S).1 ∧ H' = Hp.set o (pr l (F8 l Dv t S).2)) := by
 have hi0 : S.i < l.length := by have : S.i + 1 < l.length := hi; omega
 have hol := (List.getElem?_eq_some_iff.1 ho).1
 have hkf : KFact l (A9 S) (Bw l Dv S) := P3 hl _ hi (fun h => (hd.ei h).1)
 refine ACall.body [.cell 4 45] [0, 1] Tryz.func267 Tryz.ntmps267 (fun d => ?_)
 refine Z4 ?_;refine R.alloc jZ ?_;refine R.fin [2, 3, 4] ?_;refine Z4 ?_;refine R.call Tryz.call110 (rj t.text _) ?_;refine R.go ?_;refine R.fin [2, 3, 4, 5] ?_;refine Z28 ?_;refine R.fin [2, 3, 4, 5, 12] ?_
 refine W.cond (fun ht12 => ?_) (fun ht12 => ?_)
 ·have hlt0 : Ay t.text < 0 := by simpa using ht12
  have e : F8 l Dv t S = (Aa, Ce 9 t.at_ S) := if_pos hlt0
  refine Z7 ?_;refine R.callUp Tryz.call221 ho (by simp) Bj (cw l S 9 t.at_ o _ (A5 ho)) ?_;refine Fa ?_;refine gm ?_;exact vi
 have hge : ¬ Ay t.text < 0 := by simpa using ht12
 refine O2 ?_;refine R.callUp Tryz.call250 ho (by simp) Bj (jn l S o _ (A5 ho) hi0 hll) ?_;refine Z15 ?_;refine R.fin [2, 3, 4, 5, 6] ?_;refine qq ?_;refine Z15 ?_;refine R.fin [2, 3, 4, 5, 6, 7] ?_;refine Cs ?_;refine R.nilCell 2 5 6 ?_;refine Z25 ?_;refine Ip ?_
 refine R.callX (up' := (Hp.set o (pr l (A9 S))).set o (pr l (Bw l Dv S).2)) (own' := [H0, .cells 125 [A2 (A7 l S.i).kind, A6 (A7 l S.i).text, A2 (A7 l S.i).at_], xo true t.text (Bw l Dv S).1]) Tryz.call260 (by have := wn l (A9 S) (A7 l S.i).at_ t.text Dv o (Hp.set o (pr l (A9 S))) H0 (.cells 125 [A2 (A7 l S.i).kind, A6 (A7 l S.i).text, A2 (A7 l S.i).at_]) T3 (getset ho) hi hl hll hnl hd; rw [List.length_set] at this; exact this) (by simp) (fun h => nv h Bj) ?_
 refine R.fin [2, 3, 4, 5, 7] ?_;refine Z0 ?_;refine R.callUp Tryz.call268 (getset (getset ho)) (by simp) Bj (w9 l (Bw l Dv S).2 Dc o _ (A5 (getset (getset ho))) hkf.lt hll) ?_;refine R.fin [2, 3, 4, 5, 7] ?_;refine Z46 ?_
 refine R.go (h := Q.loadUp (getset (getset (getset ho)))) (hr := ?_)
 refine Z36 ?_;refine Wu ?_;refine R.fin [2, 3, 4, 7, 41] ?_
 refine W.cond (fun ht41 => ?_) (fun ht41 => ?_)
 ·have e : F8 l Dv t S = (Aa, Ce 8 t.at_ (Di l Dc (Bw l Dv S).2)) := by
   unfold F8
   rw [if_neg hge, if_pos (by have := ht41; simp only [List.length_map] at this; exact this)]
  refine Z7 ?_;refine R.callUp Tryz.call221 (getset (getset (getset ho))) (by simp) Bj (cw l (Di l Dc (Bw l Dv S).2) 8 t.at_ o _ (A5 (getset (getset (getset ho))))) ?_;refine Fa ?_;refine gm ?_;exact K.fin (V.one (V.cellN jA jS)) ⟨by rw [e, A8], by rw [e, List.set_set, List.set_set, List.set_set]⟩ (hlow := low_agg _)
 have e : F8 l Dv t S = (.mk 6 t.text noV (Bw l Dv S).1, (Di l Dc (Bw l Dv S).2)) := by
  unfold F8
  rw [if_neg hge, if_neg (by have := ht41; simp only [List.length_map] at this; rw [Bool.eq_false_iff] at this; exact this)]
 refine Z6 ?_;refine Z80 ?_;refine Z26 ?_;exact K.fin (V.one (V.cellN jA jS)) ⟨by rw [e, Kd]; rfl, by rw [e, List.set_set, List.set_set]⟩ (hlow := by have := Ab Hp.length (.mk 6 t.text noV (Bw l Dv S).1); rw [Kd] at this; simpa using this)

theorem dc {l : List Tok} (hl : TokEnd l) (hll : l.length ≤ 1048576) (n : Nat) (Dv : Fam) (hn : n ≤ 30) (hd : DeepC l Dv n) : Vi l Dv n := fun o Hp S t ho hi hS _ _ => by
 subst hS
 exact ze l S Dv t o Hp ho hi hl hll hn hd
theorem Y4 (L : List Tok) (s : Str) (i o : Nat) (Hp : List AObj) (ho : Hp[o]? = some (pmO L i)) (hi : i < L.length) (hll : L.length ≤ 500000) : CP 123 [.ptr o 0, A6 s] Hp (Bg L s i) (fun _ j r H' => r = Jv ∧ H' = Hp.set o (pmO L j)) (W1 L o Hp) := by
 refine ⟨fun hX => ?_⟩
 refine ACall.body [] [0, 1] Tryz.func123 Tryz.ntmps123 (fun d => ?_)
 refine Z28 ?_;refine R.call Tryz.call162 (wm L s i o _ (A5 ho) hi) ?_;refine R.go ?_;refine R.fin [0, 7] ?_
 refine W.cond (fun ht7 => ?_) (fun ht7 => ?_)
 ·have hq : isP L s i = false := by simpa using ht7
  have e : Bg L s i = .bad 8 (A7 L i).at_ := if_neg (by rw [hq]; simp)
  exact gz
 have hq : isP L s i = true := by simpa using ht7
 have e : Bg L s i = .ok () (i + 1) := if_pos hq
 refine Z6 ?_;refine Z35 ?_
 refine R.go (h := Q.loadUp ho) (hr := ?_)
 refine Z25 ?_
 refine R.storeUp jS ho ?_ ?_
 ·simp
 refine R.fin [] ?_;exact K.finN .nores (hp := ⟨(), i + 1, e, rfl, rfl⟩)

theorem dd (L : List Tok) (i o : Nat) (Hp : List AObj) (ho : Hp[o]? = some (pmO L i)) (hi : i < L.length) (hll : L.length ≤ 500000) : CP 156 [.ptr o 0] Hp (Ef L i) (fun s j r H' => r = A6 s ∧ H' = Hp.set o (pmO L j)) (W1 L o Hp) := by
 refine ⟨fun hX => ?_⟩
 refine ACall.body [.tmp 2] [0] Tryz.func156 Tryz.ntmps156 (fun d => ?_)
 refine Z38 ?_;refine qx ?_;refine Z15 ?_;refine H5 ?_;refine Z18 ?_;refine R.fin [0, 3, 8] ?_
 refine W.cond (fun ht8 => ?_) (fun ht8 => ?_)
 ·have e : Ef L i = .bad 8 (A7 L i).at_ := if_pos ht8
  exact gz
 have e : Ef L i = .ok (A7 L i).text (i + 1) := if_neg (by rw [ht8]; simp)
 refine Lp ?_
 refine R.go (h := Q.loadUp ho) (hr := ?_)
 refine Z25 ?_
 refine R.storeUp jS ho ?_ ?_
 ·simp
 refine R.fin [3] ?_;refine Z7 ?_;refine Z2 ?_;exact K.fin (V.one V.tmp) (hp := ⟨_, i + 1, e, rfl, rfl⟩)

theorem getset {Hp : List AObj} {o : Nat} {A B : AObj} (h : Hp[o]? = some A) : (Hp.set o B)[o]? = some B := by
 have := (List.getElem?_eq_some_iff.1 h).1
 simp [this]
theorem zf (L : List Tok) (i o : Nat) (Hp : List AObj) (ho : Hp[o]? = some (pmO L i)) (hi : i < L.length) (hl : TokEnd L) (hll : L.length ≤ 500000) : CP 177 [.ptr o 0] Hp (Gf L i) (fun c j r H' => r = Av c ∧ H' = Hp.set o (pmO L j)) (W1 L o Hp) := by
 refine ⟨fun hX => ?_⟩
 refine ACall.body [.cell 2 58] [0] Tryz.func177 Tryz.ntmps177 (fun d => ?_)
 refine Z51 ?_
 rcases hN : Ef L i with ⟨s, j⟩ | ⟨e, a⟩
 rotate_left
 ·exact (Be hX (by first | exact by unfold Gf; rw [hN]; rfl | exact hN)).elim
 have hj : j < L.length := (F3 hl hi _ _ hN).2
 have e0 : Gf L i = Zk L s j := by unfold Gf; rw [hN]; rfl
 refine Z0 ?_;refine R.callUp (x := pmO L j) Tryz.call156 ho (by simp) C4 ((dd L i o _ (A5 ho) hi hll).ok hN) ?_;refine Ud ?_;refine U1 ?_;refine Z0 ?_;refine R.call Tryz.call88 (c88 L j o _ (A5 (getset ho)) hj) ?_;refine Z15 ?_;refine R.fin [0, 2, 3, 4] ?_;refine Z28 ?_;refine R.call Tryz.call198 (yl (A7 L j).text _) ?_;refine Z69 ?_;refine R.fin [0, 2, 3, 4] ?_;refine Z33 ?_;refine Wu ?_;refine R.fin [0, 2, 3, 21] ?_
 refine W.cond (fun ht21 => ?_) (fun ht21 => ?_)
 ·have e : Gf L i = .bad 8 (A7 L j).at_ := by rw [e0]; exact if_pos ht21
  exact gz
 have e : Gf L i = .ok ⟨s, Mx (A7 L j).text⟩ (j + 1) := by rw [e0]; exact if_neg (by rw [ht21]; simp)
 refine Lp ?_
 refine R.go (h := Q.loadUp (getset ho)) (hr := ?_)
 refine Z25 ?_
 refine R.storeUp jS (getset ho) ?_ ?_
 ·simp
 refine Et ?_;refine Z0 ?_;refine Z11 ?_;exact K.fin (V.one (V.cellN jA jS)) (hp := ⟨_, j + 1, e, rfl, by rw [List.set_set]; rfl⟩)

theorem wo (L : List Tok) (i o : Nat) (Hp : List AObj) (ho : Hp[o]? = some (pmO L i)) (hi : i < L.length) (hl : TokEnd L) (hll : L.length ≤ 500000) : CP 178 [.ptr o 0] Hp (I5 L i) (fun c j r H' => r = A3 c ∧ H' = Hp.set o (pmO L j)) (W1 L o Hp) := by
 refine ⟨fun hX => ?_⟩
 refine ACall.body [.cell 2 45] [0] Tryz.func178 Tryz.ntmps178 (fun d => ?_)
 refine Z51 ?_;refine W.drawY [0, 1, 3, 7, 0, 16, 48, 112, 255, 511, 1023, 1023, 1023, 0, 0, 26623, 61439, 131071] [] [.q 13 [] [], .s [3] none [] [], .s [5] none [] [], .s [3] none [] [], .q 1 [] [], .s [5] none [] []] (fun _ => Hp) (fun _ => [.cells 45 [A2 0, A6 [], A2 0, A2 0, A6 [], .nil]]) Ad (by kernel_rfl) rfl rfl (fun _ => rfl) ?_
 apply Y.q
 case h1 =>
  intro B hT hF
  refine Z56 ?_
  refine D.go (h := Q.loadUp ho) (hr := ?_)
  refine Z56 ?_
  refine D.go (h := Q.loadUp ho) (hr := ?_)
  refine D.call Tryz.call199 (za L i hi hl hll (fun n Dv h1 h2 => dc hl (by omega) n Dv h1 h2) _) ?_;exact gg
 case hTF => decide
 refine Y.allocP Tryz.zeroValue45 ?_;refine Y.allocP Tryz.zeroValue60 ?_;refine Y.storeP Tryz.sizeOf45 ?_
 apply Y.q
 case h1 =>
  intro B hT hF
  exact Z68
 case hTF => decide
 refine Y.storeP Tryz.sizeOf60 ?_;refine Y.tail (tn := [])  ?_;refine R.fin [0, 2, 3, 4, 5] ?_;refine Z18 ?_;refine R.fin [0, 2, 3, 4, 5, 21] ?_
 refine W.cond (fun ht21 => ?_) (fun ht21 => ?_)
 ·have e : I5 L i = .bad (atM L i).2.2.1 (atM L i).2.2.2 := if_pos ht21
  exact gz
 obtain ⟨k, hk, hkl⟩ := o6 hl (by omega) hi (by simpa using ht21)
 have e : I5 L i = .ok (atM L i).1 k := (if_neg (by rw [ht21]; simp)).trans (by rw [hk]; rfl)
 rw [hk]
 refine Z6 ?_;refine Z33 ?_
 refine R.storeUp jS ho ?_ ?_
 ·simp
 refine Et ?_;refine Z0 ?_;refine Z11 ?_;exact K.fin (V.one (V.cellN jA jS)) (hp := ⟨_, k, e, (A8 _).symm, rfl⟩) (hlow := by have := Ab Hp.length (atM L i).1; rw [A8] at this; exact this)

abbrev N2 (s : Sign) : AV := .agg [.slice false 1 (s.kids.map A2), A2 s.own]
theorem Fs {n : Nat} (s : Sign) : Low n (N2 s) := by simp [or_imp, forall_and]
theorem s9 {m : Sign} {a o : Int} (h : m = ⟨[a], o⟩) : AV.agg [.slice false 1 [A2 a], A2 o] = N2 m := by rw [h]; rfl
theorem kc {m : Sign} {a b o : Int} (h : m = ⟨[a, b], o⟩) : AV.agg [.slice false 1 [A2 a, A2 b], A2 o] = N2 m := by rw [h]; rfl
theorem sa {m : Sign} {a b c o : Int} (h : m = ⟨[a, b, c], o⟩) : AV.agg [.slice false 1 [A2 a, A2 b, A2 c], A2 o] = N2 m := by rw [h]; rfl
theorem zg (s : Str) (Hp : List AObj) : AFun Tryz.prog 147 [A6 s] Hp (N2 (Ge s)) := by
 refine ACall.body [.cell 2 148] [0] Tryz.func147 Tryz.ntmps147 (fun d => ?_)
 refine Z51 ?_;refine Z34 ?_;refine Et ?_;refine gr ?_;refine R.fin [2, 3, 4] ?_
 refine W.cond (fun ht4 => ?_) (fun ht4 => ?_)
 ·refine Z6 ?_
  refine W.cond (fun ht4 => ?_) (fun ht4 => ?_)
  ·exact Z50
  refine Z28 ?_;refine R.fin [2, 3, 9] ?_
  refine W.cond (fun ht9 => ?_) (fun ht9 => ?_)
  ·refine Z6 ?_
   refine W.cond (fun ht9 => ?_) (fun ht9 => ?_)
   ·exact Z50
   refine Z74 ?_
   refine W.cond (fun ht18 => ?_) (fun ht18 => ?_)
   ·exact Z50
   exact Z92
  refine Z83 ?_
  refine W.cond (fun ht9 => ?_) (fun ht9 => ?_)
  ·refine Z6 ?_
   refine W.cond (fun ht9 => ?_) (fun ht9 => ?_)
   ·exact Z50
   refine Z74 ?_
   refine W.cond (fun ht18 => ?_) (fun ht18 => ?_)
   ·exact Z50
   exact Z92
  refine Z83 ?_
  refine W.cond (fun ht9 => ?_) (fun ht9 => ?_)
  ·refine Z6 ?_
   refine W.cond (fun ht9 => ?_) (fun ht9 => ?_)
   ·exact Z50
   refine Z74 ?_
   refine W.cond (fun ht18 => ?_) (fun ht18 => ?_)
   ·exact Z50
   exact Z92
  refine Z83 ?_
  refine W.cond (fun ht9 => ?_) (fun ht9 => ?_)
  ·refine Z6 ?_
   refine W.cond (fun ht9 => ?_) (fun ht9 => ?_)
   ·exact Z50
   refine Z74 ?_
   refine W.cond (fun ht18 => ?_) (fun ht18 => ?_)
   ·exact Z50
   exact Z92
  refine Z83 ?_
  refine W.cond (fun ht9 => ?_) (fun ht9 => ?_)
  ·refine Z6 ?_
   refine W.cond (fun ht9 => ?_) (fun ht9 => ?_)
   ·exact Z50
   refine Z74 ?_
   refine W.cond (fun ht18 => ?_) (fun ht18 => ?_)
   ·exact Z50
   exact Z92
  refine Z13 ?_;refine R.fin [2, 3, 9] ?_;refine K.thN ?_
  refine W.cond (fun ht9 => ?_) (fun ht9 => ?_)
  ·exact Z50
  refine Z74 ?_
  refine W.cond (fun ht18 => ?_) (fun ht18 => ?_)
  ·exact Z50
  exact Z92
 refine Z13 ?_;refine R.fin [2, 3, 4] ?_;refine K.thN ?_
 refine W.cond (fun ht4 => ?_) (fun ht4 => ?_)
 ·exact Z50
 refine Z28 ?_;refine R.fin [2, 3, 9] ?_
 refine W.cond (fun ht9 => ?_) (fun ht9 => ?_)
 ·refine Z6 ?_
  refine W.cond (fun ht9 => ?_) (fun ht9 => ?_)
  ·exact Z50
  refine Z74 ?_
  refine W.cond (fun ht18 => ?_) (fun ht18 => ?_)
  ·exact Z50
  exact Z92
 refine Z83 ?_
 refine W.cond (fun ht9 => ?_) (fun ht9 => ?_)
 ·refine Z6 ?_
  refine W.cond (fun ht9 => ?_) (fun ht9 => ?_)
  ·exact Z50
  refine Z74 ?_
  refine W.cond (fun ht18 => ?_) (fun ht18 => ?_)
  ·exact Z50
  exact Z92
 refine Z83 ?_
 refine W.cond (fun ht9 => ?_) (fun ht9 => ?_)
 ·refine Z6 ?_
  refine W.cond (fun ht9 => ?_) (fun ht9 => ?_)
  ·exact Z50
  refine Z74 ?_
  refine W.cond (fun ht18 => ?_) (fun ht18 => ?_)
  ·exact Z50
  exact Z92
 refine Z83 ?_
 refine W.cond (fun ht9 => ?_) (fun ht9 => ?_)
 ·refine Z6 ?_
  refine W.cond (fun ht9 => ?_) (fun ht9 => ?_)
  ·exact Z50
  refine Z74 ?_
  refine W.cond (fun ht18 => ?_) (fun ht18 => ?_)
  ·exact Z50
  exact Z92
 refine Z83 ?_
 refine W.cond (fun ht9 => ?_) (fun ht9 => ?_)
 ·refine Z6 ?_
  refine W.cond (fun ht9 => ?_) (fun ht9 => ?_)
  ·exact Z50
  refine Z74 ?_
  refine W.cond (fun ht18 => ?_) (fun ht18 => ?_)
  ·exact Z50
  exact Z92
 refine Z13 ?_;refine R.fin [2, 3, 9] ?_;refine K.thN ?_
 refine W.cond (fun ht9 => ?_) (fun ht9 => ?_)
 ·exact Z50
 refine Z74 ?_
 refine W.cond (fun ht18 => ?_) (fun ht18 => ?_)
 ·exact Z50
 exact Z92

theorem zh (s : Str) (Hp : List AObj) : AFun Tryz.prog 148 [A6 s] Hp (N2 (Ey s)) := by
 refine ACall.body [.cell 2 148] [0] Tryz.func148 Tryz.ntmps148 (fun d => ?_)
 refine Z51 ?_;refine Z34 ?_;refine Et ?_;refine gr ?_;refine R.fin [2, 3, 4] ?_
 refine W.cond (fun ht4 => ?_) (fun ht4 => ?_)
 ·refine Z6 ?_
  refine W.cond (fun ht4 => ?_) (fun ht4 => ?_)
  ·exact Z76
  refine Z83 ?_
  refine W.cond (fun ht9 => ?_) (fun ht9 => ?_)
  ·exact Z76
  refine Z28 ?_;refine R.fin [2, 3, 13] ?_
  refine W.cond (fun ht13 => ?_) (fun ht13 => ?_)
  ·refine Z6 ?_
   refine W.cond (fun ht13 => ?_) (fun ht13 => ?_)
   ·exact Z76
   refine mh ?_
   refine W.cond (fun ht18 => ?_) (fun ht18 => ?_)
   ·exact Z76
   refine Z4 ?_;refine R.fin [2, 22] ?_
   refine W.cond (fun ht22 => ?_) (fun ht22 => ?_)
   ·exact Z76
   exact mi
  refine Z13 ?_;refine R.fin [2, 3, 13] ?_;refine K.thN ?_
  refine W.cond (fun ht13 => ?_) (fun ht13 => ?_)
  ·exact Z76
  refine mh ?_
  refine W.cond (fun ht18 => ?_) (fun ht18 => ?_)
  ·exact Z76
  refine Z4 ?_;refine R.fin [2, 22] ?_
  refine W.cond (fun ht22 => ?_) (fun ht22 => ?_)
  ·exact Z76
  exact mi
 refine Z13 ?_;refine R.fin [2, 3, 4] ?_;refine K.thN ?_
 refine W.cond (fun ht4 => ?_) (fun ht4 => ?_)
 ·exact Z76
 refine Z83 ?_
 refine W.cond (fun ht9 => ?_) (fun ht9 => ?_)
 ·exact Z76
 refine Z28 ?_;refine R.fin [2, 3, 13] ?_
 refine W.cond (fun ht13 => ?_) (fun ht13 => ?_)
 ·refine Z6 ?_
  refine W.cond (fun ht13 => ?_) (fun ht13 => ?_)
  ·exact Z76
  refine mh ?_
  refine W.cond (fun ht18 => ?_) (fun ht18 => ?_)
  ·exact Z76
  refine Z4 ?_;refine R.fin [2, 22] ?_
  refine W.cond (fun ht22 => ?_) (fun ht22 => ?_)
  ·exact Z76
  exact mi
 refine Z13 ?_;refine R.fin [2, 3, 13] ?_;refine K.thN ?_
 refine W.cond (fun ht13 => ?_) (fun ht13 => ?_)
 ·exact Z76
 refine mh ?_
 refine W.cond (fun ht18 => ?_) (fun ht18 => ?_)
 ·exact Z76
 refine Z4 ?_;refine R.fin [2, 22] ?_
 refine W.cond (fun ht22 => ?_) (fun ht22 => ?_)
 ·exact Z76
 exact mi

theorem zi (e : Expr) (Hp : List AObj) : AFun Tryz.prog 116 [A3 e] Hp (N2 (Bs e.op e.text)) := by
 refine ACall.body [.cell 2 148] [0] Tryz.func116 Tryz.ntmps116 (fun d => ?_)
 refine gq ?_;refine R.fin [1, 2] ?_;refine Z28 ?_;refine R.fin [1, 2, 4] ?_;refine Z87 ?_;refine R.fin [1, 2, 4, 5] ?_
 refine W.cond (fun ht5 => ?_) (fun ht5 => ?_)
 ·refine Z30 ?_;refine Z5 ?_
  first | (by_cases e0 : Bs e.op e.text = ⟨[1], 1⟩; exact K.fin (V.one (V.cellN Tryz.isAgg148 Tryz.sizeOf148)) ⟨by rw [e0]; rfl, rfl⟩; exfalso; apply e0; simp_all [Bs]; done) | (by_cases e0 : Bs e.op e.text = ⟨[3], 3⟩; exact K.fin (V.one (V.cellN Tryz.isAgg148 Tryz.sizeOf148)) ⟨by rw [e0]; rfl, rfl⟩; exfalso; apply e0; simp_all [Bs]; done) | (by_cases e0 : Bs e.op e.text = Ge e.text; exact K.fin (V.one (V.cellN Tryz.isAgg148 Tryz.sizeOf148)) ⟨by rw [e0], rfl⟩ (hlow := Fs _); exfalso; apply e0; simp_all [Bs]; done) | (by_cases e0 : Bs e.op e.text = Ey e.text; exact K.fin (V.one (V.cellN Tryz.isAgg148 Tryz.sizeOf148)) ⟨by rw [e0], rfl⟩ (hlow := Fs _); exfalso; apply e0; simp_all [Bs]; done)
 refine Z4 ?_;refine R.fin [1, 2, 4, 9] ?_
 refine W.cond (fun ht9 => ?_) (fun ht9 => ?_)
 ·refine Z30 ?_;refine Z5 ?_
  first | (by_cases e0 : Bs e.op e.text = ⟨[1], 1⟩; exact K.fin (V.one (V.cellN Tryz.isAgg148 Tryz.sizeOf148)) ⟨by rw [e0]; rfl, rfl⟩; exfalso; apply e0; simp_all [Bs]; done) | (by_cases e0 : Bs e.op e.text = ⟨[3], 3⟩; exact K.fin (V.one (V.cellN Tryz.isAgg148 Tryz.sizeOf148)) ⟨by rw [e0]; rfl, rfl⟩; exfalso; apply e0; simp_all [Bs]; done) | (by_cases e0 : Bs e.op e.text = Ge e.text; exact K.fin (V.one (V.cellN Tryz.isAgg148 Tryz.sizeOf148)) ⟨by rw [e0], rfl⟩ (hlow := Fs _); exfalso; apply e0; simp_all [Bs]; done) | (by_cases e0 : Bs e.op e.text = Ey e.text; exact K.fin (V.one (V.cellN Tryz.isAgg148 Tryz.sizeOf148)) ⟨by rw [e0], rfl⟩ (hlow := Fs _); exfalso; apply e0; simp_all [Bs]; done)
 refine Z4 ?_;refine R.fin [1, 2, 13] ?_
 refine W.cond (fun ht13 => ?_) (fun ht13 => ?_)
 ·refine Z4 ?_;refine R.call Tryz.call147 (zg e.text _) ?_;refine Z11 ?_;refine Z5 ?_
  first | (by_cases e0 : Bs e.op e.text = ⟨[1], 1⟩; exact K.fin (V.one (V.cellN Tryz.isAgg148 Tryz.sizeOf148)) ⟨by rw [e0]; rfl, rfl⟩; exfalso; apply e0; simp_all [Bs]; done) | (by_cases e0 : Bs e.op e.text = ⟨[3], 3⟩; exact K.fin (V.one (V.cellN Tryz.isAgg148 Tryz.sizeOf148)) ⟨by rw [e0]; rfl, rfl⟩; exfalso; apply e0; simp_all [Bs]; done) | (by_cases e0 : Bs e.op e.text = Ge e.text; exact K.fin (V.one (V.cellN Tryz.isAgg148 Tryz.sizeOf148)) ⟨by rw [e0], rfl⟩ (hlow := Fs _); exfalso; apply e0; simp_all [Bs]; done) | (by_cases e0 : Bs e.op e.text = Ey e.text; exact K.fin (V.one (V.cellN Tryz.isAgg148 Tryz.sizeOf148)) ⟨by rw [e0], rfl⟩ (hlow := Fs _); exfalso; apply e0; simp_all [Bs]; done)
 refine Z16 ?_;refine Z4 ?_;refine R.call Tryz.call148 (zh e.text _) ?_;refine Z11 ?_
 first | (by_cases e0 : Bs e.op e.text = ⟨[1], 1⟩; exact K.fin (V.one (V.cellN Tryz.isAgg148 Tryz.sizeOf148)) ⟨by rw [e0]; rfl, rfl⟩; exfalso; apply e0; simp_all [Bs]; done) | (by_cases e0 : Bs e.op e.text = ⟨[3], 3⟩; exact K.fin (V.one (V.cellN Tryz.isAgg148 Tryz.sizeOf148)) ⟨by rw [e0]; rfl, rfl⟩; exfalso; apply e0; simp_all [Bs]; done) | (by_cases e0 : Bs e.op e.text = Ge e.text; exact K.fin (V.one (V.cellN Tryz.isAgg148 Tryz.sizeOf148)) ⟨by rw [e0], rfl⟩ (hlow := Fs _); exfalso; apply e0; simp_all [Bs]; done) | (by_cases e0 : Bs e.op e.text = Ey e.text; exact K.fin (V.one (V.cellN Tryz.isAgg148 Tryz.sizeOf148)) ⟨by rw [e0], rfl⟩ (hlow := Fs _); exfalso; apply e0; simp_all [Bs]; done)

theorem wq (a b : Int) (Hp : List AObj) : AFun Tryz.prog 149 [A2 a, A2 b] Hp (.tup [A2 (Bt a b).1, An (Bt a b).2]) := by
 refine ACall.body [.tmp 4, .tmp 5] [0, 1] Tryz.func149 Tryz.ntmps149 (fun d => ?_)
 refine Z4 ?_;refine R.fin [0, 1] ?_;refine Z19 ?_;refine Z7 ?_;refine R.fin [0, 1, 6] ?_
 refine W.cond (fun ht6 => ?_) (fun ht6 => ?_)
 ·refine Z7 ?_;refine R.fin [4, 5] ?_;refine Z55 ?_
  first | (by_cases e0 : Bt a b = (b, true); exact K.fin (V.two V.tmp V.tmp) ⟨by rw [e0], rfl⟩; exfalso; apply e0; simp_all [Bt]; done) | (by_cases e0 : Bt a b = (a, true); exact K.fin (V.two V.tmp V.tmp) ⟨by rw [e0], rfl⟩; exfalso; apply e0; simp_all [Bt]; done) | (by_cases e0 : Bt a b = (0, false); exact K.fin (V.two V.tmp V.tmp) ⟨by rw [e0], rfl⟩; exfalso; apply e0; simp_all [Bt]; done)
 refine Z7 ?_;refine Z58 ?_;refine Z1 ?_;refine R.fin [0, 10] ?_
 refine W.cond (fun ht10 => ?_) (fun ht10 => ?_)
 ·refine Z7 ?_;refine R.fin [4, 5] ?_;refine Z55 ?_
  first | (by_cases e0 : Bt a b = (b, true); exact K.fin (V.two V.tmp V.tmp) ⟨by rw [e0], rfl⟩; exfalso; apply e0; simp_all [Bt]; done) | (by_cases e0 : Bt a b = (a, true); exact K.fin (V.two V.tmp V.tmp) ⟨by rw [e0], rfl⟩; exfalso; apply e0; simp_all [Bt]; done) | (by_cases e0 : Bt a b = (0, false); exact K.fin (V.two V.tmp V.tmp) ⟨by rw [e0], rfl⟩; exfalso; apply e0; simp_all [Bt]; done)
 refine Z16 ?_;refine Z4 ?_;refine Ws ?_
 first | (by_cases e0 : Bt a b = (b, true); exact K.fin (V.two V.tmp V.tmp) ⟨by rw [e0], rfl⟩; exfalso; apply e0; simp_all [Bt]; done) | (by_cases e0 : Bt a b = (a, true); exact K.fin (V.two V.tmp V.tmp) ⟨by rw [e0], rfl⟩; exfalso; apply e0; simp_all [Bt]; done) | (by_cases e0 : Bt a b = (0, false); exact K.fin (V.two V.tmp V.tmp) ⟨by rw [e0], rfl⟩; exfalso; apply e0; simp_all [Bt]; done)

structure FitAt (s : Sign) (ks : List Int) (x : Nat × Int) : Prop where
 le : x.1 ≤ ks.length
 eq : P4 s.kids ks 0 = P4 (s.kids.drop x.1) (ks.drop x.1) x.2
theorem FitAt.step {s : Sign} {ks : List Int} {x : Nat × Int} (h : FitAt s ks x) (hk : x.1 < ks.length) (hs : x.1 < s.kids.length) : P4 s.kids ks 0 = (if s.kids[x.1] == -2 then P4 (s.kids.drop (x.1 + 1)) (ks.drop (x.1 + 1)) x.2 else if s.kids[x.1] == -1 then (if (Bt x.2 ks[x.1]).2 then P4 (s.kids.drop (x.1 + 1)) (ks.drop (x.1 + 1)) (Bt x.2 ks[x.1]).1 else none) else if (Bt s.kids[x.1] ks[x.1]).2 then P4 (s.kids.drop (x.1 + 1)) (ks.drop (x.1 + 1)) x.2 else none) := by
 rw [h.eq, List.drop_eq_getElem_cons hk, List.drop_eq_getElem_cons hs, P4]
theorem FitAt.skip {s : Sign} {ks : List Int} {x : Nat × Int} (h : FitAt s ks x) (hk : x.1 < ks.length) (hs : x.1 < s.kids.length) (h2 : (s.kids[x.1] == -2) = true) : FitAt s ks (x.1 + 1, x.2) := ⟨hk, by rw [h.step hk hs, if_pos h2]⟩
theorem FitAt.same {s : Sign} {ks : List Int} {x : Nat × Int} (h : FitAt s ks x) (hk : x.1 < ks.length) (hs : x.1 < s.kids.length) (h2 : (s.kids[x.1] == -2) = false) (h1 : (s.kids[x.1] == -1) = true) (hm : (Bt x.2 ks[x.1]).2 = true) : FitAt s ks (x.1 + 1, (Bt x.2 ks[x.1]).1) := ⟨hk, by rw [h.step hk hs, if_neg (by rw [h2]; simp), if_pos h1, if_pos hm]⟩
theorem FitAt.want {s : Sign} {ks : List Int} {x : Nat × Int} (h : FitAt s ks x) (hk : x.1 < ks.length) (hs : x.1 < s.kids.length) (h2 : (s.kids[x.1] == -2) = false) (h1 : (s.kids[x.1] == -1) = false) (hm : (Bt s.kids[x.1] ks[x.1]).2 = true) : FitAt s ks (x.1 + 1, x.2) := ⟨hk, by rw [h.step hk hs, if_neg (by rw [h2]; simp), if_neg (by rw [h1]; simp), if_pos hm]⟩
theorem FitAt.bad {s : Sign} {ks : List Int} {x : Nat × Int} (h : FitAt s ks x) (hk : x.1 < ks.length) (hs : x.1 < s.kids.length) (h2 : (s.kids[x.1] == -2) = false) (hm : (if s.kids[x.1] == -1 then (Bt x.2 ks[x.1]).2 else (Bt s.kids[x.1] ks[x.1]).2) = false) : Ve s ks = (0, 10) := by
 unfold Ve
 rw [h.step hk hs, if_neg (by rw [h2]; simp)]
 split at hm
 ·rename_i h1
  rw [if_pos h1, if_neg (by rw [hm]; simp)]
 rename_i h1
 rw [if_neg h1, if_neg (by rw [hm]; simp)]
theorem FitAt.out {s : Sign} {ks : List Int} {x : Nat × Int} (h : FitAt s ks x) (hk : ks.length ≤ x.1) : Ve s ks = if s.own == -1 then (x.2, 0) else (s.own, 0) := by
 unfold Ve
 rw [h.eq, List.drop_of_length_le hk]
 cases s.kids.drop x.1 <;> rfl
theorem zj (s : Sign) (ks : List Int) (hks : ks.length ≤ s.kids.length) (hk2 : ks.length ≤ 1048576) (Hp : List AObj) : AFun Tryz.prog 117 [N2 s, .slice false 1 (ks.map A2)] Hp (.tup [A2 (Ve s ks).1, A2 (Ve s ks).2]) := by
 refine ACall.body [.tmp 4, .tmp 5] [0, 1] Tryz.func117 Tryz.ntmps117 (fun d => ?_)
 refine Z7 ?_;refine R.fin [1, 2] ?_;refine Cs ?_;refine Z15 ?_;refine R.fin [1, 2, 6] ?_;refine Z18 ?_;refine bu ?_
 refine AW.loopC (α := Nat × Int) (fun x => ⟨49, A4 2 (.ro [.slice false 1 (s.kids.map A2), A2 s.own]) (A4 6 (.ptr (oid Hp.length 0) 0) (A4 13 (.slice false 1 (ks.map A2)) (A4 14 (A2 (ks.length : Nat)) (A4 15 (A2 (x.1 : Nat)) (fun _ => .any))))), Hp, [.cells 3 [A2 x.2]], [], none⟩) (fun x => FitAt s ks x) (fun x => ks.length - x.1) ((0, 0)) ⟨Nat.zero_le _, rfl⟩ (StLe.of_eq (by simp)) rfl (fun x hx => ?_)
 refine Z0 ?_;refine R.fin [2, 6, 13, 14, 15, 16] ?_
 refine W.condX (fun ht16 => ?_) (fun ht16 => ?_)
 ·have hlt : x.1 < ks.length := by simpa using ht16
  have hls : x.1 < s.kids.length := by omega
  refine Nh ?_
  refine R.go (h := Q.indexAddr (x.1) (A2 ks[x.1]) (fun _ => Ak hlt)) (hr := ?_)
  refine Z25 ?_;refine R.fin [2, 6, 7, 8, 13, 14, 15] ?_;refine Z7 ?_
  refine R.go (h := Q.indexAddr (x.1) (A2 s.kids[x.1]) (fun _ => Ak hls)) (hr := ?_)
  refine Nf ?_;refine R.fin [2, 6, 8, 9, 13, 14, 15] ?_;refine Z28 ?_;refine R.fin [2, 6, 8, 9, 13, 14, 15, 26] ?_
  refine W.cond (fun ht26 => ?_) (fun ht26 => ?_)
  ·refine W.keep [2, 6, 13, 14, 15] ?_;refine Z37 ?_;refine K.blE ?_;refine K.thN ?_;refine Z13 ?_;refine bu ?_
   first | (refine K.lpN (x.1 + 1, x.2) (hx.skip hlt hls ht26) (by show ks.length - (x.1 + 1) < ks.length - x.1; omega) ?_; exact StCut.take (own := [.cells 3 [A2 x.2]]) (fun _ => .refl _) (by repeat (first | exact Ap | refine Ao (by first | (simp [or_imp, forall_and]; done) | (simp [oid] <;> omega)) ?_)) (by intro y hy; rw [List.mem_singleton.1 hy]; intro z hz; rw [List.mem_singleton.1 hz]; simp) (by simp)) | (refine K.lpN (x.1 + 1, (Bt x.2 ks[x.1]).1) (hx.same hlt hls ht26 ht28 (by simpa using ht38)) (by show ks.length - (x.1 + 1) < ks.length - x.1; omega) ?_; exact StCut.take (own := [.cells 3 [A2 (Bt x.2 ks[x.1]).1]]) (fun _ => .refl _) (by repeat (first | exact Ap | refine Ao (by first | (simp [or_imp, forall_and]; done) | (simp [oid] <;> omega)) ?_)) (by intro y hy; rw [List.mem_singleton.1 hy]; intro z hz; rw [List.mem_singleton.1 hz]; simp) (by simp)) | (refine K.lpN (x.1 + 1, x.2) (hx.want hlt hls ht26 ht28 (by simpa using ht38)) (by show ks.length - (x.1 + 1) < ks.length - x.1; omega) ?_; exact StCut.take (own := [.cells 3 [A2 x.2]]) (fun _ => .refl _) (by repeat (first | exact Ap | refine Ao (by first | (simp [or_imp, forall_and]; done) | (simp [oid] <;> omega)) ?_)) (by intro y hy; rw [List.mem_singleton.1 hy]; intro z hz; rw [List.mem_singleton.1 hz]; simp) (by simp))
  refine O2 ?_;refine R.fin [2, 6, 8, 9, 10, 13, 14, 15] ?_;refine Z28 ?_;refine R.fin [2, 6, 8, 10, 13, 14, 15, 28] ?_
  refine W.cond (fun ht28 => ?_) (fun ht28 => ?_)
  ·refine Sg ?_;refine R.fin [2, 6, 8, 10, 13, 14, 15] ?_;refine K.thN ?_;refine Z33 ?_;refine R.call Tryz.call149 (wq _ _ _) ?_;refine Z89 ?_;refine R.fin [2, 6, 10, 11, 12, 13, 14, 15] ?_;refine Z28 ?_;refine R.fin [2, 6, 10, 11, 13, 14, 15, 38] ?_
   refine W.cond (fun ht38 => ?_) (fun ht38 => ?_)
   ·have hbad := hx.bad hlt hls ht26 (by first | (rw [if_pos ht28]; simpa using ht38) | (rw [if_neg (by rw [ht28]; simp)]; simpa using ht38))
    refine Z4 ?_;refine Z73 ?_;exact uj
   refine Z6 ?_;refine Z35 ?_;refine Fa ?_;refine bu ?_;refine Ng ?_;refine bu ?_
   first | (refine K.lpN (x.1 + 1, x.2) (hx.skip hlt hls ht26) (by show ks.length - (x.1 + 1) < ks.length - x.1; omega) ?_; exact StCut.take (own := [.cells 3 [A2 x.2]]) (fun _ => .refl _) (by repeat (first | exact Ap | refine Ao (by first | (simp [or_imp, forall_and]; done) | (simp [oid] <;> omega)) ?_)) (by intro y hy; rw [List.mem_singleton.1 hy]; intro z hz; rw [List.mem_singleton.1 hz]; simp) (by simp)) | (refine K.lpN (x.1 + 1, (Bt x.2 ks[x.1]).1) (hx.same hlt hls ht26 ht28 (by simpa using ht38)) (by show ks.length - (x.1 + 1) < ks.length - x.1; omega) ?_; exact StCut.take (own := [.cells 3 [A2 (Bt x.2 ks[x.1]).1]]) (fun _ => .refl _) (by repeat (first | exact Ap | refine Ao (by first | (simp [or_imp, forall_and]; done) | (simp [oid] <;> omega)) ?_)) (by intro y hy; rw [List.mem_singleton.1 hy]; intro z hz; rw [List.mem_singleton.1 hz]; simp) (by simp)) | (refine K.lpN (x.1 + 1, x.2) (hx.want hlt hls ht26 ht28 (by simpa using ht38)) (by show ks.length - (x.1 + 1) < ks.length - x.1; omega) ?_; exact StCut.take (own := [.cells 3 [A2 x.2]]) (fun _ => .refl _) (by repeat (first | exact Ap | refine Ao (by first | (simp [or_imp, forall_and]; done) | (simp [oid] <;> omega)) ?_)) (by intro y hy; rw [List.mem_singleton.1 hy]; intro z hz; rw [List.mem_singleton.1 hz]; simp) (by simp))
  refine Z6 ?_;refine Z33 ?_;refine R.call Tryz.call149 (wq _ _ _) ?_;refine Z89 ?_;refine R.fin [2, 6, 10, 11, 12, 13, 14, 15] ?_;refine Z28 ?_;refine R.fin [2, 6, 10, 11, 13, 14, 15, 38] ?_
  refine W.cond (fun ht38 => ?_) (fun ht38 => ?_)
  ·have hbad := hx.bad hlt hls ht26 (by first | (rw [if_pos ht28]; simpa using ht38) | (rw [if_neg (by rw [ht28]; simp)]; simpa using ht38))
   refine Z4 ?_;refine Z73 ?_;exact uj
  refine Z6 ?_;refine Z35 ?_;refine Fa ?_;refine bu ?_;refine Ng ?_;refine bu ?_
  first | (refine K.lpN (x.1 + 1, x.2) (hx.skip hlt hls ht26) (by show ks.length - (x.1 + 1) < ks.length - x.1; omega) ?_; exact StCut.take (own := [.cells 3 [A2 x.2]]) (fun _ => .refl _) (by repeat (first | exact Ap | refine Ao (by first | (simp [or_imp, forall_and]; done) | (simp [oid] <;> omega)) ?_)) (by intro y hy; rw [List.mem_singleton.1 hy]; intro z hz; rw [List.mem_singleton.1 hz]; simp) (by simp)) | (refine K.lpN (x.1 + 1, (Bt x.2 ks[x.1]).1) (hx.same hlt hls ht26 ht28 (by simpa using ht38)) (by show ks.length - (x.1 + 1) < ks.length - x.1; omega) ?_; exact StCut.take (own := [.cells 3 [A2 (Bt x.2 ks[x.1]).1]]) (fun _ => .refl _) (by repeat (first | exact Ap | refine Ao (by first | (simp [or_imp, forall_and]; done) | (simp [oid] <;> omega)) ?_)) (by intro y hy; rw [List.mem_singleton.1 hy]; intro z hz; rw [List.mem_singleton.1 hz]; simp) (by simp)) | (refine K.lpN (x.1 + 1, x.2) (hx.want hlt hls ht26 ht28 (by simpa using ht38)) (by show ks.length - (x.1 + 1) < ks.length - x.1; omega) ?_; exact StCut.take (own := [.cells 3 [A2 x.2]]) (fun _ => .refl _) (by repeat (first | exact Ap | refine Ao (by first | (simp [or_imp, forall_and]; done) | (simp [oid] <;> omega)) ?_)) (by intro y hy; rw [List.mem_singleton.1 hy]; intro z hz; rw [List.mem_singleton.1 hz]; simp) (by simp))
 have hxe : ks.length ≤ x.1 := by simpa using ht16
 have hout := hx.out hxe
 refine Z27 ?_;refine Z18 ?_;refine R.fin [2, 6, 45] ?_
 refine W.cond (fun ht45 => ?_) (fun ht45 => ?_)
 ·refine Z7 ?_;refine Z73 ?_;exact K.fin (V.two V.tmp V.tmp) ⟨by rw [hout, if_pos ht45], rfl⟩
 refine Z6 ?_;refine Z33 ?_;refine Ws ?_;exact K.fin (V.two V.tmp V.tmp) ⟨by rw [hout, if_neg (by rw [ht45]; simp)], rfl⟩

theorem ke {n k : Nat} {own : Bool} {l : List Int} : Low n (.slice own k (l.map A2)) := low_slice.2 fun y hy => by
 obtain ⟨z, _, rfl⟩ := List.mem_map.1 hy
 simp
theorem T8 {n : Nat} {e : Expr} : Low n (.ro (Ba e)) := by have := Ab n e; rw [A8] at this; simpa using this
theorem Eg {c : List Col} {t : Str} (h : ¬ (Al t c < 0)) : ∃ (j : Nat), Al t c = (j : Int) ∧ j < c.length := by
 obtain ⟨j, y, h2, _, h3⟩ := find_mem.1 h
 exact ⟨j, h3, (List.getElem?_eq_some_iff.1 h2).1⟩
theorem kg {c : List Col} {e : Expr} (h : (e.op == 1) = true) : Dr c e = (e.val.kind, 0) := by rw [L5]; unfold R8; rw [if_pos h]
theorem de {c : List Col} {e : Expr} (h1 : (e.op == 1) = false) (h : (e.op == 2) = true) : Dr c e = Vf c e.text := by rw [L5]; unfold R8; rw [h1, if_pos h]; rfl
theorem ki {c : List Col} {e : Expr} (h1 : (e.op == 1) = false) (h2 : (e.op == 2) = false) {x : Nat} (hx : x < e.kids.length) (h0 : ∀ (j : Nat) (y : Expr), j < x → e.kids[j]? = some y → ((Dr c y).2 != 0) = false) (hb : ((Dr c e.kids[x]).2 != 0) = true) : Dr c e = (0, (Dr c e.kids[x]).2) := by
 rw [L5]
 unfold R8
 rw [h1, h2]
 have : (e.kids.map (Dr c)).find? (fun q => q.2 != 0) = some ((e.kids.map (Dr c))[x]'(by simpa using hx)) := Yo (by simpa using hx) (by simpa using hb) (fun j y hj hy => by
  rw [List.getElem?_map, Option.map_eq_some_iff] at hy
  obtain ⟨z, hz, rfl⟩ := hy
  exact h0 j z hj hz)
 rw [this]
 simp
theorem kj {c : List Col} {e : Expr} (h1 : (e.op == 1) = false) (h2 : (e.op == 2) = false) (h0 : ∀ (j : Nat) (y : Expr), j < e.kids.length → e.kids[j]? = some y → ((Dr c y).2 != 0) = false) : Dr c e = Ve (Bs e.op e.text) (e.kids.map fun y => (Dr c y).1) := by
 rw [L5]
 unfold R8
 rw [h1, h2]
 have : (e.kids.map (Dr c)).find? (fun q => q.2 != 0) = none := Qm (fun j y hy => by
  rw [List.getElem?_map, Option.map_eq_some_iff] at hy
  obtain ⟨z, hz, rfl⟩ := hy
  exact h0 j z (List.getElem?_eq_some_iff.1 hz).1 hz)
 rw [this]
 simp only [List.map_map]
 rfl
theorem dg (f : Expr → Int) (l : List Expr) {x : Nat} (h : x < l.length) : ((l.take x).map f).map A2 ++ [A2 (f l[x])] = ((l.take (x + 1)).map f).map A2 := by rw [List.take_succ_eq_append_getElem h, List.map_append, List.map_append]; rfl
theorem c85 (c : List Col) (hc : OkCols c) : ∀ (n : Nat) (e : Expr), okE n e → Cf C2 e = true → ∀ Hp : List AObj, AFun Tryz.prog 85 [A3 e, Ac c] Hp (.tup [A2 (Dr c e).1, A2 (Dr c e).2]) := by
 intro n
 induction n with
 | zero => exact fun e h => h.elim
 | succ n ih =>
 intro e hok hnd Hp
 have hnd0 := hnd
 rw [D9, Bool.and_eq_true] at hnd0
 refine ACall.body [.tmp 4, .tmp 5] [0, 1] Tryz.func85 Tryz.ntmps85 (fun d => ?_)
 refine Z7 ?_;refine R.fin [1, 2] ?_;refine Z28 ?_;refine R.fin [1, 2, 13] ?_;refine Z87 ?_;refine R.fin [1, 2, 13, 14] ?_
 refine W.cond (fun ht14 => ?_) (fun ht14 => ?_)
 ·have hk := kg (c := c) ht14
  refine Z7 ?_;refine Z1 ?_;refine R.fin [4, 5] ?_;refine Z55 ?_;exact r9
 refine Z4 ?_;refine R.fin [1, 2, 19] ?_
 refine W.cond (fun ht19 => ?_) (fun ht19 => ?_)
 ·have hk := de (c := c) ht14 ht19
  refine Z7 ?_;refine R.call Tryz.call59 (c59 c hc e.text _) ?_;refine R.go ?_;refine R.fin [1, 6] ?_;refine Z28 ?_;refine R.fin [1, 6, 26] ?_
  refine W.cond (fun ht26 => ?_) (fun ht26 => ?_)
  ·have hk2 : Vf c e.text = (0, 9) := if_pos (by simpa using ht26)
   refine Z4 ?_;refine Z73 ?_;refine Z5 ?_;exact vj
  have hneg : ¬ (Al e.text c < 0) := by simpa using ht26
  obtain ⟨j, hj, hjl⟩ := Eg hneg
  have hk2 : Vf c e.text = (c[j].kind, 0) := by
   unfold Vf
   rw [if_neg hneg, hj, Int.toNat_natCast, List.getD_eq_getElem?_getD, List.getElem?_eq_getElem hjl]
   rfl
  rw [hj]
  refine Wx ?_
  refine R.go (h := Q.indexAddr (j) (Av c[j]) (fun _ => Ak hjl)) (hr := ?_)
  refine Z72 ?_;refine R.fin [4, 5] ?_;refine Z55 ?_;exact vj
 refine Z16 ?_;refine Z0 ?_;refine R.fin [1, 2, 7] ?_;refine Z65 ?_;refine R.nilSl 7 1 ?_;refine Z72 ?_;refine R.fin [1, 2, 7, 33, 34, 35] ?_
 refine AW.loopC (α := Nat) (fun x => ⟨59, A4 1 (Ac c) (A4 2 (.ro (Ba e)) (A4 7 (.slice true 1 (((e.kids.take x).map fun y => (Dr c y).1).map A2)) (A4 33 (.slice false 6 (e.kids.map A3)) (A4 34 (A2 (e.kids.length : Nat)) (A4 35 (A2 (x : Nat)) (fun _ => .any)))))), Hp, [], [], none⟩) (fun x => x ≤ e.kids.length ∧ ∀ (j : Nat) (y : Expr), j < x → e.kids[j]? = some y → ((Dr c y).2 != 0) = false) (fun x => e.kids.length - x) (0) ⟨Nat.zero_le _, fun j y h => by omega⟩ (StLe.of_eq (by simp)) rfl (fun x hx => ?_)
 refine Z0 ?_;refine R.fin [1, 2, 7, 33, 34, 35, 36] ?_
 refine W.condX (fun ht36 => ?_) (fun ht36 => ?_)
 ·have hlt : x < e.kids.length := by simpa using ht36
  have hkl := hok.2.1
  refine Z88 ?_
  refine R.go (h := Q.indexAddr (x) (A3 e.kids[x]) (fun _ => Ak hlt)) (hr := ?_)
  refine Nf ?_;refine R.fin [1, 2, 7, 9, 33, 34, 35] ?_;refine Z4 ?_;refine R.call Tryz.call85 (ih e.kids[x] (hok.2.2 _ (List.getElem_mem hlt)) ((Cv _ _).1 hnd0.2 _ (List.getElem_mem hlt)) _) ?_;refine Z89 ?_;refine R.fin [1, 2, 7, 10, 11, 33, 34, 35] ?_;refine Z28 ?_;refine R.fin [1, 2, 7, 10, 11, 33, 34, 35, 46] ?_
  refine W.cond (fun ht46 => ?_) (fun ht46 => ?_)
  ·have hkb := ki (c := c) ht14 ht19 hlt hx.2 ht46
   refine Z7 ?_;refine Z73 ?_;refine Z42 ?_;exact K.fin (V.two V.tmp V.tmp) ⟨by rw [hkb], rfl⟩
  refine Z6 ?_;refine bf ?_;refine Z94 ?_
  refine R.append jU Tryz.type3 ?_ ?_ ?_
  ·simp only [List.length_map, List.length_take, List.length_cons, List.length_nil, Tryz.t3]; omega
  ·simp only [List.length_map, List.length_take, List.length_cons, List.length_nil, Tryz.t3]; omega
  refine R.assignT ?_;refine R.fin [1, 2, 7, 33, 34, 35] ?_;refine Ng ?_;refine R.fin [1, 2, 7, 33, 34, 35] ?_;refine K.lpN (x + 1) ⟨hlt, Bk hlt hx.2 ht46⟩ (by omega) ?_
  simp only [show Tryz.t3.size = 1 from rfl, dg]
  exact StCut.take (own := []) (fun _ => .refl _) (by repeat (first | exact Ap | refine Ao (by first | exact ke | exact T8 | exact Bb | (simp [or_imp, forall_and]; done)) ?_)) (by simp) (by simp)
 have hxe : e.kids.take x = e.kids := List.take_of_length_le (by simp at ht36; omega)
 have hxl : e.kids.length ≤ x := by simp at ht36; omega
 have hka := kj (c := c) ht14 ht19 (fun j y hj hy => hx.2 j y (by omega) hy)
 rw [hxe]
 refine Sh ?_;refine R.call Tryz.call116 (zi e _) ?_;refine R.go ?_
 refine R.call Tryz.call117 (zj (Bs e.op e.text) (e.kids.map fun y => (Dr c y).1) (by rw [jm hnd0.1 ht14 ht19]; simp) (by simpa using hok.2.1) _) ?_
 refine Z72 ?_;refine Ws ?_;exact K.fin (V.two V.tmp V.tmp) ⟨by rw [hka], rfl⟩

theorem Vp {e : Expr} (h : Am e = true) : Cf C2 e = true := by
 rw [E8] at h
 unfold Ai at h
 rw [Bool.and_eq_true] at h
 exact h.2
theorem c60 (n : Nat) (e : Expr) (hok : okE n e) (hn : n ≤ 1048576) (c : List Col) (hc : OkCols c) (Hp : List AObj) : AFun Tryz.prog 60 [A3 e, Ac c] Hp (.tup [A2 (Iz e c).1, A2 (Iz e c).2]) := by
 refine ACall.body [.tmp 4, .tmp 5] [0, 1] Tryz.func60 Tryz.ntmps60 (fun d => ?_)
 refine Z7 ?_;refine R.fin [1, 2] ?_;refine Z34 ?_;refine R.call Tryz.call44 (c44 n e hok hn _) ?_;refine Z82 ?_;refine G.call Tryz.call41 (fun hB => c41 c hc _) ?_;refine Si ?_;refine R.fin [1, 2, 13] ?_
 refine W.cond (fun ht13 => ?_) (fun ht13 => ?_)
 ·have hk : Iz e c = (0, 1) := if_pos ht13
  refine Z4 ?_;refine Z73 ?_;exact r9
 have hk : Iz e c = Dr c e := if_neg (by rw [ht13]; simp)
 have hr : Am e = true := by simp only [Bool.or_eq_false_iff, Bool.not_eq_false'] at ht13; exact ht13.1
 refine Wx ?_;refine R.call Tryz.call85 (c85 c hc n e hok (Vp hr) _) ?_;refine Z72 ?_;refine Ws ?_;exact r9

theorem Cx {n k : Nat} {o : Bool} {l : List Col} : Low n (.slice o k (l.map Av)) := by simp [or_imp, forall_and]
theorem wr {α β : Type} {f : α → β} {l : List α} {k : Nat} {y : α} (h : l[k]? = some y) : (l.map f)[k]? = some (f y) := by rw [List.getElem?_map, h]; rfl
theorem c95 (c : List Col) (hc : OkCols c) (take : List Str) (ht : take.length ≤ 1048576) (give : List Col) (hg : OkCols give) (hg2 : give.length ≤ 1000000) (Hp : List AObj) : AFun Tryz.prog 95 [Ac c, Dg take, Ac give] Hp (.tup [Ac (By c take give).1, A2 (By c take give).2]) := by
 refine ACall.body [.tmp 6, .tmp 7] [0, 1, 2, 9] Tryz.func95 Tryz.ntmps95 (fun d => ?_)
 refine Z4 ?_;refine R.fin [0, 1, 2, 9] ?_;refine Z34 ?_;refine R.call Tryz.call19 (c19 c hc _) ?_;refine R.go ?_;refine R.fin [0, 1, 2, 9, 12] ?_
 refine W.cond (fun ht12 => ?_) (fun ht12 => ?_)
 ·have hr : Cu c = false := by rw [On] at ht12; simpa using ht12
  refine Z0 ?_;refine gi ?_;refine Z23 ?_;exact K.fin (V.two V.tmp V.tmp) ⟨by rw [jd hr]; try rfl, rfl⟩
 have hr : Cu c = true := by rw [On] at ht12; simpa using ht12
 refine Z6 ?_;refine Z28 ?_;refine R.call Tryz.call131 (yn c hc take ht _) ?_;refine R.go ?_;refine R.fin [0, 1, 2, 9, 16] ?_
 refine W.cond (fun ht16 => ?_) (fun ht16 => ?_)
 ·have hk : Ex c take = false := by simpa using ht16
  refine Z0 ?_;refine gi ?_;refine Z23 ?_;exact K.fin (V.two V.tmp V.tmp) ⟨by rw [je hr hk]; try rfl, rfl⟩
 have hk : Ex c take = true := by simpa using ht16
 refine Z6 ?_;refine Z29 ?_;refine R.fin [0, 1, 2, 8, 9] ?_;refine Z65 ?_;refine R.nilOwn 0 2 ?_
 refine R.assumeLow (fun hlow => ?_)
 refine Z1 ?_;refine R.call Tryz.call132 (yp c take _) ?_;refine R.fin [2, 8, 9, 19] ?_;refine AW.block ?_
 refine W.rangeV (m := 1) Tryz.call165 (fun FR as' bd' hFR has hbd => ?_)
 have hFRl : ∀ s, Low (Hp.length + 3) (FR s) := by
  intro s
  rw [hFR]
  refine Low.strip ?_
  revert s
  repeat (first | exact Ap | refine Ao (by simp [oid, or_imp, forall_and] <;> try omega) ?_)
 have hOl : ∀ {k : Nat}, ∀ x ∈ [AObj.cells 22 [.slice true 2 ((C3 (c.take k) take).map Av)], AObj.defs, AObj.loop LoopState.ready none FR 41 #[20] as' bd' (oid Hp.length 1)], ObjLow (Hp.length + 3) x := by
  intro k x hx
  simp only [List.mem_cons, List.mem_nil_iff, or_false] at hx
  rcases hx with rfl | rfl | rfl
  ·intro y hy
   rw [List.mem_singleton.1 hy]
   exact Cx
  ·trivial
  exact gx
 refine ⟨_, yq (oid Hp.length 2) c take hc.len ht (fun k => Hp ++ [AObj.cells 22 [.slice true 2 ((C3 (c.take k) take).map Av)], AObj.defs, AObj.loop LoopState.ready none FR 41 #[20] as' bd' (oid Hp.length 1)]) (fun k => by simp) (by simp [oid]) (fun k x hx => ?_) (fun k y hk hcn => by simp only [cv hk hcn]) (fun k y X hk hcn => ?_), ?_⟩
 ·have := Hq (fun x hx => ObjLow.le (by omega) (hlow x hx)) hOl x hx
  simpa using this
 ·generalize hV : Hp ++ [AObj.cells 22 [.slice true 2 ((C3 (c.take k) take).map Av)], AObj.defs, AObj.loop LoopState.ready none FR 41 #[20] as' bd' (oid Hp.length 1)] ++ X = V
  have hL : V[oid Hp.length 2]? = some (AObj.loop LoopState.ready none FR 41 #[20] as' bd' (oid Hp.length 1)) := by rw [← hV, List.append_assoc, Aw]; rfl
  have hA0 : V[oid Hp.length 0]? = some (AObj.cells 22 [.slice true 2 ((C3 (c.take k) take).map Av)]) := by rw [← hV, List.append_assoc, Aw]; rfl
  refine AYield.ofRound (pd := none) (fr := FR) (sz := 41) (ps := #[20]) (df := oid Hp.length 1) (asg := as') (bd := bd') hL rfl (by decide) (fun d => ?_)
  subst hFR has hbd
  refine W.keep [8, 20] ?_;refine AW.region ?_;refine Z15 ?_;refine R.fin [8, 9] ?_
  refine ⟨rfl, none, hL, ?_⟩
  generalize hbz : (AObj.loop LoopState.busy _ _ _ _ _ _ _) = bz
  have hA : (V.set (oid Hp.length 2) bz)[oid Hp.length 0]? = some (AObj.cells 22 [.slice true 2 ((C3 (c.take k) take).map Av)]) := by rw [List.getElem?_set_ne (C1 (by decide))]; exact hA0
  refine AW.block ?_;refine AW.region ?_;refine R.loadUpT jA hA ?_;refine Z94 ?_
  refine R.append jU Tryz.type58 ?_ ?_ ?_
  ·have h1 := Fq (c.take k) take; have h2 := hc.len; simp only [List.length_take] at h1; simp [Tryz.t58]; omega
  ·have h1 := Fq (c.take k) take; have h2 := hc.len; simp only [List.length_take] at h1; simp [Tryz.t58]; omega
  refine R.storeUpT jS (getset hA) ?_ ?_
  ·exact cu
  refine Z53 ?_
  subst hbz
  refine r7 ?_
  refine ⟨rfl, ?_⟩
  subst hV
  simp only [List.append_assoc, E5, List.cons_append, List.nil_append, List.set_cons_succ, List.set_cons_zero]
  rw [np hk hcn, List.map_append]
  rfl
 rintro r H' rfl
 simp only [List.take_length]
 refine ⟨Hp, _, _, _, rfl, rfl, fun h => h, ?_, rfl, by simp, ?_⟩
 ·intro o ho
  have : o = oid Hp.length 1 := by simpa using ho
  subst this
  rw [Aw]
  rfl
 refine Z12 ?_;refine Cs ?_;refine R.loadOwnT jA ?_;refine R.go ?_
 refine R.append jU Tryz.type58 ?_ ?_ ?_
 ·have h1 := Fq c take; have h2 := M8 hr; simp [Tryz.t58]; omega
 ·have h1 := Fq c take; have h2 := M8 hr; simp [Tryz.t58]; omega
 refine R.storeOwnT jS ?_;refine R.fin [8] ?_;refine Z88 ?_
 have e10 : (C3 c take).map Av ++ give.map Av = (C3 c take ++ give).map Av := (List.map_append ..).symm
 rw [e10]
 generalize hout : C3 c take ++ give = out
 have ho : OkCols out := jk hc hr hg hg2 hout
 refine R.go ?_;refine R.call Tryz.call133 (yo out ho _) ?_;refine Z1 ?_;refine R.fin [8, 28] ?_
 refine W.cond (fun ht28 => ?_) (fun ht28 => ?_)
 ·have hn : Gr out = false := by simpa using ht28
  refine Z0 ?_;refine gi ?_;refine Z55 ?_;exact K.fin (V.two V.tmp V.tmp) ⟨by rw [jf hr hk hout hn]; try rfl, rfl⟩
 have hn : Gr out = true := by simpa using ht28
 refine Z0 ?_;refine R.call Tryz.call41 (c41 out ho _) ?_;refine Z1 ?_;refine R.fin [8, 32] ?_
 refine W.cond (fun ht32 => ?_) (fun ht32 => ?_)
 ·have hq : Dp out = false := by rw [Nm] at ht32; simpa using ht32
  refine Z0 ?_;refine gi ?_;refine Z55 ?_;exact K.fin (V.two V.tmp V.tmp) ⟨by rw [jg hr hk hout hn hq]; try rfl, rfl⟩
 have hq : Dp out = true := by rw [Nm] at ht32; simpa using ht32
 refine Z33 ?_;refine R.fin [8, 36] ?_
 refine W.cond (fun ht36 => ?_) (fun ht36 => ?_)
 ·have h12 : 12 < out.length := by simp at ht36; omega
  refine Z0 ?_;refine gi ?_;refine Z55 ?_;exact K.fin (V.two V.tmp V.tmp) ⟨by rw [jh hr hk hout hn hq h12]; try rfl, rfl⟩
 have h12 : ¬ 12 < out.length := by simp at ht36; omega
 refine Z16 ?_;refine Z7 ?_;refine R.fin [6, 7] ?_;refine AW.ret ?_;exact K.fin (V.two V.tmp V.tmp) ⟨by rw [ji hr hk hout hn hq h12]; try rfl, rfl⟩

/-- law18.Wide. -/
def Y5 (m : Mov) : Bool := (((((Is m.give || decide ((20 : Int) < (m.take.length : Int))) || decide ((20 : Int) < (m.ahead.length : Int))) || decide ((20 : Int) < (m.back.length : Int))) || m.take.any fun s => decide ((100 : Int) < (s.length : Int))) || m.ahead.any Ix) || m.back.any Ix
def km (l : List Mov) : Bool := decide ((12 : Int) < (l.length : Int)) || l.any Y5
theorem Vq {α : Type} {p : α → Bool} {l : List α} {x : Nat} (h : l.length ≤ x) (hp : ∀ (j : Nat) (v : α), j < x → l[j]? = some v → p v = false) : l.any p = false := by
 rw [List.any_eq_false]
 intro v hv
 obtain ⟨j, hj⟩ := List.getElem?_of_mem hv
 rw [hp j v (by have := (List.getElem?_eq_some_iff.1 hj).1; omega) hj]
 simp
theorem T9 {n : Nat} {m : Mov} : ∀ y ∈ Kb m, Low n y := by
 intro y hy
 simp only [Kb, List.mem_cons, List.mem_nil_iff, or_false] at hy
 rcases hy with rfl | rfl | rfl | rfl | rfl <;> simp [or_imp, forall_and, Ab]
theorem Vr {n : Nat} {m : Mov} : Low n (Fy m) := Go.SX.low_agg.2 T9
theorem Lc {n k : Nat} {o : Bool} {l : List Mov} : Low n (.slice o k (l.map Fy)) := low_slice.2 fun y hy => by
 obtain ⟨m, _, rfl⟩ := List.mem_map.1 hy
 exact Vr
theorem Gy {α : Type} {p : α → Bool} (l : List α) : (l.any fun s => !(p s)) = !(l.all p) := by
 induction l with
 | nil => rfl
 | cons a r ih => rw [List.any_cons, List.all_cons, ih]; cases p a <;> simp
theorem c32 (n : Nat) (e : Expr) (hok : okE n e) (hn : n ≤ 1048576) (c : List Col) (hc : OkCols c) (w : Int) (Hp : List AObj) : AFun Tryz.prog 32 [A3 e, Ac c, A2 w] Hp (An (jz e c w)) := by
 refine ACall.body [.tmp 6] [0, 1, 2] Tryz.func32 Tryz.ntmps32 (fun d => ?_)
 refine Z4 ?_;refine R.fin [1, 2, 3] ?_;refine Z4 ?_;refine R.call Tryz.call60 (c60 n e hok hn c hc _) ?_;refine Z89 ?_;refine R.fin [2, 7, 8] ?_;refine Z7 ?_;refine Sk ?_;refine Z58 ?_;refine Z1 ?_;refine Z67 ?_;exact K.fin (V.one V.tmp) ⟨by unfold jz; rfl, rfl⟩

theorem ob {c : List Col} {m : Mov} (h : (m.kind == 3) = false) : B1 c m = m.give := by unfold B1; rw [if_neg (by rw [h]; simp)]
theorem od {c : List Col} {m : Mov} {s : Str} {y : Col} (h : (m.kind == 3) = true) (ht : m.take = [s]) (hg : m.give = [y]) (hf : Al s c < 0) : B1 c m = [y] := by
 unfold B1
 rw [if_pos h, ht, hg]
 exact if_pos hf
theorem kn {c : List Col} {m : Mov} {s : Str} {y : Col} (h : (m.kind == 3) = true) (ht : m.take = [s]) (hg : m.give = [y]) (hf : ¬ Al s c < 0) : B1 c m = [⟨y.name, (c.getD (Al s c).toNat ⟨[], 0⟩).kind⟩] := by
 unfold B1
 rw [if_pos h, ht, hg]
 exact if_neg hf
theorem Vs (l : List Col) : ∀ x ∈ l.map Av, x.cells.length = 2 := by
 intro x hx
 obtain ⟨c, _, rfl⟩ := List.mem_map.1 hx
 rfl
theorem Zq {c : Col} {y : AV} (h : y ∈ (Av c).cells) : y = A6 c.name ∨ y = A2 c.kind := by
 have h' : y ∈ [A6 c.name, A2 c.kind] := h
 simpa using h'
theorem Vt (l : List Col) : ∀ x ∈ l.map Av, ∀ y ∈ x.cells, y.one = true := by
 intro x hx y hy
 obtain ⟨c, _, rfl⟩ := List.mem_map.1 hx
 rcases Zq hy with rfl | rfl <;> rfl
theorem Pb (l : List Col) : ∀ x ∈ l.map Av, ∀ y ∈ x.cells, y.strip = y := by
 intro x hx y hy
 obtain ⟨c, _, rfl⟩ := List.mem_map.1 hx
 rcases Zq hy with rfl | rfl <;> rfl
theorem ko {α : Type} {l : List α} (h : l.length = 1) : ∃ y, l = [y] := by
 match l, h with
 | [y], _ => exact ⟨y, rfl⟩
theorem Zr {c : List Col} {s : Str} (hf : ¬ Al s c < 0) : (c.map Av)[(Al s c).toNat]? = some (Av (c.getD (Al s c).toNat ⟨[], 0⟩)) := by
 obtain ⟨j, hj, hjl⟩ := Eg hf
 rw [hj, Int.toNat_natCast, List.getElem?_map, List.getElem?_eq_getElem hjl, List.getD_eq_getElem?_getD, List.getElem?_eq_getElem hjl]
 rfl
end Go.SX.Nb
namespace Go.SX
variable [GI : GlobInv]
open Classical
variable {P : Program} {d : Nat} {ops : Array Oper} {rest : List Oper} {sz : Nat} {fr : Nat → AV} {up own : List AObj} {dfs : List Nat} {rnd : Option Nat} {Q : St → Prop} {s : Nat} {ty : TypeId} {pos : String} {aft : Array Edge}
/-- Whether a slice is nil is known only of one that has elements. -/
theorem R.eqlNil {t e u : TypeId} {x y : Operand} {o : Bool} {k : Nat} {xs : List AV} (ht : P.underlying t = some (.slice e)) (hg : P.eqGuardType P.depth t = false)
  (hr : ∀ b : Bool, (b = true → xs = []) → ARun P d ops rest ⟨sz, A4 s (.v (.bool b)) fr, up, own, dfs, rnd⟩ Q)
  (hx : Ag fr x = .slice o k xs := by exact sL0) (hy : Ag fr y = .nil := by exact sL0) (hs : Nat.blt s sz = true := by rfl) :
  ARun P d ops (⟨some s, .binOp .eql t x y u, ty, pos, aft, none⟩ :: rest) ⟨sz, fr, up, own, dfs, rnd⟩ Q := by
 refine ARun.op rfl (Q1 := fun s' => ∃ b : Bool, (b = true → xs = []) ∧ s' = ⟨sz, A4 s (.v (.bool b)) fr, up, own, dfs, rnd⟩) ?_ (by rintro _ ⟨b, hb, rfl⟩; exact hr b hb)
 intro G a w hrel Q'
 have h1 := hrel.eval x
 rw [show St.ev ⟨sz, fr, up, own, dfs, rnd⟩ x = .slice o k xs from hx] at h1
 have h2 := hrel.eval y
 rw [show St.ev ⟨sz, fr, up, own, dfs, rnd⟩ y = .nil from hy] at h2
 have key : ∀ b : Bool, (b = true → xs = []) → (execOp a.eval ⟨some s, .binOp .eql t x y u, ty, pos, aft, none⟩).run P w = .ok (.value (.bool b)) w →
   Oper.wpIn (Fr ((St.mk sz fr up own dfs rnd).rnd.map G.blk)) 0 P ⟨some s, .binOp .eql t x y u, ty, pos, aft, none⟩ a w (Post d ⟨sz, fr, up, own, dfs, rnd⟩ G w (fun s' => ∃ b : Bool, (b = true → xs = []) ∧ s' = ⟨sz, A4 s (.v (.bool b)) fr, up, own, dfs, rnd⟩)) Q' := fun b hb hv =>
  Bh (by intro c h; cases h) hv ⟨G, _, hrel.put (y := .v (.bool b)) (by simpa using hs) (.v _ _), Keep.refl d G w, rfl, rfl, rfl, b, hb, rfl⟩
 generalize hya : a.eval y = vy at h2
 generalize hxa : a.eval x = vx at h1
 cases h2
 cases h1 with
 | slice0 => exact key true (fun _ => rfl) (by simp only [execOp, hxa, hya, eqGuard]; simp [Lib.run_eql_slice_nil _ _ _ _ _ _ _ _ ht, hg])
 | sliceE => exact key false (fun h => by cases h) (by simp only [execOp, hxa, hya, eqGuard]; simp [Lib.run_eql_slice_nil _ _ _ _ _ _ _ _ ht, hg])
 | slice => exact key false (fun h => by cases h) (by simp only [execOp, hxa, hya, eqGuard]; simp [Lib.run_eql_slice_nil _ _ _ _ _ _ _ _ ht, hg])
/-! A guarded slice that may be appended to. -/
end Go.SX
namespace Go.SX
variable [GI : GlobInv]
open Classical
section
variable {P : Program} {d : Nat}
/-- A call that returns and may leave more objects than it found; they are the caller's. -/
def ACallO (P : Program) (g : FuncId) (args : List AV) (H : List AObj) (post : AV → List AObj → Prop) : Prop :=
 ∀ (d : Nat) (G : Gh) (w : World) (vs : Array Value), vs.size = args.length → (∀ (i : Nat) (y : AV) (u : Value), args[i]? = some y → vs[i]? = some u → Rep G w (some (.slot (d + 1) i)) y u) → HeapRel G H w → TagOK G w → GI.bd ≤ d →
  CallsIn Fence.wide 0 P g vs w (fun e w' => ∃ (v : Value) (G' : Gh) (r : AV) (H' : List AObj), e = .returned v ∧ Rep G' w' none r v ∧ HeapRel G' H' w' ∧ TagOK G' w' ∧ Keep (d + 1) G w G' w' ∧ post r H')
/-- What is asked at a body's end: the first j of its objects are handed back. -/
def FO (P : Program) (rs : List ResultVar) (n : Nat) (post : AV → List AObj → Prop) (e : Exit) (st' : St) : Prop :=
 (e = .normal ∨ e = .ret) ∧ st'.defs = [] ∧ ∃ (r : AV) (rv : ResultVar) (j : Nat), rs = [rv] ∧ ResV P st' rv r ∧ Low (n + j) r ∧ (∀ x ∈ st'.up ++ st'.own.take j, ObjLow (n + j) x) ∧ j ≤ st'.own.length ∧ post r (st'.up ++ st'.own.take j)
theorem ACallO.ofBody {g : FuncId} {fn : Func} {c : Code} {args : List AV} {H : List AObj} {post : AV → List AObj → Prop} {rs : List ResultVar} {n : Nat} (hf : P.funcs[g]? = some fn) (hb : fn.body = some c) (hrs : fn.results = rs.toArray)
  (hn : fn.ntmps = n) (hargs : args.length ≤ n) (h : ∀ d, AW P (d + 1) c ⟨n, argsF args, H, [], [], none⟩ (FO P rs H.length post)) : ACallO P g args H post := by
 intro d G w vs hvs hrep hH hT hTop
 refine callsIn_of_wp_marks hf hb trivial ?_
 have hst : StRel (d + 1) G ⟨n, argsF args, H, [], [], none⟩ { tmps := vs ++ Array.replicate (fn.ntmps - vs.size) undef, defers := [] } w := by
  refine ⟨?_, fun s => ?_, by simpa using hH, (by rw [De hTop]; rfl), (fun o ho => by simp at ho), List.nodup_nil, (fun o ho => by simp at ho), hT, (fun l hl => by cases hl), fun x hx => ?_, Nat.le_succ_of_le hTop⟩
  ·simp only [Array.size_append, Array.size_replicate, hvs, hn]; omega
  ·show Rep G w _ (args.getD s (.v undef)) _
   rw [List.getD_eq_getElem?_getD, Array.getD_eq_getD_getElem?]
   rcases Nat.lt_or_ge s args.length with h' | h'
   ·rw [List.getElem?_eq_getElem h', Array.getElem?_append_left (by omega), Array.getElem?_eq_getElem (by omega)]
    exact hrep s _ _ (List.getElem?_eq_getElem h') (Array.getElem?_eq_getElem (by omega))
   rw [List.getElem?_eq_none h', Array.getElem?_append_right (by omega)]
   simp only [Option.getD_none]
   have : ((Array.replicate (fn.ntmps - vs.size) undef)[s - vs.size]?).getD undef = undef := by
    rw [Array.getElem?_replicate]; split <;> rfl
   rw [this]
   exact .v _ _
  obtain ⟨i, hi⟩ := List.getElem?_of_mem hx
  have hob := hH.obj i x hi
  show ObjLow H.length x
  rw [← hH.n]
  exact hob.low
 have hw := h d G _ w hst
 refine wpIn_mono hw ?_
 rintro e a' w' ⟨G1, st', h1, k1, e1, e2, e3, hcase, hdefs, r, rv, j, rfl, hres, hlow, hobjs, hj, hpost⟩
 have fin : LeavesInM Fence.wide 0 P fn a'.tmps (fun e w' => ∃ (v : Value) (G' : Gh) (r : AV) (H' : List AObj), e = .returned v ∧ Rep G' w' none r v ∧ HeapRel G' H' w' ∧ TagOK G' w' ∧ Keep (d + 1) G w G' w' ∧ post r H') a'.defers .returning w' := by
  rw [h1.defs, hdefs, De hTop]
  obtain ⟨v, hv, hr⟩ := hres.run h1
  have hupl : st'.up.length = H.length := e1
  have hgn : G1.n = st'.up.length + st'.own.length := by rw [h1.heap.n, List.length_append]
  have hget : ∀ (i : Nat) (x : AObj), (st'.up ++ st'.own.take j)[i]? = some x → (st'.up ++ st'.own)[i]? = some x := fun i x hx => by
   rcases Nat.lt_or_ge i st'.up.length with h' | h'
   ·rw [List.getElem?_append_left h'] at hx ⊢; exact hx
   rw [List.getElem?_append_right h'] at hx ⊢
   rw [List.getElem?_take] at hx
   split at hx
   ·exact hx
   cases hx
  refine ⟨v, by simp [D7, hrs, hv], v, { G1 with n := H.length + j }, r, st'.up ++ st'.own.take j, rfl, hr.cut hlow, ⟨fun i x hx => (h1.heap.obj i x (hget i x hx)).cut (hobjs x (List.mem_of_getElem? hx)), ?_, fun a b ha hb' e => ?_⟩,
   ⟨h1.tags.ex, h1.tags.obj, h1.tags.tail, h1.tags.globCut (by rw [hgn]; omega)⟩, ?_, hpost⟩
  ·show H.length + j = _
   rw [List.length_append, List.length_take, Nat.min_eq_left hj, hupl]
  ·exact h1.heap.inj a b (by rw [hgn]; simp only at ha; omega) (by rw [hgn]; simp only at hb'; omega) e
  have hGn : G.n = H.length := hH.n
  exact ⟨k1.fix, k1.slot, by rw [hGn]; exact Nat.le_add_right _ _, k1.blk, k1.os, k1.tape, k1.output, k1.size, k1.old.cut (by rw [hgn]; omega)⟩
 rcases hcase with rfl | rfl
 ·exact fin
 exact fin
end
section
variable {P : Program} {d : Nat} {ops : Array Oper} {rest : List Oper} {sz s : Nat} {fr : Nat → AV} {up own : List AObj} {dfs : List Nat} {rnd : Option Nat} {Q : St → Prop} {ty : TypeId} {pos : String} {aft : Array Edge}
theorem ACallO.body {g : FuncId} {fn : Func} {c : Code} {args : List AV} {H : List AObj} {post : AV → List AObj → Prop} {fr' : Nat → AV} (rs : List ResultVar) (l : List Nat) {n : Nat} (hf : P.funcs[g]? = some fn) (hn : fn.ntmps = n)
  (h : ∀ d, AW P (d + 1) c ⟨n, fr', H, [], [], none⟩ (FO P rs H.length post)) (hb : fn.body = some c := by rfl) (hrs : fn.results = rs.toArray := by rfl) (hargs : args.length ≤ n := by exact sL1)
  (hk : I3 l (argsF args) = fr' := by exact sL0) : ACallO P g args H post :=
 ACallO.ofBody hf hb hrs hn hargs (fun d => AW.keep l hk (h d))
/-- The end of such a body. -/
theorem K.finO {rs : List ResultVar} {n : Nat} {post : AV → List AObj → Prop} {r : AV} {rv : ResultVar} {st : St} (j : Nat) (hres : ResV P st rv r) (hp : post r (st.up ++ st.own.take j)) (hlow : Low (n + j) r) (hobj : ∀ x ∈ st.up ++ st.own.take j, ObjLow (n + j) x)
  (hd : st.defs = [] := by rfl) (hr : rs = [rv] := by rfl) (hj : j ≤ st.own.length := by simp) : FO P rs n post .ret st := ⟨.inr rfl, hd, r, rv, j, hr, hres, hlow, hobj, hj, hp⟩
/-- A call of such a function. -/
theorem R.callO {g : FuncId} {xs : List Operand} {ats : Array TypeId} {args : List AV} {post : AV → List AObj → Prop} (hcall : ∀ args w, (callFunc g args).run P w = .ok (.enter g args) w)
  (h : ACallO P g args (up ++ own) post) (hp : ∀ r H', post r H' → ∃ O, H' = up ++ (own ++ O) ∧ ARun P d ops rest ⟨sz, A4 s r fr, up, own ++ O, dfs, rnd⟩ Q)
  (ha : xs.map (Ag fr) = args := by exact sL0) (hs : Nat.blt s sz = true := by rfl) :
  ARun P d ops (⟨some s, .call ⟨.value (.func g), xs.toArray, ats⟩, ty, pos, aft, none⟩ :: rest) ⟨sz, fr, up, own, dfs, rnd⟩ Q := by
 refine ARun.op rfl (Q1 := fun s' => ARun P d ops rest s' Q) ?_ (fun s' e => e)
 intro G a w hr Q'
 have hs : s < sz := by simpa using hs
 have hxr := Kr hr xs
 have ha' : xs.map (St.ev ⟨sz, fr, up, own, dfs, rnd⟩) = args := ha
 rw [ha'] at hxr
 have hrun : (execOp a.eval (⟨some s, .call ⟨.value (.func g), xs.toArray, ats⟩, ty, pos, aft, none⟩ : Oper)).run P w = .ok (.enter g (xs.map a.eval).toArray) w := by
  have := K1 (P := P) (dst := some s) (ty := ty) (pos := pos) (aft := aft) (gd := none) (ats := ats) (f := .func g) (xs := xs) (g := g) (va := #[]) (vc := #[]) (a := a) (w := w) hcall rfl
  simpa using this
 refine Jz (by intro c h; cases h) hrun (h d G w _ (by rw [← ha']; simp) (fun i y u hy hu => (hxr i y u hy hu).lift) hr.heap hr.tags hr.top) ?_
 rintro e w' ⟨v, G', r, H', rfl, hrep, hH, hT, hk, hpo⟩
 obtain ⟨O, rfl, hrn⟩ := hp r H' hpo
 have h3 := hr.called (U := up) (O := own ++ O) hH hT hk rfl rfl (fun o ho => by
  have := hr.defsAt o ho
  rw [← List.append_assoc, List.getElem?_append_left (List.getElem?_eq_some_iff.1 this).1]
  exact this) hr.low
 obtain ⟨h4, k4⟩ := h3.took hrep.lift (s := s) hs
 exact ⟨v, rfl, _, _, h4, (hk.less (Nat.le_succ d)).trans k4, rfl, rfl, rfl, hrn⟩
end
end Go.SX
