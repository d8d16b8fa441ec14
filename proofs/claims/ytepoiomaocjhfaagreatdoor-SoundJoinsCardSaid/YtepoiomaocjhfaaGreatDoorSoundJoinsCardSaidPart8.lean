/- Texts on the way to this: SoundJoins answers true for whatever it is handed: moves that are sound over columns, and others that are sound over what is behind those, are sound all together and lead to the same columns, unless they are too many. (part 8) -/
import Derived.Test.YtepoiomaocjhfaaGreatDoorSoundJoinsCardSaidPart7
set_option linter.all false
namespace Go.SX.Nb
open Go Go.SX Go.Proofs
variable [ErrAt]
set_option maxRecDepth 4000
abbrev pmO (L : List Tok) (i : Nat) : AObj := .cells 96 [Vo L, A4 (i : Int)]
abbrev mvC (m : Mov) : List AV := [A4 m.kind, .slice true 1 (m.take.map Aa), .slice true 2 (m.give.map Aq), .slice true 6 (m.ahead.map A7), .slice true 6 (m.back.map A7)]
abbrev mvO (m : Mov) : AObj := .cells 64 (mvC m)
abbrev Vb (e a : Int) : Value := .iface 60 (.agg [Value.int .i64 e, Value.int .i64 a].toArray)
abbrev Is : AV := .v (.tuple #[])
theorem An {n : Nat} {L : List Tok} {i : Nat} : ObjLow n (pmO L i) := by
 show ∀ y ∈ [AV.slice false 3 (L.map Ff), A4 (i : Int)], Low n y
 intro y hy
 simp only [List.mem_cons, List.not_mem_nil, or_false] at hy
 rcases hy with rfl | rfl
 ·simp [or_imp, forall_and]
 simp
/-- A contract of the parser: it comes to what the model comes to, or the model's fault is Dw. -/
def CP (g : FuncId) (args : List AV) (H : List AObj) {α : Type} (X : PR α) (Q : α → Nat → AV → List AObj → Prop) (R : List AObj → Prop) : Prop :=
 ACallP Tryz.prog g args H (fun r H' => ∃ c j, X = .ok c j ∧ Q c j r H') (fun v H' => ∃ e a, X = .bad e a ∧ v = Vb e a ∧ R H')
theorem CP.ok {g : FuncId} {args : List AV} {H : List AObj} {α : Type} {X : PR α} {Q : α → Nat → AV → List AObj → Prop} {R : List AObj → Prop} {c : α} {j : Nat} (h : CP g args H X Q R) (hX : X = .ok c j) : ACall Tryz.prog g args H (fun r H' => Q c j r H') :=
 ACall.ofP (h.mono (fun r H' ⟨c', j', e, hq⟩ => by rw [hX] at e; injection e with e1 e2; subst e1; subst e2; exact hq) (fun v H' ⟨e, a, he, _⟩ => by rw [hX] at he; cases he))
theorem CP.bad {g : FuncId} {args : List AV} {H : List AObj} {α : Type} {X : PR α} {Q : α → Nat → AV → List AObj → Prop} {R : List AObj → Prop} {e a : Int} (h : CP g args H X Q R) (hX : X = .bad e a) : ACallP Tryz.prog g args H (fun _ _ => False) (fun v H' => v = Vb e a ∧ R H') :=
 h.mono (fun r H' ⟨c', j', he, hq⟩ => by rw [hX] at he; cases he) (fun v H' ⟨e', a', he, hv, hR⟩ => by rw [hX] at he; injection he with e1 e2; subst e1; subst e2; exact ⟨hv, hR⟩)
/-- The parser's object alone has turned. -/
def W1 (L : List Tok) (o : Nat) (Hp H' : List AObj) : Prop := ∃ j, H' = Hp.set o (pmO L j)
theorem W1.refl {L : List Tok} {o i : Nat} {Hp : List AObj} (ho : Hp[o]? = some (pmO L i)) : W1 L o Hp Hp := ⟨i, (Dr ho).symm⟩
theorem c88 (L : List Tok) (i o : Nat) (Hp : List AObj) (ho : Hp[o]? = some (pmO L i)) (hi : i < L.length) : AFun Tryz.prog 88 [.ptr o 0] Hp (Ff (A9 L i)) := by
 refine ACall.body [.cell 2 125] [0] Tryz.func88 Tryz.ntmps88 (fun d => ?_)
 refine ni ?_;refine Z66 ?_;refine Z99 ?_;refine fl ?_;refine D.tail ?_;refine R.indexAddr (i) (Ff (A9 L i)) jU jS (Kk hi) ?_;refine Gf ?_;exact f6

theorem c89 (L : List Tok) (i o : Nat) (e : Int) (Hp : List AObj) (ho : Hp[o]? = some (pmO L i)) (hi : i < L.length) : ACallP Tryz.prog 89 [.ptr o 0, A4 e] Hp (fun _ _ => False) (fun v H' => v = Vb e (A9 L i).at_ ∧ H' = Hp) := by
 refine ACallP.body [] [0, 1] Tryz.func89 Tryz.ntmps89 (fun d => ?_)
 refine W.drawY0 [0, 0, 2, 6, 14, 0, 32, 96, 224, 510, 1022, 2046, 4095, 8191, 16383] [14] [.q 14 [] [], .s [] (some 0) [] []] (fun _ => Hp) (fun B => [] ++ bot (B 0)) Ad (by kernel_rfl) rfl rfl (fun _ => rfl) ?_
 apply Y.q
 case h1 =>
  intro B hT hF
  refine D.move ?_;refine Z66 ?_;refine Z99 ?_;refine fl ?_;refine D.indexAddr (i) (Ff (A9 L i)) jU jS (Kk hi) ?_;refine D.fieldAddrRo (off := 2) jU Tryz.sizeOf3 ?_;refine D.loadRo jA ?_;refine D.build (places := #[(0, 1), (1, 1)]) jU (fun w => by simp) jZ ?_;refine D.makeIface (.of jU) ?_;exact Gt
 case hTF => decide
 refine Y.panic (vs := [.int .i64 e, .int .i64 ((A9 L i).at_ : Int)]) (fun B hB f => ?_) ?_
 ·exact K.finPP ⟨rfl, rfl⟩
 exact g7

theorem pj (L : List Tok) (s : Str) (i o : Nat) (Hp : List AObj) (ho : Hp[o]? = some (pmO L i)) (hi : i < L.length) : AFun Tryz.prog 162 [.ptr o 0, Aa s] Hp (Ar (isP L s i)) := by
 refine ACall.body [.tmp 4] [0, 1] Tryz.func162 Tryz.ntmps162 (fun d => ?_)
 refine Z56 ?_;refine ku ?_;refine Z10 ?_;refine R.fin [1, 5] ?_;refine Xm ?_;refine R.eql ?_;refine kv ?_;refine Xg ?_;refine Fw ?_;refine Av ?_;refine ko ?_;refine G.move ?_;refine G.seql ?_;refine G8 ?_;exact Xb

/-! Where the parser of moves comes to. -/
def PR.In {α : Type} (x : PR α) (i n : Nat) : Prop := ∀ r j, x = .ok r j → i < j ∧ j < n
theorem PR.bind_ok {α β : Type} {x : PR α} {f : α → Nat → PR β} {r : β} {j : Nat} (h : x.bind f = .ok r j) : ∃ a k, x = .ok a k ∧ f a k = .ok r j := by
 cases x with
 | ok a k => exact ⟨a, k, rfl, h⟩
 | bad e a => cases h
theorem jc {L : List Tok} {s : Str} {i : Nat} (h : isP L s i = true) : (A9 L i).kind ≠ 0 := by
 unfold isP at h
 simp only [Bool.and_eq_true, Bool.or_eq_true, beq_iff_eq] at h
 rcases h.1 with h | h <;> rw [h] <;> decide
theorem Dh {L : List Tok} (hl : TokEnd L) {s : Str} {i : Nat} (hi : i < L.length) : (Bh L s i).In i L.length := by
 intro r j h
 unfold Bh at h
 split at h
 ·rename_i h1
  injection h with _ h
  subst h
  exact ⟨Nat.lt_succ_self i, hl.step hi (jc h1)⟩
 cases h
theorem Ee {L : List Tok} (hl : TokEnd L) {i : Nat} (hi : i < L.length) : (Dt L i).In i L.length := by
 intro r j h
 unfold Dt at h
 split at h
 ·cases h
 rename_i h1
 injection h with _ h
 subst h
 have hk : (A9 L i).kind = 1 := by simpa using h1
 exact nv
theorem jd {L : List Tok} (hl : TokEnd L) {nm : Str} {i : Nat} (hi : i < L.length) : (Wh L nm i).In i L.length := by
 intro r j h
 unfold Wh at h
 split at h
 ·cases h
 rename_i h1
 injection h with _ h
 subst h
 have hk : (A9 L i).kind = 2 := by simp only [Bool.not_eq_true, Bool.or_eq_false_iff, bne_eq_false_iff_eq] at h1; exact h1.1
 exact nv
theorem Pj {L : List Tok} (hl : TokEnd L) {i : Nat} (hi : i < L.length) : (Fh L i).In i L.length := by
 intro r j h
 obtain ⟨a, k, h1, h2⟩ := PR.bind_ok h
 obtain ⟨a1, a2⟩ := Ee hl hi _ _ h1
 obtain ⟨b1, b2⟩ := jd hl a2 _ _ h2
 exact ⟨by omega, b2⟩
theorem K1 {L : List Tok} (hl : TokEnd L) (hll : L.length ≤ 500000) {i : Nat} (hi : i < L.length) {x : Expr} {k : Nat} (h : Hg L i = .ok x k) : i ≤ k ∧ k < L.length := by
 unfold Hg at h
 split at h
 ·cases h
 rename_i h0
 injection h with _ h
 subst h
 have h0 : (atM L i).2.2.1 = 0 := by simpa using h0
 have hq := Nd hl (by omega : L.length ≤ 1048576) hi
 unfold atM at h0 ⊢
 split at h0
 ·rename_i h1
  have : (atS L i (atR L i)).code = 0 := h0
  rw [this] at h1
  cases h1
 rename_i h1
 rw [if_neg h1]
 have e : (atS L i (atR L i)).i = (atR L i).2.i := by
  unfold atS
  repeat' split
  all_goals first | rfl | exact failM_i.1
 show i ≤ ((atS L i (atR L i)).i : Int).toNat ∧ ((atS L i (atR L i)).i : Int).toNat < _
 rw [Int.toNat_natCast, e]
 exact ⟨hq.le, hq.lt⟩
/-- A move has no more parts than so many. -/
structure MvLe (m : Mov) (n : Nat) : Prop where
 take : m.take.length ≤ n
 give : m.give.length ≤ n
 ahead : m.ahead.length ≤ n
 back : m.back.length ≤ n
theorem MvLe.mono {m : Mov} {i j : Nat} (h : MvLe m i) (hij : i ≤ j) : MvLe m j := ⟨Nat.le_trans h.take hij, Nat.le_trans h.give hij, Nat.le_trans h.ahead hij, Nat.le_trans h.back hij⟩
/-- What a part of a move comes to. -/
def mj (x : PR Mov) (i n : Nat) : Prop := ∀ m j, x = .ok m j → i ≤ j ∧ j < n ∧ MvLe m (2 * j)
/-- A part of a move that goes on from i. -/
def Oa (L : List Tok) (one : Mov → Nat → PR Mov) : Prop := ∀ m i, MvLe m (2 * i - 1) → 0 < i → i < L.length → mj (one m i) i L.length
theorem Fk {L : List Tok} (hl : TokEnd L) (hll : L.length ≤ 500000) : Oa L (Ck L) := by
 intro m i hm _ hi m' k h
 obtain ⟨c, j, h1, h2⟩ := PR.bind_ok h
 obtain ⟨u, j2, h3, h4⟩ := PR.bind_ok h2
 obtain ⟨x, j3, h5, h6⟩ := PR.bind_ok h4
 injection h6 with h6 h7
 subst h6; subst h7
 have a1 := Pj hl hi _ _ h1
 have a2 := Dh hl a1.2 _ _ h3
 have a3 := K1 hl hll a2.2 h5
 obtain ⟨b1, b2, b3, b4⟩ := hm
 exact ⟨by omega, a3.2, by show m.take.length ≤ _; omega, by show (m.give ++ [c]).length ≤ _; rw [List.length_append, List.length_singleton]; omega, by show (m.ahead ++ [x]).length ≤ _; rw [List.length_append, List.length_singleton]; omega, by show m.back.length ≤ _; omega⟩
theorem Nr {L : List Tok} (hl : TokEnd L) (hll : L.length ≤ 500000) : Oa L (Jz L) := by
 intro m i hm h0 hi m' k h
 obtain ⟨x, j, h1, h2⟩ := PR.bind_ok h
 injection h2 with h6 h7
 subst h6; subst h7
 have a3 := K1 hl hll hi h1
 obtain ⟨b1, b2, b3, b4⟩ := hm
 exact ⟨by omega, a3.2, by show m.take.length ≤ _; omega, by show m.give.length ≤ _; omega, by show m.ahead.length ≤ _; omega, by show (m.back ++ [x]).length ≤ _; rw [List.length_append, List.length_singleton]; omega⟩
theorem K2 {L : List Tok} (hl : TokEnd L) : Oa L (Ir L) := by
 intro m i hm _ hi m' k h
 obtain ⟨s, j, h1, h2⟩ := PR.bind_ok h
 injection h2 with h6 h7
 subst h6; subst h7
 have a1 := Ee hl hi _ _ h1
 obtain ⟨b1, b2, b3, b4⟩ := hm
 exact ⟨by omega, a1.2, by show (m.take ++ [s]).length ≤ _; rw [List.length_append, List.length_singleton]; omega, by show m.give.length ≤ _; omega, by show m.ahead.length ≤ _; omega, by show m.back.length ≤ _; omega⟩
theorem Hd {L : List Tok} {s : Str} {i : Nat} {u : Unit} {j : Nat} (h : Bh L s i = .ok u j) : j = i + 1 := by
 unfold Bh at h
 split at h
 ·injection h with _ h; exact h.symm
 cases h
theorem T0 {L : List Tok} (hl : TokEnd L) {n : Int} {one : Mov → Nat → PR Mov} (hP : Oa L one) : ∀ (f k : Nat) (m : Mov) (i : Nat), MvLe m (2 * i) → 0 < i → i < L.length → mj (Jy L n one f k m i) i L.length
 | 0, k, m, i, hm, h0, hi => fun m' j h => by
  injection h with h1 h2
  subst h1; subst h2
  exact ⟨Nat.le_refl _, hi, hm⟩
 | f + 1, k, m, i, hm, h0, hi => fun m' j h => by
  rw [Jy] at h
  split at h
  ·obtain ⟨u, j1, h1, h2⟩ := PR.bind_ok h
   obtain ⟨m1, j2, h3, h4⟩ := PR.bind_ok h2
   have e := Hd h1
   have a1 := Dh hl hi _ _ h1
   obtain ⟨b1, b2, b3⟩ := hP m j1 (hm.mono (by omega)) (by omega) a1.2 _ _ h3
   obtain ⟨c1, c2, c3⟩ := T0 hl hP f (k + 1) m1 j2 b3 (by omega) b2 _ _ h4
   exact U7
  injection h with h1 h2
  subst h1; subst h2
  exact ⟨Nat.le_refl _, hi, hm⟩
theorem K3 {L : List Tok} (hl : TokEnd L) {n : Int} {one : Mov → Nat → PR Mov} (hP : Oa L one) : Oa L (Ec L n one) := by
 intro m i hm h0 hi m' k h
 obtain ⟨m1, j, h1, h2⟩ := PR.bind_ok h
 obtain ⟨b1, b2, b3⟩ := hP m i hm h0 hi _ _ h1
 obtain ⟨c1, c2, c3⟩ := T0 hl hP _ _ m1 j b3 (by omega) b2 _ _ h2
 exact U7
theorem Lw {L : List Tok} (hl : TokEnd L) (hll : L.length ≤ 500000) {m : Mov} {i : Nat} (hm : MvLe m (2 * i)) (hi : i < L.length) : mj (D8 L m i) i L.length := by
 intro m' k h
 obtain ⟨u, j, h1, h2⟩ := PR.bind_ok h
 have e := Hd h1
 have a1 := Dh hl hi _ _ h1
 obtain ⟨c1, c2, c3⟩ := K3 hl (Nr hl hll) m j (hm.mono (by omega)) (by omega) a1.2 _ _ h2
 exact U7
theorem Zc {L : List Tok} (hl : TokEnd L) : Oa L (Fi L) := by
 intro m i hm h0 hi m' k h
 obtain ⟨s, j, h1, h2⟩ := PR.bind_ok h
 obtain ⟨u, j2, h3, h4⟩ := PR.bind_ok h2
 obtain ⟨t, j3, h5, h6⟩ := PR.bind_ok h4
 injection h6 with h6 h7
 subst h6; subst h7
 have a1 := Ee hl hi _ _ h1
 have a2 := Dh hl a1.2 _ _ h3
 have a3 := Ee hl a2.2 _ _ h5
 exact ⟨by omega, a3.2, by show 1 ≤ _; omega, by show 1 ≤ _; omega, by show 1 ≤ _; omega, by show 1 ≤ _; omega⟩
theorem MvLe.takeS {m : Mov} {n : Nat} (h : MvLe m n) {s : Str} (h1 : 1 ≤ n) : MvLe (takeS m s) n := ⟨h1, h.give, h.ahead, h.back⟩
theorem Wm {L : List Tok} (hl : TokEnd L) (hll : L.length ≤ 500000) : Oa L (Ed L) := by
 intro m i hm h0 hi m' k h
 unfold Ed at h
 split at h
 ·exact Fk hl hll m i hm h0 hi _ _ h
 split at h
 ·obtain ⟨s, j, h1, h2⟩ := PR.bind_ok h
  have a1 := Ee hl hi _ _ h1
  obtain ⟨c1, c2, c3⟩ := Lw hl hll ((hm.mono (by omega : 2 * i - 1 ≤ 2 * j)).takeS (by omega)) a1.2 _ _ h2
  exact U7
 split at h
 ·exact Zc hl m i hm h0 hi _ _ h
 split at h
 ·obtain ⟨s, j, h1, h2⟩ := PR.bind_ok h
  obtain ⟨u, j2, h3, h4⟩ := PR.bind_ok h2
  obtain ⟨m1, j3, h5, h6⟩ := PR.bind_ok h4
  have a1 := Ee hl hi _ _ h1
  have a2 := Dh hl a1.2 _ _ h3
  obtain ⟨b1, b2, b3⟩ := K3 hl (Fk hl hll) (takeS m s) j2 ((hm.mono (by omega : 2 * i - 1 ≤ 2 * j2 - 1)).takeS (by omega)) (by omega) a2.2 _ _ h5
  obtain ⟨c1, c2, c3⟩ := Lw hl hll b3 b2 _ _ h6
  exact U7
 split at h
 ·obtain ⟨m1, j, h1, h2⟩ := PR.bind_ok h
  obtain ⟨u, j2, h3, h4⟩ := PR.bind_ok h2
  obtain ⟨m2, j3, h5, h6⟩ := PR.bind_ok h4
  obtain ⟨b1, b2, b3⟩ := K3 hl (K2 hl) m i hm h0 hi _ _ h1
  have e := Hd h3
  have a2 := Dh hl b2 _ _ h3
  obtain ⟨d1, d2, d3⟩ := Fk hl hll m1 j2 (b3.mono (by omega)) (by omega) a2.2 _ _ h5
  obtain ⟨c1, c2, c3⟩ := Lw hl hll d3 d2 _ _ h6
  exact U7
 split at h
 ·obtain ⟨m1, j, h1, h2⟩ := PR.bind_ok h
  obtain ⟨d1, d2, d3⟩ := Fk hl hll m i hm h0 hi _ _ h1
  obtain ⟨c1, c2, c3⟩ := Lw hl hll (d3.takeS (by omega)) d2 _ _ h2
  exact U7
 injection h with h1 h2
 subst h1; subst h2
 exact ⟨Nat.le_refl _, hi, hm.mono (by omega)⟩
theorem K4 (L : List Tok) (s : Str) (i o : Nat) (Hp : List AObj) (ho : Hp[o]? = some (pmO L i)) (hi : i < L.length) (hll : L.length ≤ 500000) : CP 123 [.ptr o 0, Aa s] Hp (Bh L s i) (fun _ j r H' => r = Is ∧ H' = Hp.set o (pmO L j)) (W1 L o Hp) := by
 refine ACallP.body [] [0, 1] Tryz.func123 Tryz.ntmps123 (fun d => ?_)
 refine Z96 ?_;refine R.call Tryz.call162 (pj L s i o _ (A6 ho) hi) ?_;refine R.not ?_;refine R.fin [0, 7] ?_
 refine W.cond (fun ht7 => ?_) (fun ht7 => ?_)
 ·have hq : isP L s i = false := by simpa using ht7
  have e : Bh L s i = .bad 8 (A9 L i).at_ := if_neg (by rw [hq]; simp)
  refine AW.regionK ?_
  refine ARunK.one (R.move (ARun.nil ?_))
  refine l7 ?_
  rintro x U O hU hl' ⟨rfl, hH⟩
  obtain ⟨rfl, rfl⟩ := Fj hU hH
  refine ⟨fun h => h, fun o h => (by cases h), ?_⟩
  exact eo
 have hq : isP L s i = true := by simpa using ht7
 have e : Bh L s i = .ok () (i + 1) := if_pos hq
 refine Ty ?_;refine Z29 ?_;refine Xd ?_;refine Z29 ?_
 refine R.storeUp jS ho ?_ ?_
 ·simp
 refine R.fin [] ?_;exact K.finPN .nores (hp := ⟨(), i + 1, e, rfl, rfl⟩)

theorem Lp (L : List Tok) (i o : Nat) (Hp : List AObj) (ho : Hp[o]? = some (pmO L i)) (hi : i < L.length) (hll : L.length ≤ 500000) : CP 156 [.ptr o 0] Hp (Dt L i) (fun s j r H' => r = Aa s ∧ H' = Hp.set o (pmO L j)) (W1 L o Hp) := by
 refine ACallP.body [.tmp 2] [0] Tryz.func156 Tryz.ntmps156 (fun d => ?_)
 refine Z54 ?_;refine ku ?_;refine Z10 ?_;refine Kb ?_;refine Z15 ?_;refine Z35 ?_;refine R.neq ?_;refine R.fin [0, 3, 8] ?_
 refine W.cond (fun ht8 => ?_) (fun ht8 => ?_)
 ·have e : Dt L i = .bad 8 (A9 L i).at_ := if_pos ht8
  refine AW.regionK ?_
  refine ARunK.one (R.move (ARun.nil ?_))
  refine l7 ?_
  rintro x U O hU hl' ⟨rfl, hH⟩
  obtain ⟨rfl, rfl⟩ := Fj hU hH
  refine ⟨fun h => h, fun o h => (by cases h), ?_⟩
  exact eo
 have e : Dt L i = .ok (A9 L i).text (i + 1) := if_neg (by rw [ht8]; simp)
 refine Ka ?_;refine Z29 ?_;refine Xd ?_;refine Z29 ?_
 refine R.storeUp jS ho ?_ ?_
 ·simp
 refine R.fin [3] ?_;refine B8 ?_;refine er ?_;refine Z23 ?_;exact K.finP (V.one V.tmp) (hp := ⟨_, i + 1, e, rfl, rfl⟩)

theorem getset {Hp : List AObj} {o : Nat} {A B : AObj} (h : Hp[o]? = some A) : (Hp.set o B)[o]? = some B := by
 have := (List.getElem?_eq_some_iff.1 h).1
 simp [this]
theorem W1.set {L : List Tok} {o i : Nat} {Hp : List AObj} : W1 L o Hp (Hp.set o (pmO L i)) := ⟨i, rfl⟩
theorem Au {l : List AObj} {i : Nat} {x : AObj} (h : ∀ y ∈ l, ObjLow (l.set i x).length y) (hx : ∀ n, ObjLow n x) : ∀ y ∈ l.set i x, ObjLow (l.set i x).length y := Cy h (hx _)
theorem pk (L : List Tok) (i o : Nat) (Hp : List AObj) (ho : Hp[o]? = some (pmO L i)) (hi : i < L.length) (hl : TokEnd L) (hll : L.length ≤ 500000) : CP 177 [.ptr o 0] Hp (Fh L i) (fun c j r H' => r = Aq c ∧ H' = Hp.set o (pmO L j)) (W1 L o Hp) := by
 refine ACallP.body [.cell 2 58] [0] Tryz.func177 Tryz.ntmps177 (fun d => ?_)
 refine Z48 ?_
 rcases hN : Dt L i with ⟨s, j⟩ | ⟨e, a⟩
 rotate_left
 ·refine AW.seqRK ?_
  refine ARunK.one (R.move (ARun.nil ?_))
  refine RK.callBad Tryz.call156 ((Lp L i o _ (A6 ho) hi hll).bad hN) ?_
  rintro x U O hU hl' ⟨rfl, j', hH⟩
  obtain ⟨rfl, rfl⟩ := At hU (List.getElem?_eq_some_iff.1 ho).1 hH
  refine ⟨fun h => Au h (fun n => An), fun o h => (by cases h), ?_⟩
  refine K.thP ?_;exact K.finPP ⟨_, _, by unfold Fh; rw [hN]; rfl, rfl, j', rfl⟩
 have hj : j < L.length := (Ee hl hi _ _ hN).2
 have e0 : Fh L i = Wh L s j := by unfold Fh; rw [hN]; rfl
 refine Z0 ?_;refine R.callUp (x := pmO L j) Tryz.call156 ho (by simp) An ((Lp L i o _ (A6 ho) hi hll).ok hN) ?_;refine Rm ?_;refine Rf ?_;refine Z0 ?_;refine R.call Tryz.call88 (c88 L j o _ (A6 (getset ho)) hj) ?_;refine Z10 ?_;refine R.fin [0, 2, 3, 4] ?_;refine Z15 ?_;refine er ?_;refine R.call Tryz.call198 (r8 (A9 L j).text _) ?_;refine R.fieldAddrPtr (fo := 1) jU Tryz.sizeOf3 ?_;refine E3 ?_;refine R.fin [0, 2, 3, 4] ?_;refine Xm ?_;refine R.neq ?_;refine Av ?_;refine G.fieldAddrPtr (fo := 1) jU Tryz.sizeOf3 ?_;refine Xg ?_;refine Fw ?_;refine R.fin [0, 2, 3, 21] ?_
 refine W.cond (fun ht21 => ?_) (fun ht21 => ?_)
 ·have e : Fh L i = .bad 8 (A9 L j).at_ := by rw [e0]; exact if_pos ht21
  refine AW.regionK ?_
  refine ARunK.one (R.move (ARun.nil ?_))
  refine RK.callBad Tryz.call89 (c89 L j o 8 _ (A6 (getset ho)) hj) ?_
  rintro x U O hU hl' ⟨rfl, hH⟩
  obtain ⟨rfl, rfl⟩ := Fj hU hH
  refine ⟨fun h => h, fun o h => (by cases h), ?_⟩
  refine K.thP ?_;exact K.finPP ⟨_, _, e, rfl, W1.set⟩
 have e : Fh L i = .ok ⟨s, Ld (A9 L j).text⟩ (j + 1) := by rw [e0]; exact if_neg (by rw [ht21]; simp)
 refine Ka ?_;refine Z29 ?_;refine R.loadUp jA (getset ho) ?_;refine R.add64 ?_;refine Z29 ?_
 refine R.storeUp jS (getset ho) ?_ ?_
 ·simp
 refine Ge ?_;refine Z34 ?_;refine Z5 ?_;exact K.finP (V.one (V.cellN jA jS)) (hp := ⟨_, j + 1, e, rfl, by rw [List.set_set]; rfl⟩)

theorem dt (L : List Tok) (i o : Nat) (Hp : List AObj) (ho : Hp[o]? = some (pmO L i)) (hi : i < L.length) (hl : TokEnd L) (hll : L.length ≤ 500000) : CP 178 [.ptr o 0] Hp (Hg L i) (fun c j r H' => r = A7 c ∧ H' = Hp.set o (pmO L j)) (W1 L o Hp) := by
 refine ACallP.body [.cell 2 45] [0] Tryz.func178 Tryz.ntmps178 (fun d => ?_)
 refine Z48 ?_;refine W.drawY [0, 1, 3, 7, 0, 16, 48, 112, 255, 511, 1023, 1023, 1023, 0, 0, 26623, 61439, 131071] [] [.q 13 [] [], .s [3] none [] [], .s [5] none [] [], .s [3] none [] [], .q 1 [] [], .s [5] none [] []] (fun _ => Hp) (fun _ => [.cells 45 [A4 0, Aa [], A4 0, A4 0, Aa [], .nil]]) Ad (by kernel_rfl) rfl rfl (fun _ => rfl) ?_
 apply Y.q
 case h1 =>
  intro B hT hF
  refine Z66 ?_;refine Z99 ?_;refine fl ?_;refine D.call Tryz.call199 (rp L i hi hl hll (fun n Dv h1 h2 => Z1 hl (by omega) n Dv h1 h2) _) ?_;refine D.move ?_;refine D.extract ?_;refine D.extract ?_;refine D.extract ?_;exact Gt
 case hTF => decide
 refine Y.allocP Tryz.zeroValue45 ?_;refine Y.allocP Tryz.zeroValue60 ?_;refine Y.storeP Tryz.sizeOf45 ?_
 apply Y.q
 case h1 =>
  intro B hT hF
  exact ky
 case hTF => decide
 refine Y.storeP Tryz.sizeOf60 ?_;refine Y.tail (tn := [])  ?_;refine R.fin [0, 2, 3, 4, 5] ?_;refine Z15 ?_;refine R.fieldAddrRo (off := 0) jU Tryz.sizeOf27 ?_;refine Di ?_;refine R.neq ?_;refine R.fin [0, 2, 3, 4, 5, 21] ?_
 refine W.cond (fun ht21 => ?_) (fun ht21 => ?_)
 ·have e : Hg L i = .bad (atM L i).2.2.1 (atM L i).2.2.2 := if_pos ht21
  refine AW.regionK ?_
  refine ARunK.one (R.loadRoN Tryz.isAgg60 Tryz.sizeOf60 (ARun.nil ?_))
  refine ARunK.one (R.makeIface (.of Tryz.underlying60) (ARun.nil ?_))
  refine RK.panic (vs := [.int .i64 (atM L i).2.2.1, .int .i64 (atM L i).2.2.2]) ?_;exact eo
 obtain ⟨k, hk, hkl⟩ := ip hl (by omega) hi (by simpa using ht21)
 have e : Hg L i = .ok (atM L i).1 k := (if_neg (by rw [ht21]; simp)).trans (by rw [hk]; rfl)
 rw [hk]
 refine U0 ?_;refine Z29 ?_
 refine R.storeUp jS ho ?_ ?_
 ·simp
 refine Ge ?_;refine Z86 ?_;refine Z5 ?_;exact K.finP (V.one (V.cellN jA jS)) (hp := ⟨_, k, e, (Ac _).symm, rfl⟩) (hlow := by have := Ae Hp.length (atM L i).1; rw [Ac] at this; exact this)

/-- The parser's object and the move's, turned. -/
def U2 (L : List Tok) (Hp : List AObj) (o om i : Nat) (x : AObj) : List AObj := (Hp.set o (pmO L i)).set om x
theorem U2_len {L : List Tok} {Hp : List AObj} {o om i : Nat} {x : AObj} : (U2 L Hp o om i x).length = Hp.length := by simp [U2]
theorem Bu {L : List Tok} {Hp : List AObj} {o om i : Nat} {x z : AObj} (hm : Hp[om]? = some z) : (U2 L Hp o om i x)[om]? = some x := gB hm
theorem Aw {L : List Tok} {Hp : List AObj} {o om i : Nat} {x z : AObj} (ho : Hp[o]? = some z) (hne : om ≠ o) : (U2 L Hp o om i x)[o]? = some (pmO L i) := gA ho hne
theorem Bf {L : List Tok} {Hp : List AObj} {o om i j : Nat} {x : AObj} (hne : om ≠ o) : (U2 L Hp o om i x).set o (pmO L j) = U2 L Hp o om j x := dq hne
theorem U2_setm {L : List Tok} {Hp : List AObj} {o om i : Nat} {x y : AObj} : (U2 L Hp o om i x).set om y = U2 L Hp o om i y := List.set_set ..
theorem K5 {L : List Tok} {Hp : List AObj} {o om i : Nat} {x : AObj} (ho : Hp[o]? = some (pmO L i)) (hm : Hp[om]? = some x) : U2 L Hp o om i x = Hp := by unfold U2; rw [Dr ho, Dr hm]
theorem Vc {L : List Tok} {Hp : List AObj} {o om i : Nat} {x : AObj} (hne : om ≠ o) (hm : Hp[om]? = some x) : Hp.set o (pmO L i) = U2 L Hp o om i x := (Dr (by rw [List.getElem?_set_ne (Ne.symm hne)]; exact hm)).symm
theorem Ef {L : List Tok} {Hp : List AObj} {o om i q : Nat} {x : AObj} (h1 : q ≠ o) (h2 : q ≠ om) : (U2 L Hp o om i x)[q]? = Hp[q]? := by unfold U2; rw [List.getElem?_set_ne (Ne.symm h2), List.getElem?_set_ne (Ne.symm h1)]
def W2 (L : List Tok) (o om : Nat) (Hp H' : List AObj) : Prop := ∃ j m, H' = U2 L Hp o om j (mvO m)
theorem J9 {n k : Nat} {o : Bool} {l : List Expr} {x : Expr} : Low n (.slice o k (l.map A7 ++ [.agg (Db x)])) := by
 rw [show AV.agg (Db x) = A7 x from (Ac x).symm]; exact V7
theorem Bc {n : Nat} {m : Mov} : ObjLow n (mvO m) := by
 show ∀ y ∈ mvC m, Low n y
 intro y hy
 simp only [mvC, List.mem_cons, List.not_mem_nil, or_false] at hy
 rcases hy with rfl | rfl | rfl | rfl | rfl
 all_goals first | exact Cs | simp [or_imp, forall_and]
theorem Zd {L : List Tok} {Hp : List AObj} {o om i : Nat} {m : Mov} {c : Col} {x : AObj} : (U2 L Hp o om i x).set om (.cells 64 [A4 m.kind, .slice true 1 (m.take.map Aa), .slice true 2 (m.give.map Aq ++ [Aq c]), .slice true 6 (m.ahead.map A7), .slice true 6 (m.back.map A7)]) = U2 L Hp o om i (mvO (Bl m c)) := by
 rw [U2_setm]; simp only [mvO, mvC, Bl, List.map_append, List.map_cons, List.map_nil]
theorem Ze {L : List Tok} {Hp : List AObj} {o om i : Nat} {m : Mov} {e : Expr} {x : AObj} : (U2 L Hp o om i x).set om (.cells 64 [A4 m.kind, .slice true 1 (m.take.map Aa), .slice true 2 (m.give.map Aq), .slice true 6 (m.ahead.map A7 ++ [.agg (Db e)]), .slice true 6 (m.back.map A7)]) = U2 L Hp o om i (mvO (Wi m e)) := by
 rw [U2_setm, show AV.agg (Db e) = A7 e from (Ac e).symm]; simp only [mvO, mvC, Wi, List.map_append, List.map_cons, List.map_nil]
theorem Zf {L : List Tok} {Hp : List AObj} {o om i : Nat} {m : Mov} {e : Expr} {x : AObj} : (U2 L Hp o om i x).set om (.cells 64 [A4 m.kind, .slice true 1 (m.take.map Aa), .slice true 2 (m.give.map Aq), .slice true 6 (m.ahead.map A7), .slice true 6 (m.back.map A7 ++ [.agg (Db e)])]) = U2 L Hp o om i (mvO (Wk m e)) := by
 rw [U2_setm, show AV.agg (Db e) = A7 e from (Ac e).symm]; simp only [mvO, mvC, Wk, List.map_append, List.map_cons, List.map_nil]
theorem Zg {L : List Tok} {Hp : List AObj} {o om i : Nat} {m : Mov} {s : Str} {x : AObj} : (U2 L Hp o om i x).set om (.cells 64 [A4 m.kind, .slice true 1 (m.take.map Aa ++ [Aa s]), .slice true 2 (m.give.map Aq), .slice true 6 (m.ahead.map A7), .slice true 6 (m.back.map A7)]) = U2 L Hp o om i (mvO (Wl m s)) := by
 rw [U2_setm]; simp only [mvO, mvC, Wl, List.map_append, List.map_cons, List.map_nil]

theorem Vd (L : List Tok) (m : Mov) (i o om : Nat) (Hp : List AObj) (hne : om ≠ o) (ho : Hp[o]? = some (pmO L i)) (hm : Hp[om]? = some (mvO m)) (hi : i < L.length) (hl : TokEnd L) (hll : L.length ≤ 500000) (hb : MvLe m (2 * i - 1)) : CP 155 [.ptr o 0, .ptr om 0] Hp (Ck L m i) (fun m' j r H' => r = Is ∧ H' = U2 L Hp o om j (mvO m')) (W2 L o om Hp) := by
 have := hb.take; have := hb.give; have := hb.ahead; have := hb.back
 refine ACallP.body [] [0, 1] Tryz.func155 Tryz.ntmps155 (fun d => ?_)
 rcases hC : Fh L i with ⟨c, j⟩ | ⟨e, a⟩
 rotate_left
 ·refine W.drawY [0, 0, 2, 6, 14, 0, 32, 96, 254, 511, 1023, 2047] [6] [.q 6 [] [], .s [10] (some 0) [] [], .s [] none [0] [], .s [] none [0] [], .s [] none [0] [], .s [] none [0] [], .s [] none [0] []] (fun _ => Hp) (fun B => [] ++ bot (B 0)) Ad (by kernel_rfl) rfl rfl (fun _ => rfl) ?_
  apply Y.q
  case h1 =>
   intro B hT hF
   refine D.move ?_;refine Z66 ?_;refine D.fieldAddrPtr (fo := 2) jU Tryz.sizeOf22 ?_;refine D.loadUp jA hm ?_;exact Z80
  case hTF => decide
  refine Y.callBad (own0 := []) Tryz.call177 (fun B hB => ⟨rfl, by simp [bot, hB]⟩) ((pk L i o _ (A6 ho) hi hl hll).bad hC) ?_ ?_
  ·rintro x U O f hU hl' ⟨rfl, j', hH⟩
   obtain ⟨rfl, rfl⟩ := At hU (List.getElem?_eq_some_iff.1 ho).1 hH
   refine ⟨fun h => Au h (fun n => An), fun o h => (by cases h), ?_⟩
   exact K.finPP ⟨_, _, by unfold Ck; rw [hC]; rfl, rfl, j', m, Vc hne hm⟩
  refine Z8 ?_;exact fk
 have hj := Pj hl hi _ _ hC
 refine W.drawY [0, 0, 2, 6, 14, 0, 32, 96, 254, 511, 1023, 2047] [4, 6] [.q 4 [] [], .s [8] (some 0) [] [], .q 1 [] [1], .s [10] (some 1) [] [], .q 1 [1] [], .s [8, 12] none [0, 1] []] (fun B => U2 L Hp o om (if B 1 = true then j else i) (if B 0 = true then .cells 64 [A4 m.kind, .slice true 1 (m.take.map Aa), .slice false 2 (m.give.map Aq), .slice true 6 (m.ahead.map A7), .slice true 6 (m.back.map A7)] else .cells 64 [A4 m.kind, .slice true 1 (m.take.map Aa), .slice true 2 (m.give.map Aq), .slice true 6 (m.ahead.map A7), .slice true 6 (m.back.map A7)])) (fun _ => []) Ad (by kernel_rfl) (K5 ho hm) rfl (fun B => U2_len) ?_
 apply Y.q
 case h1 =>
  intro B hT hF
  refine D.move ?_;refine Z66 ?_;refine D.fieldAddrPtr (fo := 2) jU Tryz.sizeOf22 ?_;exact Gt
 case hTF => decide
 refine Y.loadUpT (o := om) (t' := 64) (cs := [A4 m.kind, .slice true 1 (m.take.map Aa), .slice true 2 (m.give.map Aq), .slice true 6 (m.ahead.map A7), .slice true 6 (m.back.map A7)]) (cs' := [A4 m.kind, .slice true 1 (m.take.map Aa), .slice false 2 (m.give.map Aq), .slice true 6 (m.ahead.map A7), .slice true 6 (m.back.map A7)]) Tryz.isAgg22 (fun B hB => ⟨by simp only [hB]; exact Bu hm, U2_setm.symm, rfl⟩) ?_
 apply Y.q
 case h1 =>
  intro B hT hF
  exact Z80
 case hTF => decide
 refine Y.callUp (r := Aq c) (o := o) (x0 := pmO L i) (x := pmO L j) Tryz.call177 (fun B hB1 hB2 hB => ⟨by simp only [hB]; exact Aw ho hne, (Bf hne).symm, rfl, An, ?_⟩) ?_
 ·simp only [hB]
  exact (pk L i o _ (A6 (Aw ho hne)) hi hl hll).ok hC
 apply Y.q
 case h1 =>
  intro B hT hF
  exact Z39
 case hTF => decide
 refine Y.append jU Tryz.type58 ?_ ?_ ?_
 ·simp [Tryz.t58]; omega
 ·simp [Tryz.t58]; omega
 refine Y.tail (tn := [4, 6]) (U := U2 L Hp o om j (.cells 64 [A4 m.kind, .slice true 1 (m.take.map Aa), .slice false 2 (m.give.map Aq), .slice true 6 (m.ahead.map A7), .slice true 6 (m.back.map A7)])) ?_;refine R.nilPtr ?_;refine R.fieldAddrPtr (fo := 2) jU Tryz.sizeOf22 ?_
 refine R.storeUpT jS (Bu hm) ?_ ?_
 ·simp [or_imp, forall_and]
 refine R.fin [0, 1] ?_;refine AW.upEq (Zd (m := m) (c := c)) ?_
 rcases hW : Bh L [61] j with ⟨u, j2⟩ | ⟨e, a⟩
 rotate_left
 ·refine AW.seqRK ?_
  refine ARunK.one (R.move (ARun.nil ?_))
  refine RK.callBad Tryz.call123 ((K4 L [61] j o _ (A6 (Aw ho hne)) hj.2 hll).bad hW) ?_
  rintro x U O hU hl' ⟨rfl, j', hH⟩
  obtain ⟨rfl, rfl⟩ := At hU (List.getElem?_eq_some_iff.1 (Aw (L := L) (i := j) (x := mvO (Bl m c)) ho hne)).1 hH
  refine ⟨fun h => Au h (fun n => An), fun o h => (by cases h), ?_⟩
  refine K.thP ?_;exact K.finPP ⟨_, _, by unfold Ck; rw [hC]; show (Bh L [61] j).bind _ = _; rw [hW]; rfl, rfl, j', Bl m c, Bf hne⟩
 have hj2 := Dh hl hj.2 _ _ hW
 refine Z0 ?_;refine R.callUp (x := pmO L j2) Tryz.call123 (Aw ho hne) (by simp) An ((K4 L [61] j o _ (A6 (Aw ho hne)) hj.2 hll).ok hW) ?_
 rw [Bf hne]
 refine R.fin [0, 1] ?_
 rcases hT : Hg L j2 with ⟨x, k⟩ | ⟨e, a⟩
 rotate_left
 ·refine W.drawY0 [0, 1, 3, 7, 0, 16, 15, 0, 255, 511, 1023, 511, 2559, 6655] [5] [.q 5 [] [], .s [22] (some 0) [] [], .q 2 [] [], .s [] none [0] [], .s [] none [0] [], .s [] none [0] [], .s [] none [0] [], .s [] none [0] [], .s [] none [0] []] (fun _ => U2 L Hp o om j2 (mvO (Bl m c))) (fun B => [] ++ bot (B 0)) Ad (by kernel_rfl) rfl rfl (fun _ => rfl) ?_
  apply Y.q
  case h1 =>
   intro B hT hF
   refine Z66 ?_;refine D.fieldAddrPtr (fo := 3) jU Tryz.sizeOf43 ?_;refine D.loadUp jA (Bu hm) ?_;exact Z80
  case hTF => decide
  refine Y.callBad (own0 := []) Tryz.call178 (fun B hB => ⟨rfl, by simp [bot, hB]⟩) ((dt L j2 o _ (A6 (Aw ho hne)) hj2.2 hl hll).bad hT) ?_ ?_
  ·rintro x U O f hU hl' ⟨rfl, j', hH⟩
   obtain ⟨rfl, rfl⟩ := At hU (List.getElem?_eq_some_iff.1 (Aw (L := L) (i := j2) (x := mvO (Bl m c)) ho hne)).1 hH
   refine ⟨fun h => Au h (fun n => An), fun o h => (by cases h), ?_⟩
   exact K.finPP ⟨_, _, by unfold Ck; rw [hC]; show (Bh L [61] j).bind _ = _; rw [hW]; show (Hg L j2).bind _ = _; rw [hT]; rfl, rfl, j', Bl m c, Bf hne⟩
  apply Y.q
  case h1 =>
   intro B hT hF
   exact Xe
  case hTF => decide
  refine Z8 ?_;exact fh
 have hk := K1 hl hll hj2.2 hT
 refine W.drawT0 [0, 1, 3, 7, 0, 16, 15, 0, 255, 511, 1023, 511, 2559, 6655] [3, 5] [.q 3 [] [0], .s [20] (some 0) [] [], .q 1 [] [1], .s [22] (some 1) [] [], .q 2 [] []] (fun B => U2 L Hp o om (if B 1 = true then k else j2) (if B 0 = true then .cells 64 [A4 (Bl m c).kind, .slice true 1 ((Bl m c).take.map Aa), .slice true 2 ((Bl m c).give.map Aq), .slice false 6 ((Bl m c).ahead.map A7), .slice true 6 ((Bl m c).back.map A7)] else .cells 64 [A4 (Bl m c).kind, .slice true 1 ((Bl m c).take.map Aa), .slice true 2 ((Bl m c).give.map Aq), .slice true 6 ((Bl m c).ahead.map A7), .slice true 6 ((Bl m c).back.map A7)])) (fun _ => []) Ad (by kernel_rfl) rfl rfl (fun B => by rw [U2_len]; exact U2_len.symm) ?_
 apply Y.q
 case h1 =>
  intro B hT hF
  refine Z66 ?_;refine D.fieldAddrPtr (fo := 3) jU Tryz.sizeOf43 ?_;exact Gt
 case hTF => decide
 refine Y.loadUpT (o := om) (t' := 64) (cs := [A4 (Bl m c).kind, .slice true 1 ((Bl m c).take.map Aa), .slice true 2 ((Bl m c).give.map Aq), .slice true 6 ((Bl m c).ahead.map A7), .slice true 6 ((Bl m c).back.map A7)]) (cs' := [A4 (Bl m c).kind, .slice true 1 ((Bl m c).take.map Aa), .slice true 2 ((Bl m c).give.map Aq), .slice false 6 ((Bl m c).ahead.map A7), .slice true 6 ((Bl m c).back.map A7)]) Tryz.isAgg43 (fun B hB => ⟨by simp only [hB]; exact Bu hm, U2_setm.symm, rfl⟩) ?_
 apply Y.q
 case h1 =>
  intro B hT hF
  exact Z80
 case hTF => decide
 refine Y.callUp (r := A7 x) (o := o) (x0 := pmO L j2) (x := pmO L k) Tryz.call178 (fun B hB1 hB2 hB => ⟨by simp only [hB]; exact Aw ho hne, (Bf hne).symm, rfl, An, ?_⟩) ?_
 ·simp only [hB]
  exact (dt L j2 o _ (A6 (Aw ho hne)) hj2.2 hl hll).ok hT
 apply Y.q
 case h1 =>
  intro B hT hF
  exact Xe
 case hTF => decide
 refine Y.appendPut4 (tn := [3, 5]) (U := U2 L Hp o om k (.cells 64 [A4 (Bl m c).kind, .slice true 1 ((Bl m c).take.map Aa), .slice true 2 ((Bl m c).give.map Aq), .slice false 6 ((Bl m c).ahead.map A7), .slice true 6 ((Bl m c).back.map A7)])) (O := []) (o := om) (t' := 64) (cs := [A4 (Bl m c).kind, .slice true 1 ((Bl m c).take.map Aa), .slice true 2 ((Bl m c).give.map Aq), .slice false 6 ((Bl m c).ahead.map A7), .slice true 6 ((Bl m c).back.map A7)]) (by kernel_rfl) jU Tryz.type45 Tryz.sizeOf45 Tryz.sizeOf43 jU (A6 (Bu hm)) ?_ ?_ ?_ (hfsz := Tryz.sizeOf43)
 ·simp [Tryz.t45, Bl]; omega
 ·simp [Tryz.t45, Bl]; omega
 refine R.nilPtr ?_;refine fw ?_
 refine R.storeUpT jS (Bu hm) ?_ ?_
 ·exact J9
 refine R.fin [] ?_;exact K.finPN .nores (hp := ⟨Wi (Bl m c) x, k, by unfold Ck; rw [hC]; show (Bh L [61] j).bind _ = _; rw [hW]; show (Hg L j2).bind _ = _; rw [hT]; rfl, rfl, by exact Ze (m := Bl m c)⟩)

/-- What is asked of a part of a move that is a closure. -/
def Wn (L : List Tok) (o om g : Nat) (caps : List AV) (Hp : List AObj) (one : Mov → Nat → PR Mov) : Prop :=
 ∀ m i, MvLe m (2 * i - 1) → 0 < i → i < L.length → CP g caps (U2 L Hp o om i (mvO m)) (one m i) (fun m' j r H' => r = Is ∧ H' = U2 L Hp o om j (mvO m')) (W2 L o om Hp)
theorem F7 {L : List Tok} {Hp : List AObj} {o om i j : Nat} {x y : AObj} (hne : om ≠ o) : U2 L (U2 L Hp o om i x) o om j y = U2 L Hp o om j y := by
 unfold U2
 rw [dq hne, List.set_set]
theorem du {L : List Tok} {Hp H' : List AObj} {o om i : Nat} {x : AObj} (hne : om ≠ o) (h : W2 L o om (U2 L Hp o om i x) H') : W2 L o om Hp H' := by
 obtain ⟨j, m, e⟩ := h
 exact ⟨j, m, by rw [e, F7 hne]⟩
theorem si (L : List Tok) (m : Mov) (i o om bp bm : Nat) (Hp : List AObj) (hne : om ≠ o) (ho : Hp[o]? = some (pmO L i)) (hm : Hp[om]? = some (mvO m)) (hbp : Hp[bp]? = some (.cells 94 [.ptr o 0])) (hbm : Hp[bm]? = some (.cells 155 [.ptr om 0])) (hi : i < L.length) (hl : TokEnd L) (hll : L.length ≤ 500000) (hb : MvLe m (2 * i - 1)) : CP 179 [.ptr bm 0, .ptr bp 0] Hp (Jz L m i) (fun m' j r H' => r = Is ∧ H' = U2 L Hp o om j (mvO m')) (W2 L o om Hp) := by
 have n1 : bp ≠ o := fun e => by rw [e, ho] at hbp; simp at hbp
 have n2 : bp ≠ om := fun e => by rw [e, hm] at hbp; simp at hbp
 have n3 : bm ≠ o := fun e => by rw [e, ho] at hbm; simp at hbm
 have n4 : bm ≠ om := fun e => by rw [e, hm] at hbm; simp at hbm
 have := hb.take; have := hb.give; have := hb.ahead; have := hb.back
 refine ACallP.body [] [0, 1] Tryz.func179 Tryz.ntmps179 (fun d => ?_)
 refine W.flip Ad (by kernel_rfl) Tryz.zeroValue4 Tryz.sizeOf4 Tryz.isAgg4 (fun fb => ?_)
 refine AW.keep [0, 1, 3] (by simp only [go_sem, ↓reduceIte, Nat.reduceEqDiff, Nat.reduceAdd] <;> rfl) ?_
 refine W.cond (fun ht3 => ?_) (fun ht3 => ?_)
 ·rcases hT : Hg L i with ⟨x, k⟩ | ⟨e, a⟩
  rotate_left
  ·refine W.drawY [0, 1, 3, 7, 0, 16, 15, 0, 255, 511, 1023, 2047] [5] [.q 5 [] [], .s [9] (some 0) [] [], .q 2 [] [], .s [] none [0] [], .s [] none [0] [], .s [] none [0] [], .s [] none [0] []] (fun _ => Hp) (fun B => [.cells 4 [.v (.bool fb)]] ++ bot (B 0)) Ad (by kernel_rfl) rfl rfl (fun _ => rfl) ?_
   apply Y.q
   case h1 =>
    intro B hT hF
    refine D.loadUp jA hbm ?_;refine ew ?_;exact kz
   case hTF => decide
   refine Y.callBad (own0 := [.cells 4 [.v (.bool fb)]]) Tryz.call178 (fun B hB => ⟨rfl, by simp [bot, hB]⟩) ((dt L i o _ (A6 ho) hi hl hll).bad hT) ?_ ?_
   ·rintro x U O f hU hl' ⟨rfl, j', hH⟩
    obtain ⟨rfl, rfl⟩ := At hU (List.getElem?_eq_some_iff.1 ho).1 hH
    refine ⟨fun h => Au h (fun n => An), fun o h => (by cases h), ?_⟩
    exact nw
   apply Y.q
   case h1 =>
    intro B hT hF
    exact Xe
   case hTF => decide
   exact fh
  have hk := K1 hl hll hi hT
  refine W.drawZ0 [0, 1, 3, 7, 0, 16, 15, 0, 255, 511, 1023, 2047] [3, 5] [.q 3 [] [0], .s [7] (some 0) [] [], .q 1 [] [1], .s [9] (some 1) [] [], .q 2 [] []] (fun B => U2 L Hp o om (if B 1 = true then k else i) (if B 0 = true then .cells 64 [A4 m.kind, .slice true 1 (m.take.map Aa), .slice true 2 (m.give.map Aq), .slice true 6 (m.ahead.map A7), .slice false 6 (m.back.map A7)] else .cells 64 [A4 m.kind, .slice true 1 (m.take.map Aa), .slice true 2 (m.give.map Aq), .slice true 6 (m.ahead.map A7), .slice true 6 (m.back.map A7)])) (fun _ => [.cells 4 [.v (.bool fb)]]) Ad (by kernel_rfl) (K5 ho hm) rfl (fun B => U2_len) ?_
  apply Y.q
  case h1 =>
   intro B hT hF
   refine D.loadUp jA ((Ef n3 n4).trans hbm) ?_;refine ew ?_;exact Gt
  case hTF => decide
  refine Y.loadUpT (o := om) (t' := 64) (cs := [A4 m.kind, .slice true 1 (m.take.map Aa), .slice true 2 (m.give.map Aq), .slice true 6 (m.ahead.map A7), .slice true 6 (m.back.map A7)]) (cs' := [A4 m.kind, .slice true 1 (m.take.map Aa), .slice true 2 (m.give.map Aq), .slice true 6 (m.ahead.map A7), .slice false 6 (m.back.map A7)]) Tryz.isAgg43 (fun B hB => ⟨by simp only [hB]; exact Bu hm, U2_setm.symm, rfl⟩) ?_
  apply Y.q
  case h1 =>
   intro B hT hF
   exact ka
  case hTF => decide
  refine Y.callUp (r := A7 x) (o := o) (x0 := pmO L i) (x := pmO L k) Tryz.call178 (fun B hB1 hB2 hB => ⟨by simp only [hB]; exact Aw ho hne, (Bf hne).symm, rfl, An, ?_⟩) ?_
  ·simp only [hB]
   exact nx
  apply Y.q
  case h1 =>
   intro B hT hF
   exact Xe
  case hTF => decide
  refine Y.put2 (tn := [3, 5]) (U := U2 L Hp o om k (.cells 64 [A4 m.kind, .slice true 1 (m.take.map Aa), .slice true 2 (m.give.map Aq), .slice true 6 (m.ahead.map A7), .slice false 6 (m.back.map A7)])) (O := [.cells 4 [.v (.bool fb)]]) (o := om) (t' := 64) (cs := [A4 m.kind, .slice true 1 (m.take.map Aa), .slice true 2 (m.give.map Aq), .slice true 6 (m.ahead.map A7), .slice false 6 (m.back.map A7)]) jU Tryz.type45 Tryz.sizeOf45 Tryz.sizeOf43 jU (A6 (Bu hm)) ?_ ?_ ?_ (hfsz := Tryz.sizeOf43)
  ·simp [Tryz.t45]; omega
  ·simp [Tryz.t45]; omega
  refine kr ?_
  refine R.storeUpT jS (Bu hm) ?_ ?_
  ·exact J9
  exact mr
 rcases hT : Hg L i with ⟨x, k⟩ | ⟨e, a⟩
 rotate_left
 ·refine W.drawY0 [0, 0, 2, 6, 14, 0, 32, 96, 254, 511, 1023, 2047] [6] [.q 6 [] [], .s [22] (some 0) [] [], .s [] none [0] [], .s [] none [0] [], .s [] none [0] [], .s [] none [0] [], .s [] none [0] []] (fun _ => Hp) (fun B => [.cells 4 [.v (.bool fb)]] ++ bot (B 0)) Ad (by kernel_rfl) rfl rfl (fun _ => rfl) ?_
  apply Y.q
  case h1 =>
   intro B hT hF
   refine D.loadUp jA hbm ?_;refine D.loadUp jA hbm ?_;refine ew ?_;exact kz
  case hTF => decide
  refine Y.callBad (own0 := [.cells 4 [.v (.bool fb)]]) Tryz.call178 (fun B hB => ⟨rfl, by simp [bot, hB]⟩) ((dt L i o _ (A6 ho) hi hl hll).bad hT) ?_ ?_
  ·rintro x U O f hU hl' ⟨rfl, j', hH⟩
   obtain ⟨rfl, rfl⟩ := At hU (List.getElem?_eq_some_iff.1 ho).1 hH
   refine ⟨fun h => Au h (fun n => An), fun o h => (by cases h), ?_⟩
   exact nw
  refine Z8 ?_;exact fk
 have hk := K1 hl hll hi hT
 refine W.drawY0 [0, 0, 2, 6, 14, 0, 32, 96, 254, 511, 1023, 2047] [4, 6] [.q 4 [] [], .s [20] (some 0) [] [], .q 1 [] [1], .s [22] (some 1) [] [], .q 1 [1] [], .s [20, 24] none [0, 1] []] (fun B => U2 L Hp o om (if B 1 = true then k else i) (if B 0 = true then .cells 64 [A4 m.kind, .slice true 1 (m.take.map Aa), .slice true 2 (m.give.map Aq), .slice true 6 (m.ahead.map A7), .slice false 6 (m.back.map A7)] else .cells 64 [A4 m.kind, .slice true 1 (m.take.map Aa), .slice true 2 (m.give.map Aq), .slice true 6 (m.ahead.map A7), .slice true 6 (m.back.map A7)])) (fun _ => [.cells 4 [.v (.bool fb)]]) Ad (by kernel_rfl) (K5 ho hm) rfl (fun B => U2_len) ?_
 apply Y.q
 case h1 =>
  intro B hT hF
  refine nk ?_;refine ew ?_;exact Gt
 case hTF => decide
 refine Y.loadUpT (o := om) (t' := 64) (cs := [A4 m.kind, .slice true 1 (m.take.map Aa), .slice true 2 (m.give.map Aq), .slice true 6 (m.ahead.map A7), .slice true 6 (m.back.map A7)]) (cs' := [A4 m.kind, .slice true 1 (m.take.map Aa), .slice true 2 (m.give.map Aq), .slice true 6 (m.ahead.map A7), .slice false 6 (m.back.map A7)]) Tryz.isAgg43 (fun B hB => ⟨by simp only [hB]; exact Bu hm, U2_setm.symm, rfl⟩) ?_
 apply Y.q
 case h1 =>
  intro B hT hF
  exact ka
 case hTF => decide
 refine Y.callUp (r := A7 x) (o := o) (x0 := pmO L i) (x := pmO L k) Tryz.call178 (fun B hB1 hB2 hB => ⟨by simp only [hB]; exact Aw ho hne, (Bf hne).symm, rfl, An, ?_⟩) ?_
 ·simp only [hB]
  exact nx
 apply Y.q
 case h1 =>
  intro B hT hF
  exact Z39
 case hTF => decide
 refine Y.append jU Tryz.type45 ?_ ?_ ?_
 ·simp [Tryz.t45]; omega
 ·simp [Tryz.t45]; omega
 refine Y.tail (tn := [4, 6]) (U := U2 L Hp o om k (.cells 64 [A4 m.kind, .slice true 1 (m.take.map Aa), .slice true 2 (m.give.map Aq), .slice true 6 (m.ahead.map A7), .slice false 6 (m.back.map A7)])) ?_;refine kr ?_
 refine R.storeUpT jS (Bu hm) ?_ ?_
 ·exact J9
 exact mr

theorem Bv {L : List Tok} {Hp : List AObj} {o om i j n : Nat} {x y : AObj} (hne : om ≠ o) (hy : ObjLow n y) (h : ∀ z ∈ U2 L Hp o om i x, ObjLow n z) : ∀ z ∈ U2 L Hp o om j y, ObjLow n z := by
 intro z hz
 rw [show U2 L Hp o om j y = ((U2 L Hp o om i x).set o (pmO L j)).set om y by rw [Bf hne, U2_setm]] at hz
 rcases List.mem_or_eq_of_mem_set hz with hz | rfl
 ·rcases List.mem_or_eq_of_mem_set hz with hz | rfl
  ·exact h z hz
  exact An
 exact hy
theorem Ch {L : List Tok} {Hp own : List AObj} {o om i : Nat} {x : AObj} (h1 : o < Hp.length) (h2 : om < Hp.length) : U2 L (Hp ++ own) o om i x = U2 L Hp o om i x ++ own := by
 unfold U2
 rw [List.set_append_left _ _ h1, List.set_append_left _ _ (by simpa using h2)]
theorem D9 {L : List Tok} {Hp own U O : List AObj} {o om i : Nat} {x : AObj} (hne : om ≠ o) (h1 : o < Hp.length) (h2 : om < Hp.length) (hU : U.length = (U2 L Hp o om i x).length) (h : W2 L o om (U2 L Hp o om i x ++ own) (U ++ O)) : W2 L o om Hp U ∧ own = O := by
 obtain ⟨j, m, e⟩ := h
 rw [Ch (by rw [U2_len]; exact h1) (by rw [U2_len]; exact h2), F7 hne] at e
 obtain ⟨rfl, rfl⟩ := Fj (by rw [hU, U2_len, U2_len]) e
 exact ⟨⟨j, m, rfl⟩, rfl⟩
/-- Where the loop of things with commas between stands. -/
structure ListAt (L : List Tok) (n : Int) (one : Mov → Nat → PR Mov) (X : PR Mov) (x : Nat × Mov × Nat) : Prop where
 lt : x.2.2 < L.length
 pos : 0 < x.2.2
 le : MvLe x.2.1 (2 * x.2.2)
 k : x.1 ≤ x.2.2
 fuel : ∃ f, X = Jy L n one f x.1 x.2.1 x.2.2 ∧ L.length - x.2.2 < f
theorem ListAt.step {L : List Tok} {n : Int} {one : Mov → Nat → PR Mov} {X : PR Mov} {x : Nat × Mov × Nat} (h : ListAt L n one X x) (hq : Lj L n x.1 x.2.2 = true) : ∃ f, X = ((Bh L [44] x.2.2).bind fun _ j => (one x.2.1 j).bind fun m j => Jy L n one f (x.1 + 1) m j) ∧ L.length - x.2.2 < f + 1 := by
 obtain ⟨f, e, hf⟩ := h.fuel
 obtain ⟨f, rfl⟩ : ∃ g, f = g + 1 := ⟨f - 1, by omega⟩
 refine ⟨f, ?_, hf⟩
 rw [e, Jy, if_pos hq]
theorem ListAt.on {L : List Tok} (hl : TokEnd L) {n : Int} {one : Mov → Nat → PR Mov} (hP : Oa L one) {X : PR Mov} {x : Nat × Mov × Nat} (h : ListAt L n one X x) (hq : Lj L n x.1 x.2.2 = true) {u : Unit} {j : Nat} (hW : Bh L [44] x.2.2 = .ok u j) {m2 : Mov} {j2 : Nat} (hO : one x.2.1 j = .ok m2 j2) : ListAt L n one X (x.1 + 1, m2, j2) ∧ x.2.2 < j2 := by
 obtain ⟨f, e, hf⟩ := h.step hq
 have h1 := Dh hl h.lt _ _ hW
 have hj : j = x.2.2 + 1 := by
  unfold Bh at hW
  split at hW
  ·injection hW with _ h; exact h.symm
  cases hW
 obtain ⟨a1, a2, a3⟩ := hP x.2.1 j (h.le.mono (by omega)) (by omega) h1.2 _ _ hO
 have := h.k
 refine ⟨⟨a2, by show 0 < j2; omega, a3, by show x.1 + 1 ≤ j2; omega, f, ?_, by show L.length - j2 < f; omega⟩, by omega⟩
 rw [e, hW]
 show (one x.2.1 j).bind _ = _
 rw [hO]; rfl
theorem ListAt.bad1 {L : List Tok} {n : Int} {one : Mov → Nat → PR Mov} {X : PR Mov} {x : Nat × Mov × Nat} (h : ListAt L n one X x) (hq : Lj L n x.1 x.2.2 = true) {e a : Int} (hW : Bh L [44] x.2.2 = .bad e a) : X = .bad e a := by
 obtain ⟨f, e, _⟩ := h.step hq
 rw [e, hW]; rfl
theorem ListAt.bad2 {L : List Tok} {n : Int} {one : Mov → Nat → PR Mov} {X : PR Mov} {x : Nat × Mov × Nat} (h : ListAt L n one X x) (hq : Lj L n x.1 x.2.2 = true) {u : Unit} {j : Nat} (hW : Bh L [44] x.2.2 = .ok u j) {e a : Int} (hO : one x.2.1 j = .bad e a) : X = .bad e a := by
 obtain ⟨f, e, _⟩ := h.step hq
 rw [e, hW]
 show (one x.2.1 j).bind _ = _
 rw [hO]; rfl
theorem ListAt.out {L : List Tok} {n : Int} {one : Mov → Nat → PR Mov} {X : PR Mov} {x : Nat × Mov × Nat} (h : ListAt L n one X x) (hq : Lj L n x.1 x.2.2 = false) : X = .ok x.2.1 x.2.2 := by
 obtain ⟨f, e, hf⟩ := h.fuel
 obtain ⟨f, rfl⟩ : ∃ g, f = g + 1 := ⟨f - 1, by omega⟩
 rw [e, Jy, if_neg (by rw [hq]; simp)]
theorem sj (L : List Tok) (m : Mov) (i o om bp bm : Nat) (Hp : List AObj) (hne : om ≠ o) (ho : Hp[o]? = some (pmO L i)) (hm : Hp[om]? = some (mvO m)) (hbp : Hp[bp]? = some (.cells 94 [.ptr o 0])) (hbm : Hp[bm]? = some (.cells 155 [.ptr om 0])) (hi : i < L.length) (hl : TokEnd L) (hll : L.length ≤ 500000) (hb : MvLe m (2 * i - 1)) : CP 161 [.ptr bm 0, .ptr bp 0] Hp (Ir L m i) (fun m' j r H' => r = Is ∧ H' = U2 L Hp o om j (mvO m')) (W2 L o om Hp) := by
 have n1 : bp ≠ o := fun e => by rw [e, ho] at hbp; simp at hbp
 have n2 : bp ≠ om := fun e => by rw [e, hm] at hbp; simp at hbp
 have n3 : bm ≠ o := fun e => by rw [e, ho] at hbm; simp at hbm
 have n4 : bm ≠ om := fun e => by rw [e, hm] at hbm; simp at hbm
 have := hb.take; have := hb.give; have := hb.ahead; have := hb.back
 refine ACallP.body [] [0, 1] Tryz.func161 Tryz.ntmps161 (fun d => ?_)
 rcases hT : Dt L i with ⟨s, k⟩ | ⟨e, a⟩
 rotate_left
 ·refine W.drawY0 [0, 0, 2, 6, 14, 0, 32, 96, 254, 511, 1023, 2047] [6] [.q 6 [] [], .s [8] (some 0) [] [], .s [] none [0] [], .s [] none [0] [], .s [] none [0] [], .s [] none [0] [], .s [] none [0] []] (fun _ => Hp) (fun B => [] ++ bot (B 0)) Ad (by kernel_rfl) rfl rfl (fun _ => rfl) ?_
  apply Y.q
  case h1 =>
   intro B hT hF
   refine D.loadUp jA hbm ?_;refine D.loadUp jA hbm ?_;refine ey ?_;exact kz
  case hTF => decide
  refine Y.callBad (own0 := []) Tryz.call156 (fun B hB => ⟨rfl, by simp [bot, hB]⟩) ((Lp L i o _ (A6 ho) hi hll).bad hT) ?_ ?_
  ·rintro x U O f hU hl' ⟨rfl, j', hH⟩
   obtain ⟨rfl, rfl⟩ := At hU (List.getElem?_eq_some_iff.1 ho).1 hH
   refine ⟨fun h => Au h (fun n => An), fun o h => (by cases h), ?_⟩
   exact K.finPP ⟨_, _, by unfold Ir; rw [hT]; rfl, rfl, j', m, Vc hne hm⟩
  refine Z8 ?_;exact fk
 have hk := Ee hl hi _ _ hT
 refine W.drawY0 [0, 0, 2, 6, 14, 0, 32, 96, 254, 511, 1023, 2047] [4, 6] [.q 4 [] [], .s [6] (some 0) [] [], .q 1 [] [1], .s [8] (some 1) [] [], .q 1 [1] [], .s [6, 10] none [0, 1] []] (fun B => U2 L Hp o om (if B 1 = true then k else i) (if B 0 = true then .cells 64 [A4 m.kind, .slice false 1 (m.take.map Aa), .slice true 2 (m.give.map Aq), .slice true 6 (m.ahead.map A7), .slice true 6 (m.back.map A7)] else .cells 64 [A4 m.kind, .slice true 1 (m.take.map Aa), .slice true 2 (m.give.map Aq), .slice true 6 (m.ahead.map A7), .slice true 6 (m.back.map A7)])) (fun _ => []) Ad (by kernel_rfl) (K5 ho hm) rfl (fun B => U2_len) ?_
 apply Y.q
 case h1 =>
  intro B hT hF
  refine nk ?_;refine ey ?_;exact Gt
 case hTF => decide
 refine Y.loadUpT (o := om) (t' := 64) (cs := [A4 m.kind, .slice true 1 (m.take.map Aa), .slice true 2 (m.give.map Aq), .slice true 6 (m.ahead.map A7), .slice true 6 (m.back.map A7)]) (cs' := [A4 m.kind, .slice false 1 (m.take.map Aa), .slice true 2 (m.give.map Aq), .slice true 6 (m.ahead.map A7), .slice true 6 (m.back.map A7)]) Tryz.isAgg37 (fun B hB => ⟨by simp only [hB]; exact Bu hm, U2_setm.symm, rfl⟩) ?_
 apply Y.q
 case h1 =>
  intro B hT hF
  exact ka
 case hTF => decide
 refine Y.callUp (r := Aa s) (o := o) (x0 := pmO L i) (x := pmO L k) Tryz.call156 (fun B hB1 hB2 hB => ⟨by simp only [hB]; exact Aw ho hne, (Bf hne).symm, rfl, An, ?_⟩) ?_
 ·simp only [hB]
  exact (Lp L i o _ (A6 (Aw ho hne)) hi hll).ok hT
 apply Y.q
 case h1 =>
  intro B hT hF
  exact Z39
 case hTF => decide
 refine Y.append jU Tryz.type9 ?_ ?_ ?_
 ·simp [Tryz.t9]; omega
 ·simp [Tryz.t9]; omega
 refine Y.tail (tn := [4, 6]) (U := U2 L Hp o om k (.cells 64 [A4 m.kind, .slice false 1 (m.take.map Aa), .slice true 2 (m.give.map Aq), .slice true 6 (m.ahead.map A7), .slice true 6 (m.back.map A7)])) ?_;refine Z68 ?_
 refine R.storeUpT jS (Bu hm) ?_ ?_
 ·simp [or_imp, forall_and]
 refine R.fin [] ?_;exact K.finPN .nores (hp := ⟨Wl m s, k, by unfold Ir; rw [hT]; rfl, rfl, by exact Zg⟩)

theorem sk (L : List Tok) (m : Mov) (i o om bp bm : Nat) (Hp : List AObj) (hne : om ≠ o) (ho : Hp[o]? = some (pmO L i)) (hm : Hp[om]? = some (mvO m)) (hbp : Hp[bp]? = some (.cells 94 [.ptr o 0])) (hbm : Hp[bm]? = some (.cells 155 [.ptr om 0])) (hi : i < L.length) (hl : TokEnd L) (hll : L.length ≤ 500000) (hb : MvLe m (2 * i - 1)) : CP 160 [.ptr bp 0, .ptr bm 0] Hp (Ck L m i) (fun m' j r H' => r = Is ∧ H' = U2 L Hp o om j (mvO m')) (W2 L o om Hp) := by
 have hol := (List.getElem?_eq_some_iff.1 ho).1
 have hml := (List.getElem?_eq_some_iff.1 hm).1
 have n1 : bp ≠ o := fun e => by rw [e, ho] at hbp; simp at hbp
 have n2 : bp ≠ om := fun e => by rw [e, hm] at hbp; simp at hbp
 have n3 : bm ≠ o := fun e => by rw [e, ho] at hbm; simp at hbm
 have n4 : bm ≠ om := fun e => by rw [e, hm] at hbm; simp at hbm
 have := hb.take; have := hb.give; have := hb.ahead; have := hb.back
 refine ACallP.body [] [0, 1] Tryz.func160 Tryz.ntmps160 (fun d => ?_)
 refine b7 ?_
 rcases hT : Ck L m i with ⟨m2, k⟩ | ⟨e, a⟩
 rotate_left
 ·refine AW.regionK ?_
  refine ARunK.one (R.loadUp Tryz.isAgg94 ((Ef n1 n2).trans hbp) (ARun.nil ?_))
  refine ARunK.one (R.loadUp Tryz.isAgg155 ((Ef n3 n4).trans hbm) (ARun.nil ?_))
  refine RK.callBad Tryz.call155 ((Vd L m i o om _ hne (A6 (Aw ho hne)) (A6 (Bu hm)) hi hl hll hb).bad hT) ?_
  rintro x U O hU hl' ⟨rfl, hW2⟩
  obtain ⟨⟨j', m', rfl⟩, rfl⟩ := D9 hne hol hml hU hW2
  refine ⟨fun h => Bv hne Bc h, fun o h => (by cases h), ?_⟩
  exact K.finPP ⟨_, _, rfl, rfl, j', m', rfl⟩
 refine Hh ?_;refine R.loadUp jA ((Ef n1 n2).trans hbp) ?_;refine R.loadUp jA ((Ef n3 n4).trans hbm) ?_;refine R.callX (up' := U2 L Hp o om k (mvO m2)) (own' := []) Tryz.call155 (((Vd L m i o om _ hne (A6 (Aw ho hne)) (A6 (Bu hm)) hi hl hll hb).ok hT).mono (fun r H' e => ⟨e.1, e.2.trans (by rw [List.append_nil, List.append_nil, F7 hne])⟩)) (by rw [U2_len, U2_len]) (fun h => Bv hne Bc h) ?_;refine R.fin [] ?_;exact K.finPN .nores (hp := ⟨m2, k, rfl, rfl, rfl⟩)

theorem Zh (L : List Tok) (n : Int) (m : Mov) (i o om g : Nat) (caps : List AV) (one : Mov → Nat → PR Mov) (Hp : List AObj) (hne : om ≠ o) (ho : Hp[o]? = some (pmO L i)) (hm : Hp[om]? = some (mvO m)) (h0 : 0 < i) (hi : i < L.length) (hl : TokEnd L) (hll : L.length ≤ 500000) (hb : MvLe m (2 * i - 1)) (hcall : ∀ args w, (callFunc g args).run Tryz.prog w = .ok (.enter g args) w) (hC : Wn L o om g caps Hp one) (hP : Oa L one) : CP 159 [.ptr o 0, A4 n, .fn (.func g) [] caps] Hp (Ec L n one m i) (fun m' j r H' => r = Is ∧ H' = U2 L Hp o om j (mvO m')) (W2 L o om Hp) := by
 have hol := (List.getElem?_eq_some_iff.1 ho).1
 have hml := (List.getElem?_eq_some_iff.1 hm).1
 refine ACallP.body [] [0, 1, 2] Tryz.func159 Tryz.ntmps159 (fun d => ?_)
 refine b7 ?_
 rcases h1 : one m i with ⟨m1, j1⟩ | ⟨e, a⟩
 rotate_left
 ·refine AW.seqRK ?_
  refine ARunK.one (R.move (ARun.nil ?_))
  refine RK.callBad hcall (by rw [List.append_nil]; exact (hC m i hb h0 hi).bad h1) ?_
  rintro z U O hU hl' ⟨rfl, j', m', hH⟩
  obtain ⟨rfl, rfl⟩ := Fj (A := U2 L Hp o om j' (mvO m')) (B := []) (by rw [hU, U2_len, U2_len]) (hH.trans (List.append_nil _).symm)
  refine ⟨fun h => Bv hne Bc h, fun o h => (by cases h), ?_⟩
  refine K.thP ?_;exact K.finPP ⟨_, _, by unfold Ec; rw [h1]; rfl, rfl, j', m', rfl⟩
 have g1 := hP m i hb h0 hi _ _ h1
 have e0 : Ec L n one m i = Jy L n one (L.length + 1) 1 m1 j1 := by unfold Ec; rw [h1]; rfl
 refine Z0 ?_
 refine R.callVX (up' := U2 L Hp o om j1 (mvO m1)) (own' := []) hcall (by rw [List.append_nil, List.append_nil]; exact (hC m i hb h0 hi).ok h1) (by rw [U2_len, U2_len]) (fun h => Bv hne Bc h) ?_
 refine R.fin [0, 1, 2] ?_;refine Z3 ?_;refine U6 ?_
 refine AW.loopC (α := Nat × Mov × Nat) (fun x => ⟨30, A5 0 (.ptr o 0) (A5 1 (A4 n) (A5 2 (.fn (.func g) [] caps) (A5 6 (A4 (x.1 : Int)) (fun _ => .any)))), U2 L Hp o om x.2.2 (mvO x.2.1), [], [], none⟩) (fun x => ListAt L n one (Ec L n one m i) x) (fun x => L.length - x.2.2) ((1, m1, j1)) ⟨g1.2.1, by show 0 < j1; omega, g1.2.2, by show 1 ≤ j1; omega, _, e0, by show L.length - j1 < _; omega⟩ (StLe.refl _) rfl (fun x hx => ?_)
 refine Z96 ?_;refine R.lss ?_;refine Z13 ?_;refine G.eql ?_;refine G.move ?_;refine G.move ?_;refine G.lss ?_;refine G.move ?_;refine G.move ?_;refine G.call Tryz.call162 (fun hB => pj L [44] x.2.2 o _ (A6 (Aw ho hne)) hx.lt) ?_;refine G.pickOr ?_;refine G.pickAnd ?_;refine Fw ?_;refine R.fin [0, 1, 2, 6, 23] ?_
 refine W.cond (fun ht23 => ?_) (fun ht23 => ?_)
 ·have hq : Lj L n x.1 x.2.2 = true := ht23
  refine Z6 ?_;refine Z22 ?_
  rcases hW : Bh L [44] x.2.2 with ⟨u, j⟩ | ⟨e, a⟩
  rotate_left
  ·refine AW.seqRK ?_
   refine ARunK.one (R.move (ARun.nil ?_))
   refine RK.callBad Tryz.call123 ((K4 L [44] x.2.2 o _ (A6 (Aw ho hne)) hx.lt hll).bad hW) ?_
   rintro z U O hU hl' ⟨rfl, j', hH⟩
   obtain ⟨rfl, rfl⟩ := At hU (List.getElem?_eq_some_iff.1 (Aw (L := L) (i := x.2.2) (x := mvO x.2.1) ho hne)).1 hH
   refine ⟨fun h => Au h (fun n => An), fun o h => (by cases h), ?_⟩
   refine Rj ?_;refine K.thP ?_;refine K.lpP ?_;exact K.finPP ⟨_, _, hx.bad1 hq hW, rfl, j', x.2.1, Bf hne⟩
  have hj := Dh hl hx.lt _ _ hW
  have hpos := hx.pos
  refine Z0 ?_;refine R.callUp (x := pmO L j) Tryz.call123 (Aw ho hne) (by simp) An ((K4 L [44] x.2.2 o _ (A6 (Aw ho hne)) hx.lt hll).ok hW) ?_
  rw [Bf hne]
  refine U6 ?_
  rcases hO : one x.2.1 j with ⟨m2, j2⟩ | ⟨e, a⟩
  rotate_left
  ·refine AW.regionK ?_
   refine ARunK.one (R.move (ARun.nil ?_))
   refine RK.callBad hcall (by rw [List.append_nil]; exact (hC x.2.1 j (hx.le.mono (by omega)) (by omega) hj.2).bad hO) ?_
   rintro z U O hU hl' ⟨rfl, j', m', hH⟩
   obtain ⟨rfl, rfl⟩ := Fj (A := U2 L Hp o om j' (mvO m')) (B := []) (by rw [hU, U2_len, U2_len]) (hH.trans (List.append_nil _).symm)
   refine ⟨fun h => Bv hne Bc h, fun o h => (by cases h), ?_⟩
   refine K.blP ?_;refine K.thP ?_;refine K.lpP ?_;exact K.finPP ⟨_, _, hx.bad2 hq hW hO, rfl, j', m', rfl⟩
  have hon := hx.on hl hP hq hW hO
  refine Z31 ?_
  refine R.callVX (up' := U2 L Hp o om j2 (mvO m2)) (own' := []) hcall (by rw [List.append_nil, List.append_nil]; exact (hC x.2.1 j (hx.le.mono (by omega)) (by omega) hj.2).ok hO) (by rw [U2_len, U2_len]) (fun h => Bv hne Bc h) ?_
  refine U6 ?_;refine Z9 ?_;refine Z31 ?_
  refine R.add64 (h2 := by have := hx.k; have := hx.lt; omega) ?_
  refine Bg ?_;refine U6 ?_
  refine K.lpN (x.1 + 1, m2, j2) hon.1 (by have := hx.lt; have := hon.2; show L.length - j2 < L.length - x.2.2; omega) (StCut.of_eq rfl)
 have hq : Lj L n x.1 x.2.2 = false := ht23
 have e := hx.out hq
 refine Z58 ?_;refine K.lpE ?_;exact K.finPN .nores (hp := ⟨_, _, e, rfl, rfl⟩)

theorem CP.mono {g : FuncId} {args : List AV} {H : List AObj} {α : Type} {X : PR α} {Q Q' : α → Nat → AV → List AObj → Prop} {R R' : List AObj → Prop} (h : CP g args H X Q R) (hQ : ∀ c j r H', Q c j r H' → Q' c j r H') (hR : ∀ H', R H' → R' H') : CP g args H X Q' R' :=
 ACallP.mono h (fun r H' ⟨c, j, e, hq⟩ => ⟨c, j, e, hQ _ _ _ _ hq⟩) (fun v H' ⟨e, a, e1, e2, h⟩ => ⟨e, a, e1, e2, hR _ h⟩)
section
variable {L : List Tok} {o om bp bm : Nat} {X : List AObj} {z z' : AObj}
theorem Pk (hne : om ≠ o) (ho : X[o]? = some z) (hm : X[om]? = some z') (hbp : X[bp]? = some (.cells 94 [.ptr o 0])) (hbm : X[bm]? = some (.cells 155 [.ptr om 0])) (n1 : bp ≠ o) (n2 : bp ≠ om) (n3 : bm ≠ o) (n4 : bm ≠ om) (hl : TokEnd L) (hll : L.length ≤ 500000) : Wn L o om 179 [.ptr bm 0, .ptr bp 0] X (Jz L) :=
 fun m i hb _ hi => (si L m i o om bp bm (U2 L X o om i (mvO m)) hne (Aw ho hne) (Bu hm) ((Ef n1 n2).trans hbp) ((Ef n3 n4).trans hbm) hi hl hll hb).mono (fun c j r H' e => ⟨e.1, e.2.trans (F7 hne)⟩) (fun H' h => du hne h)
theorem Pl (hne : om ≠ o) (ho : X[o]? = some z) (hm : X[om]? = some z') (hbp : X[bp]? = some (.cells 94 [.ptr o 0])) (hbm : X[bm]? = some (.cells 155 [.ptr om 0])) (n1 : bp ≠ o) (n2 : bp ≠ om) (n3 : bm ≠ o) (n4 : bm ≠ om) (hl : TokEnd L) (hll : L.length ≤ 500000) : Wn L o om 161 [.ptr bm 0, .ptr bp 0] X (Ir L) :=
 fun m i hb _ hi => (sj L m i o om bp bm (U2 L X o om i (mvO m)) hne (Aw ho hne) (Bu hm) ((Ef n1 n2).trans hbp) ((Ef n3 n4).trans hbm) hi hl hll hb).mono (fun c j r H' e => ⟨e.1, e.2.trans (F7 hne)⟩) (fun H' h => du hne h)
theorem Pm (hne : om ≠ o) (ho : X[o]? = some z) (hm : X[om]? = some z') (hbp : X[bp]? = some (.cells 94 [.ptr o 0])) (hbm : X[bm]? = some (.cells 155 [.ptr om 0])) (n1 : bp ≠ o) (n2 : bp ≠ om) (n3 : bm ≠ o) (n4 : bm ≠ om) (hl : TokEnd L) (hll : L.length ≤ 500000) : Wn L o om 160 [.ptr bp 0, .ptr bm 0] X (Ck L) :=
 fun m i hb _ hi => (sk L m i o om bp bm (U2 L X o om i (mvO m)) hne (Aw ho hne) (Bu hm) ((Ef n1 n2).trans hbp) ((Ef n3 n4).trans hbm) hi hl hll hb).mono (fun c j r H' e => ⟨e.1, e.2.trans (F7 hne)⟩) (fun H' h => du hne h)
end
attribute [go_sem] U2_len
theorem Lq {L : List Tok} {Hp own : List AObj} {o om i n : Nat} {x z : AObj} (h : own[n]? = some z) : (U2 L Hp o om i x ++ own)[oid Hp.length n]? = some z := by
 unfold oid
 rw [List.getElem?_append_right (by rw [U2_len]; omega), U2_len, Nat.add_sub_cancel_left]
 exact h
theorem oid_ne {n k o : Nat} (h : o < n) : oid n k ≠ o := by unfold oid; omega
theorem T3 (L : List Tok) (m : Mov) (i o om : Nat) (Hp : List AObj) (hne : om ≠ o) (ho : Hp[o]? = some (pmO L i)) (hm : Hp[om]? = some (mvO m)) (hi : i < L.length) (hl : TokEnd L) (hll : L.length ≤ 500000) (hb : MvLe m (2 * i)) : CP 157 [.ptr o 0, .ptr om 0] Hp (D8 L m i) (fun m' j r H' => r = Is ∧ H' = U2 L Hp o om j (mvO m')) (W2 L o om Hp) := by
 have hol := (List.getElem?_eq_some_iff.1 ho).1
 have hml := (List.getElem?_eq_some_iff.1 hm).1
 refine ACallP.body [] [0, 1] Tryz.func157 Tryz.ntmps157 (fun d => ?_)
 refine B8 ?_;refine R.box ?_;refine R.box ?_;refine Ge ?_;refine b7 ?_
 rcases hW : Bh L Wj i with ⟨u, j⟩ | ⟨e, a⟩
 rotate_left
 ·refine AW.seqRK ?_
  refine ARunK.one (R.loadOwn Tryz.isAgg94 (ARun.nil ?_))
  refine RK.callBad Tryz.call123 (K4 L Wj i o _ (A6 (Aw ho hne)) hi hll |>.bad hW) ?_
  rintro x U O hU hl' ⟨rfl, j', hH⟩
  obtain ⟨rfl, rfl⟩ := At hU (List.getElem?_eq_some_iff.1 (Aw (L := L) (i := i) (x := mvO m) ho hne)).1 hH
  refine ⟨fun h => Au h (fun n => An), fun o h => (by cases h), ?_⟩
  refine K.thP ?_;exact K.finPP ⟨_, _, by unfold D8; rw [hW]; rfl, rfl, j', m, Bf hne⟩
 have hj := Dh hl hi _ _ hW
 refine Z47 ?_;refine R.callUp (x := pmO L j) Tryz.call123 (Aw ho hne) (by simp) An ((K4 L Wj i o _ (A6 (Aw ho hne)) hi hll).ok hW) ?_
 rw [Bf hne]
 refine Ge ?_
 rcases hP : Ec L ((m.take.map Aa).length : Int) (Jz L) m j with ⟨m2, k⟩ | ⟨e, a⟩
 rotate_left
 ·refine W.drawY0 [0, 0, 2, 6, 14, 30, 0, 127] [7] [.q 7 [] [], .s [13] (some 0) [] []] (fun _ => U2 L Hp o om j (mvO m)) (fun B => [.cells 94 [.ptr o 0], .cells 155 [.ptr om 0]] ++ bot (B 0)) Ad (by kernel_rfl) rfl rfl (fun _ => rfl) ?_
  apply Y.q
  case h1 =>
   intro B hT hF
   refine Z89 ?_;refine ey ?_;refine D.loadUp jA (Bu hm) ?_;refine D.len jU ?_;refine D.makeFunc ?_;exact Gt
  case hTF => decide
  refine Y.callBad (own0 := [.cells 94 [.ptr o 0], .cells 155 [.ptr om 0]]) Tryz.call159 (fun B hB => ⟨rfl, by simp [bot, hB]⟩) ((Zh L (((m.take.map Aa).length : Int)) m j o om 179 [.ptr (oid Hp.length 1) 0, .ptr (oid Hp.length 0) 0] (Jz L) (U2 L Hp o om j (mvO m) ++ [.cells 94 [.ptr o 0], .cells 155 [.ptr om 0]]) hne (A6 (Aw ho hne)) (A6 (Bu hm)) (by omega) hj.2 hl hll (hb.mono (by omega)) Tryz.call179 (Pk (z := pmO L j) (z' := mvO m) hne (A6 (Aw ho hne)) (A6 (Bu hm)) (Lq rfl) (Lq rfl) (oid_ne hol) (oid_ne hml) (oid_ne hol) (oid_ne hml) hl hll) (Nr hl hll)).bad hP) ?_ ?_
  ·rintro x U O f hU hl' ⟨rfl, hW2⟩
   obtain ⟨⟨j', m', rfl⟩, rfl⟩ := D9 hne hol hml hU hW2
   refine ⟨fun h => Bv hne Bc h, fun o h => (by cases h), ?_⟩
   exact K.finPP ⟨_, _, by unfold D8; rw [hW]; show Ec L _ _ m j = _; rw [← hP, List.length_map], rfl, j', m', rfl⟩
  exact g7
 refine W.draw0 [0, 0, 2, 6, 14, 30, 0, 127] 7 Ad (by kernel_rfl) ?_;refine Z89 ?_;refine ey ?_;refine D.loadUp jA (Bu hm) ?_;refine D.len jU ?_;refine D.makeFunc ?_;refine D.tail ?_
 refine R.callX (up' := U2 L Hp o om k (mvO m2)) (own' := [.cells 94 [.ptr o 0], .cells 155 [.ptr om 0]]) Tryz.call159 (((Zh L (((m.take.map Aa).length : Int)) m j o om 179 [.ptr (oid Hp.length 1) 0, .ptr (oid Hp.length 0) 0] (Jz L) (U2 L Hp o om j (mvO m) ++ [.cells 94 [.ptr o 0], .cells 155 [.ptr om 0]]) hne (A6 (Aw ho hne)) (A6 (Bu hm)) (by omega) hj.2 hl hll (hb.mono (by omega)) Tryz.call179 (Pk (z := pmO L j) (z' := mvO m) hne (A6 (Aw ho hne)) (A6 (Bu hm)) (Lq rfl) (Lq rfl) (oid_ne hol) (oid_ne hml) (oid_ne hol) (oid_ne hml) hl hll) (Nr hl hll)).ok hP).mono (fun r H' e => ⟨e.1, e.2.trans (by first | rw [Ch (by rw [U2_len]; exact hol) (by rw [U2_len]; exact hml), F7 hne] | rw [Ch hol hml])⟩)) (by first | rfl | rw [U2_len, U2_len] | rw [U2_len]) (fun h => Bv hne Bc h) ?_
 refine R.fin [] ?_;exact K.finPN .nores (hp := ⟨m2, k, by unfold D8; rw [hW]; show Ec L _ _ m j = _; rw [← hP, List.length_map], rfl, rfl⟩)

theorem Pn {L : List Tok} {Hp : List AObj} {o om i : Nat} {m : Mov} {s : Str} {x : AObj} : (U2 L Hp o om i x).set om (.cells 64 [A4 m.kind, .slice true 1 [Aa s], .slice true 2 (m.give.map Aq), .slice true 6 (m.ahead.map A7), .slice true 6 (m.back.map A7)]) = U2 L Hp o om i (mvO (takeS m s)) := U2_setm
theorem Wo {n : Nat} {x : Expr} : Low n (.slice true 6 [.agg (Db x)]) := by
 have := Cs (n := n) (k := 6) (o := true) (l := [x])
 simp only [List.map_cons, List.map_nil] at this
 rw [Ac] at this
 exact this
theorem T5 {n : Nat} {x : Expr} : Low n (.slice true 6 [A7 x]) := Cs (l := [x])
theorem dv {L : List Tok} {m m1 : Mov} {i k : Nat} (h : Ck L m i = .ok m1 k) : (m1.give.map Aq)[0]? = some (Aq (m1.give.getD 0 ⟨[], 0⟩)) := by
 obtain ⟨c, j, h1, h2⟩ := PR.bind_ok h
 obtain ⟨u, j2, h3, h4⟩ := PR.bind_ok h2
 obtain ⟨x, j3, h5, h6⟩ := PR.bind_ok h4
 injection h6 with h6 h7
 subst h6
 show ((m.give ++ [c]).map Aq)[0]? = some (Aq ((m.give ++ [c]).getD 0 ⟨[], 0⟩))
 cases m.give <;> rfl
section
variable {L : List Tok} {m : Mov} {i : Nat}
theorem dw (h1 : (m.kind == 1) = true) : Ed L m i = Ck L m i := if_pos h1
theorem Ve (h1 : (m.kind == 1) = false) (h2 : (m.kind == 2) = true) : Ed L m i = (Dt L i).bind fun s j => D8 L (takeS m s) j := by
 unfold Ed; rw [if_neg (by rw [h1]; simp), if_pos h2]
theorem dx (h1 : (m.kind == 1) = false) (h2 : (m.kind == 2) = false) (h3 : (m.kind == 3) = true) : Ed L m i = Fi L m i := by
 unfold Ed; rw [if_neg (by rw [h1]; simp), if_neg (by rw [h2]; simp), if_pos h3]
theorem Ns (h1 : (m.kind == 1) = false) (h2 : (m.kind == 2) = false) (h3 : (m.kind == 3) = false) (h4 : (m.kind == 4) = true) : Ed L m i = (Dt L i).bind fun s j => (Bh L Ek j).bind fun _ j => (Ec L 0 (Ck L) (takeS m s) j).bind fun m j => D8 L m j := by
 unfold Ed; rw [if_neg (by rw [h1]; simp), if_neg (by rw [h2]; simp), if_neg (by rw [h3]; simp), if_pos h4]
theorem Nt (h1 : (m.kind == 1) = false) (h2 : (m.kind == 2) = false) (h3 : (m.kind == 3) = false) (h4 : (m.kind == 4) = false) (h5 : (m.kind == 5) = true) : Ed L m i = (Ec L 0 (Ir L) m i).bind fun m j => (Bh L Ek j).bind fun _ j => (Ck L m j).bind fun m j => D8 L m j := by
 unfold Ed; rw [if_neg (by rw [h1]; simp), if_neg (by rw [h2]; simp), if_neg (by rw [h3]; simp), if_neg (by rw [h4]; simp), if_pos h5]
theorem Vf (h1 : (m.kind == 1) = false) (h2 : (m.kind == 2) = false) (h3 : (m.kind == 3) = false) (h4 : (m.kind == 4) = false) (h5 : (m.kind == 5) = false) (h6 : (m.kind == 6) = true) : Ed L m i = (Ck L m i).bind fun m j => D8 L (takeS m (m.give.getD 0 ⟨[], 0⟩).name) j := by
 unfold Ed; rw [if_neg (by rw [h1]; simp), if_neg (by rw [h2]; simp), if_neg (by rw [h3]; simp), if_neg (by rw [h4]; simp), if_neg (by rw [h5]; simp), if_pos h6]
theorem ml (h1 : (m.kind == 1) = false) (h2 : (m.kind == 2) = false) (h3 : (m.kind == 3) = false) (h4 : (m.kind == 4) = false) (h5 : (m.kind == 5) = false) (h6 : (m.kind == 6) = false) : Ed L m i = .ok m i := by
 unfold Ed; rw [if_neg (by rw [h1]; simp), if_neg (by rw [h2]; simp), if_neg (by rw [h3]; simp), if_neg (by rw [h4]; simp), if_neg (by rw [h5]; simp), if_neg (by rw [h6]; simp)]
end
theorem pl (L : List Tok) (m : Mov) (i o om : Nat) (Hp : List AObj) (hne : om ≠ o) (ho : Hp[o]? = some (pmO L i)) (hm : Hp[om]? = some (mvO m)) (hi : i < L.length) (hl : TokEnd L) (hll : L.length ≤ 500000) (hb : MvLe m (2 * i - 1)) : CP 158 [.ptr o 0, .ptr om 0] Hp (Fi L m i) (fun m' j r H' => r = Is ∧ H' = U2 L Hp o om j (mvO m')) (W2 L o om Hp) := by
 refine ACallP.body [] [0, 1] Tryz.func158 Tryz.ntmps158 (fun d => ?_)
 refine b7 ?_
 rcases h1 : Dt L i with ⟨s, j⟩ | ⟨e, a⟩
 rotate_left
 ·refine AW.seqRK ?_
  refine ARunK.one (R.move (ARun.nil ?_))
  refine ARunK.one (R.move (ARun.nil ?_))
  refine RK.callBad Tryz.call156 ((Lp L i o _ (A6 (Aw ho hne)) hi hll).bad h1) ?_
  rintro x U O hU hl' ⟨rfl, j', hH⟩
  obtain ⟨rfl, rfl⟩ := At hU (List.getElem?_eq_some_iff.1 (Aw (L := L) (i := i) (x := mvO m) ho hne)).1 hH
  refine ⟨fun h => Au h (fun n => An), fun o h => (by cases h), ?_⟩
  refine K.thP ?_;exact K.finPP ⟨_, _, by unfold Fi; rw [h1]; rfl, rfl, j', m, Bf hne⟩
 have hj := Ee hl hi _ _ h1
 refine Z27 ?_;refine R.callUp (x := pmO L j) Tryz.call156 (Aw ho hne) (by simp) An ((Lp L i o _ (A6 (Aw ho hne)) hi hll).ok h1) ?_
 rw [Bf hne]
 refine Hi ?_;refine Z68 ?_
 refine R.storeUpT jS (Bu hm) ?_ ?_
 ·simp [or_imp, forall_and]
 refine R.fin [0, 1] ?_;refine AW.upEq (U2_setm (y := .cells 64 [A4 m.kind, .slice true 1 ([Aa s]), .slice true 2 (m.give.map Aq), .slice true 6 (m.ahead.map A7), .slice true 6 (m.back.map A7)])) ?_
 rcases h2 : Bh L toW j with ⟨u, j2⟩ | ⟨e, a⟩
 rotate_left
 ·refine AW.seqRK ?_
  refine ARunK.one (R.move (ARun.nil ?_))
  refine RK.callBad Tryz.call123 ((K4 L toW j o _ (A6 (Aw ho hne)) hj.2 hll).bad h2) ?_
  rintro x U O hU hl' ⟨rfl, j', hH⟩
  obtain ⟨rfl, rfl⟩ := At hU (List.getElem?_eq_some_iff.1 (Aw (L := L) (i := j) (x := .cells 64 [A4 m.kind, .slice true 1 ([Aa s]), .slice true 2 (m.give.map Aq), .slice true 6 (m.ahead.map A7), .slice true 6 (m.back.map A7)]) ho hne)).1 hH
  refine ⟨fun h => Au h (fun n => An), fun o h => (by cases h), ?_⟩
  refine K.thP ?_;exact K.finPP ⟨_, _, by unfold Fi; rw [h1]; show (Bh L toW j).bind _ = _; rw [h2]; rfl, rfl, j', (⟨m.kind, [s], m.give, m.ahead, m.back⟩ : Mov), Bf hne⟩
 have hj2 := Dh hl hj.2 _ _ h2
 refine Z0 ?_;refine R.callUp (x := pmO L j2) Tryz.call123 (Aw ho hne) (by simp) An ((K4 L toW j o _ (A6 (Aw ho hne)) hj.2 hll).ok h2) ?_
 rw [Bf hne]
 refine R.fin [0, 1] ?_
 rcases h3 : Dt L j2 with ⟨t, k⟩ | ⟨e, a⟩
 rotate_left
 ·refine AW.seqRK ?_
  refine ARunK.one (R.move (ARun.nil ?_))
  refine RK.callBad Tryz.call156 ((Lp L j2 o _ (A6 (Aw ho hne)) hj2.2 hll).bad h3) ?_
  rintro x U O hU hl' ⟨rfl, j', hH⟩
  obtain ⟨rfl, rfl⟩ := At hU (List.getElem?_eq_some_iff.1 (Aw (L := L) (i := j2) (x := .cells 64 [A4 m.kind, .slice true 1 ([Aa s]), .slice true 2 (m.give.map Aq), .slice true 6 (m.ahead.map A7), .slice true 6 (m.back.map A7)]) ho hne)).1 hH
  refine ⟨fun h => Au h (fun n => An), fun o h => (by cases h), ?_⟩
  refine K.thP ?_;exact K.finPP ⟨_, _, by unfold Fi; rw [h1]; show (Bh L toW j).bind _ = _; rw [h2]; show (Dt L j2).bind _ = _; rw [h3]; rfl, rfl, j', (⟨m.kind, [s], m.give, m.ahead, m.back⟩ : Mov), Bf hne⟩
 refine Z0 ?_;refine R.callUp (x := pmO L k) Tryz.call156 (Aw ho hne) (by simp) An ((Lp L j2 o _ (A6 (Aw ho hne)) hj2.2 hll).ok h3) ?_
 rw [Bf hne]
 refine Bg ?_;refine R.fin [1, 4] ?_;refine Z27 ?_;refine Rm ?_;refine Hi ?_;refine R.nilPtr ?_;refine R.fieldAddrPtr (fo := 2) jU Tryz.sizeOf22 ?_
 refine R.storeUpT jS (Bu hm) ?_ ?_
 ·simp [or_imp, forall_and]
 refine R.fin [1, 4] ?_;refine AW.upEq (U2_setm (y := .cells 64 [A4 m.kind, .slice true 1 ([Aa s]), .slice true 2 ([Aq ⟨t, 0⟩]), .slice true 6 (m.ahead.map A7), .slice true 6 (m.back.map A7)])) ?_;refine Z31 ?_;refine Z53 ?_;refine Z68 ?_;refine R.loadUp jA (Bu hm) ?_;refine R.indexAddr (0) (Aa s) jU jS rfl ?_;refine Di ?_;refine R.call Tryz.call130 (j6 s _) ?_;refine Hi ?_;refine Av ?_;refine R.call Tryz.call130 (j6 t _) ?_;refine Hi ?_;refine R.nilPtr ?_;refine fw ?_
 refine R.storeUpT jS (Bu hm) ?_ ?_
 ·first | exact Wo | exact T5
 rw [U2_setm]
 refine kr ?_
 refine R.storeUpT jS (Bu hm) ?_ ?_
 ·first | exact Wo | exact T5
 rw [U2_setm]
 refine R.fin [] ?_;exact K.finPN .nores (hp := ⟨⟨m.kind, [s], [⟨t, 0⟩], [Cr s], [Cr t]⟩, k, by unfold Fi; rw [h1]; show (Bh L toW j).bind _ = _; rw [h2]; show (Dt L j2).bind _ = _; rw [h3]; rfl, rfl, by simp only [mvO, mvC, List.map_cons, List.map_nil, Ac]⟩)

theorem Zi {L : List Tok} {Hp : List AObj} {o om i : Nat} {m : Mov} {c : Col} {x : AObj} : (U2 L Hp o om i x).set om (.cells 64 [A4 m.kind, .slice true 1 [Aa c.name], .slice true 2 (m.give.map Aq), .slice true 6 (m.ahead.map A7), .slice true 6 (m.back.map A7)]) = U2 L Hp o om i (mvO (takeS m c.name)) := U2_setm
theorem pm (L : List Tok) (m : Mov) (i o om : Nat) (Hp : List AObj) (hne : om ≠ o) (ho : Hp[o]? = some (pmO L i)) (hm : Hp[om]? = some (mvO m)) (hi : i < L.length) (hl : TokEnd L) (hll : L.length ≤ 500000) (hb : MvLe m (2 * i - 1)) (h0 : 0 < i) : CP 122 [.ptr o 0, .ptr om 0] Hp (Ed L m i) (fun m' j r H' => r = Is ∧ H' = U2 L Hp o om j (mvO m')) (W2 L o om Hp) := by
 have hol := (List.getElem?_eq_some_iff.1 ho).1
 have hml := (List.getElem?_eq_some_iff.1 hm).1
 refine ACallP.body [] [0, 1] Tryz.func122 Tryz.ntmps122 (fun d => ?_)
 refine B8 ?_;refine R.box ?_;refine R.box ?_;refine Ge ?_;refine b7 ?_;refine Z47 ?_;refine R.nilPtr ?_;refine R.fieldAddrPtr (fo := 0) jU Tryz.sizeOf3 ?_;refine R.loadUp jA (Bu hm) ?_;refine R.fin [2, 3, 7] ?_;refine Rk ?_;refine R.fin [2, 3, 7, 8] ?_
 refine W.cond (fun ht8 => ?_) (fun ht8 => ?_)
 ·rcases h1 : Ck L m i with ⟨m1, k⟩ | ⟨e, a⟩
  rotate_left
  ·refine AW.regionK ?_
   refine ARunK.one (R.loadOwn Tryz.isAgg94 (ARun.nil ?_))
   refine ARunK.one (R.loadOwn Tryz.isAgg155 (ARun.nil ?_))
   refine ny ?_
   rintro x U O hU hl' ⟨rfl, hW2⟩
   obtain ⟨⟨j', m', rfl⟩, rfl⟩ := D9 hne hol hml hU hW2
   refine ⟨fun h => Bv hne Bc h, fun o h => (by cases h), ?_⟩
   refine K.blP ?_;exact K.finPP ⟨_, _, by rw [dw ht8]; rw [h1], rfl, j', m', rfl⟩
  refine Xj ?_
  refine R.callX (up' := U2 L Hp o om k (mvO m1)) (own' := [.cells 94 [.ptr o 0], .cells 155 [.ptr om 0]]) Tryz.call155 (((Vd L m i o om (U2 L Hp o om i (mvO m) ++ [.cells 94 [.ptr o 0], .cells 155 [.ptr om 0]]) hne (A6 (Aw ho hne)) (A6 (Bu hm)) hi hl hll hb).ok h1).mono (fun r H' e => ⟨e.1, e.2.trans (by first | rw [Ch (by rw [U2_len]; exact hol) (by rw [U2_len]; exact hml), F7 hne] | rw [Ch hol hml])⟩)) (by first | rfl | rw [U2_len, U2_len] | rw [U2_len]) (fun h => Bv hne Bc h) ?_
  refine Z74 ?_;exact K.finPN .nores (hp := ⟨m1, k, by rw [dw ht8]; rw [h1], rfl, rfl⟩)
 refine Z37 ?_;refine R.fin [2, 3, 7, 13] ?_
 refine W.cond (fun ht13 => ?_) (fun ht13 => ?_)
 ·rcases h1 : Dt L i with ⟨s, j⟩ | ⟨e, a⟩
  rotate_left
  ·refine W.drawY [0, 0, 2, 6, 15, 31, 63] [2] [.q 2 [] [], .s [17] (some 0) [] [], .s [] none [0] [], .s [] none [0] [], .s [] none [0] [], .s [] none [0] []] (fun _ => U2 L Hp o om i (mvO m)) (fun B => [.cells 94 [.ptr o 0], .cells 155 [.ptr om 0]] ++ bot (B 0)) Ad (by kernel_rfl) rfl rfl (fun _ => rfl) ?_
   apply Y.q
   case h1 =>
    intro B hT hF
    exact f8
   case hTF => decide
   refine Y.callBad (own0 := [.cells 94 [.ptr o 0], .cells 155 [.ptr om 0]]) Tryz.call156 (fun B hB => ⟨rfl, by simp [bot, hB]⟩) ((Lp L i o _ (A6 (Aw ho hne)) hi hll).bad h1) ?_ ?_
   ·rintro x U O f hU hl' ⟨rfl, j', hH⟩
    obtain ⟨rfl, rfl⟩ := At hU (List.getElem?_eq_some_iff.1 (Aw (L := L) (i := i) (x := mvO m) ho hne)).1 hH
    refine ⟨fun h => Au h (fun n => An), fun o h => (by cases h), ?_⟩
    refine K.blP ?_;exact K.finPP ⟨_, _, by rw [Ve ht8 ht13]; rw [h1]; rfl, rfl, j', m, Bf hne⟩
   exact fh
  have hj := Ee hl hi _ _ h1
  refine W.drawY [0, 0, 2, 6, 15, 31, 63] [2] [.q 2 [] [], .s [17] (some 0) [] [], .s [18] none [0] []] (fun B => U2 L Hp o om (if B 0 = true then j else i) (mvO m)) (fun _ => [.cells 94 [.ptr o 0], .cells 155 [.ptr om 0]]) Ad (by kernel_rfl) rfl rfl (fun B => by rw [U2_len]; exact U2_len.symm) ?_
  apply Y.q
  case h1 =>
   intro B hT hF
   exact f8
  case hTF => decide
  refine Y.callUp (r := Aa s) (o := o) (x0 := pmO L i) (x := pmO L j) Tryz.call156 (fun B hB1 hB2 hB => ⟨by simp only [hB]; exact Aw ho hne, (Bf hne).symm, rfl, An, ?_⟩) ?_
  ·simp only [hB]
   exact (Lp L i o _ (A6 (Aw ho hne)) hi hll).ok h1
  refine my ?_;refine Z68 ?_
  refine R.storeUpT jS (Bu hm) ?_ ?_
  ·simp [or_imp, forall_and]
  refine Ge ?_;refine AW.upEq (Pn (m := m) (s := s)) ?_
  rcases h2 : D8 L (takeS m s) j with ⟨m2, k⟩ | ⟨e, a⟩
  rotate_left
  ·refine AW.regionK ?_
   refine ARunK.one (R.loadOwn Tryz.isAgg94 (ARun.nil ?_))
   refine ARunK.one (R.loadOwn Tryz.isAgg155 (ARun.nil ?_))
   refine RK.callBad Tryz.call157 ((T3 L (takeS m s) j o om (U2 L Hp o om j (mvO (takeS m s)) ++ [.cells 94 [.ptr o 0], .cells 155 [.ptr om 0]]) hne (A6 (Aw ho hne)) (A6 (Bu hm)) hj.2 hl hll ((hb.mono (by omega : 2 * i - 1 ≤ 2 * j)).takeS (by omega))).bad h2) ?_
   rintro x U O hU hl' ⟨rfl, hW2⟩
   obtain ⟨⟨j', m', rfl⟩, rfl⟩ := D9 hne hol hml hU hW2
   refine ⟨fun h => Bv hne Bc h, fun o h => (by cases h), ?_⟩
   refine K.blP ?_;exact K.finPP ⟨_, _, by rw [Ve ht8 ht13]; rw [h1]; show D8 L (takeS m s) j = _; rw [h2], rfl, j', m', rfl⟩
  refine Xj ?_
  refine R.callX (up' := U2 L Hp o om k (mvO m2)) (own' := [.cells 94 [.ptr o 0], .cells 155 [.ptr om 0]]) Tryz.call157 (((T3 L (takeS m s) j o om (U2 L Hp o om j (mvO (takeS m s)) ++ [.cells 94 [.ptr o 0], .cells 155 [.ptr om 0]]) hne (A6 (Aw ho hne)) (A6 (Bu hm)) hj.2 hl hll ((hb.mono (by omega : 2 * i - 1 ≤ 2 * j)).takeS (by omega))).ok h2).mono (fun r H' e => ⟨e.1, e.2.trans (by first | rw [Ch (by rw [U2_len]; exact hol) (by rw [U2_len]; exact hml), F7 hne] | rw [Ch hol hml])⟩)) (by first | rfl | rw [U2_len, U2_len] | rw [U2_len]) (fun h => Bv hne Bc h) ?_
  refine Z74 ?_;exact K.finPN .nores (hp := ⟨m2, k, by rw [Ve ht8 ht13]; rw [h1]; show D8 L (takeS m s) j = _; rw [h2], rfl, rfl⟩)
 refine Z37 ?_;refine R.fin [2, 3, 7, 24] ?_
 refine W.cond (fun ht24 => ?_) (fun ht24 => ?_)
 ·rcases h1 : Fi L m i with ⟨m1, k⟩ | ⟨e, a⟩
  rotate_left
  ·refine AW.regionK ?_
   refine ARunK.one (R.loadOwn Tryz.isAgg94 (ARun.nil ?_))
   refine ARunK.one (R.loadOwn Tryz.isAgg155 (ARun.nil ?_))
   refine RK.callBad Tryz.call158 ((pl L m i o om (U2 L Hp o om i (mvO m) ++ [.cells 94 [.ptr o 0], .cells 155 [.ptr om 0]]) hne (A6 (Aw ho hne)) (A6 (Bu hm)) hi hl hll hb).bad h1) ?_
   rintro x U O hU hl' ⟨rfl, hW2⟩
   obtain ⟨⟨j', m', rfl⟩, rfl⟩ := D9 hne hol hml hU hW2
   refine ⟨fun h => Bv hne Bc h, fun o h => (by cases h), ?_⟩
   refine K.blP ?_;exact K.finPP ⟨_, _, by rw [dx ht8 ht13 ht24]; rw [h1], rfl, j', m', rfl⟩
  refine Xj ?_
  refine R.callX (up' := U2 L Hp o om k (mvO m1)) (own' := [.cells 94 [.ptr o 0], .cells 155 [.ptr om 0]]) Tryz.call158 (((pl L m i o om (U2 L Hp o om i (mvO m) ++ [.cells 94 [.ptr o 0], .cells 155 [.ptr om 0]]) hne (A6 (Aw ho hne)) (A6 (Bu hm)) hi hl hll hb).ok h1).mono (fun r H' e => ⟨e.1, e.2.trans (by first | rw [Ch (by rw [U2_len]; exact hol) (by rw [U2_len]; exact hml), F7 hne] | rw [Ch hol hml])⟩)) (by first | rfl | rw [U2_len, U2_len] | rw [U2_len]) (fun h => Bv hne Bc h) ?_
  refine Z74 ?_;exact K.finPN .nores (hp := ⟨m1, k, by rw [dx ht8 ht13 ht24]; rw [h1], rfl, rfl⟩)
 refine Z37 ?_;refine R.fin [2, 3, 7, 29] ?_
 refine W.cond (fun ht29 => ?_) (fun ht29 => ?_)
 ·rcases h1 : Dt L i with ⟨s, j⟩ | ⟨e, a⟩
  rotate_left
  ·refine W.drawY [0, 0, 2, 6, 15, 31, 63] [2] [.q 2 [] [], .s [33] (some 0) [] [], .s [] none [0] [], .s [] none [0] [], .s [] none [0] [], .s [] none [0] []] (fun _ => U2 L Hp o om i (mvO m)) (fun B => [.cells 94 [.ptr o 0], .cells 155 [.ptr om 0]] ++ bot (B 0)) Ad (by kernel_rfl) rfl rfl (fun _ => rfl) ?_
   apply Y.q
   case h1 =>
    intro B hT hF
    exact f8
   case hTF => decide
   refine Y.callBad (own0 := [.cells 94 [.ptr o 0], .cells 155 [.ptr om 0]]) Tryz.call156 (fun B hB => ⟨rfl, by simp [bot, hB]⟩) ((Lp L i o _ (A6 (Aw ho hne)) hi hll).bad h1) ?_ ?_
   ·rintro x U O f hU hl' ⟨rfl, j', hH⟩
    obtain ⟨rfl, rfl⟩ := At hU (List.getElem?_eq_some_iff.1 (Aw (L := L) (i := i) (x := mvO m) ho hne)).1 hH
    refine ⟨fun h => Au h (fun n => An), fun o h => (by cases h), ?_⟩
    refine K.blP ?_;exact K.finPP ⟨_, _, by rw [Ns ht8 ht13 ht24 ht29]; rw [h1]; rfl, rfl, j', m, Bf hne⟩
   exact fh
  have hj := Ee hl hi _ _ h1
  refine W.drawY [0, 0, 2, 6, 15, 31, 63] [2] [.q 2 [] [], .s [33] (some 0) [] [], .s [34] none [0] []] (fun B => U2 L Hp o om (if B 0 = true then j else i) (mvO m)) (fun _ => [.cells 94 [.ptr o 0], .cells 155 [.ptr om 0]]) Ad (by kernel_rfl) rfl rfl (fun B => by rw [U2_len]; exact U2_len.symm) ?_
  apply Y.q
  case h1 =>
   intro B hT hF
   exact f8
  case hTF => decide
  refine Y.callUp (r := Aa s) (o := o) (x0 := pmO L i) (x := pmO L j) Tryz.call156 (fun B hB1 hB2 hB => ⟨by simp only [hB]; exact Aw ho hne, (Bf hne).symm, rfl, An, ?_⟩) ?_
  ·simp only [hB]
   exact (Lp L i o _ (A6 (Aw ho hne)) hi hll).ok h1
  refine my ?_;refine Z68 ?_
  refine R.storeUpT jS (Bu hm) ?_ ?_
  ·simp [or_imp, forall_and]
  refine Ge ?_;refine AW.upEq (Pn (m := m) (s := s)) ?_
  rcases h2 : Bh L Ek j with ⟨u, j2⟩ | ⟨e, a⟩
  rotate_left
  ·refine AW.seqRK ?_
   refine ARunK.one (R.loadOwn Tryz.isAgg94 (ARun.nil ?_))
   refine RK.callBad Tryz.call123 ((K4 L Ek j o _ (A6 (Aw ho hne)) hj.2 hll).bad h2) ?_
   rintro x U O hU hl' ⟨rfl, j', hH⟩
   obtain ⟨rfl, rfl⟩ := At hU (List.getElem?_eq_some_iff.1 (Aw (L := L) (i := j) (x := mvO (takeS m s)) ho hne)).1 hH
   refine ⟨fun h => Au h (fun n => An), fun o h => (by cases h), ?_⟩
   refine Rj ?_;exact K.finPP ⟨_, _, by rw [Ns ht8 ht13 ht24 ht29]; rw [h1]; show (Bh L Ek j).bind _ = _; rw [h2]; rfl, rfl, j', (takeS m s), Bf hne⟩
  have hj2 := Dh hl hj.2 _ _ h2
  refine Z47 ?_;refine R.callUp (x := pmO L j2) Tryz.call123 (Aw ho hne) (by simp) An ((K4 L Ek j o _ (A6 (Aw ho hne)) hj.2 hll).ok h2) ?_
  rw [Bf hne]
  refine Ge ?_
  rcases h3 : Ec L 0 (Ck L) (takeS m s) j2 with ⟨m1, j3⟩ | ⟨e, a⟩
  rotate_left
  ·refine AW.seqRK ?_
   refine ARunK.one (R.loadOwn Tryz.isAgg94 (ARun.nil ?_))
   refine ARunK.one (R.makeFunc (ARun.nil ?_))
   refine RK.callBad Tryz.call159 ((Zh L (0) (takeS m s) j2 o om 160 [.ptr (oid Hp.length 0) 0, .ptr (oid Hp.length 1) 0] (Ck L) (U2 L Hp o om j2 (mvO (takeS m s)) ++ [.cells 94 [.ptr o 0], .cells 155 [.ptr om 0]]) hne (A6 (Aw ho hne)) (A6 (Bu hm)) (by omega) hj2.2 hl hll ((hb.mono (by omega : 2 * i - 1 ≤ 2 * j2 - 1)).takeS (by omega)) Tryz.call160 (Pm (z := pmO L j2) (z' := mvO (takeS m s)) hne (A6 (Aw ho hne)) (A6 (Bu hm)) (Lq rfl) (Lq rfl) (oid_ne hol) (oid_ne hml) (oid_ne hol) (oid_ne hml) hl hll) (Fk hl hll)).bad h3) ?_
   rintro x U O hU hl' ⟨rfl, hW2⟩
   obtain ⟨⟨j', m', rfl⟩, rfl⟩ := D9 hne hol hml hU hW2
   refine ⟨fun h => Bv hne Bc h, fun o h => (by cases h), ?_⟩
   refine Rj ?_;exact K.finPP ⟨_, _, by rw [Ns ht8 ht13 ht24 ht29]; rw [h1]; show (Bh L Ek j).bind _ = _; rw [h2]; show (Ec L 0 (Ck L) (takeS m s) j2).bind _ = _; rw [h3]; rfl, rfl, j', m', rfl⟩
  have hj3 := K3 hl (Fk hl hll) (takeS m s) j2 ((hb.mono (by omega : 2 * i - 1 ≤ 2 * j2 - 1)).takeS (by omega)) (by omega) hj2.2 _ _ h3
  refine Z47 ?_;refine Ik ?_
  refine R.callX (up' := U2 L Hp o om j3 (mvO m1)) (own' := [.cells 94 [.ptr o 0], .cells 155 [.ptr om 0]]) Tryz.call159 (((Zh L (0) (takeS m s) j2 o om 160 [.ptr (oid Hp.length 0) 0, .ptr (oid Hp.length 1) 0] (Ck L) (U2 L Hp o om j2 (mvO (takeS m s)) ++ [.cells 94 [.ptr o 0], .cells 155 [.ptr om 0]]) hne (A6 (Aw ho hne)) (A6 (Bu hm)) (by omega) hj2.2 hl hll ((hb.mono (by omega : 2 * i - 1 ≤ 2 * j2 - 1)).takeS (by omega)) Tryz.call160 (Pm (z := pmO L j2) (z' := mvO (takeS m s)) hne (A6 (Aw ho hne)) (A6 (Bu hm)) (Lq rfl) (Lq rfl) (oid_ne hol) (oid_ne hml) (oid_ne hol) (oid_ne hml) hl hll) (Fk hl hll)).ok h3).mono (fun r H' e => ⟨e.1, e.2.trans (by first | rw [Ch (by rw [U2_len]; exact hol) (by rw [U2_len]; exact hml), F7 hne] | rw [Ch hol hml])⟩)) (by first | rfl | rw [U2_len, U2_len] | rw [U2_len]) (fun h => Bv hne Bc h) ?_
  refine Ge ?_
  rcases h4 : D8 L m1 j3 with ⟨m2, k⟩ | ⟨e, a⟩
  rotate_left
  ·refine AW.regionK ?_
   refine ARunK.one (R.loadOwn Tryz.isAgg94 (ARun.nil ?_))
   refine ARunK.one (R.loadOwn Tryz.isAgg155 (ARun.nil ?_))
   refine RK.callBad Tryz.call157 ((T3 L m1 j3 o om (U2 L Hp o om j3 (mvO m1) ++ [.cells 94 [.ptr o 0], .cells 155 [.ptr om 0]]) hne (A6 (Aw ho hne)) (A6 (Bu hm)) hj3.2.1 hl hll hj3.2.2).bad h4) ?_
   rintro x U O hU hl' ⟨rfl, hW2⟩
   obtain ⟨⟨j', m', rfl⟩, rfl⟩ := D9 hne hol hml hU hW2
   refine ⟨fun h => Bv hne Bc h, fun o h => (by cases h), ?_⟩
   refine K.blP ?_;exact K.finPP ⟨_, _, by rw [Ns ht8 ht13 ht24 ht29]; rw [h1]; show (Bh L Ek j).bind _ = _; rw [h2]; show (Ec L 0 (Ck L) (takeS m s) j2).bind _ = _; rw [h3]; show D8 L m1 j3 = _; rw [h4], rfl, j', m', rfl⟩
  refine Xj ?_
  refine R.callX (up' := U2 L Hp o om k (mvO m2)) (own' := [.cells 94 [.ptr o 0], .cells 155 [.ptr om 0]]) Tryz.call157 (((T3 L m1 j3 o om (U2 L Hp o om j3 (mvO m1) ++ [.cells 94 [.ptr o 0], .cells 155 [.ptr om 0]]) hne (A6 (Aw ho hne)) (A6 (Bu hm)) hj3.2.1 hl hll hj3.2.2).ok h4).mono (fun r H' e => ⟨e.1, e.2.trans (by first | rw [Ch (by rw [U2_len]; exact hol) (by rw [U2_len]; exact hml), F7 hne] | rw [Ch hol hml])⟩)) (by first | rfl | rw [U2_len, U2_len] | rw [U2_len]) (fun h => Bv hne Bc h) ?_
  refine Z74 ?_;exact K.finPN .nores (hp := ⟨m2, k, by rw [Ns ht8 ht13 ht24 ht29]; rw [h1]; show (Bh L Ek j).bind _ = _; rw [h2]; show (Ec L 0 (Ck L) (takeS m s) j2).bind _ = _; rw [h3]; show D8 L m1 j3 = _; rw [h4], rfl, rfl⟩)
 refine Z37 ?_;refine R.fin [2, 3, 7, 45] ?_
 refine W.cond (fun ht45 => ?_) (fun ht45 => ?_)
 ·rcases h1 : Ec L 0 (Ir L) m i with ⟨m1, j⟩ | ⟨e, a⟩
  rotate_left
  ·refine AW.seqRK ?_
   refine ARunK.one (R.loadOwn Tryz.isAgg94 (ARun.nil ?_))
   refine ARunK.one (R.makeFunc (ARun.nil ?_))
   refine RK.callBad Tryz.call159 ((Zh L (0) m i o om 161 [.ptr (oid Hp.length 1) 0, .ptr (oid Hp.length 0) 0] (Ir L) (U2 L Hp o om i (mvO m) ++ [.cells 94 [.ptr o 0], .cells 155 [.ptr om 0]]) hne (A6 (Aw ho hne)) (A6 (Bu hm)) h0 hi hl hll hb Tryz.call161 (Pl (z := pmO L i) (z' := mvO m) hne (A6 (Aw ho hne)) (A6 (Bu hm)) (Lq rfl) (Lq rfl) (oid_ne hol) (oid_ne hml) (oid_ne hol) (oid_ne hml) hl hll) (K2 hl)).bad h1) ?_
   rintro x U O hU hl' ⟨rfl, hW2⟩
   obtain ⟨⟨j', m', rfl⟩, rfl⟩ := D9 hne hol hml hU hW2
   refine ⟨fun h => Bv hne Bc h, fun o h => (by cases h), ?_⟩
   refine Rj ?_;exact K.finPP ⟨_, _, by rw [Nt ht8 ht13 ht24 ht29 ht45]; rw [h1]; rfl, rfl, j', m', rfl⟩
  have hj := K3 hl (K2 hl) m i hb h0 hi _ _ h1
  refine Z47 ?_;refine Ik ?_
  refine R.callX (up' := U2 L Hp o om j (mvO m1)) (own' := [.cells 94 [.ptr o 0], .cells 155 [.ptr om 0]]) Tryz.call159 (((Zh L (0) m i o om 161 [.ptr (oid Hp.length 1) 0, .ptr (oid Hp.length 0) 0] (Ir L) (U2 L Hp o om i (mvO m) ++ [.cells 94 [.ptr o 0], .cells 155 [.ptr om 0]]) hne (A6 (Aw ho hne)) (A6 (Bu hm)) h0 hi hl hll hb Tryz.call161 (Pl (z := pmO L i) (z' := mvO m) hne (A6 (Aw ho hne)) (A6 (Bu hm)) (Lq rfl) (Lq rfl) (oid_ne hol) (oid_ne hml) (oid_ne hol) (oid_ne hml) hl hll) (K2 hl)).ok h1).mono (fun r H' e => ⟨e.1, e.2.trans (by first | rw [Ch (by rw [U2_len]; exact hol) (by rw [U2_len]; exact hml), F7 hne] | rw [Ch hol hml])⟩)) (by first | rfl | rw [U2_len, U2_len] | rw [U2_len]) (fun h => Bv hne Bc h) ?_
  refine Ge ?_
  rcases h2 : Bh L Ek j with ⟨u, j2⟩ | ⟨e, a⟩
  rotate_left
  ·refine AW.seqRK ?_
   refine ARunK.one (R.loadOwn Tryz.isAgg94 (ARun.nil ?_))
   refine RK.callBad Tryz.call123 ((K4 L Ek j o _ (A6 (Aw ho hne)) hj.2.1 hll).bad h2) ?_
   rintro x U O hU hl' ⟨rfl, j', hH⟩
   obtain ⟨rfl, rfl⟩ := At hU (List.getElem?_eq_some_iff.1 (Aw (L := L) (i := j) (x := mvO m1) ho hne)).1 hH
   refine ⟨fun h => Au h (fun n => An), fun o h => (by cases h), ?_⟩
   refine Rj ?_;exact K.finPP ⟨_, _, by rw [Nt ht8 ht13 ht24 ht29 ht45]; rw [h1]; show (Bh L Ek j).bind _ = _; rw [h2]; rfl, rfl, j', m1, Bf hne⟩
  have hj2 := Dh hl hj.2.1 _ _ h2
  have hj2e := Hd h2
  refine Z47 ?_;refine R.callUp (x := pmO L j2) Tryz.call123 (Aw ho hne) (by simp) An ((K4 L Ek j o _ (A6 (Aw ho hne)) hj.2.1 hll).ok h2) ?_
  rw [Bf hne]
  refine Ge ?_
  rcases h3 : Ck L m1 j2 with ⟨m2, j3⟩ | ⟨e, a⟩
  rotate_left
  ·refine AW.seqRK ?_
   refine ARunK.one (R.loadOwn Tryz.isAgg94 (ARun.nil ?_))
   refine ARunK.one (R.loadOwn Tryz.isAgg155 (ARun.nil ?_))
   refine RK.callBad Tryz.call155 ((Vd L m1 j2 o om (U2 L Hp o om j2 (mvO m1) ++ [.cells 94 [.ptr o 0], .cells 155 [.ptr om 0]]) hne (A6 (Aw ho hne)) (A6 (Bu hm)) hj2.2 hl hll (hj.2.2.mono (by omega))).bad h3) ?_
   rintro x U O hU hl' ⟨rfl, hW2⟩
   obtain ⟨⟨j', m', rfl⟩, rfl⟩ := D9 hne hol hml hU hW2
   refine ⟨fun h => Bv hne Bc h, fun o h => (by cases h), ?_⟩
   refine Rj ?_;exact K.finPP ⟨_, _, by rw [Nt ht8 ht13 ht24 ht29 ht45]; rw [h1]; show (Bh L Ek j).bind _ = _; rw [h2]; show (Ck L m1 j2).bind _ = _; rw [h3]; rfl, rfl, j', m', rfl⟩
  have hj3 := Fk hl hll m1 j2 (hj.2.2.mono (by omega)) (by omega) hj2.2 _ _ h3
  refine Z47 ?_;refine Fb ?_
  refine R.callX (up' := U2 L Hp o om j3 (mvO m2)) (own' := [.cells 94 [.ptr o 0], .cells 155 [.ptr om 0]]) Tryz.call155 (((Vd L m1 j2 o om (U2 L Hp o om j2 (mvO m1) ++ [.cells 94 [.ptr o 0], .cells 155 [.ptr om 0]]) hne (A6 (Aw ho hne)) (A6 (Bu hm)) hj2.2 hl hll (hj.2.2.mono (by omega))).ok h3).mono (fun r H' e => ⟨e.1, e.2.trans (by first | rw [Ch (by rw [U2_len]; exact hol) (by rw [U2_len]; exact hml), F7 hne] | rw [Ch hol hml])⟩)) (by first | rfl | rw [U2_len, U2_len] | rw [U2_len]) (fun h => Bv hne Bc h) ?_
  refine Ge ?_
  rcases h4 : D8 L m2 j3 with ⟨m3, k⟩ | ⟨e, a⟩
  rotate_left
  ·refine AW.regionK ?_
   refine ARunK.one (R.loadOwn Tryz.isAgg94 (ARun.nil ?_))
   refine ARunK.one (R.loadOwn Tryz.isAgg155 (ARun.nil ?_))
   refine RK.callBad Tryz.call157 ((T3 L m2 j3 o om (U2 L Hp o om j3 (mvO m2) ++ [.cells 94 [.ptr o 0], .cells 155 [.ptr om 0]]) hne (A6 (Aw ho hne)) (A6 (Bu hm)) hj3.2.1 hl hll hj3.2.2).bad h4) ?_
   rintro x U O hU hl' ⟨rfl, hW2⟩
   obtain ⟨⟨j', m', rfl⟩, rfl⟩ := D9 hne hol hml hU hW2
   refine ⟨fun h => Bv hne Bc h, fun o h => (by cases h), ?_⟩
   refine K.blP ?_;exact K.finPP ⟨_, _, by rw [Nt ht8 ht13 ht24 ht29 ht45]; rw [h1]; show (Bh L Ek j).bind _ = _; rw [h2]; show (Ck L m1 j2).bind _ = _; rw [h3]; show D8 L m2 j3 = _; rw [h4], rfl, j', m', rfl⟩
  refine Xj ?_
  refine R.callX (up' := U2 L Hp o om k (mvO m3)) (own' := [.cells 94 [.ptr o 0], .cells 155 [.ptr om 0]]) Tryz.call157 (((T3 L m2 j3 o om (U2 L Hp o om j3 (mvO m2) ++ [.cells 94 [.ptr o 0], .cells 155 [.ptr om 0]]) hne (A6 (Aw ho hne)) (A6 (Bu hm)) hj3.2.1 hl hll hj3.2.2).ok h4).mono (fun r H' e => ⟨e.1, e.2.trans (by first | rw [Ch (by rw [U2_len]; exact hol) (by rw [U2_len]; exact hml), F7 hne] | rw [Ch hol hml])⟩)) (by first | rfl | rw [U2_len, U2_len] | rw [U2_len]) (fun h => Bv hne Bc h) ?_
  refine Z74 ?_;exact K.finPN .nores (hp := ⟨m3, k, by rw [Nt ht8 ht13 ht24 ht29 ht45]; rw [h1]; show (Bh L Ek j).bind _ = _; rw [h2]; show (Ck L m1 j2).bind _ = _; rw [h3]; show D8 L m2 j3 = _; rw [h4], rfl, rfl⟩)
 refine Z37 ?_;refine R.fin [2, 3, 58] ?_
 refine W.cond (fun ht58 => ?_) (fun ht58 => ?_)
 ·rcases h1 : Ck L m i with ⟨m1, j⟩ | ⟨e, a⟩
  rotate_left
  ·refine AW.seqRK ?_
   refine ARunK.one (R.loadOwn Tryz.isAgg94 (ARun.nil ?_))
   refine ARunK.one (R.loadOwn Tryz.isAgg155 (ARun.nil ?_))
   refine ny ?_
   rintro x U O hU hl' ⟨rfl, hW2⟩
   obtain ⟨⟨j', m', rfl⟩, rfl⟩ := D9 hne hol hml hU hW2
   refine ⟨fun h => Bv hne Bc h, fun o h => (by cases h), ?_⟩
   refine Rj ?_;exact K.finPP ⟨_, _, by rw [Vf ht8 ht13 ht24 ht29 ht45 ht58]; rw [h1]; rfl, rfl, j', m', rfl⟩
  have hj := Fk hl hll m i hb h0 hi _ _ h1
  refine Z47 ?_;refine Fb ?_
  refine R.callX (up' := U2 L Hp o om j (mvO m1)) (own' := [.cells 94 [.ptr o 0], .cells 155 [.ptr om 0]]) Tryz.call155 (((Vd L m i o om (U2 L Hp o om i (mvO m) ++ [.cells 94 [.ptr o 0], .cells 155 [.ptr om 0]]) hne (A6 (Aw ho hne)) (A6 (Bu hm)) hi hl hll hb).ok h1).mono (fun r H' e => ⟨e.1, e.2.trans (by first | rw [Ch (by rw [U2_len]; exact hol) (by rw [U2_len]; exact hml), F7 hne] | rw [Ch hol hml])⟩)) (by first | rfl | rw [U2_len, U2_len] | rw [U2_len]) (fun h => Bv hne Bc h) ?_
  refine Ge ?_;refine W.drawY [0, 0, 2, 6, 14, 30, 62, 126, 254, 511, 1023, 2047] [] [.q 8 [] [], .s [71] none [] []] (fun _ => U2 L Hp o om j (mvO m1)) (fun _ => [.cells 94 [.ptr o 0], .cells 155 [.ptr om 0]]) Ad (by kernel_rfl) rfl rfl (fun B => rfl) ?_
  apply Y.q
  case h1 =>
   intro B hT hF
   refine Z89 ?_;refine D.nilPtr ?_;refine D.fieldAddrPtr (fo := 2) jU Tryz.sizeOf22 ?_;refine D.loadUp jA (Bu hm) ?_;refine D.indexAddr (0) (Aq (m1.give.getD 0 ⟨[], 0⟩)) jU jS (dv h1) ?_;refine D.fieldAddrRo (off := 0) jU Tryz.sizeOf9 ?_;exact kw
  case hTF => decide
  refine Y.buildSlice jU Tryz.sizeOf9 Tryz.zeroValue9 ?_;refine Y.tail (tn := []) (U := U2 L Hp o om j (mvO m1)) ?_;refine Z68 ?_
  refine R.storeUpT jS (Bu hm) ?_ ?_
  ·simp [or_imp, forall_and]
  refine Ge ?_;refine AW.upEq (Zi (m := m1) (c := m1.give.getD 0 ⟨[], 0⟩)) ?_
  rcases h2 : D8 L (takeS m1 (m1.give.getD 0 ⟨[], 0⟩).name) j with ⟨m2, k⟩ | ⟨e, a⟩
  rotate_left
  ·refine AW.regionK ?_
   refine ARunK.one (R.loadOwn Tryz.isAgg94 (ARun.nil ?_))
   refine ARunK.one (R.loadOwn Tryz.isAgg155 (ARun.nil ?_))
   refine RK.callBad Tryz.call157 ((T3 L (takeS m1 (m1.give.getD 0 ⟨[], 0⟩).name) j o om (U2 L Hp o om j (mvO (takeS m1 (m1.give.getD 0 ⟨[], 0⟩).name)) ++ [.cells 94 [.ptr o 0], .cells 155 [.ptr om 0]]) hne (A6 (Aw ho hne)) (A6 (Bu hm)) hj.2.1 hl hll (hj.2.2.takeS (by omega))).bad h2) ?_
   rintro x U O hU hl' ⟨rfl, hW2⟩
   obtain ⟨⟨j', m', rfl⟩, rfl⟩ := D9 hne hol hml hU hW2
   refine ⟨fun h => Bv hne Bc h, fun o h => (by cases h), ?_⟩
   refine K.blP ?_;exact K.finPP ⟨_, _, by rw [Vf ht8 ht13 ht24 ht29 ht45 ht58]; rw [h1]; show D8 L (takeS m1 (m1.give.getD 0 ⟨[], 0⟩).name) j = _; rw [h2], rfl, j', m', rfl⟩
  refine Xj ?_
  refine R.callX (up' := U2 L Hp o om k (mvO m2)) (own' := [.cells 94 [.ptr o 0], .cells 155 [.ptr om 0]]) Tryz.call157 (((T3 L (takeS m1 (m1.give.getD 0 ⟨[], 0⟩).name) j o om (U2 L Hp o om j (mvO (takeS m1 (m1.give.getD 0 ⟨[], 0⟩).name)) ++ [.cells 94 [.ptr o 0], .cells 155 [.ptr om 0]]) hne (A6 (Aw ho hne)) (A6 (Bu hm)) hj.2.1 hl hll (hj.2.2.takeS (by omega))).ok h2).mono (fun r H' e => ⟨e.1, e.2.trans (by first | rw [Ch (by rw [U2_len]; exact hol) (by rw [U2_len]; exact hml), F7 hne] | rw [Ch hol hml])⟩)) (by first | rfl | rw [U2_len, U2_len] | rw [U2_len]) (fun h => Bv hne Bc h) ?_
  refine Z74 ?_;exact K.finPN .nores (hp := ⟨m2, k, by rw [Vf ht8 ht13 ht24 ht29 ht45 ht58]; rw [h1]; show D8 L (takeS m1 (m1.give.getD 0 ⟨[], 0⟩).name) j = _; rw [h2], rfl, rfl⟩)
 refine AW.skip ?_;refine K.blN ?_;exact K.finPN .nores (hp := ⟨m, i, ml ht8 ht13 ht24 ht29 ht45 ht58, rfl, rfl⟩)

def pq : Str := [32, 97, 100, 100, 32, 100, 114, 111, 112, 32, 114, 101, 110, 97, 109, 101, 32, 115, 112, 108, 105, 116, 32, 109, 101, 114, 103, 101, 32, 114, 101, 116, 121, 112, 101]
theorem Zj : Ht pq [32] = migWords := by kernel_rfl
theorem sm (k : Int) (Hp : List AObj) : AFun Tryz.prog 154 [A4 k] Hp (Aa (Ca k)) := by
 refine ACall.body [.tmp 2] [0] Tryz.func154 Tryz.ntmps154 (fun d => ?_)
 refine Z54 ?_;refine Xp ?_;refine Z13 ?_;refine Z83 ?_;refine R.fin [0, 8] ?_
 refine W.cond (fun ht8 => ?_) (fun ht8 => ?_)
 ·have hm : Ca k = [] := if_pos ht8
  refine Z44 ?_;exact k9
 have hm : Ca k = migWords.getD k.toNat [] := if_neg (by rw [ht8]; simp)
 refine Qa ?_;refine R.call Tryz.call100 (l9 pq [32] (by decide) (by decide) _) ?_
 rw [Zj]
 refine Av ?_
 have hk : 1 ≤ k ∧ k ≤ 6 := by simp at ht8; omega
 have hget : (migWords.map Aa)[k.toNat]? = some (Aa (migWords.getD k.toNat [])) := by
  have hlt : k.toNat < migWords.length := by show k.toNat < 7; omega
  rw [List.getElem?_map, List.getElem?_eq_getElem hlt, List.getD_eq_getElem?_getD, List.getElem?_eq_getElem hlt]
  rfl
 refine R.indexAddr (k.toNat) (Aa (migWords.getD k.toNat [])) jU jS hget ?_;refine Di ?_;refine Z23 ?_;exact b6

theorem Zk {s : Str} {x : Nat} (h : ∀ j : Nat, j < x → (Ca ((j : Int) + 1) == s) = false) (hx : x < 6) (he : (Ca ((x : Int) + 1) == s) = true) : Dg s = (x : Int) + 1 := by
 have a : ∀ j : Nat, j < x → ∀ k : Int, k = (j : Int) + 1 → (Ca k == s) = false := fun j hj k e => by rw [e]; exact h j hj
 have b : ∀ k : Int, k = (x : Int) + 1 → (Ca k == s) = true := fun k e => by rw [e]; exact he
 have h6 : x = 0 ∨ x = 1 ∨ x = 2 ∨ x = 3 ∨ x = 4 ∨ x = 5 := by omega
 unfold Dg
 rcases h6 with rfl | rfl | rfl | rfl | rfl | rfl
 ·rw [if_pos (b 1 rfl)]; rfl
 ·rw [if_neg (by rw [a 0 (by omega) 1 rfl]; simp), if_pos (b 2 rfl)]; rfl
 ·rw [if_neg (by rw [a 0 (by omega) 1 rfl]; simp), if_neg (by rw [a 1 (by omega) 2 rfl]; simp), if_pos (b 3 rfl)]; rfl
 ·rw [if_neg (by rw [a 0 (by omega) 1 rfl]; simp), if_neg (by rw [a 1 (by omega) 2 rfl]; simp), if_neg (by rw [a 2 (by omega) 3 rfl]; simp), if_pos (b 4 rfl)]; rfl
 ·rw [if_neg (by rw [a 0 (by omega) 1 rfl]; simp), if_neg (by rw [a 1 (by omega) 2 rfl]; simp), if_neg (by rw [a 2 (by omega) 3 rfl]; simp), if_neg (by rw [a 3 (by omega) 4 rfl]; simp), if_pos (b 5 rfl)]; rfl
 rw [if_neg (by rw [a 0 (by omega) 1 rfl]; simp), if_neg (by rw [a 1 (by omega) 2 rfl]; simp), if_neg (by rw [a 2 (by omega) 3 rfl]; simp), if_neg (by rw [a 3 (by omega) 4 rfl]; simp), if_neg (by rw [a 4 (by omega) 5 rfl]; simp), if_pos (b 6 rfl)]; rfl
theorem T6 {s : Str} {x : Nat} (h : ∀ j : Nat, j < x → (Ca ((j : Int) + 1) == s) = false) (he : (Ca ((x : Int) + 1) == s) = false) : ∀ j : Nat, j < x + 1 → (Ca ((j : Int) + 1) == s) = false := fun j hj => by
 rcases Nat.lt_or_ge j x with h1 | h1
 ·exact h j h1
 rw [show j = x by omega]; exact he
theorem Zl {s : Str} {x : Nat} (h : ∀ j : Nat, j < x → (Ca ((j : Int) + 1) == s) = false) (hx : 6 ≤ x) : Dg s = 0 := by
 have a : ∀ j : Nat, j < 6 → ∀ k : Int, k = (j : Int) + 1 → (Ca k == s) = false := fun j hj k e => by rw [e]; exact h j (by omega)
 unfold Dg
 rw [if_neg (by rw [a 0 (by omega) 1 rfl]; simp), if_neg (by rw [a 1 (by omega) 2 rfl]; simp), if_neg (by rw [a 2 (by omega) 3 rfl]; simp), if_neg (by rw [a 3 (by omega) 4 rfl]; simp), if_neg (by rw [a 4 (by omega) 5 rfl]; simp), if_neg (by rw [a 5 (by omega) 6 rfl]; simp)]
theorem so (s : Str) (Hp : List AObj) : AFun Tryz.prog 121 [Aa s] Hp (A4 (Dg s)) := by
 refine ACall.body [.tmp 2] [0] Tryz.func121 Tryz.ntmps121 (fun d => ?_)
 refine Z54 ?_;refine ap ?_
 refine AW.loopC (α := Nat) (fun x => ⟨13, A5 0 (Aa s) (A5 3 (A4 ((x : Nat) + 1)) (fun _ => .any)), Hp, [], [], none⟩) (fun x => ∀ j : Nat, j < x → (Ca ((j : Int) + 1) == s) = false) (fun x => 6 - x) (0) (fun j h => by omega) (StLe.refl _) rfl (fun x hx => ?_)
 refine Z11 ?_;refine R.leq ?_;refine R.fin [0, 3, 5] ?_
 refine W.cond (fun ht5 => ?_) (fun ht5 => ?_)
 ·have hx6 : x < 6 := by simp at ht5; omega
  refine Z6 ?_;refine Z75 ?_;refine R.call Tryz.call154 (sm _ _) ?_;refine Av ?_;refine R.seql ?_;refine R.fin [0, 3, 11] ?_
  refine W.cond (fun ht11 => ?_) (fun ht11 => ?_)
  ·refine Z0 ?_;refine Z23 ?_;refine Z46 ?_;exact K.fin (V.one V.tmp) ⟨by rw [Zk hx hx6 ht11], rfl⟩
  refine Tw ?_;refine Kb ?_
  refine K.lpN (x + 1) (T6 hx ht11) (by omega) (StCut.of_eq rfl)
 have hx6 : 6 ≤ x := by simp at ht5; omega
 refine K9 ?_;refine Z44 ?_;exact K.fin (V.one V.tmp) ⟨by rw [Zl hx hx6], rfl⟩

theorem dy {L : List Tok} {Hp own : List AObj} {o i n : Nat} {x : AObj} (h1 : o < Hp.length) : U2 L (Hp ++ own) o (oid Hp.length n) i x = Hp.set o (pmO L i) ++ own.set n x := by
 unfold U2 oid
 rw [List.set_append_left _ _ h1, List.set_append, if_neg (by simp), List.length_set, Nat.add_sub_cancel_left]
theorem T7 {L : List Tok} {Hp : List AObj} {o i j n : Nat} (h : ∀ z ∈ Hp.set o (pmO L i), ObjLow n z) : ∀ z ∈ Hp.set o (pmO L j), ObjLow n z := by
 intro z hz
 rw [show Hp.set o (pmO L j) = (Hp.set o (pmO L i)).set o (pmO L j) by rw [List.set_set]] at hz
 rcases List.mem_or_eq_of_mem_set hz with hz | rfl
 ·exact h z hz
 exact An
theorem c90 (L : List Tok) (i o : Nat) (Hp : List AObj) (ho : Hp[o]? = some (pmO L i)) (hi : i < L.length) (hl : TokEnd L) (hll : L.length ≤ 500000) : CP 90 [.ptr o 0] Hp (I7 L i) (fun m j r H' => r = F5 m ∧ H' = Hp.set o (pmO L j)) (W1 L o Hp) := by
 have hol := (List.getElem?_eq_some_iff.1 ho).1
 have hne : oid Hp.length 2 ≠ o := by unfold oid; omega
 refine ACallP.body [.cell 2 64] [0] Tryz.func90 Tryz.ntmps90 (fun d => ?_)
 refine Z48 ?_;refine ku ?_;refine Rf ?_;refine B8 ?_;refine er ?_;refine R.call Tryz.call121 (so (A9 L i).text _) ?_;refine R.build (places := #[(0, 1), (1, 1), (2, 1), (3, 1), (4, 1)]) jU (fun w => by simp) jZ ?_;refine Z10 ?_;refine R.fin [0, 2, 3, 4] ?_;refine Z15 ?_;refine R.nilCell 2 1 1 ?_;refine R.nilCell 2 2 2 ?_;refine R.nilCell 2 3 6 ?_;refine R.nilCell 2 4 6 ?_;refine Z35 ?_;refine R.neq ?_;refine kv ?_;refine Xg ?_;refine Fw ?_;refine R.fin [0, 2, 4, 18] ?_
 refine W.cond (fun ht18 => ?_) (fun ht18 => ?_)
 ·have e : I7 L i = .bad 8 (A9 L i).at_ := if_pos ht18
  refine AW.regionK ?_
  refine ARunK.one (R.move (ARun.nil ?_))
  refine l7 ?_
  rintro x U O hU hl' ⟨rfl, hH⟩
  obtain ⟨rfl, rfl⟩ := Fj hU hH
  refine ⟨fun h => h, fun o h => (by cases h), ?_⟩
  exact eo
 have e0 : I7 L i = (Ed L (⟨Dg (A9 L i).text, [], [], [], []⟩ : Mov) (i + 1)).bind fun m j => (Bh L [59] j).bind fun _ j => .ok m j := if_neg (by rw [ht18]; simp)
 have hi1 : i + 1 < L.length := hl.step hi (by simp only [Bool.or_eq_false_iff, bne_eq_false_iff_eq] at ht18; rw [ht18.1]; decide)
 refine Ka ?_;refine Z29 ?_;refine Xd ?_;refine Z29 ?_
 refine R.storeUp jS ho ?_ ?_
 ·simp
 refine R.fin [0, 2, 4] ?_
 rcases hR : Ed L (⟨Dg (A9 L i).text, [], [], [], []⟩ : Mov) (i + 1) with ⟨m1, k⟩ | ⟨e, a⟩
 rotate_left
 ·refine AW.seqRK ?_
  refine ARunK.one (R.move (ARun.nil ?_))
  refine RK.callBad Tryz.call122 ((pm L (⟨Dg (A9 L i).text, [], [], [], []⟩ : Mov) (i + 1) o (oid Hp.length 2) (Hp.set o (pmO L (i + 1)) ++ [.cells 64 [A4 0, .nil, .nil, .nil, .nil], .cells 125 [.v (.int .i64 (A9 L i).kind), .v (sv (A9 L i).text), .v (.int .i64 ((A9 L i).at_ : Int))], mvO (⟨Dg (A9 L i).text, [], [], [], []⟩ : Mov)]) hne (by rw [List.getElem?_append_left (by simpa using hol)]; exact getset ho) (by unfold oid; rw [List.getElem?_append_right (by simp)]; simp) hi1 hl hll ⟨Nat.zero_le _, Nat.zero_le _, Nat.zero_le _, Nat.zero_le _⟩ (by omega)).bad hR) ?_
  rintro x U O hU hl' ⟨rfl, j', m', hH⟩
  rw [show oid Hp.length 2 = oid (Hp.set o (pmO L (i + 1))).length 2 by simp, dy (by simpa using hol), List.set_set] at hH
  obtain ⟨rfl, rfl⟩ := Fj (by rw [hU]; simp) hH
  refine ⟨fun h => T7 h, fun o h => (by cases h), ?_⟩
  refine K.thP ?_;exact K.finPP ⟨_, _, by rw [e0]; rw [hR]; rfl, rfl, j', rfl⟩
 have hk := Wm hl hll (⟨Dg (A9 L i).text, [], [], [], []⟩ : Mov) (i + 1) ⟨Nat.zero_le _, Nat.zero_le _, Nat.zero_le _, Nat.zero_le _⟩ (by omega) hi1 _ _ hR
 refine Z0 ?_
 refine R.callX (up' := Hp.set o (pmO L k)) (own' := [.cells 64 [A4 0, .nil, .nil, .nil, .nil], .cells 125 [.v (.int .i64 (A9 L i).kind), .v (sv (A9 L i).text), .v (.int .i64 ((A9 L i).at_ : Int))], mvO m1]) Tryz.call122 (((pm L (⟨Dg (A9 L i).text, [], [], [], []⟩ : Mov) (i + 1) o (oid Hp.length 2) (Hp.set o (pmO L (i + 1)) ++ [.cells 64 [A4 0, .nil, .nil, .nil, .nil], .cells 125 [.v (.int .i64 (A9 L i).kind), .v (sv (A9 L i).text), .v (.int .i64 ((A9 L i).at_ : Int))], mvO (⟨Dg (A9 L i).text, [], [], [], []⟩ : Mov)]) hne (by rw [List.getElem?_append_left (by simpa using hol)]; exact getset ho) (by unfold oid; rw [List.getElem?_append_right (by simp)]; simp) hi1 hl hll ⟨Nat.zero_le _, Nat.zero_le _, Nat.zero_le _, Nat.zero_le _⟩ (by omega)).ok hR).mono (fun r H' e => ⟨e.1, e.2.trans (by rw [show oid Hp.length 2 = oid (Hp.set o (pmO L (i + 1))).length 2 by simp]; rw [dy (by simpa using hol), List.set_set]; rfl)⟩)) (by simp) (fun h => by simpa using T7 h) ?_
 refine R.fin [0, 2, 4] ?_
 rcases hW : Bh L [59] k with ⟨u, j2⟩ | ⟨e, a⟩
 rotate_left
 ·refine AW.seqRK ?_
  refine ARunK.one (R.move (ARun.nil ?_))
  refine RK.callBad Tryz.call123 ((K4 L [59] k o _ (A6 (getset ho)) hk.2.1 hll).bad hW) ?_
  rintro x U O hU hl' ⟨rfl, j', hH⟩
  obtain ⟨rfl, rfl⟩ := At hU (List.getElem?_eq_some_iff.1 (getset (B := pmO L k) ho)).1 hH
  refine ⟨fun h => Au h (fun n => An), fun o h => (by cases h), ?_⟩
  refine K.thP ?_;exact K.finPP ⟨_, _, by rw [e0]; rw [hR]; show (Bh L [59] k).bind _ = _; rw [hW]; rfl, rfl, j', by rw [List.set_set]⟩
 refine Z0 ?_;refine R.callUp (x := pmO L j2) Tryz.call123 (getset ho) (by simp) An ((K4 L [59] k o _ (A6 (getset ho)) hk.2.1 hll).ok hW) ?_
 rw [List.set_set]
 refine R.fin [2, 4] ?_;refine Z34 ?_;refine Z5 ?_;exact K.finP (V.one (V.cellN jA jS)) (hp := ⟨m1, j2, by rw [e0]; rw [hR]; show (Bh L [59] k).bind _ = _; rw [hW]; rfl, rfl, rfl⟩) (hlow := Ss)

/-- What mig.parser.moves comes to: the moves, or none and the fault. -/
def I8 (L : List Tok) : List Mov × Int × Int := match Gl L with
 | .ok l _ => (l, 0, 0)
 | .bad e a => ([], e, a)
abbrev L0 (L : List Tok) : AV := .tup [De (I8 L).1, .agg [A4 (I8 L).2.1, A4 (I8 L).2.2]]
theorem T8 {up : List AObj} {n : Nat} {x y z : AObj} (hn : up.length = n) : (up ++ [x, y]).set (oid n 0) z = up ++ [z, y] := by
 subst hn
 rw [show oid up.length 0 = up.length + 0 from rfl, Al]; rfl
theorem dz {up : List AObj} {n : Nat} {x y z : AObj} (hn : up.length = n) : (up ++ [x, y]).set (oid n 1) z = up ++ [x, z] := by
 subst hn
 rw [show oid up.length 1 = up.length + 1 from rfl, Al]; rfl
theorem T9 {up : List AObj} {n : Nat} {x y : AObj} (hn : up.length = n) : (up ++ [x, y])[oid n 0]? = some x := by
 subst hn
 rw [show oid up.length 0 = up.length + 0 from rfl, Bk]; rfl
theorem ea {up : List AObj} {n : Nat} {x y : AObj} (hn : up.length = n) : (up ++ [x, y])[oid n 1]? = some y := by
 subst hn
 rw [show oid up.length 1 = up.length + 1 from rfl, Bk]; rfl
theorem je {fc : Func} {r0 crest : Code} (hf : Tryz.prog.funcs[87]? = some fc) (hb : fc.body = some (.seq r0 crest)) (d a b : Nat) (H : List AObj) : AW Tryz.prog (d + 1) crest ⟨8, A5 2 (.v .nilIface) (A5 3 (.v .nilIface) (Go.SX.argsF [.ptr a 0, .ptr b 0])), H, [], [], none⟩ (fun e s2 => (e = .normal ∨ e = .ret) ∧ s2.defs = [] ∧ s2.up = H) := by
 have e := Tryz.func87.symm.trans hf
 injection e with e
 subst e
 injection hb with hb
 injection hb with h1 h2
 subst h2
 refine AW.keep [0, 1, 2] (by simp only [go_sem, ↓reduceIte, Nat.reduceEqDiff, Nat.reduceAdd] <;> rfl) ?_
 refine Z0 ?_;refine R.neqNil0 jU ?_;refine R.fin [0, 1, 2, 5] ?_
 refine W.cond (fun ht5 => ?_) (fun ht5 => ?_)
 ·cases ht5
 refine AW.skip ?_;exact ⟨.inl rfl, rfl, rfl⟩

theorem Wp {fc : Func} {r0 crest : Code} (hf : Tryz.prog.funcs[87]? = some fc) (hb : fc.body = some (.seq r0 crest)) {n : Nat} {up : List AObj} {x0 y1 y2 : AV} (e a : Int) (hn : up.length = n) (d : Nat) : AW Tryz.prog (d + 1) crest ⟨8, A5 2 (.iface 60 (.agg ([Value.int .i64 e, Value.int .i64 a].map .v))) (A5 3 (.iface 60 (.agg ([Value.int .i64 e, Value.int .i64 a].map .v))) (Go.SX.argsF [.ptr (oid n 0) 0, .ptr (oid n 1) 0])), (up ++ [.cells 23 [x0], .cells 60 [y1, y2]]), [], [], none⟩ (fun e' s2 => (e' = .normal ∨ e' = .ret) ∧ s2.defs = [] ∧ s2.up = up ++ [.cells 23 [.slice true 5 []], .cells 60 [A4 e, A4 a]]) := by
 have e' := Tryz.func87.symm.trans hf
 injection e' with e'
 subst e'
 injection hb with hb
 injection hb with h1 h2
 subst h2
 refine AW.keep [0, 1, 2] (by simp only [go_sem, ↓reduceIte, Nat.reduceEqDiff, Nat.reduceAdd] <;> rfl) ?_
 refine Z0 ?_;refine R.neqNil jU ?_;refine R.fin [0, 1, 2, 5] ?_
 refine W.cond (fun ht5 => ?_) (fun ht5 => ?_)
 ·refine W.drawY0 [0, 1, 0, 7] [2] [.q 2 [] [], .s [] (some 0) [] []] (fun B => if B 0 = true then (up ++ [.cells 23 [.nil], .cells 60 [y1, y2]]) else (up ++ [.cells 23 [x0], .cells 60 [y1, y2]])) (fun _ => []) Ad (by kernel_rfl) rfl rfl (fun B => by split <;> simp) ?_
  apply Y.q
  case h1 =>
   intro B hT hF
   refine D.move ?_;refine D.typeAssert (.of jU) ?_;exact Gt
  case hTF => decide
  refine Y.storeUp (o := oid n 0) (t' := 23) (ys := [.nil]) (cs := [x0]) (cs' := [.nil]) Tryz.sizeOf23 (fun B hB => ⟨by simp only [hB]; exact T9 hn, by simp [upd, hB]; exact (T8 hn).symm, rfl, by simp⟩) ?_
  refine Y.tail (tn := [2]) (U := (up ++ [.cells 23 [.nil], .cells 60 [y1, y2]])) ?_
  refine R.storeUp jS (ea hn) ?_ ?_
  ·simp
  rw [dz hn]
  refine R.nilUp (oid n 0) 0 5 (T9 hn) (T8 hn) ?_;refine R.fin [] ?_;exact ⟨.inl rfl, rfl, rfl⟩
 cases ht5

/-- Where the loop of moves stands. -/
structure MovAt (L : List Tok) (x : List Mov × Nat) : Prop where
 lt : x.2 < L.length
 le : x.1.length ≤ 8
 at_ : Gl L = Hc L (9 - x.1.length) x.1 x.2
theorem jf {L : List Tok} (hl : TokEnd L) (hll : L.length ≤ 500000) {i : Nat} (hi : i < L.length) {m : Mov} {j : Nat} (h : I7 L i = .ok m j) : i < j ∧ j < L.length := by
 unfold I7 at h
 split at h
 ·cases h
 rename_i h0
 have hi1 : i + 1 < L.length := hl.step hi (by
  simp only [Bool.or_eq_true, not_or, Bool.not_eq_true, bne_eq_false_iff_eq] at h0
  rw [h0.1]; decide)
 obtain ⟨m1, k, h1, h2⟩ := PR.bind_ok h
 obtain ⟨u, j2, h3, h4⟩ := PR.bind_ok h2
 injection h4 with h5 h6
 subst h6
 obtain ⟨a1, a2, _⟩ := Wm hl hll _ (i + 1) ⟨Nat.zero_le _, Nat.zero_le _, Nat.zero_le _, Nat.zero_le _⟩ (by omega) hi1 _ _ h1
 obtain ⟨b1, b2⟩ := Dh hl a2 _ _ h3
 exact ⟨by omega, b2⟩
theorem I9 {L : List Tok} {l : List Mov} {i : Nat} (hl : l.length ≤ 8) : Hc L (9 - l.length) l i = if (A9 L i).kind != 0 then (if (l.length : Int) == 8 then Pi L i 3 else (I7 L i).bind fun m j => Hc L (8 - l.length) (l ++ [m]) j) else .ok l i := by
 rw [show 9 - l.length = (8 - l.length) + 1 by omega, Hc]
theorem MovAt.out {L : List Tok} {x : List Mov × Nat} (h : MovAt L x) (hk : ((A9 L x.2).kind != 0) = false) : Gl L = .ok x.1 x.2 := by
 rw [h.at_, I9 h.le, if_neg (by rw [hk]; simp)]
theorem MovAt.long {L : List Tok} {x : List Mov × Nat} (h : MovAt L x) (hk : ((A9 L x.2).kind != 0) = true) (h8 : ((x.1.length : Int) == 8) = true) : Gl L = .bad 3 (A9 L x.2).at_ := by
 rw [h.at_, I9 h.le, if_pos hk, if_pos h8]; rfl
theorem MovAt.step {L : List Tok} {x : List Mov × Nat} (h : MovAt L x) (hk : ((A9 L x.2).kind != 0) = true) (h8 : ((x.1.length : Int) == 8) = false) : Gl L = (I7 L x.2).bind fun m j => Hc L (8 - x.1.length) (x.1 ++ [m]) j := by
 rw [h.at_, I9 h.le, if_pos hk, if_neg (by rw [h8]; simp)]
theorem MovAt.bad {L : List Tok} {x : List Mov × Nat} (h : MovAt L x) (hk : ((A9 L x.2).kind != 0) = true) (h8 : ((x.1.length : Int) == 8) = false) {e a : Int} (hM : I7 L x.2 = .bad e a) : Gl L = .bad e a := by
 rw [h.step hk h8, hM]; rfl
theorem MovAt.on {L : List Tok} (hl : TokEnd L) (hll : L.length ≤ 500000) {x : List Mov × Nat} (h : MovAt L x) (hk : ((A9 L x.2).kind != 0) = true) (h8 : ((x.1.length : Int) == 8) = false) {m : Mov} {j : Nat} (hM : I7 L x.2 = .ok m j) : MovAt L (x.1 ++ [m], j) ∧ x.2 < j := by
 obtain ⟨a1, a2⟩ := jf hl hll h.lt hM
 have h1 : x.1.length ≤ 7 := by
  have := h.le
  simp only [beq_eq_false_iff_ne, ne_eq] at h8
  omega
 refine ⟨⟨a2, by show (x.1 ++ [m]).length ≤ 8; simp; omega, ?_⟩, a1⟩
 rw [h.step hk h8, hM]
 show Hc L (8 - x.1.length) (x.1 ++ [m]) j = Hc L (9 - (x.1 ++ [m]).length) (x.1 ++ [m]) j
 rw [show 9 - (x.1 ++ [m]).length = 8 - x.1.length by rw [List.length_append, List.length_singleton]; omega]
theorem Wq (e a : Int) : ∀ v ∈ [Value.int .i64 e, Value.int .i64 a], (AV.v v).one = true := by
 intro v hv
 simp only [List.mem_cons, List.not_mem_nil, or_false] at hv
 rcases hv with rfl | rfl <;> rfl
theorem Zm {L : List Tok} {l : List Mov} {i : Nat} (h : Gl L = .ok l i) : L0 L = .tup [De l, .agg [A4 0, A4 0]] := by unfold L0 I8; rw [h]
theorem Nu {L : List Tok} {e a : Int} (h : Gl L = .bad e a) : L0 L = .tup [.slice false 5 [], .agg [A4 e, A4 a]] := by unfold L0 I8; rw [h]; rfl
theorem jg {fn fc : Func} {x0 r1 y r0 crest : Code} (hf : Tryz.prog.funcs[62]? = some fn) (hb : fn.body = some (.seq x0 (.seq r1 y))) (hf2 : Tryz.prog.funcs[87]? = some fc) (hb2 : fc.body = some (.seq r0 crest)) (L : List Tok) (o : Nat) (Hp : List AObj) (ho : Hp[o]? = some (pmO L 0)) (hl : TokEnd L) (hll : L.length ≤ 500000) (d : Nat) :
  AW Tryz.prog (d + 1) y ⟨21, A5 0 (.ptr o 0) (A5 2 (.ptr (oid Hp.length 0) 0) (A5 3 (.ptr (oid Hp.length 1) 0) (A5 4 (.fn (.func 87) [] [.ptr (oid Hp.length 0) 0, .ptr (oid Hp.length 1) 0]) fun _ => .any))), Hp, [.cells 23 [.nil], .cells 60 [A4 0, A4 0]], [], none⟩ (KG Tryz.prog crest 8 3 2 [.ptr (oid Hp.length 0) 0, .ptr (oid Hp.length 1) 0] [.cell 2 23, .cell 3 60] Hp.length (fun r H' => r = L0 L ∧ ∃ i, H' = Hp.set o (pmO L i))) := by
 have e := Tryz.func62.symm.trans hf
 injection e with e
 subst e
 injection hb with hb
 injection hb with h1 h2
 injection h2 with h2 h3
 subst h3
 refine AW.keep [0, 2, 3] (by simp only [go_sem, ↓reduceIte, Nat.reduceEqDiff, Nat.reduceAdd] <;> rfl) ?_
 refine AW.upEq (Dr ho).symm ?_;refine W.seq ?_
 refine AW.loopC (α := List Mov × Nat) (fun x => ⟨21, A5 0 (.ptr o 0) (A5 2 (.ptr (oid Hp.length 0) 0) (A5 3 (.ptr (oid Hp.length 1) 0) (fun _ => .any))), Hp.set o (pmO L x.2), [.cells 23 [.slice true 5 (x.1.map F5)], .cells 60 [A4 0, A4 0]], [], none⟩) (fun x => MovAt L x) (fun x => L.length - x.2) (([], 0)) ⟨hl.pos, by decide, rfl⟩ (StLe.nilCell (own := [.cells 23 [.nil], .cells 60 [A4 0, A4 0]]) (n := 0) (j0 := 0) (k := 5) (t := 23) (cs := [.nil]) rfl rfl) rfl (fun x hx => ?_)
 refine Z11 ?_;refine R.call Tryz.call88 (c88 L x.2 o _ (A6 (getset ho)) hx.lt) ?_;refine R.field1 jU Tryz.isAgg3 ?_;refine R.neq ?_;refine R.fin [0, 2, 3, 8] ?_
 refine W.cond (fun ht8 => ?_) (fun ht8 => ?_)
 ·have hk : ((A9 L x.2).kind != 0) = true := ht8
  refine Z6 ?_;refine Fc ?_;refine Z15 ?_;refine Fb ?_;refine R.len jU ?_;refine R.eql ?_;refine R.fin [0, 2, 3, 11] ?_
  refine W.cond (fun ht11 => ?_) (fun ht11 => ?_)
  ·have h8 : ((x.1.length : Int) == 8) = true := by rw [List.length_map] at ht11; exact ht11
   refine AW.regionK ?_
   refine ARunK.one (R.move (ARun.nil ?_))
   refine RK.callBad Tryz.call89 (c89 L x.2 o 3 _ (A6 (getset ho)) hx.lt) ?_
   rintro z U O hU hl' ⟨rfl, hH⟩
   obtain ⟨rfl, rfl⟩ := Fj hU hH
   refine ⟨fun h => h, fun o h => (by cases h), ?_⟩
   refine Rj ?_;refine K.lpP ?_;refine K.thP ?_;exact KG.finP (vs := [.int .i64 3, .int .i64 ((A9 L x.2).at_ : Int)]) (Wq _ _) (V.two (V.cell Tryz.isAgg23) (V.cellN Tryz.isAgg60 Tryz.sizeOf60)) (fun d => Wp hf2 hb2 3 ((A9 L x.2).at_ : Int) (by simp) d) ⟨(Nu (hx.long hk h8)).symm, x.2, rfl⟩
  have h8 : ((x.1.length : Int) == 8) = false := by rw [List.length_map] at ht11; exact ht11
  refine Z6 ?_
  rcases hM : I7 L x.2 with ⟨m, j⟩ | ⟨e, a⟩
  rotate_left
  ·refine W.drawYP0 [2, 3] [0, 0, 2, 6, 15, 31] [2] [.q 2 [] [], .s [16] (some 0) [] [], .s [] none [0] [], .s [] none [0] [], .s [] none [0] []] (fun _ => Hp.set o (pmO L x.2)) (fun B => [.cells 23 [.slice true 5 (x.1.map F5)], .cells 60 [A4 0, A4 0]] ++ bot (B 0)) Ad (by kernel_rfl) (by kernel_rfl) rfl rfl (fun _ => rfl) ?_
   apply Y.q
   case h1 =>
    intro B hT hF
    refine D.loadOwn jA ?_;exact Z80
   case hTF => decide
   refine Y.callBad (own0 := [.cells 23 [.slice true 5 (x.1.map F5)], .cells 60 [A4 0, A4 0]]) Tryz.call90 (fun B hB => ⟨rfl, by simp [bot, hB]⟩) ((c90 L x.2 o _ (A6 (getset ho)) hx.lt hl hll).bad hM) ?_ ?_
   ·rintro z U O f hU hl' ⟨rfl, j', hH⟩
    obtain ⟨rfl, rfl⟩ := At hU (List.getElem?_eq_some_iff.1 (getset (B := pmO L x.2) ho)).1 hH
    refine ⟨fun h => Au h (fun n => An), fun o h => (by cases h), ?_⟩
    intro hts
    have h2 := hts 2 (by simp)
    have h3 := hts 3 (by simp)
    simp only [go_sem, ↓reduceIte, Nat.reduceEqDiff, Nat.reduceAdd] at h2 h3
    refine K.blP ?_;refine K.lpP ?_;refine K.thP ?_;exact KG.finP (vs := [.int .i64 e, .int .i64 a]) (Wq _ _) (V.two (V.cell (n := 0) (off := 0) Tryz.isAgg23 (hp := by rw [h2]; simp only [List.length_set]; rfl)) (V.cellN (n := 1) (off := 0) Tryz.isAgg60 Tryz.sizeOf60 (hp := by rw [h3]; simp only [List.length_set]; rfl))) (fun d => Wp hf2 hb2 e a (by simp) d) ⟨(Nu (hx.bad hk h8 hM)).symm, j', List.set_set ..⟩
   exact fk
  have hon := hx.on hl hll hk h8 hM
  refine W.drawY0 [0, 0, 2, 6, 15, 31] [0, 2] [.s [14] (some 0) [] [], .q 1 [] [1], .s [16] (some 1) [] [], .q 1 [1] []] (fun B => Hp.set o (pmO L (if B 1 = true then j else x.2))) (fun B => if B 0 = true then [.cells 23 [.slice false 5 (x.1.map F5)], .cells 60 [A4 0, A4 0]] else [.cells 23 [.slice true 5 (x.1.map F5)], .cells 60 [A4 0, A4 0]]) Ad (by kernel_rfl) rfl rfl (fun B => by simp) ?_
  refine Y.loadOwnT (u := Hp.length) (n := 0) (t' := 23) (cs := [.slice true 5 (x.1.map F5)]) (cs' := [.slice false 5 (x.1.map F5)]) Tryz.isAgg23 (fun B hB => ⟨by simp, by simp only [hB]; rfl, by simp only [hB]; rfl, rfl⟩) ?_
  apply Y.q
  case h1 =>
   intro B hT hF
   exact Z80
  case hTF => decide
  refine Y.callUp (r := F5 m) (o := o) (x0 := pmO L x.2) (x := pmO L j) Tryz.call90 (fun B hB1 hB2 hB => ⟨by simp only [hB]; exact getset ho, by simp only [hB]; exact (List.set_set ..).symm, rfl, An, ?_⟩) ?_
  ·simp only [hB]
   exact ((c90 L x.2 o _ (A6 (getset ho)) hx.lt hl hll).ok hM)
  apply Y.q
  case h1 =>
   intro B hT hF
   exact Z39
  case hTF => decide
  refine Y.tail (tn := [0, 2]) (U := Hp.set o (pmO L j)) (O := [.cells 23 [.slice false 5 (x.1.map F5)], .cells 60 [A4 0, A4 0]]) ?_
  refine R.append jU Tryz.type64 ?_ ?_ ?_
  ·simp [Tryz.t64]; have := hx.le; omega
  ·simp [Tryz.t64]; have := hx.le; omega
  refine R.storeOwnT jS ?_;refine R.fin [0, 2, 3] ?_;refine K.blN ?_
  refine K.lpN (x.1 ++ [m], j) hon.1 (by have := hx.lt; have := hon.2; show L.length - j < L.length - x.2; omega) (StCut.of_eq (by simp [List.map_append, show Tryz.t64.size = 5 from rfl]))
 have hk : ((A9 L x.2).kind != 0) = false := ht8
 have e := hx.out hk
 refine K9 ?_;refine Z47 ?_;refine Rm ?_;refine E3 ?_;refine af ?_;refine AW.ret ?_;exact KG.fin .ret (V.two (V.cell Tryz.isAgg23) (V.cellN Tryz.isAgg60 Tryz.sizeOf60)) (fun d => je hf2 hb2 d _ _ _) ⟨(Zm e).symm, x.2, rfl⟩ (hlow := by simpa using (Ju (n := Hp.length) (k := 5) (o := false) (l := x.1)))

theorem c62 (L : List Tok) (o : Nat) (Hp : List AObj) (ho : Hp[o]? = some (pmO L 0)) (hl : TokEnd L) (hll : L.length ≤ 500000) : ACall Tryz.prog 62 [.ptr o 0] Hp (fun r H' => r = L0 L ∧ ∃ i, H' = Hp.set o (pmO L i)) := by
 refine ACall.guarded (n := 21) (nc := 8) (a := 3) (b := 2) (os := [oid Hp.length 0, oid Hp.length 1]) (own0 := [.cells 23 [.nil], .cells 60 [A4 0, A4 0]]) (rs := [.cell 2 23, .cell 3 60])
  (fr0 := A5 0 (.ptr o 0) (A5 2 (.ptr (oid Hp.length 0) 0) (A5 3 (.ptr (oid Hp.length 1) 0) fun _ => .any))) (fr1 := A5 0 (.ptr o 0) (A5 2 (.ptr (oid Hp.length 0) 0) (A5 3 (.ptr (oid Hp.length 1) 0) (A5 4 (.fn (.func 87) [] [.ptr (oid Hp.length 0) 0, .ptr (oid Hp.length 1) 0]) fun _ => .any))))
  Tryz.func62 rfl rfl Tryz.ntmps62 (by simp) Tryz.func87 rfl Tryz.ntmps87 rfl (by simp) (by decide) (by decide) Tryz.call87 (fun d => ?_) (fun d => ?_) rfl (fun d l => ?_)
 ·refine AW.keep [0] (by simp only [go_sem, ↓reduceIte, Nat.reduceEqDiff, Nat.reduceAdd] <;> rfl) ?_
  refine Hh ?_;refine Iy ?_;refine Iy ?_;refine R.fin [0, 2, 3] ?_;exact ⟨rfl, rfl⟩
 ·refine Ik ?_;refine R.fin [0, 2, 3, 4] ?_
  rfl
 exact @jg { b := ErrAt.b, bd := d + 1, bl := l } _ _ _ _ _ _ _ Tryz.func62 rfl Tryz.func87 rfl L o Hp ho hl hll d
theorem jh {s : Str} (h : ((Dl s).2.1 != 0) = true) : Va s = ([], (Dl s).2.1, ((Dl s).2.2 : Int)) := if_pos h
theorem mm {s : Str} (h : ((Dl s).2.1 != 0) = false) : Va s = I8 (Dl s).1 := by
 unfold Va I8
 rw [if_neg (by rw [h]; simp)]
 cases Gl (Dl s).1 <;> rfl
theorem c33 (s : Str) (hs : s.length ≤ 1048576) (Hp : List AObj) : AFun Tryz.prog 33 [Aa s] Hp (.tup [De (Va s).1, .agg [A4 (Va s).2.1, A4 (Va s).2.2]]) := by
 refine ACall.body [.tmp 2, .cell 3 60] [0] Tryz.func33 Tryz.ntmps33 (fun d => ?_)
 refine Z3 ?_;refine Iy ?_;refine Kb ?_;refine Z0 ?_;refine R.call Tryz.call61 (c61 s hs _) ?_;refine Z52 ?_;refine Xi ?_;refine R.fin [3, 4, 5] ?_;refine Z15 ?_;refine R.fieldAddrPtr (fo := 0) jU Tryz.sizeOf27 ?_;refine Fb ?_;refine R.neq ?_;refine R.fin [3, 4, 5, 13] ?_
 refine W.cond (fun ht13 => ?_) (fun ht13 => ?_)
 ·have e := jh ht13
  refine W.draw [0, 0, 3] 2 Ad (by kernel_rfl) ?_;refine D.loadOwnN jA jS ?_;refine aq ?_;refine R.wk 2 (De []) (.nil false 5) ?_;refine af ?_;refine Z24 ?_;exact K.fin (V.two V.tmp (V.cellN jA jS)) ⟨by rw [e] <;> rfl, rfl⟩
 have hz : (Dl s).2.1 = 0 := by simpa using ht13
 have hle := i6 hz
 have hlen := io hz
 have e := mm ht13
 refine Ka ?_;refine Rm ?_;refine R.box ?_
 refine R.callEx (fun _ => Hp) (fun i => [.cells 60 [A4 0, A4 0], .cells 60 [A4 (Dl s).2.1, A4 ((Dl s).2.2 : Nat)], pmO (Dl s).1 i]) Tryz.call62 ((c62 (Dl s).1 (oid Hp.length 2) _ (by rw [Ak]; rfl) hle (by omega)).mono (fun r H' ⟨e, i, h⟩ => ⟨e, i, h.trans (by rw [D0]; rfl)⟩)) (fun _ => rfl) (fun _ h => h) (fun i => ?_)
 refine Z17 ?_;refine mq ?_;refine Ge ?_;refine AW.ret ?_;exact K.fin (V.two V.tmp (V.cellN jA jS)) ⟨by rw [e], rfl⟩ (hlow := by simpa using (Ju (n := Hp.length) (k := 5) (o := false) (l := (I8 (Dl s).1).1)))

/-! How long plan.Text's pieces are. -/
section
variable {O X U : List AObj} {i : Nat} {b y : AObj}
end
/-- Moves whose numbers are ones of 64 bits. -/
structure RngMv (m : Mov) : Prop where
 ahead : ∀ e ∈ m.ahead, Gw Qp e = true
 back : ∀ e ∈ m.back, Gw Qp e = true
theorem Ta {l : List Expr} (h20 : l.length ≤ 1048576) (h : l.any N4 = false) (hr : ∀ e ∈ l, Gw Qp e = true) : OkEs l := by
 have h1 : ∀ e ∈ l, Slim e := fun e he => gn (by
  rw [List.any_eq_false] at h
  simpa using h e he)
 exact ⟨h20, fun e he => (h1 e he).ok, fun e he => by have := (h1 e he).size; omega, hr⟩
theorem Po {m : Mov} (h : G5 m = false) (hr : RngMv m) : OkMov m := by
 unfold G5 at h
 simp only [Bool.or_eq_false_iff, decide_eq_false_iff_not] at h
 obtain ⟨⟨⟨⟨⟨⟨h1, h2⟩, h3⟩, h4⟩, h5⟩, h6⟩, h7⟩ := h
 have h50 : m.give.length ≤ 1000000 := by
  unfold E1 at h1
  simp only [Bool.or_eq_false_iff, decide_eq_false_iff_not] at h1
  omega
 refine ⟨by omega, fun s hs => ?_, Vz h1, h50, Ta (by omega) h6 hr.ahead, Ta (by omega) h7 hr.back⟩
 rw [List.any_eq_false] at h5
 have := h5 s hs
 simp only [decide_eq_true_eq] at this
 omega
theorem Pp {l : List Mov} (h : Dn l = false) (hr : ∀ m ∈ l, RngMv m) : OkMovs l := by
 unfold Dn at h
 simp only [Bool.or_eq_false_iff, decide_eq_false_iff_not] at h
 refine ⟨by omega, fun m hm => Po ?_ (hr m hm)⟩
 rw [List.any_eq_false] at h
 simpa using h.2 m hm
def snS : Str := [97, 100, 100, 32, 120, 32, 105, 110, 116, 32, 61, 32, 97, 59]
def snM : Mov := ⟨1, [], [⟨[120], 1⟩], [Cr [97]], []⟩
theorem eb : Va snS = ([snM], 0, 0) := by kernel_rfl
theorem Zn : Hb [⟨[97], 1⟩] [snM] = (1, 0) := by kernel_rfl
theorem Zo : Hb [⟨[97], 2⟩] [snM] = (0, 10) := by kernel_rfl
theorem jv : OkMovs [snM] := by
 refine ⟨by decide, fun m hm => ?_⟩
 rw [List.mem_singleton.1 hm]
 exact Po (by decide) ⟨fun e he => by rw [List.mem_singleton.1 he]; rfl, fun e he => by cases he⟩
theorem Wr (k : Int) : OkCols [⟨[97], k⟩] := ⟨by simp, fun y hy => by rw [List.mem_singleton.1 hy]; simp⟩
theorem c8 (Hp : List AObj) : AFun Tryz.prog 8 [] Hp (Ar true) := by
 refine ACall.body [.tmp 0] [] Tryz.func8 Tryz.ntmps8 (fun d => ?_)
 refine Z3 ?_;refine R.fin [] ?_;refine B8 ?_;refine R.call Tryz.call33 (c33 snS (by decide) _) ?_
 rw [eb]
 refine Z52 ?_;refine Xi ?_;refine R.fin [1, 2] ?_;refine kb ?_;refine R.buildSl jU jS jZ ?_;refine Av ?_;refine R.call Tryz.call13 (c13 [⟨[97], 1⟩] (Wr 1) (by decide) [snM] jv _) ?_
 rw [Zn]
 refine Z94 ?_;refine R.fin [1, 2, 3, 4] ?_;refine kb ?_;refine R.buildSl jU jS jZ ?_;refine Av ?_;refine R.call Tryz.call13 (c13 [⟨[97], 2⟩] (Wr 2) (by decide) [snM] jv _) ?_
 rw [Zo]
 refine Z94 ?_;refine R.fin [2, 3, 4, 6] ?_;refine B8 ?_;refine R.fieldAddrPtr (fo := 0) jU Tryz.sizeOf27 ?_;refine Fb ?_;refine Tv ?_;refine Z49 ?_;refine Z13 ?_;refine Z49 ?_;refine Z13 ?_;refine Z49 ?_;refine Bg ?_;refine R.fin [0] ?_;refine AW.ret ?_;exact K.fin (V.one V.tmp) ⟨by rfl, rfl⟩

theorem ec {c : List Col} (h : E1 c = false) : c.length ≤ 1000000 := by
 unfold E1 at h
 simp only [Bool.or_eq_false_iff, decide_eq_false_iff_not] at h
 omega
theorem Tb {l : List Mov} (h : Dn l = false) : l.length ≤ 12 := by
 unfold Dn at h
 simp only [Bool.or_eq_false_iff, decide_eq_false_iff_not] at h
 omega
theorem c3 (c : List Col) (a b : List Mov) (hra : ∀ m ∈ a, RngMv m) (hrb : ∀ m ∈ b, RngMv m) (Hp : List AObj) : AFun Tryz.prog 3 [Af c, De a, De b] Hp (Ar true) := by
 refine ACall.body [.tmp 6] [0, 1, 2] Tryz.func3 Tryz.ntmps3 (fun d => ?_)
 refine Z3 ?_;refine R.fin [0, 1, 2] ?_;refine Z15 ?_;refine R.call Tryz.call8 (c8 _) ?_;refine R.not ?_;refine R.fin [0, 1, 2, 15] ?_
 refine W.cond (fun ht15 => ?_) (fun ht15 => ?_)
 ·cases ht15
 refine Z6 ?_;refine Z11 ?_;refine R.call Tryz.call9 (r9 c _) ?_;refine Z13 ?_;refine G.call Tryz.call10 (fun hB => c10 a _) ?_;refine Fw ?_;refine Z13 ?_;refine G.call Tryz.call10 (fun hB => c10 b _) ?_;refine Fw ?_;refine R.fin [0, 1, 2, 25] ?_
 refine W.cond (fun ht25 => ?_) (fun ht25 => ?_)
 ·refine Z3 ?_;refine Tu ?_;exact av
 have hw : E1 c = false ∧ Dn a = false ∧ Dn b = false := by simp only [Bool.or_eq_false_iff] at ht25; exact ⟨ht25.1.1, ht25.1.2, ht25.2⟩
 have hc := Vz hw.1
 have hc2 : c.length ≤ 1000000 := ec hw.1
 have ha : OkMovs a := Pp hw.2.1 hra
 have hb : OkMovs b := Pp hw.2.2 hrb
 have hd := Ph hc ha
 have hl12 : a.length ≤ 12 ∧ b.length ≤ 12 := ⟨Tb hw.2.1, Tb hw.2.2⟩
 have hab : OkMovs (a ++ b) := ⟨by simp; omega, fun m hm => by rcases List.mem_append.1 hm with h | h; exact ha.each m h; exact hb.each m h⟩
 have hx : (C2 (C2 c a).1 b).1.length ≤ 1048576 := by have := (Ph hd.1 hb).2; omega
 refine U0 ?_;refine R.call Tryz.call11 (c11 c hc hc2 a ha _) ?_;refine Z94 ?_;refine R.fin [0, 1, 2, 7, 8] ?_;refine Z27 ?_;refine R.call Tryz.call11 (c11 (C2 c a).1 hd.1 hd.2 b hb _) ?_;refine Z94 ?_;refine R.fin [0, 1, 2, 8, 9, 10] ?_;refine B8 ?_;refine Hi ?_;refine Av ?_
 refine R.append jU Tryz.type64 ?_ ?_ ?_
 ·simp [Tryz.t64]; omega
 ·simp [Tryz.t64]; omega
 refine Av ?_
 refine R.append jU Tryz.type64 ?_ ?_ ?_
 ·simp [Tryz.t64]; omega
 ·simp [Tryz.t64]; omega
 refine R.assignT ?_;refine R.fin [0, 8, 9, 10, 11] ?_;refine B8 ?_
 rw [show Tryz.t64.size = 5 from rfl, ← List.map_append]
 refine Z53 ?_;refine R.call Tryz.call11 (c11 c hc hc2 (a ++ b) hab _) ?_;refine Z94 ?_;refine R.fin [8, 9, 10, 11, 12, 13] ?_;refine Rl ?_;refine R.fin [9, 10, 11, 12, 13, 50] ?_
 refine W.cond (fun ht50 => ?_) (fun ht50 => ?_)
 ·refine Z3 ?_;refine Tu ?_;exact av
 have he : (C2 c a).2 = 0 := by simpa using ht50
 refine Z6 ?_;refine Xq ?_;refine R.fin [9, 10, 12, 13, 53] ?_
 refine W.cond (fun ht53 => ?_) (fun ht53 => ?_)
 ·have h8 : 8 < (a ++ b).length := by simp at ht53 ⊢; omega
  have hj := V9 (c := c) h8
  refine Z0 ?_;refine Z20 ?_;refine Tu ?_;exact K.fin (V.one V.tmp) ⟨by rw [hj]; rfl, rfl⟩
 have h8 : (a ++ b).length ≤ 8 := by simp at ht53 ⊢; omega
 have hj := Za he h8
 refine U0 ?_;refine R.eql ?_;refine Z93 ?_;refine G.call Tryz.call12 (fun hB => c12 (C2 (C2 c a).1 b).1 (C2 c (a ++ b)).1 hx _) ?_;refine G8 ?_;refine Bg ?_;refine Z71 ?_;exact K.fin (V.one V.tmp) ⟨by rw [hj]; simp, rfl⟩

end Go.SX.Nb
