/- Texts on the way to this: SoundTells answers true for whatever it is handed: which move is the first that is not sound and why, the columns behind it, and what is lost, are as the reference tells. (part 10) -/
import Derived.Test.YtepoiomaocjhfaaGreatDoorSoundTellsCardSaidPart9
set_option linter.all false
namespace Go.SX.Nb
open Go Go.SX Go.Proofs
variable [ErrAt]
set_option maxRecDepth 4000
abbrev pmO (L : List Tok) (i : Nat) : AObj := .cells 96 [Yg L, A2 (i : Int)]
abbrev mvC (m : Mov) : List AV := [A2 m.kind, .slice true 1 (m.take.map A6), .slice true 2 (m.give.map Ag), .slice true 6 (m.ahead.map A4), .slice true 6 (m.back.map A4)]
abbrev mvO (m : Mov) : AObj := .cells 64 (mvC m)
abbrev Y1 (e a : Int) : Value := .iface 60 (.agg [Value.int .i64 e, Value.int .i64 a].toArray)
abbrev Jn : AV := .v (.tuple #[])
theorem Aq {n : Nat} {L : List Tok} {i : Nat} : ObjLow n (pmO L i) := by
 show ∀ y ∈ [AV.slice false 3 (L.map Fw), A2 (i : Int)], Low n y
 intro y hy
 simp only [List.mem_cons, List.not_mem_nil, or_false] at hy
 rcases hy with rfl | rfl
 ·simp [or_imp, forall_and]
 simp
/-- A contract of the parser: it comes to what the model comes to, or the model's fault is Ec. -/
def CP (g : FuncId) (args : List AV) (H : List AObj) {α : Type} (X : PR α) (Q : α → Nat → AV → List AObj → Prop) (R : List AObj → Prop) : Prop :=
 ACallP Tryz.prog g args H (fun r H' => ∃ c j, X = .ok c j ∧ Q c j r H') (fun v H' => ∃ e a, X = .bad e a ∧ v = Y1 e a ∧ R H')
theorem CP.ok {g : FuncId} {args : List AV} {H : List AObj} {α : Type} {X : PR α} {Q : α → Nat → AV → List AObj → Prop} {R : List AObj → Prop} {c : α} {j : Nat} (h : CP g args H X Q R) (hX : X = .ok c j) : ACall Tryz.prog g args H (fun r H' => Q c j r H') :=
 ACall.ofP (h.mono (fun r H' ⟨c', j', e, hq⟩ => by rw [hX] at e; injection e with e1 e2; subst e1; subst e2; exact hq) (fun v H' ⟨e, a, he, _⟩ => by rw [hX] at he; cases he))
theorem CP.bad {g : FuncId} {args : List AV} {H : List AObj} {α : Type} {X : PR α} {Q : α → Nat → AV → List AObj → Prop} {R : List AObj → Prop} {e a : Int} (h : CP g args H X Q R) (hX : X = .bad e a) : ACallP Tryz.prog g args H (fun _ _ => False) (fun v H' => v = Y1 e a ∧ R H') :=
 h.mono (fun r H' ⟨c', j', he, hq⟩ => by rw [hX] at he; cases he) (fun v H' ⟨e', a', he, hv, hR⟩ => by rw [hX] at he; injection he with e1 e2; subst e1; subst e2; exact ⟨hv, hR⟩)
/-- The parser's object alone has turned. -/
def W1 (L : List Tok) (o : Nat) (Hp H' : List AObj) : Prop := ∃ j, H' = Hp.set o (pmO L j)
theorem W1.refl {L : List Tok} {o i : Nat} {Hp : List AObj} (ho : Hp[o]? = some (pmO L i)) : W1 L o Hp Hp := ⟨i, (Du ho).symm⟩
theorem c88 (L : List Tok) (i o : Nat) (Hp : List AObj) (ho : Hp[o]? = some (pmO L i)) (hi : i < L.length) : AFun Tryz.prog 88 [.ptr o 0] Hp (Fw (A7 L i)) := by
 refine ACall.body [.cell 2 125] [0] Tryz.func88 Tryz.ntmps88 (fun d => ?_)
 refine t7 ?_;refine Z55 ?_
 refine D.gw (h := Q.loadUp ho) (hr := ?_)
 refine Z55 ?_
 refine D.gw (h := Q.loadUp ho) (hr := ?_)
 refine D.tail ?_
 refine R.gw (h := Q.indexAddr (i) (Fw (A7 L i)) (fun _ => Lv hi)) (hr := ?_)
 refine R.go ?_;exact kv

theorem c89 (L : List Tok) (i o : Nat) (e : Int) (Hp : List AObj) (ho : Hp[o]? = some (pmO L i)) (hi : i < L.length) : ACallP Tryz.prog 89 [.ptr o 0, A2 e] Hp (fun _ _ => False) (fun v H' => v = Y1 e (A7 L i).at_ ∧ H' = Hp) := by
 refine ACallP.body [] [0, 1] Tryz.func89 Tryz.ntmps89 (fun d => ?_)
 refine W.drawY0 [0, 0, 2, 6, 14, 0, 32, 96, 224, 510, 1022, 2046, 4095, 8191, 16383] [14] [.q 14 [] [], .s [] (some 0) [] []] (fun _ => Hp) (fun B => [] ++ bot (B 0)) Aa (by kernel_rfl) rfl rfl (fun _ => rfl) ?_
 apply Y.q
 case h1 =>
  intro B hT hF
  refine Ki ?_
  refine D.gw (h := Q.loadUp ho) (hr := ?_)
  refine Z55 ?_
  refine D.gw (h := Q.loadUp ho) (hr := ?_)
  refine D.gw (h := Q.indexAddr (i) (Fw (A7 L i)) (fun _ => Lv hi)) (hr := ?_)
  refine Z14 ?_;refine D.build (places := #[(0, 1), (1, 1)]) jU (fun w => by simp) jZ ?_;refine D.makeIface (.of jU) ?_;exact Km
 case hTF => decide
 refine Y.panic (vs := [.int .i64 e, .int .i64 ((A7 L i).at_ : Int)]) (fun B hB f => ?_) ?_
 ·exact K.finPP ⟨rfl, rfl⟩
 exact lf

theorem vl (L : List Tok) (s : Str) (i o : Nat) (Hp : List AObj) (ho : Hp[o]? = some (pmO L i)) (hi : i < L.length) : AFun Tryz.prog 162 [.ptr o 0, A6 s] Hp (Aj (isP L s i)) := by
 refine ACall.body [.tmp 4] [0, 1] Tryz.func162 Tryz.ntmps162 (fun d => ?_)
 refine Z52 ?_;refine pm ?_;refine Z21 ?_;refine R.fin [1, 5] ?_;refine Tw ?_;refine Z62 ?_;exact fp

/-! Where the parser of moves comes to. -/
def PR.In {α : Type} (x : PR α) (i n : Nat) : Prop := ∀ r j, x = .ok r j → i < j ∧ j < n
theorem PR.bind_ok {α β : Type} {x : PR α} {f : α → Nat → PR β} {r : β} {j : Nat} (h : x.bind f = .ok r j) : ∃ a k, x = .ok a k ∧ f a k = .ok r j := by
 cases x with
 | ok a k => exact ⟨a, k, rfl, h⟩
 | bad e a => cases h
theorem nr {L : List Tok} {s : Str} {i : Nat} (h : isP L s i = true) : (A7 L i).kind ≠ 0 := by
 unfold isP at h
 simp only [Bool.and_eq_true, Bool.or_eq_true, beq_iff_eq] at h
 rcases h.1 with h | h <;> rw [h] <;> decide
theorem Dr {L : List Tok} (hl : TokEnd L) {s : Str} {i : Nat} (hi : i < L.length) : (Bf L s i).In i L.length := by
 intro r j h
 unfold Bf at h
 split at h
 ·rename_i h1
  injection h with _ h
  subst h
  exact ⟨Nat.lt_succ_self i, hl.step hi (nr h1)⟩
 cases h
theorem Ew {L : List Tok} (hl : TokEnd L) {i : Nat} (hi : i < L.length) : (E8 L i).In i L.length := by
 intro r j h
 unfold E8 at h
 split at h
 ·cases h
 rename_i h1
 injection h with _ h
 subst h
 have hk : (A7 L i).kind = 1 := by simpa using h1
 exact u7
theorem nt {L : List Tok} (hl : TokEnd L) {nm : Str} {i : Nat} (hi : i < L.length) : (Zi L nm i).In i L.length := by
 intro r j h
 unfold Zi at h
 split at h
 ·cases h
 rename_i h1
 injection h with _ h
 subst h
 have hk : (A7 L i).kind = 2 := by simp only [Bool.not_eq_true, Bool.or_eq_false_iff, bne_eq_false_iff_eq] at h1; exact h1.1
 exact u7
theorem Rg {L : List Tok} (hl : TokEnd L) {i : Nat} (hi : i < L.length) : (Fy L i).In i L.length := by
 intro r j h
 obtain ⟨a, k, h1, h2⟩ := PR.bind_ok h
 obtain ⟨a1, a2⟩ := Ew hl hi _ _ h1
 obtain ⟨b1, b2⟩ := nt hl a2 _ _ h2
 exact ⟨by omega, b2⟩
theorem L7 {L : List Tok} (hl : TokEnd L) (hll : L.length ≤ 500000) {i : Nat} (hi : i < L.length) {x : Expr} {k : Nat} (h : Hv L i = .ok x k) : i ≤ k ∧ k < L.length := by
 unfold Hv at h
 split at h
 ·cases h
 rename_i h0
 injection h with _ h
 subst h
 have h0 : (atM L i).2.2.1 = 0 := by simpa using h0
 have hq := P2 hl (by omega : L.length ≤ 1048576) hi
 unfold atM at h0 ⊢
 split at h0
 ·rename_i h1
  have : (atS L i (atR L i)).code = 0 := h0
  rw [this] at h1
  cases h1
 rename_i h1
 rw [if_neg h1]
 have e : (atS L i (atR L i)).i = (atR L i).2.i := by
  unfold atS
  repeat' split
  all_goals first | rfl | exact failM_i.1
 show i ≤ ((atS L i (atR L i)).i : Int).toNat ∧ ((atS L i (atR L i)).i : Int).toNat < _
 rw [Int.toNat_natCast, e]
 exact ⟨hq.le, hq.lt⟩
/-- A move has no more parts than so many. -/
structure MvLe (m : Mov) (n : Nat) : Prop where
 take : m.take.length ≤ n
 give : m.give.length ≤ n
 ahead : m.ahead.length ≤ n
 back : m.back.length ≤ n
theorem MvLe.mono {m : Mov} {i j : Nat} (h : MvLe m i) (hij : i ≤ j) : MvLe m j := ⟨Nat.le_trans h.take hij, Nat.le_trans h.give hij, Nat.le_trans h.ahead hij, Nat.le_trans h.back hij⟩
/-- What a part of a move comes to. -/
def ri (x : PR Mov) (i n : Nat) : Prop := ∀ m j, x = .ok m j → i ≤ j ∧ j < n ∧ MvLe m (2 * j)
/-- A part of a move that goes on from i. -/
def Py (L : List Tok) (one : Mov → Nat → PR Mov) : Prop := ∀ m i, MvLe m (2 * i - 1) → 0 < i → i < L.length → ri (one m i) i L.length
theorem G6 {L : List Tok} (hl : TokEnd L) (hll : L.length ≤ 500000) : Py L (Cl L) := by
 intro m i hm _ hi m' k h
 obtain ⟨c, j, h1, h2⟩ := PR.bind_ok h
 obtain ⟨u, j2, h3, h4⟩ := PR.bind_ok h2
 obtain ⟨x, j3, h5, h6⟩ := PR.bind_ok h4
 injection h6 with h6 h7
 subst h6; subst h7
 have a1 := Rg hl hi _ _ h1
 have a2 := Dr hl a1.2 _ _ h3
 have a3 := L7 hl hll a2.2 h5
 obtain ⟨b1, b2, b3, b4⟩ := hm
 exact ⟨by omega, a3.2, by show m.take.length ≤ _; omega, by show (m.give ++ [c]).length ≤ _; rw [List.length_append, List.length_singleton]; omega, by show (m.ahead ++ [x]).length ≤ _; rw [List.length_append, List.length_singleton]; omega, by show m.back.length ≤ _; omega⟩
theorem Pe {L : List Tok} (hl : TokEnd L) (hll : L.length ≤ 500000) : Py L (L6 L) := by
 intro m i hm h0 hi m' k h
 obtain ⟨x, j, h1, h2⟩ := PR.bind_ok h
 injection h2 with h6 h7
 subst h6; subst h7
 have a3 := L7 hl hll hi h1
 obtain ⟨b1, b2, b3, b4⟩ := hm
 exact ⟨by omega, a3.2, by show m.take.length ≤ _; omega, by show m.give.length ≤ _; omega, by show m.ahead.length ≤ _; omega, by show (m.back ++ [x]).length ≤ _; rw [List.length_append, List.length_singleton]; omega⟩
theorem L8 {L : List Tok} (hl : TokEnd L) : Py L (Jm L) := by
 intro m i hm _ hi m' k h
 obtain ⟨s, j, h1, h2⟩ := PR.bind_ok h
 injection h2 with h6 h7
 subst h6; subst h7
 have a1 := Ew hl hi _ _ h1
 obtain ⟨b1, b2, b3, b4⟩ := hm
 exact ⟨by omega, a1.2, by show (m.take ++ [s]).length ≤ _; rw [List.length_append, List.length_singleton]; omega, by show m.give.length ≤ _; omega, by show m.ahead.length ≤ _; omega, by show m.back.length ≤ _; omega⟩
theorem Hs {L : List Tok} {s : Str} {i : Nat} {u : Unit} {j : Nat} (h : Bf L s i = .ok u j) : j = i + 1 := by
 unfold Bf at h
 split at h
 ·injection h with _ h; exact h.symm
 cases h
theorem Vl {L : List Tok} (hl : TokEnd L) {n : Int} {one : Mov → Nat → PR Mov} (hP : Py L one) : ∀ (f k : Nat) (m : Mov) (i : Nat), MvLe m (2 * i) → 0 < i → i < L.length → ri (L5 L n one f k m i) i L.length
 | 0, k, m, i, hm, h0, hi => fun m' j h => by
  injection h with h1 h2
  subst h1; subst h2
  exact ⟨Nat.le_refl _, hi, hm⟩
 | f + 1, k, m, i, hm, h0, hi => fun m' j h => by
  rw [L5] at h
  split at h
  ·obtain ⟨u, j1, h1, h2⟩ := PR.bind_ok h
   obtain ⟨m1, j2, h3, h4⟩ := PR.bind_ok h2
   have e := Hs h1
   have a1 := Dr hl hi _ _ h1
   obtain ⟨b1, b2, b3⟩ := hP m j1 (hm.mono (by omega)) (by omega) a1.2 _ _ h3
   obtain ⟨c1, c2, c3⟩ := Vl hl hP f (k + 1) m1 j2 b3 (by omega) b2 _ _ h4
   exact Wi
  injection h with h1 h2
  subst h1; subst h2
  exact ⟨Nat.le_refl _, hi, hm⟩
theorem L9 {L : List Tok} (hl : TokEnd L) {n : Int} {one : Mov → Nat → PR Mov} (hP : Py L one) : Py L (Eu L n one) := by
 intro m i hm h0 hi m' k h
 obtain ⟨m1, j, h1, h2⟩ := PR.bind_ok h
 obtain ⟨b1, b2, b3⟩ := hP m i hm h0 hi _ _ h1
 obtain ⟨c1, c2, c3⟩ := Vl hl hP _ _ m1 j b3 (by omega) b2 _ _ h2
 exact Wi
theorem Ni {L : List Tok} (hl : TokEnd L) (hll : L.length ≤ 500000) {m : Mov} {i : Nat} (hm : MvLe m (2 * i)) (hi : i < L.length) : ri (De L m i) i L.length := by
 intro m' k h
 obtain ⟨u, j, h1, h2⟩ := PR.bind_ok h
 have e := Hs h1
 have a1 := Dr hl hi _ _ h1
 obtain ⟨c1, c2, c3⟩ := L9 hl (Pe hl hll) m j (hm.mono (by omega)) (by omega) a1.2 _ _ h2
 exact Wi
theorem di {L : List Tok} (hl : TokEnd L) : Py L (Fz L) := by
 intro m i hm h0 hi m' k h
 obtain ⟨s, j, h1, h2⟩ := PR.bind_ok h
 obtain ⟨u, j2, h3, h4⟩ := PR.bind_ok h2
 obtain ⟨t, j3, h5, h6⟩ := PR.bind_ok h4
 injection h6 with h6 h7
 subst h6; subst h7
 have a1 := Ew hl hi _ _ h1
 have a2 := Dr hl a1.2 _ _ h3
 have a3 := Ew hl a2.2 _ _ h5
 exact ⟨by omega, a3.2, by show 1 ≤ _; omega, by show 1 ≤ _; omega, by show 1 ≤ _; omega, by show 1 ≤ _; omega⟩
theorem MvLe.takeS {m : Mov} {n : Nat} (h : MvLe m n) {s : Str} (h1 : 1 ≤ n) : MvLe (takeS m s) n := ⟨h1, h.give, h.ahead, h.back⟩
theorem Zn {L : List Tok} (hl : TokEnd L) (hll : L.length ≤ 500000) : Py L (Ev L) := by
 intro m i hm h0 hi m' k h
 unfold Ev at h
 split at h
 ·exact G6 hl hll m i hm h0 hi _ _ h
 split at h
 ·obtain ⟨s, j, h1, h2⟩ := PR.bind_ok h
  have a1 := Ew hl hi _ _ h1
  obtain ⟨c1, c2, c3⟩ := Ni hl hll ((hm.mono (by omega : 2 * i - 1 ≤ 2 * j)).takeS (by omega)) a1.2 _ _ h2
  exact Wi
 split at h
 ·exact di hl m i hm h0 hi _ _ h
 split at h
 ·obtain ⟨s, j, h1, h2⟩ := PR.bind_ok h
  obtain ⟨u, j2, h3, h4⟩ := PR.bind_ok h2
  obtain ⟨m1, j3, h5, h6⟩ := PR.bind_ok h4
  have a1 := Ew hl hi _ _ h1
  have a2 := Dr hl a1.2 _ _ h3
  obtain ⟨b1, b2, b3⟩ := L9 hl (G6 hl hll) (takeS m s) j2 ((hm.mono (by omega : 2 * i - 1 ≤ 2 * j2 - 1)).takeS (by omega)) (by omega) a2.2 _ _ h5
  obtain ⟨c1, c2, c3⟩ := Ni hl hll b3 b2 _ _ h6
  exact Wi
 split at h
 ·obtain ⟨m1, j, h1, h2⟩ := PR.bind_ok h
  obtain ⟨u, j2, h3, h4⟩ := PR.bind_ok h2
  obtain ⟨m2, j3, h5, h6⟩ := PR.bind_ok h4
  obtain ⟨b1, b2, b3⟩ := L9 hl (L8 hl) m i hm h0 hi _ _ h1
  have e := Hs h3
  have a2 := Dr hl b2 _ _ h3
  obtain ⟨d1, d2, d3⟩ := G6 hl hll m1 j2 (b3.mono (by omega)) (by omega) a2.2 _ _ h5
  obtain ⟨c1, c2, c3⟩ := Ni hl hll d3 d2 _ _ h6
  exact Wi
 split at h
 ·obtain ⟨m1, j, h1, h2⟩ := PR.bind_ok h
  obtain ⟨d1, d2, d3⟩ := G6 hl hll m i hm h0 hi _ _ h1
  obtain ⟨c1, c2, c3⟩ := Ni hl hll (d3.takeS (by omega)) d2 _ _ h2
  exact Wi
 injection h with h1 h2
 subst h1; subst h2
 exact ⟨Nat.le_refl _, hi, hm.mono (by omega)⟩
theorem La (L : List Tok) (s : Str) (i o : Nat) (Hp : List AObj) (ho : Hp[o]? = some (pmO L i)) (hi : i < L.length) (hll : L.length ≤ 500000) : CP 123 [.ptr o 0, A6 s] Hp (Bf L s i) (fun _ j r H' => r = Jn ∧ H' = Hp.set o (pmO L j)) (W1 L o Hp) := by
 refine ACallP.body [] [0, 1] Tryz.func123 Tryz.ntmps123 (fun d => ?_)
 refine Z8 ?_;refine R.call Tryz.call162 (vl L s i o _ (A5 ho) hi) ?_;refine R.go ?_;refine R.fin [0, 7] ?_
 refine W.cond (fun ht7 => ?_) (fun ht7 => ?_)
 ·have hq : isP L s i = false := by simpa using ht7
  have e : Bf L s i = .bad 8 (A7 L i).at_ := if_neg (by rw [hq]; simp)
  refine AW.regionK ?_
  refine ARunK.one (R.go (ARun.nil ?_))
  refine q9 ?_
  rintro x U O hU hl' ⟨rfl, hH⟩
  obtain ⟨rfl, rfl⟩ := G5 hU hH
  refine ⟨fun h => h, fun o h => (by cases h), ?_⟩
  exact ku
 have hq : isP L s i = true := by simpa using ht7
 have e : Bf L s i = .ok () (i + 1) := if_pos hq
 refine Z5 ?_;refine Z30 ?_
 refine R.gw (h := Q.loadUp ho) (hr := ?_)
 refine Z24 ?_
 refine R.storeUp jS ho ?_ ?_
 ·simp
 refine R.fin [] ?_;exact K.finPN .nores (hp := ⟨(), i + 1, e, rfl, rfl⟩)

theorem N6 (L : List Tok) (i o : Nat) (Hp : List AObj) (ho : Hp[o]? = some (pmO L i)) (hi : i < L.length) (hll : L.length ≤ 500000) : CP 156 [.ptr o 0] Hp (E8 L i) (fun s j r H' => r = A6 s ∧ H' = Hp.set o (pmO L j)) (W1 L o Hp) := by
 refine ACallP.body [.tmp 2] [0] Tryz.func156 Tryz.ntmps156 (fun d => ?_)
 refine Z40 ?_;refine pm ?_;refine Z21 ?_;refine Ib ?_;refine Z36 ?_;refine R.fin [0, 3, 8] ?_
 refine W.cond (fun ht8 => ?_) (fun ht8 => ?_)
 ·have e : E8 L i = .bad 8 (A7 L i).at_ := if_pos ht8
  refine AW.regionK ?_
  refine ARunK.one (R.go (ARun.nil ?_))
  refine q9 ?_
  rintro x U O hU hl' ⟨rfl, hH⟩
  obtain ⟨rfl, rfl⟩ := G5 hU hH
  refine ⟨fun h => h, fun o h => (by cases h), ?_⟩
  exact ku
 have e : E8 L i = .ok (A7 L i).text (i + 1) := if_neg (by rw [ht8]; simp)
 refine Z85 ?_
 refine R.gw (h := Q.loadUp ho) (hr := ?_)
 refine Z24 ?_
 refine R.storeUp jS ho ?_ ?_
 ·simp
 refine R.fin [3] ?_;refine Z20 ?_;refine Z3 ?_;exact K.finP (V.one V.tmp) (hp := ⟨_, i + 1, e, rfl, rfl⟩)

theorem getset {Hp : List AObj} {o : Nat} {A B : AObj} (h : Hp[o]? = some A) : (Hp.set o B)[o]? = some B := by
 have := (List.getElem?_eq_some_iff.1 h).1
 simp [this]
theorem W1.set {L : List Tok} {o i : Nat} {Hp : List AObj} : W1 L o Hp (Hp.set o (pmO L i)) := ⟨i, rfl⟩
theorem B0 {l : List AObj} {i : Nat} {x : AObj} (h : ∀ y ∈ l, ObjLow (l.set i x).length y) (hx : ∀ n, ObjLow n x) : ∀ y ∈ l.set i x, ObjLow (l.set i x).length y := D0 h (hx _)
theorem vm (L : List Tok) (i o : Nat) (Hp : List AObj) (ho : Hp[o]? = some (pmO L i)) (hi : i < L.length) (hl : TokEnd L) (hll : L.length ≤ 500000) : CP 177 [.ptr o 0] Hp (Fy L i) (fun c j r H' => r = Ag c ∧ H' = Hp.set o (pmO L j)) (W1 L o Hp) := by
 refine ACallP.body [.cell 2 58] [0] Tryz.func177 Tryz.ntmps177 (fun d => ?_)
 refine Z60 ?_
 rcases hN : E8 L i with ⟨s, j⟩ | ⟨e, a⟩
 rotate_left
 ·refine AW.seqRK ?_
  refine ARunK.one (R.go (ARun.nil ?_))
  refine RK.callBad Tryz.call156 ((N6 L i o _ (A5 ho) hi hll).bad hN) ?_
  rintro x U O hU hl' ⟨rfl, j', hH⟩
  obtain ⟨rfl, rfl⟩ := Az hU (List.getElem?_eq_some_iff.1 ho).1 hH
  refine ⟨fun h => B0 h (fun n => Aq), fun o h => (by cases h), ?_⟩
  refine K.thP ?_;exact K.finPP ⟨_, _, by unfold Fy; rw [hN]; rfl, rfl, j', rfl⟩
 have hj : j < L.length := (Ew hl hi _ _ hN).2
 have e0 : Fy L i = Zi L s j := by unfold Fy; rw [hN]; rfl
 refine Z2 ?_;refine R.callUp (x := pmO L j) Tryz.call156 ho (by simp) Aq ((N6 L i o _ (A5 ho) hi hll).ok hN) ?_;refine Tx ?_;refine Tq ?_;refine Z2 ?_;refine R.call Tryz.call88 (c88 L j o _ (A5 (getset ho)) hj) ?_;refine Z21 ?_;refine R.fin [0, 2, 3, 4] ?_;refine Z8 ?_;refine R.call Tryz.call198 (x9 (A7 L j).text _) ?_;refine rt ?_;refine R.fin [0, 2, 3, 4] ?_;refine Tw ?_;refine R.go ?_;refine R.fin [0, 2, 3, 21] ?_
 refine W.cond (fun ht21 => ?_) (fun ht21 => ?_)
 ·have e : Fy L i = .bad 8 (A7 L j).at_ := by rw [e0]; exact if_pos ht21
  refine AW.regionK ?_
  refine ARunK.one (R.go (ARun.nil ?_))
  refine RK.callBad Tryz.call89 (c89 L j o 8 _ (A5 (getset ho)) hj) ?_
  rintro x U O hU hl' ⟨rfl, hH⟩
  obtain ⟨rfl, rfl⟩ := G5 hU hH
  refine ⟨fun h => h, fun o h => (by cases h), ?_⟩
  refine K.thP ?_;exact K.finPP ⟨_, _, e, rfl, W1.set⟩
 have e : Fy L i = .ok ⟨s, Mo (A7 L j).text⟩ (j + 1) := by rw [e0]; exact if_neg (by rw [ht21]; simp)
 refine Z85 ?_
 refine R.gw (h := Q.loadUp (getset ho)) (hr := ?_)
 refine Z24 ?_
 refine R.storeUp jS (getset ho) ?_ ?_
 ·simp
 refine Fl ?_;refine Z2 ?_;refine Z13 ?_;exact K.finP (V.one (V.cellN jA jS)) (hp := ⟨_, j + 1, e, rfl, by rw [List.set_set]; rfl⟩)

theorem jx (L : List Tok) (i o : Nat) (Hp : List AObj) (ho : Hp[o]? = some (pmO L i)) (hi : i < L.length) (hl : TokEnd L) (hll : L.length ≤ 500000) : CP 178 [.ptr o 0] Hp (Hv L i) (fun c j r H' => r = A4 c ∧ H' = Hp.set o (pmO L j)) (W1 L o Hp) := by
 refine ACallP.body [.cell 2 45] [0] Tryz.func178 Tryz.ntmps178 (fun d => ?_)
 refine Z60 ?_;refine W.drawY [0, 1, 3, 7, 0, 16, 48, 112, 255, 511, 1023, 1023, 1023, 0, 0, 26623, 61439, 131071] [] [.q 13 [] [], .s [3] none [] [], .s [5] none [] [], .s [3] none [] [], .q 1 [] [], .s [5] none [] []] (fun _ => Hp) (fun _ => [.cells 45 [A2 0, A6 [], A2 0, A2 0, A6 [], .nil]]) Aa (by kernel_rfl) rfl rfl (fun _ => rfl) ?_
 apply Y.q
 case h1 =>
  intro B hT hF
  refine Z55 ?_
  refine D.gw (h := Q.loadUp ho) (hr := ?_)
  refine Z55 ?_
  refine D.gw (h := Q.loadUp ho) (hr := ?_)
  refine D.call Tryz.call199 (xt L i hi hl hll (fun n Dv h1 h2 => dd hl (by omega) n Dv h1 h2) _) ?_;exact fh
 case hTF => decide
 refine Y.allocP Tryz.zeroValue45 ?_;refine Y.allocP Tryz.zeroValue60 ?_;refine Y.storeP Tryz.sizeOf45 ?_
 apply Y.q
 case h1 =>
  intro B hT hF
  exact Z75
 case hTF => decide
 refine Y.storeP Tryz.sizeOf60 ?_;refine Y.tail (tn := [])  ?_;refine R.fin [0, 2, 3, 4, 5] ?_;refine Z36 ?_;refine R.fin [0, 2, 3, 4, 5, 21] ?_
 refine W.cond (fun ht21 => ?_) (fun ht21 => ?_)
 ·have e : Hv L i = .bad (atM L i).2.2.1 (atM L i).2.2.2 := if_pos ht21
  refine AW.regionK ?_
  refine ARunK.one (R.go (ARun.nil ?_))
  refine ARunK.one (R.makeIface (.of Tryz.underlying60) (ARun.nil ?_))
  refine RK.panic (vs := [.int .i64 (atM L i).2.2.1, .int .i64 (atM L i).2.2.2]) ?_;exact ku
 obtain ⟨k, hk, hkl⟩ := mv hl (by omega) hi (by simpa using ht21)
 have e : Hv L i = .ok (atM L i).1 k := (if_neg (by rw [ht21]; simp)).trans (by rw [hk]; rfl)
 rw [hk]
 refine Z5 ?_;refine Z45 ?_
 refine R.storeUp jS ho ?_ ?_
 ·simp
 refine Fl ?_;refine Z2 ?_;refine Z13 ?_;exact K.finP (V.one (V.cellN jA jS)) (hp := ⟨_, k, e, (Ab _).symm, rfl⟩) (hlow := by have := Ad Hp.length (atM L i).1; rw [Ab] at this; exact this)

/-- The parser's object and the move's, turned. -/
def U2 (L : List Tok) (Hp : List AObj) (o om i : Nat) (x : AObj) : List AObj := (Hp.set o (pmO L i)).set om x
theorem U2_len {L : List Tok} {Hp : List AObj} {o om i : Nat} {x : AObj} : (U2 L Hp o om i x).length = Hp.length := by simp [U2]
theorem By {L : List Tok} {Hp : List AObj} {o om i : Nat} {x z : AObj} (hm : Hp[om]? = some z) : (U2 L Hp o om i x)[om]? = some x := gB hm
theorem B1 {L : List Tok} {Hp : List AObj} {o om i : Nat} {x z : AObj} (ho : Hp[o]? = some z) (hne : om ≠ o) : (U2 L Hp o om i x)[o]? = some (pmO L i) := gA ho hne
theorem Be {L : List Tok} {Hp : List AObj} {o om i j : Nat} {x : AObj} (hne : om ≠ o) : (U2 L Hp o om i x).set o (pmO L j) = U2 L Hp o om j x := jv hne
theorem U2_setm {L : List Tok} {Hp : List AObj} {o om i : Nat} {x y : AObj} : (U2 L Hp o om i x).set om y = U2 L Hp o om i y := List.set_set ..
theorem Lc {L : List Tok} {Hp : List AObj} {o om i : Nat} {x : AObj} (ho : Hp[o]? = some (pmO L i)) (hm : Hp[om]? = some x) : U2 L Hp o om i x = Hp := by unfold U2; rw [Du ho, Du hm]
theorem Y2 {L : List Tok} {Hp : List AObj} {o om i : Nat} {x : AObj} (hne : om ≠ o) (hm : Hp[om]? = some x) : Hp.set o (pmO L i) = U2 L Hp o om i x := (Du (by rw [List.getElem?_set_ne (Ne.symm hne)]; exact hm)).symm
theorem Dm {L : List Tok} {Hp : List AObj} {o om i q : Nat} {x : AObj} (h1 : q ≠ o) (h2 : q ≠ om) : (U2 L Hp o om i x)[q]? = Hp[q]? := by unfold U2; rw [List.getElem?_set_ne (Ne.symm h2), List.getElem?_set_ne (Ne.symm h1)]
def W2 (L : List Tok) (o om : Nat) (Hp H' : List AObj) : Prop := ∃ j m, H' = U2 L Hp o om j (mvO m)
theorem Kb {n k : Nat} {o : Bool} {l : List Expr} {x : Expr} : Low n (.slice o k (l.map A4 ++ [.agg (C0 x)])) := by
 rw [show AV.agg (C0 x) = A4 x from (Ab x).symm]; exact Xw
theorem Bc {n : Nat} {m : Mov} : ObjLow n (mvO m) := by
 show ∀ y ∈ mvC m, Low n y
 intro y hy
 simp only [mvC, List.mem_cons, List.not_mem_nil, or_false] at hy
 rcases hy with rfl | rfl | rfl | rfl | rfl
 all_goals first | exact Cu | simp [or_imp, forall_and]
theorem dj {L : List Tok} {Hp : List AObj} {o om i : Nat} {m : Mov} {c : Col} {x : AObj} : (U2 L Hp o om i x).set om (.cells 64 [A2 m.kind, .slice true 1 (m.take.map A6), .slice true 2 (m.give.map Ag ++ [Ag c]), .slice true 6 (m.ahead.map A4), .slice true 6 (m.back.map A4)]) = U2 L Hp o om i (mvO (Bl m c)) := by
 rw [U2_setm]; simp only [mvO, mvC, Bl, List.map_append, List.map_cons, List.map_nil]
theorem dk {L : List Tok} {Hp : List AObj} {o om i : Nat} {m : Mov} {e : Expr} {x : AObj} : (U2 L Hp o om i x).set om (.cells 64 [A2 m.kind, .slice true 1 (m.take.map A6), .slice true 2 (m.give.map Ag), .slice true 6 (m.ahead.map A4 ++ [.agg (C0 e)]), .slice true 6 (m.back.map A4)]) = U2 L Hp o om i (mvO (Zj m e)) := by
 rw [U2_setm, show AV.agg (C0 e) = A4 e from (Ab e).symm]; simp only [mvO, mvC, Zj, List.map_append, List.map_cons, List.map_nil]
theorem dl {L : List Tok} {Hp : List AObj} {o om i : Nat} {m : Mov} {e : Expr} {x : AObj} : (U2 L Hp o om i x).set om (.cells 64 [A2 m.kind, .slice true 1 (m.take.map A6), .slice true 2 (m.give.map Ag), .slice true 6 (m.ahead.map A4), .slice true 6 (m.back.map A4 ++ [.agg (C0 e)])]) = U2 L Hp o om i (mvO (Zl m e)) := by
 rw [U2_setm, show AV.agg (C0 e) = A4 e from (Ab e).symm]; simp only [mvO, mvC, Zl, List.map_append, List.map_cons, List.map_nil]
theorem dm {L : List Tok} {Hp : List AObj} {o om i : Nat} {m : Mov} {s : Str} {x : AObj} : (U2 L Hp o om i x).set om (.cells 64 [A2 m.kind, .slice true 1 (m.take.map A6 ++ [A6 s]), .slice true 2 (m.give.map Ag), .slice true 6 (m.ahead.map A4), .slice true 6 (m.back.map A4)]) = U2 L Hp o om i (mvO (Zm m s)) := by
 rw [U2_setm]; simp only [mvO, mvC, Zm, List.map_append, List.map_cons, List.map_nil]

theorem Y3 (L : List Tok) (m : Mov) (i o om : Nat) (Hp : List AObj) (hne : om ≠ o) (ho : Hp[o]? = some (pmO L i)) (hm : Hp[om]? = some (mvO m)) (hi : i < L.length) (hl : TokEnd L) (hll : L.length ≤ 500000) (hb : MvLe m (2 * i - 1)) : CP 155 [.ptr o 0, .ptr om 0] Hp (Cl L m i) (fun m' j r H' => r = Jn ∧ H' = U2 L Hp o om j (mvO m')) (W2 L o om Hp) := by
 have := hb.take; have := hb.give; have := hb.ahead; have := hb.back
 refine ACallP.body [] [0, 1] Tryz.func155 Tryz.ntmps155 (fun d => ?_)
 rcases hC : Fy L i with ⟨c, j⟩ | ⟨e, a⟩
 rotate_left
 ·refine W.drawY [0, 0, 2, 6, 14, 0, 32, 96, 254, 511, 1023, 2047] [6] [.q 6 [] [], .s [10] (some 0) [] [], .s [] none [0] [], .s [] none [0] [], .s [] none [0] [], .s [] none [0] [], .s [] none [0] []] (fun _ => Hp) (fun B => [] ++ bot (B 0)) Aa (by kernel_rfl) rfl rfl (fun _ => rfl) ?_
  apply Y.q
  case h1 =>
   intro B hT hF
   refine Ki ?_
   refine D.gw (h := Q.loadUp hm) (hr := ?_)
   exact Z75
  case hTF => decide
  refine Y.callBad (own0 := []) Tryz.call177 (fun B hB => ⟨rfl, by simp [bot, hB]⟩) ((vm L i o _ (A5 ho) hi hl hll).bad hC) ?_ ?_
  ·rintro x U O f hU hl' ⟨rfl, j', hH⟩
   obtain ⟨rfl, rfl⟩ := Az hU (List.getElem?_eq_some_iff.1 ho).1 hH
   refine ⟨fun h => B0 h (fun n => Aq), fun o h => (by cases h), ?_⟩
   exact K.finPP ⟨_, _, by unfold Cl; rw [hC]; rfl, rfl, j', m, Y2 hne hm⟩
  refine Z19 ?_;exact l4
 have hj := Rg hl hi _ _ hC
 refine W.drawY [0, 0, 2, 6, 14, 0, 32, 96, 254, 511, 1023, 2047] [4, 6] [.q 4 [] [], .s [8] (some 0) [] [], .q 1 [] [1], .s [10] (some 1) [] [], .q 1 [1] [], .s [8, 12] none [0, 1] []] (fun B => U2 L Hp o om (if B 1 = true then j else i) (if B 0 = true then .cells 64 [A2 m.kind, .slice true 1 (m.take.map A6), .slice false 2 (m.give.map Ag), .slice true 6 (m.ahead.map A4), .slice true 6 (m.back.map A4)] else .cells 64 [A2 m.kind, .slice true 1 (m.take.map A6), .slice true 2 (m.give.map Ag), .slice true 6 (m.ahead.map A4), .slice true 6 (m.back.map A4)])) (fun _ => []) Aa (by kernel_rfl) (Lc ho hm) rfl (fun B => U2_len) ?_
 apply Y.q
 case h1 =>
  intro B hT hF
  exact fh
 case hTF => decide
 refine Y.loadUpT (o := om) (t' := 64) (cs := [A2 m.kind, .slice true 1 (m.take.map A6), .slice true 2 (m.give.map Ag), .slice true 6 (m.ahead.map A4), .slice true 6 (m.back.map A4)]) (cs' := [A2 m.kind, .slice true 1 (m.take.map A6), .slice false 2 (m.give.map Ag), .slice true 6 (m.ahead.map A4), .slice true 6 (m.back.map A4)]) Tryz.isAgg22 (fun B hB => ⟨by simp only [hB]; exact By hm, U2_setm.symm, rfl⟩) ?_
 apply Y.q
 case h1 =>
  intro B hT hF
  exact Z75
 case hTF => decide
 refine Y.callUp (r := Ag c) (o := o) (x0 := pmO L i) (x := pmO L j) Tryz.call177 (fun B hB1 hB2 hB => ⟨by simp only [hB]; exact B1 ho hne, (Be hne).symm, rfl, Aq, ?_⟩) ?_
 ·simp only [hB]
  exact (vm L i o _ (A5 (B1 ho hne)) hi hl hll).ok hC
 apply Y.q
 case h1 =>
  intro B hT hF
  exact Z49
 case hTF => decide
 refine Y.append jU Tryz.type58 ?_ ?_ ?_
 ·simp [Tryz.t58]; omega
 ·simp [Tryz.t58]; omega
 refine Y.tail (tn := [4, 6]) (U := U2 L Hp o om j (.cells 64 [A2 m.kind, .slice true 1 (m.take.map A6), .slice false 2 (m.give.map Ag), .slice true 6 (m.ahead.map A4), .slice true 6 (m.back.map A4)])) ?_;refine Z0 ?_
 refine R.storeUpT jS (By hm) ?_ ?_
 ·simp [or_imp, forall_and]
 refine R.fin [0, 1] ?_;refine AW.upEq (dj (m := m) (c := c)) ?_
 rcases hW : Bf L [61] j with ⟨u, j2⟩ | ⟨e, a⟩
 rotate_left
 ·refine AW.seqRK ?_
  refine ARunK.one (R.go (ARun.nil ?_))
  refine RK.callBad Tryz.call123 ((La L [61] j o _ (A5 (B1 ho hne)) hj.2 hll).bad hW) ?_
  rintro x U O hU hl' ⟨rfl, j', hH⟩
  obtain ⟨rfl, rfl⟩ := Az hU (List.getElem?_eq_some_iff.1 (B1 (L := L) (i := j) (x := mvO (Bl m c)) ho hne)).1 hH
  refine ⟨fun h => B0 h (fun n => Aq), fun o h => (by cases h), ?_⟩
  refine K.thP ?_;exact K.finPP ⟨_, _, by unfold Cl; rw [hC]; show (Bf L [61] j).bind _ = _; rw [hW]; rfl, rfl, j', Bl m c, Be hne⟩
 have hj2 := Dr hl hj.2 _ _ hW
 refine Z2 ?_;refine R.callUp (x := pmO L j2) Tryz.call123 (B1 ho hne) (by simp) Aq ((La L [61] j o _ (A5 (B1 ho hne)) hj.2 hll).ok hW) ?_
 rw [Be hne]
 refine R.fin [0, 1] ?_
 rcases hT : Hv L j2 with ⟨x, k⟩ | ⟨e, a⟩
 rotate_left
 ·refine W.drawY0 [0, 1, 3, 7, 0, 16, 15, 0, 255, 511, 1023, 511, 2559, 6655] [5] [.q 5 [] [], .s [22] (some 0) [] [], .q 2 [] [], .s [] none [0] [], .s [] none [0] [], .s [] none [0] [], .s [] none [0] [], .s [] none [0] [], .s [] none [0] []] (fun _ => U2 L Hp o om j2 (mvO (Bl m c))) (fun B => [] ++ bot (B 0)) Aa (by kernel_rfl) rfl rfl (fun _ => rfl) ?_
  apply Y.q
  case h1 =>
   intro B hT hF
   refine Z55 ?_
   refine D.gw (h := Q.loadUp (By hm)) (hr := ?_)
   exact Z75
  case hTF => decide
  refine Y.callBad (own0 := []) Tryz.call178 (fun B hB => ⟨rfl, by simp [bot, hB]⟩) ((jx L j2 o _ (A5 (B1 ho hne)) hj2.2 hl hll).bad hT) ?_ ?_
  ·rintro x U O f hU hl' ⟨rfl, j', hH⟩
   obtain ⟨rfl, rfl⟩ := Az hU (List.getElem?_eq_some_iff.1 (B1 (L := L) (i := j2) (x := mvO (Bl m c)) ho hne)).1 hH
   refine ⟨fun h => B0 h (fun n => Aq), fun o h => (by cases h), ?_⟩
   exact K.finPP ⟨_, _, by unfold Cl; rw [hC]; show (Bf L [61] j).bind _ = _; rw [hW]; show (Hv L j2).bind _ = _; rw [hT]; rfl, rfl, j', Bl m c, Be hne⟩
  apply Y.q
  case h1 =>
   intro B hT hF
   exact ax
  case hTF => decide
  refine Z19 ?_;exact ky
 have hk := L7 hl hll hj2.2 hT
 refine W.drawT0 [0, 1, 3, 7, 0, 16, 15, 0, 255, 511, 1023, 511, 2559, 6655] [3, 5] [.q 3 [] [0], .s [20] (some 0) [] [], .q 1 [] [1], .s [22] (some 1) [] [], .q 2 [] []] (fun B => U2 L Hp o om (if B 1 = true then k else j2) (if B 0 = true then .cells 64 [A2 (Bl m c).kind, .slice true 1 ((Bl m c).take.map A6), .slice true 2 ((Bl m c).give.map Ag), .slice false 6 ((Bl m c).ahead.map A4), .slice true 6 ((Bl m c).back.map A4)] else .cells 64 [A2 (Bl m c).kind, .slice true 1 ((Bl m c).take.map A6), .slice true 2 ((Bl m c).give.map Ag), .slice true 6 ((Bl m c).ahead.map A4), .slice true 6 ((Bl m c).back.map A4)])) (fun _ => []) Aa (by kernel_rfl) rfl rfl (fun B => by rw [U2_len]; exact U2_len.symm) ?_
 apply Y.q
 case h1 =>
  intro B hT hF
  refine Z55 ?_;exact Km
 case hTF => decide
 refine Y.loadUpT (o := om) (t' := 64) (cs := [A2 (Bl m c).kind, .slice true 1 ((Bl m c).take.map A6), .slice true 2 ((Bl m c).give.map Ag), .slice true 6 ((Bl m c).ahead.map A4), .slice true 6 ((Bl m c).back.map A4)]) (cs' := [A2 (Bl m c).kind, .slice true 1 ((Bl m c).take.map A6), .slice true 2 ((Bl m c).give.map Ag), .slice false 6 ((Bl m c).ahead.map A4), .slice true 6 ((Bl m c).back.map A4)]) Tryz.isAgg43 (fun B hB => ⟨by simp only [hB]; exact By hm, U2_setm.symm, rfl⟩) ?_
 apply Y.q
 case h1 =>
  intro B hT hF
  exact Z75
 case hTF => decide
 refine Y.callUp (r := A4 x) (o := o) (x0 := pmO L j2) (x := pmO L k) Tryz.call178 (fun B hB1 hB2 hB => ⟨by simp only [hB]; exact B1 ho hne, (Be hne).symm, rfl, Aq, ?_⟩) ?_
 ·simp only [hB]
  exact (jx L j2 o _ (A5 (B1 ho hne)) hj2.2 hl hll).ok hT
 apply Y.q
 case h1 =>
  intro B hT hF
  exact ax
 case hTF => decide
 refine Y.appendPut4 (tn := [3, 5]) (U := U2 L Hp o om k (.cells 64 [A2 (Bl m c).kind, .slice true 1 ((Bl m c).take.map A6), .slice true 2 ((Bl m c).give.map Ag), .slice false 6 ((Bl m c).ahead.map A4), .slice true 6 ((Bl m c).back.map A4)])) (O := []) (o := om) (t' := 64) (cs := [A2 (Bl m c).kind, .slice true 1 ((Bl m c).take.map A6), .slice true 2 ((Bl m c).give.map Ag), .slice false 6 ((Bl m c).ahead.map A4), .slice true 6 ((Bl m c).back.map A4)]) (by kernel_rfl) jU Tryz.type45 Tryz.sizeOf45 Tryz.sizeOf43 jU (A5 (By hm)) ?_ ?_ ?_ (hfsz := Tryz.sizeOf43)
 ·simp [Tryz.t45, Bl]; omega
 ·simp [Tryz.t45, Bl]; omega
 refine Z0 ?_
 refine R.storeUpT jS (By hm) ?_ ?_
 ·exact Kb
 refine R.fin [] ?_;exact K.finPN .nores (hp := ⟨Zj (Bl m c) x, k, by unfold Cl; rw [hC]; show (Bf L [61] j).bind _ = _; rw [hW]; show (Hv L j2).bind _ = _; rw [hT]; rfl, rfl, by exact dk (m := Bl m c)⟩)

/-- What is asked of a part of a move that is a closure. -/
def Zo (L : List Tok) (o om g : Nat) (caps : List AV) (Hp : List AObj) (one : Mov → Nat → PR Mov) : Prop :=
 ∀ m i, MvLe m (2 * i - 1) → 0 < i → i < L.length → CP g caps (U2 L Hp o om i (mvO m)) (one m i) (fun m' j r H' => r = Jn ∧ H' = U2 L Hp o om j (mvO m')) (W2 L o om Hp)
theorem Fp {L : List Tok} {Hp : List AObj} {o om i j : Nat} {x y : AObj} (hne : om ≠ o) : U2 L (U2 L Hp o om i x) o om j y = U2 L Hp o om j y := by
 unfold U2
 rw [jv hne, List.set_set]
theorem jy {L : List Tok} {Hp H' : List AObj} {o om i : Nat} {x : AObj} (hne : om ≠ o) (h : W2 L o om (U2 L Hp o om i x) H') : W2 L o om Hp H' := by
 obtain ⟨j, m, e⟩ := h
 exact ⟨j, m, by rw [e, Fp hne]⟩
theorem ym (L : List Tok) (m : Mov) (i o om bp bm : Nat) (Hp : List AObj) (hne : om ≠ o) (ho : Hp[o]? = some (pmO L i)) (hm : Hp[om]? = some (mvO m)) (hbp : Hp[bp]? = some (.cells 94 [.ptr o 0])) (hbm : Hp[bm]? = some (.cells 155 [.ptr om 0])) (hi : i < L.length) (hl : TokEnd L) (hll : L.length ≤ 500000) (hb : MvLe m (2 * i - 1)) : CP 179 [.ptr bm 0, .ptr bp 0] Hp (L6 L m i) (fun m' j r H' => r = Jn ∧ H' = U2 L Hp o om j (mvO m')) (W2 L o om Hp) := by
 have n1 : bp ≠ o := fun e => by rw [e, ho] at hbp; simp at hbp
 have n2 : bp ≠ om := fun e => by rw [e, hm] at hbp; simp at hbp
 have n3 : bm ≠ o := fun e => by rw [e, ho] at hbm; simp at hbm
 have n4 : bm ≠ om := fun e => by rw [e, hm] at hbm; simp at hbm
 have := hb.take; have := hb.give; have := hb.ahead; have := hb.back
 refine ACallP.body [] [0, 1] Tryz.func179 Tryz.ntmps179 (fun d => ?_)
 refine W.flip Aa (by kernel_rfl) Tryz.zeroValue4 Tryz.sizeOf4 Tryz.isAgg4 (fun fb => ?_)
 refine AW.keep [0, 1, 3] (by simp only [go_sem, ↓reduceIte, Nat.reduceEqDiff, Nat.reduceAdd] <;> rfl) ?_
 refine W.cond (fun ht3 => ?_) (fun ht3 => ?_)
 ·rcases hT : Hv L i with ⟨x, k⟩ | ⟨e, a⟩
  rotate_left
  ·refine W.drawY [0, 1, 3, 7, 0, 16, 15, 0, 255, 511, 1023, 2047] [5] [.q 5 [] [], .s [9] (some 0) [] [], .q 2 [] [], .s [] none [0] [], .s [] none [0] [], .s [] none [0] [], .s [] none [0] []] (fun _ => Hp) (fun B => [.cells 4 [.v (.bool fb)]] ++ bot (B 0)) Aa (by kernel_rfl) rfl rfl (fun _ => rfl) ?_
   apply Y.q
   case h1 =>
    intro B hT hF
    refine D.gw (h := Q.loadUp hbm) (hr := ?_)
    refine Z14 ?_
    refine D.gw (h := Q.loadUp hm) (hr := ?_)
    refine D.gw (h := Q.loadUp hbp) (hr := ?_)
    exact Km
   case hTF => decide
   refine Y.callBad (own0 := [.cells 4 [.v (.bool fb)]]) Tryz.call178 (fun B hB => ⟨rfl, by simp [bot, hB]⟩) ((jx L i o _ (A5 ho) hi hl hll).bad hT) ?_ ?_
   ·rintro x U O f hU hl' ⟨rfl, j', hH⟩
    obtain ⟨rfl, rfl⟩ := Az hU (List.getElem?_eq_some_iff.1 ho).1 hH
    refine ⟨fun h => B0 h (fun n => Aq), fun o h => (by cases h), ?_⟩
    exact u9
   apply Y.q
   case h1 =>
    intro B hT hF
    exact ax
   case hTF => decide
   exact ky
  have hk := L7 hl hll hi hT
  refine W.drawZ0 [0, 1, 3, 7, 0, 16, 15, 0, 255, 511, 1023, 2047] [3, 5] [.q 3 [] [0], .s [7] (some 0) [] [], .q 1 [] [1], .s [9] (some 1) [] [], .q 2 [] []] (fun B => U2 L Hp o om (if B 1 = true then k else i) (if B 0 = true then .cells 64 [A2 m.kind, .slice true 1 (m.take.map A6), .slice true 2 (m.give.map Ag), .slice true 6 (m.ahead.map A4), .slice false 6 (m.back.map A4)] else .cells 64 [A2 m.kind, .slice true 1 (m.take.map A6), .slice true 2 (m.give.map Ag), .slice true 6 (m.ahead.map A4), .slice true 6 (m.back.map A4)])) (fun _ => [.cells 4 [.v (.bool fb)]]) Aa (by kernel_rfl) (Lc ho hm) rfl (fun B => U2_len) ?_
  apply Y.q
  case h1 =>
   intro B hT hF
   refine D.gw (h := Q.loadUp ((Dm n3 n4).trans hbm)) (hr := ?_)
   exact Z66
  case hTF => decide
  refine Y.loadUpT (o := om) (t' := 64) (cs := [A2 m.kind, .slice true 1 (m.take.map A6), .slice true 2 (m.give.map Ag), .slice true 6 (m.ahead.map A4), .slice true 6 (m.back.map A4)]) (cs' := [A2 m.kind, .slice true 1 (m.take.map A6), .slice true 2 (m.give.map Ag), .slice true 6 (m.ahead.map A4), .slice false 6 (m.back.map A4)]) Tryz.isAgg43 (fun B hB => ⟨by simp only [hB]; exact By hm, U2_setm.symm, rfl⟩) ?_
  apply Y.q
  case h1 =>
   intro B hT hF
   refine D.gw (h := Q.loadUp ((Dm n1 n2).trans hbp)) (hr := ?_)
   exact Km
  case hTF => decide
  refine Y.callUp (r := A4 x) (o := o) (x0 := pmO L i) (x := pmO L k) Tryz.call178 (fun B hB1 hB2 hB => ⟨by simp only [hB]; exact B1 ho hne, (Be hne).symm, rfl, Aq, ?_⟩) ?_
  ·simp only [hB]
   exact ua
  apply Y.q
  case h1 =>
   intro B hT hF
   exact ax
  case hTF => decide
  refine Y.put2 (tn := [3, 5]) (U := U2 L Hp o om k (.cells 64 [A2 m.kind, .slice true 1 (m.take.map A6), .slice true 2 (m.give.map Ag), .slice true 6 (m.ahead.map A4), .slice false 6 (m.back.map A4)])) (O := [.cells 4 [.v (.bool fb)]]) (o := om) (t' := 64) (cs := [A2 m.kind, .slice true 1 (m.take.map A6), .slice true 2 (m.give.map Ag), .slice true 6 (m.ahead.map A4), .slice false 6 (m.back.map A4)]) jU Tryz.type45 Tryz.sizeOf45 Tryz.sizeOf43 jU (A5 (By hm)) ?_ ?_ ?_ (hfsz := Tryz.sizeOf43)
  ·simp [Tryz.t45]; omega
  ·simp [Tryz.t45]; omega
  refine Z0 ?_
  refine R.storeUpT jS (By hm) ?_ ?_
  ·exact Kb
  exact ru
 rcases hT : Hv L i with ⟨x, k⟩ | ⟨e, a⟩
 rotate_left
 ·refine W.drawY0 [0, 0, 2, 6, 14, 0, 32, 96, 254, 511, 1023, 2047] [6] [.q 6 [] [], .s [22] (some 0) [] [], .s [] none [0] [], .s [] none [0] [], .s [] none [0] [], .s [] none [0] [], .s [] none [0] []] (fun _ => Hp) (fun B => [.cells 4 [.v (.bool fb)]] ++ bot (B 0)) Aa (by kernel_rfl) rfl rfl (fun _ => rfl) ?_
  apply Y.q
  case h1 =>
   intro B hT hF
   refine D.gw (h := Q.loadUp hbm) (hr := ?_)
   refine D.gw (h := Q.loadUp hbm) (hr := ?_)
   refine Z14 ?_
   refine D.gw (h := Q.loadUp hm) (hr := ?_)
   refine D.gw (h := Q.loadUp hbp) (hr := ?_)
   exact Km
  case hTF => decide
  refine Y.callBad (own0 := [.cells 4 [.v (.bool fb)]]) Tryz.call178 (fun B hB => ⟨rfl, by simp [bot, hB]⟩) ((jx L i o _ (A5 ho) hi hl hll).bad hT) ?_ ?_
  ·rintro x U O f hU hl' ⟨rfl, j', hH⟩
   obtain ⟨rfl, rfl⟩ := Az hU (List.getElem?_eq_some_iff.1 ho).1 hH
   refine ⟨fun h => B0 h (fun n => Aq), fun o h => (by cases h), ?_⟩
   exact u9
  refine Z19 ?_;exact l4
 have hk := L7 hl hll hi hT
 refine W.drawY0 [0, 0, 2, 6, 14, 0, 32, 96, 254, 511, 1023, 2047] [4, 6] [.q 4 [] [], .s [20] (some 0) [] [], .q 1 [] [1], .s [22] (some 1) [] [], .q 1 [1] [], .s [20, 24] none [0, 1] []] (fun B => U2 L Hp o om (if B 1 = true then k else i) (if B 0 = true then .cells 64 [A2 m.kind, .slice true 1 (m.take.map A6), .slice true 2 (m.give.map Ag), .slice true 6 (m.ahead.map A4), .slice false 6 (m.back.map A4)] else .cells 64 [A2 m.kind, .slice true 1 (m.take.map A6), .slice true 2 (m.give.map Ag), .slice true 6 (m.ahead.map A4), .slice true 6 (m.back.map A4)])) (fun _ => [.cells 4 [.v (.bool fb)]]) Aa (by kernel_rfl) (Lc ho hm) rfl (fun B => U2_len) ?_
 apply Y.q
 case h1 =>
  intro B hT hF
  refine D.gw (h := Q.loadUp ((Dm n3 n4).trans hbm)) (hr := ?_)
  refine D.gw (h := Q.loadUp ((Dm n3 n4).trans hbm)) (hr := ?_)
  exact Z66
 case hTF => decide
 refine Y.loadUpT (o := om) (t' := 64) (cs := [A2 m.kind, .slice true 1 (m.take.map A6), .slice true 2 (m.give.map Ag), .slice true 6 (m.ahead.map A4), .slice true 6 (m.back.map A4)]) (cs' := [A2 m.kind, .slice true 1 (m.take.map A6), .slice true 2 (m.give.map Ag), .slice true 6 (m.ahead.map A4), .slice false 6 (m.back.map A4)]) Tryz.isAgg43 (fun B hB => ⟨by simp only [hB]; exact By hm, U2_setm.symm, rfl⟩) ?_
 apply Y.q
 case h1 =>
  intro B hT hF
  refine D.gw (h := Q.loadUp ((Dm n1 n2).trans hbp)) (hr := ?_)
  exact Km
 case hTF => decide
 refine Y.callUp (r := A4 x) (o := o) (x0 := pmO L i) (x := pmO L k) Tryz.call178 (fun B hB1 hB2 hB => ⟨by simp only [hB]; exact B1 ho hne, (Be hne).symm, rfl, Aq, ?_⟩) ?_
 ·simp only [hB]
  exact ua
 apply Y.q
 case h1 =>
  intro B hT hF
  exact Z49
 case hTF => decide
 refine Y.append jU Tryz.type45 ?_ ?_ ?_
 ·simp [Tryz.t45]; omega
 ·simp [Tryz.t45]; omega
 refine Y.tail (tn := [4, 6]) (U := U2 L Hp o om k (.cells 64 [A2 m.kind, .slice true 1 (m.take.map A6), .slice true 2 (m.give.map Ag), .slice true 6 (m.ahead.map A4), .slice false 6 (m.back.map A4)])) ?_;refine Z0 ?_
 refine R.storeUpT jS (By hm) ?_ ?_
 ·exact Kb
 exact ru

theorem Bz {L : List Tok} {Hp : List AObj} {o om i j n : Nat} {x y : AObj} (hne : om ≠ o) (hy : ObjLow n y) (h : ∀ z ∈ U2 L Hp o om i x, ObjLow n z) : ∀ z ∈ U2 L Hp o om j y, ObjLow n z := by
 intro z hz
 rw [show U2 L Hp o om j y = ((U2 L Hp o om i x).set o (pmO L j)).set om y by rw [Be hne, U2_setm]] at hz
 rcases List.mem_or_eq_of_mem_set hz with hz | rfl
 ·rcases List.mem_or_eq_of_mem_set hz with hz | rfl
  ·exact h z hz
  exact Aq
 exact hy
theorem Ci {L : List Tok} {Hp own : List AObj} {o om i : Nat} {x : AObj} (h1 : o < Hp.length) (h2 : om < Hp.length) : U2 L (Hp ++ own) o om i x = U2 L Hp o om i x ++ own := by
 unfold U2
 rw [List.set_append_left _ _ h1, List.set_append_left _ _ (by simpa using h2)]
theorem Df {L : List Tok} {Hp own U O : List AObj} {o om i : Nat} {x : AObj} (hne : om ≠ o) (h1 : o < Hp.length) (h2 : om < Hp.length) (hU : U.length = (U2 L Hp o om i x).length) (h : W2 L o om (U2 L Hp o om i x ++ own) (U ++ O)) : W2 L o om Hp U ∧ own = O := by
 obtain ⟨j, m, e⟩ := h
 rw [Ci (by rw [U2_len]; exact h1) (by rw [U2_len]; exact h2), Fp hne] at e
 obtain ⟨rfl, rfl⟩ := G5 (by rw [hU, U2_len, U2_len]) e
 exact ⟨⟨j, m, rfl⟩, rfl⟩
/-- Where the loop of things with commas between stands. -/
structure ListAt (L : List Tok) (n : Int) (one : Mov → Nat → PR Mov) (X : PR Mov) (x : Nat × Mov × Nat) : Prop where
 lt : x.2.2 < L.length
 pos : 0 < x.2.2
 le : MvLe x.2.1 (2 * x.2.2)
 k : x.1 ≤ x.2.2
 fuel : ∃ f, X = L5 L n one f x.1 x.2.1 x.2.2 ∧ L.length - x.2.2 < f
theorem ListAt.step {L : List Tok} {n : Int} {one : Mov → Nat → PR Mov} {X : PR Mov} {x : Nat × Mov × Nat} (h : ListAt L n one X x) (hq : Mw L n x.1 x.2.2 = true) : ∃ f, X = ((Bf L [44] x.2.2).bind fun _ j => (one x.2.1 j).bind fun m j => L5 L n one f (x.1 + 1) m j) ∧ L.length - x.2.2 < f + 1 := by
 obtain ⟨f, e, hf⟩ := h.fuel
 obtain ⟨f, rfl⟩ : ∃ g, f = g + 1 := ⟨f - 1, by omega⟩
 refine ⟨f, ?_, hf⟩
 rw [e, L5, if_pos hq]
theorem ListAt.on {L : List Tok} (hl : TokEnd L) {n : Int} {one : Mov → Nat → PR Mov} (hP : Py L one) {X : PR Mov} {x : Nat × Mov × Nat} (h : ListAt L n one X x) (hq : Mw L n x.1 x.2.2 = true) {u : Unit} {j : Nat} (hW : Bf L [44] x.2.2 = .ok u j) {m2 : Mov} {j2 : Nat} (hO : one x.2.1 j = .ok m2 j2) : ListAt L n one X (x.1 + 1, m2, j2) ∧ x.2.2 < j2 := by
 obtain ⟨f, e, hf⟩ := h.step hq
 have h1 := Dr hl h.lt _ _ hW
 have hj : j = x.2.2 + 1 := by
  unfold Bf at hW
  split at hW
  ·injection hW with _ h; exact h.symm
  cases hW
 obtain ⟨a1, a2, a3⟩ := hP x.2.1 j (h.le.mono (by omega)) (by omega) h1.2 _ _ hO
 have := h.k
 refine ⟨⟨a2, by show 0 < j2; omega, a3, by show x.1 + 1 ≤ j2; omega, f, ?_, by show L.length - j2 < f; omega⟩, by omega⟩
 rw [e, hW]
 show (one x.2.1 j).bind _ = _
 rw [hO]; rfl
theorem ListAt.bad1 {L : List Tok} {n : Int} {one : Mov → Nat → PR Mov} {X : PR Mov} {x : Nat × Mov × Nat} (h : ListAt L n one X x) (hq : Mw L n x.1 x.2.2 = true) {e a : Int} (hW : Bf L [44] x.2.2 = .bad e a) : X = .bad e a := by
 obtain ⟨f, e, _⟩ := h.step hq
 rw [e, hW]; rfl
theorem ListAt.bad2 {L : List Tok} {n : Int} {one : Mov → Nat → PR Mov} {X : PR Mov} {x : Nat × Mov × Nat} (h : ListAt L n one X x) (hq : Mw L n x.1 x.2.2 = true) {u : Unit} {j : Nat} (hW : Bf L [44] x.2.2 = .ok u j) {e a : Int} (hO : one x.2.1 j = .bad e a) : X = .bad e a := by
 obtain ⟨f, e, _⟩ := h.step hq
 rw [e, hW]
 show (one x.2.1 j).bind _ = _
 rw [hO]; rfl
theorem ListAt.out {L : List Tok} {n : Int} {one : Mov → Nat → PR Mov} {X : PR Mov} {x : Nat × Mov × Nat} (h : ListAt L n one X x) (hq : Mw L n x.1 x.2.2 = false) : X = .ok x.2.1 x.2.2 := by
 obtain ⟨f, e, hf⟩ := h.fuel
 obtain ⟨f, rfl⟩ : ∃ g, f = g + 1 := ⟨f - 1, by omega⟩
 rw [e, L5, if_neg (by rw [hq]; simp)]
theorem yn (L : List Tok) (m : Mov) (i o om bp bm : Nat) (Hp : List AObj) (hne : om ≠ o) (ho : Hp[o]? = some (pmO L i)) (hm : Hp[om]? = some (mvO m)) (hbp : Hp[bp]? = some (.cells 94 [.ptr o 0])) (hbm : Hp[bm]? = some (.cells 155 [.ptr om 0])) (hi : i < L.length) (hl : TokEnd L) (hll : L.length ≤ 500000) (hb : MvLe m (2 * i - 1)) : CP 161 [.ptr bm 0, .ptr bp 0] Hp (Jm L m i) (fun m' j r H' => r = Jn ∧ H' = U2 L Hp o om j (mvO m')) (W2 L o om Hp) := by
 have n1 : bp ≠ o := fun e => by rw [e, ho] at hbp; simp at hbp
 have n2 : bp ≠ om := fun e => by rw [e, hm] at hbp; simp at hbp
 have n3 : bm ≠ o := fun e => by rw [e, ho] at hbm; simp at hbm
 have n4 : bm ≠ om := fun e => by rw [e, hm] at hbm; simp at hbm
 have := hb.take; have := hb.give; have := hb.ahead; have := hb.back
 refine ACallP.body [] [0, 1] Tryz.func161 Tryz.ntmps161 (fun d => ?_)
 rcases hT : E8 L i with ⟨s, k⟩ | ⟨e, a⟩
 rotate_left
 ·refine W.drawY0 [0, 0, 2, 6, 14, 0, 32, 96, 254, 511, 1023, 2047] [6] [.q 6 [] [], .s [8] (some 0) [] [], .s [] none [0] [], .s [] none [0] [], .s [] none [0] [], .s [] none [0] [], .s [] none [0] []] (fun _ => Hp) (fun B => [] ++ bot (B 0)) Aa (by kernel_rfl) rfl rfl (fun _ => rfl) ?_
  apply Y.q
  case h1 =>
   intro B hT hF
   refine D.gw (h := Q.loadUp hbm) (hr := ?_)
   refine D.gw (h := Q.loadUp hbm) (hr := ?_)
   refine Z14 ?_
   refine D.gw (h := Q.loadUp hm) (hr := ?_)
   refine D.gw (h := Q.loadUp hbp) (hr := ?_)
   exact Km
  case hTF => decide
  refine Y.callBad (own0 := []) Tryz.call156 (fun B hB => ⟨rfl, by simp [bot, hB]⟩) ((N6 L i o _ (A5 ho) hi hll).bad hT) ?_ ?_
  ·rintro x U O f hU hl' ⟨rfl, j', hH⟩
   obtain ⟨rfl, rfl⟩ := Az hU (List.getElem?_eq_some_iff.1 ho).1 hH
   refine ⟨fun h => B0 h (fun n => Aq), fun o h => (by cases h), ?_⟩
   exact K.finPP ⟨_, _, by unfold Jm; rw [hT]; rfl, rfl, j', m, Y2 hne hm⟩
  refine Z19 ?_;exact l4
 have hk := Ew hl hi _ _ hT
 refine W.drawY0 [0, 0, 2, 6, 14, 0, 32, 96, 254, 511, 1023, 2047] [4, 6] [.q 4 [] [], .s [6] (some 0) [] [], .q 1 [] [1], .s [8] (some 1) [] [], .q 1 [1] [], .s [6, 10] none [0, 1] []] (fun B => U2 L Hp o om (if B 1 = true then k else i) (if B 0 = true then .cells 64 [A2 m.kind, .slice false 1 (m.take.map A6), .slice true 2 (m.give.map Ag), .slice true 6 (m.ahead.map A4), .slice true 6 (m.back.map A4)] else .cells 64 [A2 m.kind, .slice true 1 (m.take.map A6), .slice true 2 (m.give.map Ag), .slice true 6 (m.ahead.map A4), .slice true 6 (m.back.map A4)])) (fun _ => []) Aa (by kernel_rfl) (Lc ho hm) rfl (fun B => U2_len) ?_
 apply Y.q
 case h1 =>
  intro B hT hF
  refine D.gw (h := Q.loadUp ((Dm n3 n4).trans hbm)) (hr := ?_)
  refine D.gw (h := Q.loadUp ((Dm n3 n4).trans hbm)) (hr := ?_)
  exact Z66
 case hTF => decide
 refine Y.loadUpT (o := om) (t' := 64) (cs := [A2 m.kind, .slice true 1 (m.take.map A6), .slice true 2 (m.give.map Ag), .slice true 6 (m.ahead.map A4), .slice true 6 (m.back.map A4)]) (cs' := [A2 m.kind, .slice false 1 (m.take.map A6), .slice true 2 (m.give.map Ag), .slice true 6 (m.ahead.map A4), .slice true 6 (m.back.map A4)]) Tryz.isAgg37 (fun B hB => ⟨by simp only [hB]; exact By hm, U2_setm.symm, rfl⟩) ?_
 apply Y.q
 case h1 =>
  intro B hT hF
  refine D.gw (h := Q.loadUp ((Dm n1 n2).trans hbp)) (hr := ?_)
  exact Km
 case hTF => decide
 refine Y.callUp (r := A6 s) (o := o) (x0 := pmO L i) (x := pmO L k) Tryz.call156 (fun B hB1 hB2 hB => ⟨by simp only [hB]; exact B1 ho hne, (Be hne).symm, rfl, Aq, ?_⟩) ?_
 ·simp only [hB]
  exact (N6 L i o _ (A5 (B1 ho hne)) hi hll).ok hT
 apply Y.q
 case h1 =>
  intro B hT hF
  exact Z49
 case hTF => decide
 refine Y.append jU Tryz.type9 ?_ ?_ ?_
 ·simp [Tryz.t9]; omega
 ·simp [Tryz.t9]; omega
 refine Y.tail (tn := [4, 6]) (U := U2 L Hp o om k (.cells 64 [A2 m.kind, .slice false 1 (m.take.map A6), .slice true 2 (m.give.map Ag), .slice true 6 (m.ahead.map A4), .slice true 6 (m.back.map A4)])) ?_;refine Z0 ?_
 refine R.storeUpT jS (By hm) ?_ ?_
 ·simp [or_imp, forall_and]
 refine R.fin [] ?_;exact K.finPN .nores (hp := ⟨Zm m s, k, by unfold Jm; rw [hT]; rfl, rfl, by exact dm⟩)

theorem yo (L : List Tok) (m : Mov) (i o om bp bm : Nat) (Hp : List AObj) (hne : om ≠ o) (ho : Hp[o]? = some (pmO L i)) (hm : Hp[om]? = some (mvO m)) (hbp : Hp[bp]? = some (.cells 94 [.ptr o 0])) (hbm : Hp[bm]? = some (.cells 155 [.ptr om 0])) (hi : i < L.length) (hl : TokEnd L) (hll : L.length ≤ 500000) (hb : MvLe m (2 * i - 1)) : CP 160 [.ptr bp 0, .ptr bm 0] Hp (Cl L m i) (fun m' j r H' => r = Jn ∧ H' = U2 L Hp o om j (mvO m')) (W2 L o om Hp) := by
 have hol := (List.getElem?_eq_some_iff.1 ho).1
 have hml := (List.getElem?_eq_some_iff.1 hm).1
 have n1 : bp ≠ o := fun e => by rw [e, ho] at hbp; simp at hbp
 have n2 : bp ≠ om := fun e => by rw [e, hm] at hbp; simp at hbp
 have n3 : bm ≠ o := fun e => by rw [e, ho] at hbm; simp at hbm
 have n4 : bm ≠ om := fun e => by rw [e, hm] at hbm; simp at hbm
 have := hb.take; have := hb.give; have := hb.ahead; have := hb.back
 refine ACallP.body [] [0, 1] Tryz.func160 Tryz.ntmps160 (fun d => ?_)
 refine ge ?_
 rcases hT : Cl L m i with ⟨m2, k⟩ | ⟨e, a⟩
 rotate_left
 ·refine AW.regionK ?_
  refine ARunK.one (R.gw (h := Q.loadUp ((Dm n1 n2).trans hbp)) (hr := ARun.nil ?_))
  refine ARunK.one (R.gw (h := Q.loadUp ((Dm n3 n4).trans hbm)) (hr := ARun.nil ?_))
  refine RK.callBad Tryz.call155 ((Y3 L m i o om _ hne (A5 (B1 ho hne)) (A5 (By hm)) hi hl hll hb).bad hT) ?_
  rintro x U O hU hl' ⟨rfl, hW2⟩
  obtain ⟨⟨j', m', rfl⟩, rfl⟩ := Df hne hol hml hU hW2
  refine ⟨fun h => Bz hne Bc h, fun o h => (by cases h), ?_⟩
  exact K.finPP ⟨_, _, rfl, rfl, j', m', rfl⟩
 refine AW.region ?_
 refine R.gw (h := Q.loadUp ((Dm n1 n2).trans hbp)) (hr := ?_)
 refine R.gw (h := Q.loadUp ((Dm n3 n4).trans hbm)) (hr := ?_)
 refine R.callX (up' := U2 L Hp o om k (mvO m2)) (own' := []) Tryz.call155 (((Y3 L m i o om _ hne (A5 (B1 ho hne)) (A5 (By hm)) hi hl hll hb).ok hT).mono (fun r H' e => ⟨e.1, e.2.trans (by rw [List.append_nil, List.append_nil, Fp hne])⟩)) (by rw [U2_len, U2_len]) (fun h => Bz hne Bc h) ?_;refine R.fin [] ?_;exact K.finPN .nores (hp := ⟨m2, k, rfl, rfl, rfl⟩)

theorem dn (L : List Tok) (n : Int) (m : Mov) (i o om g : Nat) (caps : List AV) (one : Mov → Nat → PR Mov) (Hp : List AObj) (hne : om ≠ o) (ho : Hp[o]? = some (pmO L i)) (hm : Hp[om]? = some (mvO m)) (h0 : 0 < i) (hi : i < L.length) (hl : TokEnd L) (hll : L.length ≤ 500000) (hb : MvLe m (2 * i - 1)) (hcall : ∀ args w, (callFunc g args).run Tryz.prog w = .ok (.enter g args) w) (hC : Zo L o om g caps Hp one) (hP : Py L one) : CP 159 [.ptr o 0, A2 n, .fn (.func g) [] caps] Hp (Eu L n one m i) (fun m' j r H' => r = Jn ∧ H' = U2 L Hp o om j (mvO m')) (W2 L o om Hp) := by
 have hol := (List.getElem?_eq_some_iff.1 ho).1
 have hml := (List.getElem?_eq_some_iff.1 hm).1
 refine ACallP.body [] [0, 1, 2] Tryz.func159 Tryz.ntmps159 (fun d => ?_)
 refine ge ?_
 rcases h1 : one m i with ⟨m1, j1⟩ | ⟨e, a⟩
 rotate_left
 ·refine AW.seqRK ?_
  refine ARunK.one (R.go (ARun.nil ?_))
  refine RK.callBad hcall (by rw [List.append_nil]; exact (hC m i hb h0 hi).bad h1) ?_
  rintro z U O hU hl' ⟨rfl, j', m', hH⟩
  obtain ⟨rfl, rfl⟩ := G5 (A := U2 L Hp o om j' (mvO m')) (B := []) (by rw [hU, U2_len, U2_len]) (hH.trans (List.append_nil _).symm)
  refine ⟨fun h => Bz hne Bc h, fun o h => (by cases h), ?_⟩
  refine K.thP ?_;exact K.finPP ⟨_, _, by unfold Eu; rw [h1]; rfl, rfl, j', m', rfl⟩
 have g1 := hP m i hb h0 hi _ _ h1
 have e0 : Eu L n one m i = L5 L n one (L.length + 1) 1 m1 j1 := by unfold Eu; rw [h1]; rfl
 refine Z2 ?_
 refine R.callVX (up' := U2 L Hp o om j1 (mvO m1)) (own' := []) hcall (by rw [List.append_nil, List.append_nil]; exact (hC m i hb h0 hi).ok h1) (by rw [U2_len, U2_len]) (fun h => Bz hne Bc h) ?_
 refine R.fin [0, 1, 2] ?_;refine Z2 ?_;refine Wh ?_
 refine AW.loopC (α := Nat × Mov × Nat) (fun x => ⟨30, A3 0 (.ptr o 0) (A3 1 (A2 n) (A3 2 (.fn (.func g) [] caps) (A3 6 (A2 (x.1 : Int)) (fun _ => .any)))), U2 L Hp o om x.2.2 (mvO x.2.1), [], [], none⟩) (fun x => ListAt L n one (Eu L n one m i) x) (fun x => L.length - x.2.2) ((1, m1, j1)) ⟨g1.2.1, by show 0 < j1; omega, g1.2.2, by show 1 ≤ j1; omega, _, e0, by show L.length - j1 < _; omega⟩ (StLe.refl _) rfl (fun x hx => ?_)
 refine Z8 ?_;refine Z62 ?_;refine Kj ?_;refine G.call Tryz.call162 (fun hB => vl L [44] x.2.2 o _ (A5 (B1 ho hne)) hx.lt) ?_;refine Nv ?_;refine R.fin [0, 1, 2, 6, 23] ?_
 refine W.cond (fun ht23 => ?_) (fun ht23 => ?_)
 ·have hq : Mw L n x.1 x.2.2 = true := ht23
  refine Z39 ?_
  rcases hW : Bf L [44] x.2.2 with ⟨u, j⟩ | ⟨e, a⟩
  rotate_left
  ·refine AW.seqRK ?_
   refine ARunK.one (R.go (ARun.nil ?_))
   refine RK.callBad Tryz.call123 ((La L [44] x.2.2 o _ (A5 (B1 ho hne)) hx.lt hll).bad hW) ?_
   rintro z U O hU hl' ⟨rfl, j', hH⟩
   obtain ⟨rfl, rfl⟩ := Az hU (List.getElem?_eq_some_iff.1 (B1 (L := L) (i := x.2.2) (x := mvO x.2.1) ho hne)).1 hH
   refine ⟨fun h => B0 h (fun n => Aq), fun o h => (by cases h), ?_⟩
   refine Ts ?_;refine K.thP ?_;refine K.lpP ?_;exact K.finPP ⟨_, _, hx.bad1 hq hW, rfl, j', x.2.1, Be hne⟩
  have hj := Dr hl hx.lt _ _ hW
  have hpos := hx.pos
  refine Z2 ?_;refine R.callUp (x := pmO L j) Tryz.call123 (B1 ho hne) (by simp) Aq ((La L [44] x.2.2 o _ (A5 (B1 ho hne)) hx.lt hll).ok hW) ?_
  rw [Be hne]
  refine Wh ?_
  rcases hO : one x.2.1 j with ⟨m2, j2⟩ | ⟨e, a⟩
  rotate_left
  ·refine AW.regionK ?_
   refine ARunK.one (R.go (ARun.nil ?_))
   refine RK.callBad hcall (by rw [List.append_nil]; exact (hC x.2.1 j (hx.le.mono (by omega)) (by omega) hj.2).bad hO) ?_
   rintro z U O hU hl' ⟨rfl, j', m', hH⟩
   obtain ⟨rfl, rfl⟩ := G5 (A := U2 L Hp o om j' (mvO m')) (B := []) (by rw [hU, U2_len, U2_len]) (hH.trans (List.append_nil _).symm)
   refine ⟨fun h => Bz hne Bc h, fun o h => (by cases h), ?_⟩
   refine K.blP ?_;refine K.thP ?_;refine K.lpP ?_;exact K.finPP ⟨_, _, hx.bad2 hq hW hO, rfl, j', m', rfl⟩
  have hon := hx.on hl hP hq hW hO
  refine Z59 ?_
  refine R.callVX (up' := U2 L Hp o om j2 (mvO m2)) (own' := []) hcall (by rw [List.append_nil, List.append_nil]; exact (hC x.2.1 j (hx.le.mono (by omega)) (by omega) hj.2).ok hO) (by rw [U2_len, U2_len]) (fun h => Bz hne Bc h) ?_
  refine Wh ?_;refine Z10 ?_;refine Z59 ?_
  refine R.gw (h := Q.add64 (h2 := fun _ => by have := hx.k; have := hx.lt; omega)) (hr := ?_)
  refine R.go ?_;refine Wh ?_
  refine K.lpN (x.1 + 1, m2, j2) hon.1 (by have := hx.lt; have := hon.2; show L.length - j2 < L.length - x.2.2; omega) (StCut.of_eq rfl)
 have hq : Mw L n x.1 x.2.2 = false := ht23
 have e := hx.out hq
 refine Z31 ?_;refine K.lpE ?_;exact K.finPN .nores (hp := ⟨_, _, e, rfl, rfl⟩)

theorem CP.mono {g : FuncId} {args : List AV} {H : List AObj} {α : Type} {X : PR α} {Q Q' : α → Nat → AV → List AObj → Prop} {R R' : List AObj → Prop} (h : CP g args H X Q R) (hQ : ∀ c j r H', Q c j r H' → Q' c j r H') (hR : ∀ H', R H' → R' H') : CP g args H X Q' R' :=
 ACallP.mono h (fun r H' ⟨c, j, e, hq⟩ => ⟨c, j, e, hQ _ _ _ _ hq⟩) (fun v H' ⟨e, a, e1, e2, h⟩ => ⟨e, a, e1, e2, hR _ h⟩)
section
variable {L : List Tok} {o om bp bm : Nat} {X : List AObj} {z z' : AObj}
theorem Rh (hne : om ≠ o) (ho : X[o]? = some z) (hm : X[om]? = some z') (hbp : X[bp]? = some (.cells 94 [.ptr o 0])) (hbm : X[bm]? = some (.cells 155 [.ptr om 0])) (n1 : bp ≠ o) (n2 : bp ≠ om) (n3 : bm ≠ o) (n4 : bm ≠ om) (hl : TokEnd L) (hll : L.length ≤ 500000) : Zo L o om 179 [.ptr bm 0, .ptr bp 0] X (L6 L) :=
 fun m i hb _ hi => (ym L m i o om bp bm (U2 L X o om i (mvO m)) hne (B1 ho hne) (By hm) ((Dm n1 n2).trans hbp) ((Dm n3 n4).trans hbm) hi hl hll hb).mono (fun c j r H' e => ⟨e.1, e.2.trans (Fp hne)⟩) (fun H' h => jy hne h)
theorem Ri (hne : om ≠ o) (ho : X[o]? = some z) (hm : X[om]? = some z') (hbp : X[bp]? = some (.cells 94 [.ptr o 0])) (hbm : X[bm]? = some (.cells 155 [.ptr om 0])) (n1 : bp ≠ o) (n2 : bp ≠ om) (n3 : bm ≠ o) (n4 : bm ≠ om) (hl : TokEnd L) (hll : L.length ≤ 500000) : Zo L o om 161 [.ptr bm 0, .ptr bp 0] X (Jm L) :=
 fun m i hb _ hi => (yn L m i o om bp bm (U2 L X o om i (mvO m)) hne (B1 ho hne) (By hm) ((Dm n1 n2).trans hbp) ((Dm n3 n4).trans hbm) hi hl hll hb).mono (fun c j r H' e => ⟨e.1, e.2.trans (Fp hne)⟩) (fun H' h => jy hne h)
theorem Rj (hne : om ≠ o) (ho : X[o]? = some z) (hm : X[om]? = some z') (hbp : X[bp]? = some (.cells 94 [.ptr o 0])) (hbm : X[bm]? = some (.cells 155 [.ptr om 0])) (n1 : bp ≠ o) (n2 : bp ≠ om) (n3 : bm ≠ o) (n4 : bm ≠ om) (hl : TokEnd L) (hll : L.length ≤ 500000) : Zo L o om 160 [.ptr bp 0, .ptr bm 0] X (Cl L) :=
 fun m i hb _ hi => (yo L m i o om bp bm (U2 L X o om i (mvO m)) hne (B1 ho hne) (By hm) ((Dm n1 n2).trans hbp) ((Dm n3 n4).trans hbm) hi hl hll hb).mono (fun c j r H' e => ⟨e.1, e.2.trans (Fp hne)⟩) (fun H' h => jy hne h)
end
attribute [go_sem] U2_len
theorem N7 {L : List Tok} {Hp own : List AObj} {o om i n : Nat} {x z : AObj} (h : own[n]? = some z) : (U2 L Hp o om i x ++ own)[oid Hp.length n]? = some z := by
 unfold oid
 rw [List.getElem?_append_right (by rw [U2_len]; omega), U2_len, Nat.add_sub_cancel_left]
 exact h
theorem oid_ne {n k o : Nat} (h : o < n) : oid n k ≠ o := by unfold oid; omega
theorem Vm (L : List Tok) (m : Mov) (i o om : Nat) (Hp : List AObj) (hne : om ≠ o) (ho : Hp[o]? = some (pmO L i)) (hm : Hp[om]? = some (mvO m)) (hi : i < L.length) (hl : TokEnd L) (hll : L.length ≤ 500000) (hb : MvLe m (2 * i)) : CP 157 [.ptr o 0, .ptr om 0] Hp (De L m i) (fun m' j r H' => r = Jn ∧ H' = U2 L Hp o om j (mvO m')) (W2 L o om Hp) := by
 have hol := (List.getElem?_eq_some_iff.1 ho).1
 have hml := (List.getElem?_eq_some_iff.1 hm).1
 refine ACallP.body [] [0, 1] Tryz.func157 Tryz.ntmps157 (fun d => ?_)
 refine fw ?_;refine R.box ?_;refine Fl ?_;refine ge ?_
 rcases hW : Bf L Zk i with ⟨u, j⟩ | ⟨e, a⟩
 rotate_left
 ·refine AW.seqRK ?_
  refine ARunK.one (R.go (ARun.nil ?_))
  refine RK.callBad Tryz.call123 (La L Zk i o _ (A5 (B1 ho hne)) hi hll |>.bad hW) ?_
  rintro x U O hU hl' ⟨rfl, j', hH⟩
  obtain ⟨rfl, rfl⟩ := Az hU (List.getElem?_eq_some_iff.1 (B1 (L := L) (i := i) (x := mvO m) ho hne)).1 hH
  refine ⟨fun h => B0 h (fun n => Aq), fun o h => (by cases h), ?_⟩
  refine K.thP ?_;exact K.finPP ⟨_, _, by unfold De; rw [hW]; rfl, rfl, j', m, Be hne⟩
 have hj := Dr hl hi _ _ hW
 refine Z2 ?_;refine R.callUp (x := pmO L j) Tryz.call123 (B1 ho hne) (by simp) Aq ((La L Zk i o _ (A5 (B1 ho hne)) hi hll).ok hW) ?_
 rw [Be hne]
 refine Fl ?_
 rcases hP : Eu L ((m.take.map A6).length : Int) (L6 L) m j with ⟨m2, k⟩ | ⟨e, a⟩
 rotate_left
 ·refine W.drawY0 [0, 0, 2, 6, 14, 30, 0, 127] [7] [.q 7 [] [], .s [13] (some 0) [] []] (fun _ => U2 L Hp o om j (mvO m)) (fun B => [.cells 94 [.ptr o 0], .cells 155 [.ptr om 0]] ++ bot (B 0)) Aa (by kernel_rfl) rfl rfl (fun _ => rfl) ?_
  apply Y.q
  case h1 =>
   intro B hT hF
   refine Ki ?_
   refine D.gw (h := Q.loadUp (By hm)) (hr := ?_)
   refine D.go ?_;refine D.makeFunc ?_;exact Km
  case hTF => decide
  refine Y.callBad (own0 := [.cells 94 [.ptr o 0], .cells 155 [.ptr om 0]]) Tryz.call159 (fun B hB => ⟨rfl, by simp [bot, hB]⟩) ((dn L (((m.take.map A6).length : Int)) m j o om 179 [.ptr (oid Hp.length 1) 0, .ptr (oid Hp.length 0) 0] (L6 L) (U2 L Hp o om j (mvO m) ++ [.cells 94 [.ptr o 0], .cells 155 [.ptr om 0]]) hne (A5 (B1 ho hne)) (A5 (By hm)) (by omega) hj.2 hl hll (hb.mono (by omega)) Tryz.call179 (Rh (z := pmO L j) (z' := mvO m) hne (A5 (B1 ho hne)) (A5 (By hm)) (N7 rfl) (N7 rfl) (oid_ne hol) (oid_ne hml) (oid_ne hol) (oid_ne hml) hl hll) (Pe hl hll)).bad hP) ?_ ?_
  ·rintro x U O f hU hl' ⟨rfl, hW2⟩
   obtain ⟨⟨j', m', rfl⟩, rfl⟩ := Df hne hol hml hU hW2
   refine ⟨fun h => Bz hne Bc h, fun o h => (by cases h), ?_⟩
   exact K.finPP ⟨_, _, by unfold De; rw [hW]; show Eu L _ _ m j = _; rw [← hP, List.length_map], rfl, j', m', rfl⟩
  exact lf
 refine W.drawQ0 [0, 0, 2, 6, 14, 30, 0, 127] 7 Aa (by kernel_rfl) ?_;refine Ki ?_
 refine D.gw (h := Q.loadUp (By hm)) (hr := ?_)
 refine D.go ?_;refine D.makeFunc ?_;refine D.tail ?_
 refine R.callX (up' := U2 L Hp o om k (mvO m2)) (own' := [.cells 94 [.ptr o 0], .cells 155 [.ptr om 0]]) Tryz.call159 (((dn L (((m.take.map A6).length : Int)) m j o om 179 [.ptr (oid Hp.length 1) 0, .ptr (oid Hp.length 0) 0] (L6 L) (U2 L Hp o om j (mvO m) ++ [.cells 94 [.ptr o 0], .cells 155 [.ptr om 0]]) hne (A5 (B1 ho hne)) (A5 (By hm)) (by omega) hj.2 hl hll (hb.mono (by omega)) Tryz.call179 (Rh (z := pmO L j) (z' := mvO m) hne (A5 (B1 ho hne)) (A5 (By hm)) (N7 rfl) (N7 rfl) (oid_ne hol) (oid_ne hml) (oid_ne hol) (oid_ne hml) hl hll) (Pe hl hll)).ok hP).mono (fun r H' e => ⟨e.1, e.2.trans (by first | rw [Ci (by rw [U2_len]; exact hol) (by rw [U2_len]; exact hml), Fp hne] | rw [Ci hol hml])⟩)) (by first | rfl | rw [U2_len, U2_len] | rw [U2_len]) (fun h => Bz hne Bc h) ?_
 refine R.fin [] ?_;exact K.finPN .nores (hp := ⟨m2, k, by unfold De; rw [hW]; show Eu L _ _ m j = _; rw [← hP, List.length_map], rfl, rfl⟩)

theorem Rk {L : List Tok} {Hp : List AObj} {o om i : Nat} {m : Mov} {s : Str} {x : AObj} : (U2 L Hp o om i x).set om (.cells 64 [A2 m.kind, .slice true 1 [A6 s], .slice true 2 (m.give.map Ag), .slice true 6 (m.ahead.map A4), .slice true 6 (m.back.map A4)]) = U2 L Hp o om i (mvO (takeS m s)) := U2_setm
theorem Zp {n : Nat} {x : Expr} : Low n (.slice true 6 [.agg (C0 x)]) := by
 have := Cu (n := n) (k := 6) (o := true) (l := [x])
 simp only [List.map_cons, List.map_nil] at this
 rw [Ab] at this
 exact this
theorem Vn {n : Nat} {x : Expr} : Low n (.slice true 6 [A4 x]) := Cu (l := [x])
theorem jz {L : List Tok} {m m1 : Mov} {i k : Nat} (h : Cl L m i = .ok m1 k) : (m1.give.map Ag)[0]? = some (Ag (m1.give.getD 0 ⟨[], 0⟩)) := by
 obtain ⟨c, j, h1, h2⟩ := PR.bind_ok h
 obtain ⟨u, j2, h3, h4⟩ := PR.bind_ok h2
 obtain ⟨x, j3, h5, h6⟩ := PR.bind_ok h4
 injection h6 with h6 h7
 subst h6
 show ((m.give ++ [c]).map Ag)[0]? = some (Ag ((m.give ++ [c]).getD 0 ⟨[], 0⟩))
 cases m.give <;> rfl
section
variable {L : List Tok} {m : Mov} {i : Nat}
theorem k6 (h1 : (m.kind == 1) = true) : Ev L m i = Cl L m i := if_pos h1
theorem Y4 (h1 : (m.kind == 1) = false) (h2 : (m.kind == 2) = true) : Ev L m i = (E8 L i).bind fun s j => De L (takeS m s) j := by
 unfold Ev; rw [if_neg (by rw [h1]; simp), if_pos h2]
theorem k7 (h1 : (m.kind == 1) = false) (h2 : (m.kind == 2) = false) (h3 : (m.kind == 3) = true) : Ev L m i = Fz L m i := by
 unfold Ev; rw [if_neg (by rw [h1]; simp), if_neg (by rw [h2]; simp), if_pos h3]
theorem Pf (h1 : (m.kind == 1) = false) (h2 : (m.kind == 2) = false) (h3 : (m.kind == 3) = false) (h4 : (m.kind == 4) = true) : Ev L m i = (E8 L i).bind fun s j => (Bf L Ez j).bind fun _ j => (Eu L 0 (Cl L) (takeS m s) j).bind fun m j => De L m j := by
 unfold Ev; rw [if_neg (by rw [h1]; simp), if_neg (by rw [h2]; simp), if_neg (by rw [h3]; simp), if_pos h4]
theorem Pg (h1 : (m.kind == 1) = false) (h2 : (m.kind == 2) = false) (h3 : (m.kind == 3) = false) (h4 : (m.kind == 4) = false) (h5 : (m.kind == 5) = true) : Ev L m i = (Eu L 0 (Jm L) m i).bind fun m j => (Bf L Ez j).bind fun _ j => (Cl L m j).bind fun m j => De L m j := by
 unfold Ev; rw [if_neg (by rw [h1]; simp), if_neg (by rw [h2]; simp), if_neg (by rw [h3]; simp), if_neg (by rw [h4]; simp), if_pos h5]
theorem Y5 (h1 : (m.kind == 1) = false) (h2 : (m.kind == 2) = false) (h3 : (m.kind == 3) = false) (h4 : (m.kind == 4) = false) (h5 : (m.kind == 5) = false) (h6 : (m.kind == 6) = true) : Ev L m i = (Cl L m i).bind fun m j => De L (takeS m (m.give.getD 0 ⟨[], 0⟩).name) j := by
 unfold Ev; rw [if_neg (by rw [h1]; simp), if_neg (by rw [h2]; simp), if_neg (by rw [h3]; simp), if_neg (by rw [h4]; simp), if_neg (by rw [h5]; simp), if_pos h6]
theorem rj (h1 : (m.kind == 1) = false) (h2 : (m.kind == 2) = false) (h3 : (m.kind == 3) = false) (h4 : (m.kind == 4) = false) (h5 : (m.kind == 5) = false) (h6 : (m.kind == 6) = false) : Ev L m i = .ok m i := by
 unfold Ev; rw [if_neg (by rw [h1]; simp), if_neg (by rw [h2]; simp), if_neg (by rw [h3]; simp), if_neg (by rw [h4]; simp), if_neg (by rw [h5]; simp), if_neg (by rw [h6]; simp)]
end
theorem vn (L : List Tok) (m : Mov) (i o om : Nat) (Hp : List AObj) (hne : om ≠ o) (ho : Hp[o]? = some (pmO L i)) (hm : Hp[om]? = some (mvO m)) (hi : i < L.length) (hl : TokEnd L) (hll : L.length ≤ 500000) (hb : MvLe m (2 * i - 1)) : CP 158 [.ptr o 0, .ptr om 0] Hp (Fz L m i) (fun m' j r H' => r = Jn ∧ H' = U2 L Hp o om j (mvO m')) (W2 L o om Hp) := by
 refine ACallP.body [] [0, 1] Tryz.func158 Tryz.ntmps158 (fun d => ?_)
 refine ge ?_
 rcases h1 : E8 L i with ⟨s, j⟩ | ⟨e, a⟩
 rotate_left
 ·refine AW.seqRK ?_
  refine ARunK.one (R.go (ARun.nil ?_))
  refine ARunK.one (R.go (ARun.nil ?_))
  refine RK.callBad Tryz.call156 ((N6 L i o _ (A5 (B1 ho hne)) hi hll).bad h1) ?_
  rintro x U O hU hl' ⟨rfl, j', hH⟩
  obtain ⟨rfl, rfl⟩ := Az hU (List.getElem?_eq_some_iff.1 (B1 (L := L) (i := i) (x := mvO m) ho hne)).1 hH
  refine ⟨fun h => B0 h (fun n => Aq), fun o h => (by cases h), ?_⟩
  refine K.thP ?_;exact K.finPP ⟨_, _, by unfold Fz; rw [h1]; rfl, rfl, j', m, Be hne⟩
 have hj := Ew hl hi _ _ h1
 refine Z1 ?_;refine R.callUp (x := pmO L j) Tryz.call156 (B1 ho hne) (by simp) Aq ((N6 L i o _ (A5 (B1 ho hne)) hi hll).ok h1) ?_
 rw [Be hne]
 refine Hw ?_;refine Z0 ?_
 refine R.storeUpT jS (By hm) ?_ ?_
 ·simp [or_imp, forall_and]
 refine R.fin [0, 1] ?_;refine AW.upEq (U2_setm (y := .cells 64 [A2 m.kind, .slice true 1 ([A6 s]), .slice true 2 (m.give.map Ag), .slice true 6 (m.ahead.map A4), .slice true 6 (m.back.map A4)])) ?_
 rcases h2 : Bf L toW j with ⟨u, j2⟩ | ⟨e, a⟩
 rotate_left
 ·refine AW.seqRK ?_
  refine ARunK.one (R.go (ARun.nil ?_))
  refine RK.callBad Tryz.call123 ((La L toW j o _ (A5 (B1 ho hne)) hj.2 hll).bad h2) ?_
  rintro x U O hU hl' ⟨rfl, j', hH⟩
  obtain ⟨rfl, rfl⟩ := Az hU (List.getElem?_eq_some_iff.1 (B1 (L := L) (i := j) (x := .cells 64 [A2 m.kind, .slice true 1 ([A6 s]), .slice true 2 (m.give.map Ag), .slice true 6 (m.ahead.map A4), .slice true 6 (m.back.map A4)]) ho hne)).1 hH
  refine ⟨fun h => B0 h (fun n => Aq), fun o h => (by cases h), ?_⟩
  refine K.thP ?_;exact K.finPP ⟨_, _, by unfold Fz; rw [h1]; show (Bf L toW j).bind _ = _; rw [h2]; rfl, rfl, j', (⟨m.kind, [s], m.give, m.ahead, m.back⟩ : Mov), Be hne⟩
 have hj2 := Dr hl hj.2 _ _ h2
 refine Z2 ?_;refine R.callUp (x := pmO L j2) Tryz.call123 (B1 ho hne) (by simp) Aq ((La L toW j o _ (A5 (B1 ho hne)) hj.2 hll).ok h2) ?_
 rw [Be hne]
 refine R.fin [0, 1] ?_
 rcases h3 : E8 L j2 with ⟨t, k⟩ | ⟨e, a⟩
 rotate_left
 ·refine AW.seqRK ?_
  refine ARunK.one (R.go (ARun.nil ?_))
  refine RK.callBad Tryz.call156 ((N6 L j2 o _ (A5 (B1 ho hne)) hj2.2 hll).bad h3) ?_
  rintro x U O hU hl' ⟨rfl, j', hH⟩
  obtain ⟨rfl, rfl⟩ := Az hU (List.getElem?_eq_some_iff.1 (B1 (L := L) (i := j2) (x := .cells 64 [A2 m.kind, .slice true 1 ([A6 s]), .slice true 2 (m.give.map Ag), .slice true 6 (m.ahead.map A4), .slice true 6 (m.back.map A4)]) ho hne)).1 hH
  refine ⟨fun h => B0 h (fun n => Aq), fun o h => (by cases h), ?_⟩
  refine K.thP ?_;exact K.finPP ⟨_, _, by unfold Fz; rw [h1]; show (Bf L toW j).bind _ = _; rw [h2]; show (E8 L j2).bind _ = _; rw [h3]; rfl, rfl, j', (⟨m.kind, [s], m.give, m.ahead, m.back⟩ : Mov), Be hne⟩
 refine Z2 ?_;refine R.callUp (x := pmO L k) Tryz.call156 (B1 ho hne) (by simp) Aq ((N6 L j2 o _ (A5 (B1 ho hne)) hj2.2 hll).ok h3) ?_
 rw [Be hne]
 refine R.go ?_;refine R.fin [1, 4] ?_;refine Z1 ?_;refine Tx ?_;refine Hw ?_;refine Z0 ?_
 refine R.storeUpT jS (By hm) ?_ ?_
 ·simp [or_imp, forall_and]
 refine R.fin [1, 4] ?_;refine AW.upEq (U2_setm (y := .cells 64 [A2 m.kind, .slice true 1 ([A6 s]), .slice true 2 ([Ag ⟨t, 0⟩]), .slice true 6 (m.ahead.map A4), .slice true 6 (m.back.map A4)])) ?_;refine Z12 ?_;refine Z24 ?_
 refine R.gw (h := Q.loadUp (By hm)) (hr := ?_)
 refine R.gw (h := Q.indexAddr (0) (A6 s) (fun _ => rfl)) (hr := ?_)
 refine R.go ?_;refine R.call Tryz.call130 (n6 s _) ?_;refine Hw ?_;refine R.go ?_;refine R.call Tryz.call130 (n6 t _) ?_;refine Hw ?_;refine Z0 ?_
 refine R.storeUpT jS (By hm) ?_ ?_
 ·first | exact Zp | exact Vn
 rw [U2_setm]
 refine Z0 ?_
 refine R.storeUpT jS (By hm) ?_ ?_
 ·first | exact Zp | exact Vn
 rw [U2_setm]
 refine R.fin [] ?_;exact K.finPN .nores (hp := ⟨⟨m.kind, [s], [⟨t, 0⟩], [Bw s], [Bw t]⟩, k, by unfold Fz; rw [h1]; show (Bf L toW j).bind _ = _; rw [h2]; show (E8 L j2).bind _ = _; rw [h3]; rfl, rfl, by simp only [mvO, mvC, List.map_cons, List.map_nil, Ab]⟩)

theorem dp {L : List Tok} {Hp : List AObj} {o om i : Nat} {m : Mov} {c : Col} {x : AObj} : (U2 L Hp o om i x).set om (.cells 64 [A2 m.kind, .slice true 1 [A6 c.name], .slice true 2 (m.give.map Ag), .slice true 6 (m.ahead.map A4), .slice true 6 (m.back.map A4)]) = U2 L Hp o om i (mvO (takeS m c.name)) := U2_setm
theorem vo (L : List Tok) (m : Mov) (i o om : Nat) (Hp : List AObj) (hne : om ≠ o) (ho : Hp[o]? = some (pmO L i)) (hm : Hp[om]? = some (mvO m)) (hi : i < L.length) (hl : TokEnd L) (hll : L.length ≤ 500000) (hb : MvLe m (2 * i - 1)) (h0 : 0 < i) : CP 122 [.ptr o 0, .ptr om 0] Hp (Ev L m i) (fun m' j r H' => r = Jn ∧ H' = U2 L Hp o om j (mvO m')) (W2 L o om Hp) := by
 have hol := (List.getElem?_eq_some_iff.1 ho).1
 have hml := (List.getElem?_eq_some_iff.1 hm).1
 refine ACallP.body [] [0, 1] Tryz.func122 Tryz.ntmps122 (fun d => ?_)
 refine fw ?_;refine R.box ?_;refine Fl ?_;refine ge ?_;refine Z20 ?_
 refine R.gw (h := Q.loadUp (By hm)) (hr := ?_)
 refine R.fin [2, 3, 7] ?_;refine Ns ?_;refine R.fin [2, 3, 7, 8] ?_
 refine W.cond (fun ht8 => ?_) (fun ht8 => ?_)
 ·rcases h1 : Cl L m i with ⟨m1, k⟩ | ⟨e, a⟩
  rotate_left
  ·refine AW.regionK ?_
   refine ARunK.one (R.go (ARun.nil ?_))
   refine ARunK.one (R.go (ARun.nil ?_))
   refine ub ?_
   rintro x U O hU hl' ⟨rfl, hW2⟩
   obtain ⟨⟨j', m', rfl⟩, rfl⟩ := Df hne hol hml hU hW2
   refine ⟨fun h => Bz hne Bc h, fun o h => (by cases h), ?_⟩
   refine K.blP ?_;exact K.finPP ⟨_, _, by rw [k6 ht8]; rw [h1], rfl, j', m', rfl⟩
  refine Z12 ?_
  refine R.callX (up' := U2 L Hp o om k (mvO m1)) (own' := [.cells 94 [.ptr o 0], .cells 155 [.ptr om 0]]) Tryz.call155 (((Y3 L m i o om (U2 L Hp o om i (mvO m) ++ [.cells 94 [.ptr o 0], .cells 155 [.ptr om 0]]) hne (A5 (B1 ho hne)) (A5 (By hm)) hi hl hll hb).ok h1).mono (fun r H' e => ⟨e.1, e.2.trans (by first | rw [Ci (by rw [U2_len]; exact hol) (by rw [U2_len]; exact hml), Fp hne] | rw [Ci hol hml])⟩)) (by first | rfl | rw [U2_len, U2_len] | rw [U2_len]) (fun h => Bz hne Bc h) ?_
  refine Z93 ?_;exact K.finPN .nores (hp := ⟨m1, k, by rw [k6 ht8]; rw [h1], rfl, rfl⟩)
 refine Z1 ?_;refine R.fin [2, 3, 7, 13] ?_
 refine W.cond (fun ht13 => ?_) (fun ht13 => ?_)
 ·rcases h1 : E8 L i with ⟨s, j⟩ | ⟨e, a⟩
  rotate_left
  ·refine W.drawY [0, 0, 2, 6, 15, 31, 63] [2] [.q 2 [] [], .s [17] (some 0) [] [], .s [] none [0] [], .s [] none [0] [], .s [] none [0] [], .s [] none [0] []] (fun _ => U2 L Hp o om i (mvO m)) (fun B => [.cells 94 [.ptr o 0], .cells 155 [.ptr om 0]] ++ bot (B 0)) Aa (by kernel_rfl) rfl rfl (fun _ => rfl) ?_
   apply Y.q
   case h1 =>
    intro B hT hF
    exact Z66
   case hTF => decide
   refine Y.callBad (own0 := [.cells 94 [.ptr o 0], .cells 155 [.ptr om 0]]) Tryz.call156 (fun B hB => ⟨rfl, by simp [bot, hB]⟩) ((N6 L i o _ (A5 (B1 ho hne)) hi hll).bad h1) ?_ ?_
   ·rintro x U O f hU hl' ⟨rfl, j', hH⟩
    obtain ⟨rfl, rfl⟩ := Az hU (List.getElem?_eq_some_iff.1 (B1 (L := L) (i := i) (x := mvO m) ho hne)).1 hH
    refine ⟨fun h => B0 h (fun n => Aq), fun o h => (by cases h), ?_⟩
    refine K.blP ?_;exact K.finPP ⟨_, _, by rw [Y4 ht8 ht13]; rw [h1]; rfl, rfl, j', m, Be hne⟩
   exact ky
  have hj := Ew hl hi _ _ h1
  refine W.drawY [0, 0, 2, 6, 15, 31, 63] [2] [.q 2 [] [], .s [17] (some 0) [] [], .s [18] none [0] []] (fun B => U2 L Hp o om (if B 0 = true then j else i) (mvO m)) (fun _ => [.cells 94 [.ptr o 0], .cells 155 [.ptr om 0]]) Aa (by kernel_rfl) rfl rfl (fun B => by rw [U2_len]; exact U2_len.symm) ?_
  apply Y.q
  case h1 =>
   intro B hT hF
   exact Z66
  case hTF => decide
  refine Y.callUp (r := A6 s) (o := o) (x0 := pmO L i) (x := pmO L j) Tryz.call156 (fun B hB1 hB2 hB => ⟨by simp only [hB]; exact B1 ho hne, (Be hne).symm, rfl, Aq, ?_⟩) ?_
  ·simp only [hB]
   exact (N6 L i o _ (A5 (B1 ho hne)) hi hll).ok h1
  refine se ?_;refine Z0 ?_
  refine R.storeUpT jS (By hm) ?_ ?_
  ·simp [or_imp, forall_and]
  refine Fl ?_;refine AW.upEq (Rk (m := m) (s := s)) ?_
  rcases h2 : De L (takeS m s) j with ⟨m2, k⟩ | ⟨e, a⟩
  rotate_left
  ·refine AW.regionK ?_
   refine ARunK.one (R.go (ARun.nil ?_))
   refine ARunK.one (R.go (ARun.nil ?_))
   refine RK.callBad Tryz.call157 ((Vm L (takeS m s) j o om (U2 L Hp o om j (mvO (takeS m s)) ++ [.cells 94 [.ptr o 0], .cells 155 [.ptr om 0]]) hne (A5 (B1 ho hne)) (A5 (By hm)) hj.2 hl hll ((hb.mono (by omega : 2 * i - 1 ≤ 2 * j)).takeS (by omega))).bad h2) ?_
   rintro x U O hU hl' ⟨rfl, hW2⟩
   obtain ⟨⟨j', m', rfl⟩, rfl⟩ := Df hne hol hml hU hW2
   refine ⟨fun h => Bz hne Bc h, fun o h => (by cases h), ?_⟩
   refine K.blP ?_;exact K.finPP ⟨_, _, by rw [Y4 ht8 ht13]; rw [h1]; show De L (takeS m s) j = _; rw [h2], rfl, j', m', rfl⟩
  refine Z12 ?_
  refine R.callX (up' := U2 L Hp o om k (mvO m2)) (own' := [.cells 94 [.ptr o 0], .cells 155 [.ptr om 0]]) Tryz.call157 (((Vm L (takeS m s) j o om (U2 L Hp o om j (mvO (takeS m s)) ++ [.cells 94 [.ptr o 0], .cells 155 [.ptr om 0]]) hne (A5 (B1 ho hne)) (A5 (By hm)) hj.2 hl hll ((hb.mono (by omega : 2 * i - 1 ≤ 2 * j)).takeS (by omega))).ok h2).mono (fun r H' e => ⟨e.1, e.2.trans (by first | rw [Ci (by rw [U2_len]; exact hol) (by rw [U2_len]; exact hml), Fp hne] | rw [Ci hol hml])⟩)) (by first | rfl | rw [U2_len, U2_len] | rw [U2_len]) (fun h => Bz hne Bc h) ?_
  refine Z93 ?_;exact K.finPN .nores (hp := ⟨m2, k, by rw [Y4 ht8 ht13]; rw [h1]; show De L (takeS m s) j = _; rw [h2], rfl, rfl⟩)
 refine Z1 ?_;refine R.fin [2, 3, 7, 24] ?_
 refine W.cond (fun ht24 => ?_) (fun ht24 => ?_)
 ·rcases h1 : Fz L m i with ⟨m1, k⟩ | ⟨e, a⟩
  rotate_left
  ·refine AW.regionK ?_
   refine ARunK.one (R.go (ARun.nil ?_))
   refine ARunK.one (R.go (ARun.nil ?_))
   refine RK.callBad Tryz.call158 ((vn L m i o om (U2 L Hp o om i (mvO m) ++ [.cells 94 [.ptr o 0], .cells 155 [.ptr om 0]]) hne (A5 (B1 ho hne)) (A5 (By hm)) hi hl hll hb).bad h1) ?_
   rintro x U O hU hl' ⟨rfl, hW2⟩
   obtain ⟨⟨j', m', rfl⟩, rfl⟩ := Df hne hol hml hU hW2
   refine ⟨fun h => Bz hne Bc h, fun o h => (by cases h), ?_⟩
   refine K.blP ?_;exact K.finPP ⟨_, _, by rw [k7 ht8 ht13 ht24]; rw [h1], rfl, j', m', rfl⟩
  refine Z12 ?_
  refine R.callX (up' := U2 L Hp o om k (mvO m1)) (own' := [.cells 94 [.ptr o 0], .cells 155 [.ptr om 0]]) Tryz.call158 (((vn L m i o om (U2 L Hp o om i (mvO m) ++ [.cells 94 [.ptr o 0], .cells 155 [.ptr om 0]]) hne (A5 (B1 ho hne)) (A5 (By hm)) hi hl hll hb).ok h1).mono (fun r H' e => ⟨e.1, e.2.trans (by first | rw [Ci (by rw [U2_len]; exact hol) (by rw [U2_len]; exact hml), Fp hne] | rw [Ci hol hml])⟩)) (by first | rfl | rw [U2_len, U2_len] | rw [U2_len]) (fun h => Bz hne Bc h) ?_
  refine Z93 ?_;exact K.finPN .nores (hp := ⟨m1, k, by rw [k7 ht8 ht13 ht24]; rw [h1], rfl, rfl⟩)
 refine Z1 ?_;refine R.fin [2, 3, 7, 29] ?_
 refine W.cond (fun ht29 => ?_) (fun ht29 => ?_)
 ·rcases h1 : E8 L i with ⟨s, j⟩ | ⟨e, a⟩
  rotate_left
  ·refine W.drawY [0, 0, 2, 6, 15, 31, 63] [2] [.q 2 [] [], .s [33] (some 0) [] [], .s [] none [0] [], .s [] none [0] [], .s [] none [0] [], .s [] none [0] []] (fun _ => U2 L Hp o om i (mvO m)) (fun B => [.cells 94 [.ptr o 0], .cells 155 [.ptr om 0]] ++ bot (B 0)) Aa (by kernel_rfl) rfl rfl (fun _ => rfl) ?_
   apply Y.q
   case h1 =>
    intro B hT hF
    exact Z66
   case hTF => decide
   refine Y.callBad (own0 := [.cells 94 [.ptr o 0], .cells 155 [.ptr om 0]]) Tryz.call156 (fun B hB => ⟨rfl, by simp [bot, hB]⟩) ((N6 L i o _ (A5 (B1 ho hne)) hi hll).bad h1) ?_ ?_
   ·rintro x U O f hU hl' ⟨rfl, j', hH⟩
    obtain ⟨rfl, rfl⟩ := Az hU (List.getElem?_eq_some_iff.1 (B1 (L := L) (i := i) (x := mvO m) ho hne)).1 hH
    refine ⟨fun h => B0 h (fun n => Aq), fun o h => (by cases h), ?_⟩
    refine K.blP ?_;exact K.finPP ⟨_, _, by rw [Pf ht8 ht13 ht24 ht29]; rw [h1]; rfl, rfl, j', m, Be hne⟩
   exact ky
  have hj := Ew hl hi _ _ h1
  refine W.drawY [0, 0, 2, 6, 15, 31, 63] [2] [.q 2 [] [], .s [33] (some 0) [] [], .s [34] none [0] []] (fun B => U2 L Hp o om (if B 0 = true then j else i) (mvO m)) (fun _ => [.cells 94 [.ptr o 0], .cells 155 [.ptr om 0]]) Aa (by kernel_rfl) rfl rfl (fun B => by rw [U2_len]; exact U2_len.symm) ?_
  apply Y.q
  case h1 =>
   intro B hT hF
   exact Z66
  case hTF => decide
  refine Y.callUp (r := A6 s) (o := o) (x0 := pmO L i) (x := pmO L j) Tryz.call156 (fun B hB1 hB2 hB => ⟨by simp only [hB]; exact B1 ho hne, (Be hne).symm, rfl, Aq, ?_⟩) ?_
  ·simp only [hB]
   exact (N6 L i o _ (A5 (B1 ho hne)) hi hll).ok h1
  refine se ?_;refine Z0 ?_
  refine R.storeUpT jS (By hm) ?_ ?_
  ·simp [or_imp, forall_and]
  refine Fl ?_;refine AW.upEq (Rk (m := m) (s := s)) ?_
  rcases h2 : Bf L Ez j with ⟨u, j2⟩ | ⟨e, a⟩
  rotate_left
  ·refine AW.seqRK ?_
   refine ARunK.one (R.go (ARun.nil ?_))
   refine RK.callBad Tryz.call123 ((La L Ez j o _ (A5 (B1 ho hne)) hj.2 hll).bad h2) ?_
   rintro x U O hU hl' ⟨rfl, j', hH⟩
   obtain ⟨rfl, rfl⟩ := Az hU (List.getElem?_eq_some_iff.1 (B1 (L := L) (i := j) (x := mvO (takeS m s)) ho hne)).1 hH
   refine ⟨fun h => B0 h (fun n => Aq), fun o h => (by cases h), ?_⟩
   refine Ts ?_;exact K.finPP ⟨_, _, by rw [Pf ht8 ht13 ht24 ht29]; rw [h1]; show (Bf L Ez j).bind _ = _; rw [h2]; rfl, rfl, j', (takeS m s), Be hne⟩
  have hj2 := Dr hl hj.2 _ _ h2
  refine Z2 ?_;refine R.callUp (x := pmO L j2) Tryz.call123 (B1 ho hne) (by simp) Aq ((La L Ez j o _ (A5 (B1 ho hne)) hj.2 hll).ok h2) ?_
  rw [Be hne]
  refine Fl ?_
  rcases h3 : Eu L 0 (Cl L) (takeS m s) j2 with ⟨m1, j3⟩ | ⟨e, a⟩
  rotate_left
  ·refine AW.seqRK ?_
   refine ARunK.one (R.go (ARun.nil ?_))
   refine ARunK.one (R.makeFunc (ARun.nil ?_))
   refine RK.callBad Tryz.call159 ((dn L (0) (takeS m s) j2 o om 160 [.ptr (oid Hp.length 0) 0, .ptr (oid Hp.length 1) 0] (Cl L) (U2 L Hp o om j2 (mvO (takeS m s)) ++ [.cells 94 [.ptr o 0], .cells 155 [.ptr om 0]]) hne (A5 (B1 ho hne)) (A5 (By hm)) (by omega) hj2.2 hl hll ((hb.mono (by omega : 2 * i - 1 ≤ 2 * j2 - 1)).takeS (by omega)) Tryz.call160 (Rj (z := pmO L j2) (z' := mvO (takeS m s)) hne (A5 (B1 ho hne)) (A5 (By hm)) (N7 rfl) (N7 rfl) (oid_ne hol) (oid_ne hml) (oid_ne hol) (oid_ne hml) hl hll) (G6 hl hll)).bad h3) ?_
   rintro x U O hU hl' ⟨rfl, hW2⟩
   obtain ⟨⟨j', m', rfl⟩, rfl⟩ := Df hne hol hml hU hW2
   refine ⟨fun h => Bz hne Bc h, fun o h => (by cases h), ?_⟩
   refine Ts ?_;exact K.finPP ⟨_, _, by rw [Pf ht8 ht13 ht24 ht29]; rw [h1]; show (Bf L Ez j).bind _ = _; rw [h2]; show (Eu L 0 (Cl L) (takeS m s) j2).bind _ = _; rw [h3]; rfl, rfl, j', m', rfl⟩
  have hj3 := L9 hl (G6 hl hll) (takeS m s) j2 ((hb.mono (by omega : 2 * i - 1 ≤ 2 * j2 - 1)).takeS (by omega)) (by omega) hj2.2 _ _ h3
  refine Z2 ?_;refine Ja ?_
  refine R.callX (up' := U2 L Hp o om j3 (mvO m1)) (own' := [.cells 94 [.ptr o 0], .cells 155 [.ptr om 0]]) Tryz.call159 (((dn L (0) (takeS m s) j2 o om 160 [.ptr (oid Hp.length 0) 0, .ptr (oid Hp.length 1) 0] (Cl L) (U2 L Hp o om j2 (mvO (takeS m s)) ++ [.cells 94 [.ptr o 0], .cells 155 [.ptr om 0]]) hne (A5 (B1 ho hne)) (A5 (By hm)) (by omega) hj2.2 hl hll ((hb.mono (by omega : 2 * i - 1 ≤ 2 * j2 - 1)).takeS (by omega)) Tryz.call160 (Rj (z := pmO L j2) (z' := mvO (takeS m s)) hne (A5 (B1 ho hne)) (A5 (By hm)) (N7 rfl) (N7 rfl) (oid_ne hol) (oid_ne hml) (oid_ne hol) (oid_ne hml) hl hll) (G6 hl hll)).ok h3).mono (fun r H' e => ⟨e.1, e.2.trans (by first | rw [Ci (by rw [U2_len]; exact hol) (by rw [U2_len]; exact hml), Fp hne] | rw [Ci hol hml])⟩)) (by first | rfl | rw [U2_len, U2_len] | rw [U2_len]) (fun h => Bz hne Bc h) ?_
  refine Fl ?_
  rcases h4 : De L m1 j3 with ⟨m2, k⟩ | ⟨e, a⟩
  rotate_left
  ·refine AW.regionK ?_
   refine ARunK.one (R.go (ARun.nil ?_))
   refine ARunK.one (R.go (ARun.nil ?_))
   refine RK.callBad Tryz.call157 ((Vm L m1 j3 o om (U2 L Hp o om j3 (mvO m1) ++ [.cells 94 [.ptr o 0], .cells 155 [.ptr om 0]]) hne (A5 (B1 ho hne)) (A5 (By hm)) hj3.2.1 hl hll hj3.2.2).bad h4) ?_
   rintro x U O hU hl' ⟨rfl, hW2⟩
   obtain ⟨⟨j', m', rfl⟩, rfl⟩ := Df hne hol hml hU hW2
   refine ⟨fun h => Bz hne Bc h, fun o h => (by cases h), ?_⟩
   refine K.blP ?_;exact K.finPP ⟨_, _, by rw [Pf ht8 ht13 ht24 ht29]; rw [h1]; show (Bf L Ez j).bind _ = _; rw [h2]; show (Eu L 0 (Cl L) (takeS m s) j2).bind _ = _; rw [h3]; show De L m1 j3 = _; rw [h4], rfl, j', m', rfl⟩
  refine Z12 ?_
  refine R.callX (up' := U2 L Hp o om k (mvO m2)) (own' := [.cells 94 [.ptr o 0], .cells 155 [.ptr om 0]]) Tryz.call157 (((Vm L m1 j3 o om (U2 L Hp o om j3 (mvO m1) ++ [.cells 94 [.ptr o 0], .cells 155 [.ptr om 0]]) hne (A5 (B1 ho hne)) (A5 (By hm)) hj3.2.1 hl hll hj3.2.2).ok h4).mono (fun r H' e => ⟨e.1, e.2.trans (by first | rw [Ci (by rw [U2_len]; exact hol) (by rw [U2_len]; exact hml), Fp hne] | rw [Ci hol hml])⟩)) (by first | rfl | rw [U2_len, U2_len] | rw [U2_len]) (fun h => Bz hne Bc h) ?_
  refine Z93 ?_;exact K.finPN .nores (hp := ⟨m2, k, by rw [Pf ht8 ht13 ht24 ht29]; rw [h1]; show (Bf L Ez j).bind _ = _; rw [h2]; show (Eu L 0 (Cl L) (takeS m s) j2).bind _ = _; rw [h3]; show De L m1 j3 = _; rw [h4], rfl, rfl⟩)
 refine Z1 ?_;refine R.fin [2, 3, 7, 45] ?_
 refine W.cond (fun ht45 => ?_) (fun ht45 => ?_)
 ·rcases h1 : Eu L 0 (Jm L) m i with ⟨m1, j⟩ | ⟨e, a⟩
  rotate_left
  ·refine AW.seqRK ?_
   refine ARunK.one (R.go (ARun.nil ?_))
   refine ARunK.one (R.makeFunc (ARun.nil ?_))
   refine RK.callBad Tryz.call159 ((dn L (0) m i o om 161 [.ptr (oid Hp.length 1) 0, .ptr (oid Hp.length 0) 0] (Jm L) (U2 L Hp o om i (mvO m) ++ [.cells 94 [.ptr o 0], .cells 155 [.ptr om 0]]) hne (A5 (B1 ho hne)) (A5 (By hm)) h0 hi hl hll hb Tryz.call161 (Ri (z := pmO L i) (z' := mvO m) hne (A5 (B1 ho hne)) (A5 (By hm)) (N7 rfl) (N7 rfl) (oid_ne hol) (oid_ne hml) (oid_ne hol) (oid_ne hml) hl hll) (L8 hl)).bad h1) ?_
   rintro x U O hU hl' ⟨rfl, hW2⟩
   obtain ⟨⟨j', m', rfl⟩, rfl⟩ := Df hne hol hml hU hW2
   refine ⟨fun h => Bz hne Bc h, fun o h => (by cases h), ?_⟩
   refine Ts ?_;exact K.finPP ⟨_, _, by rw [Pg ht8 ht13 ht24 ht29 ht45]; rw [h1]; rfl, rfl, j', m', rfl⟩
  have hj := L9 hl (L8 hl) m i hb h0 hi _ _ h1
  refine Z2 ?_;refine Ja ?_
  refine R.callX (up' := U2 L Hp o om j (mvO m1)) (own' := [.cells 94 [.ptr o 0], .cells 155 [.ptr om 0]]) Tryz.call159 (((dn L (0) m i o om 161 [.ptr (oid Hp.length 1) 0, .ptr (oid Hp.length 0) 0] (Jm L) (U2 L Hp o om i (mvO m) ++ [.cells 94 [.ptr o 0], .cells 155 [.ptr om 0]]) hne (A5 (B1 ho hne)) (A5 (By hm)) h0 hi hl hll hb Tryz.call161 (Ri (z := pmO L i) (z' := mvO m) hne (A5 (B1 ho hne)) (A5 (By hm)) (N7 rfl) (N7 rfl) (oid_ne hol) (oid_ne hml) (oid_ne hol) (oid_ne hml) hl hll) (L8 hl)).ok h1).mono (fun r H' e => ⟨e.1, e.2.trans (by first | rw [Ci (by rw [U2_len]; exact hol) (by rw [U2_len]; exact hml), Fp hne] | rw [Ci hol hml])⟩)) (by first | rfl | rw [U2_len, U2_len] | rw [U2_len]) (fun h => Bz hne Bc h) ?_
  refine Fl ?_
  rcases h2 : Bf L Ez j with ⟨u, j2⟩ | ⟨e, a⟩
  rotate_left
  ·refine AW.seqRK ?_
   refine ARunK.one (R.go (ARun.nil ?_))
   refine RK.callBad Tryz.call123 ((La L Ez j o _ (A5 (B1 ho hne)) hj.2.1 hll).bad h2) ?_
   rintro x U O hU hl' ⟨rfl, j', hH⟩
   obtain ⟨rfl, rfl⟩ := Az hU (List.getElem?_eq_some_iff.1 (B1 (L := L) (i := j) (x := mvO m1) ho hne)).1 hH
   refine ⟨fun h => B0 h (fun n => Aq), fun o h => (by cases h), ?_⟩
   refine Ts ?_;exact K.finPP ⟨_, _, by rw [Pg ht8 ht13 ht24 ht29 ht45]; rw [h1]; show (Bf L Ez j).bind _ = _; rw [h2]; rfl, rfl, j', m1, Be hne⟩
  have hj2 := Dr hl hj.2.1 _ _ h2
  have hj2e := Hs h2
  refine Z2 ?_;refine R.callUp (x := pmO L j2) Tryz.call123 (B1 ho hne) (by simp) Aq ((La L Ez j o _ (A5 (B1 ho hne)) hj.2.1 hll).ok h2) ?_
  rw [Be hne]
  refine Fl ?_
  rcases h3 : Cl L m1 j2 with ⟨m2, j3⟩ | ⟨e, a⟩
  rotate_left
  ·refine AW.seqRK ?_
   refine ARunK.one (R.go (ARun.nil ?_))
   refine ARunK.one (R.go (ARun.nil ?_))
   refine RK.callBad Tryz.call155 ((Y3 L m1 j2 o om (U2 L Hp o om j2 (mvO m1) ++ [.cells 94 [.ptr o 0], .cells 155 [.ptr om 0]]) hne (A5 (B1 ho hne)) (A5 (By hm)) hj2.2 hl hll (hj.2.2.mono (by omega))).bad h3) ?_
   rintro x U O hU hl' ⟨rfl, hW2⟩
   obtain ⟨⟨j', m', rfl⟩, rfl⟩ := Df hne hol hml hU hW2
   refine ⟨fun h => Bz hne Bc h, fun o h => (by cases h), ?_⟩
   refine Ts ?_;exact K.finPP ⟨_, _, by rw [Pg ht8 ht13 ht24 ht29 ht45]; rw [h1]; show (Bf L Ez j).bind _ = _; rw [h2]; show (Cl L m1 j2).bind _ = _; rw [h3]; rfl, rfl, j', m', rfl⟩
  have hj3 := G6 hl hll m1 j2 (hj.2.2.mono (by omega)) (by omega) hj2.2 _ _ h3
  refine Z1 ?_
  refine R.callX (up' := U2 L Hp o om j3 (mvO m2)) (own' := [.cells 94 [.ptr o 0], .cells 155 [.ptr om 0]]) Tryz.call155 (((Y3 L m1 j2 o om (U2 L Hp o om j2 (mvO m1) ++ [.cells 94 [.ptr o 0], .cells 155 [.ptr om 0]]) hne (A5 (B1 ho hne)) (A5 (By hm)) hj2.2 hl hll (hj.2.2.mono (by omega))).ok h3).mono (fun r H' e => ⟨e.1, e.2.trans (by first | rw [Ci (by rw [U2_len]; exact hol) (by rw [U2_len]; exact hml), Fp hne] | rw [Ci hol hml])⟩)) (by first | rfl | rw [U2_len, U2_len] | rw [U2_len]) (fun h => Bz hne Bc h) ?_
  refine Fl ?_
  rcases h4 : De L m2 j3 with ⟨m3, k⟩ | ⟨e, a⟩
  rotate_left
  ·refine AW.regionK ?_
   refine ARunK.one (R.go (ARun.nil ?_))
   refine ARunK.one (R.go (ARun.nil ?_))
   refine RK.callBad Tryz.call157 ((Vm L m2 j3 o om (U2 L Hp o om j3 (mvO m2) ++ [.cells 94 [.ptr o 0], .cells 155 [.ptr om 0]]) hne (A5 (B1 ho hne)) (A5 (By hm)) hj3.2.1 hl hll hj3.2.2).bad h4) ?_
   rintro x U O hU hl' ⟨rfl, hW2⟩
   obtain ⟨⟨j', m', rfl⟩, rfl⟩ := Df hne hol hml hU hW2
   refine ⟨fun h => Bz hne Bc h, fun o h => (by cases h), ?_⟩
   refine K.blP ?_;exact K.finPP ⟨_, _, by rw [Pg ht8 ht13 ht24 ht29 ht45]; rw [h1]; show (Bf L Ez j).bind _ = _; rw [h2]; show (Cl L m1 j2).bind _ = _; rw [h3]; show De L m2 j3 = _; rw [h4], rfl, j', m', rfl⟩
  refine Z12 ?_
  refine R.callX (up' := U2 L Hp o om k (mvO m3)) (own' := [.cells 94 [.ptr o 0], .cells 155 [.ptr om 0]]) Tryz.call157 (((Vm L m2 j3 o om (U2 L Hp o om j3 (mvO m2) ++ [.cells 94 [.ptr o 0], .cells 155 [.ptr om 0]]) hne (A5 (B1 ho hne)) (A5 (By hm)) hj3.2.1 hl hll hj3.2.2).ok h4).mono (fun r H' e => ⟨e.1, e.2.trans (by first | rw [Ci (by rw [U2_len]; exact hol) (by rw [U2_len]; exact hml), Fp hne] | rw [Ci hol hml])⟩)) (by first | rfl | rw [U2_len, U2_len] | rw [U2_len]) (fun h => Bz hne Bc h) ?_
  refine Z93 ?_;exact K.finPN .nores (hp := ⟨m3, k, by rw [Pg ht8 ht13 ht24 ht29 ht45]; rw [h1]; show (Bf L Ez j).bind _ = _; rw [h2]; show (Cl L m1 j2).bind _ = _; rw [h3]; show De L m2 j3 = _; rw [h4], rfl, rfl⟩)
 refine Z1 ?_;refine R.fin [2, 3, 58] ?_
 refine W.cond (fun ht58 => ?_) (fun ht58 => ?_)
 ·rcases h1 : Cl L m i with ⟨m1, j⟩ | ⟨e, a⟩
  rotate_left
  ·refine AW.seqRK ?_
   refine ARunK.one (R.go (ARun.nil ?_))
   refine ARunK.one (R.go (ARun.nil ?_))
   refine ub ?_
   rintro x U O hU hl' ⟨rfl, hW2⟩
   obtain ⟨⟨j', m', rfl⟩, rfl⟩ := Df hne hol hml hU hW2
   refine ⟨fun h => Bz hne Bc h, fun o h => (by cases h), ?_⟩
   refine Ts ?_;exact K.finPP ⟨_, _, by rw [Y5 ht8 ht13 ht24 ht29 ht45 ht58]; rw [h1]; rfl, rfl, j', m', rfl⟩
  have hj := G6 hl hll m i hb h0 hi _ _ h1
  refine Z1 ?_
  refine R.callX (up' := U2 L Hp o om j (mvO m1)) (own' := [.cells 94 [.ptr o 0], .cells 155 [.ptr om 0]]) Tryz.call155 (((Y3 L m i o om (U2 L Hp o om i (mvO m) ++ [.cells 94 [.ptr o 0], .cells 155 [.ptr om 0]]) hne (A5 (B1 ho hne)) (A5 (By hm)) hi hl hll hb).ok h1).mono (fun r H' e => ⟨e.1, e.2.trans (by first | rw [Ci (by rw [U2_len]; exact hol) (by rw [U2_len]; exact hml), Fp hne] | rw [Ci hol hml])⟩)) (by first | rfl | rw [U2_len, U2_len] | rw [U2_len]) (fun h => Bz hne Bc h) ?_
  refine Fl ?_;refine W.drawY [0, 0, 2, 6, 14, 30, 62, 126, 254, 511, 1023, 2047] [] [.q 8 [] [], .s [71] none [] []] (fun _ => U2 L Hp o om j (mvO m1)) (fun _ => [.cells 94 [.ptr o 0], .cells 155 [.ptr om 0]]) Aa (by kernel_rfl) rfl rfl (fun B => rfl) ?_
  apply Y.q
  case h1 =>
   intro B hT hF
   refine Ki ?_
   refine D.gw (h := Q.loadUp (By hm)) (hr := ?_)
   refine D.gw (h := Q.indexAddr (0) (Ag (m1.give.getD 0 ⟨[], 0⟩)) (fun _ => jz h1)) (hr := ?_)
   exact Z66
  case hTF => decide
  refine Y.buildSlice jU Tryz.sizeOf9 Tryz.zeroValue9 ?_;refine Y.tail (tn := []) (U := U2 L Hp o om j (mvO m1)) ?_;refine Z0 ?_
  refine R.storeUpT jS (By hm) ?_ ?_
  ·simp [or_imp, forall_and]
  refine Fl ?_;refine AW.upEq (dp (m := m1) (c := m1.give.getD 0 ⟨[], 0⟩)) ?_
  rcases h2 : De L (takeS m1 (m1.give.getD 0 ⟨[], 0⟩).name) j with ⟨m2, k⟩ | ⟨e, a⟩
  rotate_left
  ·refine AW.regionK ?_
   refine ARunK.one (R.go (ARun.nil ?_))
   refine ARunK.one (R.go (ARun.nil ?_))
   refine RK.callBad Tryz.call157 ((Vm L (takeS m1 (m1.give.getD 0 ⟨[], 0⟩).name) j o om (U2 L Hp o om j (mvO (takeS m1 (m1.give.getD 0 ⟨[], 0⟩).name)) ++ [.cells 94 [.ptr o 0], .cells 155 [.ptr om 0]]) hne (A5 (B1 ho hne)) (A5 (By hm)) hj.2.1 hl hll (hj.2.2.takeS (by omega))).bad h2) ?_
   rintro x U O hU hl' ⟨rfl, hW2⟩
   obtain ⟨⟨j', m', rfl⟩, rfl⟩ := Df hne hol hml hU hW2
   refine ⟨fun h => Bz hne Bc h, fun o h => (by cases h), ?_⟩
   refine K.blP ?_;exact K.finPP ⟨_, _, by rw [Y5 ht8 ht13 ht24 ht29 ht45 ht58]; rw [h1]; show De L (takeS m1 (m1.give.getD 0 ⟨[], 0⟩).name) j = _; rw [h2], rfl, j', m', rfl⟩
  refine Z12 ?_
  refine R.callX (up' := U2 L Hp o om k (mvO m2)) (own' := [.cells 94 [.ptr o 0], .cells 155 [.ptr om 0]]) Tryz.call157 (((Vm L (takeS m1 (m1.give.getD 0 ⟨[], 0⟩).name) j o om (U2 L Hp o om j (mvO (takeS m1 (m1.give.getD 0 ⟨[], 0⟩).name)) ++ [.cells 94 [.ptr o 0], .cells 155 [.ptr om 0]]) hne (A5 (B1 ho hne)) (A5 (By hm)) hj.2.1 hl hll (hj.2.2.takeS (by omega))).ok h2).mono (fun r H' e => ⟨e.1, e.2.trans (by first | rw [Ci (by rw [U2_len]; exact hol) (by rw [U2_len]; exact hml), Fp hne] | rw [Ci hol hml])⟩)) (by first | rfl | rw [U2_len, U2_len] | rw [U2_len]) (fun h => Bz hne Bc h) ?_
  refine Z93 ?_;exact K.finPN .nores (hp := ⟨m2, k, by rw [Y5 ht8 ht13 ht24 ht29 ht45 ht58]; rw [h1]; show De L (takeS m1 (m1.give.getD 0 ⟨[], 0⟩).name) j = _; rw [h2], rfl, rfl⟩)
 refine AW.skip ?_;refine K.blN ?_;exact K.finPN .nores (hp := ⟨m, i, rj ht8 ht13 ht24 ht29 ht45 ht58, rfl, rfl⟩)

def vp : Str := [32, 97, 100, 100, 32, 100, 114, 111, 112, 32, 114, 101, 110, 97, 109, 101, 32, 115, 112, 108, 105, 116, 32, 109, 101, 114, 103, 101, 32, 114, 101, 116, 121, 112, 101]
theorem dq : Ic vp [32] = migWords := by kernel_rfl
theorem yp (k : Int) (Hp : List AObj) : AFun Tryz.prog 154 [A2 k] Hp (A6 (Ce k)) := by
 refine ACall.body [.tmp 2] [0] Tryz.func154 Tryz.ntmps154 (fun d => ?_)
 refine Tv ?_;refine Nv ?_;refine R.fin [0, 8] ?_
 refine W.cond (fun ht8 => ?_) (fun ht8 => ?_)
 ·have hm : Ce k = [] := if_pos ht8
  exact fk
 have hm : Ce k = migWords.getD k.toNat [] := if_neg (by rw [ht8]; simp)
 refine Z5 ?_;refine Cs ?_;refine R.call Tryz.call100 (qc vp [32] (by decide) (by decide) _) ?_
 rw [dq]
 refine R.go ?_
 have hk : 1 ≤ k ∧ k ≤ 6 := by simp at ht8; omega
 have hget : (migWords.map A6)[k.toNat]? = some (A6 (migWords.getD k.toNat [])) := by
  have hlt : k.toNat < migWords.length := by show k.toNat < 7; omega
  rw [List.getElem?_map, List.getElem?_eq_getElem hlt, List.getD_eq_getElem?_getD, List.getElem?_eq_getElem hlt]
  rfl
 refine R.gw (h := Q.indexAddr (k.toNat) (A6 (migWords.getD k.toNat [])) (fun _ => hget)) (hr := ?_)
 exact sw

theorem dr {s : Str} {x : Nat} (h : ∀ j : Nat, j < x → (Ce ((j : Int) + 1) == s) = false) (hx : x < 6) (he : (Ce ((x : Int) + 1) == s) = true) : Dq s = (x : Int) + 1 := by
 have a : ∀ j : Nat, j < x → ∀ k : Int, k = (j : Int) + 1 → (Ce k == s) = false := fun j hj k e => by rw [e]; exact h j hj
 have b : ∀ k : Int, k = (x : Int) + 1 → (Ce k == s) = true := fun k e => by rw [e]; exact he
 have h6 : x = 0 ∨ x = 1 ∨ x = 2 ∨ x = 3 ∨ x = 4 ∨ x = 5 := by omega
 unfold Dq
 rcases h6 with rfl | rfl | rfl | rfl | rfl | rfl
 ·rw [if_pos (b 1 rfl)]; rfl
 ·rw [if_neg (by rw [a 0 (by omega) 1 rfl]; simp), if_pos (b 2 rfl)]; rfl
 ·rw [if_neg (by rw [a 0 (by omega) 1 rfl]; simp), if_neg (by rw [a 1 (by omega) 2 rfl]; simp), if_pos (b 3 rfl)]; rfl
 ·rw [if_neg (by rw [a 0 (by omega) 1 rfl]; simp), if_neg (by rw [a 1 (by omega) 2 rfl]; simp), if_neg (by rw [a 2 (by omega) 3 rfl]; simp), if_pos (b 4 rfl)]; rfl
 ·rw [if_neg (by rw [a 0 (by omega) 1 rfl]; simp), if_neg (by rw [a 1 (by omega) 2 rfl]; simp), if_neg (by rw [a 2 (by omega) 3 rfl]; simp), if_neg (by rw [a 3 (by omega) 4 rfl]; simp), if_pos (b 5 rfl)]; rfl
 rw [if_neg (by rw [a 0 (by omega) 1 rfl]; simp), if_neg (by rw [a 1 (by omega) 2 rfl]; simp), if_neg (by rw [a 2 (by omega) 3 rfl]; simp), if_neg (by rw [a 3 (by omega) 4 rfl]; simp), if_neg (by rw [a 4 (by omega) 5 rfl]; simp), if_pos (b 6 rfl)]; rfl
theorem Vo {s : Str} {x : Nat} (h : ∀ j : Nat, j < x → (Ce ((j : Int) + 1) == s) = false) (he : (Ce ((x : Int) + 1) == s) = false) : ∀ j : Nat, j < x + 1 → (Ce ((j : Int) + 1) == s) = false := fun j hj => by
 rcases Nat.lt_or_ge j x with h1 | h1
 ·exact h j h1
 rw [show j = x by omega]; exact he
theorem dt {s : Str} {x : Nat} (h : ∀ j : Nat, j < x → (Ce ((j : Int) + 1) == s) = false) (hx : 6 ≤ x) : Dq s = 0 := by
 have a : ∀ j : Nat, j < 6 → ∀ k : Int, k = (j : Int) + 1 → (Ce k == s) = false := fun j hj k e => by rw [e]; exact h j (by omega)
 unfold Dq
 rw [if_neg (by rw [a 0 (by omega) 1 rfl]; simp), if_neg (by rw [a 1 (by omega) 2 rfl]; simp), if_neg (by rw [a 2 (by omega) 3 rfl]; simp), if_neg (by rw [a 3 (by omega) 4 rfl]; simp), if_neg (by rw [a 4 (by omega) 5 rfl]; simp), if_neg (by rw [a 5 (by omega) 6 rfl]; simp)]
theorem yq (s : Str) (Hp : List AObj) : AFun Tryz.prog 121 [A6 s] Hp (A2 (Dq s)) := by
 refine ACall.body [.tmp 2] [0] Tryz.func121 Tryz.ntmps121 (fun d => ?_)
 refine Z40 ?_;refine Z32 ?_;refine Ib ?_
 refine AW.loopC (α := Nat) (fun x => ⟨13, A3 0 (A6 s) (A3 3 (A2 ((x : Nat) + 1)) (fun _ => .any)), Hp, [], [], none⟩) (fun x => ∀ j : Nat, j < x → (Ce ((j : Int) + 1) == s) = false) (fun x => 6 - x) (0) (fun j h => by omega) (StLe.refl _) rfl (fun x hx => ?_)
 refine Z8 ?_;refine R.fin [0, 3, 5] ?_
 refine W.cond (fun ht5 => ?_) (fun ht5 => ?_)
 ·have hx6 : x < 6 := by simp at ht5; omega
  refine Z39 ?_;refine Z2 ?_;refine R.call Tryz.call154 (yp _ _) ?_;refine Z0 ?_;refine R.fin [0, 3, 11] ?_
  refine W.cond (fun ht11 => ?_) (fun ht11 => ?_)
  ·refine Z1 ?_;refine Z3 ?_;refine Z35 ?_;exact K.fin (V.one V.tmp) ⟨by rw [dr hx hx6 ht11], rfl⟩
  refine Wd ?_
  refine K.lpN (x + 1) (Vo hx ht11) (by omega) (StCut.of_eq rfl)
 have hx6 : 6 ≤ x := by simp at ht5; omega
 refine Tu ?_;exact K.fin (V.one V.tmp) ⟨by rw [dt hx hx6], rfl⟩

theorem k8 {L : List Tok} {Hp own : List AObj} {o i n : Nat} {x : AObj} (h1 : o < Hp.length) : U2 L (Hp ++ own) o (oid Hp.length n) i x = Hp.set o (pmO L i) ++ own.set n x := by
 unfold U2 oid
 rw [List.set_append_left _ _ h1, List.set_append, if_neg (by simp), List.length_set, Nat.add_sub_cancel_left]
theorem Vp {L : List Tok} {Hp : List AObj} {o i j n : Nat} (h : ∀ z ∈ Hp.set o (pmO L i), ObjLow n z) : ∀ z ∈ Hp.set o (pmO L j), ObjLow n z := by
 intro z hz
 rw [show Hp.set o (pmO L j) = (Hp.set o (pmO L i)).set o (pmO L j) by rw [List.set_set]] at hz
 rcases List.mem_or_eq_of_mem_set hz with hz | rfl
 ·exact h z hz
 exact Aq
theorem c90 (L : List Tok) (i o : Nat) (Hp : List AObj) (ho : Hp[o]? = some (pmO L i)) (hi : i < L.length) (hl : TokEnd L) (hll : L.length ≤ 500000) : CP 90 [.ptr o 0] Hp (Is L i) (fun m j r H' => r = Cv m ∧ H' = Hp.set o (pmO L j)) (W1 L o Hp) := by
 have hol := (List.getElem?_eq_some_iff.1 ho).1
 have hne : oid Hp.length 2 ≠ o := by unfold oid; omega
 refine ACallP.body [.cell 2 64] [0] Tryz.func90 Tryz.ntmps90 (fun d => ?_)
 refine Z60 ?_;refine pm ?_;refine Tq ?_;refine Z1 ?_;refine R.call Tryz.call121 (yq (A7 L i).text _) ?_;refine R.build (places := #[(0, 1), (1, 1), (2, 1), (3, 1), (4, 1)]) jU (fun w => by simp) jZ ?_;refine Z21 ?_;refine R.fin [0, 2, 3, 4] ?_;refine Z69 ?_;refine R.nilCell 2 1 1 ?_;refine R.nilCell 2 2 2 ?_;refine R.nilCell 2 3 6 ?_;refine R.nilCell 2 4 6 ?_;refine Z0 ?_;refine Z56 ?_;refine R.go ?_;refine R.fin [0, 2, 4, 18] ?_
 refine W.cond (fun ht18 => ?_) (fun ht18 => ?_)
 ·have e : Is L i = .bad 8 (A7 L i).at_ := if_pos ht18
  refine AW.regionK ?_
  refine ARunK.one (R.go (ARun.nil ?_))
  refine q9 ?_
  rintro x U O hU hl' ⟨rfl, hH⟩
  obtain ⟨rfl, rfl⟩ := G5 hU hH
  refine ⟨fun h => h, fun o h => (by cases h), ?_⟩
  exact ku
 have e0 : Is L i = (Ev L (⟨Dq (A7 L i).text, [], [], [], []⟩ : Mov) (i + 1)).bind fun m j => (Bf L [59] j).bind fun _ j => .ok m j := if_neg (by rw [ht18]; simp)
 have hi1 : i + 1 < L.length := hl.step hi (by simp only [Bool.or_eq_false_iff, bne_eq_false_iff_eq] at ht18; rw [ht18.1]; decide)
 refine Z85 ?_
 refine R.gw (h := Q.loadUp ho) (hr := ?_)
 refine Z24 ?_
 refine R.storeUp jS ho ?_ ?_
 ·simp
 refine R.fin [0, 2, 4] ?_
 rcases hR : Ev L (⟨Dq (A7 L i).text, [], [], [], []⟩ : Mov) (i + 1) with ⟨m1, k⟩ | ⟨e, a⟩
 rotate_left
 ·refine AW.seqRK ?_
  refine ARunK.one (R.go (ARun.nil ?_))
  refine RK.callBad Tryz.call122 ((vo L (⟨Dq (A7 L i).text, [], [], [], []⟩ : Mov) (i + 1) o (oid Hp.length 2) (Hp.set o (pmO L (i + 1)) ++ [.cells 64 [A2 0, .nil, .nil, .nil, .nil], .cells 125 [.v (.int .i64 (A7 L i).kind), .v (sv (A7 L i).text), .v (.int .i64 ((A7 L i).at_ : Int))], mvO (⟨Dq (A7 L i).text, [], [], [], []⟩ : Mov)]) hne (by rw [List.getElem?_append_left (by simpa using hol)]; exact getset ho) (by unfold oid; rw [List.getElem?_append_right (by simp)]; simp) hi1 hl hll ⟨Nat.zero_le _, Nat.zero_le _, Nat.zero_le _, Nat.zero_le _⟩ (by omega)).bad hR) ?_
  rintro x U O hU hl' ⟨rfl, j', m', hH⟩
  rw [show oid Hp.length 2 = oid (Hp.set o (pmO L (i + 1))).length 2 by simp, k8 (by simpa using hol), List.set_set] at hH
  obtain ⟨rfl, rfl⟩ := G5 (by rw [hU]; simp) hH
  refine ⟨fun h => Vp h, fun o h => (by cases h), ?_⟩
  refine K.thP ?_;exact K.finPP ⟨_, _, by rw [e0]; rw [hR]; rfl, rfl, j', rfl⟩
 have hk := Zn hl hll (⟨Dq (A7 L i).text, [], [], [], []⟩ : Mov) (i + 1) ⟨Nat.zero_le _, Nat.zero_le _, Nat.zero_le _, Nat.zero_le _⟩ (by omega) hi1 _ _ hR
 refine Z2 ?_
 refine R.callX (up' := Hp.set o (pmO L k)) (own' := [.cells 64 [A2 0, .nil, .nil, .nil, .nil], .cells 125 [.v (.int .i64 (A7 L i).kind), .v (sv (A7 L i).text), .v (.int .i64 ((A7 L i).at_ : Int))], mvO m1]) Tryz.call122 (((vo L (⟨Dq (A7 L i).text, [], [], [], []⟩ : Mov) (i + 1) o (oid Hp.length 2) (Hp.set o (pmO L (i + 1)) ++ [.cells 64 [A2 0, .nil, .nil, .nil, .nil], .cells 125 [.v (.int .i64 (A7 L i).kind), .v (sv (A7 L i).text), .v (.int .i64 ((A7 L i).at_ : Int))], mvO (⟨Dq (A7 L i).text, [], [], [], []⟩ : Mov)]) hne (by rw [List.getElem?_append_left (by simpa using hol)]; exact getset ho) (by unfold oid; rw [List.getElem?_append_right (by simp)]; simp) hi1 hl hll ⟨Nat.zero_le _, Nat.zero_le _, Nat.zero_le _, Nat.zero_le _⟩ (by omega)).ok hR).mono (fun r H' e => ⟨e.1, e.2.trans (by rw [show oid Hp.length 2 = oid (Hp.set o (pmO L (i + 1))).length 2 by simp]; rw [k8 (by simpa using hol), List.set_set]; rfl)⟩)) (by simp) (fun h => by simpa using Vp h) ?_
 refine R.fin [0, 2, 4] ?_
 rcases hW : Bf L [59] k with ⟨u, j2⟩ | ⟨e, a⟩
 rotate_left
 ·refine AW.seqRK ?_
  refine ARunK.one (R.go (ARun.nil ?_))
  refine RK.callBad Tryz.call123 ((La L [59] k o _ (A5 (getset ho)) hk.2.1 hll).bad hW) ?_
  rintro x U O hU hl' ⟨rfl, j', hH⟩
  obtain ⟨rfl, rfl⟩ := Az hU (List.getElem?_eq_some_iff.1 (getset (B := pmO L k) ho)).1 hH
  refine ⟨fun h => B0 h (fun n => Aq), fun o h => (by cases h), ?_⟩
  refine K.thP ?_;exact K.finPP ⟨_, _, by rw [e0]; rw [hR]; show (Bf L [59] k).bind _ = _; rw [hW]; rfl, rfl, j', by rw [List.set_set]⟩
 refine Z2 ?_;refine R.callUp (x := pmO L j2) Tryz.call123 (getset ho) (by simp) Aq ((La L [59] k o _ (A5 (getset ho)) hk.2.1 hll).ok hW) ?_
 rw [List.set_set]
 refine R.fin [2, 4] ?_;refine Z2 ?_;refine Z13 ?_;exact K.finP (V.one (V.cellN jA jS)) (hp := ⟨m1, j2, by rw [e0]; rw [hR]; show (Bf L [59] k).bind _ = _; rw [hW]; rfl, rfl, rfl⟩) (hlow := V6)

/-- What mig.parser.moves comes to: the moves, or none and the fault. -/
def It (L : List Tok) : List Mov × Int × Int := match H0 L with
 | .ok l _ => (l, 0, 0)
 | .bad e a => ([], e, a)
abbrev M6 (L : List Tok) : AV := .tup [C5 (It L).1, .agg [A2 (It L).2.1, A2 (It L).2.2]]
theorem Vq {up : List AObj} {n : Nat} {x y z : AObj} (hn : up.length = n) : (up ++ [x, y]).set (oid n 0) z = up ++ [z, y] := by
 subst hn
 rw [show oid up.length 0 = up.length + 0 from rfl, Am]; rfl
theorem k9 {up : List AObj} {n : Nat} {x y z : AObj} (hn : up.length = n) : (up ++ [x, y]).set (oid n 1) z = up ++ [x, z] := by
 subst hn
 rw [show oid up.length 1 = up.length + 1 from rfl, Am]; rfl
theorem Vr {up : List AObj} {n : Nat} {x y : AObj} (hn : up.length = n) : (up ++ [x, y])[oid n 0]? = some x := by
 subst hn
 rw [show oid up.length 0 = up.length + 0 from rfl, C6]; rfl
theorem ka {up : List AObj} {n : Nat} {x y : AObj} (hn : up.length = n) : (up ++ [x, y])[oid n 1]? = some y := by
 subst hn
 rw [show oid up.length 1 = up.length + 1 from rfl, C6]; rfl
theorem nu {fc : Func} {r0 crest : Code} (hf : Tryz.prog.funcs[87]? = some fc) (hb : fc.body = some (.seq r0 crest)) (d a b : Nat) (H : List AObj) : AW Tryz.prog (d + 1) crest ⟨8, A3 2 (.v .nilIface) (A3 3 (.v .nilIface) (Go.SX.argsF [.ptr a 0, .ptr b 0])), H, [], [], none⟩ (fun e s2 => (e = .normal ∨ e = .ret) ∧ s2.defs = [] ∧ s2.up = H) := by
 have e := Tryz.func87.symm.trans hf
 injection e with e
 subst e
 injection hb with hb
 injection hb with h1 h2
 subst h2
 refine AW.keep [0, 1, 2] (by simp only [go_sem, ↓reduceIte, Nat.reduceEqDiff, Nat.reduceAdd] <;> rfl) ?_
 refine Z2 ?_;refine R.neqNil0 jU ?_;refine R.fin [0, 1, 2, 5] ?_
 refine W.cond (fun ht5 => ?_) (fun ht5 => ?_)
 ·cases ht5
 refine AW.skip ?_;exact ⟨.inl rfl, rfl, rfl⟩

theorem Zq {fc : Func} {r0 crest : Code} (hf : Tryz.prog.funcs[87]? = some fc) (hb : fc.body = some (.seq r0 crest)) {n : Nat} {up : List AObj} {x0 y1 y2 : AV} (e a : Int) (hn : up.length = n) (d : Nat) : AW Tryz.prog (d + 1) crest ⟨8, A3 2 (.iface 60 (.agg ([Value.int .i64 e, Value.int .i64 a].map .v))) (A3 3 (.iface 60 (.agg ([Value.int .i64 e, Value.int .i64 a].map .v))) (Go.SX.argsF [.ptr (oid n 0) 0, .ptr (oid n 1) 0])), (up ++ [.cells 23 [x0], .cells 60 [y1, y2]]), [], [], none⟩ (fun e' s2 => (e' = .normal ∨ e' = .ret) ∧ s2.defs = [] ∧ s2.up = up ++ [.cells 23 [.slice true 5 []], .cells 60 [A2 e, A2 a]]) := by
 have e' := Tryz.func87.symm.trans hf
 injection e' with e'
 subst e'
 injection hb with hb
 injection hb with h1 h2
 subst h2
 refine AW.keep [0, 1, 2] (by simp only [go_sem, ↓reduceIte, Nat.reduceEqDiff, Nat.reduceAdd] <;> rfl) ?_
 refine Z2 ?_;refine R.neqNil jU ?_;refine R.fin [0, 1, 2, 5] ?_
 refine W.cond (fun ht5 => ?_) (fun ht5 => ?_)
 ·refine W.drawY0 [0, 1, 0, 7] [2] [.q 2 [] [], .s [] (some 0) [] []] (fun B => if B 0 = true then (up ++ [.cells 23 [.nil], .cells 60 [y1, y2]]) else (up ++ [.cells 23 [x0], .cells 60 [y1, y2]])) (fun _ => []) Aa (by kernel_rfl) rfl rfl (fun B => by split <;> simp) ?_
  apply Y.q
  case h1 =>
   intro B hT hF
   refine D.go ?_;refine D.typeAssert (.of jU) ?_;exact Km
  case hTF => decide
  refine Y.storeUp (o := oid n 0) (t' := 23) (ys := [.nil]) (cs := [x0]) (cs' := [.nil]) Tryz.sizeOf23 (fun B hB => ⟨by simp only [hB]; exact Vr hn, by simp [upd, hB]; exact (Vq hn).symm, rfl, by simp⟩) ?_
  refine Y.tail (tn := [2]) (U := (up ++ [.cells 23 [.nil], .cells 60 [y1, y2]])) ?_
  refine R.storeUp jS (ka hn) ?_ ?_
  ·simp
  rw [k9 hn]
  refine R.nilUp (oid n 0) 0 5 (Vr hn) (Vq hn) ?_;refine R.fin [] ?_;exact ⟨.inl rfl, rfl, rfl⟩
 cases ht5

/-- Where the loop of moves stands. -/
structure MovAt (L : List Tok) (x : List Mov × Nat) : Prop where
 lt : x.2 < L.length
 le : x.1.length ≤ 8
 at_ : H0 L = Hr L (9 - x.1.length) x.1 x.2
theorem nv {L : List Tok} (hl : TokEnd L) (hll : L.length ≤ 500000) {i : Nat} (hi : i < L.length) {m : Mov} {j : Nat} (h : Is L i = .ok m j) : i < j ∧ j < L.length := by
 unfold Is at h
 split at h
 ·cases h
 rename_i h0
 have hi1 : i + 1 < L.length := hl.step hi (by
  simp only [Bool.or_eq_true, not_or, Bool.not_eq_true, bne_eq_false_iff_eq] at h0
  rw [h0.1]; decide)
 obtain ⟨m1, k, h1, h2⟩ := PR.bind_ok h
 obtain ⟨u, j2, h3, h4⟩ := PR.bind_ok h2
 injection h4 with h5 h6
 subst h6
 obtain ⟨a1, a2, _⟩ := Zn hl hll _ (i + 1) ⟨Nat.zero_le _, Nat.zero_le _, Nat.zero_le _, Nat.zero_le _⟩ (by omega) hi1 _ _ h1
 obtain ⟨b1, b2⟩ := Dr hl a2 _ _ h3
 exact ⟨by omega, b2⟩
theorem Iu {L : List Tok} {l : List Mov} {i : Nat} (hl : l.length ≤ 8) : Hr L (9 - l.length) l i = if (A7 L i).kind != 0 then (if (l.length : Int) == 8 then Rf L i 3 else (Is L i).bind fun m j => Hr L (8 - l.length) (l ++ [m]) j) else .ok l i := by
 rw [show 9 - l.length = (8 - l.length) + 1 by omega, Hr]
theorem MovAt.out {L : List Tok} {x : List Mov × Nat} (h : MovAt L x) (hk : ((A7 L x.2).kind != 0) = false) : H0 L = .ok x.1 x.2 := by
 rw [h.at_, Iu h.le, if_neg (by rw [hk]; simp)]
theorem MovAt.long {L : List Tok} {x : List Mov × Nat} (h : MovAt L x) (hk : ((A7 L x.2).kind != 0) = true) (h8 : ((x.1.length : Int) == 8) = true) : H0 L = .bad 3 (A7 L x.2).at_ := by
 rw [h.at_, Iu h.le, if_pos hk, if_pos h8]; rfl
theorem MovAt.step {L : List Tok} {x : List Mov × Nat} (h : MovAt L x) (hk : ((A7 L x.2).kind != 0) = true) (h8 : ((x.1.length : Int) == 8) = false) : H0 L = (Is L x.2).bind fun m j => Hr L (8 - x.1.length) (x.1 ++ [m]) j := by
 rw [h.at_, Iu h.le, if_pos hk, if_neg (by rw [h8]; simp)]
theorem MovAt.bad {L : List Tok} {x : List Mov × Nat} (h : MovAt L x) (hk : ((A7 L x.2).kind != 0) = true) (h8 : ((x.1.length : Int) == 8) = false) {e a : Int} (hM : Is L x.2 = .bad e a) : H0 L = .bad e a := by
 rw [h.step hk h8, hM]; rfl
theorem MovAt.on {L : List Tok} (hl : TokEnd L) (hll : L.length ≤ 500000) {x : List Mov × Nat} (h : MovAt L x) (hk : ((A7 L x.2).kind != 0) = true) (h8 : ((x.1.length : Int) == 8) = false) {m : Mov} {j : Nat} (hM : Is L x.2 = .ok m j) : MovAt L (x.1 ++ [m], j) ∧ x.2 < j := by
 obtain ⟨a1, a2⟩ := nv hl hll h.lt hM
 have h1 : x.1.length ≤ 7 := by
  have := h.le
  simp only [beq_eq_false_iff_ne, ne_eq] at h8
  omega
 refine ⟨⟨a2, by show (x.1 ++ [m]).length ≤ 8; simp; omega, ?_⟩, a1⟩
 rw [h.step hk h8, hM]
 show Hr L (8 - x.1.length) (x.1 ++ [m]) j = Hr L (9 - (x.1 ++ [m]).length) (x.1 ++ [m]) j
 rw [show 9 - (x.1 ++ [m]).length = 8 - x.1.length by rw [List.length_append, List.length_singleton]; omega]
theorem Zr (e a : Int) : ∀ v ∈ [Value.int .i64 e, Value.int .i64 a], (AV.v v).one = true := by
 intro v hv
 simp only [List.mem_cons, List.not_mem_nil, or_false] at hv
 rcases hv with rfl | rfl <;> rfl
theorem du {L : List Tok} {l : List Mov} {i : Nat} (h : H0 L = .ok l i) : M6 L = .tup [C5 l, .agg [A2 0, A2 0]] := by unfold M6 It; rw [h]
theorem Ph {L : List Tok} {e a : Int} (h : H0 L = .bad e a) : M6 L = .tup [.slice false 5 [], .agg [A2 e, A2 a]] := by unfold M6 It; rw [h]; rfl
theorem nw {fn fc : Func} {x0 r1 y r0 crest : Code} (hf : Tryz.prog.funcs[62]? = some fn) (hb : fn.body = some (.seq x0 (.seq r1 y))) (hf2 : Tryz.prog.funcs[87]? = some fc) (hb2 : fc.body = some (.seq r0 crest)) (L : List Tok) (o : Nat) (Hp : List AObj) (ho : Hp[o]? = some (pmO L 0)) (hl : TokEnd L) (hll : L.length ≤ 500000) (d : Nat) :
  AW Tryz.prog (d + 1) y ⟨21, A3 0 (.ptr o 0) (A3 2 (.ptr (oid Hp.length 0) 0) (A3 3 (.ptr (oid Hp.length 1) 0) (A3 4 (.fn (.func 87) [] [.ptr (oid Hp.length 0) 0, .ptr (oid Hp.length 1) 0]) fun _ => .any))), Hp, [.cells 23 [.nil], .cells 60 [A2 0, A2 0]], [], none⟩ (KG Tryz.prog crest 8 3 2 [.ptr (oid Hp.length 0) 0, .ptr (oid Hp.length 1) 0] [.cell 2 23, .cell 3 60] Hp.length (fun r H' => r = M6 L ∧ ∃ i, H' = Hp.set o (pmO L i))) := by
 have e := Tryz.func62.symm.trans hf
 injection e with e
 subst e
 injection hb with hb
 injection hb with h1 h2
 injection h2 with h2 h3
 subst h3
 refine AW.keep [0, 2, 3] (by simp only [go_sem, ↓reduceIte, Nat.reduceEqDiff, Nat.reduceAdd] <;> rfl) ?_
 refine AW.upEq (Du ho).symm ?_;refine W.seq ?_
 refine AW.loopC (α := List Mov × Nat) (fun x => ⟨21, A3 0 (.ptr o 0) (A3 2 (.ptr (oid Hp.length 0) 0) (A3 3 (.ptr (oid Hp.length 1) 0) (fun _ => .any))), Hp.set o (pmO L x.2), [.cells 23 [.slice true 5 (x.1.map Cv)], .cells 60 [A2 0, A2 0]], [], none⟩) (fun x => MovAt L x) (fun x => L.length - x.2) (([], 0)) ⟨hl.pos, by decide, rfl⟩ (StLe.nilCell (own := [.cells 23 [.nil], .cells 60 [A2 0, A2 0]]) (n := 0) (j0 := 0) (k := 5) (t := 23) (cs := [.nil]) rfl rfl) rfl (fun x hx => ?_)
 refine Z32 ?_;refine R.call Tryz.call88 (c88 L x.2 o _ (A5 (getset ho)) hx.lt) ?_;refine Z0 ?_;refine R.fin [0, 2, 3, 8] ?_
 refine W.cond (fun ht8 => ?_) (fun ht8 => ?_)
 ·have hk : ((A7 L x.2).kind != 0) = true := ht8
  refine Z5 ?_;refine AW.block ?_;refine Z36 ?_;refine R.fin [0, 2, 3, 11] ?_
  refine W.cond (fun ht11 => ?_) (fun ht11 => ?_)
  ·have h8 : ((x.1.length : Int) == 8) = true := by rw [List.length_map] at ht11; exact ht11
   refine AW.regionK ?_
   refine ARunK.one (R.go (ARun.nil ?_))
   refine RK.callBad Tryz.call89 (c89 L x.2 o 3 _ (A5 (getset ho)) hx.lt) ?_
   rintro z U O hU hl' ⟨rfl, hH⟩
   obtain ⟨rfl, rfl⟩ := G5 hU hH
   refine ⟨fun h => h, fun o h => (by cases h), ?_⟩
   refine Ts ?_;refine K.lpP ?_;refine K.thP ?_;exact KG.finP (vs := [.int .i64 3, .int .i64 ((A7 L x.2).at_ : Int)]) (Zr _ _) (V.two (V.cell Tryz.isAgg23) (V.cellN Tryz.isAgg60 Tryz.sizeOf60)) (fun d => Zq hf2 hb2 3 ((A7 L x.2).at_ : Int) (by simp) d) ⟨(Ph (hx.long hk h8)).symm, x.2, rfl⟩
  have h8 : ((x.1.length : Int) == 8) = false := by rw [List.length_map] at ht11; exact ht11
  refine Z5 ?_
  rcases hM : Is L x.2 with ⟨m, j⟩ | ⟨e, a⟩
  rotate_left
  ·refine W.drawYP0 [2, 3] [0, 0, 2, 6, 15, 31] [2] [.q 2 [] [], .s [16] (some 0) [] [], .s [] none [0] [], .s [] none [0] [], .s [] none [0] []] (fun _ => Hp.set o (pmO L x.2)) (fun B => [.cells 23 [.slice true 5 (x.1.map Cv)], .cells 60 [A2 0, A2 0]] ++ bot (B 0)) Aa (by kernel_rfl) (by kernel_rfl) rfl rfl (fun _ => rfl) ?_
   apply Y.q
   case h1 =>
    intro B hT hF
    exact Z66
   case hTF => decide
   refine Y.callBad (own0 := [.cells 23 [.slice true 5 (x.1.map Cv)], .cells 60 [A2 0, A2 0]]) Tryz.call90 (fun B hB => ⟨rfl, by simp [bot, hB]⟩) ((c90 L x.2 o _ (A5 (getset ho)) hx.lt hl hll).bad hM) ?_ ?_
   ·rintro z U O f hU hl' ⟨rfl, j', hH⟩
    obtain ⟨rfl, rfl⟩ := Az hU (List.getElem?_eq_some_iff.1 (getset (B := pmO L x.2) ho)).1 hH
    refine ⟨fun h => B0 h (fun n => Aq), fun o h => (by cases h), ?_⟩
    intro hts
    have h2 := hts 2 (by simp)
    have h3 := hts 3 (by simp)
    simp only [go_sem, ↓reduceIte, Nat.reduceEqDiff, Nat.reduceAdd] at h2 h3
    refine K.blP ?_;refine K.lpP ?_;refine K.thP ?_;exact KG.finP (vs := [.int .i64 e, .int .i64 a]) (Zr _ _) (V.two (V.cell (n := 0) (off := 0) Tryz.isAgg23 (hp := by rw [h2]; simp only [List.length_set]; rfl)) (V.cellN (n := 1) (off := 0) Tryz.isAgg60 Tryz.sizeOf60 (hp := by rw [h3]; simp only [List.length_set]; rfl))) (fun d => Zq hf2 hb2 e a (by simp) d) ⟨(Ph (hx.bad hk h8 hM)).symm, j', List.set_set ..⟩
   exact l4
  have hon := hx.on hl hll hk h8 hM
  refine W.drawY0 [0, 0, 2, 6, 15, 31] [0, 2] [.s [14] (some 0) [] [], .q 1 [] [1], .s [16] (some 1) [] [], .q 1 [1] []] (fun B => Hp.set o (pmO L (if B 1 = true then j else x.2))) (fun B => if B 0 = true then [.cells 23 [.slice false 5 (x.1.map Cv)], .cells 60 [A2 0, A2 0]] else [.cells 23 [.slice true 5 (x.1.map Cv)], .cells 60 [A2 0, A2 0]]) Aa (by kernel_rfl) rfl rfl (fun B => by simp) ?_
  refine Y.loadOwnT (u := Hp.length) (n := 0) (t' := 23) (cs := [.slice true 5 (x.1.map Cv)]) (cs' := [.slice false 5 (x.1.map Cv)]) Tryz.isAgg23 (fun B hB => ⟨by simp, by simp only [hB]; rfl, by simp only [hB]; rfl, rfl⟩) ?_
  apply Y.q
  case h1 =>
   intro B hT hF
   exact Z75
  case hTF => decide
  refine Y.callUp (r := Cv m) (o := o) (x0 := pmO L x.2) (x := pmO L j) Tryz.call90 (fun B hB1 hB2 hB => ⟨by simp only [hB]; exact getset ho, by simp only [hB]; exact (List.set_set ..).symm, rfl, Aq, ?_⟩) ?_
  ·simp only [hB]
   exact ((c90 L x.2 o _ (A5 (getset ho)) hx.lt hl hll).ok hM)
  apply Y.q
  case h1 =>
   intro B hT hF
   exact Z49
  case hTF => decide
  refine Y.tail (tn := [0, 2]) (U := Hp.set o (pmO L j)) (O := [.cells 23 [.slice false 5 (x.1.map Cv)], .cells 60 [A2 0, A2 0]]) ?_
  refine R.append jU Tryz.type64 ?_ ?_ ?_
  ·simp [Tryz.t64]; have := hx.le; omega
  ·simp [Tryz.t64]; have := hx.le; omega
  refine R.storeOwnT jS ?_;refine R.fin [0, 2, 3] ?_;refine K.blN ?_
  refine K.lpN (x.1 ++ [m], j) hon.1 (by have := hx.lt; have := hon.2; show L.length - j < L.length - x.2; omega) (StCut.of_eq (by simp [List.map_append, show Tryz.t64.size = 5 from rfl]))
 have hk : ((A7 L x.2).kind != 0) = false := ht8
 have e := hx.out hk
 refine Z42 ?_;refine Z2 ?_;refine Tx ?_;refine En ?_;refine aw ?_;refine AW.ret ?_;exact KG.fin .ret (V.two (V.cell Tryz.isAgg23) (V.cellN Tryz.isAgg60 Tryz.sizeOf60)) (fun d => nu hf2 hb2 d _ _ _) ⟨(du e).symm, x.2, rfl⟩ (hlow := by simpa using (Fo (n := Hp.length) (k := 5) (o := false) (l := x.1)))

theorem c62 (L : List Tok) (o : Nat) (Hp : List AObj) (ho : Hp[o]? = some (pmO L 0)) (hl : TokEnd L) (hll : L.length ≤ 500000) : ACall Tryz.prog 62 [.ptr o 0] Hp (fun r H' => r = M6 L ∧ ∃ i, H' = Hp.set o (pmO L i)) := by
 refine ACall.guarded (n := 21) (nc := 8) (a := 3) (b := 2) (os := [oid Hp.length 0, oid Hp.length 1]) (own0 := [.cells 23 [.nil], .cells 60 [A2 0, A2 0]]) (rs := [.cell 2 23, .cell 3 60])
  (fr0 := A3 0 (.ptr o 0) (A3 2 (.ptr (oid Hp.length 0) 0) (A3 3 (.ptr (oid Hp.length 1) 0) fun _ => .any))) (fr1 := A3 0 (.ptr o 0) (A3 2 (.ptr (oid Hp.length 0) 0) (A3 3 (.ptr (oid Hp.length 1) 0) (A3 4 (.fn (.func 87) [] [.ptr (oid Hp.length 0) 0, .ptr (oid Hp.length 1) 0]) fun _ => .any))))
  Tryz.func62 rfl rfl Tryz.ntmps62 (by simp) Tryz.func87 rfl Tryz.ntmps87 rfl (by simp) (by decide) (by decide) Tryz.call87 (fun d => ?_) (fun d => ?_) rfl (fun d l => ?_)
 ·refine AW.keep [0] (by simp only [go_sem, ↓reduceIte, Nat.reduceEqDiff, Nat.reduceAdd] <;> rfl) ?_
  refine AW.region ?_;refine Ju ?_;refine Ju ?_;refine R.fin [0, 2, 3] ?_;exact ⟨rfl, rfl⟩
 ·refine Ja ?_;refine R.fin [0, 2, 3, 4] ?_
  rfl
 exact @nw { b := ErrAt.b, bd := d + 1, bl := l } _ _ _ _ _ _ _ Tryz.func62 rfl Tryz.func87 rfl L o Hp ho hl hll d
theorem nx {s : Str} (h : ((Dx s).2.1 != 0) = true) : Y0 s = ([], (Dx s).2.1, ((Dx s).2.2 : Int)) := if_pos h
theorem rk {s : Str} (h : ((Dx s).2.1 != 0) = false) : Y0 s = It (Dx s).1 := by
 unfold Y0 It
 rw [if_neg (by rw [h]; simp)]
 cases H0 (Dx s).1 <;> rfl
theorem c33 (s : Str) (hs : s.length ≤ 1048576) (Hp : List AObj) : AFun Tryz.prog 33 [A6 s] Hp (.tup [C5 (Y0 s).1, .agg [A2 (Y0 s).2.1, A2 (Y0 s).2.2]]) := by
 refine ACall.body [.tmp 2, .cell 3 60] [0] Tryz.func33 Tryz.ntmps33 (fun d => ?_)
 refine Z2 ?_;refine Ju ?_;refine Ib ?_;refine Z2 ?_;refine R.call Tryz.call61 (c61 s hs _) ?_;refine Z24 ?_;refine ay ?_;refine R.fin [3, 4, 5] ?_;refine Z36 ?_;refine R.fin [3, 4, 5, 13] ?_
 refine W.cond (fun ht13 => ?_) (fun ht13 => ?_)
 ·have e := nx ht13
  refine W.drawQ [0, 0, 3] 2 Aa (by kernel_rfl) ?_;refine b8 ?_;refine R.wk 2 (C5 []) (.nil false 5) ?_;refine aw ?_;refine Z43 ?_;exact K.fin (V.two V.tmp (V.cellN jA jS)) ⟨by rw [e] <;> rfl, rfl⟩
 have hz : (Dx s).2.1 = 0 := by simpa using ht13
 have hle := me hz
 have hlen := mu hz
 have e := rk ht13
 refine Kl ?_;refine Tx ?_;refine R.box ?_
 refine R.callEx (fun _ => Hp) (fun i => [.cells 60 [A2 0, A2 0], .cells 60 [A2 (Dx s).2.1, A2 ((Dx s).2.2 : Nat)], pmO (Dx s).1 i]) Tryz.call62 ((c62 (Dx s).1 (oid Hp.length 2) _ (by rw [Al]; rfl) hle (by omega)).mono (fun r H' ⟨e, i, h⟩ => ⟨e, i, h.trans (by rw [D4]; rfl)⟩)) (fun _ => rfl) (fun _ h => h) (fun i => ?_)
 refine Z24 ?_;refine aw ?_;refine AW.ret ?_;exact K.fin (V.two V.tmp (V.cellN jA jS)) ⟨by rw [e], rfl⟩ (hlow := by simpa using (Fo (n := Hp.length) (k := 5) (o := false) (l := (It (Dx s).1).1)))

/-! How long plan.Text's pieces are. -/
section
variable {O X U : List AObj} {i : Nat} {b y : AObj}
end
/-- Moves whose numbers are ones of 64 bits. -/
structure RngMv (m : Mov) : Prop where
 ahead : ∀ e ∈ m.ahead, Fu Sk e = true
 back : ∀ e ∈ m.back, Fu Sk e = true
theorem Vs {l : List Expr} (h20 : l.length ≤ 1048576) (h : l.any Ou = false) (hr : ∀ e ∈ l, Fu Sk e = true) : OkEs l := by
 have h1 : ∀ e ∈ l, Slim e := fun e he => ly (by
  rw [List.any_eq_false] at h
  simpa using h e he)
 exact ⟨h20, fun e he => (h1 e he).ok, fun e he => by have := (h1 e he).size; omega, hr⟩
theorem Rl {m : Mov} (h : Fb m = false) (hr : RngMv m) : OkMov m := by
 unfold Fb at h
 simp only [Bool.or_eq_false_iff, decide_eq_false_iff_not] at h
 obtain ⟨⟨⟨⟨⟨⟨h1, h2⟩, h3⟩, h4⟩, h5⟩, h6⟩, h7⟩ := h
 have h50 : m.give.length ≤ 1000000 := by
  unfold E4 at h1
  simp only [Bool.or_eq_false_iff, decide_eq_false_iff_not] at h1
  omega
 refine ⟨by omega, fun s hs => ?_, Yp h1, h50, Vs (by omega) h6 hr.ahead, Vs (by omega) h7 hr.back⟩
 rw [List.any_eq_false] at h5
 have := h5 s hs
 simp only [decide_eq_true_eq] at this
 omega
theorem dv {l : List Mov} (h : Dk l = false) (hr : ∀ m ∈ l, RngMv m) : OkMovs l := by
 unfold Dk at h
 simp only [Bool.or_eq_false_iff, decide_eq_false_iff_not] at h
 refine ⟨by omega, fun m hm => Rl ?_ (hr m hm)⟩
 rw [List.any_eq_false] at h
 simpa using h.2 m hm
def snS : Str := [97, 100, 100, 32, 120, 32, 105, 110, 116, 32, 61, 32, 97, 59]
def snM : Mov := ⟨1, [], [⟨[120], 1⟩], [Bw [97]], []⟩
theorem kb : Y0 snS = ([snM], 0, 0) := by kernel_rfl
theorem dw : Dl [⟨[97], 1⟩] [snM] = (1, 0) := by kernel_rfl
theorem dx : Dl [⟨[97], 2⟩] [snM] = (0, 10) := by kernel_rfl
theorem oh : OkMovs [snM] := by
 refine ⟨by decide, fun m hm => ?_⟩
 rw [List.mem_singleton.1 hm]
 exact Rl (by decide) ⟨fun e he => by rw [List.mem_singleton.1 he]; rfl, fun e he => by cases he⟩
theorem Zs (k : Int) : OkCols [⟨[97], k⟩] := ⟨by simp, fun y hy => by rw [List.mem_singleton.1 hy]; simp⟩
theorem c8 (Hp : List AObj) : AFun Tryz.prog 8 [] Hp (Aj true) := by
 refine ACall.body [.tmp 0] [] Tryz.func8 Tryz.ntmps8 (fun d => ?_)
 refine Z2 ?_;refine R.fin [] ?_;refine Cs ?_;refine R.call Tryz.call33 (c33 snS (by decide) _) ?_
 rw [kb]
 refine Z24 ?_;refine ay ?_;refine R.fin [1, 2] ?_;refine ph ?_;refine R.buildSl jU jS jZ ?_;refine R.go ?_;refine R.call Tryz.call13 (c13 [⟨[97], 1⟩] (Zs 1) (by decide) [snM] oh _) ?_
 rw [dw]
 refine Z77 ?_;refine R.fin [1, 2, 3, 4] ?_;refine ph ?_;refine R.buildSl jU jS jZ ?_;refine R.go ?_;refine R.call Tryz.call13 (c13 [⟨[97], 2⟩] (Zs 2) (by decide) [snM] oh _) ?_
 rw [dx]
 refine Z77 ?_;refine R.fin [2, 3, 4, 6] ?_;refine Z1 ?_;refine Z25 ?_;refine Z25 ?_;refine Z25 ?_;refine Z0 ?_;refine R.fin [0] ?_;refine AW.ret ?_;exact K.fin (V.one V.tmp) ⟨by rfl, rfl⟩

theorem kc {c : List Col} (h : E4 c = false) : c.length ≤ 1000000 := by
 unfold E4 at h
 simp only [Bool.or_eq_false_iff, decide_eq_false_iff_not] at h
 omega
theorem ke {l : List Mov} (h : Dk l = false) : l.length ≤ 12 := by
 unfold Dk at h
 simp only [Bool.or_eq_false_iff, decide_eq_false_iff_not] at h
 omega
theorem rl {l : List Mov} (h : Dk l = false) : Few l := by
 refine ⟨ke h, fun m hm => ?_⟩
 unfold Dk at h
 simp only [Bool.or_eq_false_iff] at h
 have h1 := List.any_eq_false.1 h.2 m hm
 have h2 : Fb m = false := by simpa using h1
 unfold Fb at h2
 simp only [Bool.or_eq_false_iff, decide_eq_false_iff_not] at h2
 obtain ⟨⟨⟨⟨⟨⟨h1, h3⟩, _⟩, _⟩, _⟩, _⟩, _⟩ := h2
 have h5 : m.give.length ≤ 50 := by
  unfold E4 at h1
  simp only [Bool.or_eq_false_iff, decide_eq_false_iff_not] at h1
  omega
 exact ⟨by omega, h5⟩
theorem M7 (c : List Col) (l : List Mov) : (Dl c l).2 = (Ay c l).2 ∧ (Au c l).2 = (Ay c l).2 ∧ (Cx c l).2 = (Ay c l).2 := by
 have h2 : (Au c l).2 = (Ay c l).2 := by unfold Au; split <;> rfl
 refine ⟨?_, h2, ?_⟩
 ·unfold Dl Ay; split <;> rfl
 unfold Cx
 rw [h2]
 split
 ·rfl
 rename_i h
 have : (Ay c l).2 = 0 := by simpa using h
 rw [this]
/-- What is told of moves that are not sound. -/
theorem dy {c : List Col} {l : List Mov} (h : ((Ay c l).2 != 0) = true) : (Au c l).1 = [] ∧ (Cx c l).1 = [] ∧ Iq c l = [] ∧
  (((Ay c l).2 == 1 && ((Ay c l).1.length : Int) == 0) = true → (Dl c l).1 = 0) ∧ (((Ay c l).2 == 1 && ((Ay c l).1.length : Int) == 0) = false → (Dl c l).1 = ((Ay c l).1.length : Int) - 1) := by
 obtain ⟨e1, e2, e3⟩ := M7 c l
 refine ⟨?_, ?_, ?_, ?_⟩
 ·unfold Au; rw [if_pos h]
 ·unfold Cx; rw [if_pos (by rw [e2]; exact h)]
 ·unfold Iq; rw [if_pos (by rw [e1]; exact h)]
 unfold Dl Ay
 by_cases hm : Fa c l = true
 ·rw [if_pos hm, if_pos hm]
  have hne := List.length_pos_iff.2 (Ra c l)
  refine ⟨fun h1 => ?_, fun _ => by show (((Ai c l).1.length - 1 : Nat) : Int) = _; omega⟩
  simp only [Bool.and_eq_true, beq_iff_eq] at h1
  omega
 rw [if_neg hm, if_neg hm]
 exact ⟨fun _ => rfl, fun h1 => by simp at h1⟩
/-- And of those that are. -/
theorem kg {c : List Col} {l : List Mov} (h : ((Ay c l).2 != 0) = false) : Au c l = Ay c l ∧ (Ay c l).1 = B6 c l l.length ∧ (Cx c l).1 = colsAt c l l.length ∧ (Dl c l).1 = (l.length : Int) ∧ Iq c l = R9 c l ∧ ∀ k, Bb (colsAt c l k) = true := by
 have e2 := (M7 c l).2.1
 have hS : ((Au c l).2 != 0) = false := by rw [e2]; exact h
 obtain ⟨hmay, he, hs⟩ := K9 hS
 have hc : Bb c = true := by unfold Fa at hmay; simp only [Bool.and_eq_true] at hmay; exact hmay.1
 have e4 : Au c l = Ay c l := by unfold Au; rw [if_neg (by rw [h]; simp)]
 have e5 : Ay c l = Ai c l := if_pos hmay
 have e6 : Ai c l = (B6 c l l.length, 0) := by rw [← e5, ← e4, hs]
 exact ⟨e4, by rw [e5, e6], by rw [M5 hS], by rw [R7 hmay e6], nq hmay he, Hq hc he⟩
theorem J9 (c : List Col) (l : List Mov) : ∀ n k, k ≤ n → (B6 c l n)[k]? = some (colsAt c l k)
 | 0, k, h => by rw [show k = 0 by omega]; rfl
 | n + 1, k, h => by
  rw [B6]
  by_cases hk : k ≤ n
  ·rw [List.getElem?_append_left (by rw [Cb]; omega)]
   exact J9 c l n k hk
  rw [show k = n + 1 by omega, List.getElem?_append_right (by rw [Cb]; omega), Cb]
  simp
theorem Y6 (c : List Col) (l : List Mov) : (Ay c l).1.length ≤ l.length + 1 := by
 unfold Ay
 split
 ·exact K7 c l
 simp
theorem dz (c : List Col) (l : List Mov) : (Iq c l).length ≤ c.length := by
 unfold Iq
 split
 ·simp
 rw [List.length_map]; exact List.length_filter_le _ _
theorem c4 (c : List Col) (l : List Mov) (hrl : ∀ m ∈ l, RngMv m) (Hp : List AObj) : AFun Tryz.prog 4 [A8 c, C5 l] Hp (Aj true) := by
 refine ACall.body [.tmp 4] [0, 1] Tryz.func4 Tryz.ntmps4 (fun d => ?_)
 refine Z52 ?_;refine Z69 ?_;refine R.call Tryz.call8 (c8 _) ?_;refine R.go ?_;refine R.fin [0, 1, 17] ?_
 refine W.cond (fun ht17 => ?_) (fun ht17 => ?_)
 ·cases ht17
 refine Z99 ?_;refine R.call Tryz.call9 (xa c _) ?_;refine ba ?_;refine G.call Tryz.call10 (fun hB => c10 l _) ?_;refine R.go ?_;refine R.fin [0, 1, 23] ?_
 refine W.cond (fun ht23 => ?_) (fun ht23 => ?_)
 ·refine b9 ?_;exact bf
 have hw : E4 c = false ∧ Dk l = false := by simpa using ht23
 have hc := Yp hw.1
 have hc2 : c.length ≤ 1000000 := kc hw.1
 have hl : OkMovs l := dv hw.2 hrl
 have hf := rl hw.2
 have hl12 := hf.1
 have hE := M7 c l
 have hRl := Y6 c l
 refine Lk ?_;refine R.call Tryz.call13 (c13 c hc hc2 l hl _) ?_;refine Z77 ?_;refine R.fin [0, 1, 5, 6] ?_;refine Z1 ?_;refine R.call Tryz.call14 (c14 c hc hc2 l hl _) ?_;refine Z77 ?_;refine R.fin [0, 1, 5, 6, 7, 8] ?_;refine Z1 ?_;refine R.call Tryz.call11 (c11 c hc hc2 l hl _) ?_;refine Z77 ?_;refine R.fin [0, 1, 5, 6, 7, 8, 9, 10] ?_;refine Z1 ?_;refine R.call Tryz.call15 (c15 c hc l hl _) ?_;refine Z77 ?_;refine R.fin [0, 1, 5, 6, 7, 8, 9, 10, 11, 12] ?_;refine Z8 ?_;refine Z56 ?_;refine Z56 ?_;refine R.go ?_;refine R.fin [0, 1, 5, 7, 9, 11, 12, 60] ?_
 refine W.cond (fun ht60 => ?_) (fun ht60 => ?_)
 ·rw [hE.1, hE.2.1, hE.2.2] at ht60
  simp at ht60
 refine Lk ?_;refine R.call Tryz.call16 (c16 c hc hc2 l hl hf _) ?_;refine R.go ?_;refine R.fin [0, 1, 5, 7, 9, 11, 12, 13] ?_;refine Z8 ?_;refine R.fin [0, 1, 5, 7, 9, 11, 12, 13, 65] ?_
 refine W.cond (fun ht65 => ?_) (fun ht65 => ?_)
 ·have tb := dy ht65
  refine Z1 ?_
  rw [List.length_map]
  refine R.gw (h := Q.sub64 (h1 := fun _ => by omega) (h2 := fun _ => by omega)) (hr := ?_)
  refine R.go ?_;refine R.fin [5, 7, 9, 11, 12, 13, 14] ?_;refine Z36 ?_;refine Z7 ?_;refine Z68 ?_;refine R.fin [5, 7, 9, 13, 14, 75] ?_
  refine W.cond (fun ht75 => ?_) (fun ht75 => ?_)
  ·have ha := tb.2.2.2.1 (by rw [List.length_map] at ht75; exact ht75)
   refine Z59 ?_;refine R.fin [5, 7, 9, 13, 14] ?_;refine K.thN ?_;refine Tw ?_;refine Z56 ?_;refine Z56 ?_;refine Z0 ?_;refine Z23 ?_;refine K.thR ?_;exact K.fin (V.one V.tmp) ⟨by rw [tb.1, tb.2.1, tb.2.2.1, ha]; rfl, rfl⟩
  have ha := tb.2.2.2.2 (by rw [List.length_map] at ht75; exact ht75)
  refine Lk ?_;refine Z56 ?_;refine Z56 ?_;refine Z56 ?_;refine Z0 ?_;refine Z23 ?_;refine K.thR ?_;exact K.fin (V.one V.tmp) ⟨by rw [tb.1, tb.2.1, tb.2.2.1, ha]; simp, rfl⟩
 have tk := kg ht65
 have hSl : (Au c l).1 = B6 c l l.length := by rw [tk.1, tk.2.1]
 have hRne : (Ay c l).1 ≠ [] := by rw [tk.2.1]; intro h; have := Cb c l l.length; rw [h] at this; simp at this
 have hR1 : (Ay c l).1.length = l.length + 1 := by rw [tk.2.1, Cb]
 have hS1 : (Au c l).1.length = l.length + 1 := by rw [tk.1, hR1]
 have hlg := Ve hRne
 have hld : (Ay c l).1.getLastD [] = (Cx c l).1 := by
  have h1 := J9 c l l.length l.length (Nat.le_refl _)
  rw [tk.2.2.1, tk.2.1, List.getLastD_eq_getLast?, List.getLast?_eq_getElem?, Cb, show l.length + 1 - 1 = l.length by omega, h1]
  rfl
 rw [hld] at hlg
 have hx := (dg hc hl).2
 have hll := dz c l
 refine Z5 ?_;refine Kk ?_;refine Z7 ?_;refine Kj ?_;refine Z62 ?_
 simp only [List.length_map]
 refine G.gw (h := Q.sub64 (h1 := fun _ => by omega) (h2 := fun _ => by omega)) (hr := ?_)
 refine G.gw (h := Q.indexAddr (((Ay c l).1.length - 1)) (A8 (Cx c l).1) (fun _ => hlg)) (hr := ?_)
 refine G.go ?_;refine G.call Tryz.call12 (fun hB => c12 (Cx c l).1 (Cx c l).1 (by omega) _) ?_;refine G.go ?_;refine Z56 ?_;refine G.call Tryz.call18 (fun hB => c18 c hc2 l hf _) ?_;refine G.call Tryz.call17 (fun hB => c17 (Iq c l) (R9 c l) (by omega) _) ?_;refine Z68 ?_;refine R.fin [7, 11, 123] ?_
 refine W.cond (fun ht123 => ?_) (fun ht123 => ?_)
 ·simp [List.length_map, tk.2.2.2.1, tk.2.2.2.2.1, hR1, hS1] at ht123
 refine Z99 ?_;refine R.fin [7, 11, 15] ?_
 refine AW.loopC (α := Nat) (fun x => ⟨148, A3 7 (Sy (Au c l).1) (A3 11 (Sy (Ay c l).1) (A3 15 (A2 (x : Nat)) (fun _ => .any))), Hp, [], [], none⟩) (fun x => x ≤ (Au c l).1.length) (fun x => (Au c l).1.length - x) (0) (Nat.zero_le _) (StLe.of_eq rfl) rfl (fun x hx => ?_)
 refine Z54 ?_;refine R.fin [7, 11, 15, 127] ?_
 refine W.cond (fun ht127 => ?_) (fun ht127 => ?_)
 ·have hlt : x < (Au c l).1.length := by simpa using ht127
  have hxl : x ≤ l.length := by omega
  have hs1 : ((Au c l).1.map A8)[x]? = some (A8 (colsAt c l x)) := by rw [hSl, List.getElem?_map, J9 c l l.length x hxl]; rfl
  have hs2 : ((Ay c l).1.map A8)[x]? = some (A8 (colsAt c l x)) := by rw [tk.2.1, List.getElem?_map, J9 c l l.length x hxl]; rfl
  have hr := tk.2.2.2.2.2 x
  have hco := Fc hc hl.each x
  have hcl := hco.len
  refine Z39 ?_;refine W.drawQ [0, 0, 3, 7, 0, 0, 48, 112, 255, 511, 1023, 2047, 2047, 8191, 16383, 32767, 65535, 131071] 13 Aa (by kernel_rfl) ?_;refine Z14 ?_
  refine D.gw (h := Q.indexAddr (x) (A8 (colsAt c l x)) (fun _ => hs1)) (hr := ?_)
  refine Z55 ?_
  refine D.gw (h := Q.indexAddr (x) (A8 (colsAt c l x)) (fun _ => hs2)) (hr := ?_)
  refine D.go ?_;refine D.call Tryz.call12 (c12 (colsAt c l x) (colsAt c l x) hcl _) ?_;refine Z14 ?_;refine Z65 ?_;refine D.tail ?_
  refine G.gw (h := Q.indexAddr (x) (A8 (colsAt c l x)) (fun _ => hs1)) (hr := ?_)
  refine G.go ?_;refine G.call Tryz.call19 (fun hB => c19 (colsAt c l x) hco _) ?_;refine Z68 ?_;refine R.fin [7, 11, 15, 147] ?_
  refine W.cond (fun ht147 => ?_) (fun ht147 => ?_)
  ·simp [Kv, hr] at ht147
  refine Z61 ?_;refine R.fin [7, 11, 15] ?_
  refine K.lpN (x + 1) (by omega) (by omega) (StCut.of_eq rfl)
 refine Z42 ?_;refine Z78 ?_;exact bf

end Go.SX.Nb
