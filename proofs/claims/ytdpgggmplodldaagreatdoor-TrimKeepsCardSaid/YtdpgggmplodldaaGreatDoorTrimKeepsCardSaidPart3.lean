/- Texts on the way to this: TrimKeeps answers true for whatever it is handed: over any row a tree and the trimmed one come to the same value, or to the same error. (part 3) -/
import Derived.Test.YtdpgggmplodldaaGreatDoorTrimKeepsCardSaidPart2
set_option linter.all false
namespace Go.SX
variable [GI : GlobInv]
open Classical
variable {P : Program} {d : Nat} {l0 : List Oper} {kd : Nat} {ops : Array Oper} {rest : List Oper} {sz : Nat} {fr fr' : Nat → AV} {up own own' up' : List AObj} {dfs : List Nat} {rnd : Option Nat} {Q : St → Prop} {E : List Oper → (Nat → AV) → Prop} {s : Nat} {ty : TypeId} {pos : String} {aft : Array Edge}
theorem R.and {t u : TypeId} {x y : Operand} {k : IntKind} {m n : Int}  (hr : ARun P d ops rest ⟨sz, setF s (.v (.int k (bandI k m n))) fr, up, own, dfs, rnd⟩ Q) (hx : frEv fr x = .v (.int k m) := by simp only [go_sem, ↓reduceIte, Nat.reduceEqDiff, Nat.reduceAdd] <;> rfl) (hy : frEv fr y = .v (.int k n) := by simp only [go_sem, ↓reduceIte, Nat.reduceEqDiff, Nat.reduceAdd] <;> rfl)  (hs : Nat.blt s sz = true := by rfl) :
  ARun P d ops (⟨some s, .binOp .and t x y u, ty, pos, aft, none⟩ :: rest) ⟨sz, fr, up, own, dfs, rnd⟩ Q :=
 ARun.vv rfl rfl hs (OpV.band hx hy) hr
theorem R.xor {t u : TypeId} {x y : Operand} {k : IntKind} {m n : Int}  (hr : ARun P d ops rest ⟨sz, setF s (.v (.int k (bxorI k m n))) fr, up, own, dfs, rnd⟩ Q) (hx : frEv fr x = .v (.int k m) := by simp only [go_sem, ↓reduceIte, Nat.reduceEqDiff, Nat.reduceAdd] <;> rfl) (hy : frEv fr y = .v (.int k n) := by simp only [go_sem, ↓reduceIte, Nat.reduceEqDiff, Nat.reduceAdd] <;> rfl)  (hs : Nat.blt s sz = true := by rfl) :
  ARun P d ops (⟨some s, .binOp .xor t x y u, ty, pos, aft, none⟩ :: rest) ⟨sz, fr, up, own, dfs, rnd⟩ Q :=
 ARun.vv rfl rfl hs (OpV.bxor hx hy) hr
/-- A slice that nobody appends to. -/
theorem R.buildSl {t e : TypeId} {k len : Nat} {z : Value} {parts : List (Nat × Operand)} {ys : List AV} (hu : P.underlying t = some (.slice e)) (hsz : ∀ w, (Go.sizeOf e).run P w = .ok k w) (hz : ∀ w, (zeroValue e).run P w = .ok z w)
  (hr : ARun P d ops rest ⟨sz, setF s (.slice false k ys) fr, up, own, dfs, rnd⟩ Q) (hp : parts.toArray = (((parts.map Prod.snd).zipIdx).map fun x => (x.2, x.1)).toArray := by rfl) (hev : (parts.map Prod.snd).map (frEv fr) = ys := by simp only [go_sem, ↓reduceIte, Nat.reduceEqDiff, Nat.reduceAdd] <;> rfl)
  (hk : ys.all (fun y => decide (y.cells.length = k) && y.cells.all AV.one) = true := by simp [go_sem]) (hl : len = ys.length := by rfl) (hlen : ys.length * k ≤ 16777216 := by simp only [go_sem, ↓reduceIte, Nat.reduceEqDiff, Nat.reduceAdd] <;> omega) (hs : Nat.blt s sz = true := by rfl) :
  ARun P d ops (⟨some s, .buildSlice t len parts.toArray, ty, pos, aft, none⟩ :: rest) ⟨sz, fr, up, own, dfs, rnd⟩ Q := by
 have h2 : ∀ y ∈ ys, y.cells.length = k ∧ y.cells.all AV.one = true := fun y hy => by simpa using List.all_eq_true.1 hk y hy
 exact ARun.vv rfl rfl hs (OpV.buildSlice (st := ⟨sz, fr, up, own, dfs, rnd⟩) hu hsz hz hev (fun y hy => (h2 y hy).1) (fun y hy c hc => List.all_eq_true.1 (h2 y hy).2 c hc) hlen hl hp) hr
theorem G.buildSl {t e : TypeId} {k len : Nat} {z : Value} {parts : List (Nat × Operand)} {ys : List AV} {oj : Oper} {j g : Nat} {want C : Bool} (hu : P.underlying t = some (.slice e)) (hsz : ∀ w, (Go.sizeOf e).run P w = .ok k w) (hz : ∀ w, (zeroValue e).run P w = .ok z w)
  (hr : ARun P d ops rest ⟨sz, setF s (gAV C (.slice false k ys)) fr, up, own, dfs, rnd⟩ Q) (hj : ops[j]? = some oj := by rfl) (hdj : oj.dst = some g := by rfl) (hgs : GIs (fr g) want C := by simp only [go_sem, ↓reduceIte, Nat.reduceEqDiff, Nat.reduceAdd] <;> first | exact GIs.v _ _ | exact GIs.g _ _ _)
  (hp : parts.toArray = (((parts.map Prod.snd).zipIdx).map fun x => (x.2, x.1)).toArray := by rfl) (hev : C = true → (parts.map Prod.snd).map (frEv fr) = ys := by intro hB; simp only [go_sem, hB, ↓reduceIte, Nat.reduceEqDiff, Nat.reduceAdd] <;> rfl)
  (hk : ys.all (fun y => decide (y.cells.length = k) && y.cells.all AV.one) = true := by simp [go_sem]) (hl : len = ys.length := by rfl) (hlen : ys.length * k ≤ 16777216 := by simp only [go_sem, ↓reduceIte, Nat.reduceEqDiff, Nat.reduceAdd] <;> omega) (hs : Nat.blt s sz = true := by rfl) :
  ARun P d ops (⟨some s, .buildSlice t len parts.toArray, ty, pos, aft, some (j, want)⟩ :: rest) ⟨sz, fr, up, own, dfs, rnd⟩ Q := by
 have h2 : ∀ y ∈ ys, y.cells.length = k ∧ y.cells.all AV.one = true := fun y hy => by simpa using List.all_eq_true.1 hk y hy
 exact ARun.guardC rfl hj hdj hgs rfl hs (fun hB => OpV.buildSlice (st := ⟨sz, fr, up, own, dfs, rnd⟩) hu hsz hz (hev hB) (fun y hy => (h2 y hy).1) (fun y hy c hc => List.all_eq_true.1 (h2 y hy).2 c hc) hlen hl hp) hr
section
variable {P : Program} {d : Nat} {sz : Nat} {dfs : List Nat} {rnd : Option Nat} {l0 : List Oper} {up own : (Nat → Bool) → List AObj} {E : List Oper → (Nat → AV) → Prop} {S : List SegY} {l : List Oper} {fr : Nat → AV} {ty : TypeId} {pos : String} {aft : Array Edge} {s : Nat} {T F : List Nat}
/-- The p-th of those that turn the heap: an allocation. -/
theorem Y.alloc {t : TypeId} {z : Value} {zs : List AV} {n u pn : Nat} (hz : ∀ w, (zeroValue t).run P w = .ok z w)
  (hU : ∀ B : Nat → Bool, (∀ p ∈ T, B p = true) → (∀ p ∈ F, B p = false) → B pn = false → (up B).length = u ∧ (own B).length = n ∧ own (upd B pn) = own B ++ [.cells t zs] ∧ up (upd B pn) = up B)
  (h : ChainY P d l0 sz up own dfs rnd E S l (setF s (.ptr (oid u n) 0) fr)) (hzs : z.cells.toList.map constAV = zs := by simp only [go_sem, ↓reduceIte, Nat.reduceEqDiff, Nat.reduceAdd] <;> rfl) (hs : Nat.blt s sz = true := by rfl) :
  ChainY P d l0 sz up own dfs rnd E (.s [s] (some pn) T F :: S) (⟨some s, .alloc t, ty, pos, aft, none⟩ :: l) fr := by
 refine ⟨_, l, [(s, .ptr (oid u n) 0)], rfl, ⟨rfl, rfl, fun B f hT hF hB hf => ?_⟩, h⟩
 obtain ⟨a0, a1, a2, a3⟩ := hU B hT hF (hB pn rfl)
 refine AOp.eqTo (AOp.alloc (st := ⟨sz, f, up B, own B, dfs, rnd⟩) hz hzs.symm a1 (by simpa using hs)) ?_
 show _ = St.mk sz (setF s (.ptr (oid u n) 0) f) (up (upd B pn)) (own (upd B pn)) dfs rnd
 rw [a2, a3, ← a0]
 rfl
/-- The same for a store, where it is known which of the others have run. -/
theorem Y.storeOwnT {t t' : TypeId} {p x : Operand} {n off k u pn : Nat} {y : AV} {ys cs cs' : List AV} (hsz : ∀ w, (Go.sizeOf t).run P w = .ok k w)
  (hU : ∀ B : Nat → Bool, (∀ p ∈ T, B p = true) → (∀ p ∈ F, B p = false) → B pn = false → (up B).length = u ∧ (own B)[n]? = some (.cells t' cs) ∧ own (upd B pn) = (own B).set n (.cells t' cs') ∧ up (upd B pn) = up B)
  (h : ChainY P d l0 sz up own dfs rnd E S l fr)
  (hp : frEv fr p = .ptr (oid u n) off := by simp only [go_sem, ↓reduceIte, Nat.reduceEqDiff, Nat.reduceAdd] <;> rfl) (hx : frEv fr x = y := by simp only [go_sem, ↓reduceIte, Nat.reduceEqDiff, Nat.reduceAdd] <;> rfl) (hc : y.cells = ys := by simp only [go_sem, ↓reduceIte, Nat.reduceEqDiff, Nat.reduceAdd] <;> rfl) (hk : ys.length = k := by rfl)
  (h1 : ys.all AV.one = true := by simp only [go_sem, ↓reduceIte, Nat.reduceEqDiff, Nat.reduceAdd]) (hfit : off + k ≤ cs.length := by simp only [go_sem, ↓reduceIte, Nat.reduceEqDiff, Nat.reduceAdd] <;> omega) (hput : putCells cs off ys = cs' := by simp only [go_sem, ↓reduceIte, Nat.reduceEqDiff, Nat.reduceAdd] <;> rfl) :
  ChainY P d l0 sz up own dfs rnd E (.s [] (some pn) T F :: S) (⟨none, .store t p x, ty, pos, aft, none⟩ :: l) fr := by
 subst hput
 subst hc
 refine ⟨_, l, [], rfl, ⟨rfl, rfl, fun B f hT hF hB hf => ?_⟩, h⟩
 obtain ⟨a0, a1, a2, a3⟩ := hU B hT hF (hB pn rfl)
 have e : frEv f p = .ptr (oid u n) off := by rw [agr hf (by simp [Op.operands])]; exact hp
 have ex : frEv f x = y := by rw [agr hf (by simp [Op.operands])]; exact hx
 refine AOp.eqTo (AOp.storeOwn (st := ⟨sz, f, up B, own B, dfs, rnd⟩) hsz (by show frEv f p = _; rw [e, ← a0]; rfl) a1 ex hk h1 hfit) ?_
 show _ = St.mk sz f (up (upd B pn)) (own (upd B pn)) dfs rnd
 rw [a2, a3]
end
end Go.SX
namespace Go.SX
variable [GI : GlobInv]
open Classical
section
variable {P : Program} {d : Nat}

/-- Less is known of a state, and the last of its objects are let go. -/
def StCut (d : Nat) (s t : St) : Prop :=
 (t.up ++ t.own).length ≤ (s.up ++ s.own).length ∧ t.up.length = s.up.length ∧ t.rnd = s.rnd ∧ t.sz = s.sz ∧
  ∀ (G : Gh) (a : Act) (w : World), StRel d G s a w → StRel d { G with n := (t.up ++ t.own).length } t a w

theorem StCut.of_le {s t : St} (h : StLe d s t) (ho : t.own.length = s.own.length) : StCut d s t := by
 refine ⟨by simp [h.2.1, ho], h.2.1, h.2.2.1, h.2.2.2, fun G a w hr => ?_⟩
 have := h.1 G a w hr
 have e : G = { G with n := (t.up ++ t.own).length } := by
  have hn := this.heap.n
  cases G
  simp only at hn ⊢
  rw [hn]
 rw [← e]
 exact this
theorem StCut.of_eq {s t : St} (h : s = t) : StCut d s t := by subst h; exact StCut.of_le (StLe.refl _) rfl

theorem Low.of_le {m : Nat} {x y : AV} (h : Low m x) (hl : Le x y) : Low m y := by
 cases hl with
 | refl => exact h
 | any => exact .any
 | nil own k => exact .slice own k [] (fun x hx => by cases hx)
 | strip own k xs => exact h.strip
 | agg cs cs' hn h1 hh =>
  cases h with
  | agg _ h =>
   refine .agg _ fun y' hy' => ?_
   obtain ⟨i, hi⟩ := List.getElem?_of_mem hy'
   have hlt : i < cs.length := by rw [hn]; exact (List.getElem?_eq_some_iff.1 hi).1
   rcases hh i cs[i] y' (List.getElem?_eq_getElem hlt) hi with e | ⟨e, k, rfl⟩
   ·exact e ▸ h _ (List.getElem_mem hlt)
   ·exact .slice false k [] (fun x hx => by cases hx)

theorem StCut.take {sz : Nat} {fr fr' : Nat → AV} {up own junk : List AObj} {dfs : List Nat} {rnd : Option Nat} (hf : ∀ i, Le (fr i) (fr' i)) (hlow : ∀ i, Low (up.length + own.length) (fr' i)) (ho : ∀ x ∈ own, ObjLow (up.length + own.length) x) (hd : ∀ o ∈ dfs, o < up.length + own.length) :
  StCut d ⟨sz, fr, up, own ++ junk, dfs, rnd⟩ ⟨sz, fr', up, own, dfs, rnd⟩ := by
 refine ⟨by simp, rfl, rfl, rfl, fun G a w hr => ?_⟩
 have hn := hr.heap.n
 simp only [List.length_append] at hn
 have hget : ∀ (i : Nat) (x : AObj), (up ++ own)[i]? = some x → (up ++ (own ++ junk))[i]? = some x := fun i x hx => by
  rw [← List.append_assoc]
  exact get_up hx
 refine ⟨hr.size, fun s => ?_, ⟨fun i x hx => ?_, rfl, fun i j hi hj e => hr.heap.inj i j ?_ ?_ e⟩, hr.defs, fun o hoo => ?_, hr.defsNodup, hr.defsGe, ⟨hr.tags.ex, hr.tags.obj, hr.tags.tail, hr.tags.globCut (by rw [hn]; simp only [List.length_append]; omega)⟩, hr.rnd, hr.low⟩
 ·exact ((hr.slots s).le (hf s)).cut (by simpa using hlow s)
 ·have hob := hr.heap.obj i x (hget i x hx)
  have hlx : ObjLow (up.length + own.length) x := by
   rcases Nat.lt_or_ge i up.length with h' | h'
   ·rw [List.getElem?_append_left h'] at hx
    have := hr.low x (List.mem_of_getElem? hx)
    cases x with
    | cells t cs => exact fun y hy => (this y hy).mono (by simp)
    | loop sta pd fr sz ps as bd df => exact ⟨fun s => (this.1 s).mono (by simp), by have := this.2; simp only at this; omega⟩
    | defs => trivial
    | dead => trivial
    | bld _ _ _ => trivial
    | gone => trivial
   ·rw [List.getElem?_append_right h'] at hx
    exact ho x (List.mem_of_getElem? hx)
  exact hob.cut (by simpa using hlx)
 ·simp only [List.length_append] at hi; omega
 ·simp only [List.length_append] at hj; omega
 ·have h1 := hr.defsAt o hoo
  have h2 := hd o hoo
  simp only at h1
  rw [← List.append_assoc, List.getElem?_append_left (by simpa using h2)] at h1
  exact h1

theorem low1 {n : Nat} {t : TypeId} {x : Value} : ObjLow n (.cells t [.v x]) := fun y hy => by
 have : y = .v x := by simpa using hy
 subst this
 exact .v x
theorem getset {U : List AObj} {i : Nat} {x y : AObj} (h : U[i]? = some x) : (U.set i y)[i]? = some y := by rw [List.getElem?_set_self (List.getElem?_eq_some_iff.1 h).1]
theorem set_same {U : List AObj} {i : Nat} {x : AObj} (h : U[i]? = some x) : U.set i x = U := by
 apply List.ext_getElem?
 intro j
 rw [List.getElem?_set]
 split
 ·rename_i e
  subst e
  split
  ·exact h.symm
  ·rename_i hlt; rw [List.getElem?_eq_none (by omega)]
 ·rfl
/-- Less known of one slot. -/
theorem R.wk {ops : Array Oper} {l : List Oper} {sz : Nat} {fr : Nat → AV} {up own : List AObj} {dfs : List Nat} {rnd : Option Nat} {Q : St → Prop} {y : AV} (s : Nat) (y' : AV) (hl : Le y y') (hr : ARun P d ops l ⟨sz, setF s y' fr, up, own, dfs, rnd⟩ Q)
  (h : fr s = y := by simp only [go_sem, ↓reduceIte, Nat.reduceEqDiff, Nat.reduceAdd] <;> rfl) : ARun P d ops l ⟨sz, fr, up, own, dfs, rnd⟩ Q :=
 ARun.le (st' := ⟨sz, setF s y' fr, up, own, dfs, rnd⟩) (StLe.frame (s := ⟨sz, fr, up, own, dfs, rnd⟩) fun i => by
  unfold setF
  split
  ·rename_i e; subst e; show Le (fr i) _; rw [h]; exact hl
  ·exact .refl _) hr
/-- A nil slice is an empty one, and ours. -/
theorem R.nilSl {ops : Array Oper} {l : List Oper} {sz : Nat} {fr : Nat → AV} {up own : List AObj} {dfs : List Nat} {rnd : Option Nat} {Q : St → Prop} (s k : Nat) (hr : ARun P d ops l ⟨sz, setF s (.slice true k []) fr, up, own, dfs, rnd⟩ Q)
  (h : fr s = .nil := by simp only [go_sem, ↓reduceIte, Nat.reduceEqDiff, Nat.reduceAdd] <;> rfl) : ARun P d ops l ⟨sz, fr, up, own, dfs, rnd⟩ Q :=
 ARun.le (st' := ⟨sz, setF s (.slice true k []) fr, up, own, dfs, rnd⟩) (StLe.frame (s := ⟨sz, fr, up, own, dfs, rnd⟩) fun i => by
  unfold setF
  split
  ·rename_i e; subst e; show Le (fr i) _; rw [h]; exact .nil _ _
  ·exact .refl _) hr
theorem lowF_set {n s : Nat} {y : AV} {f : Nat → AV} (h : Low n y) (hf : ∀ i, Low n (f i)) : ∀ i, Low n (setF s y f i) := by
 intro i
 unfold setF
 split
 ·exact h
 ·exact hf i
theorem lowF_any {n : Nat} : ∀ i, Low n ((fun _ => .any : Nat → AV) i) := fun _ => .any

/-- How a round of a loop may end: n: what is asked when it comes to an end; N: when the block around the loop is left. -/
def LK {α : Type} (d : Nat) (id : Nat) (I : α → St) (R : α → Prop) (μ : α → Nat) (x : α) (N : St → Prop) (K : Exit → St → Prop) : Exit → St → Prop
 | .normal, s => ∃ y, R y ∧ μ y < μ x ∧ StCut d s (I y) ∧ (I y).own.length = (I x).own.length
 | .exit i, s => if i = id then N s else K (.exit i) s
 | e, s => K e s

theorem AW.loopC {c : Code} {st : St} {K : Exit → St → Prop} {id : Nat} {α : Type} (I : α → St) (R : α → Prop) (μ : α → Nat) (x0 : α) (h0 : R x0) (hst : StLe d st (I x0)) (hown : (I x0).own.length = st.own.length)
  (round : ∀ x, R x → AW P d c (I x) (LK d id I R μ x (K .normal) K)) : AW P d (.block id (.loop c)) st K := by
 refine AW.block ?_
 intro G0 a0 w0 hr0
 let S : Act → World → Nat → Prop := fun a w m => ∃ x G, R x ∧ StRel d G (I x) a w ∧ Keep d G0 w0 G w ∧ ((I x).up.length = st.up.length ∧ (I x).rnd = st.rnd ∧ (I x).sz = st.sz ∧ (I x).own.length = st.own.length) ∧ μ x = m
 have key : ∀ a w, (∃ m, S a w m) → ∃ m, (S a w m ∧ ∀ k, S a w k → m ≤ k) := fun a w h => exists_least h
 refine wpIn_loop (F := Fr (st.rnd.map G0.blk)) (fun a w => ∃ m, S a w m) (fun a w => Classical.epsilon fun m => S a w m ∧ ∀ k, S a w k → m ≤ k)
  ⟨_, x0, G0, h0, hst.1 _ _ _ hr0, Keep.refl _ _ _, ⟨hst.2.1, hst.2.2.1, hst.2.2.2, hown⟩, rfl⟩ ?_
 intro a w hI
 obtain ⟨⟨x, G, hx, hrel, hkeep, ⟨e1, e2, e3, e4⟩, hm⟩, _⟩ := Classical.epsilon_spec (key a w hI)
 have hw := round x hx G a w hrel
 have hF : Fr ((I x).rnd.map G.blk) = Fr (st.rnd.map G0.blk) := fr_keep (st' := I x) hr0 hkeep e2
 rw [hF] at hw
 refine wpIn_mono hw ?_
 rintro e a1 w1 ⟨G1, s1, hr1, hk1, f1, f2, f3, hK⟩
 have hnx : G.n = ((I x).up ++ (I x).own).length := hrel.heap.n
 cases e with
 | normal =>
  obtain ⟨y, hy, hlt, hle, hown'⟩ := hK
  obtain ⟨c1, c2, c3, c4, c5⟩ := hle
  have hcut := c5 _ _ _ hr1
  have hnE : ((I y).up ++ (I y).own).length = G.n := by
   rw [hnx]
   simp only [List.length_append]
   have := c2.trans f1
   omega
  have hk1' : Keep d G w { G1 with n := ((I y).up ++ (I y).own).length } w1 := ⟨hk1.fix, hk1.slot, by rw [← hnE]; exact Nat.le_refl _, hk1.blk, hk1.os, hk1.tape, hk1.output, hk1.size, hk1.old.cut (by rw [hr1.heap.n]; exact c1)⟩
  have hS : S a1 w1 (μ y) := ⟨y, _, hy, hcut, hkeep.trans hk1', ⟨c2.trans (f1.trans e1), c3.trans (f2.trans e2), c4.trans (f3.trans e3), hown'.trans e4⟩, rfl⟩
  have hmin := (Classical.epsilon_spec (key a1 w1 ⟨_, hS⟩)).2 _ hS
  refine ⟨⟨_, hS⟩, ?_⟩
  rw [← hm]
  exact Nat.lt_of_le_of_lt hmin hlt
 | exit i =>
  refine ⟨G1, s1, hr1, hkeep.trans hk1, f1.trans e1, f2.trans e2, f3.trans e3, ?_⟩
  simp only [LK] at hK
  simp only [blockK]
  split
  ·rename_i h; rw [if_pos h] at hK; exact hK
  ·rename_i h; rw [if_neg h] at hK; exact hK
 | goto l => exact ⟨G1, s1, hr1, hkeep.trans hk1, f1.trans e1, f2.trans e2, f3.trans e3, hK⟩
 | ret => exact ⟨G1, s1, hr1, hkeep.trans hk1, f1.trans e1, f2.trans e2, f3.trans e3, hK⟩
 | panic ch => exact ⟨G1, s1, hr1, hkeep.trans hk1, f1.trans e1, f2.trans e2, f3.trans e3, hK⟩
 | outgrown => exact ⟨G1, s1, hr1, hkeep.trans hk1, f1.trans e1, f2.trans e2, f3.trans e3, hK⟩

/-! ### Ways out, step by step -/
variable {K K' : Exit → St → Prop} {N : St → Prop} {y : Code} {s : St} {i id : Nat}
theorem K.thN (h : AW P d y s K) : thenK (fun s => AW P d y s K) K' .normal s := h
theorem K.thE (h : K (.exit i) s) : thenK N K (.exit i) s := h
theorem K.thR (h : K .ret s) : thenK N K .ret s := h
theorem K.blN (h : K .normal s) : blockK id K .normal s := h
theorem K.blE (h : K .normal s) : blockK i K (.exit i) s := by simp only [blockK, if_true]; exact h
theorem K.blR (h : K .ret s) : blockK id K .ret s := h
section
variable {α : Type} {I : α → St} {R : α → Prop} {μ : α → Nat} {x : α}
theorem K.lpE (h : N s) : LK d i I R μ x N K (.exit i) s := by simp only [LK, if_true]; exact h
theorem K.lpR (h : K .ret s) : LK d id I R μ x N K .ret s := h
theorem K.lpN (y : α) (hR : R y) (hμ : μ y < μ x) (hc : StCut d s (I y)) (ho : (I y).own.length = (I x).own.length := by rfl) : LK d id I R μ x N K .normal s := ⟨y, hR, hμ, hc, ho⟩
end
/-- Ways that meet again. -/
theorem W.join {a b : Code} (T : St) (h1 : AW P d a s (thenK (fun s => StLe d s T) K)) (h2 : AW P d b T K) : AW P d (.seq a b) s K := by
 refine AW.seq (h1.mono fun e s' hs => ?_)
 cases e with
 | normal => exact AW.le hs h2
 | exit i => exact hs
 | goto i => exact hs
 | ret => exact hs
 | panic c => exact hs
 | outgrown => exact hs
theorem K.thJ {T : St} (h : StLe d s T) : thenK (fun s => StLe d s T) K' .normal s := h
theorem StLe.of_eq {s t : St} (h : s = t) : StLe d s t := by subst h; exact StLe.refl _
theorem W.seq {a b : Code} (h : AW P d a s (thenK (fun s => AW P d b s K) K)) : AW P d (.seq a b) s K := AW.seq h
section
variable {sz : Nat} {fr : Nat → AV} {up own : List AObj} {dfs : List Nat} {rnd : Option Nat} {c : Operand} {a b : Code} {B : Bool}
theorem W.keep (l : List Nat) {fr' : Nat → AV} (hq : AW P d y ⟨sz, fr', up, own, dfs, rnd⟩ K) (h : keepL l fr = fr' := by simp only [go_sem, ↓reduceIte, Nat.reduceEqDiff, Nat.reduceAdd] <;> rfl) : AW P d y ⟨sz, fr, up, own, dfs, rnd⟩ K := AW.keep l h hq
/-- A loop's test: on, or out. -/
theorem W.condX {i : Nat} (h1 : B = true → AW P d y ⟨sz, fr, up, own, dfs, rnd⟩ K) (h2 : B = false → K (.exit i) ⟨sz, fr, up, own, dfs, rnd⟩) (hc : frEv fr c = .v (.bool B) := by simp only [go_sem, ↓reduceIte, Nat.reduceEqDiff, Nat.reduceAdd] <;> rfl) :
  AW P d (.seq (.cond c .skip (.exit i)) y) ⟨sz, fr, up, own, dfs, rnd⟩ K := AW.seq (W.cond (fun e => AW.skip (h1 e)) (fun e => AW.exit (h2 e)) hc)
end
theorem K.fin {rs : List ResultVar} {n : Nat} {post : AV → List AObj → Prop} {r : AV} (hres : Res P s rs r) (hp : post r s.up := by exact ⟨rfl, rfl⟩) (hlow : Low n r := by simp) : FK P rs n post .ret s := ⟨.inr rfl, r, hres, hlow, hp⟩
theorem K.finN {rs : List ResultVar} {n : Nat} {post : AV → List AObj → Prop} {r : AV} (hres : Res P s rs r) (hp : post r s.up := by exact ⟨rfl, rfl⟩) (hlow : Low n r := by simp) : FK P rs n post .normal s := ⟨.inl rfl, r, hres, hlow, hp⟩
end
end Go.SX
namespace Go.SX
variable [GI : GlobInv]
open Classical
section
variable {P : Program} {d : Nat} {ops : Array Oper} {rest : List Oper} {sz : Nat} {fr : Nat → AV} {up own own' : List AObj} {dfs : List Nat} {rnd : Option Nat} {Q : St → Prop} {s : Nat} {ty : TypeId} {pos : String} {aft : Array Edge}

theorem set_oid {U O : List AObj} {n : Nat} {x : AObj} : (U ++ O).set (oid U.length n) x = U ++ O.set n x := set_append_own
theorem get_oid {U O : List AObj} {n : Nat} : (U ++ O)[oid U.length n]? = O[n]? := get_own
theorem oid_ne {u n m : Nat} (h : n ≠ m) : oid u n ≠ oid u m := fun e => h (Nat.add_left_cancel e)
theorem keep1 {U : List AObj} {l a : Nat} {x y X : AObj} (h : U[l]? = some x) (ha : a ≠ l) : ((U.set l y).set a X)[l]? = some y := by rw [List.getElem?_set_ne ha]; exact getset h
theorem keep2 {U : List AObj} {l a b : Nat} {x y X Y : AObj} (h : U[l]? = some x) (ha : a ≠ l) (hb : b ≠ l) : (((U.set l y).set a X).set b Y)[l]? = some y := by rw [List.getElem?_set_ne hb]; exact keep1 h ha
theorem setP_nil (f : Nat → AV) : setP [] f = f := rfl
theorem setP_cons (x : Nat × AV) (r : List (Nat × AV)) (f : Nat → AV) : setP (x :: r) f = setP r (setF x.1 x.2 f) := rfl
attribute [go_sem] setP_nil setP_cons List.zip_cons_cons List.zip_nil_left List.zip_nil_right
/-- A call of a round, by an activation that has no objects. -/
theorem R.yield0 {f : Operand} {xs : List Operand} {ats : Array TypeId} {l : Nat} {args : List AV} {post : Bool → List AObj → Prop} (h : AYield P l args up post)
  (hp : ∀ b U, U.length = up.length → post b U → ARun P d ops rest ⟨sz, setF s (.v (.bool b)) fr, U, [], [], rnd⟩ Q)
  (hf : frEv fr f = .yield l := by simp only [go_sem, ↓reduceIte, Nat.reduceEqDiff, Nat.reduceAdd] <;> rfl) (ha : xs.map (frEv fr) = args := by simp only [go_sem, ↓reduceIte, Nat.reduceEqDiff, Nat.reduceAdd] <;> rfl) (hs : Nat.blt s sz = true := by rfl) :
  ARun P d ops (⟨some s, .call ⟨.value f, xs.toArray, ats⟩, ty, pos, aft, none⟩ :: rest) ⟨sz, fr, up, [], [], rnd⟩ Q := by
 refine ARun.op rfl (Q1 := fun s' => ARun P d ops rest s' Q) ?_ (fun s' e => e)
 intro G a w hr Q'
 have hfr' : Rep G w none (.yield l) (a.eval f) := by
  have := hr.eval f
  have e : St.ev ⟨sz, fr, up, [], [], rnd⟩ f = .yield l := hf
  rwa [e] at this
 generalize hfv : a.eval f = fv at hfr'
 cases hfr' with
 | yield _ _ ho =>
  have hxr := evs_rep hr xs
  have ha' : xs.map (St.ev ⟨sz, fr, up, [], [], rnd⟩) = args := ha
  rw [ha'] at hxr
  have hh : HeapRel G up w := by simpa using hr.heap
  obtain ⟨f', tmps, as, bd, hrun, hround⟩ := h d G w (xs.map a.eval).toArray (by rw [← ha]; simp) hxr hh hr.tags
  refine wpIn_round (by intro c h; cases h) ((run_callYield hfv).trans hrun) hround ?_
  rintro e w' ⟨b, G', H', rfl, hH, hT, hk, hlen, hp'⟩
  have h3 := hr.called hH hT hk (U := H') (O := []) (by simp) hlen (fun o ho => by simp at ho) (by rw [hlen]; have := objs_low hH; rwa [hlen] at this)
  obtain ⟨h4, k4⟩ := h3.took (.v (some (.ret d)) (.bool b)) (s := s) (by simpa using hs)
  exact ⟨.bool b, rfl, _, _, h4, (hk.less (Nat.le_succ d)).trans k4, hlen, rfl, rfl, hp b H' hlen hp'⟩

/-- Ranging over a function. -/
theorem W.range {g : Operand} {ps : Array Tmp} {as bd : Code} {gf : FuncId} {first caps args : List AV} {m : Nat} {K : Exit → St → Prop} (post : AV → List AObj → Prop) (hcall : ∀ args w, (callFunc gf args).run P w = .ok (.enter gf args) w)
  (h : ACall P gf args (up ++ (own ++ [.defs, .loop .ready none (fun s => (fr s).strip) sz ps as bd (oid up.length m)])) post)
  (hp : ∀ r H', post r H' → rangeK P d ⟨sz, fr, up, own, dfs, none⟩ (oid up.length m :: dfs) (m + 1) (oid up.length m) ps as bd K r H')
  (hm : own.length = m := by rfl) (hg : frEv fr g = .fn (.func gf) first caps := by simp only [go_sem, ↓reduceIte, Nat.reduceEqDiff, Nat.reduceAdd] <;> rfl) (ha : first ++ [.yield (oid up.length (m + 1))] ++ caps = args := by rfl) :
  AW P d (.rangeFunc g ps as bd) ⟨sz, fr, up, own, dfs, none⟩ K := by
 subst ha
 refine AW.rangeFunc (st := ⟨sz, fr, up, own, dfs, none⟩) (n := up.length) (m := m) hcall hg rfl rfl hm.symm ?_
 exact h.mono hp

/-- What is asked behind the function that is ranged over; the record's parts under names. -/
def rangeV (P : Program) (d sz : Nat) (fr FR : Nat → AV) (up : List AObj) (dfs : List Nat) (l df : Nat) (ps : Array Tmp) (as bd : Code) (K : Exit → St → Prop) (H' : List AObj) : Prop :=
 ∃ U O x pd, H' = U ++ O ∧ U.length = up.length ∧ ((∀ x ∈ up, ObjLow U.length x) → ∀ x ∈ U, ObjLow U.length x) ∧ (∀ o ∈ dfs, (U ++ O)[o]? = some .defs) ∧
  O[l]? = some (.loop x pd FR sz ps as bd df) ∧ x ≠ .busy ∧
  match pd with
  | none => K .normal ⟨sz, fr, U, O.set l (.loop .exhausted none FR sz ps as bd df), dfs, none⟩
  | some c => AW P d c ⟨sz, fr, U, O.set l (.loop .exhausted (some c) FR sz ps as bd df), dfs, none⟩ K
theorem W.rangeV {g : Operand} {ps : Array Tmp} {as bd : Code} {gf : FuncId} {first caps args : List AV} {m : Nat} {K : Exit → St → Prop} (hcall : ∀ args w, (callFunc gf args).run P w = .ok (.enter gf args) w)
  (h : ∀ FR as' bd', FR = (fun s => (fr s).strip) → as' = as → bd' = bd → ∃ post : AV → List AObj → Prop, ACall P gf args (up ++ (own ++ [.defs, .loop .ready none FR sz ps as' bd' (oid up.length m)])) post ∧
   ∀ r H', post r H' → rangeV P d sz fr FR up (oid up.length m :: dfs) (m + 1) (oid up.length m) ps as' bd' K H')
  (hm : own.length = m := by rfl) (hg : frEv fr g = .fn (.func gf) first caps := by simp only [go_sem, ↓reduceIte, Nat.reduceEqDiff, Nat.reduceAdd] <;> rfl) (ha : first ++ [.yield (oid up.length (m + 1))] ++ caps = args := by rfl) :
  AW P d (.rangeFunc g ps as bd) ⟨sz, fr, up, own, dfs, none⟩ K := by
 obtain ⟨post, h1, h2⟩ := h _ _ _ rfl rfl rfl
 exact W.range post hcall h1 (fun r H' hp => h2 r H' hp) hm hg ha

/-- A nil slice in a cell of ours is an empty one. -/
theorem StLe.nilOwn {n k : Nat} {t : TypeId} (ho : own[n]? = some (.cells t [.nil])) : StLe d ⟨sz, fr, up, own, dfs, rnd⟩ ⟨sz, fr, up, own.set n (.cells t [.slice true k []]), dfs, rnd⟩ := by
 refine ⟨fun G a w h => ?_, rfl, rfl, rfl⟩
 refine ⟨h.size, h.slots, ⟨fun i x hx => ?_, ?_, h.heap.inj⟩, h.defs, fun o hoo => ?_, h.defsNodup, h.defsGe, h.tags, h.rnd, h.low⟩
 ·by_cases hi : i = up.length + n
  ·subst hi
   simp only at hx
   rw [get_own, List.getElem?_set_self (List.getElem?_eq_some_iff.1 ho).1] at hx
   injection hx with hx
   subst hx
   have hob := h.heap.obj (up.length + n) (.cells t [.nil]) (by simp only [get_own]; exact ho)
   obtain ⟨vs, h1, h2, h3, h4⟩ := hob
   refine ⟨vs, h1, h2, fun j y u p q => ?_, h4⟩
   match j, p with
   | 0, p =>
    have e : y = .slice true k [] := by simpa using p.symm
    subst e
    exact (h3 0 .nil u rfl q).le (.nil _ _)
   | j + 1, p => simp at p
  ·refine h.heap.obj i x ?_
   simp only at hx ⊢
   rwa [← set_append_own, List.getElem?_set_ne (fun e => hi e.symm)] at hx
 ·have := h.heap.n; simpa using this
 ·have h1 := h.defsAt o hoo
  simp only at h1 ⊢
  rw [← set_append_own]
  by_cases hi : o = up.length + n
  ·subst hi
   rw [get_own, ho] at h1
   cases h1
  ·rw [List.getElem?_set_ne (fun e => hi e.symm)]
   exact h1

theorem R.nilOwn {l : List Oper} (n k : Nat) {t : TypeId} (hr : ARun P d ops l ⟨sz, fr, up, own', dfs, rnd⟩ Q) (ho : own[n]? = some (.cells t [.nil]) := by rfl) (hset : own.set n (.cells t [.slice true k []]) = own' := by simp only [go_sem, ↓reduceIte, Nat.reduceEqDiff, Nat.reduceAdd] <;> rfl) :
  ARun P d ops l ⟨sz, fr, up, own, dfs, rnd⟩ Q := by
 subst hset
 exact ARun.le (StLe.nilOwn ho) hr
theorem W.nilOwn {c : Code} {K : Exit → St → Prop} (n k : Nat) {t : TypeId} (hr : AW P d c ⟨sz, fr, up, own', dfs, rnd⟩ K) (ho : own[n]? = some (.cells t [.nil]) := by rfl) (hset : own.set n (.cells t [.slice true k []]) = own' := by simp only [go_sem, ↓reduceIte, Nat.reduceEqDiff, Nat.reduceAdd] <;> rfl) :
  AW P d c ⟨sz, fr, up, own, dfs, rnd⟩ K := by
 subst hset
 exact AW.le (StLe.nilOwn ho) hr

/-- A nil slice in one of the cells of an object of ours is an empty one. -/
theorem StLe.nilCell {n k j0 : Nat} {t : TypeId} {cs : List AV} (ho : own[n]? = some (.cells t cs)) (hc : cs[j0]? = some .nil) : StLe d ⟨sz, fr, up, own, dfs, rnd⟩ ⟨sz, fr, up, own.set n (.cells t (cs.set j0 (.slice true k []))), dfs, rnd⟩ := by
 refine ⟨fun G a w h => ?_, rfl, rfl, rfl⟩
 refine ⟨h.size, h.slots, ⟨fun i x hx => ?_, ?_, h.heap.inj⟩, h.defs, fun o hoo => ?_, h.defsNodup, h.defsGe, h.tags, h.rnd, h.low⟩
 ·by_cases hi : i = up.length + n
  ·subst hi
   simp only at hx
   rw [get_own, List.getElem?_set_self (List.getElem?_eq_some_iff.1 ho).1] at hx
   injection hx with hx
   subst hx
   have hob := h.heap.obj (up.length + n) (.cells t cs) (by simp only [get_own]; exact ho)
   obtain ⟨vs, h1, h2, h3, h4⟩ := hob
   refine ⟨vs, h1, by simpa using h2, fun j y u p q => ?_, by simpa using h4⟩
   by_cases hj : j = j0
   ·subst hj
    rw [List.getElem?_set_self (List.getElem?_eq_some_iff.1 hc).1] at p
    have e : y = .slice true k [] := by simpa using p.symm
    subst e
    exact (h3 j .nil u hc q).le (.nil _ _)
   ·rw [List.getElem?_set_ne (fun e => hj e.symm)] at p
    exact h3 j y u p q
  ·refine h.heap.obj i x ?_
   simp only at hx ⊢
   rwa [← set_append_own, List.getElem?_set_ne (fun e => hi e.symm)] at hx
 ·have := h.heap.n; simpa using this
 ·have h1 := h.defsAt o hoo
  simp only at h1 ⊢
  rw [← set_append_own]
  by_cases hi : o = up.length + n
  ·subst hi
   rw [get_own, ho] at h1
   cases h1
  ·rw [List.getElem?_set_ne (fun e => hi e.symm)]
   exact h1
theorem R.nilCell {l : List Oper} (n j0 k : Nat) {t : TypeId} {cs : List AV} (hr : ARun P d ops l ⟨sz, fr, up, own', dfs, rnd⟩ Q) (ho : own[n]? = some (.cells t cs) := by rfl) (hc : cs[j0]? = some .nil := by rfl) (hset : own.set n (.cells t (cs.set j0 (.slice true k []))) = own' := by simp only [go_sem, ↓reduceIte, Nat.reduceEqDiff, Nat.reduceAdd] <;> rfl) :
  ARun P d ops l ⟨sz, fr, up, own, dfs, rnd⟩ Q := by
 subst hset
 exact ARun.le (StLe.nilCell ho hc) hr

/-- Objects of whoever waits refer to one another alone. -/
theorem R.assumeLow {l : List Oper} (h : (∀ x ∈ up, ObjLow up.length x) → ARun P d ops l ⟨sz, fr, up, own, dfs, rnd⟩ Q) : ARun P d ops l ⟨sz, fr, up, own, dfs, rnd⟩ Q := fun G a w hr => h hr.low G a w hr

/-! ### Ends of rounds -/
variable {l df : Nat} {ps : Array Tmp} {as bd : Code} {post : Bool → List AObj → Prop} {st : St} {x : LoopState} {pd : Option Code}
theorem K.rdN (hl : st.up[l]? = some (.loop x pd fr sz ps as bd df)) (h : post true (st.up.set l (.loop .ready none fr sz ps as bd df))) : roundK l fr sz ps as bd df post .normal st := ⟨⟨x, pd, hl⟩, h⟩
theorem K.rdR (hl : st.up[l]? = some (.loop x pd fr sz ps as bd df)) (h : post false (st.up.set l (.loop .done (some .ret) fr sz ps as bd df))) : roundK l fr sz ps as bd df post .ret st := ⟨⟨x, pd, hl⟩, h⟩
end
end Go.SX
namespace Go.SX
variable [GI : GlobInv]
open Classical
section
variable {P : Program} {d : Nat}
variable {sz : Nat} {dfs : List Nat} {rnd : Option Nat}
theorem wpIn_qmono {F : Fence} {n : Nat} {o : Oper} {a : Act} {w : World} {K K' : Act → World → Prop} {Q Q' : Exit → Act → World → Prop} (h : ∀ a w, K a w → K' a w) (hq : ∀ e a w, Q e a w → Q' e a w)
  (hh : o.wpIn F n P a w K Q) : o.wpIn F n P a w K' Q' := by
 unfold Oper.wpIn at *
 refine ⟨hh.1, ?_⟩
 have hh := hh.2
 generalize (o.semAt F.round a.eval).run P w = r at *
 cases r with
 | ok x w' =>
  cases x <;> simp only [Oper.uponIn] at hh ⊢ <;>
   first
    | exact h _ _ hh
    | exact hq _ _ _ hh
    | exact ⟨hh.1, CallsIn.mono hh.2 (fun e w'' he => by cases e <;> first | exact h _ _ he | exact hq _ _ _ he | (obtain ⟨a, w, he⟩ := he; exact ⟨a, w, hq _ _ _ he⟩) | exact he)⟩
    | exact ⟨hh.1, RowsIn.mono hh.2 (fun _ _ he => h _ _ he)⟩
    | exact ⟨hh.1, RoundIn.mono hh.2 (fun e w'' he => by cases e <;> first | exact h _ _ he | exact hq _ _ _ he | (obtain ⟨a, w, he⟩ := he; exact ⟨a, w, hq _ _ _ he⟩) | exact he)⟩
 | halt x w' => cases x <;> simp only [Oper.uponIn] at hh ⊢ <;> first | exact hh | exact hq _ _ _ hh
theorem anyIn_mono {F : Fence} {ops : Array Oper} {Q Q' : Exit → Act → World → Prop} (h : ∀ e a w, Q e a w → Q' e a w) : ∀ (fuel : Nat) (listed : Array Bool) (a : Act) (w : World), wpAnyIn F 0 P .any ops Q fuel listed a w → wpAnyIn F 0 P .any ops Q' fuel listed a w
 | 0, listed, a, w, hh => ⟨hh.1, h _ _ _ hh.2⟩
 | fuel + 1, listed, a, w, hh => by
  refine ⟨fun h0 => h _ _ _ (hh.1 h0), fun i hi => ?_⟩
  have := hh.2 i hi
  unfold wpOpIn at this ⊢
  cases ho : ops[i]? with
  | none => simp only [ho] at this ⊢; exact anyIn_mono h fuel _ _ _ this
  | some o =>
   simp only [ho] at this ⊢
   split
   ·rename_i hw
    simp only [hw, if_true] at this
    exact wpIn_qmono (fun a w => anyIn_mono h fuel _ a w) h this
   ·rename_i hw
    simp only [hw] at this
    exact ⟨this.1, anyIn_mono h fuel _ _ _ this.2⟩
/-- The last operations of a region, in any order that its text allows; the first k have run. -/
def ATail (P : Program) (d : Nat) (l : List Oper) (k : Nat) (st : St) (Q : St → Prop) : Prop :=
 ∀ (G : Gh) (a : Act) (w : World), StRel d G st a w → ∀ listed : Array Bool, listed.size = l.length → (∀ j, j < l.length → listed.getD j false = decide (j < k)) →
  wpAnyIn (Fr (st.rnd.map G.blk)) 0 P .any l.toArray (fun e a' w' => e = .normal ∧ Post d st G w Q a' w') (l.length - k) listed a w
/-- What is asked of the region's text. -/
def okT (l : List Oper) (tn : List Nat) (I : List Inf) (M : List Nat) : Bool :=
 Nat.ble I.length l.length && (tn.zipIdx.all fun x => Nat.blt x.1 I.length && tn.zipIdx.all fun y => Nat.beq x.2 y.2 || !Nat.beq x.1 y.1) &&
 l.zipIdx.all fun x =>
  Nat.beq (M.getD x.2 0) (edgesM M x.1.after.toList) && (x.1.after.toList.all fun e => !Region.binds .any e || Nat.blt e.on x.2) &&
  match I[x.2]? with
  | some inf =>
   ((slY x.1 inf).all fun s => (l.zip I).zipIdx.all fun z => Nat.beq z.2 x.2 || !((slY z.1.1 z.1.2).elem s) || (!(inf.W.isNone && z.1.2.W.isNone) && (((M.getD x.2 0).testBit z.2 && Nat.blt z.2 x.2) || ((M.getD z.2 0).testBit x.2 && Nat.blt x.2 z.2)))) &&
   ((lk l x.1).all fun s => (l.zip I).zipIdx.all fun z => !((slY z.1.1 z.1.2).elem s) || Nat.beq z.2 x.2 || ((M.getD x.2 0).testBit z.2 && Nat.blt z.2 x.2) || ((M.getD z.2 0).testBit x.2 && Nat.blt x.2 z.2)) &&
   (inf.T.all fun p => match tn[p]? with | some e => (M.getD x.2 0).testBit e | none => false) && (inf.F.all fun p => match tn[p]? with | some e => (M.getD e 0).testBit x.2 | none => false) &&
   (match inf.t with | some p => (match tn[p]? with | some e => Nat.beq e x.2 | none => false) | none => !tn.elem x.2)
  | none => (List.range I.length).all fun j => (M.getD x.2 0).testBit j

structure OkT (l : List Oper) (tn : List Nat) (I : List Inf) (M : List Nat) : Prop extends EdgeOK l l.length M where
 len : I.length ≤ l.length
 uniq : ∀ (i j : Nat) (o z : Oper) (x y : Inf) (s : Nat), l[i]? = some o → l[j]? = some z → I[i]? = some x → I[j]? = some y → s ∈ slY o x → s ∈ slY z y → j = i ∨ (¬ (x.W = none ∧ y.W = none) ∧ (((M.getD i 0).testBit j = true ∧ j < i) ∨ ((M.getD j 0).testBit i = true ∧ i < j)))
 look : ∀ (i j : Nat) (o z : Oper) (x y : Inf) (s : Nat), l[i]? = some o → l[j]? = some z → I[i]? = some x → I[j]? = some y → s ∈ lk l o → s ∈ slY z y → j = i ∨ ((M.getD i 0).testBit j = true ∧ j < i) ∨ ((M.getD j 0).testBit i = true ∧ i < j)
 T : ∀ (i : Nat) (x : Inf) (p : Nat), I[i]? = some x → p ∈ x.T → ∃ e, tn[p]? = some e ∧ (M.getD i 0).testBit e = true
 F : ∀ (i : Nat) (x : Inf) (p : Nat), I[i]? = some x → p ∈ x.F → ∃ e, tn[p]? = some e ∧ (M.getD e 0).testBit i = true
 t1 : ∀ (i : Nat) (x : Inf) (p : Nat), I[i]? = some x → x.t = some p → tn[p]? = some i
 t0 : ∀ (i : Nat) (x : Inf), I[i]? = some x → x.t = none → i ∉ tn
 tl : ∀ (p e : Nat), tn[p]? = some e → e < I.length
 tu : ∀ (p q e : Nat), tn[p]? = some e → tn[q]? = some e → p = q
 tailk : ∀ (i j : Nat) (o : Oper), l[i]? = some o → I.length ≤ i → j < I.length → (M.getD i 0).testBit j = true

theorem okT_spec {l : List Oper} {tn : List Nat} {I : List Inf} {M : List Nat} (h : okT l tn I M = true) : OkT l tn I M := by
 have hx : ∀ (i : Nat) (o : Oper), l[i]? = some o → (o, i) ∈ l.zipIdx := fun i o ho => by
  rw [List.mem_zipIdx_iff_getElem?]; exact ho
 have hz : ∀ (j : Nat) (z : Oper) (y : Inf), l[j]? = some z → I[j]? = some y → ((z, y), j) ∈ (l.zip I).zipIdx := fun j z y h1 h2 => by
  rw [List.mem_zipIdx_iff_getElem?, List.getElem?_zip_eq_some]; exact ⟨h1, h2⟩
 unfold okT at h
 rw [Bool.and_eq_true, Bool.and_eq_true] at h
 have hlen : I.length ≤ l.length := Nat.le_of_ble_eq_true h.1.1
 have htn := List.all_eq_true.1 h.1.2
 have h := List.all_eq_true.1 h.2
 have htl : ∀ (p e : Nat), tn[p]? = some e → (e, p) ∈ tn.zipIdx := fun p e he => by rw [List.mem_zipIdx_iff_getElem?]; exact he
 have hl : ∀ (i : Nat) (x : Inf), I[i]? = some x → ∃ o, l[i]? = some o := fun i x hi => by
  have := (List.getElem?_eq_some_iff.1 hi).1
  exact ⟨l[i]'(by omega), List.getElem?_eq_getElem _⟩
 refine ⟨⟨fun i o ho m hm => ?_, fun i o ho e he hb => ?_, fun i j o ho hi hj => absurd (List.getElem?_eq_some_iff.1 ho).1 (by omega)⟩, hlen, fun i j o z x y s ho hz' hix hjy hs hs' => ?_, fun i j o z x y s ho hz' hix hjy hs hs' => ?_, fun i x p hi hp => ?_, fun i x p hi hp => ?_, fun i x p hi hp => ?_, fun i x hi hp => ?_, fun p e he => ?_, fun p q e hp hq => ?_, fun i j o ho hi hj => ?_⟩
 ·have hio := h _ (hx i o ho); simp only [Bool.and_eq_true] at hio
  have e := Nat.eq_of_beq_eq_true hio.1.1
  rw [e] at hm
  obtain ⟨e', he', h1⟩ := edgesM_bit _ hm
  exact ⟨e', by simpa using he', h1⟩
 ·have hio := h _ (hx i o ho); simp only [Bool.and_eq_true] at hio
  have := List.all_eq_true.1 hio.1.2 e (by simpa using he)
  simpa [hb] using this
 ·have hio := h _ (hx i o ho); simp only [Bool.and_eq_true] at hio
  have h2 := hio.2
  simp only [hix, Bool.and_eq_true] at h2
  have := List.all_eq_true.1 (List.all_eq_true.1 h2.1.1.1.1 s hs) _ (hz j z y hz' hjy)
  simp only [Bool.or_eq_true, Bool.not_eq_true'] at this
  rcases this with (h | h) | h
  ·exact .inl (Nat.eq_of_beq_eq_true h)
  ·rw [List.elem_iff.2 hs'] at h; cases h
  ·rw [Bool.and_eq_true, Bool.or_eq_true, Bool.and_eq_true, Bool.and_eq_true] at h
   refine .inr ⟨?_, ?_⟩
   ·rintro ⟨e1, e2⟩
    rw [e1, e2] at h
    exact absurd h.1 (by simp)
   ·rcases h.2 with h | h
    ·exact .inl ⟨h.1, by simpa using h.2⟩
    ·exact .inr ⟨h.1, by simpa using h.2⟩
 ·have hio := h _ (hx i o ho); simp only [Bool.and_eq_true] at hio
  have h2 := hio.2
  simp only [hix, Bool.and_eq_true] at h2
  have := List.all_eq_true.1 (List.all_eq_true.1 h2.1.1.1.2 s hs) _ (hz j z y hz' hjy)
  simp only [List.elem_iff.2 hs', Bool.not_true, Bool.false_or, Bool.or_eq_true, Bool.and_eq_true] at this
  rcases this with (h | h) | h
  ·exact .inl (Nat.eq_of_beq_eq_true h)
  ·exact .inr (.inl ⟨h.1, by simpa using h.2⟩)
  ·exact .inr (.inr ⟨h.1, by simpa using h.2⟩)
 ·obtain ⟨o, ho⟩ := hl i x hi
  have hio := h _ (hx i o ho); simp only [Bool.and_eq_true] at hio
  have h2 := hio.2
  simp only [hi, Bool.and_eq_true] at h2
  have := List.all_eq_true.1 h2.1.1.2 p hp
  cases he : tn[p]? with
  | none => rw [he] at this; cases this
  | some e => rw [he] at this; exact ⟨e, rfl, this⟩
 ·obtain ⟨o, ho⟩ := hl i x hi
  have hio := h _ (hx i o ho); simp only [Bool.and_eq_true] at hio
  have h2 := hio.2
  simp only [hi, Bool.and_eq_true] at h2
  have := List.all_eq_true.1 h2.1.2 p hp
  cases he : tn[p]? with
  | none => rw [he] at this; cases this
  | some e => rw [he] at this; exact ⟨e, rfl, this⟩
 ·obtain ⟨o, ho⟩ := hl i x hi
  have hio := h _ (hx i o ho); simp only [Bool.and_eq_true] at hio
  have h2 := hio.2
  simp only [hi, Bool.and_eq_true, hp] at h2
  have := h2.2
  cases he : tn[p]? with
  | none => rw [he] at this; cases this
  | some e => rw [he] at this; rw [Nat.eq_of_beq_eq_true this]
 ·obtain ⟨o, ho⟩ := hl i x hi
  have hio := h _ (hx i o ho); simp only [Bool.and_eq_true] at hio
  have h2 := hio.2
  simp only [hi, Bool.and_eq_true, hp, Bool.not_eq_true'] at h2
  intro hm
  have := h2.2
  rw [List.elem_iff.2 hm] at this
  cases this
 ·have := htn _ (htl p e he)
  rw [Bool.and_eq_true] at this
  simpa using this.1
 ·have := htn _ (htl p e hp)
  rw [Bool.and_eq_true] at this
  have := List.all_eq_true.1 this.2 _ (htl q e hq)
  simpa using this
 ·have hio := h _ (hx i o ho); simp only [Bool.and_eq_true] at hio
  have h2 := hio.2
  rw [List.getElem?_eq_none hi] at h2
  exact List.all_eq_true.1 h2 j (by simpa using hj)

/-- **A region whose order is drawn, with several operations that turn the heap or write more slots than one.** -/
theorem AW.drawT {id : Nat} {l : List Oper} {tn : List Nat} {I : List Inf} {D : List (List (Nat × AV))} {up own : (Nat → Bool) → List AObj} {fr : Nat → AV} {K : Exit → St → Prop} (M : List Nat) (hm : P.follows .mixedOrders = true) (hok : okT l tn I M = true)
  (hD : D.length = I.length) (hlen : ∀ B, (up B).length = (up fun _ => false).length)
  (hops : ∀ (i : Nat) (o : Oper) (x : Inf), l[i]? = some o → I[i]? = some x → ∃ ws, D[i]? = some ws ∧ OpY P d l sz up own dfs rnd x o (frY (fun _ => true) 0 (D.take i) fr) ws)
  (hrest : ATail P d l I.length ⟨sz, frY (fun _ => true) 0 D fr, up (fun p => decide (p < tn.length)), own (fun p => decide (p < tn.length)), dfs, rnd⟩ (K .normal)) :
  AW P d (.region id l.toArray true) ⟨sz, fr, up fun _ => false, own fun _ => false, dfs, rnd⟩ K := by
 have ok := okT_spec hok
 obtain ⟨k, hk⟩ : ∃ k, k = I.length := ⟨_, rfl⟩
 have hkl : k ≤ l.length := by have := ok.len; omega
 have ed : EdgeOK l l.length M := ok.toEdgeOK
 have etl : ∀ (i j : Nat) (o : Oper), l[i]? = some o → k ≤ i → j < k → (M.getD i 0).testBit j = true := by rw [hk]; exact ok.tailk
 rw [← hk] at hD hrest
 have gI : ∀ i, i < k → ∃ x, I[i]? = some x := fun i hi => ⟨I[i]'(by omega), List.getElem?_eq_getElem _⟩
 intro G0 a0 w0 hr0
 refine wpIn_region_any hm ?_
 generalize hF : Fr ((St.mk sz fr (up fun _ => false) (own fun _ => false) dfs rnd).rnd.map G0.blk) = F
 have hu : ∀ (i j : Nat) (t : Nat) (ws ws' : List (Nat × AV)), D[i]? = some ws → t ∈ ws.map (·.1) → D[j]? = some ws' → t ∈ ws'.map (·.1) → j = i ∨ ((M.getD i 0).testBit j = true ∧ j < i) ∨ ((M.getD j 0).testBit i = true ∧ i < j) := by
  intro i j t ws ws' h1 m1 h2 m2
  have hi : i < k := by rw [← hD]; exact (List.getElem?_eq_some_iff.1 h1).1
  have hj : j < k := by rw [← hD]; exact (List.getElem?_eq_some_iff.1 h2).1
  have e1 : l[i]? = some (l[i]'(by omega)) := List.getElem?_eq_getElem (by omega)
  have e2 : l[j]? = some (l[j]'(by omega)) := List.getElem?_eq_getElem (by omega)
  obtain ⟨x, hx⟩ := gI i hi
  obtain ⟨y, hy⟩ := gI j hj
  obtain ⟨w1, a1, a2⟩ := hops i _ x e1 hx
  obtain ⟨w2, b1, b2⟩ := hops j _ y e2 hy
  rw [h1] at a1; injection a1 with a1; subst a1
  rw [h2] at b1; injection b1 with b1; subst b1
  rw [a2.slots] at m1
  rw [b2.slots] at m2
  exact (ok.uniq i j _ _ x y t e1 e2 hx hy m1 m2).imp (fun h => h) (fun h => h.2)
 have hbe : ∀ L : Nat → Bool, (∀ j, j < k → L j = true) → bits tn L = (fun p => decide (p < tn.length)) := fun L hL => by
  funext p
  unfold bits
  cases hp : tn[p]? with
  | none =>
   have : ¬ p < tn.length := by rw [List.getElem?_eq_none_iff] at hp; omega
   show false = decide (p < tn.length)
   simp [this]
  | some e =>
   have h1 := (List.getElem?_eq_some_iff.1 hp).1
   show L e = decide (p < tn.length)
   rw [hL e (by rw [hk]; exact ok.tl p e hp)]
   simp [h1]
 have key : ∀ (fuel : Nat) (listed : Array Bool) (a : Act) (w : World) (G : Gh), listed.size = l.length → listed.toList.countP (fun b => !b) = fuel →
   (∀ j, k ≤ j → j < l.length → listed.getD j false = false) →
   (∀ (i : Nat) (o : Oper), listed.getD i false = true → l[i]? = some o → ∀ e ∈ o.after, Region.binds .any e = true → listed.getD e.on false = true) →
   StRel d G ⟨sz, frY (fun j => listed.getD j false) 0 D fr, up (bits tn fun j => listed.getD j false), own (bits tn fun j => listed.getD j false), dfs, rnd⟩ a w → Keep d G0 w0 G w →
   wpAnyIn F 0 P .any l.toArray (fun e => Post d ⟨sz, fr, up fun _ => false, own fun _ => false, dfs, rnd⟩ G0 w0 (K e)) fuel listed a w := by
  intro fuel
  induction fuel with
  | zero =>
   intro listed a w G hsz hcnt htl hcl hst hkp
   have hall : ∀ j, j < l.length → listed.getD j false = true := fun j hj => by
    have hz : listed.toList.all (fun b => b) = true := by
     rw [List.countP_eq_zero] at hcnt
     exact List.all_eq_true.2 fun b hb => by simpa using hcnt b hb
    have hj' : j < listed.size := by omega
    have := List.all_eq_true.1 hz (listed[j]) (by simp)
    simpa [hj'] using this
   have hkeq : k = l.length := by
    refine Classical.byContradiction fun hne => ?_
    have h1 := htl k (Nat.le_refl _) (by omega)
    rw [hall k (by omega)] at h1
    cases h1
   have hfe : frY (fun j => listed.getD j false) 0 D fr = frY (fun _ => true) 0 D fr := frY_congr D 0 fr (fun j hj => by rw [Nat.zero_add]; exact hall j (by omega))
   have hce : (bits tn fun j => listed.getD j false) = (fun p => decide (p < tn.length)) := hbe _ (fun j hj => hall j (by omega))
   rw [hfe, hce] at hst
   have hz := hrest G a w hst listed hsz (fun j hj => by rw [hall j hj]; simp; omega)
   rw [show l.length - k = 0 by omega] at hz
   rw [fr_keep (st' := ⟨sz, frY (fun _ => true) 0 D fr, up (fun p => decide (p < tn.length)), own (fun p => decide (p < tn.length)), dfs, rnd⟩) hr0 hkp rfl, hF] at hz
   exact anyIn_mono (fun e a' w' ⟨he, hp⟩ => by subst he; exact hp.next hkp (hlen _) rfl rfl) _ _ _ _ hz
  | succ fuel ih =>
   intro listed a w G hsz hcnt htl hcl hst hkp
   by_cases hpre : ∀ j, j < k → listed.getD j false = true
   ·-- the rest, in a row
    have hfe : frY (fun j => listed.getD j false) 0 D fr = frY (fun _ => true) 0 D fr := frY_congr D 0 fr (fun j hj => by rw [Nat.zero_add]; exact hpre j (by omega))
    have hce : (bits tn fun j => listed.getD j false) = (fun p => decide (p < tn.length)) := hbe _ hpre
    rw [hfe, hce] at hst
    have hle : ∀ j, j < l.length → listed.getD j false = decide (j < k) := fun j hj => by
     by_cases hjk : j < k
     ·rw [hpre j hjk]; simpa using hjk
     ·rw [htl j (by omega) hj]; simpa using hjk
    have hcnt' : fuel + 1 = l.length - k := by
     rw [← hcnt]
     have e1 : listed.toList = (List.range l.length).map (fun j => decide (j < k)) := by
      apply List.ext_getElem
      ·simp [hsz]
      ·intro j h1 h2
       have hj : j < l.length := by simpa [hsz] using h1
       have := hle j hj
       simp only [List.getElem_map, List.getElem_range, Array.getElem_toList]
       rw [← this]
       have hj' : j < listed.size := by omega
       simp [hj']
     rw [e1, List.countP_map]
     have e2 : ((fun b => !b) ∘ fun j => decide (j < k)) = fun j => decide (k ≤ j) := by
      funext j
      simp only [Function.comp_apply]
      by_cases hjk : j < k
      ·have h2 : ¬ k ≤ j := by omega
       simp [hjk, h2]
      ·have h2 : k ≤ j := by omega
       simp [hjk, h2]
     rw [e2]
     have : ∀ n, (List.range n).countP (fun j => decide (k ≤ j)) = n - k := by
      intro n
      induction n with
      | zero => simp
      | succ n ihn =>
       rw [List.range_succ, List.countP_append, ihn]
       by_cases hkn : k ≤ n
       ·simp [hkn]; omega
       ·simp [hkn]; omega
     rw [this]
    rw [hcnt']
    have hz := hrest G a w hst listed hsz hle
    rw [fr_keep (st' := ⟨sz, frY (fun _ => true) 0 D fr, up (fun p => decide (p < tn.length)), own (fun p => decide (p < tn.length)), dfs, rnd⟩) hr0 hkp rfl, hF] at hz
    exact anyIn_mono (fun e a' w' ⟨he, hp⟩ => by subst he; exact hp.next hkp (hlen _) rfl rfl) _ _ _ _ hz
   ·obtain ⟨j0, hj0k, hj0⟩ : ∃ j, j < k ∧ listed.getD j false = false := by
     refine Classical.byContradiction fun hne => hpre fun j hj => ?_
     cases hv : listed.getD j false with
     | true => rfl
     | false => exact absurd ⟨j, hj, hv⟩ hne
    refine ⟨fun h0 => ?_, fun i hi => ?_⟩
    ·-- the least that is not listed is ready
     obtain ⟨m, hm, hmin⟩ := exists_least (S := fun j => j < k ∧ listed.getD j false = false) ⟨j0, hj0k, hj0⟩
     have hml : m < l.length := by omega
     have : m ∈ Region.ready .any l.toArray listed := by
      refine mem_ready.2 ⟨?_, l[m], by simp [hml], fun e he hb => ?_⟩
      ·have := hm.2; have hj' : m < listed.size := by omega
       simpa [hj'] using this
      ·have hlt := ed.fwd m _ (List.getElem?_eq_getElem hml) e he hb
       cases hv : listed.getD e.on false with
       | true => rfl
       | false => have := hmin e.on ⟨by omega, hv⟩; omega
     rw [h0] at this
     cases this
    ·obtain ⟨h1, o, ho, he⟩ := mem_ready.1 hi
     have ho' : l[i]? = some o := by simpa using ho
     have hil := (List.getElem?_eq_some_iff.1 ho').1
     have hLi : listed.getD i false = false := by
      have h3 : listed.getD i true = listed.getD i false := by simp [hsz, hil]
      rw [← h3]; exact h1
     have hbits := listed_bits ed (L := fun j => listed.getD j false) hcl i o ho' he
     have hik : i < k := by
      refine Classical.byContradiction fun hge => ?_
      have := hbits j0 (etl i j0 o ho' (by omega) hj0k)
      simp only [hj0] at this
      cases this
     obtain ⟨x, hx⟩ := gI i hik
     obtain ⟨ws, hDi, hO⟩ := hops i o x ho' hx
     -- what it looks at is as in the text's order
     have hnl : ∀ j, (M.getD j 0).testBit i = true → j < k → listed.getD j false = false := fun j hb hjk => by
      cases hv : listed.getD j false with
      | false => rfl
      | true =>
       have ez : l[j]? = some (l[j]'(by omega)) := List.getElem?_eq_getElem (by omega)
       have := listed_bits ed (L := fun j => listed.getD j false) hcl j _ ez (hcl j _ hv ez) i hb
       simp only [hLi] at this
       cases this
     have hag : ∀ t ∈ lk l o, frY (fun j => listed.getD j false) 0 D fr t = frY (fun _ => true) 0 (D.take i) fr t := by
      intro t ht
      rw [frY_take]
      refine frY_at D 0 fr fr (fun j v hj htv => ?_) rfl
      have hjk : j < k := by rw [← hD]; exact (List.getElem?_eq_some_iff.1 hj).1
      have ez : l[j]? = some (l[j]'(by omega)) := List.getElem?_eq_getElem (by omega)
      obtain ⟨y, hy⟩ := gI j hjk
      obtain ⟨v', b1, b2⟩ := hops j _ y ez hy
      rw [hj] at b1
      injection b1 with b1
      subst b1
      rw [b2.slots] at htv
      rw [Nat.zero_add, Nat.zero_add]
      rcases ok.look i j o _ x y t ho' ez hx hy ht htv with rfl | ⟨hb, hlt⟩ | ⟨hb, hlt⟩
      ·rw [hLi]; simp
      ·rw [hbits j hb]; simpa using hlt
      ·rw [hnl j hb hjk]
       have : ¬ j < i := by omega
       simp [this]
     -- on which heap
     have hTT : ∀ p ∈ x.T, bits tn (fun j => listed.getD j false) p = true := fun p hp => by
      obtain ⟨e, he, hb⟩ := ok.T i x p hx hp
      unfold bits
      rw [he]
      exact hbits e hb
     have hFF : ∀ p ∈ x.F, bits tn (fun j => listed.getD j false) p = false := fun p hp => by
      obtain ⟨e, he, hb⟩ := ok.F i x p hx hp
      unfold bits
      rw [he]
      exact hnl e hb (by rw [hk]; exact ok.tl p e he)
     have htt : ∀ p, x.t = some p → bits tn (fun j => listed.getD j false) p = false := fun p hp => by
      unfold bits
      rw [ok.t1 i x p hx hp]
      exact hLi
     -- on from there
     have hgd : ∀ j, (listed.setIfInBounds i true).getD j false = if j = i then true else listed.getD j false := fun j => by
      by_cases hj : j = i
      ·subst hj; simp [hsz, hil]
      ·rw [getD_set_ne false (Ne.symm hj), if_neg hj]
     have hfr : frY (fun j => (listed.setIfInBounds i true).getD j false) 0 D fr = setWs ws (frY (fun j => listed.getD j false) 0 D fr) := by
      funext t
      by_cases ht : t ∈ ws.map (·.1)
      ·rw [frY_last D 0 i fr hDi ht (by rw [Nat.zero_add, hgd, if_pos rfl]) (fun q v hq hm hlt => by
        rw [Nat.zero_add, hgd, if_neg (by omega)]
        have hqk : q < k := by rw [← hD]; exact (List.getElem?_eq_some_iff.1 hq).1
        rcases hu i q t ws v hDi ht hq hm with h | ⟨_, h⟩ | ⟨h, _⟩
        ·omega
        ·omega
        ·exact hnl q h hqk)]
       exact setWs_congr ws _ _ (.inl ht)
      ·rw [setWs_none ws _ ht]
       refine frY_at D 0 fr fr (fun j v hj htv => ?_) rfl
       rw [Nat.zero_add, hgd, if_neg (fun e => by subst e; rw [hDi] at hj; injection hj with hj; subst hj; exact ht htv)]
     have hcn : (bits tn fun j => (listed.setIfInBounds i true).getD j false) = updO x.t (bits tn fun j => listed.getD j false) :=
      bits_set (fun q => hgd q) (fun p hp => ok.t1 i x p hx hp) (fun hp => ok.t0 i x hx hp) (fun p q e h1 h2 => ok.tu p q e h1 h2)
     have hnext : ∀ (G1 : Gh) (a1 : Act) (w1 : World), StRel d G1 ⟨sz, setWs ws (frY (fun j => listed.getD j false) 0 D fr), up (updO x.t (bits tn fun j => listed.getD j false)), own (updO x.t (bits tn fun j => listed.getD j false)), dfs, rnd⟩ a1 w1 → Keep d G w G1 w1 →
       wpAnyIn F 0 P .any l.toArray (fun e => Post d ⟨sz, fr, up fun _ => false, own fun _ => false, dfs, rnd⟩ G0 w0 (K e)) fuel (listed.setIfInBounds i true) a1 w1 := by
      intro G1 a1 w1 hr1 hk1
      refine ih _ _ w1 G1 (by simpa using hsz) ?_ (fun j hj hjl => by rw [hgd, if_neg (by omega)]; exact htl j hj hjl) (fun q oq hq hoq e hmem hb => ?_) ?_ (hkp.trans hk1)
      ·rw [Array.toList_setIfInBounds, List.countP_set (by simpa [hsz] using hil), hcnt]
       have hil' : i < listed.size := by omega
       have : listed[i] = false := by simpa [hil'] using hLi
       simp [this]
      ·rw [hgd] at hq ⊢
       split
       ·rfl
       ·by_cases hqi : q = i
        ·subst hqi
         rw [ho'] at hoq
         injection hoq with hoq
         subst hoq
         exact he e hmem hb
        ·rw [if_neg hqi] at hq
         exact hcl q oq hq hoq e hmem hb
      ·rw [hfr, hcn]
       exact hr1
     have hFe : Fr (rnd.map G.blk) = F := by
      rw [← hF]; exact fr_keep (st' := ⟨sz, frY (fun j => listed.getD j false) 0 D fr, up fun _ => false, own fun _ => false, dfs, rnd⟩) hr0 hkp rfl
     unfold wpOpIn
     rw [ho]
     simp only
     unfold OpY at hO
     cases hW : x.W with
     | some W =>
      rw [hW] at hO
      obtain ⟨_, hge, hO⟩ := hO
      have hw : Region.wanted o (yielded l.toArray a.tmps) = true := by simp [Region.wanted, hge]
      rw [if_pos hw]
      have := hO _ _ hTT hFF htt hag G a w hst (fun e => Post d ⟨sz, fr, up fun _ => false, own fun _ => false, dfs, rnd⟩ G0 w0 (K e))
      rw [show Fr ((St.mk sz (frY (fun j => listed.getD j false) 0 D fr) (up (bits tn fun j => listed.getD j false)) (own (bits tn fun j => listed.getD j false)) dfs rnd).rnd.map G.blk) = F from hFe] at this
      refine Oper.wpIn_mono ?_ this
      rintro a1 w1 ⟨G1, st1, hr1, hk1, _, _, _, rfl⟩
      exact hnext G1 a1 w1 hr1 hk1
     | none =>
      rw [hW] at hO
      obtain ⟨hxt, s, y, rfl, hdst, hssz, hO⟩ := hO
      replace hO := hO _ hTT hFF
      rw [hxt] at hnext
      have hput : ∀ (G1 : Gh) (v : Value) (w1 : World), StRel d G1 ⟨sz, frY (fun j => listed.getD j false) 0 D fr, up (bits tn fun j => listed.getD j false), own (bits tn fun j => listed.getD j false), dfs, rnd⟩ a w1 → Keep d G w G1 w1 → Rep G1 w1 none y v →
        wpAnyIn F 0 P .any l.toArray (fun e => Post d ⟨sz, fr, up fun _ => false, own fun _ => false, dfs, rnd⟩ G0 w0 (K e)) fuel (listed.setIfInBounds i true) (a.put o.dst v) w1 := by
       intro G1 v w1 hr1 hk1 hv
       refine hnext G1 _ w1 ?_ hk1
       rw [hdst]
       exact hr1.put (st := ⟨sz, frY (fun j => listed.getD j false) 0 D fr, up (bits tn fun j => listed.getD j false), own (bits tn fun j => listed.getD j false), dfs, rnd⟩) hssz hv.lift
      unfold OpD at hO
      cases hg : o.guard with
      | none =>
       rw [hg] at hO
       have hw : Region.wanted o (yielded l.toArray a.tmps) = true := by simp [Region.wanted, hg]
       rw [if_pos hw]
       have := hO _ hag G a w hst (fun e => Post d ⟨sz, fr, up fun _ => false, own fun _ => false, dfs, rnd⟩ G0 w0 (K e))
       rw [show Fr ((St.mk sz (frY (fun j => listed.getD j false) 0 D fr) (up (bits tn fun j => listed.getD j false)) (own (bits tn fun j => listed.getD j false)) dfs rnd).rnd.map G.blk) = F from hFe] at this
       refine Oper.wpIn_mono ?_ this
       rintro a1 w1 ⟨G1, v, rfl, hr1, hk1, hv⟩
       exact hput G1 v w1 hr1 hk1 hv
      | some jw =>
       obtain ⟨j, want⟩ := jw
       rw [hg] at hO
       obtain ⟨oj, g, C, y'', hj, hdj, hgB, rfl, hO⟩ := hO
       have hgf : GIs (frY (fun j => listed.getD j false) 0 D fr g) want C := by
        rw [hag g (by unfold lk; rw [hg]; simp [hj, hdj])]
        exact hgB
       have hw : Region.wanted o (yielded l.toArray a.tmps) = C := wanted_is hst hg (by simpa using hj) hdj hgf
       rw [hw]
       cases hBw : C with
       | true =>
        rw [if_pos rfl]
        have := hO hBw _ hag G a w hst (fun e => Post d ⟨sz, fr, up fun _ => false, own fun _ => false, dfs, rnd⟩ G0 w0 (K e))
        rw [show Fr ((St.mk sz (frY (fun j => listed.getD j false) 0 D fr) (up (bits tn fun j => listed.getD j false)) (own (bits tn fun j => listed.getD j false)) dfs rnd).rnd.map G.blk) = F from hFe] at this
        refine Oper.wpIn_mono ?_ this
        rintro a1 w1 ⟨G1, v, rfl, hr1, hk1, hv⟩
        exact hput G1 v w1 hr1 hk1 (by rw [hBw]; exact hv)
       | false =>
        rw [if_neg (by simp)]
        refine ⟨fun _ _ => by rw [← hFe]; trivial, ?_⟩
        exact hput G undef w hst (Keep.refl _ _ _) (by rw [hBw]; exact .v _ _)
 have hrf : ∀ j, (Array.replicate l.toArray.size false).getD j false = false := fun j => by
  rw [Array.getD_eq_getD_getElem?, Array.getElem?_replicate]
  split <;> rfl
 have hz : frY (fun j => (Array.replicate l.toArray.size false).getD j false) 0 D fr = fr := by
  funext t
  exact frY_none D 0 fr fun j v _ _ => hrf _
 have hz' : (bits tn fun j => (Array.replicate l.toArray.size false).getD j false) = fun _ => false := by
  funext p
  unfold bits
  cases tn[p]? with
  | none => rfl
  | some e => exact hrf e
 refine key _ _ _ _ G0 (by simp) ?_ (fun j hj hjl => hrf j) (fun i o hi => ?_) ?_ ?_
 ·simp [List.countP_replicate]
 ·rw [hrf] at hi; cases hi
 ·rw [hz, hz']
  exact hr0.drew _
 ·exact (drew_turn G0 w0 _).keep d

theorem AW.chainT {id : Nat} {l : List Oper} {tn : List Nat} {S : List SegY} {up own : (Nat → Bool) → List AObj} {up0 own0 : List AObj} {fr : Nat → AV} {K : Exit → St → Prop} (M : List Nat) (hm : P.follows .mixedOrders = true) (hok : okT l tn (infsY S) M = true)
  (h0 : up (fun _ => false) = up0) (h0' : own (fun _ => false) = own0) (hlen : ∀ B, (up B).length = up0.length)
  (h : ChainY P d l sz up own dfs rnd (fun l' f => l' = l.drop (infsY S).length → ATail P d l (infsY S).length ⟨sz, f, up (fun p => decide (p < tn.length)), own (fun p => decide (p < tn.length)), dfs, rnd⟩ (K .normal)) S l fr) :
  AW P d (.region id l.toArray true) ⟨sz, fr, up0, own0, dfs, rnd⟩ K := by
 subst h0; subst h0'
 obtain ⟨D, h1, h2, h3, h4⟩ := ChainY.data S l fr (fun i j o z x y s h1 h2 h3 h4 n1 n2 h5 h6 => ((okT_spec hok).uniq i j o z x y s h1 h2 h3 h4 h5 h6).resolve_right (fun h => h.1 ⟨n1, n2⟩)) h
 exact AW.drawT M hm hok h1 hlen h3 (h4 (by rw [h1]))
theorem getD_eq {b : Array Bool} {j : Nat} (h : j < b.size) : b.getD j true = b.getD j false := by simp [h]
/-- Four operations behind the k-th: the second behind the first, the fourth behind the third. -/
theorem any4 {F : Fence} {l : List Oper} {k : Nat} {Q : Exit → Act → World → Prop} (hlen : l.length = k + 5) (hfwd : ∀ (i : Nat) (o : Oper), l[i]? = some o → ∀ e ∈ o.after, Region.binds .any e = true → e.on < i)
  (h2 : ∀ o, l[k + 2]? = some o → ∃ e ∈ o.after, Region.binds .any e = true ∧ e.on = k + 1) (h4 : ∀ o, l[k + 4]? = some o → ∃ e ∈ o.after, Region.binds .any e = true ∧ e.on = k + 3)
  (A : Bool → Bool → Act) (W : Bool → Bool → World)
  (s1 : ∀ f t K, K (A true f) (W false t) → wpOpIn F 0 P l.toArray Q (k + 1) K (A false f) (W false t))
  (s2 : ∀ f t K, K (A true f) (W true t) → wpOpIn F 0 P l.toArray Q (k + 2) K (A true f) (W false t))
  (s3 : ∀ i b K, K (A i true) (W b false) → wpOpIn F 0 P l.toArray Q (k + 3) K (A i false) (W b false))
  (s4 : ∀ i b K, K (A i true) (W b true) → wpOpIn F 0 P l.toArray Q (k + 4) K (A i true) (W b false))
  (hQ : Q .normal (A true true) (W true true)) : ∀ (fuel : Nat) (listed : Array Bool) (i b f t : Bool), fuel = (bif i then 0 else 1) + (bif b then 0 else 1) + (bif f then 0 else 1) + (bif t then 0 else 1) → listed.size = l.length →
   (∀ j, j < l.length → listed.getD j false = (if j ≤ k then true else if j = k + 1 then i else if j = k + 2 then b else if j = k + 3 then f else t)) → (b = true → i = true) → (t = true → f = true) →
   wpAnyIn F 0 P .any l.toArray Q fuel listed (A i f) (W b t) := by
 intro fuel
 induction fuel with
 | zero =>
  intro listed i b f t hf hsz hL hb ht
  cases i <;> cases b <;> cases f <;> cases t <;> simp at hf
  refine ⟨List.eq_nil_iff_forall_not_mem.2 fun j hj => ?_, hQ⟩
  obtain ⟨h1, o, ho, _⟩ := mem_ready.1 hj
  have hjl : j < l.length := by
   have := (Array.getElem?_eq_some_iff.1 ho).1
   simpa using this
  rw [getD_eq (by omega), hL j hjl] at h1
  repeat' split at h1
  all_goals cases h1
 | succ fuel ih =>
  intro listed i b f t hf hsz hL hb ht
  have hset : ∀ q, q < l.length → ∀ j, (listed.setIfInBounds q true).getD j false = if j = q then true else listed.getD j false := fun q hq j => by
   by_cases hj : j = q
   ·subst hj; simp [hsz, hq]
   ·rw [getD_set_ne false (Ne.symm hj), if_neg hj]
  refine ⟨fun h0 => ?_, fun q hq => ?_⟩
  ·obtain ⟨m, hm, hmin⟩ := exists_least (S := fun j => j < l.length ∧ listed.getD j false = false) (by
    have e1 : k + 1 < l.length := by omega
    have e2 : k + 2 < l.length := by omega
    have e3 : k + 3 < l.length := by omega
    have e4 : k + 4 < l.length := by omega
    have a1 : listed.getD (k + 1) false = i := by rw [hL _ e1, if_neg (by omega), if_pos rfl]
    have a2 : listed.getD (k + 2) false = b := by rw [hL _ e2, if_neg (by omega), if_neg (by omega), if_pos rfl]
    have a3 : listed.getD (k + 3) false = f := by rw [hL _ e3, if_neg (by omega), if_neg (by omega), if_neg (by omega), if_pos rfl]
    have a4 : listed.getD (k + 4) false = t := by rw [hL _ e4, if_neg (by omega), if_neg (by omega), if_neg (by omega), if_neg (by omega)]
    cases i with
    | false => exact ⟨k + 1, e1, a1⟩
    | true => cases b with
     | false => exact ⟨k + 2, e2, a2⟩
     | true => cases f with
      | false => exact ⟨k + 3, e3, a3⟩
      | true => cases t with
       | false => exact ⟨k + 4, e4, a4⟩
       | true => simp at hf)
   have : m ∈ Region.ready .any l.toArray listed := by
    refine mem_ready.2 ⟨by rw [getD_eq (by omega)]; exact hm.2, l[m]'hm.1, by simp [hm.1], fun e he hbd => ?_⟩
    have hlt := hfwd m _ (List.getElem?_eq_getElem hm.1) e he hbd
    cases hv : listed.getD e.on false with
    | true => rfl
    | false => have := hmin e.on ⟨by omega, hv⟩; omega
   rw [h0] at this
   cases this
  ·obtain ⟨h1, o, ho, he⟩ := mem_ready.1 hq
   have ho' : l[q]? = some o := by simpa using ho
   have hql := (List.getElem?_eq_some_iff.1 ho').1
   rw [getD_eq (by omega)] at h1
   have hq1 := hL q hql
   rw [h1] at hq1
   have hk : k < q := by
    refine Classical.byContradiction fun hn => ?_
    rw [if_pos (by omega)] at hq1
    cases hq1
   rw [if_neg (by omega)] at hq1
   have cases4 : q = k + 1 ∨ q = k + 2 ∨ q = k + 3 ∨ q = k + 4 := by omega
   rcases cases4 with rfl | rfl | rfl | rfl
   ·rw [if_pos rfl] at hq1
    subst hq1
    have hbf : b = false := by cases b with | false => rfl | true => exact absurd (hb rfl) (by simp)
    subst hbf
    refine s1 f t _ (ih _ true false f t (by simp at hf ⊢; omega) (by simpa using hsz) (fun j hj => ?_) (fun _ => rfl) ht)
    rw [hset _ hql, hL j hj]
    by_cases hj1 : j = k + 1
    ·simp [hj1]
    ·simp [hj1]
   ·rw [if_neg (by omega), if_pos rfl] at hq1
    subst hq1
    obtain ⟨e, h5, h6, h7⟩ := h2 o ho'
    have h8 := he e h5 h6
    rw [h7, hL _ (by omega), if_neg (by omega), if_pos rfl] at h8
    subst h8
    refine s2 f t _ (ih _ true true f t (by simp at hf ⊢; omega) (by simpa using hsz) (fun j hj => ?_) (fun _ => rfl) ht)
    rw [hset _ hql, hL j hj]
    by_cases hj1 : j = k + 2
    ·simp [hj1]
    ·simp [hj1]
   ·rw [if_neg (by omega), if_neg (by omega), if_pos rfl] at hq1
    subst hq1
    have htf : t = false := by cases t with | false => rfl | true => exact absurd (ht rfl) (by simp)
    subst htf
    refine s3 i b _ (ih _ i b true false (by simp at hf ⊢; omega) (by simpa using hsz) (fun j hj => ?_) hb (fun _ => rfl))
    rw [hset _ hql, hL j hj]
    by_cases hj1 : j = k + 3
    ·simp [hj1]
    ·simp [hj1]
   ·rw [if_neg (by omega), if_neg (by omega), if_neg (by omega)] at hq1
    subst hq1
    obtain ⟨e, h5, h6, h7⟩ := h4 o ho'
    have h8 := he e h5 h6
    rw [h7, hL _ (by omega), if_neg (by omega), if_neg (by omega), if_neg (by omega), if_pos rfl] at h8
    subst h8
    refine s4 i b _ (ih _ i b true true (by simp at hf ⊢; omega) (by simpa using hsz) (fun j hj => ?_) hb (fun _ => rfl))
    rw [hset _ hql, hL j hj]
    by_cases hj1 : j = k + 4
    ·simp [hj1]
    ·have h9 : ¬ j ≤ k ∨ j ≤ k := by omega
     by_cases a1 : j ≤ k
     ·simp [a1, hj1]
     ·by_cases a2 : j = k + 1
      ·simp [a2]
      ·by_cases a3 : j = k + 2
       ·simp [a3]
       ·have a4 : j = k + 3 := by omega
        simp [a4]
end
end Go.SX
namespace Go.SX
variable [GI : GlobInv]
open Classical
section
variable {P : Program} {d : Nat}
theorem put_comm {a : Act} {i j : Nat} {u v : Value} (h : i ≠ j) : (a.put (some i) u).put (some j) v = (a.put (some j) v).put (some i) u := by
 unfold Act.put
 simp only
 congr 1
 exact Array.setIfInBounds_comm _ _ h
theorem setCell_comm {w : World} {x y : Addr} {u v : Value} (h : x.block ≠ y.block) : (w.setCell x u).setCell y v = (w.setCell y v).setCell x u := by
 unfold World.setCell
 simp only
 congr 1
 apply Array.ext_getElem?
 intro i
 simp only [Array.getElem?_modify]
 by_cases h1 : x.block = i <;> by_cases h2 : y.block = i
 ·exact absurd (h1.trans h2.symm) h
 all_goals simp [h1, h2]
theorem setCells_comm {x : Addr} {u : Value} {b : Nat} (h : x.block ≠ b) : ∀ (vs : List Value) (o : Nat) (w : World), (w.setCell x u).setCells b o vs = (w.setCells b o vs).setCell x u
 | [], _, _ => rfl
 | v :: r, o, w => by
  rw [World.setCells, World.setCells, setCell_comm (y := ⟨b, o, none⟩) h]
  exact setCells_comm h r (o + 1) _
def hasEdge (o : Oper) (m : Nat) : Bool := o.after.toList.any fun e => Region.binds .any e && Nat.beq e.on m
theorem hasEdge_spec {o : Oper} {m : Nat} (h : hasEdge o m = true) : ∃ e ∈ o.after, Region.binds .any e = true ∧ e.on = m := by
 unfold hasEdge at h
 rw [List.any_eq_true] at h
 obtain ⟨e, he, h⟩ := h
 rw [Bool.and_eq_true] at h
 exact ⟨e, by simpa using he, h.1, Nat.eq_of_beq_eq_true h.2⟩
def tailOK (l : List Oper) (n : Nat) : Bool :=
 (l.zipIdx.all fun x => x.1.after.toList.all fun e => !Region.binds .any e || Nat.blt e.on x.2) &&
 match l.drop n with
 | [_, oI, oS, oF, oT] => hasEdge oI n && hasEdge oS n && hasEdge oF n && hasEdge oT n && hasEdge oS (n + 1) && hasEdge oT (n + 3)
 | _ => false
theorem wpOpIn_some {F : Fence} {ops : Array Oper} {Q : Exit → Act → World → Prop} {i : Nat} {K : Act → World → Prop} {a : Act} {w : World} {o : Oper} (ho : ops[i]? = some o) (hg : o.guard = none) (h : o.wpIn F 0 P a w K Q) : wpOpIn F 0 P ops Q i K a w := by
 unfold wpOpIn
 rw [ho]
 simp only
 rw [if_pos (by simp [Region.wanted, hg])]
 exact h
theorem wpOpIn_back {F : Fence} {ops : Array Oper} {Q : Exit → Act → World → Prop} {i : Nat} {K : Act → World → Prop} {a : Act} {w : World} {o : Oper} (ho : ops[i]? = some o) (hg : o.guard = none) (h : wpOpIn F 0 P ops Q i K a w) : o.wpIn F 0 P a w K Q := by
 unfold wpOpIn at h
 rw [ho] at h
 simp only at h
 rw [if_pos (by simp [Region.wanted, hg])] at h
 exact h
theorem wpIn_value_back {o : Oper} {a : Act} {w w' : World} {K : Act → World → Prop} {Q : Exit → Act → World → Prop} {r : Option Nat} {v : Value} (hd : ∀ c, o.op ≠ .defer c)
  (h : (execOp a.eval o).run P w = .ok (.value v) w') (hk : o.wpIn (Fr r) 0 P a w K Q) : K (a.put o.dst v) w' := by
 have := hk.2
 rw [Oper.semAt_eq _ _ _ hd, h] at this
 exact this
theorem wpIn_skipped_back {o : Oper} {a : Act} {w w' : World} {K : Act → World → Prop} {Q : Exit → Act → World → Prop} {r : Option Nat} (hd : ∀ c, o.op ≠ .defer c)
  (h : (execOp a.eval o).run P w = .ok .skip w') (hk : o.wpIn (Fr r) 0 P a w K Q) : K (a.put o.dst undef) w' := by
 have := hk.2
 rw [Oper.semAt_eq _ _ _ hd, h] at this
 exact this
theorem eval_ne {a : Act} {s q : Nat} {v : Value} (h : q ≠ s) : (a.put (some s) v).eval (.tmp q) = a.eval (.tmp q) := eval_put h

theorem ATail.appendPut {l : List Oper} {n : Nat} {sz : Nat} {fr : Nat → AV} {up own : List AObj} {dfs : List Nat} {rnd : Option Nat} {Q : St → Prop} {ty ty2 ty3 ty4 ty5 t e tf t' : TypeId} {pos pos2 pos3 pos4 pos5 : String} {aft aft2 aft3 aft4 aft5 : Array Edge} {i : TypeInfo} {z : Value} {r s sp sf pp ti tv k kf o offp fi : Nat} {x : Operand} {o2 : Bool} {xs cs : List AV} {z0 yv : AV} {fs : Array Field} {fd : Field}
  (hdrop : [⟨some s, .call ⟨.builtin .append, #[.tmp r, x], #[t, t]⟩, ty, pos, aft, none⟩, ⟨some sp, .indexAddr t (.tmp s) (.tmp ti), ty2, pos2, aft2, none⟩, ⟨none, .store e (.tmp sp) (.tmp tv), ty3, pos3, aft3, none⟩, ⟨some sf, .fieldAddr tf (.tmp pp) fi, ty4, pos4, aft4, none⟩, ⟨none, .store t (.tmp sf) (.tmp s), ty5, pos5, aft5, none⟩] = l.drop n)
  (hok : tailOK l n = true)
  (hu : P.underlying t = some (.slice e)) (hi : P.info? e = some i) (hsze : ∀ w, (Go.sizeOf e).run P w = .ok k w) (hz : i.zero = some z) (hsz : i.size = k) (hzk : z.cells.size = k) (hk : 0 < k)
  (hb : AsSl (fr r) true k xs) (hx : AsSl (frEv fr x) o2 k [z0]) (hti : frEv fr (.tmp ti) = .v (.int .i64 (xs.length : Int))) (htv : frEv fr (.tmp tv) = yv) (hyk : yv.cells.length = k) (hy1 : ∀ c ∈ yv.cells, c.one = true)
  (hrs : s ≠ r) (hs : s < sz) (hsp : sp < sz) (hss : sp ≠ s) (htis : ti ≠ s) (htvs : tv ≠ s) (htvp : tv ≠ sp) (hl : (xs.length + 1) * i.bytes ≤ 140737488355328) (hl2 : xs.length + 1 ≤ 4611686018427387904)
  (hf : P.underlying tf = some (.struct fs)) (hfi : fs[fi]? = some fd) (hfsz : ∀ w, (Go.sizeOf fd.type).run P w = .ok kf w) (hkf : kf ≠ 0) (hpp : frEv fr (.tmp pp) = .ptr o offp) (ho : (up ++ own)[o]? = some (.cells t' cs)) (hoff : offp + fd.offset < cs.length) (hszt : ∀ w, (Go.sizeOf t).run P w = .ok 1 w)
  (d1 : sf ≠ s) (d2 : sf ≠ sp) (d3 : sf ≠ ti) (d4 : sf ≠ tv) (d5 : pp ≠ s) (d6 : pp ≠ sp) (d7 : ti ≠ sp) (hsf : sf < sz)
  (hr : ARun P d l.toArray [⟨some sf, .fieldAddr tf (.tmp pp) fi, ty4, pos4, aft4, none⟩, ⟨none, .store t (.tmp sf) (.tmp s), ty5, pos5, aft5, none⟩] ⟨sz, setF sp .any (setF s (.slice true k (xs ++ [yv])) (setF r (fr r).strip fr)), up, own, dfs, rnd⟩ Q) :
  ATail P d l n ⟨sz, fr, up, own, dfs, rnd⟩ Q := by
 intro G a w hrel listed hsz0 hL
 have hlen : l.length = n + 5 := by
  have := congrArg List.length hdrop
  simp at this
  omega
 have get : ∀ j, ([⟨some s, .call ⟨.builtin .append, #[.tmp r, x], #[t, t]⟩, ty, pos, aft, none⟩, ⟨some sp, .indexAddr t (.tmp s) (.tmp ti), ty2, pos2, aft2, none⟩, ⟨none, .store e (.tmp sp) (.tmp tv), ty3, pos3, aft3, none⟩, ⟨some sf, .fieldAddr tf (.tmp pp) fi, ty4, pos4, aft4, none⟩, ⟨none, .store t (.tmp sf) (.tmp s), ty5, pos5, aft5, none⟩] : List Oper)[j]? = l[n + j]? := fun j => by rw [hdrop, List.getElem?_drop]
 have g0 := get 0
 have g1 := get 1
 have g2 := get 2
 have g3 := get 3
 have g4 := get 4
 simp only [List.getElem?_cons_zero, List.getElem?_cons_succ, Nat.add_zero] at g0 g1 g2 g3 g4
 unfold tailOK at hok
 rw [← hdrop] at hok
 simp only [Bool.and_eq_true] at hok
 obtain ⟨hok1, ⟨⟨⟨⟨eI, eS⟩, eF⟩, eT⟩, eS1⟩, eT3⟩ := hok
 have hfwd : ∀ (i : Nat) (o : Oper), l[i]? = some o → ∀ e ∈ o.after, Region.binds .any e = true → e.on < i := fun i o ho e he hbd => by
  have := List.all_eq_true.1 hok1 (o, i) (by rw [List.mem_zipIdx_iff_getElem?]; exact ho)
  have := List.all_eq_true.1 this e (by simpa using he)
  rw [hbd] at this
  simpa using this
 have hyr : Rep G w none yv (a.eval (.tmp tv)) := by
  have := hrel.eval (.tmp tv)
  have e : St.ev ⟨sz, fr, up, own, dfs, rnd⟩ (.tmp tv) = yv := htv
  rwa [e] at this
 obtain ⟨w1, ad, cap, G', hrun, hspot, hcells, hst, hkp⟩ := StRel.appendPut (P := P) (ty := ty) (st := ⟨sz, fr, up, own, dfs, rnd⟩) (x := x) hu hi hz hsz rfl hzk hk hb hx hrs hs hl hl2 hyr hyk hy1 hrel
 have hsa : s < a.tmps.size := by rw [hrel.size]; exact hs
 obtain ⟨vS, hvS⟩ : ∃ v, v = Value.slice (some ad) (xs.length + 1) cap := ⟨_, rfl⟩
 obtain ⟨pI, hpI⟩ : ∃ v, v = Value.pointer (some ⟨ad.block, ad.off + xs.length * k, none⟩) := ⟨_, rfl⟩
 obtain ⟨vF, hvF⟩ : ∃ v, v = Value.pointer (some ⟨G.blk o, offp + fd.offset, none⟩) := ⟨_, rfl⟩
 obtain ⟨a2, ha2⟩ : ∃ b, b = a.put (some s) vS := ⟨_, rfl⟩
 obtain ⟨us, hus⟩ : ∃ u, u = (a.eval (.tmp tv)).cells.toList := ⟨_, rfl⟩
 rw [← hvS, ← ha2, ← hus] at hst
 rw [← hus] at hkp
 have hsz2 : a2.tmps.size = sz := hst.size
 have hexec : (execOp a.eval (⟨some s, .call ⟨.builtin .append, #[.tmp r, x], #[t, t]⟩, ty, pos, aft, none⟩ : Oper)).run P w = .ok (.value vS) w1 := by
  have e : a.eval (.tmp r) = a.tmps.getD r undef := rfl
  rw [hvS]
  simp only [execOp, resolve, invoke, builtin, Sem.run_bind, Sem.run_pure, Result.andThen_ok, List.map_toArray, List.map_cons, List.map_nil, e, hrun]
 have ev2s : a2.eval (.tmp s) = vS := by rw [ha2]; exact eval_put_same hsa
 have ev2ti : a2.eval (.tmp ti) = .int .i64 (xs.length : Int) := by rw [ha2, eval_ne htis]; exact ev_v hrel hti
 have ev2tv : a2.eval (.tmp tv) = a.eval (.tmp tv) := by rw [ha2, eval_ne htvs]
 have ev2pp : a2.eval (.tmp pp) = .pointer (some ⟨G.blk o, offp, none⟩) := by
  rw [ha2, eval_ne d5]
  have := hrel.eval (.tmp pp)
  have e : St.ev ⟨sz, fr, up, own, dfs, rnd⟩ (.tmp pp) = .ptr o offp := hpp
  rw [e] at this
  generalize a.eval (.tmp pp) = u at this
  cases this; rfl
 -- where the slice's element lies is no object's block
 obtain ⟨hgb⟩ : Nonempty (G'.blk o = G.blk o) := ⟨hkp.blk o (by rw [hrel.heap.n]; exact (List.getElem?_eq_some_iff.1 ho).1)⟩
 obtain ⟨vs, h1, h2, _, h4⟩ := hst.heap.obj o _ ho
 have hcellA : ∀ q, q < cs.length → ((w1.setCells ad.block (ad.off + xs.length * k) us).cell? ⟨G.blk o, q, none⟩).isSome = true ∧ (w1.setCells ad.block (ad.off + xs.length * k) us).frozen? ⟨G.blk o, q, none⟩ = false := fun q hq => by
  rw [← hgb]
  obtain ⟨u, hu⟩ := hst.tags.ex _ _ (show G'.tag (G'.blk o) q ≠ .free by rw [h4 q hq]; simp)
  exact ⟨by rw [hu]; rfl, by simpa using hst.tags.obj _ _ _ (h4 q hq)⟩
 have hne : G.blk o ≠ ad.block := fun he => by
  have hrs' := hst.slots s
  have e1 : ((St.mk sz fr up own dfs rnd).set r (fr r).strip |>.set s (.slice true k (xs ++ [yv]))).fr s = .slice true k (xs ++ [yv]) := by simp [St.set, setF]
  rw [e1] at hrs'
  have e2 : a2.tmps.getD s undef = Value.slice (some ad) (xs.length + 1) cap := by rw [← hvS]; exact ev2s
  rw [e2] at hrs'
  generalize hxx : xs ++ [yv] = xx at hrs'
  cases hrs' with
  | slice _ _ _ _ _ _ _ f hs' hn' hc' hk' h1' hf' hr' ho' =>
   obtain ⟨c, hc⟩ : ∃ c, yv.cells[0]? = some c := by
    cases hyc : yv.cells with
    | nil => rw [hyc] at hyk; simp at hyk; omega
    | cons c _ => exact ⟨c, rfl⟩
   have := hf' xs.length yv 0 c (by rw [← hxx]; simp) hc
   have h5 : G'.tag ad.block (ad.off + xs.length * k) = .fix := this.1
   obtain ⟨u, hu⟩ := hst.tags.ex _ _ (show G'.tag ad.block (ad.off + xs.length * k) ≠ .free by rw [h5]; simp)
   unfold World.cell? at hu
   simp only at hu
   have h1' := h1
   rw [hgb, he] at h1'
   rw [h1'] at hu
   simp only [Option.isSome_none, Bool.false_eq_true, if_false] at hu
   have h6 := (Array.getElem?_eq_some_iff.1 hu).1
   have h7 := h4 (ad.off + xs.length * k) (by omega)
   rw [hgb, he, h5] at h7
   cases h7
 have hcell1 : (w1.cell? ⟨G.blk o, offp + fd.offset, none⟩).isSome = true ∧ w1.frozen? ⟨G.blk o, offp + fd.offset, none⟩ = false := by
  obtain ⟨b1, b2⟩ := hcellA _ hoff
  rw [World.cell?_setCells_out _ us _ w1 ⟨G.blk o, offp + fd.offset, none⟩ (fun hb _ => absurd hb hne)] at b1
  rw [World.frozen?_setCells] at b2
  exact ⟨b1, b2⟩
 have hvS1 : vS.oneCell' = true := by rw [hvS]; rfl
 have hvSc : vS.cells = #[vS] := by rw [hvS]; rfl
 have husl : us.length = k := by rw [hus, Array.length_toList, (hyr.cells hy1).1, hyk]
 have hus1 : ∀ u ∈ us, u.oneCell' = true := fun u hu => by
  rw [hus] at hu
  obtain ⟨q, hq⟩ := List.getElem?_of_mem hu
  have hq' : (a.eval (.tmp tv)).cells[q]? = some u := by rw [← Array.getElem?_toList]; exact hq
  have hql : q < yv.cells.length := by rw [← (hyr.cells hy1).1]; exact (Array.getElem?_eq_some_iff.1 hq').1
  have hc := List.getElem?_eq_getElem hql
  exact ((hyr.cells hy1).2 q _ u hc hq').one (hy1 _ (List.mem_of_getElem? hc))
 -- what stands when some of the four have run
 let A : Bool → Bool → Act := fun i f => bif f then (bif i then a2.put (some sp) pI else a2).put (some sf) vF else (bif i then a2.put (some sp) pI else a2)
 let W : Bool → Bool → World := fun b t => bif t then (bif b then w1.setCells ad.block (ad.off + xs.length * k) us else w1).setCell ⟨G.blk o, offp + fd.offset, none⟩ vS else (bif b then w1.setCells ad.block (ad.off + xs.length * k) us else w1)
 have evA : ∀ i f q, q ≠ sp → q ≠ sf → (A i f).eval (.tmp q) = a2.eval (.tmp q) := fun i f q h1 h2 => by
  cases i <;> cases f <;> simp only [A, cond_true, cond_false] <;> (repeat rw [eval_ne (by assumption)])
 have evAsp : ∀ f, (A true f).eval (.tmp sp) = pI := fun f => by
  have e : (a2.put (some sp) pI).eval (.tmp sp) = pI := eval_put_same (by rw [hsz2]; exact hsp)
  cases f
  ·exact e
  ·show ((a2.put (some sp) pI).put (some sf) vF).eval (.tmp sp) = pI
   rw [eval_ne (Ne.symm d2)]; exact e
 have evAsf : ∀ i, (A i true).eval (.tmp sf) = vF := fun i => by
  cases i
  ·exact eval_put_same (by show sf < a2.tmps.size; rw [hsz2]; exact hsf)
  ·exact eval_put_same (by
    show sf < (a2.tmps.setIfInBounds _ _).size
    rw [Array.size_setIfInBounds, hsz2]; exact hsf)
 have xI : ∀ f w', (execOp (A false f).eval (⟨some sp, .indexAddr t (.tmp s) (.tmp ti), ty2, pos2, aft2, none⟩ : Oper)).run P w' = .ok (.value pI) w' := fun f w' => by
  have hlt : (xs.length : Int) < ((xs.length + 1 : Nat) : Int) := by omega
  have e1 := evA false f s (Ne.symm hss) (Ne.symm d1)
  have e2 := evA false f ti d7 (Ne.symm d3)
  rw [ev2s, hvS] at e1
  rw [ev2ti] at e2
  rw [hpI]
  have hadd : ad.add (xs.length * k) = ⟨ad.block, ad.off + xs.length * k, none⟩ := add_of_none hspot _
  rw [← hadd]
  simp [execOp, Instr.indexAt, asIntOf, e1, e2, run_underlying hu, hsze]
 have xF : ∀ i w', (execOp (A i false).eval (⟨some sf, .fieldAddr tf (.tmp pp) fi, ty4, pos4, aft4, none⟩ : Oper)).run P w' = .ok (.value vF) w' := fun i w' => by
  have e1 : (A i false).eval (.tmp pp) = .pointer (some ⟨G.blk o, offp, none⟩) := by
   rw [← ev2pp]
   cases i
   ·rfl
   ·exact eval_ne d6
  have e2 : ((⟨G.blk o, offp, none⟩ : Addr).add fd.offset) = ⟨G.blk o, offp + fd.offset, none⟩ := add_of_none rfl _
  rw [hvF, ← e2]
  simp [execOp, e1, run_fieldAt hf hfi hfsz hkf]
 have xS : ∀ f t, (execOp (A true f).eval (⟨none, .store e (.tmp sp) (.tmp tv), ty3, pos3, aft3, none⟩ : Oper)).run P (W false t) = .ok .skip (W true t) := fun f tt => by
  have e1 := evAsp f
  rw [hpI] at e1
  have e2 : (A true f).eval (.tmp tv) = a.eval (.tmp tv) := by rw [evA true f tv htvp (Ne.symm d4), ev2tv]
  refine run_storeAt hsze e1 (by rw [e2, (hyr.cells hy1).1, hyk]) ?_
  rw [e2, ← hus]
  have hw : ∀ j, j < us.length → ((W false tt).cell? ⟨ad.block, ad.off + xs.length * k + 0 + j, none⟩).isSome = true ∧ (W false tt).frozen? ⟨ad.block, ad.off + xs.length * k + 0 + j, none⟩ = false := fun j hj => by
   obtain ⟨b1, b2⟩ := hcells j (by rw [← husl]; exact hj)
   rw [Nat.add_zero]
   cases tt
   ·exact ⟨b1, b2⟩
   ·show ((w1.setCells (G.blk o) (offp + fd.offset) [vS]).cell? _).isSome = true ∧ (w1.setCells (G.blk o) (offp + fd.offset) [vS]).frozen? _ = false
    rw [World.cell?_setCells_out (G.blk o) [vS] (offp + fd.offset) w1 ⟨ad.block, ad.off + xs.length * k + j, none⟩ (fun hb _ => absurd (show G.blk o = ad.block from hb.symm) hne), World.frozen?_setCells]
    exact ⟨b1, b2⟩
  have := run_storeCells_cells (P := P) ad.block (ad.off + xs.length * k) us 0 (W false tt) (fun j hj => (hw j hj).1) (fun j hj => (hw j hj).2) hus1
  rw [Nat.add_zero] at this
  rw [this]
  congr 1
  cases tt
  ·rfl
  ·exact setCells_comm (x := ⟨G.blk o, offp + fd.offset, none⟩) hne us _ w1
 have xT : ∀ i b, (execOp (A i true).eval (⟨none, .store t (.tmp sf) (.tmp s), ty5, pos5, aft5, none⟩ : Oper)).run P (W b false) = .ok .skip (W b true) := fun i b => by
  have e1 := evAsf i
  rw [hvF] at e1
  have e2 : (A i true).eval (.tmp s) = vS := by rw [evA i true s (Ne.symm hss) (Ne.symm d1), ev2s]
  refine run_storeAt hszt e1 (by rw [e2, hvSc]; rfl) ?_
  rw [e2, hvSc]
  have hw : ((W b false).cell? ⟨G.blk o, offp + fd.offset, none⟩).isSome = true ∧ (W b false).frozen? ⟨G.blk o, offp + fd.offset, none⟩ = false := by
   cases b
   ·exact hcell1
   ·exact hcellA _ hoff
  have := run_storeCells_cells (P := P) (G.blk o) (offp + fd.offset) [vS] 0 (W b false) (fun j hj => by
   have : j = 0 := by simpa using hj
   subst this
   exact hw.1) (fun j hj => by
   have : j = 0 := by simpa using hj
   subst this
   exact hw.2) (fun v hv => by rw [List.mem_singleton.1 hv]; exact hvS1)
  exact this
 -- in the text's order
 have hfin : StRel d G' ⟨sz, setF sp .any (setF s (.slice true k (xs ++ [yv])) (setF r (fr r).strip fr)), up, own, dfs, rnd⟩ (A true false) (W true false) := hst.put (s := sp) (y := .any) (v := pI) hsp (.any _ _)
 have hQ : (fun e a' w' => e = Exit.normal ∧ Post d ⟨sz, fr, up, own, dfs, rnd⟩ G w Q a' w') .normal (A true true) (W true true) := by
  have h5 := hr G' _ _ hfin [n + 3, n + 4] (by simp [← g3, ← g4])
  rw [wpOpsIn_cons] at h5
  have h6 := wpIn_value_back (by intro c h; cases h) (xF true _) (wpOpIn_back (by simpa using g3.symm) rfl h5)
  rw [wpOpsIn_cons] at h6
  have h7 := wpIn_skipped_back (by intro c h; cases h) (xT true true) (wpOpIn_back (by simpa using g4.symm) rfl h6)
  obtain ⟨_, h8⟩ : Exit.normal = Exit.normal ∧ _ := h7
  exact ⟨rfl, h8.next hkp rfl rfl rfl⟩
 have hF : Fr ((St.mk sz fr up own dfs rnd).rnd.map G.blk) = Fr (rnd.map G.blk) := rfl
 rw [show l.length - n = 4 + 1 by omega]
 refine ⟨fun h0 => ?_, fun q hq => ?_⟩
 ·have : n ∈ Region.ready .any l.toArray listed := by
   refine mem_ready.2 ⟨by rw [getD_eq (by omega), hL n (by omega)]; simp, _, by simpa using g0.symm, fun e he hbd => ?_⟩
   have hlt := hfwd n _ g0.symm e he hbd
   rw [hL e.on (by omega)]
   simpa using hlt
  rw [h0] at this
  cases this
 ·obtain ⟨q1, oq, hoq, heq⟩ := mem_ready.1 hq
  have hoq' : l[q]? = some oq := by simpa using hoq
  have hql := (List.getElem?_eq_some_iff.1 hoq').1
  rw [getD_eq (by omega), hL q hql] at q1
  have hnq : n ≤ q := by simpa using q1
  have hno : ∀ o', l[q]? = some o' → hasEdge o' n = true → False := fun o' h1 h2 => by
   obtain ⟨e, h5, h6, h7⟩ := hasEdge_spec h2
   rw [hoq'] at h1
   injection h1 with h1
   subst h1
   have := heq e h5 h6
   rw [h7, hL n (by omega)] at this
   simp at this
  have hqn : q = n := by
   refine Classical.byContradiction fun hne => ?_
   have c4 : q = n + 1 ∨ q = n + 2 ∨ q = n + 3 ∨ q = n + 4 := by omega
   rcases c4 with rfl | rfl | rfl | rfl
   ·exact hno _ g1.symm eI
   ·exact hno _ g2.symm eS
   ·exact hno _ g3.symm eF
   ·exact hno _ g4.symm eT
  subst hqn
  refine wpOpIn_some (by simpa using g0.symm) rfl (wpIn_value (by intro c h; cases h) hexec ?_)
  show wpAnyIn _ 0 P .any l.toArray _ 4 (listed.setIfInBounds q true) (a.put (some s) vS) w1
  rw [← ha2]
  refine any4 (k := q) hlen hfwd (fun o' h1 => ?_) (fun o' h1 => ?_) A W (fun f tt K hK => ?_) (fun f tt K hK => ?_) (fun i b K hK => ?_) (fun i b K hK => ?_) hQ 4 _ false false false false rfl (by simpa using hsz0) (fun j hj => ?_) (fun h => by cases h) (fun h => by cases h)
  ·rw [← g2] at h1; injection h1 with h1; subst h1; exact hasEdge_spec eS1
  ·rw [← g4] at h1; injection h1 with h1; subst h1; exact hasEdge_spec eT3
  ·refine wpOpIn_some (by simpa using g1.symm) rfl (wpIn_value (by intro c h; cases h) (xI f _) ?_)
   have e : (A false f).put (some sp) pI = A true f := by
    cases f
    ·rfl
    ·exact put_comm d2
   show K ((A false f).put (some sp) pI) _
   rw [e]; exact hK
  ·exact wpOpIn_some (by simpa using g2.symm) rfl (wpIn_skipped (by intro c h; cases h) (xS f tt) hK)
  ·exact wpOpIn_some (by simpa using g3.symm) rfl (wpIn_value (by intro c h; cases h) (xF i _) hK)
  ·exact wpOpIn_some (by simpa using g4.symm) rfl (wpIn_skipped (by intro c h; cases h) (xT i b) hK)
  ·have hsl : (listed.setIfInBounds q true).getD j false = if j = q then true else listed.getD j false := by
    by_cases hj2 : j = q
    ·subst hj2; simp [hsz0, hql]
    ·rw [getD_set_ne false (Ne.symm hj2), if_neg hj2]
   rw [hsl, hL j hj]
   by_cases hj2 : j = q
   ·simp [hj2]
   ·rw [if_neg hj2]
    by_cases hj3 : j ≤ q
    ·rw [if_pos hj3]; simp; omega
    ·rw [if_neg hj3]
     have : decide (j < q) = false := by simp; omega
     rw [this]
     repeat' split
     all_goals rfl
end
section
variable {P : Program} {d : Nat} {sz : Nat} {dfs : List Nat} {rnd : Option Nat} {l : List Oper} {fr : Nat → AV}
theorem W.drawT {id : Nat} {y : Code} {up0 own0 : List AObj} {K : Exit → St → Prop} (M : List Nat) (tn : List Nat) (S : List SegY) (up own : (Nat → Bool) → List AObj) (hm : P.follows .mixedOrders = true) (hok : okT l tn (infsY S) M = true)
  (h0 : up (fun _ => false) = up0) (h0' : own (fun _ => false) = own0) (hlen : ∀ B, (up B).length = up0.length)
  (h : ChainY P d l sz up own dfs rnd (fun l' f => l' = l.drop (infsY S).length → ATail P d l (infsY S).length ⟨sz, f, up (fun p => decide (p < tn.length)), own (fun p => decide (p < tn.length)), dfs, rnd⟩ (fun s => AW P d y s K)) S l fr) :
  AW P d (.seq (.region id l.toArray true) y) ⟨sz, fr, up0, own0, dfs, rnd⟩ K := AW.seq (AW.chainT M hm hok h0 h0' hlen h)
theorem W.drawT0 {id : Nat} {up0 own0 : List AObj} {K : Exit → St → Prop} (M : List Nat) (tn : List Nat) (S : List SegY) (up own : (Nat → Bool) → List AObj) (hm : P.follows .mixedOrders = true) (hok : okT l tn (infsY S) M = true)
  (h0 : up (fun _ => false) = up0) (h0' : own (fun _ => false) = own0) (hlen : ∀ B, (up B).length = up0.length)
  (h : ChainY P d l sz up own dfs rnd (fun l' f => l' = l.drop (infsY S).length → ATail P d l (infsY S).length ⟨sz, f, up (fun p => decide (p < tn.length)), own (fun p => decide (p < tn.length)), dfs, rnd⟩ (K .normal)) S l fr) :
  AW P d (.region id l.toArray true) ⟨sz, fr, up0, own0, dfs, rnd⟩ K := AW.chainT M hm hok h0 h0' hlen h
/-- At the end: append of one element, which is laid at once; the slice is stored in an object's cell. -/
theorem Y.appendPut {n : Nat} {up own : (Nat → Bool) → List AObj} {tn : List Nat} {Q : St → Prop} {U O : List AObj} {ty ty2 ty3 ty4 ty5 t e tf t' : TypeId} {pos pos2 pos3 pos4 pos5 : String} {aft aft2 aft3 aft4 aft5 : Array Edge} {i : TypeInfo} {z : Value} {r s sp sf pp ti tv k kf o offp fi : Nat} {x : Operand} {o2 : Bool} {b y z' : AV} {xs zs cs : List AV} {z0 yv : AV} {fs : Array Field} {fd : Field} {m : Int}
  (hok : tailOK l n = true)
  (hu : P.underlying t = some (.slice e)) (hi : P.info? e = some i) (hsze : ∀ w, (Go.sizeOf e).run P w = .ok k w) (hszt : ∀ w, (Go.sizeOf t).run P w = .ok 1 w) (hf : P.underlying tf = some (.struct fs))
  (ho : (U ++ O)[o]? = some (.cells t' cs)) (hl : (xs.length + 1) * i.bytes ≤ 140737488355328) (hl2 : xs.length + 1 ≤ 4611686018427387904)
  (hr : ARun P d l.toArray [⟨some sf, .fieldAddr tf (.tmp pp) fi, ty4, pos4, aft4, none⟩, ⟨none, .store t (.tmp sf) (.tmp s), ty5, pos5, aft5, none⟩] ⟨sz, setF sp .any (setF s (.slice true k zs) (setF r z' fr)), U, O, dfs, rnd⟩ Q)
  (hU : up (fun p => decide (p < tn.length)) = U := by rfl) (hO : own (fun p => decide (p < tn.length)) = O := by rfl)
  (hz : i.zero = some z := by rfl) (hsz : i.size = k := by rfl) (hzk : z.cells.size = k := by rfl) (hk : 0 < k := by decide) (hb : fr r = b := by simp only [go_sem, ↓reduceIte, Nat.reduceEqDiff, Nat.reduceAdd] <;> rfl) (hb' : AsSl b true k xs := by first | exact .inl rfl | exact .inr ⟨rfl, rfl⟩)
  (hx : frEv fr x = y := by simp only [go_sem, ↓reduceIte, Nat.reduceEqDiff, Nat.reduceAdd] <;> rfl) (hx' : AsSl y o2 k [z0] := by first | exact .inl rfl | exact .inr ⟨rfl, rfl⟩)
  (hti : frEv fr (.tmp ti) = .v (.int .i64 m) := by simp only [go_sem, ↓reduceIte, Nat.reduceEqDiff, Nat.reduceAdd] <;> rfl) (hm : m = (xs.length : Int) := by simp) (htv : frEv fr (.tmp tv) = yv := by simp only [go_sem, ↓reduceIte, Nat.reduceEqDiff, Nat.reduceAdd] <;> rfl) (hyk : yv.cells.length = k := by simp [go_sem]) (hy1 : yv.cells.all AV.one = true := by simp [go_sem])
  (hfi : fs[fi]? = some fd := by rfl) (hfsz : ∀ w, (Go.sizeOf fd.type).run P w = .ok kf w := by assumption) (hkf : kf ≠ 0 := by decide) (hpp : frEv fr (.tmp pp) = .ptr o offp := by simp only [go_sem, ↓reduceIte, Nat.reduceEqDiff, Nat.reduceAdd] <;> rfl) (hoff : offp + fd.offset < cs.length := by simp)
  (hz' : b.strip = z' := by simp only [go_sem, ↓reduceIte, Nat.reduceEqDiff, Nat.reduceAdd] <;> rfl) (hzs : xs ++ [yv] = zs := by first | rfl | (simp only [go_sem, ↓reduceIte, Nat.reduceEqDiff, Nat.reduceAdd] <;> rfl))
  (hs : Nat.blt s sz = true := by rfl) (hsp : Nat.blt sp sz = true := by rfl) (hsf : Nat.blt sf sz = true := by rfl)
  (hd : (s ≠ r ∧ sp ≠ s ∧ ti ≠ s ∧ tv ≠ s ∧ tv ≠ sp ∧ sf ≠ s ∧ sf ≠ sp ∧ sf ≠ ti ∧ sf ≠ tv ∧ pp ≠ s ∧ pp ≠ sp ∧ ti ≠ sp) := by decide) :
  ChainY P d l sz up own dfs rnd (fun l' f => l' = l.drop n → ATail P d l n ⟨sz, f, up (fun p => decide (p < tn.length)), own (fun p => decide (p < tn.length)), dfs, rnd⟩ Q) [] [⟨some s, .call ⟨.builtin .append, #[.tmp r, x], #[t, t]⟩, ty, pos, aft, none⟩, ⟨some sp, .indexAddr t (.tmp s) (.tmp ti), ty2, pos2, aft2, none⟩, ⟨none, .store e (.tmp sp) (.tmp tv), ty3, pos3, aft3, none⟩, ⟨some sf, .fieldAddr tf (.tmp pp) fi, ty4, pos4, aft4, none⟩, ⟨none, .store t (.tmp sf) (.tmp s), ty5, pos5, aft5, none⟩] fr := by
 intro hdrop
 subst hU
 subst hO
 subst hb
 subst hx
 subst hm
 subst hz'
 subst hzs
 obtain ⟨e1, e2, e3, e4, e5, e6, e7, e8, e9, e10, e11, e12⟩ := hd
 exact ATail.appendPut hdrop hok hu hi hsze hz hsz hzk hk hb' hx' hti htv hyk (fun c hc => List.all_eq_true.1 hy1 c hc) e1 (by simpa using hs) (by simpa using hsp) e2 e3 e4 e5 hl hl2 hf hfi hfsz hkf hpp ho hoff hszt e6 e7 e8 e9 e10 e11 e12 (by simpa using hsf) hr
end
end Go.SX
