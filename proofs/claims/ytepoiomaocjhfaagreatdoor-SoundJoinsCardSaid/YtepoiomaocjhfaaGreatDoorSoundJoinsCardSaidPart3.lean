/- Texts on the way to this: SoundJoins answers true for whatever it is handed: moves that are sound over columns, and others that are sound over what is behind those, are sound all together and lead to the same columns, unless they are too many. (part 3) -/
import Derived.RecoverIn
import Derived.LaidEql
import Derived.Test.YtepoiomaocjhfaaGreatDoorSoundJoinsCardSaidPart2
set_option linter.all false
namespace Go.SX
variable [GI : GlobInv]
open Classical
variable {n : Nat} {t : St}
section
variable {P : Program} {d : Nat}

/-- Less is known of a state, and the last of its objects are let go. -/
def StCut (d : Nat) (s t : St) : Prop :=
 (t.up ++ t.own).length ≤ (s.up ++ s.own).length ∧ t.up.length = s.up.length ∧ t.rnd = s.rnd ∧ t.sz = s.sz ∧
  ∀ (G : Gh) (a : Act) (w : World), StRel d G s a w → StRel d { G with n := (t.up ++ t.own).length } t a w

theorem StCut.of_le {s t : St} (h : StLe d s t) (ho : t.own.length = s.own.length) : StCut d s t := by
 refine ⟨by simp [h.2.1, ho], h.2.1, h.2.2.1, h.2.2.2, fun G a w hr => ?_⟩
 have := h.1 G a w hr
 have e : G = { G with n := (t.up ++ t.own).length } := by
  have hn := this.heap.n
  cases G
  simp only at hn ⊢
  rw [hn]
 rw [← e]
 exact this
theorem StCut.of_eq {s t : St} (h : s = t) : StCut d s t := by subst h; exact StCut.of_le (StLe.refl _) rfl

theorem StCut.take {sz : Nat} {fr fr' : Nat → AV} {up own junk : List AObj} {dfs : List Nat} {rnd : Option Nat} (hf : ∀ i, Le (fr i) (fr' i)) (hlow : ∀ i, Low (up.length + own.length) (fr' i)) (ho : ∀ x ∈ own, ObjLow (up.length + own.length) x) (hd : ∀ o ∈ dfs, o < up.length + own.length) :
  StCut d ⟨sz, fr, up, own ++ junk, dfs, rnd⟩ ⟨sz, fr', up, own, dfs, rnd⟩ := by
 refine ⟨by simp, rfl, rfl, rfl, fun G a w hr => ?_⟩
 have hn := hr.heap.n
 simp only [List.length_append] at hn
 have hget : ∀ (i : Nat) (x : AObj), (up ++ own)[i]? = some x → (up ++ (own ++ junk))[i]? = some x := fun i x hx => by
  rw [← List.append_assoc]
  exact A6 hx
 refine ⟨hr.size, fun s => ?_, ⟨fun i x hx => ?_, rfl, fun i j hi hj e => hr.heap.inj i j ?_ ?_ e⟩, hr.defs, fun o hoo => ?_, hr.defsNodup, hr.defsGe, ⟨hr.tags.ex, hr.tags.obj, hr.tags.tail, hr.tags.globCut (by rw [hn]; simp only [List.length_append]; omega)⟩, hr.rnd, hr.low, hr.top⟩
 ·exact ((hr.slots s).le (hf s)).cut (by simpa using hlow s)
 ·have hob := hr.heap.obj i x (hget i x hx)
  have hlx : ObjLow (up.length + own.length) x := by
   rcases Nat.lt_or_ge i up.length with h' | h'
   ·rw [List.getElem?_append_left h'] at hx
    have := hr.low x (List.mem_of_getElem? hx)
    cases x with
    | cells t cs => exact fun y hy => (this y hy).mono (by simp)
    | loop sta pd fr sz ps as bd df => exact ⟨fun s => (this.1 s).mono (by simp), by have := this.2; simp only at this; omega⟩
    | defs => trivial
    | dead => trivial
    | bld _ _ _ => trivial
    | gone => trivial
   rw [List.getElem?_append_right h'] at hx
   exact ho x (List.mem_of_getElem? hx)
  exact hob.cut (by simpa using hlx)
 ·simp only [List.length_append] at hi; omega
 ·simp only [List.length_append] at hj; omega
 have h1 := hr.defsAt o hoo
 have h2 := hd o hoo
 simp only at h1
 rw [← List.append_assoc, List.getElem?_append_left (by simpa using h2)] at h1
 exact h1

theorem en {n : Nat} {t : TypeId} {x : Value} : ObjLow n (.cells t [.v x]) := fun y hy => by
 have : y = .v x := by simpa using hy
 subst this
 exact .v x
theorem getset {U : List AObj} {i : Nat} {x y : AObj} (h : U[i]? = some x) : (U.set i y)[i]? = some y := by rw [List.getElem?_set_self (List.getElem?_eq_some_iff.1 h).1]
theorem Dr {U : List AObj} {i : Nat} {x : AObj} (h : U[i]? = some x) : U.set i x = U := by
 apply List.ext_getElem?
 intro j
 rw [List.getElem?_set]
 split
 ·rename_i e
  subst e
  split
  ·exact h.symm
  rename_i hlt; rw [List.getElem?_eq_none (by omega)]
 rfl
/-- Less known of one slot. -/
theorem R.wk {ops : Array Oper} {l : List Oper} {sz : Nat} {fr : Nat → AV} {up own : List AObj} {dfs : List Nat} {rnd : Option Nat} {Q : St → Prop} {y : AV} (s : Nat) (y' : AV) (hl : Le y y') (hr : ARun P d ops l ⟨sz, A5 s y' fr, up, own, dfs, rnd⟩ Q)
  (h : fr s = y := by exact sL0) : ARun P d ops l ⟨sz, fr, up, own, dfs, rnd⟩ Q :=
 ARun.le (st' := ⟨sz, A5 s y' fr, up, own, dfs, rnd⟩) (StLe.frame (s := ⟨sz, fr, up, own, dfs, rnd⟩) fun i => by
  unfold A5
  split
  ·rename_i e; subst e; show Le (fr i) _; rw [h]; exact hl
  exact .refl _) hr
/-- A nil slice is an empty one, and ours. -/
theorem R.nilSl {ops : Array Oper} {l : List Oper} {sz : Nat} {fr : Nat → AV} {up own : List AObj} {dfs : List Nat} {rnd : Option Nat} {Q : St → Prop} (s k : Nat) (hr : ARun P d ops l ⟨sz, A5 s (.slice true k []) fr, up, own, dfs, rnd⟩ Q)
  (h : fr s = .nil := by exact sL0) : ARun P d ops l ⟨sz, fr, up, own, dfs, rnd⟩ Q :=
 ARun.le (st' := ⟨sz, A5 s (.slice true k []) fr, up, own, dfs, rnd⟩) (StLe.frame (s := ⟨sz, fr, up, own, dfs, rnd⟩) fun i => by
  unfold A5
  split
  ·rename_i e; subst e; show Le (fr i) _; rw [h]; exact .nil _ _
  exact .refl _) hr
theorem B4 {s : Nat} {y : AV} {f : Nat → AV} (h : Low n y) (hf : ∀ i, Low n (f i)) : ∀ i, Low n (A5 s y f i) := by
 intro i
 unfold A5
 split
 ·exact h
 exact hf i
theorem B5 : ∀ i, Low n ((fun _ => .any : Nat → AV) i) := fun _ => .any

/-- How a round of a loop may end: n: what is asked when it comes to an end; N: when the block around the loop is left. -/
def LK {α : Type} (d : Nat) (id : Nat) (I : α → St) (R : α → Prop) (μ : α → Nat) (x : α) (N : St → Prop) (K : Exit → St → Prop) : Exit → St → Prop
 | .normal, s => ∃ y, R y ∧ μ y < μ x ∧ StCut d s (I y) ∧ (I y).own.length = (I x).own.length
 | .exit i, s => if i = id then N s else K (.exit i) s
 | e, s => K e s

theorem AW.loopC {c : Code} {st : St} {K : Exit → St → Prop} {id : Nat} {α : Type} (I : α → St) (R : α → Prop) (μ : α → Nat) (x0 : α) (h0 : R x0) (hst : StLe d st (I x0)) (hown : (I x0).own.length = st.own.length)
  (round : ∀ x, R x → AW P d c (I x) (LK d id I R μ x (K .normal) K)) : AW P d (.block id (.loop c)) st K := by
 refine AW.block ?_
 intro G0 a0 w0 hr0
 let S : Act → World → Nat → Prop := fun a w m => ∃ x G, R x ∧ StRel d G (I x) a w ∧ Keep d G0 w0 G w ∧ ((I x).up.length = st.up.length ∧ (I x).rnd = st.rnd ∧ (I x).sz = st.sz ∧ (I x).own.length = st.own.length) ∧ μ x = m
 have key : ∀ a w, (∃ m, S a w m) → ∃ m, (S a w m ∧ ∀ k, S a w k → m ≤ k) := fun a w h => Cv h
 refine wpIn_loop (F := Fr (st.rnd.map G0.blk)) (fun a w => ∃ m, S a w m) (fun a w => Classical.epsilon fun m => S a w m ∧ ∀ k, S a w k → m ≤ k)
  ⟨_, x0, G0, h0, hst.1 _ _ _ hr0, Keep.refl _ _ _, ⟨hst.2.1, hst.2.2.1, hst.2.2.2, hown⟩, rfl⟩ ?_
 intro a w hI
 obtain ⟨⟨x, G, hx, hrel, hkeep, ⟨e1, e2, e3, e4⟩, hm⟩, _⟩ := Classical.epsilon_spec (key a w hI)
 have hw := round x hx G a w hrel
 have hF : Fr ((I x).rnd.map G.blk) = Fr (st.rnd.map G0.blk) := Bm (st' := I x) hr0 hkeep e2
 rw [hF] at hw
 refine wpIn_mono hw ?_
 rintro e a1 w1 ⟨G1, s1, hr1, hk1, f1, f2, f3, hK⟩
 have hnx : G.n = ((I x).up ++ (I x).own).length := hrel.heap.n
 cases e with
 | normal =>
  obtain ⟨y, hy, hlt, hle, hown'⟩ := hK
  obtain ⟨c1, c2, c3, c4, c5⟩ := hle
  have hcut := c5 _ _ _ hr1
  have hnE : ((I y).up ++ (I y).own).length = G.n := by
   rw [hnx]
   simp only [List.length_append]
   have := c2.trans f1
   omega
  have hk1' : Keep d G w { G1 with n := ((I y).up ++ (I y).own).length } w1 := ⟨hk1.fix, hk1.slot, by rw [← hnE]; exact Nat.le_refl _, hk1.blk, hk1.os, hk1.tape, hk1.output, hk1.size, hk1.old.cut (by rw [hr1.heap.n]; exact c1)⟩
  have hS : S a1 w1 (μ y) := ⟨y, _, hy, hcut, hkeep.trans hk1', ⟨c2.trans (f1.trans e1), c3.trans (f2.trans e2), c4.trans (f3.trans e3), hown'.trans e4⟩, rfl⟩
  have hmin := (Classical.epsilon_spec (key a1 w1 ⟨_, hS⟩)).2 _ hS
  refine ⟨⟨_, hS⟩, ?_⟩
  rw [← hm]
  exact Nat.lt_of_le_of_lt hmin hlt
 | exit i =>
  refine ⟨G1, s1, hr1, hkeep.trans hk1, f1.trans e1, f2.trans e2, f3.trans e3, ?_⟩
  simp only [LK] at hK
  simp only [H0]
  split
  ·rename_i h; rw [if_pos h] at hK; exact hK
  rename_i h; rw [if_neg h] at hK; exact hK
 | goto l => exact ⟨G1, s1, hr1, hkeep.trans hk1, f1.trans e1, f2.trans e2, f3.trans e3, hK⟩
 | ret => exact ⟨G1, s1, hr1, hkeep.trans hk1, f1.trans e1, f2.trans e2, f3.trans e3, hK⟩
 | panic ch => exact ⟨G1, s1, hr1, hkeep.trans hk1, f1.trans e1, f2.trans e2, f3.trans e3, hK⟩
 | outgrown => exact ⟨G1, s1, hr1, hkeep.trans hk1, f1.trans e1, f2.trans e2, f3.trans e3, hK⟩

/-! ### Ways out, step by step -/
variable {K K' : Exit → St → Prop} {N : St → Prop} {y : Code} {s : St} {i id : Nat}
theorem K.thN (h : AW P d y s K) : Il (fun s => AW P d y s K) K' .normal s := h
theorem K.thE (h : K (.exit i) s) : Il N K (.exit i) s := h
theorem K.thR (h : K .ret s) : Il N K .ret s := h
theorem K.blN (h : K .normal s) : H0 id K .normal s := h
theorem K.blE (h : K .normal s) : H0 i K (.exit i) s := by simp only [H0, if_true]; exact h
theorem K.blR (h : K .ret s) : H0 id K .ret s := h
section
variable {α : Type} {I : α → St} {R : α → Prop} {μ : α → Nat} {x : α}
theorem K.lpE (h : N s) : LK d i I R μ x N K (.exit i) s := by simp only [LK, if_true]; exact h
theorem K.lpR (h : K .ret s) : LK d id I R μ x N K .ret s := h
theorem K.lpN (y : α) (hR : R y) (hμ : μ y < μ x) (hc : StCut d s (I y)) (ho : (I y).own.length = (I x).own.length := by rfl) : LK d id I R μ x N K .normal s := ⟨y, hR, hμ, hc, ho⟩
end
/-- Ways that meet again. -/
theorem W.join {a b : Code} (T : St) (h1 : AW P d a s (Il (fun s => StLe d s T) K)) (h2 : AW P d b T K) : AW P d (.seq a b) s K := by
 refine AW.seq (h1.mono fun e s' hs => ?_)
 cases e with
 | normal => exact AW.le hs h2
 | exit i => exact hs
 | goto i => exact hs
 | ret => exact hs
 | panic c => exact hs
 | outgrown => exact hs
theorem K.thJ {T : St} (h : StLe d s T) : Il (fun s => StLe d s T) K' .normal s := h
theorem StLe.of_eq {s t : St} (h : s = t) : StLe d s t := by subst h; exact StLe.refl _
theorem W.seq {a b : Code} (h : AW P d a s (Il (fun s => AW P d b s K) K)) : AW P d (.seq a b) s K := AW.seq h
section
variable {sz : Nat} {fr : Nat → AV} {up own : List AObj} {dfs : List Nat} {rnd : Option Nat} {c : Operand} {a b : Code} {B : Bool}
theorem W.keep (l : List Nat) {fr' : Nat → AV} (hq : AW P d y ⟨sz, fr', up, own, dfs, rnd⟩ K) (h : Gp l fr = fr' := by exact sL0) : AW P d y ⟨sz, fr, up, own, dfs, rnd⟩ K := AW.keep l h hq
/-- A loop's test: on, or out. -/
theorem W.condX {i : Nat} (h1 : B = true → AW P d y ⟨sz, fr, up, own, dfs, rnd⟩ K) (h2 : B = false → K (.exit i) ⟨sz, fr, up, own, dfs, rnd⟩) (hc : A8 fr c = .v (.bool B) := by exact sL0) :
  AW P d (.seq (.cond c .skip (.exit i)) y) ⟨sz, fr, up, own, dfs, rnd⟩ K := AW.seq (W.cond (fun e => AW.skip (h1 e)) (fun e => AW.exit (h2 e)) hc)
end
theorem K.fin {rs : List ResultVar} {post : AV → List AObj → Prop} {r : AV} (hres : Res P s rs r) (hp : post r s.up := by exact ⟨rfl, rfl⟩) (hlow : Low n r := by simp) : FK P rs n post .ret s := ⟨.inr rfl, r, hres, hlow, hp⟩
theorem K.finN {rs : List ResultVar} {post : AV → List AObj → Prop} {r : AV} (hres : Res P s rs r) (hp : post r s.up := by exact ⟨rfl, rfl⟩) (hlow : Low n r := by simp) : FK P rs n post .normal s := ⟨.inl rfl, r, hres, hlow, hp⟩
end
end Go.SX
namespace Go.SX
variable [GI : GlobInv]
open Classical
variable {U : List AObj} {args : List AV} {m n : Nat}
section
variable {P : Program} {d : Nat} {ops : Array Oper} {rest : List Oper} {sz : Nat} {fr : Nat → AV} {up own own' : List AObj} {dfs : List Nat} {rnd : Option Nat} {Q : St → Prop} {s : Nat} {ty : TypeId} {pos : String} {aft : Array Edge}

theorem D0 {O : List AObj} {x : AObj} : (U ++ O).set (oid U.length n) x = U ++ O.set n x := Al
theorem Ak {O : List AObj} : (U ++ O)[oid U.length n]? = O[n]? := Bk
theorem oid_ne {u : Nat} (h : n ≠ m) : oid u n ≠ oid u m := fun e => h (Nat.add_left_cancel e)
theorem jo {l a : Nat} {x y X : AObj} (h : U[l]? = some x) (ha : a ≠ l) : ((U.set l y).set a X)[l]? = some y := by rw [List.getElem?_set_ne ha]; exact getset h
theorem jp {l a b : Nat} {x y X Y : AObj} (h : U[l]? = some x) (ha : a ≠ l) (hb : b ≠ l) : (((U.set l y).set a X).set b Y)[l]? = some y := by rw [List.getElem?_set_ne hb]; exact jo h ha
theorem aa (f : Nat → AV) : Tf [] f = f := rfl
theorem X9 (x : Nat × AV) (r : List (Nat × AV)) (f : Nat → AV) : Tf (x :: r) f = Tf r (A5 x.1 x.2 f) := rfl
attribute [go_sem] aa X9 List.zip_cons_cons List.zip_nil_left List.zip_nil_right
/-- A call of a round, by an activation that has no objects. -/
theorem R.yield0 {f : Operand} {xs : List Operand} {ats : Array TypeId} {l : Nat} {args : List AV} {post : Bool → List AObj → Prop} (h : AYield P l args up post)
  (hp : ∀ b U, U.length = up.length → post b U → ARun P d ops rest ⟨sz, A5 s (.v (.bool b)) fr, U, [], [], rnd⟩ Q)
  (hf : A8 fr f = .yield l := by exact sL0) (ha : xs.map (A8 fr) = args := by exact sL0) (hs : Nat.blt s sz = true := by rfl) :
  ARun P d ops (⟨some s, .call ⟨.value f, xs.toArray, ats⟩, ty, pos, aft, none⟩ :: rest) ⟨sz, fr, up, [], [], rnd⟩ Q := by
 refine ARun.op rfl (Q1 := fun s' => ARun P d ops rest s' Q) ?_ (fun s' e => e)
 intro G a w hr Q'
 have hfr' : Rep G w none (.yield l) (a.eval f) := by
  have := hr.eval f
  have e : St.ev ⟨sz, fr, up, [], [], rnd⟩ f = .yield l := hf
  rwa [e] at this
 generalize hfv : a.eval f = fv at hfr'
 cases hfr' with
 | yield _ _ ho =>
  have hxr := H3 hr xs
  have ha' : xs.map (St.ev ⟨sz, fr, up, [], [], rnd⟩) = args := ha
  rw [ha'] at hxr
  have hh : HeapRel G up w := by simpa using hr.heap
  obtain ⟨f', tmps, as, bd, hrun, hround⟩ := h d G w (xs.map a.eval).toArray (by rw [← ha]; simp) hxr hh hr.tags hr.top
  refine M2 (by intro c h; cases h) ((Im hfv).trans hrun) hround ?_
  rintro e w' ⟨b, G', H', rfl, hH, hT, hk, hlen, hp'⟩
  have h3 := hr.called hH hT hk (U := H') (O := []) (by simp) hlen (fun o ho => by simp at ho) (by rw [hlen]; have := M1 hH; rwa [hlen] at this)
  obtain ⟨h4, k4⟩ := h3.took (.v (some (.ret d)) (.bool b)) (s := s) (by simpa using hs)
  exact ⟨.bool b, rfl, _, _, h4, (hk.less (Nat.le_succ d)).trans k4, hlen, rfl, rfl, hp b H' hlen hp'⟩

/-- Ranging over a function. -/
theorem W.range {g : Operand} {ps : Array Tmp} {as bd : Code} {gf : FuncId} {first caps args : List AV} {m : Nat} {K : Exit → St → Prop} (post : AV → List AObj → Prop) (hcall : ∀ args w, (callFunc gf args).run P w = .ok (.enter gf args) w)
  (h : ACall P gf args (up ++ (own ++ [.defs, .loop .ready none (fun s => (fr s).strip) sz ps as bd (oid up.length m)])) post)
  (hp : ∀ r H', post r H' → Th P d ⟨sz, fr, up, own, dfs, none⟩ (oid up.length m :: dfs) (m + 1) (oid up.length m) ps as bd K r H')
  (hm : own.length = m := by rfl) (hg : A8 fr g = .fn (.func gf) first caps := by exact sL0) (ha : first ++ [.yield (oid up.length (m + 1))] ++ caps = args := by rfl) :
  AW P d (.rangeFunc g ps as bd) ⟨sz, fr, up, own, dfs, none⟩ K := by
 subst ha
 refine AW.rangeFunc (st := ⟨sz, fr, up, own, dfs, none⟩) (n := up.length) (m := m) hcall hg rfl rfl hm.symm ?_
 exact h.mono hp

/-- What is asked behind the function that is ranged over; the record's parts under names. -/
def rangeV (P : Program) (d sz : Nat) (fr FR : Nat → AV) (up : List AObj) (dfs : List Nat) (l df : Nat) (ps : Array Tmp) (as bd : Code) (K : Exit → St → Prop) (H' : List AObj) : Prop :=
 ∃ U O x pd, H' = U ++ O ∧ U.length = up.length ∧ ((∀ x ∈ up, ObjLow U.length x) → ∀ x ∈ U, ObjLow U.length x) ∧ (∀ o ∈ dfs, (U ++ O)[o]? = some .defs) ∧
  O[l]? = some (.loop x pd FR sz ps as bd df) ∧ x ≠ .busy ∧
  match pd with
  | none => K .normal ⟨sz, fr, U, O.set l (.loop .exhausted none FR sz ps as bd df), dfs, none⟩
  | some c => AW P d c ⟨sz, fr, U, O.set l (.loop .exhausted (some c) FR sz ps as bd df), dfs, none⟩ K
theorem W.rangeV {g : Operand} {ps : Array Tmp} {as bd : Code} {gf : FuncId} {first caps args : List AV} {m : Nat} {K : Exit → St → Prop} (hcall : ∀ args w, (callFunc gf args).run P w = .ok (.enter gf args) w)
  (h : ∀ FR as' bd', FR = (fun s => (fr s).strip) → as' = as → bd' = bd → ∃ post : AV → List AObj → Prop, ACall P gf args (up ++ (own ++ [.defs, .loop .ready none FR sz ps as' bd' (oid up.length m)])) post ∧
   ∀ r H', post r H' → rangeV P d sz fr FR up (oid up.length m :: dfs) (m + 1) (oid up.length m) ps as' bd' K H')
  (hm : own.length = m := by rfl) (hg : A8 fr g = .fn (.func gf) first caps := by exact sL0) (ha : first ++ [.yield (oid up.length (m + 1))] ++ caps = args := by rfl) :
  AW P d (.rangeFunc g ps as bd) ⟨sz, fr, up, own, dfs, none⟩ K := by
 obtain ⟨post, h1, h2⟩ := h _ _ _ rfl rfl rfl
 exact W.range post hcall h1 (fun r H' hp => h2 r H' hp) hm hg ha

/-- A nil slice in a cell of ours is an empty one. -/
theorem StLe.nilOwn {n k : Nat} {t : TypeId} (ho : own[n]? = some (.cells t [.nil])) : StLe d ⟨sz, fr, up, own, dfs, rnd⟩ ⟨sz, fr, up, own.set n (.cells t [.slice true k []]), dfs, rnd⟩ := by
 refine ⟨fun G a w h => ?_, rfl, rfl, rfl⟩
 refine ⟨h.size, h.slots, ⟨fun i x hx => ?_, ?_, h.heap.inj⟩, h.defs, fun o hoo => ?_, h.defsNodup, h.defsGe, h.tags, h.rnd, h.low, h.top⟩
 ·by_cases hi : i = up.length + n
  ·subst hi
   simp only at hx
   rw [Bk, List.getElem?_set_self (List.getElem?_eq_some_iff.1 ho).1] at hx
   injection hx with hx
   subst hx
   have hob := h.heap.obj (up.length + n) (.cells t [.nil]) (by simp only [Bk]; exact ho)
   obtain ⟨vs, h1, h2, h3, h4⟩ := hob
   refine ⟨vs, h1, h2, fun j y u p q => ?_, h4⟩
   match j, p with
   | 0, p =>
    have e : y = .slice true k [] := by simpa using p.symm
    subst e
    exact (h3 0 .nil u rfl q).le (.nil _ _)
   | j + 1, p => simp at p
  refine h.heap.obj i x ?_
  simp only at hx ⊢
  rwa [← Al, List.getElem?_set_ne (fun e => hi e.symm)] at hx
 ·have := h.heap.n; simpa using this
 have h1 := h.defsAt o hoo
 simp only at h1 ⊢
 rw [← Al]
 by_cases hi : o = up.length + n
 ·subst hi
  rw [Bk, ho] at h1
  cases h1
 rw [List.getElem?_set_ne (fun e => hi e.symm)]
 exact h1

theorem R.nilOwn {l : List Oper} (n k : Nat) {t : TypeId} (hr : ARun P d ops l ⟨sz, fr, up, own', dfs, rnd⟩ Q) (ho : own[n]? = some (.cells t [.nil]) := by rfl) (hset : own.set n (.cells t [.slice true k []]) = own' := by exact sL0) :
  ARun P d ops l ⟨sz, fr, up, own, dfs, rnd⟩ Q := by
 subst hset
 exact ARun.le (StLe.nilOwn ho) hr
theorem W.nilOwn {c : Code} {K : Exit → St → Prop} (n k : Nat) {t : TypeId} (hr : AW P d c ⟨sz, fr, up, own', dfs, rnd⟩ K) (ho : own[n]? = some (.cells t [.nil]) := by rfl) (hset : own.set n (.cells t [.slice true k []]) = own' := by exact sL0) :
  AW P d c ⟨sz, fr, up, own, dfs, rnd⟩ K := by
 subst hset
 exact AW.le (StLe.nilOwn ho) hr

/-- A nil slice in one of the cells of an object of ours is an empty one. -/
theorem StLe.nilCell {n k j0 : Nat} {t : TypeId} {cs : List AV} (ho : own[n]? = some (.cells t cs)) (hc : cs[j0]? = some .nil) : StLe d ⟨sz, fr, up, own, dfs, rnd⟩ ⟨sz, fr, up, own.set n (.cells t (cs.set j0 (.slice true k []))), dfs, rnd⟩ := by
 refine ⟨fun G a w h => ?_, rfl, rfl, rfl⟩
 refine ⟨h.size, h.slots, ⟨fun i x hx => ?_, ?_, h.heap.inj⟩, h.defs, fun o hoo => ?_, h.defsNodup, h.defsGe, h.tags, h.rnd, h.low, h.top⟩
 ·by_cases hi : i = up.length + n
  ·subst hi
   simp only at hx
   rw [Bk, List.getElem?_set_self (List.getElem?_eq_some_iff.1 ho).1] at hx
   injection hx with hx
   subst hx
   have hob := h.heap.obj (up.length + n) (.cells t cs) (by simp only [Bk]; exact ho)
   obtain ⟨vs, h1, h2, h3, h4⟩ := hob
   refine ⟨vs, h1, by simpa using h2, fun j y u p q => ?_, by simpa using h4⟩
   by_cases hj : j = j0
   ·subst hj
    rw [List.getElem?_set_self (List.getElem?_eq_some_iff.1 hc).1] at p
    have e : y = .slice true k [] := by simpa using p.symm
    subst e
    exact (h3 j .nil u hc q).le (.nil _ _)
   rw [List.getElem?_set_ne (fun e => hj e.symm)] at p
   exact h3 j y u p q
  refine h.heap.obj i x ?_
  simp only at hx ⊢
  rwa [← Al, List.getElem?_set_ne (fun e => hi e.symm)] at hx
 ·have := h.heap.n; simpa using this
 have h1 := h.defsAt o hoo
 simp only at h1 ⊢
 rw [← Al]
 by_cases hi : o = up.length + n
 ·subst hi
  rw [Bk, ho] at h1
  cases h1
 rw [List.getElem?_set_ne (fun e => hi e.symm)]
 exact h1
theorem R.nilCell {l : List Oper} (n j0 k : Nat) {t : TypeId} {cs : List AV} (hr : ARun P d ops l ⟨sz, fr, up, own', dfs, rnd⟩ Q) (ho : own[n]? = some (.cells t cs) := by rfl) (hc : cs[j0]? = some .nil := by rfl) (hset : own.set n (.cells t (cs.set j0 (.slice true k []))) = own' := by exact sL0) :
  ARun P d ops l ⟨sz, fr, up, own, dfs, rnd⟩ Q := by
 subst hset
 exact ARun.le (StLe.nilCell ho hc) hr

/-- Objects of whoever waits refer to one another alone. -/
theorem R.assumeLow {l : List Oper} (h : (∀ x ∈ up, ObjLow up.length x) → ARun P d ops l ⟨sz, fr, up, own, dfs, rnd⟩ Q) : ARun P d ops l ⟨sz, fr, up, own, dfs, rnd⟩ Q := fun G a w hr => h hr.low G a w hr

/-! ### Ends of rounds -/
variable {l df : Nat} {ps : Array Tmp} {as bd : Code} {post : Bool → List AObj → Prop} {st : St} {x : LoopState} {pd : Option Code}
theorem K.rdN (hl : st.up[l]? = some (.loop x pd fr sz ps as bd df)) (h : post true (st.up.set l (.loop .ready none fr sz ps as bd df))) : Tg l fr sz ps as bd df post .normal st := ⟨⟨x, pd, hl⟩, h⟩
theorem K.rdR (hl : st.up[l]? = some (.loop x pd fr sz ps as bd df)) (h : post false (st.up.set l (.loop .done (some .ret) fr sz ps as bd df))) : Tg l fr sz ps as bd df post .ret st := ⟨⟨x, pd, hl⟩, h⟩
end
end Go.SX
namespace Go.SX
variable [GI : GlobInv]
open Classical
section
variable {P : Program} {d : Nat}
section
variable {K : Exit → St → Prop} {N : St → Prop} {s : St} {i id : Nat}
variable {α : Type} {I : α → St} {R : α → Prop} {μ : α → Nat} {x : α}
end
end
section
variable {O X U : List AObj} {i : Nat} {y : AObj}
end
end Go.SX
namespace Go.SX
variable [GI : GlobInv]
open Classical
variable {H : List AObj} {args : List AV} {g : FuncId} {id n : Nat} {rest : List Oper} {s st : St}
/-- What a panic that nobody has recovered from bears. -/
abbrev Dw (x : Value) : List PanicEntry := [{ v := x, recovered := false }]
/-- A function's contract: it hands back what post tells, or panics with what pp tells. -/
def ACallP (P : Program) (g : FuncId) (args : List AV) (H : List AObj) (post : AV → List AObj → Prop) (pp : Value → List AObj → Prop) : Prop :=
 ∀ (d : Nat) (G : Gh) (w : World) (vs : Array Value), vs.size = args.length → (∀ (i : Nat) (y : AV) (u : Value), args[i]? = some y → vs[i]? = some u → Rep G w (some (.slot (d + 1) i)) y u) → HeapRel G H w → TagOK G w → GI.bd ≤ d →
  CallsIn Fence.wide 0 P g vs w (fun e w' => (∃ (v : Value) (G' : Gh) (r : AV) (H' : List AObj), e = .returned v ∧ Rep G' w' (some (.ret d)) r v ∧ HeapRel G' H' w' ∧ TagOK G' w' ∧ Keep (d + 1) G w G' w' ∧ H'.length = H.length ∧ post r H') ∨
   ∃ (x : Value) (G' : Gh) (H' : List AObj), e = .panicked (Dw x) ∧ HeapRel G' H' w' ∧ TagOK G' w' ∧ Keep (d + 1) G w G' w' ∧ H'.length = H.length ∧ pp x H')
theorem ACallP.mono {P : Program} {g : FuncId} {args : List AV} {H : List AObj} {post post' : AV → List AObj → Prop} {pp pp' : Value → List AObj → Prop} (h : ACallP P g args H post pp) (h1 : ∀ r H', post r H' → post' r H') (h2 : ∀ x H', pp x H' → pp' x H') : ACallP P g args H post' pp' :=
 fun d G w vs a1 a2 a3 a4 a5 => (h d G w vs a1 a2 a3 a4 a5).mono fun e w' he => by
  rcases he with ⟨v, G', r, H', a, b, c, d', e', f, p⟩ | ⟨x, G', H', a, c, d', e', f, p⟩
  ·exact .inl ⟨v, G', r, H', a, b, c, d', e', f, h1 _ _ p⟩
  exact .inr ⟨x, G', H', a, c, d', e', f, h2 _ _ p⟩
/-- A function that does not panic here. -/
theorem ACall.ofP {P : Program} {g : FuncId} {args : List AV} {H : List AObj} {post : AV → List AObj → Prop} (h : ACallP P g args H post (fun _ _ => False)) : ACall P g args H post :=
 fun d G w vs a1 a2 a3 a4 a5 => (h d G w vs a1 a2 a3 a4 a5).mono fun e w' he => by
  rcases he with h | ⟨_, _, _, _, _, _, _, _, h⟩
  ·exact h
  exact h.elim
section
variable {P : Program} {d : Nat} {ops : Array Oper}
/-- Operations of which the first ones are told up to their end. -/
theorem E0 {F : Fence} {Q Q2 : Exit → Act → World → Prop} {i2 : List Nat} (hn : ∀ a w, Q2 .normal a w → wpOpsIn F 0 P ops Q i2 a w) (hp : ∀ ch a w, Q2 (.panic ch) a w → Q (.panic ch) a w) (ho : ∀ a w, Q2 .outgrown a w → Q .outgrown a w) :
  ∀ (i1 : List Nat) (a : Act) (w : World), wpOpsIn F 0 P ops Q2 i1 a w → wpOpsIn F 0 P ops Q (i1 ++ i2) a w
 | [], a, w, hh => hn _ _ hh
 | i :: rest, a, w, hh => by
  rw [List.cons_append]
  simp only [wpOpsIn] at hh ⊢
  cases hio : ops[i]? with
  | none => simp only [hio] at hh ⊢; exact E0 hn hp ho rest a w hh
  | some o =>
   simp only [hio] at hh ⊢
   split
   ·rename_i hw
    simp only [hw, if_true] at hh
    refine ⟨hh.1, ?_⟩
    have hh := hh.2
    generalize (o.semAt F.round a.eval).run P w = r at *
    cases r with
    | ok x w' =>
     cases x <;> simp only [Oper.uponIn] at hh ⊢ <;>
      first
       | exact E0 hn hp ho rest _ _ hh
       | exact ⟨hh.1, CallsIn.mono hh.2 (fun e w'' he => by
         cases e <;> first | exact E0 hn hp ho rest _ _ he | exact hp _ _ _ he | (obtain ⟨a, w, he⟩ := he; exact ⟨a, w, ho _ _ he⟩))⟩
       | exact ⟨hh.1, RowsIn.mono hh.2 (fun _ _ he => E0 hn hp ho rest _ _ he)⟩
       | exact ⟨hh.1, RoundIn.mono hh.2 (fun e w'' he => by
         cases e <;> first | exact E0 hn hp ho rest _ _ he | exact hp _ _ _ he | (obtain ⟨a, w, he⟩ := he; exact ⟨a, w, ho _ _ he⟩))⟩
    | halt x w' => cases x <;> simp only [Oper.uponIn] at hh ⊢ <;> first | exact hh | exact hp _ _ _ hh
   rename_i hw
   simp only [hw] at hh
   exact ⟨hh.1, E0 hn hp ho rest _ _ hh.2⟩
/-- Operations; a panic may end them. -/
def ARunK (P : Program) (d : Nat) (ops : Array Oper) (l : List Oper) (st : St) (K : Exit → St → Prop) : Prop :=
 ∀ (G : Gh) (a : Act) (w : World), StRel d G st a w → ∀ idx : List Nat, idx.map (fun i => ops[i]?) = l.map some →
  wpOpsIn (Fr (st.rnd.map G.blk)) 0 P ops (fun e a' w' => Post d st G w (K e) a' w') idx a w
theorem ARunK.pre {l1 l2 : List Oper} {st : St} {K : Exit → St → Prop} (h : ARun P d ops l1 st (fun s => ARunK P d ops l2 s K)) : ARunK P d ops (l1 ++ l2) st K := by
 intro G a w hr idx hidx
 rw [List.map_append, List.map_eq_append_iff] at hidx
 obtain ⟨i1, i2, rfl, h1, h2⟩ := hidx
 refine E0 (Q2 := fun e a' w' => e = .normal ∧ Post d st G w (fun s => ARunK P d ops l2 s K) a' w') ?_ ?_ ?_ i1 a w (h G a w hr i1 h1)
 ·rintro a1 w1 ⟨_, G1, s1, hr1, k1, e1, e2, e3, hK⟩
  have hF := Bm hr k1 e2
  have := hK G1 a1 w1 hr1 i2 h2
  rw [hF] at this
  exact Ap (fun e a' w' hp => hp.next k1 e1 e2 e3) _ _ _ this
 ·rintro ch a1 w1 ⟨h, _⟩
  cases h
 rintro a1 w1 ⟨h, _⟩
 cases h
theorem ARunK.one {o : Oper} {K : Exit → St → Prop} (h : ARun P d ops [o] st (fun s => ARunK P d ops rest s K)) : ARunK P d ops (o :: rest) st K := ARunK.pre (l1 := [o]) h
theorem AW.regionK {l : List Oper} {K : Exit → St → Prop} (h : ARunK P d l.toArray l st K) : AW P d (.region id l.toArray false) st K := by
 intro G a w hrel
 exact wpIn_region (h G a w hrel _ (Od l))
theorem AW.seqRK {l : List Oper} {y : Code} {K : Exit → St → Prop} (h : ARunK P d l.toArray l st (Il (fun s => AW P d y s K) K)) : AW P d (.seq (.region id l.toArray false) y) st K := AW.seq (AW.regionK h)
/-- A call that may panic. -/
theorem L2 {o : Oper} {a : Act} {w : World} {K : Act → World → Prop} {Q : Exit → Act → World → Prop} {r : Option Nat} {g : FuncId} {vs : Array Value} (hd : ∀ c, o.op ≠ .defer c)
  (h : (execOp a.eval o).run P w = .ok (.enter g vs) w) {R : Ending → World → Prop} (hc : CallsIn Fence.wide 0 P g vs w R) (hk : ∀ e w', R e w' → (∃ v, e = .returned v ∧ K (a.put o.dst v) w') ∨ ∃ ch, e = .panicked ch ∧ Q (.panic ch) a w') : o.wpIn (Fr r) 0 P a w K Q := by
 refine ⟨fun _ _ => trivial, ?_⟩
 rw [Oper.semAt_eq _ _ _ hd, h]
 refine ⟨fun h => by simp [Fence.wide] at h, ?_⟩
 have hc' : CallsIn (Fr r) 0 P g vs w R := hc
 refine hc'.mono fun e w' hR => ?_
 rcases hk e w' hR with ⟨v, rfl, hk'⟩ | ⟨ch, rfl, hq⟩
 ·exact hk'
 exact hq
theorem RK.callV {sz s : Nat} {fr : Nat → AV} {up own : List AObj} {dfs : List Nat} {rnd : Option Nat} {ty : TypeId} {pos : String} {aft : Array Edge} {rest : List Oper} {K : Exit → St → Prop} {f : Operand} {g : FuncId} {xs : List Operand} {ats : Array TypeId} {first caps args : List AV} {post : AV → List AObj → Prop} {pp : Value → List AObj → Prop}
  (hcall : ∀ args w, (callFunc g args).run P w = .ok (.enter g args) w) (h : ACallP P g args (up ++ own) post pp)
  (hp : ∀ r U O, U.length = up.length → (U ++ O).length = (up ++ own).length → post r (U ++ O) → ((∀ x ∈ up, ObjLow U.length x) → ∀ x ∈ U, ObjLow U.length x) ∧ (∀ o ∈ dfs, (up ++ own)[o]? = some .defs → (U ++ O)[o]? = some .defs) ∧ ARunK P d ops rest ⟨sz, A5 s r fr, U, O, dfs, rnd⟩ K)
  (hpp : ∀ x U O, U.length = up.length → (U ++ O).length = (up ++ own).length → pp x (U ++ O) → ((∀ x ∈ up, ObjLow U.length x) → ∀ x ∈ U, ObjLow U.length x) ∧ (∀ o ∈ dfs, (up ++ own)[o]? = some .defs → (U ++ O)[o]? = some .defs) ∧ K (.panic (Dw x)) ⟨sz, fr, U, O, dfs, rnd⟩)
  (hf : A8 fr f = .fn (.func g) first caps := by exact sL0) (ha : first ++ xs.map (A8 fr) ++ caps = args := by exact sL0) (hs : Nat.blt s sz = true := by rfl) :
  ARunK P d ops (⟨some s, .call ⟨.value f, xs.toArray, ats⟩, ty, pos, aft, none⟩ :: rest) ⟨sz, fr, up, own, dfs, rnd⟩ K := by
 intro G a w hr idx hidx
 cases idx with
 | nil => simp at hidx
 | cons i r =>
  simp only [List.map_cons, List.cons.injEq] at hidx
  simp only [wpOpsIn, hidx.1]
  have hw : Region.wanted (⟨some s, .call ⟨.value f, xs.toArray, ats⟩, ty, pos, aft, none⟩ : Oper) (yielded ops a.tmps) = true := by simp [Region.wanted]
  rw [if_pos hw]
  have hev : St.ev ⟨sz, fr, up, own, dfs, rnd⟩ f = .fn (.func g) first caps := hf
  have hfr := hev ▸ hr.eval f
  generalize hfv : a.eval f = fv at hfr
  cases hfr with
  | fn _ _ _ _ va vc hna hnc h1 h2 =>
   have hxr := H3 hr xs
   subst ha
   refine L2 (by intro c h; cases h) (Fq hcall hfv) (h d G w _ (by simp [hna, hnc]) (fun i y u hy hu => ?_) hr.heap hr.tags hr.top) ?_
   ·rw [List.append_assoc] at hy
    rw [Array.append_assoc] at hu
    rcases Nat.lt_or_ge i first.length with hi | hi
    ·rw [List.getElem?_append_left hi] at hy
     rw [Array.getElem?_append_left (by omega)] at hu
     exact (h1 i y u hy hu).lift
    rw [List.getElem?_append_right hi] at hy
    rw [Array.getElem?_append_right (by omega), hna] at hu
    rcases Nat.lt_or_ge (i - first.length) xs.length with hj | hj
    ·rw [List.getElem?_append_left (by simpa using hj)] at hy
     rw [Array.getElem?_append_left (by simpa using hj)] at hu
     exact (hxr _ y u hy hu).lift
    rw [List.getElem?_append_right (by simpa using hj)] at hy
    rw [Array.getElem?_append_right (by simpa using hj)] at hu
    simp only [List.length_map, List.size_toArray] at hy hu
    exact (h2 _ y u hy hu).lift
   have split : ∀ H' : List AObj, H'.length = (up ++ own).length → H' = H'.take up.length ++ H'.drop up.length ∧ (H'.take up.length).length = up.length := fun H' hl => by
    have hl' : up.length ≤ H'.length := by rw [hl]; simp
    exact ⟨(List.take_append_drop _ _).symm, by simp; omega⟩
   rintro e w' (⟨v, G', y, H', rfl, hrep, hH, hT, hk, hlen, hpo⟩ | ⟨x, G', H', rfl, hH, hT, hk, hlen, hpo⟩)
   ·obtain ⟨e1, e2⟩ := split H' hlen
    obtain ⟨U, hU⟩ : ∃ U, U = H'.take up.length := ⟨_, rfl⟩
    obtain ⟨O, hO⟩ : ∃ O, O = H'.drop up.length := ⟨_, rfl⟩
    rw [← hU] at e1 e2
    rw [← hO] at e1
    subst e1
    obtain ⟨q1, q2, q3⟩ := hp y U O e2 hlen hpo
    have h3 := hr.called hH hT hk rfl e2 (fun o ho => q2 o ho (hr.defsAt o ho)) (q1 (by rw [e2]; exact hr.low))
    obtain ⟨h4, k4⟩ := h3.took hrep (s := s) (by simpa using hs)
    have kk : Keep d G w _ _ := (hk.less (Nat.le_succ d)).trans k4
    have hF := Bm (st' := ⟨sz, A5 s y fr, U, O, dfs, rnd⟩) hr kk rfl
    have := q3 _ _ _ h4 r hidx.2
    rw [hF] at this
    exact .inl ⟨v, rfl, Ap (fun e a' w' hpst => hpst.next kk e2 rfl rfl) _ _ _ this⟩
   obtain ⟨e1, e2⟩ := split H' hlen
   obtain ⟨U, hU⟩ : ∃ U, U = H'.take up.length := ⟨_, rfl⟩
   obtain ⟨O, hO⟩ : ∃ O, O = H'.drop up.length := ⟨_, rfl⟩
   rw [← hU] at e1 e2
   rw [← hO] at e1
   subst e1
   obtain ⟨q1, q2, q3⟩ := hpp x U O e2 hlen hpo
   have h3 := hr.called hH hT hk rfl e2 (fun o ho => q2 o ho (hr.defsAt o ho)) (q1 (by rw [e2]; exact hr.low))
   exact .inr ⟨_, rfl, _, _, h3, hk.less (Nat.le_succ d), e2, rfl, rfl, q3⟩
theorem M8 {G : Gh} {w : World} {l : Option Loc} {t : TypeId} {vs : List Value} {u : Value} (hxr : Rep G w l (.iface t (.agg (vs.map .v))) u) : u = .iface t (.agg vs.toArray) := by
 cases hxr with
 | iface _ _ _ u' h =>
  cases h with
  | agg _ _ us hn h1 hh =>
   congr 2
   apply Array.ext
   ·simpa using hn
   intro j hj1 hj2
   have hj : j < vs.length := by simpa using hj2
   have := hh j (.v vs[j]) us[j] (by simp [hj]) (by simp [hj1])
   generalize hz : us[j] = z at this
   cases this
   simp
/-- A panic. -/
theorem RK.panic {sz : Nat} {fr : Nat → AV} {up own : List AObj} {dfs : List Nat} {rnd : Option Nat} {dst : Option Nat} {ty : TypeId} {pos : String} {aft : Array Edge} {rest : List Oper} {K : Exit → St → Prop} {x : Operand} {t : TypeId} {vs : List Value}
  (hq : K (.panic (Dw (.iface t (.agg vs.toArray)))) ⟨sz, fr, up, own, dfs, rnd⟩)
  (hx : A8 fr x = .iface t (.agg (vs.map .v)) := by exact sL0) :
  ARunK P d ops (⟨dst, .panic x, ty, pos, aft, none⟩ :: rest) ⟨sz, fr, up, own, dfs, rnd⟩ K := by
 intro G a w hr idx hidx
 cases idx with
 | nil => simp at hidx
 | cons i r =>
  simp only [List.map_cons, List.cons.injEq] at hidx
  simp only [wpOpsIn, hidx.1]
  have hw : Region.wanted (⟨dst, .panic x, ty, pos, aft, none⟩ : Oper) (yielded ops a.tmps) = true := by simp [Region.wanted]
  rw [if_pos hw]
  have hxr := hr.eval x
  have hev : St.ev ⟨sz, fr, up, own, dfs, rnd⟩ x = .iface t (.agg (vs.map .v)) := hx
  rw [hev] at hxr
  have hval : a.eval x = .iface t (.agg vs.toArray) := M8 hxr
  refine ⟨fun _ _ => trivial, ?_⟩
  rw [Oper.semAt_eq _ _ _ (by intro c h; cases h)]
  have he : (execOp a.eval ⟨dst, .panic x, ty, pos, aft, none⟩).run P w = .halt (.panic (.iface t (.agg vs.toArray))) w := by
   show ((do let v ← Instr.panic (a.eval x); pure (.value v)) : Sem Next).run P w = _
   rw [hval]
   rfl
  rw [he]
  exact ⟨G, _, hr, Keep.refl _ _ _, rfl, rfl, rfl, hq⟩
/-- How the body of a function that may panic ends. -/
def FKP (P : Program) (rs : List ResultVar) (n : Nat) (post : AV → List AObj → Prop) (pp : Value → List AObj → Prop) : Exit → St → Prop
 | .panic ch, s => s.defs = [] ∧ ∃ x, ch = Dw x ∧ pp x s.up
 | e, s => (e = .normal ∨ e = .ret) ∧ ∃ r, Res P s rs r ∧ Low n r ∧ post r s.up
/-- A contract from the body, where that may panic. -/
theorem ACallP.ofBody {g : FuncId} {fn : Func} {c : Code} {args : List AV} {H : List AObj} {post : AV → List AObj → Prop} {pp : Value → List AObj → Prop} {rs : List ResultVar} {n : Nat} (hf : P.funcs[g]? = some fn) (hb : fn.body = some c) (hrs : fn.results = rs.toArray)
    (hn : fn.ntmps = n) (hargs : args.length ≤ n)
    (h : ∀ d, AW P (d + 1) c ⟨n, argsF args, H, [], [], none⟩ (FKP P rs H.length post pp)) : ACallP P g args H post pp := by
  intro d G w vs hvs hrep hH hT hTop
  refine callsIn_of_wp_marks hf hb trivial ?_
  have hst : StRel (d + 1) G ⟨n, argsF args, H, [], [], none⟩ { tmps := vs ++ Array.replicate (fn.ntmps - vs.size) undef, defers := [] } w := by
    refine ⟨?_, fun s => ?_, by simpa using hH, (by rw [C8 hTop]; rfl), (fun o ho => by simp at ho), List.nodup_nil, (fun o ho => by simp at ho), hT, (fun l hl => by cases hl), fun x hx => ?_, Nat.le_succ_of_le hTop⟩
    · simp only [Array.size_append, Array.size_replicate, hvs, hn]; omega
    · show Rep G w _ (args.getD s (.v undef)) _
      rw [List.getD_eq_getElem?_getD, Array.getD_eq_getD_getElem?]
      rcases Nat.lt_or_ge s args.length with h' | h'
      · rw [List.getElem?_eq_getElem h', Array.getElem?_append_left (by omega), Array.getElem?_eq_getElem (by omega)]
        exact hrep s _ _ (List.getElem?_eq_getElem h') (Array.getElem?_eq_getElem (by omega))
      rw [List.getElem?_eq_none h', Array.getElem?_append_right (by omega)]
      simp only [Option.getD_none]
      have : ((Array.replicate (fn.ntmps - vs.size) undef)[s - vs.size]?).getD undef = undef := by
        rw [Array.getElem?_replicate]; split <;> rfl
      rw [this]
      exact .v _ _
    -- the objects of whoever waits refer to one another alone
    obtain ⟨i, hi⟩ := List.getElem?_of_mem hx
    have hob := hH.obj i x hi
    show ObjLow H.length x
    rw [← hH.n]
    exact hob.low
  have hw := h d G _ w hst
  refine wpIn_mono hw ?_
  rintro e a' w' ⟨G1, st', h1, k1, e1, e2, e3, hK⟩
  have hupl : st'.up.length = H.length := e1
  have hGn : G.n = H.length := hH.n
  have hpan : ∀ ch, FKP P rs H.length post pp (.panic ch) st' → LeavesInM Fence.wide 0 P fn a'.tmps (fun e w' => (∃ (v : Value) (G' : Gh) (r : AV) (H' : List AObj), e = .returned v ∧ Rep G' w' (some (.ret d)) r v ∧ HeapRel G' H' w' ∧ TagOK G' w' ∧ Keep (d + 1) G w G' w' ∧ H'.length = H.length ∧ post r H') ∨ ∃ (x : Value) (G' : Gh) (H' : List AObj), e = .panicked (Dw x) ∧ HeapRel G' H' w' ∧ TagOK G' w' ∧ Keep (d + 1) G w G' w' ∧ H'.length = H.length ∧ pp x H') a'.defers (.panicking ch) w' := by
    rintro ch ⟨hdf, x, rfl, hpx⟩
    rw [h1.defs, hdf, C8 hTop]
    refine .inr ⟨x, { G1 with n := st'.up.length }, st'.up, rfl, ⟨fun i y hy => ?_, rfl, fun i j hi hj e => h1.heap.inj i j ?_ ?_ e⟩, ⟨h1.tags.ex, h1.tags.obj, h1.tags.tail, h1.tags.globCut (by rw [h1.heap.n, List.length_append]; omega)⟩, ?_, hupl, hpx⟩
    · exact (h1.heap.obj i y (A6 hy)).cut (h1.low y (List.mem_of_getElem? hy))
    · rw [h1.heap.n, List.length_append]; simp only at hi; omega
    · rw [h1.heap.n, List.length_append]; simp only at hj; omega
    exact ⟨k1.fix, k1.slot, by rw [hGn, ← hupl]; exact Nat.le_refl _, k1.blk, k1.os, k1.tape, k1.output, k1.size, k1.old.cut (by rw [h1.heap.n, List.length_append]; omega)⟩
  have hret : (e = .normal ∨ e = .ret) → (∃ r, Res P st' rs r ∧ Low H.length r ∧ post r st'.up) → LeavesInM Fence.wide 0 P fn a'.tmps (fun e w' => (∃ (v : Value) (G' : Gh) (r : AV) (H' : List AObj), e = .returned v ∧ Rep G' w' (some (.ret d)) r v ∧ HeapRel G' H' w' ∧ TagOK G' w' ∧ Keep (d + 1) G w G' w' ∧ H'.length = H.length ∧ post r H') ∨ ∃ (x : Value) (G' : Gh) (H' : List AObj), e = .panicked (Dw x) ∧ HeapRel G' H' w' ∧ TagOK G' w' ∧ Keep (d + 1) G w G' w' ∧ H'.length = H.length ∧ pp x H') a'.defers .returning w' := by
   rintro hcase ⟨r, hres, hlow, hpost⟩
   show LeavesInM Fence.wide 0 P fn a'.tmps (fun e w' => (∃ (v : Value) (G' : Gh) (r : AV) (H' : List AObj), e = .returned v ∧ Rep G' w' (some (.ret d)) r v ∧ HeapRel G' H' w' ∧ TagOK G' w' ∧ Keep (d + 1) G w G' w' ∧ H'.length = H.length ∧ post r H') ∨ ∃ (x : Value) (G' : Gh) (H' : List AObj), e = .panicked (Dw x) ∧ HeapRel G' H' w' ∧ TagOK G' w' ∧ Keep (d + 1) G w G' w' ∧ H'.length = H.length ∧ pp x H') a'.defers .returning w'
   rw [h1.defs, C8 hTop, List.append_nil]
   refine Qw st'.defs w' h1.heap h1.defsAt h1.defsNodup (fun w2 q1 q0 q2 q3 q4 q5 q6 q7 => ?_)
   -- the state over memory in which the marks' blocks are shut
   have T : Turn G1 w' G1 w2 := ⟨fun b o hb => ⟨hb, q6 _⟩, fun _ _ _ hb => hb, fun _ _ _ hb => hb, Nat.le_refl _, fun _ _ => rfl, q2, q3, q4, Nat.le_of_eq q5.symm, Still.tags (fun b hb => q1 b (fun o ho e => hb.2.2 o (by rw [h1.heap.n]; exact (List.getElem?_eq_some_iff.1 (h1.defsAt o ho)).1) e.symm)) (Nat.le_of_eq q5.symm) (fun _ _ _ => .inl rfl) (fun _ hi => .inl ⟨hi, rfl⟩)⟩
   let own' := st'.own.mapIdx fun i x => if st'.up.length + i ∈ st'.defs then .dead else x
   have hget : ∀ (i : Nat) (x : AObj), (st'.up ++ own')[i]? = some x → (i ∉ st'.defs ∧ (st'.up ++ st'.own)[i]? = some x) ∨ (i ∈ st'.defs ∧ x = .dead) := fun i x hx => by
     rcases Nat.lt_or_ge i st'.up.length with h' | h'
     · rw [List.getElem?_append_left h'] at hx ⊢
       exact .inl ⟨fun hm => by have := h1.defsGe i hm; omega, hx⟩
     rw [List.getElem?_append_right h'] at hx ⊢
     simp only [own', List.getElem?_mapIdx] at hx
     rw [Option.map_eq_some_iff] at hx
     obtain ⟨z, hz, rfl⟩ := hx
     rw [show st'.up.length + (i - st'.up.length) = i by omega]
     by_cases hm : i ∈ st'.defs
     · exact .inr ⟨hm, by rw [if_pos hm]⟩
     exact .inl ⟨hm, by rw [if_neg hm]; exact hz⟩
   have hback : ∀ (i : Nat) (t : TypeId) (cs : List AV), (st'.up ++ st'.own)[i]? = some (.cells t cs) → (st'.up ++ own')[i]? = some (.cells t cs) := fun i t cs hx => by
     have hnd : i ∉ st'.defs := fun hm => by
       have := h1.defsAt i hm
       rw [hx] at this; cases this
     rcases Nat.lt_or_ge i st'.up.length with h' | h'
     · rw [List.getElem?_append_left h'] at hx ⊢; exact hx
     rw [List.getElem?_append_right h'] at hx ⊢
     simp only [own', List.getElem?_mapIdx, hx, Option.map_some]
     rw [show st'.up.length + (i - st'.up.length) = i by omega, if_neg hnd]
   have hlen' : (st'.up ++ own').length = (st'.up ++ st'.own).length := by simp [own']
   have hst2 : StRel (d + 1) G1 { st' with own := own', defs := [] } { tmps := a'.tmps, defers := [] } w2 := by
     refine ⟨h1.size, fun s => T.rep (h1.slots s), ⟨fun i x hx => ?_, by rw [hlen']; exact h1.heap.n, h1.heap.inj⟩, (by rw [C8 hTop]; rfl), (fun o ho => by simp at ho), List.nodup_nil, (fun o ho => by simp at ho), ⟨fun b o hb => ?_, fun b o i hb => ?_, fun b o L hb => ?_, h1.tags.globKeep T.old⟩, h1.rnd, h1.low, h1.top⟩
     · rcases hget i x hx with ⟨hnd, hx'⟩ | ⟨hm, rfl⟩
       · have hil : i < G1.n := by rw [h1.heap.n]; exact (List.getElem?_eq_some_iff.1 hx').1
         refine T.objRel hil (q1 _ (fun o ho e => hnd ?_)) (h1.heap.obj i x hx') (fun b hb => q1 b (fun o ho e => ?_))
         · have hol : o < G1.n := by rw [h1.heap.n]; exact (List.getElem?_eq_some_iff.1 (h1.defsAt o ho)).1
           rw [h1.heap.inj i o hil hol e]; exact ho
         obtain ⟨cur, te, hc, _⟩ := hb
         have hdo : w'.heap[G1.blk o]? = some (.deferred (some [])) := h1.heap.obj o _ (h1.defsAt o ho)
         rw [e, hdo] at hc
         cases hc
       exact q0 i hm
     · rw [q6]; exact h1.tags.ex b o hb
     · rw [q7]; exact h1.tags.obj b o i hb
     rw [q7]; exact h1.tags.tail b o L hb
   have hresv : ∀ (rv : ResultVar) (y : AV), ResV P st' rv y → ResV P { st' with own := own', defs := [] } rv y := fun rv y hy => by
     cases hy with
     | tmp t _ h => exact ResV.tmp (st := { st' with own := own', defs := [] }) t _ h
     | cell a t t' o off cs y0 hagg hp ho hy _ h => exact ResV.cell (st := { st' with own := own', defs := [] }) a t t' o off cs y0 hagg hp (hback _ _ _ ho) hy _ h
     | cellN a t t' o off k cs hagg hsz hp ho hk h1 _ h => exact ResV.cellN (st := { st' with own := own', defs := [] }) a t t' o off k cs hagg hsz hp (hback _ _ _ ho) hk h1 _ h
   have hres2 : Res P { st' with own := own', defs := [] } rs r := by
     cases hres with
     | nores => exact .nores
     | one rv _ h => exact .one rv _ (hresv _ _ h)
     | own t _ h => exact Res.own (st := { st' with own := own', defs := [] }) t _ h
     | ownCell a t t' o off cs _ hagg hp ho hge hy => exact Res.ownCell (st := { st' with own := own', defs := [] }) a t t' o off cs _ hagg hp (hback _ _ _ ho) hge hy
     | two r1 r2 y1 y2 h1 h2 => exact .two _ _ _ _ (hresv _ _ h1) (hresv _ _ h2)
     | three r1 r2 r3 y1 y2 y3 h1 h2 h3 => exact .three _ _ _ _ _ _ (hresv _ _ h1) (hresv _ _ h2) (hresv _ _ h3)
     | four r1 r2 r3 r4 y1 y2 y3 y4 h1 h2 h3 h4 => exact .four _ _ _ _ _ _ _ _ (hresv _ _ h1) (hresv _ _ h2) (hresv _ _ h3) (hresv _ _ h4)
     | five r1 r2 r3 r4 r5 y1 y2 y3 y4 y5 h1 h2 h3 h4 h5 => exact .five _ _ _ _ _ _ _ _ _ _ (hresv _ _ h1) (hresv _ _ h2) (hresv _ _ h3) (hresv _ _ h4) (hresv _ _ h5)
   obtain ⟨v, G2, hrun, hr2, hH2, hT2, hk2, hn2⟩ := hres2.run hst2 hrs
   refine ⟨v, hrun, .inl ⟨v, { G2 with n := st'.up.length }, r, st'.up, rfl, hr2.cut (by rw [hupl]; exact hlow), hH2, ⟨hT2.ex, hT2.obj, hT2.tail, hT2.globCut (by rw [hn2, h1.heap.n, List.length_append]; omega)⟩, ?_, hupl, hpost⟩⟩
   have kk := (k1.trans (T.keep (d + 1))).trans hk2
   exact ⟨kk.fix, kk.slot, by rw [hGn, ← hupl]; exact Nat.le_refl _, kk.blk, kk.os, kk.tape, kk.output, kk.size, kk.old.cut (by rw [hn2, h1.heap.n, List.length_append]; omega)⟩
  cases e with
  | normal => exact hret (.inl rfl) hK.2
  | ret => exact hret (.inr rfl) hK.2
  | panic ch => exact hpan ch hK
  | exit i => rcases hK.1 with h | h <;> cases h
  | goto i => rcases hK.1 with h | h <;> cases h
  | outgrown => rcases hK.1 with h | h <;> cases h
theorem ACallP.body {fn : Func} {c : Code} {post : AV → List AObj → Prop} {pp : Value → List AObj → Prop} {fr' : Nat → AV} (rs : List ResultVar) (l : List Nat) {n : Nat} (hf : P.funcs[g]? = some fn) (hn : fn.ntmps = n)
  (h : ∀ d, AW P (d + 1) c ⟨n, fr', H, [], [], none⟩ (FKP P rs H.length post pp)) (hb : fn.body = some c := by rfl) (hrs : fn.results = rs.toArray := by rfl) (hargs : args.length ≤ n := by exact sL3)
  (hk : Gp l (argsF args) = fr' := by exact sL0) : ACallP P g args H post pp :=
 ACallP.ofBody hf hb hrs hn hargs (fun d => AW.keep l hk (h d))
theorem K.finP {rs : List ResultVar} {post : AV → List AObj → Prop} {pp : Value → List AObj → Prop} {r : AV} (hres : Res P s rs r) (hp : post r s.up := by exact ⟨rfl, rfl⟩) (hlow : Low n r := by simp) : FKP P rs n post pp .ret s := ⟨.inr rfl, r, hres, hlow, hp⟩
theorem K.finPN {rs : List ResultVar} {post : AV → List AObj → Prop} {pp : Value → List AObj → Prop} {r : AV} (hres : Res P s rs r) (hp : post r s.up := by exact ⟨rfl, rfl⟩) (hlow : Low n r := by simp) : FKP P rs n post pp .normal s := ⟨.inl rfl, r, hres, hlow, hp⟩
theorem K.finPP {rs : List ResultVar} {post : AV → List AObj → Prop} {pp : Value → List AObj → Prop} {x : Value} (hp : pp x s.up) (hd : s.defs = [] := by rfl) : FKP P rs n post pp (.panic (Dw x)) s := ⟨hd, x, rfl, hp⟩
theorem K.thP {K : Exit → St → Prop} {N : St → Prop} {ch : List PanicEntry} (h : K (.panic ch) s) : Il N K (.panic ch) s := h
theorem K.blP {K : Exit → St → Prop} {ch : List PanicEntry} (h : K (.panic ch) s) : H0 id K (.panic ch) s := h
theorem K.lpP {K : Exit → St → Prop} {ch : List PanicEntry} {α : Type} {I : α → St} {R : α → Prop} {μ : α → Nat} {x : α} {N : St → Prop} (h : K (.panic ch) s) : LK d id I R μ x N K (.panic ch) s := h
end
end Go.SX
namespace Go.SX
variable [GI : GlobInv]
open Classical
variable {a b n nc sz : Nat} {caps : List AV} {crest : Code} {dfs : List Nat} {fr : Nat → AV} {own up : List AObj} {r : AV} {rnd : Option Nat}
/-- What recover gives behind an exit. -/
inductive Recov : Exit → AV → Prop
 | normal : Recov .normal (.v .nilIface)
 | ret : Recov .ret (.v .nilIface)
 | panic (t : TypeId) (vs : List Value) (h : ∀ v ∈ vs, (AV.v v).one = true) : Recov (.panic (Dw (.iface t (.agg vs.toArray)))) (.iface t (.agg (vs.map .v)))
/-- The same in the frame's mode. -/
inductive RecovM : FrameMode → AV → Prop
 | none : RecovM .returning (.v .nilIface)
 | panic (t : TypeId) (vs : List Value) (h : ∀ v ∈ vs, (AV.v v).one = true) : RecovM (.panicking (Dw (.iface t (.agg vs.toArray)))) (.iface t (.agg (vs.map .v)))
theorem TagOK.to {GI1 GI2 : GlobInv} (h : GI1.blocks = GI2.blocks) {G : Gh} {w : World} (k : @TagOK GI1 G w) : @TagOK GI2 G w := @TagOK.mk GI2 _ _ (@TagOK.ex GI1 _ _ k) (@TagOK.obj GI1 _ _ k) (@TagOK.tail GI1 _ _ k) (by rw [← h]; exact @TagOK.glob GI1 _ _ k)
section
variable {P : Program} {d : Nat}
theorem Q5 {G : Gh} {w : World} (vs : List Value) (hone : ∀ v ∈ vs, (AV.v v).one = true) : Rep G w none (.agg (vs.map .v)) (.agg vs.toArray) := by
 refine .agg _ _ _ (by simp) (fun y hy => ?_) (fun i y u h1 h2 => ?_)
 ·obtain ⟨v, hv, rfl⟩ := List.mem_map.1 hy
  exact hone v hv
 simp only [List.getElem?_map, Option.map_eq_some_iff] at h1
 obtain ⟨v, hv, rfl⟩ := h1
 simp only [List.getElem?_toArray] at h2
 rw [hv] at h2
 injection h2 with h2
 subst h2
 exact .v _ _
/-- The closure, called while its activation leaves. -/
theorem jy {clo : FuncId} {fc : Func} {crest : Code} {idc nc a b : Nat} {ta tb : TypeId} {pa pb : String} {fa fb : Array Edge} {caps : List AV} {H H2 : List AObj}
  (hf : P.funcs[clo]? = some fc) (hb : fc.body = some (.seq (.region idc #[⟨some a, .call ⟨.builtin .recover, #[], #[]⟩, ta, pa, fa, none⟩, ⟨some b, .assign (.tmp a), tb, pb, fb, none⟩] false) crest))
  (hn : fc.ntmps = nc) (hr : fc.results = #[]) (hcl : caps.length ≤ nc) (ha : a < nc) (hbn : b < nc) {u : FrameMode} {y : AV} (hu : RecovM u y)
  (hrest : ∀ d, AW P (d + 1) crest ⟨nc, A5 b y.strip (A5 a y (argsF caps)), H, [], [], none⟩ (fun e s => (e = .normal ∨ e = .ret) ∧ s.defs = [] ∧ s.up = H2))
  {G : Gh} {w : World} {vs : Array Value} (hvs : vs.size = caps.length) (hrep : ∀ (i : Nat) (z : AV) (v : Value), caps[i]? = some z → vs[i]? = some v → Rep G w (some (.slot (d + 1) i)) z v) (hH : HeapRel G H w) (hT : TagOK G w) (hTop : GI.bd ≤ d) :
  CallsDIn Fence.wide 0 P clo vs u w (fun e u' w' => ∃ v, e = .returned v ∧ settle u' = .returning ∧ ∃ G', HeapRel G' H2 w' ∧ TagOK G' w' ∧ Keep (d + 1) G w G' w') := by
 refine callsDIn_of_wpSIn hf hb trivial fun c₀ cs hm => ?_
 have hst0 : StRel (d + 1) G ⟨nc, argsF caps, H, [], [], none⟩ { tmps := vs ++ Array.replicate (fc.ntmps - vs.size) undef, defers := [] } w := by
  refine ⟨?_, fun s => ?_, by simpa using hH, (by rw [C8 hTop]; rfl), (fun o ho => by simp at ho), List.nodup_nil, (fun o ho => by simp at ho), hT, (fun l hl => by cases hl), fun x hx => ?_, Nat.le_succ_of_le hTop⟩
  ·simp only [Array.size_append, Array.size_replicate, hvs, hn]; omega
  ·show Rep G w _ (caps.getD s (.v undef)) _
   rw [List.getD_eq_getElem?_getD, Array.getD_eq_getD_getElem?]
   rcases Nat.lt_or_ge s caps.length with h' | h'
   ·rw [List.getElem?_eq_getElem h', Array.getElem?_append_left (by omega), Array.getElem?_eq_getElem (by omega)]
    exact hrep s _ _ (List.getElem?_eq_getElem h') (Array.getElem?_eq_getElem (by omega))
   rw [List.getElem?_eq_none h', Array.getElem?_append_right (by omega)]
   simp only [Option.getD_none]
   have : ((Array.replicate (fc.ntmps - vs.size) undef)[s - vs.size]?).getD undef = undef := by
    rw [Array.getElem?_replicate]; split <;> rfl
   rw [this]
   exact .v _ _
  obtain ⟨i, hi⟩ := List.getElem?_of_mem hx
  have hob := hH.obj i x hi
  show ObjLow H.length x
  rw [← hH.n]
  exact hob.low
 have main : ∀ (x : Value) (u' : FrameMode), Rep G w none y x → settle u' = .returning →
   crest.wpSIn Fence.wide 0 P (bodyPostS P fc c₀ cs (fun e u' w' => ∃ v, e = .returned v ∧ settle u' = .returning ∧ ∃ G', HeapRel G' H2 w' ∧ TagOK G' w' ∧ Keep (d + 1) G w G' w'))
    (({ tmps := vs ++ Array.replicate (fc.ntmps - vs.size) undef, defers := [] } : Act).put (some a) x |>.put (some b) x) ({ c₀ with mode := u' } :: cs) w := by
  intro x u' hx hset
  have h1 := hst0.put (s := a) (y := y) (v := x) ha hx.lift
  have h2 := h1.put (s := b) (y := y.strip) (v := x) hbn hx.strip
  refine wpSIn_of_wpIn rfl (wpIn_mono (hrest d G _ w h2) ?_)
  rintro e a' w' ⟨G1, s, hs, k1, e1, e2, e3, hK⟩
  have hup : s.up.length = H.length := e1
  have hGn : G.n = H.length := hH.n
  have fin : ∃ v, (results fc a'.tmps).run P w' = .ok v w' ∧ ∃ v', Ending.returned v = .returned v' ∧ settle u' = .returning ∧ ∃ G', HeapRel G' H2 w' ∧ TagOK G' w' ∧ Keep (d + 1) G w G' w' := by
   obtain ⟨v, G2, hrun, hr2, hH2, hT2, hk2, hn2⟩ := (Res.nores (P := P) (st := s)).run hs (by rw [hr])
   refine ⟨v, hrun, v, rfl, hset, { G2 with n := s.up.length }, by rw [← hK.2.2]; exact hH2, ⟨hT2.ex, hT2.obj, hT2.tail, hT2.globCut (by rw [hn2, hs.heap.n, List.length_append]; omega)⟩, ?_⟩
   have kk := k1.trans hk2
   exact ⟨kk.fix, kk.slot, by rw [hGn, ← hup]; exact Nat.le_refl _, kk.blk, kk.os, kk.tape, kk.output, kk.size, kk.old.cut (by rw [hn2, hs.heap.n, List.length_append]; omega)⟩
  have hdf : a'.defers = [] := by rw [hs.defs, hK.2.1, C8 hTop]; rfl
  obtain ⟨v, hrun, hfin⟩ := fin
  cases e with
  | normal => exact ⟨hdf, u', rfl, v, hrun, hfin⟩
  | ret => exact ⟨hdf, u', rfl, v, hrun, hfin⟩
  | panic ch => rcases hK.1 with h | h <;> cases h
  | exit i => rcases hK.1 with h | h <;> cases h
  | goto i => rcases hK.1 with h | h <;> cases h
  | outgrown => rcases hK.1 with h | h <;> cases h
 refine wpSIn_seq (wpSIn_region ?_)
 show wpOpsSIn Fence.wide 0 P #[_, _] _ (List.range 2) _ _ _
 have hput : ∀ (A : Act) (x : Value), a < A.tmps.size → (A.put (some a) x).eval (.tmp a) = x := fun A x h => by
  show (A.tmps.setIfInBounds a x).getD a undef = x
  rw [Cw _ _ _ _ h, if_pos rfl]
 have hsz : a < (({ tmps := vs ++ Array.replicate (fc.ntmps - vs.size) undef, defers := [] } : Act)).tmps.size := by
  rw [hst0.size]; exact ha
 cases hu with
 | none =>
  have hrc : recoverD (c₀ :: cs) = none := by simp [recoverD, hm]
  refine ⟨fun _ _ => trivial, ?_⟩
  rw [if_pos (by simp [Region.wanted])]
  show (match recoverD (c₀ :: cs) with | some (v, cs') => _ | none => _)
  rw [hrc]
  refine ⟨fun _ _ => trivial, ?_⟩
  rw [if_pos (by simp [Region.wanted])]
  have hm' : ({ c₀ with mode := .returning } : Frame) = c₀ := by rw [← hm]
  have := main .nilIface .returning (.v _ _) rfl
  rw [hm'] at this
  show wpOpsSIn Fence.wide 0 P _ _ [] ((Act.put _ (some a) .nilIface).put (some b) ((Act.put _ (some a) .nilIface).eval (.tmp a))) _ _
  rw [hput _ _ hsz]
  exact this
 | panic t l hone =>
  have hrc : recoverD (c₀ :: cs) = some (.iface t (.agg l.toArray), { c₀ with mode := .panicking [{ v := .iface t (.agg l.toArray), recovered := true }] } :: cs) := by
   simp [recoverD, hm, Dw]
  refine ⟨fun _ _ => trivial, ?_⟩
  rw [if_pos (by simp [Region.wanted])]
  show (match recoverD (c₀ :: cs) with | some (v, cs') => _ | none => _)
  rw [hrc]
  refine ⟨fun _ _ => trivial, ?_⟩
  rw [if_pos (by simp [Region.wanted])]
  have := main (.iface t (.agg l.toArray)) (.panicking [{ v := .iface t (.agg l.toArray), recovered := true }]) (.iface _ _ _ _ (Q5 l hone)) rfl
  show wpOpsSIn Fence.wide 0 P _ _ [] ((Act.put _ (some a) (.iface t (.agg l.toArray))).put (some b) ((Act.put _ (some a) (.iface t (.agg l.toArray))).eval (.tmp a))) _ _
  rw [hput _ _ hsz]
  exact this
/-- How the body of a function behind its defer statement may end. -/
def KG (P : Program) (crest : Code) (nc a b : Nat) (caps : List AV) (rs : List ResultVar) (n : Nat) (post : AV → List AObj → Prop) (e : Exit) (s : St) : Prop :=
 s.defs = [] ∧ ∃ (y : AV) (U O : List AObj) (r : AV), Recov e y ∧ U.length = s.up.length ∧ ((∀ z ∈ s.up, ObjLow s.up.length z) → ∀ z ∈ U, ObjLow U.length z) ∧
  (∀ d, AW P (d + 1) crest ⟨nc, A5 b y.strip (A5 a y (argsF caps)), s.up ++ s.own, [], [], none⟩ (fun e s2 => (e = .normal ∨ e = .ret) ∧ s2.defs = [] ∧ s2.up = U ++ O)) ∧
  Res P ⟨s.sz, s.fr, U, O, [], none⟩ rs r ∧ Low n r ∧ post r U
theorem Re {E : GlobInv} {d : Nat} (h : d = E.bd) : @Ob E d = E.bl := if_pos h
/-- The same world, an activation of which has a deferred call of its own. -/
@[reducible] def Da (d : Nat) (l : List Deferred) : GlobInv := { blocks := GI.blocks, bd := d, bl := l }
theorem Xa {G G' : Gh} {w w' : World} {l l' : Option Loc} {o off : Nat} {v : Value} (h : Rep G w l (.ptr o off) v) (hn : G.n ≤ G'.n) (hb : ∀ o, o < G.n → G'.blk o = G.blk o) : Rep G' w' l' (.ptr o off) v := by
 cases h with
 | ptr _ _ _ ho => rw [← hb o ho]; exact .ptr _ _ _ (Nat.lt_of_lt_of_le ho hn)
/-- **A function whose first doing is to defer a closure that recovers.** -/
theorem ACall.guarded {g clo : FuncId} {fn fc : Func} {x y crest : Code} {id idc n nc a b : Nat} {o1 : Oper} {s1 : Nat} {ta tb ty : TypeId} {pa pb pos : String} {fa fb aft : Array Edge} {args : List AV} {os : List Nat} {H own0 : List AObj} {fr0 fr1 : Nat → AV} {rs : List ResultVar} {post : AV → List AObj → Prop}
  (hf : P.funcs[g]? = some fn) (hb : fn.body = some (.seq x (.seq (.region id #[o1, ⟨none, .defer ⟨.value (.tmp s1), #[], #[]⟩, ty, pos, aft, none⟩] false) y))) (hrs : fn.results = rs.toArray) (hn : fn.ntmps = n) (hargs : args.length ≤ n)
  (hfc : P.funcs[clo]? = some fc) (hbc : fc.body = some (.seq (.region idc #[⟨some a, .call ⟨.builtin .recover, #[], #[]⟩, ta, pa, fa, none⟩, ⟨some b, .assign (.tmp a), tb, pb, fb, none⟩] false) crest))
  (hnc : fc.ntmps = nc) (hrc : fc.results = #[]) (hcl : os.length ≤ nc) (ha : a < nc) (hbn : b < nc)
  (hcall : ∀ args w, (callFunc clo args).run P w = .ok (.enter clo args) w)
  (hx : ∀ d, AW P (d + 1) x ⟨n, argsF args, H, [], [], none⟩ (fun e s => e = .normal ∧ s = ⟨n, fr0, H, own0, [], none⟩))
  (ho1 : ∀ d, ARun P (d + 1) #[o1, ⟨none, .defer ⟨.value (.tmp s1), #[], #[]⟩, ty, pos, aft, none⟩] [o1] ⟨n, fr0, H, own0, [], none⟩ (fun s => s = ⟨n, fr1, H, own0, [], none⟩))
  (hev : (fr1 s1).strip = .fn (.func clo) [] (os.map fun o => .ptr o 0))
  (hy : ∀ d l, @AW (Da (d + 1) l) P (d + 1) y ⟨n, fr1, H, own0, [], none⟩ (@KG (Da (d + 1) l) P crest nc a b (os.map fun o => .ptr o 0) rs H.length post)) : ACall P g args H post := by
 intro d G w vs hvs hrep hH hT hTop
 refine callsIn_of_wp_marks hf hb trivial ?_
 have hst : StRel (d + 1) G ⟨n, argsF args, H, [], [], none⟩ { tmps := vs ++ Array.replicate (fn.ntmps - vs.size) undef, defers := [] } w := by
  refine ⟨?_, fun s => ?_, by simpa using hH, (by rw [C8 hTop]; rfl), (fun o ho => by simp at ho), List.nodup_nil, (fun o ho => by simp at ho), hT, (fun l hl => by cases hl), fun x hx => ?_, Nat.le_succ_of_le hTop⟩
  ·simp only [Array.size_append, Array.size_replicate, hvs, hn]; omega
  ·show Rep G w _ (args.getD s (.v undef)) _
   rw [List.getD_eq_getElem?_getD, Array.getD_eq_getD_getElem?]
   rcases Nat.lt_or_ge s args.length with h' | h'
   ·rw [List.getElem?_eq_getElem h', Array.getElem?_append_left (by omega), Array.getElem?_eq_getElem (by omega)]
    exact hrep s _ _ (List.getElem?_eq_getElem h') (Array.getElem?_eq_getElem (by omega))
   rw [List.getElem?_eq_none h', Array.getElem?_append_right (by omega)]
   simp only [Option.getD_none]
   have : ((Array.replicate (fn.ntmps - vs.size) undef)[s - vs.size]?).getD undef = undef := by
    rw [Array.getElem?_replicate]; split <;> rfl
   rw [this]
   exact .v _ _
  obtain ⟨i, hi⟩ := List.getElem?_of_mem hx
  have hob := hH.obj i x hi
  show ObjLow H.length x
  rw [← hH.n]
  exact hob.low
 have hGn : G.n = H.length := hH.n
 refine wpIn_seq (wpIn_mono (hx d G _ w hst) ?_)
 rintro e0 a0 w0 ⟨G0, s0, h0, k0, u1, u2, u3, rfl, rfl⟩
 refine wpIn_seq (wpIn_region ?_)
 show wpOpsIn _ 0 P _ _ ([0] ++ [1]) a0 w0
 refine E0 (Q2 := fun e a' w' => e = .normal ∧ Post (d + 1) ⟨n, fr0, H, own0, [], none⟩ G0 w0 (fun s => s = ⟨n, fr1, H, own0, [], none⟩) a' w') ?_ ?_ ?_ [0] a0 w0 (ho1 d G0 a0 w0 h0 [0] rfl)
 rotate_left
 ·rintro ch a1 w1 ⟨h, _⟩
  cases h
 ·rintro a1 w1 ⟨h, _⟩
  cases h
 rintro a1 w1 ⟨_, G1, s1', h1, k1, v1, v2, v3, rfl⟩
 refine ⟨fun _ _ => trivial, ?_⟩
 have hfr := h1.eval (.tmp s1)
 have hev' : St.ev ⟨n, fr1, H, own0, [], none⟩ (.tmp s1) = .fn (.func clo) [] (os.map fun o => .ptr o 0) := hev
 rw [hev'] at hfr
 generalize hfv : a1.eval (.tmp s1) = fv at hfr
 cases hfr with
 | fn _ _ _ _ va vc hna hnc' r1 r2 =>
  have hva : va = #[] := by
   apply Array.eq_empty_of_size_eq_zero
   simpa using hna
  subst hva
  have hex : ((⟨none, .defer ⟨.value (.tmp s1), #[], #[]⟩, ty, pos, aft, none⟩ : Oper).semAt (none : Option Nat) a1.eval).run P w1 = .ok (.defer { target := .fn (.func clo) vc, args := #[] }) w1 := by
   rw [Oper.semAt_none]
   show ((do pure (.defer (← resolve a1.eval ⟨.value (.tmp s1), #[], #[]⟩ ty))) : Sem Next).run P w1 = _
   simp [resolve, hfv, Deferred.ofValue]
  show Oper.uponIn _ _ _ _ _ _ _ (((⟨none, .defer ⟨.value (.tmp s1), #[], #[]⟩, ty, pos, aft, none⟩ : Oper).semAt (none : Option Nat) a1.eval).run P w1)
  rw [hex]
  -- the state behind the defer statement
  have hB : a1.defers = [] := by rw [h1.defs, C8 hTop]; rfl
  let D : Deferred := { target := .fn (.func clo) vc, args := #[] }
  have h2 : @StRel (Da (d + 1) [D]) (d + 1) G1 ⟨n, fr1, H, own0, [], none⟩ (({ a1 with defers := D :: a1.defers } : Act).put none undef) w1 := by
   refine @StRel.mk (Da (d + 1) [D]) _ _ _ _ _ h1.size h1.slots h1.heap ?_ h1.defsAt h1.defsNodup h1.defsGe (TagOK.to (GI1 := GI) (GI2 := Da (d + 1) [D]) rfl h1.tags) h1.rnd h1.low (Nat.le_refl _)
   show D :: a1.defers = [] ++ @Ob (Da (d + 1) [D]) (d + 1)
   rw [hB, Re (E := Da (d + 1) [D]) (d := d + 1) rfl]
   rfl
  have hw := hy d [D] G1 _ w1 h2
  show y.wpIn Fence.wide 0 P _ _ w1
  refine wpIn_mono hw ?_
  rintro e a2 w2 ⟨G2, s, h3, k2, t1, t2, t3, hdf, yv, U, O, r, hrec, hU, hlowU, hcrest, hres, hlow, hpost⟩
  have hup : s.up.length = H.length := t1
  have hlowU := hlowU (@StRel.low (Da (d + 1) [D]) _ _ _ _ _ h3)
  have k012 : Keep (d + 1) G w G2 w2 := (k0.trans k1).trans k2
  have hdefers : a2.defers = [D] := by
   rw [@StRel.defs (Da (d + 1) [D]) _ _ _ _ _ h3, hdf, Re (E := Da (d + 1) [D]) (d := d + 1) rfl]
   rfl
  have go : ∀ u : FrameMode, RecovM u yv → u ≠ .run → LeavesInM Fence.wide 0 P fn a2.tmps (fun e w' => ∃ (v : Value) (G' : Gh) (r : AV) (H' : List AObj), e = .returned v ∧ Rep G' w' (some (.ret d)) r v ∧ HeapRel G' H' w' ∧ TagOK G' w' ∧ Keep (d + 1) G w G' w' ∧ H'.length = H.length ∧ post r H') a2.defers u w2 := by
   intro u hu hur
   rw [hdefers]
   refine ⟨hur, .inr ⟨fun h => by simp [Fence.wide] at h, .func clo, vc, clo, #[] ++ vc, rfl, ?_, fun _ _ => trivial, ?_⟩⟩
   ·show (callFunc clo (#[] ++ vc)).run P w2 = _
    exact hcall _ _
   refine CallsDIn.mono (@jy (Da (d + 1) [D]) P (d + 1) clo fc crest idc nc a b ta tb pa pb fa fb (os.map fun o => .ptr o 0) (s.up ++ s.own) (U ++ O) hfc hbc hnc hrc (by simpa using hcl) ha hbn u yv hu hcrest G2 w2 (#[] ++ vc) (by simpa using hnc') (fun i z v hz hv => ?_) (@StRel.heap (Da (d + 1) [D]) _ _ _ _ _ h3) (@StRel.tags (Da (d + 1) [D]) _ _ _ _ _ h3) (Nat.le_refl _)) ?_
   ·rw [List.getElem?_map, Option.map_eq_some_iff] at hz
    obtain ⟨o, ho, rfl⟩ := hz
    exact Xa (r2 i _ v (by simp [ho]) (by simpa using hv)) k2.n k2.blk
   rintro e' u' w3 ⟨v, rfl, hset, G3, hH3, hT3, hk3⟩
   show LeavesInM Fence.wide 0 P fn a2.tmps _ [] (settle u') w3
   rw [hset]
   have h4 := @StRel.called (Da (d + 1) [D]) _ _ _ _ _ _ _ _ _ _ h3 hH3 hT3 hk3 rfl hU (fun o ho => by rw [hdf] at ho; cases ho) hlowU
   have h5 : StRel (d + 1) G3 ⟨s.sz, s.fr, U, O, [], none⟩ { tmps := a2.tmps, defers := [] } w3 := by
    have q1 := @StRel.size (Da (d + 1) [D]) _ _ _ _ _ h4
    have q2 := @StRel.slots (Da (d + 1) [D]) _ _ _ _ _ h4
    have q3 := @StRel.heap (Da (d + 1) [D]) _ _ _ _ _ h4
    refine ⟨q1, q2, q3, (by rw [C8 hTop]; rfl), (fun o ho => by cases ho), List.nodup_nil, (fun o ho => by cases ho), TagOK.to (GI1 := Da (d + 1) [D]) (GI2 := GI) rfl hT3, (fun l hl => by cases hl), hlowU, Nat.le_succ_of_le hTop⟩
   obtain ⟨v', G4, hrun, hr4, hH4, hT4, hk4, hn4⟩ := hres.run h5 hrs
   refine ⟨v', hrun, v', { G4 with n := U.length }, r, U, rfl, hr4.cut (by rw [hU, hup]; exact hlow), hH4, ⟨hT4.ex, hT4.obj, hT4.tail, hT4.globCut (by rw [hn4, hH3.n, List.length_append]; omega)⟩, ?_, by rw [hU, hup], hpost⟩
   have kk := (k012.trans (hk3.less (Nat.le_succ _))).trans hk4
   exact ⟨kk.fix, kk.slot, by rw [hGn, ← hup, ← hU]; exact Nat.le_refl _, kk.blk, kk.os, kk.tape, kk.output, kk.size, kk.old.cut (by rw [hn4, hH3.n, List.length_append]; omega)⟩
  cases hrec with
  | normal => exact go .returning .none (by simp)
  | ret => exact go .returning .none (by simp)
  | panic t l hone => exact go _ (.panic t l hone) (by simp)
/-- An end without a panic, where the closure leaves all as it is. -/
theorem KG.fin {P : Program} {rs : List ResultVar} {post : AV → List AObj → Prop} {e : Exit} (he : Recov e (.v .nilIface)) (hres : Res P ⟨sz, fr, up, own, [], none⟩ rs r)
  (hc : ∀ d, AW P (d + 1) crest ⟨nc, A5 b (.v .nilIface) (A5 a (.v .nilIface) (argsF caps)), up ++ own, [], [], none⟩ (fun e s2 => (e = .normal ∨ e = .ret) ∧ s2.defs = [] ∧ s2.up = up ++ own)) (hp : post r up) (hlow : Low n r := by simp) :
  KG P crest nc a b caps rs n post e ⟨sz, fr, up, own, [], none⟩ := ⟨rfl, .v .nilIface, up, own, r, he, rfl, fun h => h, hc, hres, hlow, hp⟩
/-- A panic, of which the closure turns objects of the activation alone. -/
theorem KG.finP {P : Program} {rs : List ResultVar} {post : AV → List AObj → Prop} {O : List AObj} {t : TypeId} {vs : List Value} (hone : ∀ v ∈ vs, (AV.v v).one = true) (hres : Res P ⟨sz, fr, up, O, [], none⟩ rs r)
  (hc : ∀ d, AW P (d + 1) crest ⟨nc, A5 b (.iface t (.agg (vs.map .v))) (A5 a (.iface t (.agg (vs.map .v))) (argsF caps)), up ++ own, [], [], none⟩ (fun e s2 => (e = .normal ∨ e = .ret) ∧ s2.defs = [] ∧ s2.up = up ++ O)) (hp : post r up) (hlow : Low n r := by simp) :
  KG P crest nc a b caps rs n post (.panic (Dw (.iface t (.agg vs.toArray)))) ⟨sz, fr, up, own, [], none⟩ := ⟨rfl, .iface t (.agg (vs.map .v)), up, O, r, .panic t vs hone, rfl, fun h => h, hc, hres, hlow, hp⟩
/-- A nil slice in a cell of an object of whoever waits is an empty one. -/
theorem StLe.nilUp {sz : Nat} {fr : Nat → AV} {up own : List AObj} {dfs : List Nat} {rnd : Option Nat} {n k j0 : Nat} {t : TypeId} {cs : List AV} (ho : up[n]? = some (.cells t cs)) (hc : cs[j0]? = some .nil) : StLe d ⟨sz, fr, up, own, dfs, rnd⟩ ⟨sz, fr, up.set n (.cells t (cs.set j0 (.slice true k []))), own, dfs, rnd⟩ := by
 have hlt := (List.getElem?_eq_some_iff.1 ho).1
 refine ⟨fun G a w h => ?_, by simp, rfl, rfl⟩
 refine ⟨h.size, h.slots, ⟨fun i x hx => ?_, ?_, h.heap.inj⟩, h.defs, fun o hoo => ?_, h.defsNodup, fun o hoo => by simpa using h.defsGe o hoo, h.tags, fun l hl => by simpa using h.rnd l hl, fun x hx => ?_, h.top⟩
 ·simp only at hx
  rw [← List.set_append_left _ _ hlt] at hx
  by_cases hi : i = n
  ·subst hi
   rw [List.getElem?_set_self (by simp; omega)] at hx
   injection hx with hx
   subst hx
   obtain ⟨vs, h1, h2, h3, h4⟩ := h.heap.obj i (.cells t cs) (A6 ho)
   refine ⟨vs, h1, by simpa using h2, fun j y u p q => ?_, by simpa using h4⟩
   by_cases hj : j = j0
   ·subst hj
    rw [List.getElem?_set_self (List.getElem?_eq_some_iff.1 hc).1] at p
    have e : y = .slice true k [] := by simpa using p.symm
    subst e
    exact (h3 j .nil u hc q).le (.nil _ _)
   rw [List.getElem?_set_ne (fun e => hj e.symm)] at p
   exact h3 j y u p q
  rw [List.getElem?_set_ne (fun e => hi e.symm)] at hx
  exact h.heap.obj i x hx
 ·have := h.heap.n; simpa using this
 ·have h1 := h.defsAt o hoo
  simp only at h1 ⊢
  rw [← List.set_append_left _ _ hlt]
  by_cases hi : o = n
  ·subst hi
   rw [A6 ho] at h1
   cases h1
  rw [List.getElem?_set_ne (fun e => hi e.symm)]
  exact h1
 simp only [List.length_set] at hx ⊢
 rcases List.mem_or_eq_of_mem_set hx with hx | rfl
 ·exact h.low x hx
 intro y hy
 rcases List.mem_or_eq_of_mem_set hy with hy | rfl
 ·exact h.low _ (List.mem_of_getElem? ho) y hy
 simp
theorem R.nilUp {ops : Array Oper} {sz : Nat} {fr : Nat → AV} {up up' own : List AObj} {dfs : List Nat} {rnd : Option Nat} {Q : St → Prop} {l : List Oper} (n j0 k : Nat) {t : TypeId} {cs : List AV} (ho : up[n]? = some (.cells t cs)) (hset : up.set n (.cells t (cs.set j0 (.slice true k []))) = up') (hr : ARun P d ops l ⟨sz, fr, up', own, dfs, rnd⟩ Q) (hc : cs[j0]? = some .nil := by rfl) :
  ARun P d ops l ⟨sz, fr, up, own, dfs, rnd⟩ Q := by
 subst hset
 exact ARun.le (StLe.nilUp ho hc) hr
/-- A call behind which the objects are some of many. -/
theorem R.callEx {ops : Array Oper} {sz s : Nat} {fr : Nat → AV} {up own : List AObj} {dfs : List Nat} {rnd : Option Nat} {Q : St → Prop} {rest : List Oper} {ty : TypeId} {pos : String} {aft : Array Edge} {ι : Type} {g : FuncId} {xs : List Operand} {ats : Array TypeId} {args : List AV} {r : AV} (up' own' : ι → List AObj) (hcall : ∀ args w, (callFunc g args).run P w = .ok (.enter g args) w)
  (h : ACall P g args (up ++ own) (fun y H' => y = r ∧ ∃ i, H' = up' i ++ own' i)) (hl : ∀ i, (up' i).length = up.length) (hlow : ∀ i, (∀ x ∈ up, ObjLow up.length x) → ∀ x ∈ up' i, ObjLow up.length x)
  (hr : ∀ i, ARun P d ops rest ⟨sz, A5 s r fr, up' i, own' i, dfs, rnd⟩ Q) (hd : ∀ i, ∀ o ∈ dfs, (up ++ own)[o]? = some .defs → (up' i ++ own' i)[o]? = some .defs := by simp)
  (ha : xs.map (A8 fr) = args := by exact sL0) (hs : Nat.blt s sz = true := by rfl) :
  ARun P d ops (⟨some s, .call ⟨.value (.func g), xs.toArray, ats⟩, ty, pos, aft, none⟩ :: rest) ⟨sz, fr, up, own, dfs, rnd⟩ Q := by
 refine ARun.op rfl (AOp.callG (st := ⟨sz, fr, up, own, dfs, rnd⟩) (Q := fun st => ∃ i, st = ⟨sz, A5 s r fr, up' i, own' i, dfs, rnd⟩) (f := .func g) (first := []) (caps := []) hcall rfl (by rw [← ha]; simp [St.ev] <;> rfl) h (by simpa using hs) (fun y H' _ hy => ?_)) (fun s' e => by obtain ⟨i, rfl⟩ := e; exact hr i)
 obtain ⟨rfl, i, rfl⟩ := hy
 exact ⟨up' i, own' i, rfl, hl i, fun h => by rw [hl i] at h ⊢; exact hlow i h, fun hdd o ho => hd i o ho (hdd o ho), i, rfl⟩
end
end Go.SX
namespace Go.SX
variable [GI : GlobInv]
open Classical
section
variable {P : Program} {d : Nat}
end
section
variable {P : Program} {d : Nat} {sz : Nat} {dfs : List Nat} {rnd : Option Nat} {l : List Oper} {fr : Nat → AV}
end
end Go.SX
namespace Go.SX
variable [GI : GlobInv]
open Classical
section
variable {P : Program} {d : Nat}
/-- n operations behind the k-th, in any order that their edges leave. -/
theorem q8 {F : Fence} {l : List Oper} {k n : Nat} {Q : Exit → Act → World → Prop} (hlen : l.length = k + 1 + n) (hfwd : ∀ (i : Nat) (o : Oper), l[i]? = some o → ∀ e ∈ o.after, Region.binds .any e = true → e.on < i)
  (A : (Nat → Bool) → Act) (W : (Nat → Bool) → World) (hext : ∀ B B' : Nat → Bool, (∀ j, j < n → B j = B' j) → A B = A B' ∧ W B = W B')
  (step : ∀ (q : Nat) (B : Nat → Bool), q < n → B q = false → (∀ (j : Nat) (o : Oper), (B j = true ∨ j = q) → j < n → l[k + 1 + j]? = some o → ∀ e ∈ o.after, Region.binds .any e = true → k < e.on → B (e.on - (k + 1)) = true) →
   ∀ K : Act → World → Prop, K (A (upd B q)) (W (upd B q)) → wpOpIn F 0 P l.toArray Q (k + 1 + q) K (A B) (W B))
  (hQ : Q .normal (A fun _ => true) (W fun _ => true)) : ∀ (fuel : Nat) (listed : Array Bool) (B : Nat → Bool), fuel = (List.range n).countP (fun j => !B j) → listed.size = l.length →
   (∀ j, j < l.length → listed.getD j false = (if j ≤ k then true else B (j - (k + 1)))) →
   (∀ (j : Nat) (o : Oper), B j = true → j < n → l[k + 1 + j]? = some o → ∀ e ∈ o.after, Region.binds .any e = true → k < e.on → B (e.on - (k + 1)) = true) →
   wpAnyIn F 0 P .any l.toArray Q fuel listed (A B) (W B) := by
 intro fuel
 induction fuel with
 | zero =>
  intro listed B hf hsz hL hcl
  have hall : ∀ j, j < n → B j = true := fun j hj => by
   have := List.countP_eq_zero.1 hf.symm j (List.mem_range.2 hj)
   simpa using this
  refine ⟨List.eq_nil_iff_forall_not_mem.2 fun j hj => ?_, ?_⟩
  ·obtain ⟨h1, o, ho, _⟩ := mem_ready.1 hj
   have hjl : j < l.length := by
    have := (Array.getElem?_eq_some_iff.1 ho).1
    simpa using this
   rw [Eu (by omega), hL j hjl] at h1
   split at h1
   ·cases h1
   rw [hall _ (by omega)] at h1; cases h1
  obtain ⟨e1, e2⟩ := hext B (fun _ => true) hall
  rw [e1, e2]; exact hQ
 | succ fuel ih =>
  intro listed B hf hsz hL hcl
  have hset : ∀ q, q < l.length → ∀ j, (listed.setIfInBounds q true).getD j false = if j = q then true else listed.getD j false := fun q hq j => by
   by_cases hj : j = q
   ·subst hj; simp [hsz, hq]
   rw [getD_set_ne false (Ne.symm hj), if_neg hj]
  refine ⟨fun h0 => ?_, fun q hq => ?_⟩
  ·obtain ⟨m, hm, hmin⟩ := Cv (S := fun j => j < l.length ∧ listed.getD j false = false) (by
    have : 0 < (List.range n).countP (fun j => !B j) := by omega
    obtain ⟨j, hj, hB⟩ := List.countP_pos_iff.1 this
    have hj := List.mem_range.1 hj
    refine ⟨k + 1 + j, by omega, ?_⟩
    rw [hL _ (by omega), if_neg (by omega), show k + 1 + j - (k + 1) = j by omega]
    simpa using hB)
   have : m ∈ Region.ready .any l.toArray listed := by
    refine mem_ready.2 ⟨by rw [Eu (by omega)]; exact hm.2, l[m]'hm.1, by simp [hm.1], fun e he hbd => ?_⟩
    have hlt := hfwd m _ (List.getElem?_eq_getElem hm.1) e he hbd
    cases hv : listed.getD e.on false with
    | true => rfl
    | false => have := hmin e.on ⟨by omega, hv⟩; omega
   rw [h0] at this
   cases this
  obtain ⟨h1, o, ho, he⟩ := mem_ready.1 hq
  have ho' : l[q]? = some o := by simpa using ho
  have hql := (List.getElem?_eq_some_iff.1 ho').1
  rw [Eu (by omega), hL q hql] at h1
  have hk : k < q := by
   refine Classical.byContradiction fun hn => ?_
   rw [if_pos (by omega)] at h1
   cases h1
  rw [if_neg (by omega)] at h1
  obtain ⟨p, rfl⟩ : ∃ p, q = k + 1 + p := ⟨q - (k + 1), by omega⟩
  rw [show k + 1 + p - (k + 1) = p by omega] at h1
  have hp : p < n := by omega
  have hq' : ∀ e ∈ o.after, Region.binds .any e = true → k < e.on → B (e.on - (k + 1)) = true := fun e h5 h6 h7 => by
   have h8 := he e h5 h6
   have h9 := hfwd _ _ ho' e h5 h6
   rwa [hL _ (by omega), if_neg (by omega)] at h8
  have hcl' : ∀ (j : Nat) (o : Oper), (B j = true ∨ j = p) → j < n → l[k + 1 + j]? = some o → ∀ e ∈ o.after, Region.binds .any e = true → k < e.on → B (e.on - (k + 1)) = true := fun j o' hj hjn hoj => by
   rcases hj with hj | rfl
   ·exact hcl j o' hj hjn hoj
   rw [ho'] at hoj; injection hoj with hoj; subst hoj; exact hq'
  refine step p B hp h1 hcl' _ (ih _ (upd B p) ?_ (by simpa using hsz) (fun j hj => ?_) (fun j o' hj hjn hoj e h5 h6 h7 => ?_))
  ·have hfl : ∀ m, p < m → (List.range m).countP (fun j => !B j) = (List.range m).countP (fun j => !upd B p j) + 1 := by
    intro m
    induction m with
    | zero => intro h; omega
    | succ m ihm =>
     intro h
     rw [List.range_succ, List.countP_append, List.countP_append]
     by_cases hm : p < m
     ·rw [ihm hm]
      have : upd B p m = B m := if_neg (by omega)
      simp only [List.countP_cons, List.countP_nil, this]
      omega
     have hpm : p = m := by omega
     subst hpm
     have e1 : ∀ x ∈ List.range p, upd B p x = B x := fun x hx => if_neg (by have := List.mem_range.1 hx; omega)
     have e2 : (List.range p).countP (fun j => !upd B p j) = (List.range p).countP (fun j => !B j) := List.countP_congr fun x hx => by rw [e1 x hx]
     have e3 : upd B p p = true := if_pos rfl
     simp only [List.countP_cons, List.countP_nil, e2, e3, h1]
     simp
   have := hfl n hp
   omega
  ·rw [hset _ hql, hL j hj]
   by_cases hj1 : j = k + 1 + p
   ·subst hj1
    rw [if_pos rfl, if_neg (by omega), show k + 1 + p - (k + 1) = p by omega]
    exact (if_pos rfl).symm
   rw [if_neg hj1]
   by_cases hjk : j ≤ k
   ·rw [if_pos hjk, if_pos hjk]
   rw [if_neg hjk, if_neg hjk]
   exact (if_neg (by omega)).symm
  have : B (e.on - (k + 1)) = true := by
   refine hcl' j o' ?_ hjn hoj e h5 h6 h7
   unfold upd at hj
   split at hj
   ·rename_i e; exact .inr e
   exact .inl hj
  show (if _ then true else _) = true
  split
  ·rfl
  exact this
def Q6 (l : List Oper) (n : Nat) : Bool :=
 (l.zipIdx.all fun x => x.1.after.toList.all fun e => !Region.binds .any e || Nat.blt e.on x.2) &&
 match l.drop n with
 | [_, oI, oS, oN, oF, oT] => C9 oI n && C9 oS n && C9 oN n && C9 oF n && C9 oT n && C9 oS (n + 1) && C9 oF (n + 3) && C9 oT (n + 4)
 | _ => false
theorem ATail.appendPut4 {l : List Oper} {n : Nat} {sz : Nat} {fr : Nat → AV} {up own : List AObj} {dfs : List Nat} {rnd : Option Nat} {Q : St → Prop} {ty ty2 ty3 tyn ty4 ty5 t e tf t' : TypeId} {pos pos2 pos3 posn pos4 pos5 : String} {aft aft2 aft3 aftn aft4 aft5 : Array Edge} {i : TypeInfo} {z : Value} {r s sp sn sf pp ti tv k kf o offp fi : Nat} {x : Operand} {o2 : Bool} {xs cs : List AV} {z0 yv : AV} {fs : Array Field} {fd : Field}
  (hdrop : [⟨some s, .call ⟨.builtin .append, #[.tmp r, x], #[t, t]⟩, ty, pos, aft, none⟩, ⟨some sp, .indexAddr t (.tmp s) (.tmp ti), ty2, pos2, aft2, none⟩, ⟨none, .store e (.tmp sp) (.tmp tv), ty3, pos3, aft3, none⟩, ⟨some sn, .nilCheck (.tmp pp), tyn, posn, aftn, none⟩, ⟨some sf, .fieldAddr tf (.tmp sn) fi, ty4, pos4, aft4, none⟩, ⟨none, .store t (.tmp sf) (.tmp s), ty5, pos5, aft5, none⟩] = l.drop n)
  (hok : Q6 l n = true)
  (hu : P.underlying t = some (.slice e)) (hi : P.info? e = some i) (hsze : ∀ w, (Go.sizeOf e).run P w = .ok k w) (hz : i.zero = some z) (hsz : i.size = k) (hzk : z.cells.size = k) (hk : 0 < k)
  (hb : F9 (fr r) true k xs) (hx : F9 (A8 fr x) o2 k [z0]) (hti : A8 fr (.tmp ti) = .v (.int .i64 (xs.length : Int))) (htv : A8 fr (.tmp tv) = yv) (hyk : yv.cells.length = k) (hy1 : ∀ c ∈ yv.cells, c.one = true)
  (hrs : s ≠ r) (hs : s < sz) (hsp : sp < sz) (hss : sp ≠ s) (htis : ti ≠ s) (htvs : tv ≠ s) (htvp : tv ≠ sp) (hl : (xs.length + 1) * i.bytes ≤ 140737488355328) (hl2 : xs.length + 1 ≤ 4611686018427387904)
  (hf : P.underlying tf = some (.struct fs)) (hfi : fs[fi]? = some fd) (hfsz : ∀ w, (Go.sizeOf fd.type).run P w = .ok kf w) (hkf : kf ≠ 0) (hpp : A8 fr (.tmp pp) = .ptr o offp) (ho : (up ++ own)[o]? = some (.cells t' cs)) (hoff : offp + fd.offset < cs.length) (hszt : ∀ w, (Go.sizeOf t).run P w = .ok 1 w)
  (d1 : sf ≠ s) (d2 : sf ≠ sp) (d3 : sf ≠ ti) (d4 : sf ≠ tv) (d5 : pp ≠ s) (d6 : pp ≠ sp) (d7 : ti ≠ sp) (hsf : sf < sz) (n1 : sn ≠ s) (n2 : sn ≠ sp) (n3 : sn ≠ ti) (n4 : sn ≠ tv) (n5 : sn ≠ sf) (hsn : sn < sz) (n6 : pp ≠ sn) (d8 : pp ≠ sf)
  (hr : ARun P d l.toArray [⟨some sn, .nilCheck (.tmp pp), tyn, posn, aftn, none⟩, ⟨some sf, .fieldAddr tf (.tmp sn) fi, ty4, pos4, aft4, none⟩, ⟨none, .store t (.tmp sf) (.tmp s), ty5, pos5, aft5, none⟩] ⟨sz, A5 sp .any (A5 s (.slice true k (xs ++ [yv])) (A5 r (fr r).strip fr)), up, own, dfs, rnd⟩ Q) :
  ATail P d l n ⟨sz, fr, up, own, dfs, rnd⟩ Q := by
 intro G a w hrel listed hsz0 hL
 have hlen : l.length = n + 6 := by
  have := congrArg List.length hdrop
  simp at this
  omega
 have get : ∀ j, ([⟨some s, .call ⟨.builtin .append, #[.tmp r, x], #[t, t]⟩, ty, pos, aft, none⟩, ⟨some sp, .indexAddr t (.tmp s) (.tmp ti), ty2, pos2, aft2, none⟩, ⟨none, .store e (.tmp sp) (.tmp tv), ty3, pos3, aft3, none⟩, ⟨some sn, .nilCheck (.tmp pp), tyn, posn, aftn, none⟩, ⟨some sf, .fieldAddr tf (.tmp sn) fi, ty4, pos4, aft4, none⟩, ⟨none, .store t (.tmp sf) (.tmp s), ty5, pos5, aft5, none⟩] : List Oper)[j]? = l[n + j]? := fun j => by rw [hdrop, List.getElem?_drop]
 have g0 := get 0
 have g1 := get 1
 have g2 := get 2
 have g3 := get 3
 have g4 := get 4
 have g5 := get 5
 simp only [List.getElem?_cons_zero, List.getElem?_cons_succ, Nat.add_zero] at g0 g1 g2 g3 g4 g5
 unfold Q6 at hok
 rw [← hdrop] at hok
 simp only [Bool.and_eq_true] at hok
 obtain ⟨hok1, ⟨⟨⟨⟨⟨⟨eI, eS⟩, eN⟩, eF⟩, eT⟩, eS1⟩, eF3⟩, eT4⟩ := hok
 have hfwd : ∀ (i : Nat) (o : Oper), l[i]? = some o → ∀ e ∈ o.after, Region.binds .any e = true → e.on < i := fun i o ho e he hbd => by
  have := List.all_eq_true.1 hok1 (o, i) (by rw [List.mem_zipIdx_iff_getElem?]; exact ho)
  have := List.all_eq_true.1 this e (by simpa using he)
  rw [hbd] at this
  simpa using this
 have hyr : Rep G w none yv (a.eval (.tmp tv)) := by
  have := hrel.eval (.tmp tv)
  have e : St.ev ⟨sz, fr, up, own, dfs, rnd⟩ (.tmp tv) = yv := htv
  rwa [e] at this
 obtain ⟨w1, ad, cap, G', hrun, hspot, hcells, hst, hkp⟩ := StRel.appendPut (P := P) (ty := ty) (st := ⟨sz, fr, up, own, dfs, rnd⟩) (x := x) hu hi hz hsz rfl hzk hk hb hx hrs hs hl hl2 hyr hyk hy1 hrel
 have hsa : s < a.tmps.size := by rw [hrel.size]; exact hs
 obtain ⟨vS, hvS⟩ : ∃ v, v = Value.slice (some ad) (xs.length + 1) cap := ⟨_, rfl⟩
 obtain ⟨pI, hpI⟩ : ∃ v, v = Value.pointer (some ⟨ad.block, ad.off + xs.length * k, none⟩) := ⟨_, rfl⟩
 obtain ⟨vF, hvF⟩ : ∃ v, v = Value.pointer (some ⟨G.blk o, offp + fd.offset, none⟩) := ⟨_, rfl⟩
 obtain ⟨a2, ha2⟩ : ∃ b, b = a.put (some s) vS := ⟨_, rfl⟩
 obtain ⟨us, hus⟩ : ∃ u, u = (a.eval (.tmp tv)).cells.toList := ⟨_, rfl⟩
 rw [← hvS, ← ha2, ← hus] at hst
 rw [← hus] at hkp
 have hsz2 : a2.tmps.size = sz := hst.size
 have hexec : (execOp a.eval (⟨some s, .call ⟨.builtin .append, #[.tmp r, x], #[t, t]⟩, ty, pos, aft, none⟩ : Oper)).run P w = .ok (.value vS) w1 := by
  have e : a.eval (.tmp r) = a.tmps.getD r undef := rfl
  rw [hvS]
  simp only [execOp, resolve, invoke, builtin, Sem.run_bind, Sem.run_pure, Result.andThen_ok, List.map_toArray, List.map_cons, List.map_nil, e, hrun]
 have ev2s : a2.eval (.tmp s) = vS := by rw [ha2]; exact Bd hsa
 have ev2ti : a2.eval (.tmp ti) = .int .i64 (xs.length : Int) := by rw [ha2, Cj htis]; exact Cd hrel hti
 have ev2tv : a2.eval (.tmp tv) = a.eval (.tmp tv) := by rw [ha2, Cj htvs]
 have ev2pp : a2.eval (.tmp pp) = .pointer (some ⟨G.blk o, offp, none⟩) := by
  rw [ha2, Cj d5]
  have := hrel.eval (.tmp pp)
  have e : St.ev ⟨sz, fr, up, own, dfs, rnd⟩ (.tmp pp) = .ptr o offp := hpp
  rw [e] at this
  generalize a.eval (.tmp pp) = u at this
  cases this; rfl
 -- where the slice's element lies is no object's block
 obtain ⟨hgb⟩ : Nonempty (G'.blk o = G.blk o) := ⟨hkp.blk o (by rw [hrel.heap.n]; exact (List.getElem?_eq_some_iff.1 ho).1)⟩
 obtain ⟨vs, h1, h2, _, h4⟩ := hst.heap.obj o _ ho
 have hcellA : ∀ q, q < cs.length → ((w1.setCells ad.block (ad.off + xs.length * k) us).cell? ⟨G.blk o, q, none⟩).isSome = true ∧ (w1.setCells ad.block (ad.off + xs.length * k) us).frozen? ⟨G.blk o, q, none⟩ = false := fun q hq => by
  rw [← hgb]
  obtain ⟨u, hu⟩ := hst.tags.ex _ _ (show G'.tag (G'.blk o) q ≠ .free by rw [h4 q hq]; simp)
  exact ⟨by rw [hu]; rfl, by simpa using hst.tags.obj _ _ _ (h4 q hq)⟩
 have hne : G.blk o ≠ ad.block := fun he => by
  have hrs' := hst.slots s
  have e1 : ((St.mk sz fr up own dfs rnd).set r (fr r).strip |>.set s (.slice true k (xs ++ [yv]))).fr s = .slice true k (xs ++ [yv]) := by simp [St.set, A5]
  rw [e1] at hrs'
  have e2 : a2.tmps.getD s undef = Value.slice (some ad) (xs.length + 1) cap := by rw [← hvS]; exact ev2s
  rw [e2] at hrs'
  generalize hxx : xs ++ [yv] = xx at hrs'
  cases hrs' with
  | slice _ _ _ _ _ _ _ f hs' hn' hc' hk' h1' hf' hr' ho' =>
   obtain ⟨c, hc⟩ : ∃ c, yv.cells[0]? = some c := by
    cases hyc : yv.cells with
    | nil => rw [hyc] at hyk; simp at hyk; omega
    | cons c _ => exact ⟨c, rfl⟩
   have := hf' xs.length yv 0 c (by rw [← hxx]; simp) hc
   have h5 : G'.tag ad.block (ad.off + xs.length * k) = .fix := this.1
   obtain ⟨u, hu⟩ := hst.tags.ex _ _ (show G'.tag ad.block (ad.off + xs.length * k) ≠ .free by rw [h5]; simp)
   unfold World.cell? at hu
   simp only at hu
   have h1' := h1
   rw [hgb, he] at h1'
   rw [h1'] at hu
   simp only [Option.isSome_none, Bool.false_eq_true, if_false] at hu
   have h6 := (Array.getElem?_eq_some_iff.1 hu).1
   have h7 := h4 (ad.off + xs.length * k) (by omega)
   rw [hgb, he, h5] at h7
   cases h7
 have hcell1 : (w1.cell? ⟨G.blk o, offp + fd.offset, none⟩).isSome = true ∧ w1.frozen? ⟨G.blk o, offp + fd.offset, none⟩ = false := by
  obtain ⟨b1, b2⟩ := hcellA _ hoff
  rw [World.cell?_setCells_out _ us _ w1 ⟨G.blk o, offp + fd.offset, none⟩ (fun hb _ => absurd hb hne)] at b1
  rw [World.frozen?_setCells] at b2
  exact ⟨b1, b2⟩
 have hvS1 : vS.oneCell' = true := by rw [hvS]; rfl
 have hvSc : vS.cells = #[vS] := by rw [hvS]; rfl
 have husl : us.length = k := by rw [hus, Array.length_toList, (hyr.cells hy1).1, hyk]
 have hus1 : ∀ u ∈ us, u.oneCell' = true := fun u hu => by
  rw [hus] at hu
  obtain ⟨q, hq⟩ := List.getElem?_of_mem hu
  have hq' : (a.eval (.tmp tv)).cells[q]? = some u := by rw [← Array.getElem?_toList]; exact hq
  have hql : q < yv.cells.length := by rw [← (hyr.cells hy1).1]; exact (Array.getElem?_eq_some_iff.1 hq').1
  have hc := List.getElem?_eq_getElem hql
  exact ((hyr.cells hy1).2 q _ u hc hq').one (hy1 _ (List.mem_of_getElem? hc))
 -- what stands when some of the five have run
 obtain ⟨vN, hvN⟩ : ∃ v, v = Value.pointer (some ⟨G.blk o, offp, none⟩) := ⟨_, rfl⟩
 let A : (Nat → Bool) → Act := fun B => bif B 3 then (bif B 2 then (bif B 0 then a2.put (some sp) pI else a2).put (some sn) vN else (bif B 0 then a2.put (some sp) pI else a2)).put (some sf) vF else (bif B 2 then (bif B 0 then a2.put (some sp) pI else a2).put (some sn) vN else (bif B 0 then a2.put (some sp) pI else a2))
 let W : (Nat → Bool) → World := fun B => bif B 4 then (bif B 1 then w1.setCells ad.block (ad.off + xs.length * k) us else w1).setCell ⟨G.blk o, offp + fd.offset, none⟩ vS else (bif B 1 then w1.setCells ad.block (ad.off + xs.length * k) us else w1)
 have evA : ∀ B q, q ≠ sp → q ≠ sn → q ≠ sf → (A B).eval (.tmp q) = a2.eval (.tmp q) := fun B q h1 h2 h3 => by
  show (bif B 3 then _ else _ : Act).eval (.tmp q) = _
  cases B 0 <;> cases B 2 <;> cases B 3 <;> simp only [cond_true, cond_false] <;> (repeat rw [Cj (by assumption)])
 have evAsp : ∀ B, B 0 = true → (A B).eval (.tmp sp) = pI := fun B hB => by
  have e : (a2.put (some sp) pI).eval (.tmp sp) = pI := Bd (by rw [hsz2]; exact hsp)
  show (bif B 3 then _ else _ : Act).eval (.tmp sp) = _
  rw [hB]
  cases B 2 <;> cases B 3 <;> simp only [cond_true, cond_false] <;> (repeat rw [Cj (by first | exact Ne.symm d2 | exact Ne.symm n2)]) <;> exact e
 have szA : ∀ i c, (bif c then (bif i then a2.put (some sp) pI else a2).put (some sn) vN else (bif i then a2.put (some sp) pI else a2) : Act).tmps.size = sz := fun i c => by
  cases i <;> cases c <;> simp [Act.put, hsz2]
 have evAsn : ∀ B, B 2 = true → (A B).eval (.tmp sn) = vN := fun B hB => by
  show (bif B 3 then _ else _ : Act).eval (.tmp sn) = _
  rw [hB]
  have e : ∀ i : Bool, ((bif i then a2.put (some sp) pI else a2).put (some sn) vN).eval (.tmp sn) = vN := fun i => Bd (by cases i <;> simp [Act.put, hsz2] <;> exact hsn)
  cases B 3 <;> simp only [cond_true, cond_false]
  ·exact e _
  rw [Cj n5]; exact e _
 have evAsf : ∀ B, B 3 = true → (A B).eval (.tmp sf) = vF := fun B hB => by
  show (bif B 3 then _ else _ : Act).eval (.tmp sf) = _
  rw [hB]
  exact Bd (by rw [szA]; exact hsf)
 have ev2sA : ∀ B, (A B).eval (.tmp s) = vS := fun B => by rw [evA B s (Ne.symm hss) (Ne.symm n1) (Ne.symm d1), ev2s]
 have xI : ∀ B w', (execOp (A B).eval (⟨some sp, .indexAddr t (.tmp s) (.tmp ti), ty2, pos2, aft2, none⟩ : Oper)).run P w' = .ok (.value pI) w' := fun B w' => by
  have hlt : (xs.length : Int) < ((xs.length + 1 : Nat) : Int) := by omega
  have e1 := ev2sA B
  have e2 := evA B ti d7 (Ne.symm n3) (Ne.symm d3)
  rw [hvS] at e1
  rw [ev2ti] at e2
  rw [hpI]
  have hadd : ad.add (xs.length * k) = ⟨ad.block, ad.off + xs.length * k, none⟩ := Ao hspot _
  rw [← hadd]
  simp [execOp, Instr.indexAt, asIntOf, e1, e2, run_underlying hu, hsze]
 have xN : ∀ B w', (execOp (A B).eval (⟨some sn, .nilCheck (.tmp pp), tyn, posn, aftn, none⟩ : Oper)).run P w' = .ok (.value vN) w' := fun B w' => by
  have e1 : (A B).eval (.tmp pp) = .pointer (some ⟨G.blk o, offp, none⟩) := by rw [← ev2pp]; exact evA B pp d6 n6 d8
  rw [hvN]
  simp [execOp, e1]
 have xF : ∀ B w', B 2 = true → (execOp (A B).eval (⟨some sf, .fieldAddr tf (.tmp sn) fi, ty4, pos4, aft4, none⟩ : Oper)).run P w' = .ok (.value vF) w' := fun B w' hB => by
  have e1 := evAsn B hB
  rw [hvN] at e1
  have e2 : ((⟨G.blk o, offp, none⟩ : Addr).add fd.offset) = ⟨G.blk o, offp + fd.offset, none⟩ := Ao rfl _
  rw [hvF, ← e2]
  simp [execOp, e1, Ez hf hfi hfsz hkf]
 let W' : Bool → Bool → World := fun b t => bif t then (bif b then w1.setCells ad.block (ad.off + xs.length * k) us else w1).setCell ⟨G.blk o, offp + fd.offset, none⟩ vS else (bif b then w1.setCells ad.block (ad.off + xs.length * k) us else w1)
 have xS : ∀ B t, B 0 = true → (execOp (A B).eval (⟨none, .store e (.tmp sp) (.tmp tv), ty3, pos3, aft3, none⟩ : Oper)).run P (W' false t) = .ok .skip (W' true t) := fun B tt hB => by
  have e1 := evAsp B hB
  rw [hpI] at e1
  have e2 : (A B).eval (.tmp tv) = a.eval (.tmp tv) := by rw [evA B tv htvp (Ne.symm n4) (Ne.symm d4), ev2tv]
  refine C3 hsze e1 (by rw [e2, (hyr.cells hy1).1, hyk]) ?_
  rw [e2, ← hus]
  have hw : ∀ j, j < us.length → ((W' false tt).cell? ⟨ad.block, ad.off + xs.length * k + 0 + j, none⟩).isSome = true ∧ (W' false tt).frozen? ⟨ad.block, ad.off + xs.length * k + 0 + j, none⟩ = false := fun j hj => by
   obtain ⟨b1, b2⟩ := hcells j (by rw [← husl]; exact hj)
   rw [Nat.add_zero]
   cases tt
   ·exact ⟨b1, b2⟩
   show ((w1.setCells (G.blk o) (offp + fd.offset) [vS]).cell? _).isSome = true ∧ (w1.setCells (G.blk o) (offp + fd.offset) [vS]).frozen? _ = false
   rw [World.cell?_setCells_out (G.blk o) [vS] (offp + fd.offset) w1 ⟨ad.block, ad.off + xs.length * k + j, none⟩ (fun hb _ => absurd (show G.blk o = ad.block from hb.symm) hne), World.frozen?_setCells]
   exact ⟨b1, b2⟩
  have := run_storeCells_cells (P := P) ad.block (ad.off + xs.length * k) us 0 (W' false tt) (fun j hj => (hw j hj).1) (fun j hj => (hw j hj).2) hus1
  rw [Nat.add_zero] at this
  rw [this]
  congr 1
  cases tt
  ·rfl
  exact Ev (x := ⟨G.blk o, offp + fd.offset, none⟩) hne us _ w1
 have xT : ∀ B b, B 3 = true → (execOp (A B).eval (⟨none, .store t (.tmp sf) (.tmp s), ty5, pos5, aft5, none⟩ : Oper)).run P (W' b false) = .ok .skip (W' b true) := fun B b hB => by
  have e1 := evAsf B hB
  rw [hvF] at e1
  have e2 := ev2sA B
  refine C3 hszt e1 (by rw [e2, hvSc]; rfl) ?_
  rw [e2, hvSc]
  have hw : ((W' b false).cell? ⟨G.blk o, offp + fd.offset, none⟩).isSome = true ∧ (W' b false).frozen? ⟨G.blk o, offp + fd.offset, none⟩ = false := by
   cases b
   ·exact hcell1
   exact hcellA _ hoff
  have := run_storeCells_cells (P := P) (G.blk o) (offp + fd.offset) [vS] 0 (W' b false) (fun j hj => by
   have : j = 0 := by simpa using hj
   subst this
   exact hw.1) (fun j hj => by
   have : j = 0 := by simpa using hj
   subst this
   exact hw.2) (fun v hv => by rw [List.mem_singleton.1 hv]; exact hvS1)
  exact this
 -- in the text's order
 let B2 : Nat → Bool := fun p => decide (p < 2)
 have hfin : StRel d G' ⟨sz, A5 sp .any (A5 s (.slice true k (xs ++ [yv])) (A5 r (fr r).strip fr)), up, own, dfs, rnd⟩ (A B2) (W B2) := hst.put (s := sp) (y := .any) (v := pI) hsp (.any _ _)
 have hQ : (fun e a' w' => e = Exit.normal ∧ Post d ⟨sz, fr, up, own, dfs, rnd⟩ G w Q a' w') .normal (A fun _ => true) (W fun _ => true) := by
  have h5 := hr G' _ _ hfin [n + 3, n + 4, n + 5] (by simp [← g3, ← g4, ← g5])
  rw [wpOpsIn_cons] at h5
  have h6 := D5 (by intro c h; cases h) (xN B2 _) (Ct (by simpa using g3.symm) rfl h5)
  rw [wpOpsIn_cons] at h6
  have h7 := D5 (by intro c h; cases h) (xF (fun p => decide (p < 3)) _ rfl) (Ct (by simpa using g4.symm) rfl h6)
  rw [wpOpsIn_cons] at h7
  have h8 := E7 (by intro c h; cases h) (xT (fun p => decide (p < 4)) true rfl) (Ct (by simpa using g5.symm) rfl h7)
  obtain ⟨_, h9⟩ : Exit.normal = Exit.normal ∧ _ := h8
  exact ⟨rfl, h9.next hkp rfl rfl rfl⟩
 have hF : Fr ((St.mk sz fr up own dfs rnd).rnd.map G.blk) = Fr (rnd.map G.blk) := rfl
 rw [show l.length - n = 5 + 1 by omega]
 refine ⟨fun h0 => ?_, fun q hq => ?_⟩
 ·have : n ∈ Region.ready .any l.toArray listed := by
   refine mem_ready.2 ⟨by rw [Eu (by omega), hL n (by omega)]; simp, _, by simpa using g0.symm, fun e he hbd => ?_⟩
   have hlt := hfwd n _ g0.symm e he hbd
   rw [hL e.on (by omega)]
   simpa using hlt
  rw [h0] at this
  cases this
 obtain ⟨q1, oq, hoq, heq⟩ := mem_ready.1 hq
 have hoq' : l[q]? = some oq := by simpa using hoq
 have hql := (List.getElem?_eq_some_iff.1 hoq').1
 rw [Eu (by omega), hL q hql] at q1
 have hnq : n ≤ q := by simpa using q1
 have hno : ∀ o', l[q]? = some o' → C9 o' n = true → False := fun o' h1 h2 => by
  obtain ⟨e, h5, h6, h7⟩ := E6 h2
  rw [hoq'] at h1
  injection h1 with h1
  subst h1
  have := heq e h5 h6
  rw [h7, hL n (by omega)] at this
  simp at this
 have hqn : q = n := by
  refine Classical.byContradiction fun hne => ?_
  have c4 : q = n + 1 ∨ q = n + 2 ∨ q = n + 3 ∨ q = n + 4 ∨ q = n + 5 := by omega
  rcases c4 with rfl | rfl | rfl | rfl | rfl
  ·exact hno _ g1.symm eI
  ·exact hno _ g2.symm eS
  ·exact hno _ g3.symm eN
  ·exact hno _ g4.symm eF
  exact hno _ g5.symm eT
 subst hqn
 refine As (by simpa using g0.symm) rfl (Ai (by intro c h; cases h) hexec ?_)
 show wpAnyIn _ 0 P .any l.toArray _ 5 (listed.setIfInBounds q true) (a.put (some s) vS) w1
 rw [← ha2]
 have edge : ∀ {B : Nat → Bool} {p j m : Nat} {o' : Oper}, (∀ (j : Nat) (o : Oper), (B j = true ∨ j = p) → j < 5 → l[q + 1 + j]? = some o → ∀ e ∈ o.after, Region.binds .any e = true → q < e.on → B (e.on - (q + 1)) = true) → (B j = true ∨ j = p) → j < 5 → l[q + 1 + j]? = some o' → C9 o' (q + 1 + m) = true → B m = true := fun {B p j m o'} hc hj hj5 ho he => by
  obtain ⟨e, h5, h6, h7⟩ := E6 he
  have := hc j o' hj hj5 ho e h5 h6 (by omega)
  rwa [h7, show q + 1 + m - (q + 1) = m by omega] at this
 refine q8 (k := q) (n := 5) (by omega) hfwd A W (fun B B' h => ?_) (fun p B hp hB hc K hK => ?_) hQ 5 _ (fun _ => false) (by decide) (by simpa using hsz0) (fun j hj => ?_) (fun j o h => by cases h)
 ·constructor
  ·show (bif B 3 then _ else _) = (bif B' 3 then _ else _)
   rw [h 0 (by omega), h 2 (by omega), h 3 (by omega)]
  show (bif B 4 then _ else _) = (bif B' 4 then _ else _)
  rw [h 1 (by omega), h 4 (by omega)]
 ·have c5 : p = 0 ∨ p = 1 ∨ p = 2 ∨ p = 3 ∨ p = 4 := by omega
  have f1 : B 1 = true → B 0 = true := fun h => edge (j := 1) hc (.inl h) (by omega) (by rw [show q + 1 + 1 = q + 2 by omega]; exact g2.symm) eS1
  have f3 : B 3 = true → B 2 = true := fun h => edge (j := 3) hc (.inl h) (by omega) (by rw [show q + 1 + 3 = q + 4 by omega]; exact g4.symm) (by rw [show q + 1 + 2 = q + 3 by omega]; exact eF3)
  have f4 : B 4 = true → B 3 = true := fun h => edge (j := 4) hc (.inl h) (by omega) (by rw [show q + 1 + 4 = q + 5 by omega]; exact g5.symm) (by rw [show q + 1 + 3 = q + 4 by omega]; exact eT4)
  rcases c5 with rfl | rfl | rfl | rfl | rfl
  ·refine As (by simpa using g1.symm) rfl (Ai (by intro c h; cases h) (xI B _) ?_)
   have e : (A B).put (some sp) pI = A (upd B 0) := by
    show (bif B 3 then _ else _ : Act).put (some sp) pI = (bif B 3 then _ else _)
    rw [show upd B 0 0 = true from rfl, show upd B 0 2 = B 2 from rfl, hB]
    cases B 2 <;> cases B 3 <;> simp only [cond_true, cond_false]
    ·exact Fu d2
    ·exact Fu n2
    rw [Fu d2, Fu n2]
   show K ((A B).put (some sp) pI) _
   rw [e]; exact hK
  ·have h0 : B 0 = true := edge (j := 1) (p := 1) hc (.inr rfl) (by omega) (by rw [show q + 1 + 1 = q + 2 by omega]; exact g2.symm) eS1
   have e1 : W B = W' false (B 4) := by
    show (bif B 4 then _ else _) = (bif B 4 then _ else _)
    rw [hB]
   rw [e1]
   exact As (by simpa using g2.symm) rfl (Br (by intro c h; cases h) (xS B (B 4) h0) hK)
  ·refine As (by simpa using g3.symm) rfl (Ai (by intro c h; cases h) (xN B _) ?_)
   have h3 : B 3 = false := by cases h : B 3 with | false => rfl | true => rw [f3 h] at hB; cases hB
   have e : (A B).put (some sn) vN = A (upd B 2) := by
    show (bif B 3 then _ else _ : Act).put (some sn) vN = (bif B 3 then _ else _)
    rw [show upd B 2 2 = true from rfl, show upd B 2 0 = B 0 from rfl, hB, h3]
    rfl
   show K ((A B).put (some sn) vN) _
   rw [e]; exact hK
  ·have h2 : B 2 = true := edge (j := 3) (p := 3) hc (.inr rfl) (by omega) (by rw [show q + 1 + 3 = q + 4 by omega]; exact g4.symm) (by rw [show q + 1 + 2 = q + 3 by omega]; exact eF3)
   refine As (by simpa using g4.symm) rfl (Ai (by intro c h; cases h) (xF B _ h2) ?_)
   have e : (A B).put (some sf) vF = A (upd B 3) := by
    show (bif B 3 then _ else _ : Act).put (some sf) vF = (bif upd B 3 3 then _ else _)
    rw [show upd B 3 3 = true from rfl, show upd B 3 0 = B 0 from rfl, show upd B 3 2 = B 2 from rfl, hB]
    rfl
   show K ((A B).put (some sf) vF) _
   rw [e]; exact hK
  have h3 : B 3 = true := edge (j := 4) (p := 4) hc (.inr rfl) (by omega) (by rw [show q + 1 + 4 = q + 5 by omega]; exact g5.symm) (by rw [show q + 1 + 3 = q + 4 by omega]; exact eT4)
  have e1 : W B = W' (B 1) false := by
   show (bif B 4 then _ else _) = _
   rw [hB]
  rw [e1]
  exact As (by simpa using g5.symm) rfl (Br (by intro c h; cases h) (xT B (B 1) h3) hK)
 have hsl : (listed.setIfInBounds q true).getD j false = if j = q then true else listed.getD j false := by
  by_cases hj2 : j = q
  ·subst hj2; simp [hsz0, hql]
  rw [getD_set_ne false (Ne.symm hj2), if_neg hj2]
 rw [hsl, hL j hj]
 by_cases hj2 : j = q
 ·simp [hj2]
 rw [if_neg hj2]
 by_cases hj3 : j ≤ q
 ·rw [if_pos hj3]; simp; omega
 rw [if_neg hj3]; simp; omega
end
section
variable {P : Program} {d : Nat} {sz : Nat} {dfs : List Nat} {rnd : Option Nat} {l : List Oper} {fr : Nat → AV}
/-- At the end: append of one element, which is laid at once; the slice is stored in an object's cell. -/
theorem Y.appendPut4 {KP : List PanicEntry → St → Prop} {n : Nat} {up own : (Nat → Bool) → List AObj} {tn : List Nat} {Q : St → Prop} {U O : List AObj} {ty ty2 ty3 tyn ty4 ty5 t e tf t' : TypeId} {pos pos2 pos3 posn pos4 pos5 : String} {aft aft2 aft3 aftn aft4 aft5 : Array Edge} {i : TypeInfo} {z : Value} {r s sp sn sf pp ti tv k kf o offp fi : Nat} {x : Operand} {o2 : Bool} {b y z' : AV} {xs zs cs : List AV} {z0 yv : AV} {fs : Array Field} {fd : Field} {m : Int}
  (hok : Q6 l n = true)
  (hu : P.underlying t = some (.slice e)) (hi : P.info? e = some i) (hsze : ∀ w, (Go.sizeOf e).run P w = .ok k w) (hszt : ∀ w, (Go.sizeOf t).run P w = .ok 1 w) (hf : P.underlying tf = some (.struct fs))
  (ho : (U ++ O)[o]? = some (.cells t' cs)) (hl : (xs.length + 1) * i.bytes ≤ 140737488355328) (hl2 : xs.length + 1 ≤ 4611686018427387904)
  (hr : ARun P d l.toArray [⟨some sn, .nilCheck (.tmp pp), tyn, posn, aftn, none⟩, ⟨some sf, .fieldAddr tf (.tmp sn) fi, ty4, pos4, aft4, none⟩, ⟨none, .store t (.tmp sf) (.tmp s), ty5, pos5, aft5, none⟩] ⟨sz, A5 sp .any (A5 s (.slice true k zs) (A5 r z' fr)), U, O, dfs, rnd⟩ Q)
  (hU : up (fun p => decide (p < tn.length)) = U := by rfl) (hO : own (fun p => decide (p < tn.length)) = O := by rfl)
  (hz : i.zero = some z := by rfl) (hsz : i.size = k := by rfl) (hzk : z.cells.size = k := by rfl) (hk : 0 < k := by decide) (hb : fr r = b := by exact sL0) (hb' : F9 b true k xs := by first | exact .inl rfl | exact .inr ⟨rfl, rfl⟩)
  (hx : A8 fr x = y := by exact sL0) (hx' : F9 y o2 k [z0] := by first | exact .inl rfl | exact .inr ⟨rfl, rfl⟩)
  (hti : A8 fr (.tmp ti) = .v (.int .i64 m) := by exact sL0) (hm : m = (xs.length : Int) := by simp) (htv : A8 fr (.tmp tv) = yv := by exact sL0) (hyk : yv.cells.length = k := by simp [go_sem]) (hy1 : yv.cells.all AV.one = true := by simp [go_sem])
  (hfi : fs[fi]? = some fd := by rfl) (hfsz : ∀ w, (Go.sizeOf fd.type).run P w = .ok kf w := by assumption) (hkf : kf ≠ 0 := by decide) (hpp : A8 fr (.tmp pp) = .ptr o offp := by exact sL0) (hoff : offp + fd.offset < cs.length := by simp)
  (hz' : b.strip = z' := by exact sL0) (hzs : xs ++ [yv] = zs := by first | rfl | (simp only [go_sem, ↓reduceIte, Nat.reduceEqDiff, Nat.reduceAdd] <;> rfl))
  (hs : Nat.blt s sz = true := by rfl) (hsp : Nat.blt sp sz = true := by rfl) (hsf : Nat.blt sf sz = true := by rfl) (hsn : Nat.blt sn sz = true := by rfl)
  (hd : (s ≠ r ∧ sp ≠ s ∧ ti ≠ s ∧ tv ≠ s ∧ tv ≠ sp ∧ sf ≠ s ∧ sf ≠ sp ∧ sf ≠ ti ∧ sf ≠ tv ∧ pp ≠ s ∧ pp ≠ sp ∧ ti ≠ sp ∧ sn ≠ s ∧ sn ≠ sp ∧ sn ≠ ti ∧ sn ≠ tv ∧ sn ≠ sf ∧ pp ≠ sn ∧ pp ≠ sf) := by decide) :
  ChainY P d l sz up own dfs rnd KP (fun l' f => l' = l.drop n → ATail P d l n ⟨sz, f, up (fun p => decide (p < tn.length)), own (fun p => decide (p < tn.length)), dfs, rnd⟩ Q) [] [⟨some s, .call ⟨.builtin .append, #[.tmp r, x], #[t, t]⟩, ty, pos, aft, none⟩, ⟨some sp, .indexAddr t (.tmp s) (.tmp ti), ty2, pos2, aft2, none⟩, ⟨none, .store e (.tmp sp) (.tmp tv), ty3, pos3, aft3, none⟩, ⟨some sn, .nilCheck (.tmp pp), tyn, posn, aftn, none⟩, ⟨some sf, .fieldAddr tf (.tmp sn) fi, ty4, pos4, aft4, none⟩, ⟨none, .store t (.tmp sf) (.tmp s), ty5, pos5, aft5, none⟩] fr := by
 intro hdrop
 subst hU
 subst hO
 subst hb
 subst hx
 subst hm
 subst hz'
 subst hzs
 obtain ⟨e1, e2, e3, e4, e5, e6, e7, e8, e9, e10, e11, e12, m1, m2, m3, m4, m5, m6, m7⟩ := hd
 exact ATail.appendPut4 hdrop hok hu hi hsze hz hsz hzk hk hb' hx' hti htv hyk (fun c hc => List.all_eq_true.1 hy1 c hc) e1 (by simpa using hs) (by simpa using hsp) e2 e3 e4 e5 hl hl2 hf hfi hfsz hkf hpp ho hoff hszt e6 e7 e8 e9 e10 e11 e12 (by simpa using hsf) m1 m2 m3 m4 m5 (by simpa using hsn) m6 m7 hr
end
end Go.SX
namespace Go.SX
variable [GI : GlobInv]
open Classical
section
variable {P : Program} {d : Nat}
theorem Og {ops : Array Oper} {i : Nat} {o : Oper} {st st' : St} {Q : Exit → Act → World → Prop} {K : Act → World → Prop} {G : Gh} {a : Act} {w : World} (ho : ops[i]? = some o) (hg : o.guard = none) (hn : st.rnd = none) (h : AOp P d o st (· = st')) (hr : StRel d G st a w)
  (hk : ∀ G1 a1 w1, StRel d G1 st' a1 w1 → Keep d G w G1 w1 → K a1 w1) : wpOpIn Fence.wide 0 P ops Q i K a w := by
 have h1 := h G a w hr Q
 rw [hn] at h1
 refine As ho hg (El ?_ h1)
 rintro a1 w1 ⟨G1, s, hs, k, _, _, _, rfl⟩
 exact hk G1 a1 w1 hs k
def ac (e0 e1 e2 e3 : Array Edge) : Bool :=
 (e0.toList.all fun e => !Region.binds .any e) && (e1.toList.all fun e => !Region.binds .any e || Nat.beq e.on 0) && (e2.toList.all fun e => !Region.binds .any e || Nat.beq e.on 0) && (e3.toList.all fun e => !Region.binds .any e || Nat.blt e.on 3) &&
 (e1.toList.any fun e => Region.binds .any e && Nat.beq e.on 0) && (e2.toList.any fun e => Region.binds .any e && Nat.beq e.on 0) && (e3.toList.any fun e => Region.binds .any e && Nat.beq e.on 0) && (e3.toList.any fun e => Region.binds .any e && Nat.beq e.on 1) && (e3.toList.any fun e => Region.binds .any e && Nat.beq e.on 2)
theorem W.flip {id : Nat} {y : Code} {sz : Nat} {fr : Nat → AV} {up own : List AObj} {dfs : List Nat} {K : Exit → St → Prop} {s2 s3 t : Nat} {ta t1 t2 t3 : TypeId} {pa p1 p2 p3 : String} {e0 e1 e2 e3 : Array Edge} (hm : P.follows .mixedOrders = true) (hok : ac e0 e1 e2 e3 = true)
  (hz : ∀ w, (zeroValue t).run P w = .ok (.bool false) w) (hsz : ∀ w, (sizeOf t).run P w = .ok 1 w) (hagg : ∀ w, (isAgg t).run P w = .ok false w)
  (h : ∀ b : Bool, AW P d y ⟨sz, A5 s3 (.v (.bool b)) (A5 s2 (.ptr (up.length + own.length) 0) fr), up, own ++ [.cells t [.v (.bool b)]], dfs, none⟩ K) (hs2 : Nat.blt s2 sz = true := by rfl) (hs3 : Nat.blt s3 sz = true := by rfl) :
  AW P d (.seq (.region id #[⟨some s2, .alloc t, ta, pa, e0, none⟩, ⟨none, .store t (.tmp s2) (.const (.bool true)), t1, p1, e1, none⟩, ⟨none, .store t (.tmp s2) (.const (.bool false)), t2, p2, e2, none⟩, ⟨some s3, .load t (.tmp s2), t3, p3, e3, none⟩] true) y) ⟨sz, fr, up, own, dfs, none⟩ K := by
 refine AW.seq ?_
 unfold ac at hok
 simp only [Bool.and_eq_true] at hok
 obtain ⟨⟨⟨⟨⟨⟨⟨⟨f0, f1⟩, f2⟩, f3⟩, g1⟩, g2⟩, g30⟩, g31⟩, g32⟩ := hok
 have has : ∀ {es : Array Edge} {m : Nat}, (es.toList.any fun e => Region.binds .any e && Nat.beq e.on m) = true → ∃ e ∈ es, Region.binds .any e = true ∧ e.on = m := fun {es m} h => by
  obtain ⟨e, he, h⟩ := List.any_eq_true.1 h
  rw [Bool.and_eq_true] at h
  exact ⟨e, by simpa using he, h.1, Nat.eq_of_beq_eq_true h.2⟩
 have k0 : ∀ e ∈ e0, Region.binds .any e = true → False := fun e he hb => by
  have := List.all_eq_true.1 f0 e (by simpa using he)
  rw [hb] at this
  cases this
 have k1 : ∀ e ∈ e1, Region.binds .any e = true → e.on = 0 := fun e he hb => by
  have := List.all_eq_true.1 f1 e (by simpa using he)
  rw [hb] at this
  exact Nat.eq_of_beq_eq_true (by simpa using this)
 have k2 : ∀ e ∈ e2, Region.binds .any e = true → e.on = 0 := fun e he hb => by
  have := List.all_eq_true.1 f2 e (by simpa using he)
  rw [hb] at this
  exact Nat.eq_of_beq_eq_true (by simpa using this)
 have k3 : ∀ e ∈ e3, Region.binds .any e = true → e.on < 3 := fun e he hb => by
  have := List.all_eq_true.1 f3 e (by simpa using he)
  rw [hb] at this
  simpa using this
 have q2 : s2 < sz := by simpa using hs2
 have q3 : s3 < sz := by simpa using hs3
 intro G0 a0 w0 hr0
 refine wpIn_region_any hm ?_
 obtain ⟨ops, hops⟩ : ∃ ops : Array Oper, ops = #[⟨some s2, .alloc t, ta, pa, e0, none⟩, ⟨none, .store t (.tmp s2) (.const (.bool true)), t1, p1, e1, none⟩, ⟨none, .store t (.tmp s2) (.const (.bool false)), t2, p2, e2, none⟩, ⟨some s3, .load t (.tmp s2), t3, p3, e3, none⟩] := ⟨_, rfl⟩
 rw [← hops]
 have o0 : ops[0]? = some ⟨some s2, .alloc t, ta, pa, e0, none⟩ := by rw [hops]; rfl
 have o1 : ops[1]? = some ⟨none, .store t (.tmp s2) (.const (.bool true)), t1, p1, e1, none⟩ := by rw [hops]; rfl
 have o2 : ops[2]? = some ⟨none, .store t (.tmp s2) (.const (.bool false)), t2, p2, e2, none⟩ := by rw [hops]; rfl
 have o3 : ops[3]? = some ⟨some s3, .load t (.tmp s2), t3, p3, e3, none⟩ := by rw [hops]; rfl
 have hz4 : ops.size = 4 := by rw [hops]; rfl
 have hq4 : ∀ {listed : Array Bool} {q : Nat}, q ∈ Region.ready .any ops listed → q = 0 ∨ q = 1 ∨ q = 2 ∨ q = 3 := fun {listed q} hq => by
  obtain ⟨_, o, ho, _⟩ := mem_ready.1 hq
  have := (Array.getElem?_eq_some_iff.1 ho).1
  omega
 rw [hz4, show Array.replicate 4 false = #[false, false, false, false] from rfl]
 let S : Bool → St := fun b => ⟨sz, A5 s2 (.ptr (up.length + own.length) 0) fr, up, own ++ [.cells t [.v (.bool b)]], dfs, none⟩
 let QQ : Exit → Act → World → Prop := fun e => Post d ⟨sz, fr, up, own, dfs, none⟩ G0 w0 (Il (fun s => AW P d y s K) K e)
 have hown : ∀ b, (S b).own[own.length]? = some (.cells t [.v (.bool b)]) := fun b => by simp [S]
 have hps : ∀ b, (S b).ev (.tmp s2) = .ptr ((S b).up.length + own.length) 0 := fun b => by simp [S, St.ev, A8, A5, AV.strip]
 have st : ∀ b c : Bool, ∀ {ty pos aft}, AOp P d ⟨none, .store t (.tmp s2) (.const (.bool c)), ty, pos, aft, none⟩ (S b) (· = S c) := fun b c {ty pos aft} => by
  refine AOp.eqTo (AOp.storeOwn (y := .v (.bool c)) hsz (hps b) (hown b) rfl rfl rfl (by simp [AV.cells])) ?_
  simp only [S]
  congr 1
  simp [Ax, AV.cells]
 have ld : ∀ b : Bool, AOp P d ⟨some s3, .load t (.tmp s2), t3, p3, e3, none⟩ (S b) (· = (S b).set s3 (.v (.bool b))) := fun b => by
  refine AOp.ofV (y := .v (.bool b)) rfl q3 (OpV.loadObj (y := .v (.bool b)) (t' := t) (cs := [.v (.bool b)]) hagg (hps b) ?_ rfl)
  simp [S]
 -- all three have run
 have ph3 : ∀ (b : Bool) (G : Gh) (a : Act) (w : World), StRel d G (S b) a w → Keep d G0 w0 G w → wpAnyIn Fence.wide 0 P .any ops QQ 1 #[true, true, true, false] a w := fun b G a w hr hk => by
  refine ⟨fun h0 => ?_, fun q hq => ?_⟩
  ·have : 3 ∈ Region.ready .any ops #[true, true, true, false] := mem_ready.2 ⟨rfl, _, o3, fun e he hb => by
    have := k3 e he hb
    have h3 : e.on = 0 ∨ e.on = 1 ∨ e.on = 2 := by omega
    rcases h3 with h | h | h <;> rw [h] <;> rfl⟩
   rw [h0] at this; cases this
  have h1 := (mem_ready.1 hq).1
  rcases hq4 hq with rfl | rfl | rfl | rfl
  ·cases h1
  ·cases h1
  ·cases h1
  refine Og o3 rfl rfl (ld b) hr fun G1 a1 w1 hr1 hk1 => ?_
  refine ⟨List.eq_nil_iff_forall_not_mem.2 fun j hj => ?_, G1, _, hr1, hk.trans hk1, rfl, rfl, rfl, h b⟩
  have h1 := (mem_ready.1 hj).1
  rcases hq4 hj with rfl | rfl | rfl | rfl <;> cases h1
 have ph2 : ∀ (b c : Bool) (G : Gh) (a : Act) (w : World), StRel d G (S b) a w → Keep d G0 w0 G w → wpAnyIn Fence.wide 0 P .any ops QQ 2 #[true, c, !c, false] a w := fun b c G a w hr hk => by
  refine ⟨fun h0 => ?_, fun q hq => ?_⟩
  ·cases c with
   | true =>
    have : 2 ∈ Region.ready .any ops #[true, true, false, false] := mem_ready.2 ⟨rfl, _, o2, fun e he hb => by rw [k2 e he hb]; rfl⟩
    rw [show (!true) = false from rfl] at h0
    rw [h0] at this; cases this
   | false =>
    have : 1 ∈ Region.ready .any ops #[true, false, true, false] := mem_ready.2 ⟨rfl, _, o1, fun e he hb => by rw [k1 e he hb]; rfl⟩
    rw [show (!false) = true from rfl] at h0
    rw [h0] at this; cases this
  obtain ⟨h1, o, ho, he⟩ := mem_ready.1 hq
  rcases hq4 hq with rfl | rfl | rfl | rfl
  ·cases h1
  ·cases c with
   | true => cases h1
   | false => exact Og o1 rfl rfl (st b true) hr fun G1 a1 w1 hr1 hk1 => ph3 true G1 a1 w1 hr1 (hk.trans hk1)
  ·cases c with
   | true => exact Og o2 rfl rfl (st b false) hr fun G1 a1 w1 hr1 hk1 => ph3 false G1 a1 w1 hr1 (hk.trans hk1)
   | false => cases h1
  rw [o3] at ho
  injection ho with ho
  subst ho
  cases c with
  | true =>
   obtain ⟨e, a1, a2, a3⟩ := has g32
   have := he e a1 a2
   rw [a3] at this; cases this
  | false =>
   obtain ⟨e, a1, a2, a3⟩ := has g31
   have := he e a1 a2
   rw [a3] at this; cases this
 have ph1 : ∀ (G : Gh) (a : Act) (w : World), StRel d G (S false) a w → Keep d G0 w0 G w → wpAnyIn Fence.wide 0 P .any ops QQ 3 #[true, false, false, false] a w := fun G a w hr hk => by
  refine ⟨fun h0 => ?_, fun q hq => ?_⟩
  ·have : 1 ∈ Region.ready .any ops #[true, false, false, false] := mem_ready.2 ⟨rfl, _, o1, fun e he hb => by rw [k1 e he hb]; rfl⟩
   rw [h0] at this; cases this
  obtain ⟨h1, o, ho, he⟩ := mem_ready.1 hq
  rcases hq4 hq with rfl | rfl | rfl | rfl
  ·cases h1
  ·exact Og o1 rfl rfl (st false true) hr fun G1 a1 w1 hr1 hk1 => ph2 true true G1 a1 w1 hr1 (hk.trans hk1)
  ·exact Og o2 rfl rfl (st false false) hr fun G1 a1 w1 hr1 hk1 => ph2 false false G1 a1 w1 hr1 (hk.trans hk1)
  rw [o3] at ho
  injection ho with ho
  subst ho
  obtain ⟨e, a1, a2, a3⟩ := has g31
  have := he e a1 a2
  rw [a3] at this; cases this
 have hdr := hr0.drew ({ w0 with drawn := w0.drawn + 1 }).drawn
 refine ⟨fun h0 => ?_, fun q hq => ?_⟩
 ·have : 0 ∈ Region.ready .any ops #[false, false, false, false] := mem_ready.2 ⟨rfl, _, o0, fun e he hb => (k0 e he hb).elim⟩
  rw [h0] at this; cases this
 obtain ⟨h1, o, ho, he⟩ := mem_ready.1 hq
 rcases hq4 hq with rfl | rfl | rfl | rfl
 ·refine Og (st' := S false) o0 rfl rfl ?_ (hr0.drew _) fun G1 a1 w1 hr1 hk1 => ph1 G1 a1 w1 hr1 (((Dz G0 w0 _).keep d).trans hk1)
  exact AOp.alloc (z := .bool false) hz rfl rfl q2
 ·rw [o1] at ho
  injection ho with ho
  subst ho
  obtain ⟨e, a1, a2, a3⟩ := has g1
  have := he e a1 a2
  rw [a3] at this; cases this
 ·rw [o2] at ho
  injection ho with ho
  subst ho
  obtain ⟨e, a1, a2, a3⟩ := has g2
  have := he e a1 a2
  rw [a3] at this; cases this
 rw [o3] at ho
 injection ho with ho
 subst ho
 obtain ⟨e, a1, a2, a3⟩ := has g30
 have := he e a1 a2
 rw [a3] at this; cases this
end
end Go.SX
namespace Go.SX
variable [GI : GlobInv]
variable {P : Program} {d : Nat} {l0 : List Oper} {kd : Nat} {ops : Array Oper} {rest : List Oper} {sz : Nat} {fr : Nat → AV} {up own : List AObj} {dfs : List Nat} {rnd : Option Nat} {Q : St → Prop} {E : List Oper → (Nat → AV) → Prop} {s : Nat} {ty : TypeId} {pos : String} {aft : Array Edge}
variable {dst : Option Nat} {st : St} {t u : TypeId} {x : Operand} {y : AV}
/-- A type that is no interface. -/
def Concrete (P : Program) (t : TypeId) : Prop := ∃ e, P.underlying t = some e ∧ ∀ ms, e ≠ .interface ms
theorem Concrete.of {fs : Array Field} (h : P.underlying t = some (.struct fs)) : Concrete P t := ⟨_, h, fun _ => by simp⟩
theorem OpV.makeIface {dst : Option Nat} {gd : Option (Nat × Bool)} {st : St} {t : TypeId} {x : Operand} {y : AV} (hu : Concrete P t) (hx : st.ev x = y) : OpV P d ⟨dst, .makeInterface t x, ty, pos, aft, gd⟩ st (.iface t y) :=
 OpV.pure (by intro c h; cases h) fun G a w h => by
  obtain ⟨e, hu, hn⟩ := hu
  refine ⟨.iface t (a.eval x), ?_, .iface _ _ _ _ (hx ▸ h.eval x)⟩
  cases e <;> first | exact absurd rfl (hn _) | (simp [execOp, Instr.makeInterface, run_underlying hu])
theorem OpV.neqNil {dst : Option Nat} {gd : Option (Nat × Bool)} {st : St} {t u tp : TypeId} {x : Operand} {y : AV} {ms : Array (String × TypeId)} (hu : P.underlying t = some (.interface ms)) (hx : st.ev x = .iface tp y) : OpV P d ⟨dst, .binOp .neq t x (.const .nilIface) u, ty, pos, aft, gd⟩ st (.v (.bool true)) :=
 OpV.pure (by intro c h; cases h) fun G a w h => by
  refine ⟨.bool true, ?_, .v _ _⟩
  have h1 := hx ▸ h.eval x
  generalize hv : a.eval x = v at h1
  cases h1 with
  | iface _ _ _ u hr =>
   have hq : ∀ n : Nat, (Op.equalIn (n + 1) t (.iface tp u) .nilIface).run P w = .ok false w := fun n => by simp [Op.equalIn, run_underlying hu]
   have he : a.eval (.const .nilIface) = .nilIface := rfl
   simp [execOp, hv, he, eqGuard, binOp, Op.equal, Op.maxDepth, hq 9999]
theorem OpV.neqNil0 {dst : Option Nat} {gd : Option (Nat × Bool)} {st : St} {t u : TypeId} {x : Operand} {ms : Array (String × TypeId)} (hu : P.underlying t = some (.interface ms)) (hx : st.ev x = .v .nilIface) : OpV P d ⟨dst, .binOp .neq t x (.const .nilIface) u, ty, pos, aft, gd⟩ st (.v (.bool false)) :=
 OpV.pure (by intro c h; cases h) fun G a w h => by
  refine ⟨.bool false, ?_, .v _ _⟩
  have h1 := Cd h hx
  have hq : ∀ n : Nat, (Op.equalIn (n + 1) t .nilIface .nilIface).run P w = .ok true w := fun n => by simp [Op.equalIn, run_underlying hu]
  have he : a.eval (.const .nilIface) = .nilIface := rfl
  simp [execOp, h1, he, eqGuard, binOp, Op.equal, Op.maxDepth, hq 9999]
theorem OpV.typeAssert {dst : Option Nat} {gd : Option (Nat × Bool)} {st : St} {t u : TypeId} {x : Operand} {y : AV} (hu : Concrete P u) (hx : st.ev x = .iface u y) : OpV P d ⟨dst, .typeAssert x t u false, ty, pos, aft, gd⟩ st y :=
 OpV.pure (by intro c h; cases h) fun G a w h => by
  obtain ⟨e, hu, hn⟩ := hu
  have h1 := hx ▸ h.eval x
  generalize hv : a.eval x = v at h1
  cases h1 with
  | iface _ _ _ z hr =>
   refine ⟨z, ?_, hr⟩
   cases e <;> first | exact absurd rfl (hn _) | (simp [execOp, hv, Instr.typeAssert, run_underlying hu])
theorem R.makeIface (hu : Concrete P t) (hr : ARun P d ops rest ⟨sz, A5 s (.iface t y) fr, up, own, dfs, rnd⟩ Q) (hx : A8 fr x = y := by exact sL0) (hs : Nat.blt s sz = true := by rfl) :
  ARun P d ops (⟨some s, .makeInterface t x, ty, pos, aft, none⟩ :: rest) ⟨sz, fr, up, own, dfs, rnd⟩ Q := ARun.vv rfl rfl hs (OpV.makeIface hu hx) hr
theorem D.makeIface (hu : Concrete P t) (hr : ADraw P d l0 sz up own dfs rnd E kd rest (A5 s (.iface t y) fr)) (hx : A8 fr x = y := by exact sL0) (hs : Nat.blt s sz = true := by rfl) :
  ADraw P d l0 sz up own dfs rnd E (kd + 1) (⟨some s, .makeInterface t x, ty, pos, aft, none⟩ :: rest) fr :=
 ⟨s, _, rfl, by simpa using hs, fun f0 hag => (OpV.makeIface hu ((agr hag (by simp [Op.operands, Call.operands])).trans hx)), hr⟩
theorem R.neqNil {tp : TypeId} {ms : Array (String × TypeId)} (hu : P.underlying t = some (.interface ms)) (hr : ARun P d ops rest ⟨sz, A5 s (.v (.bool true)) fr, up, own, dfs, rnd⟩ Q) (hx : A8 fr x = .iface tp y := by exact sL0) (hs : Nat.blt s sz = true := by rfl) :
  ARun P d ops (⟨some s, .binOp .neq t x (.const .nilIface) u, ty, pos, aft, none⟩ :: rest) ⟨sz, fr, up, own, dfs, rnd⟩ Q := ARun.vv rfl rfl hs (OpV.neqNil hu hx) hr
theorem R.neqNil0 {ms : Array (String × TypeId)} (hu : P.underlying t = some (.interface ms)) (hr : ARun P d ops rest ⟨sz, A5 s (.v (.bool false)) fr, up, own, dfs, rnd⟩ Q) (hx : A8 fr x = .v .nilIface := by exact sL0) (hs : Nat.blt s sz = true := by rfl) :
  ARun P d ops (⟨some s, .binOp .neq t x (.const .nilIface) u, ty, pos, aft, none⟩ :: rest) ⟨sz, fr, up, own, dfs, rnd⟩ Q := ARun.vv rfl rfl hs (OpV.neqNil0 hu hx) hr
theorem D.typeAssert (hu : Concrete P u) (hr : ADraw P d l0 sz up own dfs rnd E kd rest (A5 s y fr)) (hx : A8 fr x = .iface u y := by exact sL0) (hs : Nat.blt s sz = true := by rfl) :
  ADraw P d l0 sz up own dfs rnd E (kd + 1) (⟨some s, .typeAssert x t u false, ty, pos, aft, none⟩ :: rest) fr :=
 ⟨s, _, rfl, by simpa using hs, fun f0 hag => (OpV.typeAssert hu ((agr hag (by simp [Op.operands, Call.operands])).trans hx)), hr⟩
theorem D.makeFunc {f : Fn} {as cs : List Operand} {ya yc : List AV} (hr : ADraw P d l0 sz up own dfs rnd E kd rest (A5 s (.fn f ya yc) fr)) (ha : as.map (A8 fr) = ya := by exact sL0) (hc : cs.map (A8 fr) = yc := by exact sL0) (hs : Nat.blt s sz = true := by rfl) :
  ADraw P d l0 sz up own dfs rnd E (kd + 1) (⟨some s, .makeFunc f as.toArray cs.toArray, ty, pos, aft, none⟩ :: rest) fr :=
 ⟨s, _, rfl, by simpa using hs, fun f0 hag => OpV.makeFunc ((Tp hag (by intro x hx; simp [Op.operands, Call.operands, hx])).trans ha) ((Tp hag (by intro x hx; simp [Op.operands, Call.operands, hx])).trans hc), hr⟩
end Go.SX
namespace Go.SX
variable [GI : GlobInv]
open Classical
section
variable {P : Program} {d : Nat}
/-- The end of a region, and the region behind it. -/
def ARun2 (P : Program) (d : Nat) (l l2 l' : List Oper) (st : St) (Q : St → Prop) : Prop :=
 ∀ (G : Gh) (a : Act) (w : World), StRel d G st a w → ∀ idx : List Nat, idx.map (fun i => l.toArray[i]?) = l'.map some →
  wpOpsIn (Fr (st.rnd.map G.blk)) 0 P l.toArray (fun e a' w' => e = .normal ∧ wpOpsIn (Fr (st.rnd.map G.blk)) 0 P l2.toArray (fun e a'' w'' => e = .normal ∧ Post d st G w Q a'' w'') (List.range l2.toArray.size) a' w') idx a w
theorem ARun2.put {l : List Oper} {sz : Nat} {fr : Nat → AV} {up own : List AObj} {dfs : List Nat} {rnd : Option Nat} {Q : St → Prop} {ty ty2 ty3 tyn ty4 ty5 t e tf t' : TypeId} {pos pos2 pos3 posn pos4 pos5 : String} {aft aft2 aft3 aftn aft4 aft5 : Array Edge} {i : TypeInfo} {z : Value} {r s sp sn sf pp ti tv k kf o offp fi : Nat} {x : Operand} {o2 : Bool} {xs cs : List AV} {z0 yv : AV} {fs : Array Field} {fd : Field}
  (hu : P.underlying t = some (.slice e)) (hi : P.info? e = some i) (hsze : ∀ w, (Go.sizeOf e).run P w = .ok k w) (hz : i.zero = some z) (hsz : i.size = k) (hzk : z.cells.size = k) (hk : 0 < k)
  (hb : F9 (fr r) true k xs) (hx : F9 (A8 fr x) o2 k [z0]) (hti : A8 fr (.tmp ti) = .v (.int .i64 (xs.length : Int))) (htv : A8 fr (.tmp tv) = yv) (hyk : yv.cells.length = k) (hy1 : ∀ c ∈ yv.cells, c.one = true)
  (hrs : s ≠ r) (hs : s < sz) (hsp : sp < sz) (hss : sp ≠ s) (htis : ti ≠ s) (htvs : tv ≠ s) (htvp : tv ≠ sp) (hl : (xs.length + 1) * i.bytes ≤ 140737488355328) (hl2 : xs.length + 1 ≤ 4611686018427387904)
  (hf : P.underlying tf = some (.struct fs)) (hfi : fs[fi]? = some fd) (hfsz : ∀ w, (Go.sizeOf fd.type).run P w = .ok kf w) (hkf : kf ≠ 0) (hpp : A8 fr (.tmp pp) = .ptr o offp) (ho : (up ++ own)[o]? = some (.cells t' cs)) (hoff : offp + fd.offset < cs.length) (hszt : ∀ w, (Go.sizeOf t).run P w = .ok 1 w)
  (d1 : sf ≠ s) (d2 : sf ≠ sp) (d3 : sf ≠ ti) (d4 : sf ≠ tv) (d5 : pp ≠ s) (d6 : pp ≠ sp) (d7 : ti ≠ sp) (hsf : sf < sz) (n1 : sn ≠ s) (n2 : sn ≠ sp) (n3 : sn ≠ ti) (n4 : sn ≠ tv) (n5 : sn ≠ sf) (hsn : sn < sz) (n6 : pp ≠ sn) (d8 : pp ≠ sf)
  (hr : ARun P d l.toArray [⟨some sn, .nilCheck (.tmp pp), tyn, posn, aftn, none⟩, ⟨some sf, .fieldAddr tf (.tmp sn) fi, ty4, pos4, aft4, none⟩, ⟨none, .store t (.tmp sf) (.tmp s), ty5, pos5, aft5, none⟩] ⟨sz, A5 sp .any (A5 s (.slice true k (xs ++ [yv])) (A5 r (fr r).strip fr)), up, own, dfs, rnd⟩ Q) :
  ARun2 P d l [⟨some sp, .indexAddr t (.tmp s) (.tmp ti), ty2, pos2, aft2, none⟩, ⟨none, .store e (.tmp sp) (.tmp tv), ty3, pos3, aft3, none⟩] [⟨some s, .call ⟨.builtin .append, #[.tmp r, x], #[t, t]⟩, ty, pos, aft, none⟩, ⟨some sn, .nilCheck (.tmp pp), tyn, posn, aftn, none⟩, ⟨some sf, .fieldAddr tf (.tmp sn) fi, ty4, pos4, aft4, none⟩, ⟨none, .store t (.tmp sf) (.tmp s), ty5, pos5, aft5, none⟩] ⟨sz, fr, up, own, dfs, rnd⟩ Q := by
 intro G a w hrel idx hidx
 have hyr : Rep G w none yv (a.eval (.tmp tv)) := by
  have := hrel.eval (.tmp tv)
  have e : St.ev ⟨sz, fr, up, own, dfs, rnd⟩ (.tmp tv) = yv := htv
  rwa [e] at this
 obtain ⟨w1, ad, cap, G', hrun, hspot, hcells, hst, hkp⟩ := StRel.appendPut (P := P) (ty := ty) (st := ⟨sz, fr, up, own, dfs, rnd⟩) (x := x) hu hi hz hsz rfl hzk hk hb hx hrs hs hl hl2 hyr hyk hy1 hrel
 have hsa : s < a.tmps.size := by rw [hrel.size]; exact hs
 obtain ⟨vS, hvS⟩ : ∃ v, v = Value.slice (some ad) (xs.length + 1) cap := ⟨_, rfl⟩
 obtain ⟨pI, hpI⟩ : ∃ v, v = Value.pointer (some ⟨ad.block, ad.off + xs.length * k, none⟩) := ⟨_, rfl⟩
 obtain ⟨vF, hvF⟩ : ∃ v, v = Value.pointer (some ⟨G.blk o, offp + fd.offset, none⟩) := ⟨_, rfl⟩
 obtain ⟨a2, ha2⟩ : ∃ b, b = a.put (some s) vS := ⟨_, rfl⟩
 obtain ⟨us, hus⟩ : ∃ u, u = (a.eval (.tmp tv)).cells.toList := ⟨_, rfl⟩
 rw [← hvS, ← ha2, ← hus] at hst
 rw [← hus] at hkp
 have hsz2 : a2.tmps.size = sz := hst.size
 have hexec : (execOp a.eval (⟨some s, .call ⟨.builtin .append, #[.tmp r, x], #[t, t]⟩, ty, pos, aft, none⟩ : Oper)).run P w = .ok (.value vS) w1 := by
  have e : a.eval (.tmp r) = a.tmps.getD r undef := rfl
  rw [hvS]
  simp only [execOp, resolve, invoke, builtin, Sem.run_bind, Sem.run_pure, Result.andThen_ok, List.map_toArray, List.map_cons, List.map_nil, e, hrun]
 have ev2s : a2.eval (.tmp s) = vS := by rw [ha2]; exact Bd hsa
 have ev2ti : a2.eval (.tmp ti) = .int .i64 (xs.length : Int) := by rw [ha2, Cj htis]; exact Cd hrel hti
 have ev2tv : a2.eval (.tmp tv) = a.eval (.tmp tv) := by rw [ha2, Cj htvs]
 have ev2pp : a2.eval (.tmp pp) = .pointer (some ⟨G.blk o, offp, none⟩) := by
  rw [ha2, Cj d5]
  have := hrel.eval (.tmp pp)
  have e : St.ev ⟨sz, fr, up, own, dfs, rnd⟩ (.tmp pp) = .ptr o offp := hpp
  rw [e] at this
  generalize a.eval (.tmp pp) = u at this
  cases this; rfl
 -- where the slice's element lies is no object's block
 obtain ⟨hgb⟩ : Nonempty (G'.blk o = G.blk o) := ⟨hkp.blk o (by rw [hrel.heap.n]; exact (List.getElem?_eq_some_iff.1 ho).1)⟩
 obtain ⟨vs, h1, h2, _, h4⟩ := hst.heap.obj o _ ho
 have hcellA : ∀ q, q < cs.length → ((w1.setCells ad.block (ad.off + xs.length * k) us).cell? ⟨G.blk o, q, none⟩).isSome = true ∧ (w1.setCells ad.block (ad.off + xs.length * k) us).frozen? ⟨G.blk o, q, none⟩ = false := fun q hq => by
  rw [← hgb]
  obtain ⟨u, hu⟩ := hst.tags.ex _ _ (show G'.tag (G'.blk o) q ≠ .free by rw [h4 q hq]; simp)
  exact ⟨by rw [hu]; rfl, by simpa using hst.tags.obj _ _ _ (h4 q hq)⟩
 have hne : G.blk o ≠ ad.block := fun he => by
  have hrs' := hst.slots s
  have e1 : ((St.mk sz fr up own dfs rnd).set r (fr r).strip |>.set s (.slice true k (xs ++ [yv]))).fr s = .slice true k (xs ++ [yv]) := by simp [St.set, A5]
  rw [e1] at hrs'
  have e2 : a2.tmps.getD s undef = Value.slice (some ad) (xs.length + 1) cap := by rw [← hvS]; exact ev2s
  rw [e2] at hrs'
  generalize hxx : xs ++ [yv] = xx at hrs'
  cases hrs' with
  | slice _ _ _ _ _ _ _ f hs' hn' hc' hk' h1' hf' hr' ho' =>
   obtain ⟨c, hc⟩ : ∃ c, yv.cells[0]? = some c := by
    cases hyc : yv.cells with
    | nil => rw [hyc] at hyk; simp at hyk; omega
    | cons c _ => exact ⟨c, rfl⟩
   have := hf' xs.length yv 0 c (by rw [← hxx]; simp) hc
   have h5 : G'.tag ad.block (ad.off + xs.length * k) = .fix := this.1
   obtain ⟨u, hu⟩ := hst.tags.ex _ _ (show G'.tag ad.block (ad.off + xs.length * k) ≠ .free by rw [h5]; simp)
   unfold World.cell? at hu
   simp only at hu
   have h1' := h1
   rw [hgb, he] at h1'
   rw [h1'] at hu
   simp only [Option.isSome_none, Bool.false_eq_true, if_false] at hu
   have h6 := (Array.getElem?_eq_some_iff.1 hu).1
   have h7 := h4 (ad.off + xs.length * k) (by omega)
   rw [hgb, he, h5] at h7
   cases h7
 have hcell1 : (w1.cell? ⟨G.blk o, offp + fd.offset, none⟩).isSome = true ∧ w1.frozen? ⟨G.blk o, offp + fd.offset, none⟩ = false := by
  obtain ⟨b1, b2⟩ := hcellA _ hoff
  rw [World.cell?_setCells_out _ us _ w1 ⟨G.blk o, offp + fd.offset, none⟩ (fun hb _ => absurd hb hne)] at b1
  rw [World.frozen?_setCells] at b2
  exact ⟨b1, b2⟩
 have hvS1 : vS.oneCell' = true := by rw [hvS]; rfl
 have hvSc : vS.cells = #[vS] := by rw [hvS]; rfl
 have husl : us.length = k := by rw [hus, Array.length_toList, (hyr.cells hy1).1, hyk]
 have hus1 : ∀ u ∈ us, u.oneCell' = true := fun u hu => by
  rw [hus] at hu
  obtain ⟨q, hq⟩ := List.getElem?_of_mem hu
  have hq' : (a.eval (.tmp tv)).cells[q]? = some u := by rw [← Array.getElem?_toList]; exact hq
  have hql : q < yv.cells.length := by rw [← (hyr.cells hy1).1]; exact (Array.getElem?_eq_some_iff.1 hq').1
  have hc := List.getElem?_eq_getElem hql
  exact ((hyr.cells hy1).2 q _ u hc hq').one (hy1 _ (List.mem_of_getElem? hc))
 -- what stands when some of the five have run
 obtain ⟨vN, hvN⟩ : ∃ v, v = Value.pointer (some ⟨G.blk o, offp, none⟩) := ⟨_, rfl⟩
 let A : (Nat → Bool) → Act := fun B => bif B 3 then (bif B 2 then (bif B 0 then a2.put (some sp) pI else a2).put (some sn) vN else (bif B 0 then a2.put (some sp) pI else a2)).put (some sf) vF else (bif B 2 then (bif B 0 then a2.put (some sp) pI else a2).put (some sn) vN else (bif B 0 then a2.put (some sp) pI else a2))
 let W : (Nat → Bool) → World := fun B => bif B 4 then (bif B 1 then w1.setCells ad.block (ad.off + xs.length * k) us else w1).setCell ⟨G.blk o, offp + fd.offset, none⟩ vS else (bif B 1 then w1.setCells ad.block (ad.off + xs.length * k) us else w1)
 have evA : ∀ B q, q ≠ sp → q ≠ sn → q ≠ sf → (A B).eval (.tmp q) = a2.eval (.tmp q) := fun B q h1 h2 h3 => by
  show (bif B 3 then _ else _ : Act).eval (.tmp q) = _
  cases B 0 <;> cases B 2 <;> cases B 3 <;> simp only [cond_true, cond_false] <;> (repeat rw [Cj (by assumption)])
 have evAsp : ∀ B, B 0 = true → (A B).eval (.tmp sp) = pI := fun B hB => by
  have e : (a2.put (some sp) pI).eval (.tmp sp) = pI := Bd (by rw [hsz2]; exact hsp)
  show (bif B 3 then _ else _ : Act).eval (.tmp sp) = _
  rw [hB]
  cases B 2 <;> cases B 3 <;> simp only [cond_true, cond_false] <;> (repeat rw [Cj (by first | exact Ne.symm d2 | exact Ne.symm n2)]) <;> exact e
 have szA : ∀ i c, (bif c then (bif i then a2.put (some sp) pI else a2).put (some sn) vN else (bif i then a2.put (some sp) pI else a2) : Act).tmps.size = sz := fun i c => by
  cases i <;> cases c <;> simp [Act.put, hsz2]
 have evAsn : ∀ B, B 2 = true → (A B).eval (.tmp sn) = vN := fun B hB => by
  show (bif B 3 then _ else _ : Act).eval (.tmp sn) = _
  rw [hB]
  have e : ∀ i : Bool, ((bif i then a2.put (some sp) pI else a2).put (some sn) vN).eval (.tmp sn) = vN := fun i => Bd (by cases i <;> simp [Act.put, hsz2] <;> exact hsn)
  cases B 3 <;> simp only [cond_true, cond_false]
  ·exact e _
  rw [Cj n5]; exact e _
 have evAsf : ∀ B, B 3 = true → (A B).eval (.tmp sf) = vF := fun B hB => by
  show (bif B 3 then _ else _ : Act).eval (.tmp sf) = _
  rw [hB]
  exact Bd (by rw [szA]; exact hsf)
 have ev2sA : ∀ B, (A B).eval (.tmp s) = vS := fun B => by rw [evA B s (Ne.symm hss) (Ne.symm n1) (Ne.symm d1), ev2s]
 have xI : ∀ B w', (execOp (A B).eval (⟨some sp, .indexAddr t (.tmp s) (.tmp ti), ty2, pos2, aft2, none⟩ : Oper)).run P w' = .ok (.value pI) w' := fun B w' => by
  have hlt : (xs.length : Int) < ((xs.length + 1 : Nat) : Int) := by omega
  have e1 := ev2sA B
  have e2 := evA B ti d7 (Ne.symm n3) (Ne.symm d3)
  rw [hvS] at e1
  rw [ev2ti] at e2
  rw [hpI]
  have hadd : ad.add (xs.length * k) = ⟨ad.block, ad.off + xs.length * k, none⟩ := Ao hspot _
  rw [← hadd]
  simp [execOp, Instr.indexAt, asIntOf, e1, e2, run_underlying hu, hsze]
 have xN : ∀ B w', (execOp (A B).eval (⟨some sn, .nilCheck (.tmp pp), tyn, posn, aftn, none⟩ : Oper)).run P w' = .ok (.value vN) w' := fun B w' => by
  have e1 : (A B).eval (.tmp pp) = .pointer (some ⟨G.blk o, offp, none⟩) := by rw [← ev2pp]; exact evA B pp d6 n6 d8
  rw [hvN]
  simp [execOp, e1]
 have xF : ∀ B w', B 2 = true → (execOp (A B).eval (⟨some sf, .fieldAddr tf (.tmp sn) fi, ty4, pos4, aft4, none⟩ : Oper)).run P w' = .ok (.value vF) w' := fun B w' hB => by
  have e1 := evAsn B hB
  rw [hvN] at e1
  have e2 : ((⟨G.blk o, offp, none⟩ : Addr).add fd.offset) = ⟨G.blk o, offp + fd.offset, none⟩ := Ao rfl _
  rw [hvF, ← e2]
  simp [execOp, e1, Ez hf hfi hfsz hkf]
 let W' : Bool → Bool → World := fun b t => bif t then (bif b then w1.setCells ad.block (ad.off + xs.length * k) us else w1).setCell ⟨G.blk o, offp + fd.offset, none⟩ vS else (bif b then w1.setCells ad.block (ad.off + xs.length * k) us else w1)
 have xS : ∀ B t, B 0 = true → (execOp (A B).eval (⟨none, .store e (.tmp sp) (.tmp tv), ty3, pos3, aft3, none⟩ : Oper)).run P (W' false t) = .ok .skip (W' true t) := fun B tt hB => by
  have e1 := evAsp B hB
  rw [hpI] at e1
  have e2 : (A B).eval (.tmp tv) = a.eval (.tmp tv) := by rw [evA B tv htvp (Ne.symm n4) (Ne.symm d4), ev2tv]
  refine C3 hsze e1 (by rw [e2, (hyr.cells hy1).1, hyk]) ?_
  rw [e2, ← hus]
  have hw : ∀ j, j < us.length → ((W' false tt).cell? ⟨ad.block, ad.off + xs.length * k + 0 + j, none⟩).isSome = true ∧ (W' false tt).frozen? ⟨ad.block, ad.off + xs.length * k + 0 + j, none⟩ = false := fun j hj => by
   obtain ⟨b1, b2⟩ := hcells j (by rw [← husl]; exact hj)
   rw [Nat.add_zero]
   cases tt
   ·exact ⟨b1, b2⟩
   show ((w1.setCells (G.blk o) (offp + fd.offset) [vS]).cell? _).isSome = true ∧ (w1.setCells (G.blk o) (offp + fd.offset) [vS]).frozen? _ = false
   rw [World.cell?_setCells_out (G.blk o) [vS] (offp + fd.offset) w1 ⟨ad.block, ad.off + xs.length * k + j, none⟩ (fun hb _ => absurd (show G.blk o = ad.block from hb.symm) hne), World.frozen?_setCells]
   exact ⟨b1, b2⟩
  have := run_storeCells_cells (P := P) ad.block (ad.off + xs.length * k) us 0 (W' false tt) (fun j hj => (hw j hj).1) (fun j hj => (hw j hj).2) hus1
  rw [Nat.add_zero] at this
  rw [this]
  congr 1
  cases tt
  ·rfl
  exact Ev (x := ⟨G.blk o, offp + fd.offset, none⟩) hne us _ w1
 have xT : ∀ B b, B 3 = true → (execOp (A B).eval (⟨none, .store t (.tmp sf) (.tmp s), ty5, pos5, aft5, none⟩ : Oper)).run P (W' b false) = .ok .skip (W' b true) := fun B b hB => by
  have e1 := evAsf B hB
  rw [hvF] at e1
  have e2 := ev2sA B
  refine C3 hszt e1 (by rw [e2, hvSc]; rfl) ?_
  rw [e2, hvSc]
  have hw : ((W' b false).cell? ⟨G.blk o, offp + fd.offset, none⟩).isSome = true ∧ (W' b false).frozen? ⟨G.blk o, offp + fd.offset, none⟩ = false := by
   cases b
   ·exact hcell1
   exact hcellA _ hoff
  have := run_storeCells_cells (P := P) (G.blk o) (offp + fd.offset) [vS] 0 (W' b false) (fun j hj => by
   have : j = 0 := by simpa using hj
   subst this
   exact hw.1) (fun j hj => by
   have : j = 0 := by simpa using hj
   subst this
   exact hw.2) (fun v hv => by rw [List.mem_singleton.1 hv]; exact hvS1)
  exact this
 -- in the text's order
 let B2 : Nat → Bool := fun p => decide (p < 2)
 have hfin : StRel d G' ⟨sz, A5 sp .any (A5 s (.slice true k (xs ++ [yv])) (A5 r (fr r).strip fr)), up, own, dfs, rnd⟩ (A B2) (W B2) := hst.put (s := sp) (y := .any) (v := pI) hsp (.any _ _)
 have hQ : (fun e a' w' => e = Exit.normal ∧ Post d ⟨sz, fr, up, own, dfs, rnd⟩ G w Q a' w') .normal (A fun _ => true) (W fun _ => true) := by
  have hl4 : idx.length = 4 := by simpa using congrArg List.length hidx
  match idx, hl4, hidx with
  | [i0, i1, i2, i3], _, hidx =>
   simp only [List.map_cons, List.map_nil, List.cons.injEq, and_true] at hidx
   obtain ⟨g0, g1, g2, g3⟩ := hidx
   have h5 := hr G' _ _ hfin [i1, i2, i3] (by simp only [List.map_cons, List.map_nil, g1, g2, g3])
   rw [wpOpsIn_cons] at h5
   have h6 := D5 (by intro c h; cases h) (xN B2 _) (Ct g1 rfl h5)
   rw [wpOpsIn_cons] at h6
   have h7 := D5 (by intro c h; cases h) (xF (fun p => decide (p < 3)) _ rfl) (Ct g2 rfl h6)
   rw [wpOpsIn_cons] at h7
   have h8 := E7 (by intro c h; cases h) (xT (fun p => decide (p < 4)) true rfl) (Ct g3 rfl h7)
   obtain ⟨_, h9⟩ : Exit.normal = Exit.normal ∧ _ := h8
   exact ⟨rfl, h9.next hkp rfl rfl rfl⟩
 have hl4 : idx.length = 4 := by simpa using congrArg List.length hidx
 match idx, hl4, hidx with
 | [i0, i1, i2, i3], _, hidx =>
  simp only [List.map_cons, List.map_nil, List.cons.injEq, and_true] at hidx
  obtain ⟨g0, g1, g2, g3⟩ := hidx
  rw [wpOpsIn_cons]
  refine As g0 rfl (Ai (by intro c h; cases h) hexec ?_)
  show wpOpsIn _ 0 P l.toArray _ [i1, i2, i3] (a.put (some s) vS) w1
  rw [← ha2, wpOpsIn_cons]
  refine As g1 rfl (Ai (by intro c h; cases h) (xN (fun _ => false) _) ?_)
  rw [wpOpsIn_cons]
  refine As g2 rfl (Ai (by intro c h; cases h) (xF (fun p => decide (p = 2)) _ rfl) ?_)
  rw [wpOpsIn_cons]
  refine As g3 rfl (Br (by intro c h; cases h) (xT (fun p => decide (p = 2 ∨ p = 3)) false rfl) ?_)
  refine ⟨rfl, ?_⟩
  show wpOpsIn _ 0 P _ _ [0, 1] (A (fun p => decide (p = 2 ∨ p = 3))) _
  rw [wpOpsIn_cons]
  refine As rfl rfl (Ai (by intro c h; cases h) (xI (fun p => decide (p = 2 ∨ p = 3)) _) ?_)
  have e : (A (fun p => decide (p = 2 ∨ p = 3))).put (some sp) pI = A (fun p => decide (p = 0 ∨ p = 2 ∨ p = 3)) := by
   show ((a2.put (some sn) vN).put (some sf) vF).put (some sp) pI = ((a2.put (some sp) pI).put (some sn) vN).put (some sf) vF
   rw [Fu d2, Fu n2]
  show wpOpsIn _ 0 P _ _ [1] ((A (fun p => decide (p = 2 ∨ p = 3))).put (some sp) pI) _
  rw [e, wpOpsIn_cons]
  refine As rfl rfl (Br (by intro c h; cases h) (xS (fun p => decide (p = 0 ∨ p = 2 ∨ p = 3)) true rfl) ?_)
  exact hQ
theorem W.drawZ0 {id id2 : Nat} {sz : Nat} {fr : Nat → AV} {dfs : List Nat} {rnd : Option Nat} {l l2 : List Oper} {up0 own0 : List AObj} {K : Exit → St → Prop} (M : List Nat) (tn : List Nat) (S : List SegY) (up own : (Nat → Bool) → List AObj) (hm : P.follows .mixedOrders = true) (hok : okY l tn (Bw S) M = true)
  (h0 : up (fun _ => false) = up0) (h0' : own (fun _ => false) = own0) (hlen : ∀ B, (up B).length = up0.length)
  (h : ChainY P d l sz up own dfs rnd (fun ch => K (.panic ch)) (fun l' f => ARun2 P d l l2 l' ⟨sz, f, up (fun p => decide (p < tn.length)), own (fun p => decide (p < tn.length)), dfs, rnd⟩ (K .normal)) S l fr) :
  AW P d (.seq (.region id l.toArray true) (.region id2 l2.toArray false)) ⟨sz, fr, up0, own0, dfs, rnd⟩ K := by
 subst h0; subst h0'
 obtain ⟨D, h1, h2, h3, h4⟩ := ChainY.data S l fr (fun i j o z x y s h1 h2 h3 h4 n1 n2 h5 h6 => ((Je hok).uniq i j o z x y s h1 h2 h3 h4 h5 h6).resolve_right (fun h => h.1 ⟨n1, n2⟩)) h
 intro G0 a0 w0 hr0
 refine wpIn_seq (Tq M hm hok h1 hlen h3 hr0 (fun G a w hst hkp idx hidx => ?_) (fun _ _ _ _ h => h.mono fun _ h => h.2))
 rw [← h1] at hidx
 have hz := h4 G a w hst idx hidx
 rw [Bm (st' := ⟨sz, frY (fun _ => true) 0 D fr, up (fun p => decide (p < tn.length)), own (fun p => decide (p < tn.length)), dfs, rnd⟩) hr0 hkp rfl] at hz
 refine Ap ?_ _ _ _ hz
 rintro e a' w' ⟨rfl, hp⟩
 exact wpIn_region (Ap (fun e a'' w'' ⟨he, hp⟩ => by subst he; exact hp.next hkp (hlen _) rfl rfl) _ _ _ hp)
end
section
variable {P : Program} {d : Nat} {sz : Nat} {dfs : List Nat} {rnd : Option Nat} {l : List Oper} {fr : Nat → AV}
/-- At the end: append of one element, which is laid at once; the slice is stored in an object's cell. -/
theorem Y.put2 {KP : List PanicEntry → St → Prop} {up own : (Nat → Bool) → List AObj} {tn : List Nat} {Q : St → Prop} {U O : List AObj} {ty ty2 ty3 tyn ty4 ty5 t e tf t' : TypeId} {pos pos2 pos3 posn pos4 pos5 : String} {aft aft2 aft3 aftn aft4 aft5 : Array Edge} {i : TypeInfo} {z : Value} {r s sp sn sf pp ti tv k kf o offp fi : Nat} {x : Operand} {o2 : Bool} {b y z' : AV} {xs zs cs : List AV} {z0 yv : AV} {fs : Array Field} {fd : Field} {m : Int}
  (hu : P.underlying t = some (.slice e)) (hi : P.info? e = some i) (hsze : ∀ w, (Go.sizeOf e).run P w = .ok k w) (hszt : ∀ w, (Go.sizeOf t).run P w = .ok 1 w) (hf : P.underlying tf = some (.struct fs))
  (ho : (U ++ O)[o]? = some (.cells t' cs)) (hl : (xs.length + 1) * i.bytes ≤ 140737488355328) (hl2 : xs.length + 1 ≤ 4611686018427387904)
  (hr : ARun P d l.toArray [⟨some sn, .nilCheck (.tmp pp), tyn, posn, aftn, none⟩, ⟨some sf, .fieldAddr tf (.tmp sn) fi, ty4, pos4, aft4, none⟩, ⟨none, .store t (.tmp sf) (.tmp s), ty5, pos5, aft5, none⟩] ⟨sz, A5 sp .any (A5 s (.slice true k zs) (A5 r z' fr)), U, O, dfs, rnd⟩ Q)
  (hU : up (fun p => decide (p < tn.length)) = U := by rfl) (hO : own (fun p => decide (p < tn.length)) = O := by rfl)
  (hz : i.zero = some z := by rfl) (hsz : i.size = k := by rfl) (hzk : z.cells.size = k := by rfl) (hk : 0 < k := by decide) (hb : fr r = b := by exact sL0) (hb' : F9 b true k xs := by first | exact .inl rfl | exact .inr ⟨rfl, rfl⟩)
  (hx : A8 fr x = y := by exact sL0) (hx' : F9 y o2 k [z0] := by first | exact .inl rfl | exact .inr ⟨rfl, rfl⟩)
  (hti : A8 fr (.tmp ti) = .v (.int .i64 m) := by exact sL0) (hm : m = (xs.length : Int) := by simp) (htv : A8 fr (.tmp tv) = yv := by exact sL0) (hyk : yv.cells.length = k := by simp [go_sem]) (hy1 : yv.cells.all AV.one = true := by simp [go_sem])
  (hfi : fs[fi]? = some fd := by rfl) (hfsz : ∀ w, (Go.sizeOf fd.type).run P w = .ok kf w := by assumption) (hkf : kf ≠ 0 := by decide) (hpp : A8 fr (.tmp pp) = .ptr o offp := by exact sL0) (hoff : offp + fd.offset < cs.length := by simp)
  (hz' : b.strip = z' := by exact sL0) (hzs : xs ++ [yv] = zs := by first | rfl | (simp only [go_sem, ↓reduceIte, Nat.reduceEqDiff, Nat.reduceAdd] <;> rfl))
  (hs : Nat.blt s sz = true := by rfl) (hsp : Nat.blt sp sz = true := by rfl) (hsf : Nat.blt sf sz = true := by rfl) (hsn : Nat.blt sn sz = true := by rfl)
  (hd : (s ≠ r ∧ sp ≠ s ∧ ti ≠ s ∧ tv ≠ s ∧ tv ≠ sp ∧ sf ≠ s ∧ sf ≠ sp ∧ sf ≠ ti ∧ sf ≠ tv ∧ pp ≠ s ∧ pp ≠ sp ∧ ti ≠ sp ∧ sn ≠ s ∧ sn ≠ sp ∧ sn ≠ ti ∧ sn ≠ tv ∧ sn ≠ sf ∧ pp ≠ sn ∧ pp ≠ sf) := by decide) :
  ChainY P d l sz up own dfs rnd KP (fun l' f => ARun2 P d l [⟨some sp, .indexAddr t (.tmp s) (.tmp ti), ty2, pos2, aft2, none⟩, ⟨none, .store e (.tmp sp) (.tmp tv), ty3, pos3, aft3, none⟩] l' ⟨sz, f, up (fun p => decide (p < tn.length)), own (fun p => decide (p < tn.length)), dfs, rnd⟩ Q) [] [⟨some s, .call ⟨.builtin .append, #[.tmp r, x], #[t, t]⟩, ty, pos, aft, none⟩, ⟨some sn, .nilCheck (.tmp pp), tyn, posn, aftn, none⟩, ⟨some sf, .fieldAddr tf (.tmp sn) fi, ty4, pos4, aft4, none⟩, ⟨none, .store t (.tmp sf) (.tmp s), ty5, pos5, aft5, none⟩] fr := by
 subst hU
 subst hO
 subst hb
 subst hx
 subst hm
 subst hz'
 subst hzs
 obtain ⟨e1, e2, e3, e4, e5, e6, e7, e8, e9, e10, e11, e12, m1, m2, m3, m4, m5, m6, m7⟩ := hd
 exact ARun2.put hu hi hsze hz hsz hzk hk hb' hx' hti htv hyk (fun c hc => List.all_eq_true.1 hy1 c hc) e1 (by simpa using hs) (by simpa using hsp) e2 e3 e4 e5 hl hl2 hf hfi hfsz hkf hpp ho hoff hszt e6 e7 e8 e9 e10 e11 e12 (by simpa using hsf) m1 m2 m3 m4 m5 (by simpa using hsn) m6 m7 hr
end
end Go.SX
