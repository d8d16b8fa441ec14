/- Texts on the way to this: QueryPicks answers true for whatever it is handed: the answer has, of each row that the query of all columns tells, just the values of its own columns. (part 3) -/
import Derived.Test.YtfngkblpcigciaaGreatDoorQueryPicksCardSaidPart2
set_option linter.all false
namespace Go.SX
variable [GI : GlobInv]
open Classical
variable {n : Nat} {t : St}
section
variable {P : Program} {d : Nat}

/-- Less is known of a state, and the last of its objects are let go. -/
def StCut (d : Nat) (s t : St) : Prop :=
 (t.up ++ t.own).length ≤ (s.up ++ s.own).length ∧ t.up.length = s.up.length ∧ t.rnd = s.rnd ∧ t.sz = s.sz ∧
  ∀ (G : Gh) (a : Act) (w : World), StRel d G s a w → StRel d { G with n := (t.up ++ t.own).length } t a w

theorem StCut.of_le {s t : St} (h : StLe d s t) (ho : t.own.length = s.own.length) : StCut d s t := by
 refine ⟨by simp [h.2.1, ho], h.2.1, h.2.2.1, h.2.2.2, fun G a w hr => ?_⟩
 have := h.1 G a w hr
 have e : G = { G with n := (t.up ++ t.own).length } := by
  have hn := this.heap.n
  cases G
  simp only at hn ⊢
  rw [hn]
 rw [← e]
 exact this
theorem StCut.of_eq {s t : St} (h : s = t) : StCut d s t := by subst h; exact StCut.of_le (StLe.refl _) rfl

theorem StCut.take {sz : Nat} {fr fr' : Nat → AV} {up own junk : List AObj} {dfs : List Nat} {rnd : Option Nat} (hf : ∀ i, Le (fr i) (fr' i)) (hlow : ∀ i, Low (up.length + own.length) (fr' i)) (ho : ∀ x ∈ own, ObjLow (up.length + own.length) x) (hd : ∀ o ∈ dfs, o < up.length + own.length) :
  StCut d ⟨sz, fr, up, own ++ junk, dfs, rnd⟩ ⟨sz, fr', up, own, dfs, rnd⟩ := by
 refine ⟨by simp, rfl, rfl, rfl, fun G a w hr => ?_⟩
 have hn := hr.heap.n
 simp only [List.length_append] at hn
 have hget : ∀ (i : Nat) (x : AObj), (up ++ own)[i]? = some x → (up ++ (own ++ junk))[i]? = some x := fun i x hx => by
  rw [← List.append_assoc]
  exact Ac hx
 refine ⟨hr.size, fun s => ?_, ⟨fun i x hx => ?_, rfl, fun i j hi hj e => hr.heap.inj i j ?_ ?_ e⟩, hr.defs, fun o hoo => ?_, hr.defsNodup, hr.defsGe, ⟨hr.tags.ex, hr.tags.obj, hr.tags.tail, hr.tags.globCut (by rw [hn]; simp only [List.length_append]; omega)⟩, hr.rnd, hr.low⟩
 ·exact ((hr.slots s).le (hf s)).cut (by simpa using hlow s)
 ·have hob := hr.heap.obj i x (hget i x hx)
  have hlx : ObjLow (up.length + own.length) x := by
   rcases Nat.lt_or_ge i up.length with h' | h'
   ·rw [List.getElem?_append_left h'] at hx
    have := hr.low x (List.mem_of_getElem? hx)
    cases x with
    | cells t cs => exact fun y hy => (this y hy).mono (by simp)
    | loop sta pd fr sz ps as bd df => exact ⟨fun s => (this.1 s).mono (by simp), by have := this.2; simp only at this; omega⟩
    | defs => trivial
    | dead => trivial
    | bld _ _ _ => trivial
    | gone => trivial
   rw [List.getElem?_append_right h'] at hx
   exact ho x (List.mem_of_getElem? hx)
  exact hob.cut (by simpa using hlx)
 ·simp only [List.length_append] at hi; omega
 ·simp only [List.length_append] at hj; omega
 have h1 := hr.defsAt o hoo
 have h2 := hd o hoo
 simp only at h1
 rw [← List.append_assoc, List.getElem?_append_left (by simpa using h2)] at h1
 exact h1

theorem low1 {n : Nat} {t : TypeId} {x : Value} : ObjLow n (.cells t [.v x]) := fun y hy => by
 have : y = .v x := by simpa using hy
 subst this
 exact .v x
theorem Ad {U : List AObj} {i : Nat} {x y : AObj} (h : U[i]? = some x) : (U.set i y)[i]? = some y := by rw [List.getElem?_set_self (List.getElem?_eq_some_iff.1 h).1]
theorem B4 {U : List AObj} {i : Nat} {x : AObj} (h : U[i]? = some x) : U.set i x = U := by
 apply List.ext_getElem?
 intro j
 rw [List.getElem?_set]
 split
 ·rename_i e
  subst e
  split
  ·exact h.symm
  rename_i hlt; rw [List.getElem?_eq_none (by omega)]
 rfl
/-- Less known of one slot. -/
theorem R.wk {ops : Array Oper} {l : List Oper} {sz : Nat} {fr : Nat → AV} {up own : List AObj} {dfs : List Nat} {rnd : Option Nat} {Q : St → Prop} {y : AV} (s : Nat) (y' : AV) (hl : Le y y') (hr : ARun P d ops l ⟨sz, A6 s y' fr, up, own, dfs, rnd⟩ Q)
  (h : fr s = y := by exact sL0) : ARun P d ops l ⟨sz, fr, up, own, dfs, rnd⟩ Q :=
 ARun.le (st' := ⟨sz, A6 s y' fr, up, own, dfs, rnd⟩) (StLe.frame (s := ⟨sz, fr, up, own, dfs, rnd⟩) fun i => by
  unfold A6
  split
  ·rename_i e; subst e; show Le (fr i) _; rw [h]; exact hl
  exact .refl _) hr
/-- A nil slice is an empty one, and ours. -/
theorem R.nilSl {ops : Array Oper} {l : List Oper} {sz : Nat} {fr : Nat → AV} {up own : List AObj} {dfs : List Nat} {rnd : Option Nat} {Q : St → Prop} (s k : Nat) (hr : ARun P d ops l ⟨sz, A6 s (.slice true k []) fr, up, own, dfs, rnd⟩ Q)
  (h : fr s = .nil := by exact sL0) : ARun P d ops l ⟨sz, fr, up, own, dfs, rnd⟩ Q :=
 ARun.le (st' := ⟨sz, A6 s (.slice true k []) fr, up, own, dfs, rnd⟩) (StLe.frame (s := ⟨sz, fr, up, own, dfs, rnd⟩) fun i => by
  unfold A6
  split
  ·rename_i e; subst e; show Le (fr i) _; rw [h]; exact .nil _ _
  exact .refl _) hr
theorem B5 {s : Nat} {y : AV} {f : Nat → AV} (h : Low n y) (hf : ∀ i, Low n (f i)) : ∀ i, Low n (A6 s y f i) := by
 intro i
 unfold A6
 split
 ·exact h
 exact hf i
theorem B6 : ∀ i, Low n ((fun _ => .any : Nat → AV) i) := fun _ => .any

/-- How a round of a loop may end: n: what is asked when it comes to an end; N: when the block around the loop is left. -/
def LK {α : Type} (d : Nat) (id : Nat) (I : α → St) (R : α → Prop) (μ : α → Nat) (x : α) (N : St → Prop) (K : Exit → St → Prop) : Exit → St → Prop
 | .normal, s => ∃ y, R y ∧ μ y < μ x ∧ StCut d s (I y) ∧ (I y).own.length = (I x).own.length
 | .exit i, s => if i = id then N s else K (.exit i) s
 | e, s => K e s

theorem AW.loopC {c : Code} {st : St} {K : Exit → St → Prop} {id : Nat} {α : Type} (I : α → St) (R : α → Prop) (μ : α → Nat) (x0 : α) (h0 : R x0) (hst : StLe d st (I x0)) (hown : (I x0).own.length = st.own.length)
  (round : ∀ x, R x → AW P d c (I x) (LK d id I R μ x (K .normal) K)) : AW P d (.block id (.loop c)) st K := by
 refine AW.block ?_
 intro G0 a0 w0 hr0
 let S : Act → World → Nat → Prop := fun a w m => ∃ x G, R x ∧ StRel d G (I x) a w ∧ Keep d G0 w0 G w ∧ ((I x).up.length = st.up.length ∧ (I x).rnd = st.rnd ∧ (I x).sz = st.sz ∧ (I x).own.length = st.own.length) ∧ μ x = m
 have key : ∀ a w, (∃ m, S a w m) → ∃ m, (S a w m ∧ ∀ k, S a w k → m ≤ k) := fun a w h => Dr h
 refine wpIn_loop (F := Fr (st.rnd.map G0.blk)) (fun a w => ∃ m, S a w m) (fun a w => Classical.epsilon fun m => S a w m ∧ ∀ k, S a w k → m ≤ k)
  ⟨_, x0, G0, h0, hst.1 _ _ _ hr0, Keep.refl _ _ _, ⟨hst.2.1, hst.2.2.1, hst.2.2.2, hown⟩, rfl⟩ ?_
 intro a w hI
 obtain ⟨⟨x, G, hx, hrel, hkeep, ⟨e1, e2, e3, e4⟩, hm⟩, _⟩ := Classical.epsilon_spec (key a w hI)
 have hw := round x hx G a w hrel
 have hF : Fr ((I x).rnd.map G.blk) = Fr (st.rnd.map G0.blk) := Cc (st' := I x) hr0 hkeep e2
 rw [hF] at hw
 refine wpIn_mono hw ?_
 rintro e a1 w1 ⟨G1, s1, hr1, hk1, f1, f2, f3, hK⟩
 have hnx : G.n = ((I x).up ++ (I x).own).length := hrel.heap.n
 cases e with
 | normal =>
  obtain ⟨y, hy, hlt, hle, hown'⟩ := hK
  obtain ⟨c1, c2, c3, c4, c5⟩ := hle
  have hcut := c5 _ _ _ hr1
  have hnE : ((I y).up ++ (I y).own).length = G.n := by
   rw [hnx]
   simp only [List.length_append]
   have := c2.trans f1
   omega
  have hk1' : Keep d G w { G1 with n := ((I y).up ++ (I y).own).length } w1 := ⟨hk1.fix, hk1.slot, by rw [← hnE]; exact Nat.le_refl _, hk1.blk, hk1.os, hk1.tape, hk1.output, hk1.size, hk1.old.cut (by rw [hr1.heap.n]; exact c1)⟩
  have hS : S a1 w1 (μ y) := ⟨y, _, hy, hcut, hkeep.trans hk1', ⟨c2.trans (f1.trans e1), c3.trans (f2.trans e2), c4.trans (f3.trans e3), hown'.trans e4⟩, rfl⟩
  have hmin := (Classical.epsilon_spec (key a1 w1 ⟨_, hS⟩)).2 _ hS
  refine ⟨⟨_, hS⟩, ?_⟩
  rw [← hm]
  exact Nat.lt_of_le_of_lt hmin hlt
 | exit i =>
  refine ⟨G1, s1, hr1, hkeep.trans hk1, f1.trans e1, f2.trans e2, f3.trans e3, ?_⟩
  simp only [LK] at hK
  simp only [Fq]
  split
  ·rename_i h; rw [if_pos h] at hK; exact hK
  rename_i h; rw [if_neg h] at hK; exact hK
 | goto l => exact ⟨G1, s1, hr1, hkeep.trans hk1, f1.trans e1, f2.trans e2, f3.trans e3, hK⟩
 | ret => exact ⟨G1, s1, hr1, hkeep.trans hk1, f1.trans e1, f2.trans e2, f3.trans e3, hK⟩
 | panic ch => exact ⟨G1, s1, hr1, hkeep.trans hk1, f1.trans e1, f2.trans e2, f3.trans e3, hK⟩
 | outgrown => exact ⟨G1, s1, hr1, hkeep.trans hk1, f1.trans e1, f2.trans e2, f3.trans e3, hK⟩

/-! ### Ways out, step by step -/
variable {K K' : Exit → St → Prop} {N : St → Prop} {y : Code} {s : St} {i id : Nat}
theorem K.thN (h : AW P d y s K) : Lv (fun s => AW P d y s K) K' .normal s := h
theorem K.thE (h : K (.exit i) s) : Lv N K (.exit i) s := h
theorem K.thR (h : K .ret s) : Lv N K .ret s := h
theorem K.blN (h : K .normal s) : Fq id K .normal s := h
theorem K.blE (h : K .normal s) : Fq i K (.exit i) s := by simp only [Fq, if_true]; exact h
theorem K.blO (hne : i ≠ id) (h : K (.exit i) s) : Fq id K (.exit i) s := by simp only [Fq, if_neg hne]; exact h
theorem K.blR (h : K .ret s) : Fq id K .ret s := h
section
variable {α : Type} {I : α → St} {R : α → Prop} {μ : α → Nat} {x : α}
theorem K.lpE (h : N s) : LK d i I R μ x N K (.exit i) s := by simp only [LK, if_true]; exact h
theorem K.lpR (h : K .ret s) : LK d id I R μ x N K .ret s := h
theorem K.lpN (y : α) (hR : R y) (hμ : μ y < μ x) (hc : StCut d s (I y)) (ho : (I y).own.length = (I x).own.length := by rfl) : LK d id I R μ x N K .normal s := ⟨y, hR, hμ, hc, ho⟩
end
/-- Ways that meet again. -/
theorem W.join {a b : Code} (T : St) (h1 : AW P d a s (Lv (fun s => StLe d s T) K)) (h2 : AW P d b T K) : AW P d (.seq a b) s K := by
 refine AW.seq (h1.mono fun e s' hs => ?_)
 cases e with
 | normal => exact AW.le hs h2
 | exit i => exact hs
 | goto i => exact hs
 | ret => exact hs
 | panic c => exact hs
 | outgrown => exact hs
theorem K.thJ {T : St} (h : StLe d s T) : Lv (fun s => StLe d s T) K' .normal s := h
theorem StLe.of_eq {s t : St} (h : s = t) : StLe d s t := by subst h; exact StLe.refl _
theorem W.seq {a b : Code} (h : AW P d a s (Lv (fun s => AW P d b s K) K)) : AW P d (.seq a b) s K := AW.seq h
section
variable {sz : Nat} {fr : Nat → AV} {up own : List AObj} {dfs : List Nat} {rnd : Option Nat} {c : Operand} {a b : Code} {B : Bool}
theorem W.keep (l : List Nat) {fr' : Nat → AV} (hq : AW P d y ⟨sz, fr', up, own, dfs, rnd⟩ K) (h : H3 l fr = fr' := by exact sL0) : AW P d y ⟨sz, fr, up, own, dfs, rnd⟩ K := AW.keep l h hq
/-- A loop's test: on, or out. -/
theorem W.condX {i : Nat} (h1 : B = true → AW P d y ⟨sz, fr, up, own, dfs, rnd⟩ K) (h2 : B = false → K (.exit i) ⟨sz, fr, up, own, dfs, rnd⟩) (hc : A7 fr c = .v (.bool B) := by exact sL0) :
  AW P d (.seq (.cond c .skip (.exit i)) y) ⟨sz, fr, up, own, dfs, rnd⟩ K := AW.seq (W.cond (fun e => AW.skip (h1 e)) (fun e => AW.exit (h2 e)) hc)
end
theorem K.fin {rs : List ResultVar} {post : AV → List AObj → Prop} {r : AV} (hres : Res P s rs r) (hp : post r s.up := by exact ⟨rfl, rfl⟩) (hlow : Low n r := by simp) : FK P rs n post .ret s := ⟨.inr rfl, r, hres, hlow, hp⟩
theorem K.finN {rs : List ResultVar} {post : AV → List AObj → Prop} {r : AV} (hres : Res P s rs r) (hp : post r s.up := by exact ⟨rfl, rfl⟩) (hlow : Low n r := by simp) : FK P rs n post .normal s := ⟨.inl rfl, r, hres, hlow, hp⟩
end
end Go.SX
namespace Go.SX
variable [GI : GlobInv]
open Classical
variable {U : List AObj} {args : List AV} {m n : Nat}
section
variable {P : Program} {d : Nat} {ops : Array Oper} {rest : List Oper} {sz : Nat} {fr : Nat → AV} {up own own' : List AObj} {dfs : List Nat} {rnd : Option Nat} {Q : St → Prop} {s : Nat} {ty : TypeId} {pos : String} {aft : Array Edge}

theorem Ck {O : List AObj} {x : AObj} : (U ++ O).set (oid U.length n) x = U ++ O.set n x := As
theorem Am {O : List AObj} : (U ++ O)[oid U.length n]? = O[n]? := Bc
theorem Bq {u : Nat} (h : n ≠ m) : oid u n ≠ oid u m := fun e => h (Nat.add_left_cancel e)
theorem Rn {l a : Nat} {x y X : AObj} (h : U[l]? = some x) (ha : a ≠ l) : ((U.set l y).set a X)[l]? = some y := by rw [List.getElem?_set_ne ha]; exact Ad h
theorem Ro {l a b : Nat} {x y X Y : AObj} (h : U[l]? = some x) (ha : a ≠ l) (hb : b ≠ l) : (((U.set l y).set a X).set b Y)[l]? = some y := by rw [List.getElem?_set_ne hb]; exact Rn h ha
theorem ah (f : Nat → AV) : Tr [] f = f := rfl
theorem Xk (x : Nat × AV) (r : List (Nat × AV)) (f : Nat → AV) : Tr (x :: r) f = Tr r (A6 x.1 x.2 f) := rfl
attribute [go_sem] ah Xk List.zip_cons_cons List.zip_nil_left List.zip_nil_right
/-- A call of a round, by an activation that has no objects. -/
theorem R.yield0 {f : Operand} {xs : List Operand} {ats : Array TypeId} {l : Nat} {args : List AV} {post : Bool → List AObj → Prop} (h : AYield P l args up post)
  (hp : ∀ b U, U.length = up.length → post b U → ARun P d ops rest ⟨sz, A6 s (.v (.bool b)) fr, U, [], [], rnd⟩ Q)
  (hf : A7 fr f = .yield l := by exact sL0) (ha : xs.map (A7 fr) = args := by exact sL0) (hs : Nat.blt s sz = true := by rfl) :
  ARun P d ops (⟨some s, .call ⟨.value f, xs.toArray, ats⟩, ty, pos, aft, none⟩ :: rest) ⟨sz, fr, up, [], [], rnd⟩ Q := by
 refine ARun.op rfl (Q1 := fun s' => ARun P d ops rest s' Q) ?_ (fun s' e => e)
 intro G a w hr Q'
 have hfr' : Rep G w none (.yield l) (a.eval f) := by
  have := hr.eval f
  have e : St.ev ⟨sz, fr, up, [], [], rnd⟩ f = .yield l := hf
  rwa [e] at this
 generalize hfv : a.eval f = fv at hfr'
 cases hfr' with
 | yield _ _ ho =>
  have hxr := Ln hr xs
  have ha' : xs.map (St.ev ⟨sz, fr, up, [], [], rnd⟩) = args := ha
  rw [ha'] at hxr
  have hh : HeapRel G up w := by simpa using hr.heap
  obtain ⟨f', tmps, as, bd, hrun, hround⟩ := h d G w (xs.map a.eval).toArray (by rw [← ha]; simp) hxr hh hr.tags
  refine M4 (by intro c h; cases h) ((Ib hfv).trans hrun) hround ?_
  rintro e w' ⟨b, G', H', rfl, hH, hT, hk, hlen, hp'⟩
  have h3 := hr.called hH hT hk (U := H') (O := []) (by simp) hlen (fun o ho => by simp at ho) (by rw [hlen]; have := M3 hH; rwa [hlen] at this)
  obtain ⟨h4, k4⟩ := h3.took (.v (some (.ret d)) (.bool b)) (s := s) (by simpa using hs)
  exact ⟨.bool b, rfl, _, _, h4, (hk.less (Nat.le_succ d)).trans k4, hlen, rfl, rfl, hp b H' hlen hp'⟩

/-- Ranging over a function. -/
theorem W.range {g : Operand} {ps : Array Tmp} {as bd : Code} {gf : FuncId} {first caps args : List AV} {m : Nat} {K : Exit → St → Prop} (post : AV → List AObj → Prop) (hcall : ∀ args w, (callFunc gf args).run P w = .ok (.enter gf args) w)
  (h : ACall P gf args (up ++ (own ++ [.defs, .loop .ready none (fun s => (fr s).strip) sz ps as bd (oid up.length m)])) post)
  (hp : ∀ r H', post r H' → Ts P d ⟨sz, fr, up, own, dfs, none⟩ (oid up.length m :: dfs) (m + 1) (oid up.length m) ps as bd K r H')
  (hm : own.length = m := by rfl) (hg : A7 fr g = .fn (.func gf) first caps := by exact sL0) (ha : first ++ [.yield (oid up.length (m + 1))] ++ caps = args := by rfl) :
  AW P d (.rangeFunc g ps as bd) ⟨sz, fr, up, own, dfs, none⟩ K := by
 subst ha
 refine AW.rangeFunc (st := ⟨sz, fr, up, own, dfs, none⟩) (n := up.length) (m := m) hcall hg rfl rfl hm.symm ?_
 exact h.mono hp

/-- What is asked behind the function that is ranged over; the record's parts under names. -/
def rangeV (P : Program) (d sz : Nat) (fr FR : Nat → AV) (up : List AObj) (dfs : List Nat) (l df : Nat) (ps : Array Tmp) (as bd : Code) (K : Exit → St → Prop) (H' : List AObj) : Prop :=
 ∃ U O x pd, H' = U ++ O ∧ U.length = up.length ∧ ((∀ x ∈ up, ObjLow U.length x) → ∀ x ∈ U, ObjLow U.length x) ∧ (∀ o ∈ dfs, (U ++ O)[o]? = some .defs) ∧
  O[l]? = some (.loop x pd FR sz ps as bd df) ∧ x ≠ .busy ∧
  match pd with
  | none => K .normal ⟨sz, fr, U, O.set l (.loop .exhausted none FR sz ps as bd df), dfs, none⟩
  | some c => AW P d c ⟨sz, fr, U, O.set l (.loop .exhausted (some c) FR sz ps as bd df), dfs, none⟩ K
theorem W.rangeV {g : Operand} {ps : Array Tmp} {as bd : Code} {gf : FuncId} {first caps args : List AV} {m : Nat} {K : Exit → St → Prop} (hcall : ∀ args w, (callFunc gf args).run P w = .ok (.enter gf args) w)
  (h : ∀ FR as' bd', FR = (fun s => (fr s).strip) → as' = as → bd' = bd → ∃ post : AV → List AObj → Prop, ACall P gf args (up ++ (own ++ [.defs, .loop .ready none FR sz ps as' bd' (oid up.length m)])) post ∧
   ∀ r H', post r H' → rangeV P d sz fr FR up (oid up.length m :: dfs) (m + 1) (oid up.length m) ps as' bd' K H')
  (hm : own.length = m := by rfl) (hg : A7 fr g = .fn (.func gf) first caps := by exact sL0) (ha : first ++ [.yield (oid up.length (m + 1))] ++ caps = args := by rfl) :
  AW P d (.rangeFunc g ps as bd) ⟨sz, fr, up, own, dfs, none⟩ K := by
 obtain ⟨post, h1, h2⟩ := h _ _ _ rfl rfl rfl
 exact W.range post hcall h1 (fun r H' hp => h2 r H' hp) hm hg ha

/-- A nil slice in a cell of ours is an empty one. -/
theorem StLe.nilOwn {n k : Nat} {t : TypeId} (ho : own[n]? = some (.cells t [.nil])) : StLe d ⟨sz, fr, up, own, dfs, rnd⟩ ⟨sz, fr, up, own.set n (.cells t [.slice true k []]), dfs, rnd⟩ := by
 refine ⟨fun G a w h => ?_, rfl, rfl, rfl⟩
 refine ⟨h.size, h.slots, ⟨fun i x hx => ?_, ?_, h.heap.inj⟩, h.defs, fun o hoo => ?_, h.defsNodup, h.defsGe, h.tags, h.rnd, h.low⟩
 ·by_cases hi : i = up.length + n
  ·subst hi
   simp only at hx
   rw [Bc, List.getElem?_set_self (List.getElem?_eq_some_iff.1 ho).1] at hx
   injection hx with hx
   subst hx
   have hob := h.heap.obj (up.length + n) (.cells t [.nil]) (by simp only [Bc]; exact ho)
   obtain ⟨vs, h1, h2, h3, h4⟩ := hob
   refine ⟨vs, h1, h2, fun j y u p q => ?_, h4⟩
   match j, p with
   | 0, p =>
    have e : y = .slice true k [] := by simpa using p.symm
    subst e
    exact (h3 0 .nil u rfl q).le (.nil _ _)
   | j + 1, p => simp at p
  refine h.heap.obj i x ?_
  simp only at hx ⊢
  rwa [← As, List.getElem?_set_ne (fun e => hi e.symm)] at hx
 ·have := h.heap.n; simpa using this
 have h1 := h.defsAt o hoo
 simp only at h1 ⊢
 rw [← As]
 by_cases hi : o = up.length + n
 ·subst hi
  rw [Bc, ho] at h1
  cases h1
 rw [List.getElem?_set_ne (fun e => hi e.symm)]
 exact h1

theorem R.nilOwn {l : List Oper} (n k : Nat) {t : TypeId} (hr : ARun P d ops l ⟨sz, fr, up, own', dfs, rnd⟩ Q) (ho : own[n]? = some (.cells t [.nil]) := by rfl) (hset : own.set n (.cells t [.slice true k []]) = own' := by exact sL0) :
  ARun P d ops l ⟨sz, fr, up, own, dfs, rnd⟩ Q := by
 subst hset
 exact ARun.le (StLe.nilOwn ho) hr
theorem W.nilOwn {c : Code} {K : Exit → St → Prop} (n k : Nat) {t : TypeId} (hr : AW P d c ⟨sz, fr, up, own', dfs, rnd⟩ K) (ho : own[n]? = some (.cells t [.nil]) := by rfl) (hset : own.set n (.cells t [.slice true k []]) = own' := by exact sL0) :
  AW P d c ⟨sz, fr, up, own, dfs, rnd⟩ K := by
 subst hset
 exact AW.le (StLe.nilOwn ho) hr

/-- A nil slice in one of the cells of an object of ours is an empty one. -/
theorem StLe.nilCell {n k j0 : Nat} {t : TypeId} {cs : List AV} (ho : own[n]? = some (.cells t cs)) (hc : cs[j0]? = some .nil) : StLe d ⟨sz, fr, up, own, dfs, rnd⟩ ⟨sz, fr, up, own.set n (.cells t (cs.set j0 (.slice true k []))), dfs, rnd⟩ := by
 refine ⟨fun G a w h => ?_, rfl, rfl, rfl⟩
 refine ⟨h.size, h.slots, ⟨fun i x hx => ?_, ?_, h.heap.inj⟩, h.defs, fun o hoo => ?_, h.defsNodup, h.defsGe, h.tags, h.rnd, h.low⟩
 ·by_cases hi : i = up.length + n
  ·subst hi
   simp only at hx
   rw [Bc, List.getElem?_set_self (List.getElem?_eq_some_iff.1 ho).1] at hx
   injection hx with hx
   subst hx
   have hob := h.heap.obj (up.length + n) (.cells t cs) (by simp only [Bc]; exact ho)
   obtain ⟨vs, h1, h2, h3, h4⟩ := hob
   refine ⟨vs, h1, by simpa using h2, fun j y u p q => ?_, by simpa using h4⟩
   by_cases hj : j = j0
   ·subst hj
    rw [List.getElem?_set_self (List.getElem?_eq_some_iff.1 hc).1] at p
    have e : y = .slice true k [] := by simpa using p.symm
    subst e
    exact (h3 j .nil u hc q).le (.nil _ _)
   rw [List.getElem?_set_ne (fun e => hj e.symm)] at p
   exact h3 j y u p q
  refine h.heap.obj i x ?_
  simp only at hx ⊢
  rwa [← As, List.getElem?_set_ne (fun e => hi e.symm)] at hx
 ·have := h.heap.n; simpa using this
 have h1 := h.defsAt o hoo
 simp only at h1 ⊢
 rw [← As]
 by_cases hi : o = up.length + n
 ·subst hi
  rw [Bc, ho] at h1
  cases h1
 rw [List.getElem?_set_ne (fun e => hi e.symm)]
 exact h1
theorem R.nilCell {l : List Oper} (n j0 k : Nat) {t : TypeId} {cs : List AV} (hr : ARun P d ops l ⟨sz, fr, up, own', dfs, rnd⟩ Q) (ho : own[n]? = some (.cells t cs) := by rfl) (hc : cs[j0]? = some .nil := by rfl) (hset : own.set n (.cells t (cs.set j0 (.slice true k []))) = own' := by exact sL0) :
  ARun P d ops l ⟨sz, fr, up, own, dfs, rnd⟩ Q := by
 subst hset
 exact ARun.le (StLe.nilCell ho hc) hr

/-- Objects of whoever waits refer to one another alone. -/
theorem R.assumeLow {l : List Oper} (h : (∀ x ∈ up, ObjLow up.length x) → ARun P d ops l ⟨sz, fr, up, own, dfs, rnd⟩ Q) : ARun P d ops l ⟨sz, fr, up, own, dfs, rnd⟩ Q := fun G a w hr => h hr.low G a w hr

/-! ### Ends of rounds -/
variable {l df : Nat} {ps : Array Tmp} {as bd : Code} {post : Bool → List AObj → Prop} {st : St} {x : LoopState} {pd : Option Code}
theorem K.rdN (hl : st.up[l]? = some (.loop x pd fr sz ps as bd df)) (h : post true (st.up.set l (.loop .ready none fr sz ps as bd df))) : Q7 l fr sz ps as bd df post .normal st := ⟨⟨x, pd, hl⟩, h⟩
theorem K.rdR (hl : st.up[l]? = some (.loop x pd fr sz ps as bd df)) (h : post false (st.up.set l (.loop .done (some .ret) fr sz ps as bd df))) : Q7 l fr sz ps as bd df post .ret st := ⟨⟨x, pd, hl⟩, h⟩
theorem K.rdE {i : Nat} (hl : st.up[l]? = some (.loop x pd fr sz ps as bd df)) (h : post false (st.up.set l (.loop .done (some (.exit i)) fr sz ps as bd df))) : Q7 l fr sz ps as bd df post (.exit i) st := ⟨⟨x, pd, hl⟩, h⟩
end
end Go.SX
