/- Texts on the way to this: SoundJoins answers true for whatever it is handed: moves that are sound over columns, and others that are sound over what is behind those, are sound all together and lead to the same columns, unless they are too many. (part 6) -/
import Derived.Lib.SliceRun
import Derived.Test.YtepoiomaocjhfaaGreatDoorSoundJoinsCardSaidPart5
set_option linter.all false
namespace Go.SX.Nb
open Go Go.SX Go.Proofs
variable [ErrAt]
set_option maxRecDepth 4000
theorem iv {c : List Col} {m : Mov} (h : (m.kind == 3) = false) : B1 c m = m.give := by unfold B1; rw [if_neg (by rw [h]; simp)]
theorem iw {c : List Col} {m : Mov} {s : Str} {y : Col} (h : (m.kind == 3) = true) (ht : m.take = [s]) (hg : m.give = [y]) (hf : Be s c < 0) : B1 c m = [y] := by
 unfold B1
 rw [if_pos h, ht, hg]
 exact if_pos hf
theorem dc {c : List Col} {m : Mov} {s : Str} {y : Col} (h : (m.kind == 3) = true) (ht : m.take = [s]) (hg : m.give = [y]) (hf : ¬ Be s c < 0) : B1 c m = [⟨y.name, (c.getD (Be s c).toNat ⟨[], 0⟩).kind⟩] := by
 unfold B1
 rw [if_pos h, ht, hg]
 exact if_neg hf
theorem Su (l : List Col) : ∀ x ∈ l.map Aq, x.cells.length = 2 := by
 intro x hx
 obtain ⟨c, _, rfl⟩ := List.mem_map.1 hx
 rfl
theorem Wc {c : Col} {y : AV} (h : y ∈ (Aq c).cells) : y = Aa c.name ∨ y = A4 c.kind := by
 have h' : y ∈ [Aa c.name, A4 c.kind] := h
 simpa using h'
theorem Sv (l : List Col) : ∀ x ∈ l.map Aq, ∀ y ∈ x.cells, y.one = true := by
 intro x hx y hy
 obtain ⟨c, _, rfl⟩ := List.mem_map.1 hx
 rcases Wc hy with rfl | rfl <;> rfl
theorem Ni (l : List Col) : ∀ x ∈ l.map Aq, ∀ y ∈ x.cells, y.strip = y := by
 intro x hx y hy
 obtain ⟨c, _, rfl⟩ := List.mem_map.1 hx
 rcases Wc hy with rfl | rfl <;> rfl
theorem dd {α : Type} {l : List α} (h : l.length = 1) : ∃ y, l = [y] := by
 match l, h with
 | [y], _ => exact ⟨y, rfl⟩
theorem Wd {c : List Col} {s : Str} (hf : ¬ Be s c < 0) : (c.map Aq)[(Be s c).toNat]? = some (Aq (c.getD (Be s c).toNat ⟨[], 0⟩)) := by
 obtain ⟨j, hj, hjl⟩ := Jt hf
 rw [hj, Int.toNat_natCast, List.getElem?_map, List.getElem?_eq_getElem hjl, List.getD_eq_getElem?_getD, List.getElem?_eq_getElem hjl]
 rfl
end Go.SX.Nb
namespace Go.SX
variable [GI : GlobInv]
open Classical
variable {P : Program} {d : Nat} {l0 : List Oper} {kd : Nat} {ops : Array Oper} {rest : List Oper} {sz : Nat} {fr : Nat → AV} {up own : List AObj} {dfs : List Nat} {rnd : Option Nat} {Q : St → Prop} {s : Nat} {ty : TypeId} {pos : String} {aft : Array Edge} {E : List Oper → (Nat → AV) → Prop}
theorem R.nilTmp {l : List Oper} (s k : Nat) (o : Bool) (hr : ARun P d ops l ⟨sz, A5 s (.slice o k []) fr, up, own, dfs, rnd⟩ Q) (h : fr s = .nil := by exact sL0) :
  ARun P d ops l ⟨sz, fr, up, own, dfs, rnd⟩ Q :=
 ARun.le (st' := ⟨sz, A5 s (.slice o k []) fr, up, own, dfs, rnd⟩) (StLe.frame (s := ⟨sz, fr, up, own, dfs, rnd⟩) fun i => by
  show Le (fr i) (A5 s (.slice o k []) fr i)
  unfold A5
  by_cases hi : i = s
  ·subst hi; rw [if_pos rfl, h]; exact .nil _ _
  rw [if_neg hi]; exact .refl _) hr
/-! A slice without room behind its end: whoever appends to it gets a new one. -/
theorem V1 (k : Nat) (xs : List AV) : (AV.full k xs).strip = .full k xs := rfl
theorem V2 (k : Nat) (xs : List AV) : (AV.full k xs).cells = [.full k xs] := rfl
theorem de (k : Nat) (xs : List AV) : (AV.full k xs).one = true := rfl
attribute [go_sem] V1 V2 de
section
variable {KP : List PanicEntry → St → Prop} {up own : (Nat → Bool) → List AObj} {S : List SegY} {l : List Oper} {T F : List Nat}
/-- The p-th of those that turn the heap: a store into an object of whoever waits. -/
theorem Y.storeUp {t t' : TypeId} {p x : Operand} {o off k pn : Nat} {y : AV} {ys cs cs' : List AV} (hsz : ∀ w, (Go.sizeOf t).run P w = .ok k w)
  (hU : ∀ B : Nat → Bool, B pn = false → (up B)[o]? = some (.cells t' cs) ∧ up (upd B pn) = (up B).set o (.cells t' cs') ∧ own (upd B pn) = own B ∧ ∀ y ∈ ys, Low (up B).length y)
  (h : ChainY P d l0 sz up own dfs rnd KP E S l fr)
  (hp : A8 fr p = .ptr o off := by exact sL0) (hx : A8 fr x = y := by exact sL0) (hc : y.cells = ys := by exact sL0) (hk : ys.length = k := by rfl)
  (h1 : ys.all AV.one = true := by exact sL4) (hfit : off + k ≤ cs.length := by exact sL3) (hput : Ax cs off ys = cs' := by exact sL0) :
  ChainY P d l0 sz up own dfs rnd KP E (.s [] (some pn) T F :: S) (⟨none, .store t p x, ty, pos, aft, none⟩ :: l) fr := by
 subst hput
 subst hc
 refine ⟨_, l, [], rfl, ⟨rfl, rfl, fun B f _ _ hB hf => .of ?_⟩, h⟩
 obtain ⟨a1, a2, a3, a4⟩ := hU B (hB pn rfl)
 have e : A8 f p = .ptr o off := by rw [agr hf (by simp [Op.operands])]; exact hp
 have ex : A8 f x = y := by rw [agr hf (by simp [Op.operands])]; exact hx
 refine AOp.eqTo (AOp.storeUp (st := ⟨sz, f, up B, own B, dfs, rnd⟩) hsz e a1 ex hk h1 hfit a4) ?_
 show _ = St.mk sz f (up (upd B pn)) (own (upd B pn)) dfs rnd
 rw [a2, a3]
end
end Go.SX
namespace Go.SX
variable [GI : GlobInv]
open Classical
variable {P : Program} {d : Nat} {ops : Array Oper} {rest : List Oper} {sz : Nat} {fr : Nat → AV} {up own : List AObj} {dfs : List Nat} {rnd : Option Nat} {Q : St → Prop} {s : Nat} {ty : TypeId} {pos : String} {aft : Array Edge}
/-- Whether a slice is nil is known only of one that has elements. -/
theorem R.eqlNil {t e u : TypeId} {x y : Operand} {o : Bool} {k : Nat} {xs : List AV} (ht : P.underlying t = some (.slice e)) (hg : P.eqGuardType P.depth t = false)
  (hr : ∀ b : Bool, (b = true → xs = []) → ARun P d ops rest ⟨sz, A5 s (.v (.bool b)) fr, up, own, dfs, rnd⟩ Q)
  (hx : A8 fr x = .slice o k xs := by exact sL0) (hy : A8 fr y = .nil := by exact sL0) (hs : Nat.blt s sz = true := by rfl) :
  ARun P d ops (⟨some s, .binOp .eql t x y u, ty, pos, aft, none⟩ :: rest) ⟨sz, fr, up, own, dfs, rnd⟩ Q := by
 refine ARun.op rfl (Q1 := fun s' => ∃ b : Bool, (b = true → xs = []) ∧ s' = ⟨sz, A5 s (.v (.bool b)) fr, up, own, dfs, rnd⟩) ?_ (by rintro _ ⟨b, hb, rfl⟩; exact hr b hb)
 intro G a w hrel Q'
 have h1 := hrel.eval x
 rw [show St.ev ⟨sz, fr, up, own, dfs, rnd⟩ x = .slice o k xs from hx] at h1
 have h2 := hrel.eval y
 rw [show St.ev ⟨sz, fr, up, own, dfs, rnd⟩ y = .nil from hy] at h2
 have key : ∀ b : Bool, (b = true → xs = []) → (execOp a.eval ⟨some s, .binOp .eql t x y u, ty, pos, aft, none⟩).run P w = .ok (.value (.bool b)) w →
   Oper.wpIn (Fr ((St.mk sz fr up own dfs rnd).rnd.map G.blk)) 0 P ⟨some s, .binOp .eql t x y u, ty, pos, aft, none⟩ a w (Post d ⟨sz, fr, up, own, dfs, rnd⟩ G w (fun s' => ∃ b : Bool, (b = true → xs = []) ∧ s' = ⟨sz, A5 s (.v (.bool b)) fr, up, own, dfs, rnd⟩)) Q' := fun b hb hv =>
  Ai (by intro c h; cases h) hv ⟨G, _, hrel.put (y := .v (.bool b)) (by simpa using hs) (.v _ _), Keep.refl d G w, rfl, rfl, rfl, b, hb, rfl⟩
 generalize hya : a.eval y = vy at h2
 generalize hxa : a.eval x = vx at h1
 cases h2
 cases h1 with
 | slice0 => exact key true (fun _ => rfl) (by simp only [execOp, hxa, hya, eqGuard]; simp [Lib.run_eql_slice_nil _ _ _ _ _ _ _ _ ht, hg])
 | sliceE => exact key false (fun h => by cases h) (by simp only [execOp, hxa, hya, eqGuard]; simp [Lib.run_eql_slice_nil _ _ _ _ _ _ _ _ ht, hg])
 | slice => exact key false (fun h => by cases h) (by simp only [execOp, hxa, hya, eqGuard]; simp [Lib.run_eql_slice_nil _ _ _ _ _ _ _ _ ht, hg])
/-! A guarded slice that may be appended to. -/
end Go.SX
namespace Go.SX
variable [GI : GlobInv]
open Classical
section
variable {P : Program} {d : Nat}
/-- A call that returns and may leave more objects than it found; they are the caller's. -/
def ACallO (P : Program) (g : FuncId) (args : List AV) (H : List AObj) (post : AV → List AObj → Prop) : Prop :=
 ∀ (d : Nat) (G : Gh) (w : World) (vs : Array Value), vs.size = args.length → (∀ (i : Nat) (y : AV) (u : Value), args[i]? = some y → vs[i]? = some u → Rep G w (some (.slot (d + 1) i)) y u) → HeapRel G H w → TagOK G w → GI.bd ≤ d →
  CallsIn Fence.wide 0 P g vs w (fun e w' => ∃ (v : Value) (G' : Gh) (r : AV) (H' : List AObj), e = .returned v ∧ Rep G' w' none r v ∧ HeapRel G' H' w' ∧ TagOK G' w' ∧ Keep (d + 1) G w G' w' ∧ post r H')
/-- What is asked at a body's end: the first j of its objects are handed back. -/
def FO (P : Program) (rs : List ResultVar) (n : Nat) (post : AV → List AObj → Prop) (e : Exit) (st' : St) : Prop :=
 (e = .normal ∨ e = .ret) ∧ st'.defs = [] ∧ ∃ (r : AV) (rv : ResultVar) (j : Nat), rs = [rv] ∧ ResV P st' rv r ∧ Low (n + j) r ∧ (∀ x ∈ st'.up ++ st'.own.take j, ObjLow (n + j) x) ∧ j ≤ st'.own.length ∧ post r (st'.up ++ st'.own.take j)
theorem ACallO.ofBody {g : FuncId} {fn : Func} {c : Code} {args : List AV} {H : List AObj} {post : AV → List AObj → Prop} {rs : List ResultVar} {n : Nat} (hf : P.funcs[g]? = some fn) (hb : fn.body = some c) (hrs : fn.results = rs.toArray)
  (hn : fn.ntmps = n) (hargs : args.length ≤ n) (h : ∀ d, AW P (d + 1) c ⟨n, argsF args, H, [], [], none⟩ (FO P rs H.length post)) : ACallO P g args H post := by
 intro d G w vs hvs hrep hH hT hTop
 refine callsIn_of_wp_marks hf hb trivial ?_
 have hst : StRel (d + 1) G ⟨n, argsF args, H, [], [], none⟩ { tmps := vs ++ Array.replicate (fn.ntmps - vs.size) undef, defers := [] } w := by
  refine ⟨?_, fun s => ?_, by simpa using hH, (by rw [C8 hTop]; rfl), (fun o ho => by simp at ho), List.nodup_nil, (fun o ho => by simp at ho), hT, (fun l hl => by cases hl), fun x hx => ?_, Nat.le_succ_of_le hTop⟩
  ·simp only [Array.size_append, Array.size_replicate, hvs, hn]; omega
  ·show Rep G w _ (args.getD s (.v undef)) _
   rw [List.getD_eq_getElem?_getD, Array.getD_eq_getD_getElem?]
   rcases Nat.lt_or_ge s args.length with h' | h'
   ·rw [List.getElem?_eq_getElem h', Array.getElem?_append_left (by omega), Array.getElem?_eq_getElem (by omega)]
    exact hrep s _ _ (List.getElem?_eq_getElem h') (Array.getElem?_eq_getElem (by omega))
   rw [List.getElem?_eq_none h', Array.getElem?_append_right (by omega)]
   simp only [Option.getD_none]
   have : ((Array.replicate (fn.ntmps - vs.size) undef)[s - vs.size]?).getD undef = undef := by
    rw [Array.getElem?_replicate]; split <;> rfl
   rw [this]
   exact .v _ _
  obtain ⟨i, hi⟩ := List.getElem?_of_mem hx
  have hob := hH.obj i x hi
  show ObjLow H.length x
  rw [← hH.n]
  exact hob.low
 have hw := h d G _ w hst
 refine wpIn_mono hw ?_
 rintro e a' w' ⟨G1, st', h1, k1, e1, e2, e3, hcase, hdefs, r, rv, j, rfl, hres, hlow, hobjs, hj, hpost⟩
 have fin : LeavesInM Fence.wide 0 P fn a'.tmps (fun e w' => ∃ (v : Value) (G' : Gh) (r : AV) (H' : List AObj), e = .returned v ∧ Rep G' w' none r v ∧ HeapRel G' H' w' ∧ TagOK G' w' ∧ Keep (d + 1) G w G' w' ∧ post r H') a'.defers .returning w' := by
  rw [h1.defs, hdefs, C8 hTop]
  obtain ⟨v, hv, hr⟩ := hres.run h1
  have hupl : st'.up.length = H.length := e1
  have hgn : G1.n = st'.up.length + st'.own.length := by rw [h1.heap.n, List.length_append]
  have hget : ∀ (i : Nat) (x : AObj), (st'.up ++ st'.own.take j)[i]? = some x → (st'.up ++ st'.own)[i]? = some x := fun i x hx => by
   rcases Nat.lt_or_ge i st'.up.length with h' | h'
   ·rw [List.getElem?_append_left h'] at hx ⊢; exact hx
   rw [List.getElem?_append_right h'] at hx ⊢
   rw [List.getElem?_take] at hx
   split at hx
   ·exact hx
   cases hx
  refine ⟨v, by simp [Cz, hrs, hv], v, { G1 with n := H.length + j }, r, st'.up ++ st'.own.take j, rfl, hr.cut hlow, ⟨fun i x hx => (h1.heap.obj i x (hget i x hx)).cut (hobjs x (List.mem_of_getElem? hx)), ?_, fun a b ha hb' e => ?_⟩,
   ⟨h1.tags.ex, h1.tags.obj, h1.tags.tail, h1.tags.globCut (by rw [hgn]; omega)⟩, ?_, hpost⟩
  ·show H.length + j = _
   rw [List.length_append, List.length_take, Nat.min_eq_left hj, hupl]
  ·exact h1.heap.inj a b (by rw [hgn]; simp only at ha; omega) (by rw [hgn]; simp only at hb'; omega) e
  have hGn : G.n = H.length := hH.n
  exact ⟨k1.fix, k1.slot, by rw [hGn]; exact Nat.le_add_right _ _, k1.blk, k1.os, k1.tape, k1.output, k1.size, k1.old.cut (by rw [hgn]; omega)⟩
 rcases hcase with rfl | rfl
 ·exact fin
 exact fin
end
section
variable {P : Program} {d : Nat} {ops : Array Oper} {rest : List Oper} {sz s : Nat} {fr : Nat → AV} {up own : List AObj} {dfs : List Nat} {rnd : Option Nat} {Q : St → Prop} {ty : TypeId} {pos : String} {aft : Array Edge}
theorem ACallO.body {g : FuncId} {fn : Func} {c : Code} {args : List AV} {H : List AObj} {post : AV → List AObj → Prop} {fr' : Nat → AV} (rs : List ResultVar) (l : List Nat) {n : Nat} (hf : P.funcs[g]? = some fn) (hn : fn.ntmps = n)
  (h : ∀ d, AW P (d + 1) c ⟨n, fr', H, [], [], none⟩ (FO P rs H.length post)) (hb : fn.body = some c := by rfl) (hrs : fn.results = rs.toArray := by rfl) (hargs : args.length ≤ n := by exact sL3)
  (hk : Gp l (argsF args) = fr' := by exact sL0) : ACallO P g args H post :=
 ACallO.ofBody hf hb hrs hn hargs (fun d => AW.keep l hk (h d))
/-- The end of such a body. -/
theorem K.finO {rs : List ResultVar} {n : Nat} {post : AV → List AObj → Prop} {r : AV} {rv : ResultVar} {st : St} (j : Nat) (hres : ResV P st rv r) (hp : post r (st.up ++ st.own.take j)) (hlow : Low (n + j) r) (hobj : ∀ x ∈ st.up ++ st.own.take j, ObjLow (n + j) x)
  (hd : st.defs = [] := by rfl) (hr : rs = [rv] := by rfl) (hj : j ≤ st.own.length := by simp) : FO P rs n post .ret st := ⟨.inr rfl, hd, r, rv, j, hr, hres, hlow, hobj, hj, hp⟩
/-- A call of such a function. -/
theorem R.callO {g : FuncId} {xs : List Operand} {ats : Array TypeId} {args : List AV} {post : AV → List AObj → Prop} (hcall : ∀ args w, (callFunc g args).run P w = .ok (.enter g args) w)
  (h : ACallO P g args (up ++ own) post) (hp : ∀ r H', post r H' → ∃ O, H' = up ++ (own ++ O) ∧ ARun P d ops rest ⟨sz, A5 s r fr, up, own ++ O, dfs, rnd⟩ Q)
  (ha : xs.map (A8 fr) = args := by exact sL0) (hs : Nat.blt s sz = true := by rfl) :
  ARun P d ops (⟨some s, .call ⟨.value (.func g), xs.toArray, ats⟩, ty, pos, aft, none⟩ :: rest) ⟨sz, fr, up, own, dfs, rnd⟩ Q := by
 refine ARun.op rfl (Q1 := fun s' => ARun P d ops rest s' Q) ?_ (fun s' e => e)
 intro G a w hr Q'
 have hs : s < sz := by simpa using hs
 have hxr := H3 hr xs
 have ha' : xs.map (St.ev ⟨sz, fr, up, own, dfs, rnd⟩) = args := ha
 rw [ha'] at hxr
 have hrun : (execOp a.eval (⟨some s, .call ⟨.value (.func g), xs.toArray, ats⟩, ty, pos, aft, none⟩ : Oper)).run P w = .ok (.enter g (xs.map a.eval).toArray) w := by
  have := Fq (P := P) (dst := some s) (ty := ty) (pos := pos) (aft := aft) (gd := none) (ats := ats) (f := .func g) (xs := xs) (g := g) (va := #[]) (vc := #[]) (a := a) (w := w) hcall rfl
  simpa using this
 refine Iu (by intro c h; cases h) hrun (h d G w _ (by rw [← ha']; simp) (fun i y u hy hu => (hxr i y u hy hu).lift) hr.heap hr.tags hr.top) ?_
 rintro e w' ⟨v, G', r, H', rfl, hrep, hH, hT, hk, hpo⟩
 obtain ⟨O, rfl, hrn⟩ := hp r H' hpo
 have h3 := hr.called (U := up) (O := own ++ O) hH hT hk rfl rfl (fun o ho => by
  have := hr.defsAt o ho
  rw [← List.append_assoc, List.getElem?_append_left (List.getElem?_eq_some_iff.1 this).1]
  exact this) hr.low
 obtain ⟨h4, k4⟩ := h3.took hrep.lift (s := s) hs
 exact ⟨v, rfl, _, _, h4, (hk.less (Nat.le_succ d)).trans k4, rfl, rfl, rfl, hrn⟩
end
end Go.SX
