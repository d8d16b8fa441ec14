/- Texts on the way to this: FuseOver answers true for whatever it is handed: any tree over any trees of any columns is what the chapter says, or the error, and the weight of trees is the sum of their nodes. (part 7) -/
import Derived.ReadAgain
import Derived.ChangeSame
import Derived.ChangeArms
import Derived.ChangeOld
import Derived.ChangeFn
import Derived.MapPlaces
import Derived.DataReads
import Derived.OpenShut
import Derived.RowKit
import Derived.Deep.DeepHandedRow
import Derived.Test.YtepoiomaocjhfaaGreatDoorCards
import Derived.Test.YtepoiomaocjhfaaGreatDoorTie
import Derived.Lay
import Derived.Lib.LaidTab
import Derived.Stop.LaidErr
import Derived.Shelf.Vars
import Derived.ChangeBears
import Derived.Test.YtepoiomaocjhfaaGreatDoorFuseOverCardSaidPart6
set_option linter.all false
namespace Go.SX
variable [GI : GlobInv]
open Classical Go.RowKit Go.ChangeShapes
section
variable {P : Program} {H : Type} {enc : TypeId × Value → H}

/-- The first ghost: whatever lies there is read for good. -/
noncomputable def G0 (W : World) : Gh := ⟨fun b o => if (W.cell? ⟨b, o, none⟩).isSome then .fix else .free, fun _ => 0, 0⟩
theorem rq {W : World} {b o : Nat} {u : Value} (h : W.cell? ⟨b, o, none⟩ = some u) : (G0 W).tag b o = .fix := by simp [G0, h]
theorem M0 {W : World} {b : Nat} (h : b < W.heap.size) : Fu (G0 W) W b := ⟨h, fun o => by simp only [G0]; split <;> simp, fun i hi => absurd hi (Nat.not_lt_zero _)⟩
theorem mx (W : World) : HeapRel (G0 W) [] W := ⟨fun i x h => by simp at h, rfl, fun i j hi => absurd hi (Nat.not_lt_zero _)⟩
theorem my {W : World} (h : Gl W) : TagOK (G0 W) W := by
 refine ⟨fun b o hb => ?_, fun b o i hb => ?_, fun b o L hb => ?_, fun x hx => ?_⟩
 ·simp only [G0] at hb
  split at hb
  ·rename_i hs; exact Option.isSome_iff_exists.1 hs
  exact absurd rfl hb
 ·simp only [G0] at hb; split at hb <;> cases hb
 ·simp only [G0] at hb; split at hb <;> cases hb
 obtain ⟨v, h1, h2⟩ := h x hx
 exact ⟨M0 (Array.getElem?_eq_some_iff.1 h1).1, v, h1, h2⟩

/-- What a datum of a xb type xd as. -/
inductive DRep (P : Program) : TypeId → DataW H → AV → Prop
 | int {t : TypeId} {k : IntKind} {n : Int} (hu : P.underlying t = some (.int k)) (wf : (Lit.int k n).wf = true) : DRep P t (.lit (.int k n)) (.v (.int k n))
 | bool {t : TypeId} {b : Bool} (hu : P.underlying t = some .bool) : DRep P t (.lit (.bool b)) (.v (.bool b))
 | str {t : TypeId} {bs : List UInt8} (hu : P.underlying t = some .string) : DRep P t (.lit (.string bs)) (.v (sv bs))
 | nil {t e : TypeId} (hu : P.underlying t = some (.slice e)) : DRep P t .nil (.slice false (P.cellsOf e) [])
 | slice {t e : TypeId} {elems spare : List (DataW H)} {ys : List AV} (hu : P.underlying t = some (.slice e)) (hn : ys.length = elems.length)
   (h : ∀ (i : Nat) (d : DataW H) (y : AV), elems[i]? = some d → ys[i]? = some y → DRep P e d y) : DRep P t (.slice elems spare) (.slice false (P.cellsOf e) ys)
 | struct {t : TypeId} {fs : Array Field} {parts : List (DataW H)} {ys : List AV} (hu : P.underlying t = some (.struct fs)) (hn : parts.length = fs.size) (hn' : ys.length = fs.size)
   (h : ∀ (i : Nat) (f : Field) (d : DataW H) (y : AV), fs[i]? = some f → parts[i]? = some d → ys[i]? = some y → DRep P f.type d y) : DRep P t (.agg parts) (.agg (ys.flatMap AV.cells))

/-- Types that are made of numbers, texts, bools, slices and structs alone. -/
structure PlainT (P : Program) (T : TypeId → Prop) : Prop where
 look : ∀ t, T t → (P.cellsOf t = 1 ∧ ((∃ k, P.underlying t = some (.int k)) ∨ P.underlying t = some .bool ∨ P.underlying t = some .string ∨ (∃ e, P.underlying t = some (.slice e) ∧ T e ∧ 0 < P.cellsOf e))) ∨
  (∃ fs, P.underlying t = some (.struct fs) ∧ (∀ f ∈ fs.toList, T f.type) ∧ P.cellsOf t = (fs.toList.map fun f => P.cellsOf f.type).sum ∧
   ∀ (j : Nat) (f : Field), fs.toList[j]? = some f → f.offset = ((fs.toList.take j).map fun f => P.cellsOf f.type).sum)

/-- The reading of a row of cells. -/
def CRep (W : World) (y : AV) (cs : List Value) : Prop :=
 y.cells.length = cs.length ∧ (∀ c ∈ y.cells, c.one = true) ∧ ∀ (j : Nat) (c : AV) (v : Value), y.cells[j]? = some c → cs[j]? = some v → Rep (G0 W) W none c v

theorem CRep.v1 {W : World} {x : Value} (h : x.oneCell' = true) : CRep W (.v x) [x] :=
 ⟨rfl, by simp [AV.cells, AV.one, h], fun j c v h1 h2 => by
  match j with
  | 0 => simp [AV.cells] at h1 h2; subst h1; subst h2; exact .v _ _
  | j + 1 => simp [AV.cells] at h1⟩

theorem Uw {f : AV → List AV} : ∀ (ys : List AV) (j : Nat) (c : AV), (ys.flatMap f)[j]? = some c → ∃ (i : Nat) (y : AV) (q : Nat), ys[i]? = some y ∧ (f y)[q]? = some c ∧ j = ((ys.take i).map fun y => (f y).length).sum + q
 | [], j, c, h => by simp at h
 | y :: r, j, c, h => by
  rw [List.flatMap_cons] at h
  rcases Nat.lt_or_ge j (f y).length with h' | h'
  ·rw [List.getElem?_append_left h'] at h
   exact ⟨0, y, j, rfl, h, by simp⟩
  rw [List.getElem?_append_right h'] at h
  obtain ⟨i, z, q, h1, h2, h3⟩ := Uw r _ c h
  exact ⟨i + 1, z, q, h1, h2, by simp only [List.take_succ_cons, List.map_cons, List.sum_cons]; omega⟩
theorem Iv {α : Type} {R : Nat → α → Prop} : ∀ (n : Nat), (∀ i, i < n → ∃ y, R i y) → ∃ ys : List α, ys.length = n ∧ ∀ (i : Nat) (y : α), ys[i]? = some y → R i y
 | 0, _ => ⟨[], rfl, fun i y h => by simp at h⟩
 | n + 1, h => by
  obtain ⟨ys, h1, h2⟩ := Iv n (fun i hi => h i (by omega))
  obtain ⟨y, hy⟩ := h n (by omega)
  refine ⟨ys ++ [y], by simp [h1], fun i z hz => ?_⟩
  rcases Nat.lt_or_ge i n with h' | h'
  ·rw [List.getElem?_append_left (by omega)] at hz; exact h2 i z hz
  rw [List.getElem?_append_right (by omega)] at hz
  have : i = n := by
   have := (List.getElem?_eq_some_iff.1 hz).1
   simp at this; omega
  subst this
  rw [h1] at hz
  simp at hz
  exact hz ▸ hy
theorem K9 {α β : Type} {f : α → Nat} {g : β → Nat} : ∀ (l : List α) (m : List β), l.length = m.length → (∀ (i : Nat) (a : α) (b : β), l[i]? = some a → m[i]? = some b → f a = g b) → (l.map f).sum = (m.map g).sum
 | [], [], _, _ => rfl
 | [], b :: m, h, _ => by simp at h
 | a :: l, [], h, _ => by simp at h
 | a :: l, b :: m, h, hh => by
  simp only [List.map_cons, List.sum_cons]
  rw [hh 0 a b rfl rfl, K9 l m (by simpa using h) (fun i a b h1 h2 => hh (i + 1) a b h1 h2)]

theorem j5 {T : TypeId → Prop} (PT : PlainT P T) {W : World} : ∀ (n : Nat) (t : TypeId) (cs : List Value) (x : DataW H × List MemPlace), T t → DataW.trod enc P W 0 (fun _ => true) true n t cs = some x →
  ∃ y, DRep P t x.1 y ∧ CRep W y cs ∧ cs.length = P.cellsOf t := by
 intro n
 induction n with
 | zero => intro t cs x _ h; simp [DataW.trod] at h
 | succ n ih =>
  intro t cs x hT h
  rcases PT.look t hT with ⟨hc1, ⟨k, hu⟩ | hu | hu | ⟨e, hu, he, hz⟩⟩ | ⟨fs, hu, hf, hsum, hoff⟩
  ·obtain ⟨m, rfl, rfl, hw⟩ := DataW.trod_int hu h
   exact ⟨_, .int hu hw, .v1 rfl, hc1.symm⟩
  ·obtain ⟨b, rfl, rfl⟩ := DataW.trod_bool hu h
   exact ⟨_, .bool hu, .v1 rfl, hc1.symm⟩
  ·obtain ⟨s, rfl, rfl, _⟩ := DataW.trod_string hu h
   exact ⟨_, .str hu, .v1 rfl, hc1.symm⟩
  ·rcases DataW.trod_slice hu h with ⟨rfl, rfl⟩ | ⟨a, len, cap, elems, rest, m, hm, rfl, rfl, hb, hlc, hcm, hel, hE, _, _⟩
   ·refine ⟨_, .nil hu, ⟨rfl, by simp [AV.cells, AV.one], fun j c v h1 h2 => ?_⟩, hc1.symm⟩
    match j with
    | 0 => simp [AV.cells] at h1 h2; subst h1; subst h2; exact .slice0 _ _ _
    | j + 1 => simp [AV.cells] at h1
   injection hm with hm
   subst hm
   subst hel
   have hEi : ∀ i, i < elems.length → ∃ y, (∀ d, elems[i]? = some d → DRep P e d.1 y) ∧ ∃ ci, W.cells? 0 (a.add (i * P.cellsOf e)) (P.cellsOf e) = some ci ∧ CRep W y ci := fun i hi => by
    have h1 := hE i hi
    rw [List.getElem?_eq_getElem hi, Option.bind_eq_some_iff] at h1
    obtain ⟨ci, h2, h3⟩ := h1
    obtain ⟨y, h4, h5, _⟩ := ih e ci _ he h3
    exact ⟨y, fun d hd => by rw [List.getElem?_eq_getElem hi] at hd; injection hd with hd; subst hd; exact h4, ci, h2, h5⟩
   obtain ⟨ys, hyl, hys⟩ := Iv elems.length hEi
   refine ⟨.slice false (P.cellsOf e) ys, .slice hu (by simp [hyl]) (fun i d y hd hy => ?_), ⟨rfl, by simp [AV.cells, AV.one], fun j c v h1 h2 => ?_⟩, hc1.symm⟩
   ·rw [List.getElem?_map, Option.map_eq_some_iff] at hd
    obtain ⟨d', hd', rfl⟩ := hd
    exact (hys i y hy).1 d' hd'
   match j with
   | j + 1 => simp [AV.cells] at h1
   | 0 =>
    simp [AV.cells] at h1 h2
    subst h1; subst h2
    by_cases h0 : elems.length = 0
    ·have : ys = [] := List.eq_nil_of_length_eq_zero (by omega)
     subst this
     rw [h0]
     exact .sliceE _ _ _ _
    have hspot : a.spot = none := by
     obtain ⟨ci, hci, _⟩ := (hys 0 ys[0] (List.getElem?_eq_getElem (by omega))).2
     obtain ⟨_, g1, g2⟩ := World.cells?_some hci
     have g3 := g2 0 hz
     rw [List.getElem?_eq_getElem (by omega)] at g3
     simp only [Nat.zero_mul, Addr.add, if_true] at g3
     unfold World.cell? at g3
     split at g3
     ·split at g3
      ·cases g3
      rename_i hs; simpa using hs
     cases g3
    refine .slice _ false _ ys a _ cap (fun i j => (W.cell? ⟨a.block, a.off + i * P.cellsOf e + j, none⟩).getD undef) hspot hyl.symm hlc (fun x hx => ?_) (fun x hx => ?_) (fun i x j y hx hy => ?_) (fun i x j y hx hy => ?_) (fun h => by cases h)
    ·obtain ⟨i, hi⟩ := List.getElem?_of_mem hx
     obtain ⟨ci, hci, hcr⟩ := (hys i x hi).2
     rw [hcr.1]
     exact (World.cells?_some hci).2.1
    ·obtain ⟨i, hi⟩ := List.getElem?_of_mem hx
     obtain ⟨ci, hci, hcr⟩ := (hys i x hi).2
     exact hcr.2.1
    ·obtain ⟨ci, hci, hcr⟩ := (hys i x hx).2
     obtain ⟨_, g1, g2⟩ := World.cells?_some hci
     have hj : j < P.cellsOf e := by
      have := (List.getElem?_eq_some_iff.1 hy).1
      rw [hcr.1] at this; omega
     have g3 := g2 j hj
     rw [List.getElem?_eq_getElem (by omega), B2 hspot, B2 rfl] at g3
     exact ⟨rq g3, by rw [g3]; rfl⟩
    obtain ⟨ci, hci, hcr⟩ := (hys i x hx).2
    obtain ⟨_, g1, g2⟩ := World.cells?_some hci
    have hj : j < P.cellsOf e := by
     have := (List.getElem?_eq_some_iff.1 hy).1
     rw [hcr.1] at this; omega
    have g3 := g2 j hj
    rw [List.getElem?_eq_getElem (by omega), B2 hspot, B2 rfl] at g3
    simp only at g3
    rw [g3]
    exact hcr.2.2 j y _ hy (List.getElem?_eq_getElem (by omega))
  obtain ⟨xs, m, hm, rfl, hcl, hxl, hX⟩ := DataW.trod_struct hu h
  injection hm with hm
  subst hm
  have hXi : ∀ i, i < fs.size → ∃ y, ∀ (f : Field), fs[i]? = some f → (∀ d, xs[i]? = some d → DRep P f.type d.1 y) ∧ CRep W y ((cs.drop f.offset).take (P.cellsOf f.type)) ∧ y.cells.length = P.cellsOf f.type := fun i hi => by
   have h1 := hX i fs[i] (Array.getElem?_eq_getElem hi)
   rw [List.getElem?_eq_getElem (by omega)] at h1
   obtain ⟨y, h2, h3, h4⟩ := ih _ _ _ (hf _ (by simp)) h1
   refine ⟨y, fun f hf' => ?_⟩
   rw [Array.getElem?_eq_getElem hi] at hf'
   injection hf' with hf'
   subst hf'
   exact ⟨fun d hd => by rw [List.getElem?_eq_getElem (by omega)] at hd; injection hd with hd; subst hd; exact h2, h3, by rw [h3.1, h4]⟩
  obtain ⟨ys, hyl, hys⟩ := Iv fs.size hXi
  have hlenI : ∀ (i : Nat), ((ys.take i).map fun y => y.cells.length).sum = ((fs.toList.take i).map fun f => P.cellsOf f.type).sum := fun i => by
   refine K9 _ _ (by simp [hyl]) (fun j y f h1 h2 => ?_)
   rw [List.getElem?_take] at h1 h2
   split at h1
   ·rename_i hj
    rw [if_pos hj] at h2
    exact (hys j y h1 f (by simpa using h2)).2.2
   cases h1
  have htot : (ys.flatMap AV.cells).length = cs.length := by
   rw [List.length_flatMap, hcl, hsum]
   refine K9 _ _ (by simp [hyl]) (fun j y f h1 h2 => (hys j y h1 f (by simpa using h2)).2.2)
  refine ⟨.agg (ys.flatMap AV.cells), .struct hu (by simp [hxl]) hyl (fun i f d y hf' hd hy => ?_), ⟨htot, fun c hc => ?_, fun j c v h1 h2 => ?_⟩, hcl⟩
  ·rw [List.getElem?_map, Option.map_eq_some_iff] at hd
   obtain ⟨d', hd', rfl⟩ := hd
   exact (hys i y hy f hf').1 d' hd'
  ·obtain ⟨y, hy, hcy⟩ := List.mem_flatMap.1 hc
   obtain ⟨i, hi⟩ := List.getElem?_of_mem hy
   have hlt : i < fs.size := by rw [← hyl]; exact (List.getElem?_eq_some_iff.1 hi).1
   exact ((hys i y hi fs[i] (Array.getElem?_eq_getElem hlt)).2.1).2.1 c hcy
  obtain ⟨i, y, q, g1, g2, rfl⟩ := Uw ys j c h1
  have hlt : i < fs.size := by rw [← hyl]; exact (List.getElem?_eq_some_iff.1 g1).1
  obtain ⟨_, k2, k3⟩ := hys i y g1 fs[i] (Array.getElem?_eq_getElem hlt)
  have hq : q < P.cellsOf (fs[i]).type := by have := (List.getElem?_eq_some_iff.1 g2).1; omega
  refine k2.2.2 q c v g2 ?_
  rw [List.getElem?_take, if_pos hq, List.getElem?_drop, hoff i fs[i] (by simp [hlt]), ← hlenI i]
  exact h2

/-- A measure of data. -/
structure Bulk (B : DataW H → Nat) : Prop where
 str : ∀ bs, bs.length ≤ B (.lit (.string bs))
 slice : ∀ elems spare, elems.length ≤ B (.slice elems spare) ∧ ∀ d ∈ elems, B d ≤ B (.slice elems spare)
 agg : ∀ parts, ∀ d ∈ parts, B d ≤ B (.agg parts)
theorem DRep.int' {t : TypeId} {k : IntKind} {d : DataW H} {y : AV} (hu : P.underlying t = some (.int k)) (h : DRep P t d y) : ∃ n, d = .lit (.int k n) ∧ y = .v (.int k n) ∧ k.min ≤ n ∧ n ≤ k.max := by
 cases h with
 | int hu' wf => rw [hu] at hu'; injection hu' with e; injection e with e; subst e; exact ⟨_, rfl, rfl, by simpa [Lit.wf] using wf⟩
 | _ hu' => rw [hu] at hu'; cases hu'
theorem DRep.str' {t : TypeId} {d : DataW H} {y : AV} (hu : P.underlying t = some .string) (h : DRep P t d y) : ∃ s, d = .lit (.string s) ∧ y = .v (sv s) := by
 cases h with
 | str hu' => exact ⟨_, rfl, rfl⟩
 | _ hu' => rw [hu] at hu'; cases hu'
theorem DRep.slice' {t e : TypeId} {d : DataW H} {y : AV} {B : DataW H → Nat} (hB : Bulk B) {α : Type} (A : α → AV) (R : α → Prop) {b : Nat} (hu : P.underlying t = some (.slice e)) (h : DRep P t d y) (hb : B d ≤ b)
  (hE : ∀ d y, B d ≤ b → DRep P e d y → ∃ x, y = A x ∧ R x) : ∃ l : List α, y = .slice false (P.cellsOf e) (l.map A) ∧ l.length ≤ b ∧ ∀ x ∈ l, R x := by
 cases h with
 | nil hu' => rw [hu] at hu'; injection hu' with e'; injection e' with e'; subst e'; exact ⟨[], rfl, Nat.zero_le _, fun x hx => by cases hx⟩
 | slice hu' hn hh =>
  rw [hu] at hu'; injection hu' with e'; injection e' with e'; subst e'
  rename_i elems spare ys
  obtain ⟨h1, h2⟩ := hB.slice elems spare
  have key : ∀ (ys : List AV) (es : List (DataW H)), ys.length = es.length → (∀ d ∈ es, B d ≤ b) → (∀ (i : Nat) (d : DataW H) (y : AV), es[i]? = some d → ys[i]? = some y → DRep P e d y) → ∃ l : List α, ys = l.map A ∧ ∀ x ∈ l, R x := by
   intro ys
   induction ys with
   | nil => exact fun es _ _ _ => ⟨[], rfl, fun x hx => by cases hx⟩
   | cons y ys ih =>
    intro es hl hb2 hr
    cases es with
    | nil => simp at hl
    | cons d es =>
     obtain ⟨x, rfl, hx⟩ := hE d y (hb2 d (by simp)) (hr 0 d y rfl rfl)
     obtain ⟨l, rfl, hR⟩ := ih es (by simpa using hl) (fun d hd => hb2 d (by simp [hd])) (fun i d y a c => hr (i + 1) d y a c)
     exact ⟨x :: l, rfl, fun z hz => by
      rcases List.mem_cons.1 hz with rfl | hz
      ·exact hx
      exact hR z hz⟩
  obtain ⟨l, rfl, hR⟩ := key ys elems hn (fun d hd => Nat.le_trans (h2 d hd) hb) hh
  exact ⟨l, rfl, by simp at hn; omega, hR⟩
 | _ hu' => rw [hu] at hu'; cases hu'
theorem DRep.struct' {t : TypeId} {fs : Array Field} {d : DataW H} {y : AV} {B : DataW H → Nat} (hB : Bulk B) (hu : P.underlying t = some (.struct fs)) (h : DRep P t d y) :
  ∃ ys : List AV, ys.length = fs.size ∧ y = .agg (ys.flatMap AV.cells) ∧ ∀ (i : Nat) (f : Field) (z : AV), fs[i]? = some f → ys[i]? = some z → ∃ d', B d' ≤ B d ∧ DRep P f.type d' z := by
 cases h with
 | struct hu' hn hn' hh =>
  rw [hu] at hu'; injection hu' with e'; injection e' with e'; subst e'
  rename_i parts ys
  refine ⟨ys, hn', rfl, fun i f z h1 h2 => ?_⟩
  have hlt : i < parts.length := by rw [hn]; exact (Array.getElem?_eq_some_iff.1 h1).1
  exact ⟨parts[i], hB.agg parts _ (List.getElem_mem hlt), hh i f parts[i] z h1 (List.getElem?_eq_getElem hlt) h2⟩
 | _ hu' => rw [hu] at hu'; cases hu'

/-- An argument's reading. -/
theorem mz {T : TypeId → Prop} (PT : PlainT P T) {W : World} {t : TypeId} {v : Value} {d : DataW H} {ps : List MemPlace} {b0 : Nat} (hT : T t) (hok : Value.okWide P W .any b0 t v) (h : DataW.Trod enc P W 0 (fun _ => true) true t v d ps) :
  ∃ y, DRep P t d y ∧ Rep (G0 W) W none y v := by
 obtain ⟨n, hn⟩ := h
 obtain ⟨y, h1, h2, h3⟩ := j5 PT n t _ _ hT hn
 refine ⟨y, h1, ?_⟩
 rcases PT.look t hT with ⟨hc1, hone⟩ | ⟨fs, hu, _⟩
 ·have hva : ∀ cs, v ≠ .agg cs := fun cs e => by
   subst e
   rcases hone with ⟨k, hu⟩ | hu | hu | ⟨e, hu, he, hz⟩ <;> simp [Value.okWide, hu, Cell.okWide, Cell.ok] at hok
  have hvc : v.cells = #[v] := by cases v <;> first | rfl | exact absurd rfl (hva _)
  have hyc : y.cells = [y] := by
   cases h1 with
   | struct hu => rcases hone with ⟨k, hu'⟩ | hu' | hu' | ⟨e, hu', he, hz⟩ <;> rw [hu] at hu' <;> cases hu'
   | _ => rfl
  have := h2.2.2 0 y v (by rw [hyc]; rfl) (by rw [hvc]; rfl)
  exact this
 obtain ⟨cs, rfl, hsz, _⟩ : ∃ cs, v = .agg cs ∧ cs.size = P.cellsOf t ∧ Row.okWide P W .any b0 t cs := by
  simp only [Value.okWide, hu] at hok
  exact hok
 cases h1 with
 | struct hu' hn1 hn2 hh =>
  refine .agg _ _ _ (by have := h2.1; simp only [AV.cells, Value.cells, Array.length_toList] at this; exact this.symm) h2.2.1 (fun i c u a b => h2.2.2 i c u a (by simpa [Value.cells] using b))
 | int hu' => rw [hu] at hu'; cases hu'
 | bool hu' => rw [hu] at hu'; cases hu'
 | str hu' => rw [hu] at hu'; cases hu'
 | nil hu' => rw [hu] at hu'; cases hu'
 | slice hu' => rw [hu] at hu'; cases hu'

def DReps (P : Program) : List TypeId → List (DataW H) → List AV → Prop
 | [], [], [] => True
 | t :: ts, d :: ds, y :: ys => DRep P t d y ∧ DReps P ts ds ys
 | _, _, _ => False

theorem DReps.cons' {t : TypeId} {ts : List TypeId} {ds : List (DataW H)} {ys : List AV} (h : DReps P (t :: ts) ds ys) : ∃ d ds' y ys', ds = d :: ds' ∧ ys = y :: ys' ∧ DRep P t d y ∧ DReps P ts ds' ys' := by
 match ds, ys, h with
 | d :: ds', y :: ys', ⟨h1, h2⟩ => exact ⟨d, ds', y, ys', rfl, rfl, h1, h2⟩
 | [], _, h => simp [DReps] at h
 | _ :: _, [], h => simp [DReps] at h
theorem DReps.nil' {ds : List (DataW H)} {ys : List AV} (h : DReps P [] ds ys) : ds = [] ∧ ys = [] := by
 match ds, ys, h with
 | [], [], _ => exact ⟨rfl, rfl⟩
 | [], _ :: _, h => simp [DReps] at h
 | _ :: _, _, h => simp [DReps] at h
theorem Qv {T : TypeId → Prop} (PT : PlainT P T) {W : World} {b0 : Nat} : ∀ (ts : List TypeId) (vs : List Value) (ds : List (DataW H)) (ps : List MemPlace), (∀ t ∈ ts, T t) →
  (∀ (j : Nat) t v, ts[j]? = some t → vs[j]? = some v → Value.okWide P W .any b0 t v) → DataW.TrodAll enc P W 0 (fun _ => true) true ts vs ds ps →
  ∃ ys, DReps P ts ds ys ∧ ys.length = vs.length ∧ ∀ (i : Nat) (y : AV) (u : Value), ys[i]? = some y → vs[i]? = some u → Rep (G0 W) W none y u
 | [], [], [], _, _, _, _ => ⟨[], trivial, rfl, fun i y u h => by simp at h⟩
 | t :: ts, v :: vs, d :: ds, ps, hT, hok, ⟨p, q, h1, h2, _⟩ => by
  obtain ⟨y, k1, k2⟩ := mz PT (hT t (by simp)) (hok 0 t v rfl rfl) h1
  obtain ⟨ys, k3, k4, k5⟩ := Qv PT ts vs ds q (fun t ht => hT t (by simp [ht])) (fun j t v a b => hok (j + 1) t v a b) h2
  refine ⟨y :: ys, ⟨k1, k3⟩, by simp [k4], fun i z u a b => ?_⟩
  match i with
  | 0 => simp at a b; subst a; subst b; exact k2
  | i + 1 => exact k5 i z u a b
 | [], _ :: _, _, _, _, _, h => by simp [DataW.TrodAll] at h
 | [], [], _ :: _, _, _, _, h => by simp [DataW.TrodAll] at h
 | _ :: _, [], _, _, _, _, h => by simp [DataW.TrodAll] at h
 | _ :: _, _ :: _, [], _, _, _, h => by simp [DataW.TrodAll] at h

theorem Mt {W : World} {sp : Nat → Bool} {hd : Bool} : ∀ {ts : List TypeId} {vs : List Value} {ds : List (DataW H)} {ps : List MemPlace}, DataW.TrodAll enc P W 0 sp hd ts vs ds ps → ds.length = ts.length
 | [], [], [], _, _ => rfl
 | _ :: _, _ :: _, _ :: _, _, ⟨_, _, _, h, _⟩ => by rw [List.length_cons, List.length_cons, Mt h]
 | [], _ :: _, _, _, h => by simp [DataW.TrodAll] at h
 | [], [], _ :: _, _, h => by simp [DataW.TrodAll] at h
 | _ :: _, [], _, _, h => by simp [DataW.TrodAll] at h
 | _ :: _, _ :: _, [], _, h => by simp [DataW.TrodAll] at h
theorem Iw {W W' : World} {sp : Nat → Bool} : ∀ {ts : List TypeId} {vs : List Value} {ds : List (DataW H)} {ps : List MemPlace}, DataW.TrodAll enc P W 0 sp true ts vs ds ps → (∀ p ∈ ps, W.sameAt W' p) → DataW.TrodAll enc P W' 0 sp true ts vs ds ps
 | [], [], [], _, h, _ => h
 | _ :: _, _ :: _, _ :: _, _, ⟨p, q, ⟨n, hn⟩, h2, e⟩, hs => ⟨p, q, ⟨n, DataW.trod_carry n _ _ _ hn (fun x hx => hs x (by rw [e]; exact List.mem_append_left _ hx))⟩, Iw h2 (fun x hx => hs x (by rw [e]; exact List.mem_append_right _ hx)), e⟩
 | [], _ :: _, _, _, h, _ => by simp [DataW.TrodAll] at h
 | [], [], _ :: _, _, h, _ => by simp [DataW.TrodAll] at h
 | _ :: _, [], _, _, h, _ => by simp [DataW.TrodAll] at h
 | _ :: _, _ :: _, [], _, h, _ => by simp [DataW.TrodAll] at h

/-- **A law that answers true, for whatever can be read.** -/
theorem ck {f : FuncId} {fn : Func} {s : ChangeSpec} {T : TypeId → Prop} {tb : TypeId} {W : World} {base : Nat} {args : Array Value} {ds gs : List (DataW H)} {before : List MemPlace} (K : Kids P (· < P.types.size)) (hz : ∀ t e, t < P.types.size → P.underlying t = some (.slice e) → 0 < P.cellsOf e)
  (PT : PlainT P T) (hT : ∀ t ∈ fn.params.toList, T t ∧ t < P.types.size) (hb : P.underlying tb = some .bool) (hres : fn.resultTypes = #[tb]) (hvars : s.vars = [])
  (hspec : ∀ ds : List (DataW H), ds.length = fn.params.size → s.fn H ds = { results := [.lit (.bool true)], args := ds })
  (hval : ∀ (j : Nat) t v, fn.params[j]? = some t → args[j]? = some v → Value.okWide P W .any base t v) (hW : DataW.Whole enc P fn.params.toList s.vars false W args.toList ds gs before)
  (hglob : Gl W)
  (main : ∀ ys : List AV, DReps P fn.params.toList ds ys → AFun P f ys [] (.v (.bool true))) (hbd : GI.bd ≤ 0 := by exact Nat.le_refl 0) :
  Calls P f args W (fun e W' => ∃ v, e = .returned v ∧ s.post enc P fn false true false false W args v W') := by
 have hW0 := hW
 obtain ⟨p, q, hA, hV, hpq, hfz, hnd⟩ := hW
 rw [hvars] at hV
 obtain ⟨rfl, rfl⟩ := trodVars_none hV
 rw [List.append_nil] at hpq
 subst hpq
 obtain ⟨ys, h1, h2, h3⟩ := Qv PT _ _ _ _ (fun t ht => (hT t ht).1) (fun j t v a b => hval j t v (by simpa using a) (by simpa using b)) hA
 have hlen := Mt hA
 have hc := main ys h1 0 (G0 W) W args (by simpa using h2.symm) (fun i y u a b => (h3 i y u a (by simpa using b)).lift) (mx W) (my hglob)
 refine (callsIn_wide.1 (hc hbd)).mono ?_
 rintro e W' ⟨v, G', r, H', rfl, hr, hH, hTg, hk, hl, rfl, rfl⟩
 have hv := I1 hr
 subst hv
 refine ⟨_, rfl, ds, [], before, [], before, [], hW0, ?_, ?_, ?_, ?_, fun h => by cases h⟩
 ·rw [hres, List.append_nil, hspec ds (by simpa using hlen)]
  exact trodAll_cons_mk (p := []) (shut_bool hb true) trodAll_mk0
 ·rw [List.append_nil, hspec ds (by simpa using hlen)]
  refine Iw (DataW.TrodAll.respare K hz (fun t ht => (hT t ht).2) hA (fun p hp => by simpa using hW0.lt p hp)) (fun p hp => ?_)
  have hlt := hW0.lt p hp
  have hb := (hk.old _ (M0 hlt)).1
  cases p with
  | cell b o => exact Cc hb
  | map b => exact hb
 ·rw [hvars, List.append_nil, hspec ds (by simpa using hlen)]
  rfl
 refine ⟨hk.os, hk.output, fun i hi => ?_⟩
 have hb := (hk.old i (M0 hi)).1
 rw [hb]
 cases ho : W.heap[i]? with
 | none => simp
 | some o => cases o <;> simp
end
end Go.SX
namespace Go.Proofs.YtepoiomaocjhfaaGreatDoor
open Go Go.SX Go.SX.Nb Go.ChangeShapes Go.RowKit
set_option maxRecDepth 100000

theorem own : ownKnob Tryz.prog.godebug = none := by kernel_rfl
theorem kids : Kids Tryz.prog (· < Tryz.prog.types.size) := kids_rows (by kernel_rfl) (by kernel_rfl)
theorem full : ∀ t e, t < Tryz.prog.types.size → Tryz.prog.underlying t = some (.slice e) → 0 < Tryz.prog.cellsOf e := slices_full_of Tryz.prog (by kernel_rfl)
theorem j6 {H : Type} : ∀ d : DataW H, 1 ≤ Rows.uptoBulk d
 | .lit (.string b) => by rw [Rows.uptoBulk]; omega
 | .lit (.bool _) => by simp [Rows.uptoBulk]
 | .lit (.int _ _) => by simp [Rows.uptoBulk]
 | .lit (.float _ _) => by simp [Rows.uptoBulk]
 | .lit .nil => by simp [Rows.uptoBulk]
 | .nil => by simp [Rows.uptoBulk]
 | .ptr d => by rw [Rows.uptoBulk]; omega
 | .slice a b => by rw [Rows.uptoBulk]; omega
 | .agg a => by rw [Rows.uptoBulk]; omega
 | .iface _ d => by rw [Rows.uptoBulk]; omega
 | .map a => by rw [Rows.uptoBulk]; omega
 | .held _ => by simp [Rows.uptoBulk]
theorem Oq {H : Type} : ∀ l : List (DataW H), l.length ≤ Rows.uptoBulkAll l ∧ ∀ d ∈ l, Rows.uptoBulk d ≤ Rows.uptoBulkAll l
 | [] => ⟨Nat.zero_le _, fun d h => by cases h⟩
 | d :: r => by
  obtain ⟨h1, h2⟩ := Oq r
  have := j6 d
  rw [Rows.uptoBulkAll, List.length_cons]
  refine ⟨by omega, fun x hx => ?_⟩
  rcases List.mem_cons.1 hx with rfl | hx
  ·omega
  have := h2 x hx; omega
theorem cl {H : Type} : Bulk (Rows.uptoBulk (H := H)) where
 str := fun bs => by rw [Rows.uptoBulk]; omega
 slice := fun elems spare => by
  obtain ⟨h1, h2⟩ := Oq elems
  rw [Rows.uptoBulk]
  exact ⟨by omega, fun d hd => by have := h2 d hd; omega⟩
 agg := fun parts d hd => by
  have := (Oq parts).2 d hd
  rw [Rows.uptoBulk]
  omega

/-- What the rows of this seat list. -/
def j7 : List (String × DataW Unit) := Rows.soundJoinsUptoRow.laid
theorem cm : ∀ u, Tryz.prog.typeName? 3 u = some "*errors.errorString" → u = 271 := by
 intro u hu
 exact typeName_ptr_named (nm := "errors.errorString") (by kernel_rfl) (by kernel_rfl) (by decide) u hu
theorem n5 {W : World} (h : laidMet Tryz.prog j7 W) : ∃ a : Addr, W.var? Tryz.prog "strconv.ErrRange" = some #[.iface 271 (.pointer (some a))] := by
 have h' := h.tail.tail.tail.tail
 obtain ⟨a, s, h1, _⟩ := laid_sentinel (g := 1) (ti := 133) (tp := 271) (te := 273) (ts := 9) h' (by kernel_rfl) (by kernel_rfl) Tryz.underlying133 cm Tryz.underlying271 Tryz.underlying273 rfl rfl Tryz.underlying9 (by kernel_rfl) (by kernel_rfl)
 exact ⟨a, h1⟩
theorem n6 {W : World} (h : laidMet Tryz.prog j7 W) : Lib.TabIs Tryz.prog W "internal/strconv.uint64pow10" .u64 Lib.pow10Tab :=
 Lib.tabIs_of_head (g := 4) (t := 232) (e := 210) (n := 20) (by kernel_rfl) (by kernel_rfl) (by kernel_rfl) (by kernel_rfl) (by kernel_rfl) (by kernel_rfl) h.tail.tail
theorem Qw {P : Program} {W : World} {n : String} {g : Nat} {cs : Array Value} (hg : P.globalNamed n = some g) (h : W.var? P n = some cs) : ∃ t f, W.heap[g]? = some (.cells cs t f) := by
 unfold World.var? at h
 rw [hg] at h
 simp only [Option.bind_some] at h
 split at h
 ·rename_i cs' t f e
  injection h with h
  subst h
  exact ⟨t, f, e⟩
 cases h
theorem glob {W : World} [E : ErrAt] (h : W.ShapedOpen Tryz.prog) (hl : laidMet Tryz.prog j7 W) (he : W.var? Tryz.prog "strconv.ErrRange" = some #[.iface 271 (.pointer (some E.b))]) : Gl W := by
 intro x hx
 have hx' : x ∈ Qh := hx
 unfold Qh at hx'
 simp only [List.mem_cons, List.mem_nil_iff, or_false] at hx'
 rcases hx' with rfl | rfl | rfl
 ·obtain ⟨m, hm⟩ := cell_of_shapedOpen_int (g := 0) (t := 3) (zero := #[.int .i64 0]) (k := .i64) h (of_decide_eq_true (by kernel_rfl)) (by kernel_rfl) rfl (by kernel_rfl) (by kernel_rfl) Tryz.underlying3
  obtain ⟨cs, hh, hs, _⟩ := h.1 0 #[.int .i64 0] 3 (of_decide_eq_true (by kernel_rfl)) (by kernel_rfl)
  have hs' : cs.size = 1 := hs
  have h1 : 0 < cs.size := by omega
  have hc : cs[0] = .int .i64 m := by
   simp [World.cell?, hh, h1] at hm
   exact hm
  have : cs = #[.int .i64 m] := by
   apply Array.ext
   ·simpa using hs'
   intro i h1 h2
   have : i = 0 := by omega
   subst this
   simpa using hc
  rw [this] at hh
  exact ⟨_, hh, m, 3, _, rfl⟩
 ·obtain ⟨t, f, e⟩ := Qw (g := 1) (by kernel_rfl) he
  exact ⟨_, e, t, f, rfl⟩
 obtain ⟨t, f, e⟩ := Qw (g := 4) (by kernel_rfl) (n6 hl)
 exact ⟨_, e, t, f, rfl⟩
end Go.Proofs.YtepoiomaocjhfaaGreatDoor
namespace Go.SX.Nb
open Go Go.SX Go.Proofs
variable [ErrAt]
set_option maxRecDepth 4000
mutual
def depthE : Expr → Nat
 | .mk _ _ _ k => C6 k + 1
def C6 : List Expr → Nat
  | [] => 0
  | e :: r => max (depthE e) (C6 r)
 end
mutual
def Cf (p : Expr → Bool) : Expr → Bool
 | .mk o t v k => p (.mk o t v k) && Fo p k
def Fo (p : Expr → Bool) : List Expr → Bool
  | [] => true
  | e :: r => Cf p e && Fo p r
 end
mutual
def Fx : Expr → List Expr
 | .mk o t v k => .mk o t v k :: Cq k
def Cq : List Expr → List Expr
  | [] => []
  | e :: r => Fx e ++ Cq r
 end
theorem Jg (e : Expr) : depthE e = C6 e.kids + 1 := by cases e; rfl
theorem D9 (p : Expr → Bool) (e : Expr) : Cf p e = (p e && Fo p e.kids) := by cases e; rfl
theorem Qx (e : Expr) : Fx e = e :: Cq e.kids := by cases e; rfl
theorem Jr : ∀ a b, C6 (a ++ b) = max (C6 a) (C6 b)
 | [], b => by rw [List.nil_append, C6, Nat.zero_max]
 | e :: r, b => by rw [List.cons_append, C6, C6, Jr r b, Nat.max_assoc]
theorem Gc : ∀ a b, Ah (a ++ b) = Ah a + Ah b
 | [], b => by rw [List.nil_append, Ah, Nat.zero_add]
 | e :: r, b => by rw [List.cons_append, Ah, Ah, Gc r b, Nat.add_assoc]
theorem Mu (p : Expr → Bool) : ∀ a b, Fo p (a ++ b) = (Fo p a && Fo p b)
 | [], b => by rw [List.nil_append, Fo, Bool.true_and]
 | e :: r, b => by rw [List.cons_append, Fo, Fo, Mu p r b, Bool.and_assoc]
theorem Js : ∀ a b, Cq (a ++ b) = Cq a ++ Cq b
 | [], b => rfl
 | e :: r, b => by rw [List.cons_append, Cq, Cq, Js r b, List.append_assoc]
theorem Mv (l : List Expr) {x : Nat} (h : x < l.length) : C6 (l.take (x + 1)) = max (C6 (l.take x)) (depthE l[x]) := by
 rw [List.take_succ_eq_append_getElem h, Jr, C6, C6, Nat.max_zero]
theorem Xq (l : List Expr) {x : Nat} (h : x < l.length) : Ah (l.take (x + 1)) = Ah (l.take x) + sizeE l[x] := by
 rw [List.take_succ_eq_append_getElem h, Gc, Ah, Ah, Nat.add_zero]
theorem Cv (p : Expr → Bool) : ∀ l : List Expr, Fo p l = true ↔ ∀ y ∈ l, Cf p y = true
 | [] => by simp [Fo]
 | e :: r => by rw [Fo, Bool.and_eq_true, Cv p r]; simp
mutual
theorem Da : ∀ (d : Int) (e : Expr), (At d e).length = sizeE e
 | d, .mk o t v k => by rw [At, sizeE, List.length_cons, Ot (d + 1) k, Nat.add_comm]
theorem Ot : ∀ (d : Int) (l : List Expr), (Ar d l).length = Ah l
  | d, [] => rfl
  | d, e :: r => by rw [Ar, Ah, List.length_append, Da d e, Ot d r]
 end
mutual
theorem Ka : ∀ (d : Int) (e : Expr), (At d e).map (·.2) = Fx e
 | d, .mk o t v k => by rw [At, Fx, List.map_cons, Ou (d + 1) k]
theorem Ou : ∀ (d : Int) (l : List Expr), (Ar d l).map (·.2) = Cq l
  | d, [] => rfl
  | d, e :: r => by rw [Ar, Cq, List.map_append, Ka d e, Ou d r]
 end
mutual
theorem Qy (p : Expr → Bool) : ∀ e : Expr, (Fx e).all p = Cf p e
 | .mk o t v k => by rw [Fx, Cf, List.all_cons, Ov p k]
theorem Ov (p : Expr → Bool) : ∀ l : List Expr, (Cq l).all p = Fo p l
  | [] => rfl
  | e :: r => by rw [Cq, Fo, List.all_append, Qy p e, Ov p r]
 end
theorem cn (p : Expr → Bool) (d : Int) (e : Expr) : ((At d e).all fun it => p it.2) = Cf p e := by
 rw [← Qy p e, ← Ka d e, List.all_map]
 rfl
def D3 (m : Int) (L : List (Int × Expr)) : Int := L.foldl (fun m it => max m it.1) m
mutual
theorem Ow : ∀ (d m : Int) (e : Expr), D3 m (At d e) = max m (d - 1 + depthE e)
 | d, m, .mk o t v k => by
  rw [At, depthE]
  show D3 (max m d) (Ar (d + 1) k) = _
  rw [Ox (d + 1) (max m d) k (by omega)]
  omega
theorem Ox : ∀ (d m : Int) (l : List Expr), d - 1 ≤ m → D3 m (Ar d l) = max m (d - 1 + C6 l)
  | d, m, [], h => by
    rw [Ar, C6]
    show m = _
    omega
  | d, m, e :: r, h => by
    rw [Ar, C6]
    unfold D3
    rw [List.foldl_append]
    show D3 (D3 m (At d e)) (Ar d r) = _
    rw [Ow d m e, Ox d _ r (by omega)]
    omega
 end
theorem Mw (e : Expr) : D3 0 (At 1 e) = depthE e := by rw [Ow]; omega
theorem Ux : ∀ (L : List (Int × Expr)) (m b : Int), m ≤ b → (D3 m L ≤ b ↔ ∀ it ∈ L, it.1 ≤ b)
 | [], m, b, h => by simp [D3, h]
 | it :: r, m, b, h => by
  show D3 (max m it.1) r ≤ b ↔ _
  rcases Decidable.em (it.1 ≤ b) with h1 | h1
  ·rw [Ux r (max m it.1) b (by omega)]
   simp [h1]
  constructor
  ·intro h2
   have : ∀ (r : List (Int × Expr)) (m : Int), m ≤ D3 m r := by
    intro r
    induction r with
    | nil => intro m; exact Int.le_refl _
    | cons a r ih => intro m; have := ih (max m a.1); show m ≤ D3 (max m a.1) r; omega
   have := this r (max m it.1)
   omega
  intro h2
  exact absurd (h2 it (by simp)) h1
theorem n7 (e : Expr) {b : Nat} : (∀ it ∈ At 1 e, it.1 ≤ (b : Int)) ↔ depthE e ≤ b := by
 rw [← Ux (At 1 e) 0 b (by omega), Mw]
 omega
def Ai (e : Expr) : Bool := (decide (depthE e ≤ 30) && decide (sizeE e ≤ 300)) && Cf C2 e
theorem E8 (e : Expr) : Am e = Ai e := by
 have hpos : 1 ≤ sizeE e := by rw [Ev]; omega
 rw [Bool.eq_iff_iff]
 unfold Am Ai
 rw [List.all_eq_true]
 simp only [Bool.and_eq_true, decide_eq_true_eq, List.mem_range, Da]
 rw [← n7 e, ← cn C2 1 e, List.all_eq_true]
 constructor
 ·intro h
  have key : ∀ (k : Nat) (hk : k < (At 1 e).length), C2 (At 1 e)[k].2 = true ∧ (At 1 e)[k].1 ≤ 30 ∧ (k : Int) + 1 ≤ 300 := fun k hk => by
   have := h k (by rw [Da] at hk; exact hk)
   rw [Ss (List.getElem?_eq_getElem hk)] at this
   simp only [Bool.not_eq_true', Bool.or_eq_false_iff, Bool.not_eq_false', decide_eq_false_iff_not] at this
   exact ⟨this.1.1, by have := this.1.2; omega, by have := this.2; omega⟩
  refine ⟨⟨fun it hit => ?_, ?_⟩, fun it hit => ?_⟩
  ·obtain ⟨k, hk, rfl⟩ := List.getElem_of_mem hit
   exact (key k hk).2.1
  ·have := (key (sizeE e - 1) (by rw [Da]; omega)).2.2
   omega
  obtain ⟨k, hk, rfl⟩ := List.getElem_of_mem hit
  exact (key k hk).1
 rintro ⟨⟨h1, h2⟩, h3⟩ k hk
 have hk' : k < (At 1 e).length := by rw [Da]; exact hk
 rw [Ss (List.getElem?_eq_getElem hk')]
 have a1 := h1 _ (List.getElem_mem hk')
 have a3 := h3 _ (List.getElem_mem hk')
 have a3' : C2 (At 1 e)[k].2 = true := a3
 rw [a3']
 simp only [Bool.not_eq_true', Bool.or_eq_false_iff, Bool.not_true, decide_eq_false_iff_not]
 exact ⟨⟨trivial, by have : (At 1 e)[k].1 ≤ (30 : Int) := a1; omega⟩, by omega⟩
/-- Its number is one of 64 bits. -/
def Fp (e : Expr) : Bool := decide (-9223372036854775808 ≤ e.val.n) && decide (e.val.n ≤ 9223372036854775807)
/-! Names. -/
def Db (l : List Str) (e : Expr) : List Str := if (e.op == 2) && !l.contains e.text then l ++ [e.text] else l
def Ax (e : Expr) : List Str := (Fx e).foldl Db []
def Ew (s : Str) (e : Expr) : Bool := (Fx e).any fun y => (y.op == 2) && (y.text == s)
def Dn (s : Str) (l : List Expr) : Bool := (Cq l).any fun y => (y.op == 2) && (y.text == s)
theorem Dh (s : Str) (e : Expr) : Ew s e = (((e.op == 2) && (e.text == s)) || Dn s e.kids) := by unfold Ew Dn; rw [Qx, List.any_cons]
theorem Cd (s : Str) (e : Expr) (r : List Expr) : Dn s (e :: r) = (Ew s e || Dn s r) := by unfold Ew Dn; rw [Cq, List.any_append]
theorem n8 (s : Str) (l : List Str) (e : Expr) : s ∈ Db l e ↔ s ∈ l ∨ ((e.op == 2) && (e.text == s)) = true := by
 unfold Db
 split
 ·rename_i h
  simp only [Bool.and_eq_true, beq_iff_eq] at h ⊢
  simp only [List.mem_append, List.mem_cons, List.not_mem_nil, or_false]
  constructor
  ·rintro (h1 | h1)
   ·exact .inl h1
   exact .inr ⟨h.1, h1.symm⟩
  rintro (h1 | h1)
  ·exact .inl h1
  exact .inr h1.2.symm
 rename_i h
 simp only [Bool.and_eq_true, beq_iff_eq, not_and, Bool.not_eq_true', Bool.not_eq_false, List.contains_iff_mem] at h ⊢
 constructor
 ·exact .inl
 rintro (h1 | ⟨h1, rfl⟩)
 ·exact h1
 exact h h1
theorem Uy (s : Str) : ∀ (L : List Expr) (l : List Str), s ∈ L.foldl Db l ↔ s ∈ l ∨ (L.any fun y => (y.op == 2) && (y.text == s)) = true
 | [], l => by simp
 | e :: r, l => by
  rw [List.foldl_cons, Uy s r, n8, List.any_cons, Bool.or_eq_true, or_assoc]
theorem M1 (s : Str) (e : Expr) : (Ax e).contains s = Ew s e := by
 rw [Bool.eq_iff_iff, List.contains_iff_mem]
 unfold Ax Ew
 rw [Uy]
 simp
theorem Yw (l : List Str) (e : Expr) : (Db l e).length ≤ l.length + 1 := by
 unfold Db; split <;> simp
theorem Uz : ∀ (L : List Expr) (l : List Str), (L.foldl Db l).length ≤ l.length + L.length
 | [], l => by simp
 | e :: r, l => by
  have h1 := Uz r (Db l e)
  have h2 := Yw l e
  rw [List.foldl_cons, List.length_cons]
  omega
theorem co (e : Expr) : (Fx e).length = sizeE e := by rw [← Ka 1 e, List.length_map, Da]
mutual
def Eb (s : Str) (y : Expr) : Expr → Expr
 | .mk o t v k => if (o == 2) && (t == s) then y else .mk o t v (Q6 s y k)
def Q6 (s : Str) (y : Expr) : List Expr → List Expr
  | [] => []
  | e :: r => Eb s y e :: Q6 s y r
 end
theorem V0 (s : Str) (y : Expr) : ∀ l, Q6 s y l = l.map (Eb s y)
 | [] => rfl
 | e :: r => by rw [Q6, V0 s y r]; rfl
theorem Yx (s : Str) (y e : Expr) : Eb s y e = if (e.op == 2) && (e.text == s) then y else .mk e.op e.text e.val (e.kids.map (Eb s y)) := by
 cases e with
 | mk o t v k => rw [Eb, V0]; rfl
mutual
def eqE : Expr → Expr → Bool
 | .mk o t v k, .mk o' t' v' k' => ((((o == o') && (t == t')) && ((v.kind == v'.kind && v.n == v'.n) && v.s == v'.s))) && eqL k k'
def eqL : List Expr → List Expr → Bool
  | [], [] => true
  | e :: r, e' :: r' => eqE e e' && eqL r r'
  | _, _ => false
 end
theorem j8 (x y : Expr) : eqE x y = ((((x.op == y.op) && (x.text == y.text)) && ((x.val.kind == y.val.kind && x.val.n == y.val.n) && x.val.s == y.val.s)) && eqL x.kids y.kids) := by
 cases x; cases y; rw [eqE]; rfl
mutual
theorem Sy : ∀ x y : Expr, eqE x y = true ↔ x = y
 | .mk o t v k, .mk o' t' v' k' => by
  rw [eqE]
  simp only [Bool.and_eq_true, beq_iff_eq, L1 k k', Expr.mk.injEq]
  constructor
  ·rintro ⟨⟨⟨rfl, rfl⟩, ⟨h1, h2⟩, h3⟩, rfl⟩
   refine ⟨rfl, rfl, ?_, rfl⟩
   cases v; cases v'
   simp_all
  rintro ⟨rfl, rfl, rfl, rfl⟩
  exact ⟨⟨⟨rfl, rfl⟩, ⟨rfl, rfl⟩, rfl⟩, rfl⟩
theorem L1 : ∀ x y : List Expr, eqL x y = true ↔ x = y
  | [], [] => by simp [eqL]
  | [], e :: r => by simp [eqL]
  | e :: r, [] => by simp [eqL]
  | e :: r, e' :: r' => by rw [eqL, Bool.and_eq_true, Sy e e', L1 r r', List.cons.injEq]
 end
theorem n9 : ∀ {x y : List Expr}, eqL x y = true → x.length = y.length := fun h => by rw [(L1 _ _).1 h]
theorem V1 (x : Expr) : eqE x x = true := (Sy x x).2 rfl
mutual
theorem put_none (s : Str) (y : Expr) : ∀ x : Expr, Ew s x = false → Eb s y x = x
 | .mk o t v k, h => by
  rw [Dh, Bool.or_eq_false_iff] at h
  have h1 : ((o == 2) && (t == s)) = false := h.1
  rw [Eb, if_neg (by rw [h1]; simp), Qz s y k h.2]
theorem Qz (s : Str) (y : Expr) : ∀ l : List Expr, Dn s l = false → Q6 s y l = l
  | [], h => rfl
  | e :: r, h => by
    rw [Cd, Bool.or_eq_false_iff] at h
    rw [Q6, put_none s y e h.1, Qz s y r h.2]
 end
/-! A node by itself, and marks. -/
theorem Sz {of : Str} {ws : List Str} (h : of = Iu ws) (hp : ∀ w ∈ ws, (32 : UInt8) ∉ w) (s : Str) : Je s of = (!(s == []) && ws.contains s) := by
 unfold Je
 rw [Uv]
 cases hb : s.contains 32 with
 | false =>
  have h2 : (32 : UInt8) ∉ s := by simpa using hb
  rw [h, Gp s h2 ws hp, Bool.not_false, Bool.and_true]
  congr 1
  rw [List.contains_eq_any_beq]
  congr 1
  funext w
  rw [Bool.eq_iff_iff, beq_iff_eq, beq_iff_eq]
  exact eq_comm
 | true =>
  have h2 : (32 : UInt8) ∈ s := by simpa using hb
  have h3 : ws.contains s = false := by
   rw [Bool.eq_false_iff]
   intro h4
   exact hp s (by simpa using h4) h2
  rw [h3]
  simp
def levels : List (List Str) := [[[111, 114]], [[97, 110, 100]], [], [[61], [33, 61], [60], [60, 61], [62], [62, 61]], [[43], [45], [38]], [[42], [47], [37]]]
def Aq (s : Str) : Int := match levels.findIdx? (fun l => l.contains s) with | some i => i | none => -1
def M2 : List Str := [[111, 114], [], [97, 110, 100], [], [61], [33, 61], [60], [60, 61], [62], [62, 61], [], [43], [45], [38], [], [42], [47], [37]]
theorem Xr : Jf = Iu M2 := by kernel_rfl
theorem V2 : ∀ w ∈ M2, (32 : UInt8) ∉ w := by decide
theorem Xs (s : Str) : Je s Jf = decide (0 ≤ Aq s) := by
 rw [Sz Xr V2 s]
 have h1 : decide (0 ≤ Aq s) = levels.any (fun l => l.contains s) := by
  unfold Aq
  cases h : levels.findIdx? (fun l => l.contains s) with
  | some i =>
   have : levels.any (fun l => l.contains s) = true := by
    have := List.findIdx?_eq_some_iff_getElem.1 h
    obtain ⟨hi, hp, _⟩ := this
    exact List.any_eq_true.2 ⟨_, List.getElem_mem hi, hp⟩
   rw [this]
   simp
  | none =>
   have := List.findIdx?_eq_none_iff.1 h
   have e : levels.any (fun l => l.contains s) = false := by
    rw [List.any_eq_false]
    intro l hl
    rw [this l hl]
    simp
   rw [e]
   rfl
 rw [h1]
 by_cases h0 : s = []
 ·subst h0; rfl
 have : (s == []) = false := by simpa using h0
 rw [this, Bool.not_false, Bool.true_and]
 simp [levels, M2, h0, Bool.or_assoc]
def E2 (e : Expr) : Bool :=
 if e.op == 1 then ((D8 e.val && decide (0 ≤ e.val.n)) && (e.text == [])) && ((e.kids.length : Int) == 0)
 else if !(H9 e.val) then false
 else if e.op == 2 then El e.text && ((e.kids.length : Int) == 0)
 else if e.op == 3 || e.op == 4 then (e.text == []) && ((e.kids.length : Int) == 1)
 else if e.op == 5 then decide (0 ≤ Aq e.text) && ((e.kids.length : Int) == 2)
 else if e.op == 6 then Ay e.text == (e.kids.length : Int)
 else false
theorem Oy (e : Expr) : C2 e = E2 e := by
 unfold C2 E2
 rw [Xs, Ff]
 cases H9 e.val <;> simp
/-! What is wide. -/
def M3 (e : Expr) : Bool := ((decide ((100 : Int) < e.text.length) || decide ((400 : Int) < e.val.s.length)) || decide ((100 : Int) < e.kids.length))
/-- Among trees, when n have been seen: is one too much? -/
def Jt (l : List Expr) (n : Nat) : Bool := decide (500 < n + l.length) || l.any M3
def Ee : Nat → List Expr → Nat → Bool
 | 0, l, n => !l.isEmpty
 | f + 1, l, n => if l.isEmpty then false else if Jt l n then true else if decide ((500 : Int) < (l.flatMap Expr.kids).length) then true else Ee f (l.flatMap Expr.kids) (n + l.length)
theorem Hr : ∀ l : List Expr, Ah l = l.length + Ah (l.flatMap Expr.kids)
 | [] => rfl
 | e :: r => by
  rw [Ah, Ev, List.flatMap_cons, Gc, Hr r, List.length_cons]
  omega
theorem Oz {l : List Expr} {n : Nat} (h : Jt l n = false) : n + l.length ≤ 500 ∧ ∀ e ∈ l, M3 e = false := by
 unfold Jt at h
 simp only [Bool.or_eq_false_iff, decide_eq_false_iff_not, List.any_eq_false, Bool.not_eq_true] at h
 exact ⟨by omega, h.2⟩
theorem T0 {e : Expr} (h : M3 e = false) : e.text.length ≤ 100 ∧ e.val.s.length ≤ 400 ∧ e.kids.length ≤ 100 := by
 unfold M3 at h
 simp only [Bool.or_eq_false_iff, decide_eq_false_iff_not] at h
 omega
theorem R0 {f : Nat} {l : List Expr} {n : Nat} (h : Ee (f + 1) l n = false) (hl : l.isEmpty = false) : Jt l n = false ∧ (l.flatMap Expr.kids).length ≤ 500 ∧ Ee f (l.flatMap Expr.kids) (n + l.length) = false := by
 rw [Ee, if_neg (by rw [hl]; simp)] at h
 split at h
 ·cases h
 rename_i h1
 split at h
 ·cases h
 rename_i h2
 simp only [decide_eq_true_eq] at h2
 exact ⟨by simpa using h1, by omega, h⟩
theorem Yy : ∀ (f : Nat) (l : List Expr) (n : Nat), Ee f l n = false → ∀ e ∈ l, okE f e ∧ Cf (fun y => !M3 y) e = true
 | 0, l, n, h, e, he => by
  have : l = [] := by simpa [Ee] using h
  subst this
  cases he
 | f + 1, l, n, h, e, he => by
  have hl : l.isEmpty = false := by cases l <;> simp_all
  obtain ⟨h1, h2, h3⟩ := R0 h hl
  have h4 := T0 ((Oz h1).2 e he)
  have ih := Yy f _ _ h3
  have hk : ∀ y ∈ e.kids, okE f y ∧ Cf (fun y => !M3 y) y = true := fun y hy => ih y (List.mem_flatMap.2 ⟨e, he, hy⟩)
  refine ⟨⟨by omega, by omega, fun y hy => (hk y hy).1⟩, ?_⟩
  rw [D9, (Oz h1).2 e he, (Cv _ _).2 fun y hy => (hk y hy).2]
  rfl
theorem R1 : ∀ (f : Nat) (l : List Expr) (n : Nat), n ≤ 500 → Ee f l n = false → n + Ah l ≤ 500
 | 0, l, n, hn, h => by
  have : l = [] := by simpa [Ee] using h
  subst this
  simpa [Ah] using hn
 | f + 1, l, n, hn, h => by
  by_cases hl : l.isEmpty = true
  ·have : l = [] := by simpa using hl
   subst this
   simpa [Ah] using hn
  have hl' : l.isEmpty = false := by simpa using hl
  obtain ⟨h1, h2, h3⟩ := R0 h hl'
  have := R1 f _ _ (Oz h1).1 h3
  rw [Hr l]
  omega
def Ix (e : Expr) : Bool := Ee 61 [e] 0
/-- A tree that is gone through. -/
structure Slim (e : Expr) : Prop where
 ok : okE 61 e
 size : sizeE e ≤ 500
 slim : Cf (fun y => !M3 y) e = true
theorem Hs {e : Expr} (h : Ix e = false) : Slim e := by
 obtain ⟨h1, h2⟩ := Yy _ _ _ h e (by simp)
 have := R1 _ _ _ (by decide) h
 exact ⟨h1, by simpa [Ah] using this, h2⟩
end Go.SX.Nb
namespace Go.Proofs.YtepoiomaocjhfaaGreatDoor
open Go Go.SX Go.SX.Nb Go.ChangeShapes Go.RowKit
set_option maxRecDepth 100000
theorem Xt {ys : List AV} (h : ∀ (i : Nat) (y : AV), ys[i]? = some y → ∃ e : Nb.Expr, y = A3 e ∧ Cf Fp e = true) : ∃ l : List Nb.Expr, ys = l.map A3 ∧ Fo Fp l = true := by
 induction ys with
 | nil => exact ⟨[], rfl, rfl⟩
 | cons y ys ih =>
  obtain ⟨e, rfl, he⟩ := h 0 y rfl
  obtain ⟨l, rfl, hl⟩ := ih (fun i z hz => h (i + 1) z hz)
  exact ⟨e :: l, rfl, by rw [Fo, he, hl]; rfl⟩
theorem na {H : Type} [ErrAt] (d : DataW H) (y : AV) (h : DRep Tryz.prog 42 d y) : ∃ v : Val, y = O4 v ∧ -9223372036854775808 ≤ v.n ∧ v.n ≤ 9223372036854775807 := by
 obtain ⟨ys, hn, rfl, hh⟩ := h.struct' cl Tryz.underlying42
 match ys, hn with
 | [y0, y1, y2], _ =>
  obtain ⟨d0, b0, h0⟩ := hh 0 _ y0 rfl rfl
  obtain ⟨d1, b1, h1⟩ := hh 1 _ y1 rfl rfl
  obtain ⟨d2, b2, h2⟩ := hh 2 _ y2 rfl rfl
  obtain ⟨k, rfl, rfl, _⟩ := h0.int' Tryz.underlying3
  obtain ⟨n, rfl, rfl, hn1, hn2⟩ := h1.int' Tryz.underlying2
  obtain ⟨s, rfl, rfl⟩ := h2.str' Tryz.underlying9
  exact ⟨⟨k, n, s⟩, rfl, hn1, hn2⟩
theorem V3 {H : Type} [ErrAt] {t : TypeId} {d : DataW H} {y : AV} (h : DRep Tryz.prog t d y) : (t = 45 → ∃ e : Nb.Expr, y = A3 e ∧ Cf Fp e = true) ∧ (t = 43 → ∃ l : List Nb.Expr, y = .slice false 6 (l.map A3) ∧ Fo Fp l = true) := by
 induction h with
 | int hu _ => exact ⟨fun e => (by subst e; rw [Tryz.underlying45] at hu; cases hu), fun e => by subst e; rw [Tryz.underlying43] at hu; cases hu⟩
 | bool hu => exact ⟨fun e => (by subst e; rw [Tryz.underlying45] at hu; cases hu), fun e => by subst e; rw [Tryz.underlying43] at hu; cases hu⟩
 | str hu => exact ⟨fun e => (by subst e; rw [Tryz.underlying45] at hu; cases hu), fun e => by subst e; rw [Tryz.underlying43] at hu; cases hu⟩
 | nil hu =>
  refine ⟨fun e => (by subst e; rw [Tryz.underlying45] at hu; cases hu), fun e => ?_⟩
  subst e
  rw [Tryz.underlying43] at hu
  injection hu with hu
  injection hu with hu
  subst hu
  exact ⟨[], by rw [show Tryz.prog.cellsOf 45 = 6 by kernel_rfl]; rfl, rfl⟩
 | slice hu hn hh ih =>
  refine ⟨fun e => (by subst e; rw [Tryz.underlying45] at hu; cases hu), fun e => ?_⟩
  subst e
  rw [Tryz.underlying43] at hu
  injection hu with hu
  injection hu with hu
  subst hu
  rename_i elems spare ys
  obtain ⟨l, rfl, hl⟩ := Xt (ys := ys) (fun i y hy => by
   have hlt : i < elems.length := by rw [← hn]; exact (List.getElem?_eq_some_iff.1 hy).1
   exact (ih i elems[i] y (List.getElem?_eq_getElem hlt) hy).1 rfl)
  exact ⟨l, by rw [show Tryz.prog.cellsOf 45 = 6 by kernel_rfl], hl⟩
 | struct hu hn hn' hh ih =>
  refine ⟨fun e => ?_, fun e => by subst e; rw [Tryz.underlying43] at hu; cases hu⟩
  subst e
  rw [Tryz.underlying45] at hu
  injection hu with hu
  injection hu with hu
  subst hu
  rename_i parts ys
  match parts, hn, ys, hn' with
  | [p0, p1, p2, p3], _, [y0, y1, y2, y3], _ =>
   obtain ⟨o, rfl, rfl, _⟩ := (hh 0 _ p0 y0 rfl rfl rfl).int' Tryz.underlying3
   obtain ⟨s, rfl, rfl⟩ := (hh 1 _ p1 y1 rfl rfl rfl).str' Tryz.underlying9
   obtain ⟨v, rfl, hv1, hv2⟩ := na p2 y2 (hh 2 _ p2 y2 rfl rfl rfl)
   obtain ⟨l, rfl, hl⟩ := (ih 3 _ p3 y3 rfl rfl rfl).2 rfl
   refine ⟨.mk o s v l, ?_, ?_⟩
   ·rw [A8]; rfl
   rw [Cf, hl, Bool.and_true]
   show (decide (-9223372036854775808 ≤ v.n) && decide (v.n ≤ 9223372036854775807)) = true
   simp [hv1, hv2]
theorem j9 {H : Type} [ErrAt] (d : DataW H) (y : AV) (h : DRep Tryz.prog 45 d y) : ∃ e : Nb.Expr, y = A3 e ∧ Cf Fp e = true := (V3 h).1 rfl
end Go.Proofs.YtepoiomaocjhfaaGreatDoor
namespace Go.SX.Nb
open Go Go.SX Go.Proofs
variable [ErrAt]
set_option maxRecDepth 4000
/-- The lexer from a place between two words on. -/
def yk (f q : Nat) (s : Str) : List (Tok × Int) := Fd f (q + gapM s) (s.drop (gapM s))
theorem V4 {f q : Nat} {s : Str} (h : s ≠ []) : ∃ (n : Nat), Fd (f + 1) q s = (⟨(B4 s).1, (B4 s).2.1, q⟩, (B4 s).2.2.2) :: (if (B4 s).2.2.2 = 0 then yk f (q + n) (s.drop n) else []) ∧ ((B4 s).2.2.2 = 0 → (B4 s).2.2.1 = (n : Int) ∧ 1 ≤ n ∧ n ≤ s.length) := by
 refine ⟨(B4 s).2.2.1.toNat, ?_, fun he => ?_⟩
 ·rw [It h]
  simp only [beq_iff_eq]
  rfl
 obtain ⟨n, h1, h2, h3⟩ := Yu (s := s) (by cases s with | nil => exact absurd rfl h | cons c r => simp) he
 rw [h1]
 exact ⟨rfl, by simpa using h2, by simpa using h3⟩
/-! ### Gaps -/
/-! ### Words -/
theorem nb {s : Str} (h : (E7 s).2.1 = 0) : s.length ≤ 4000 ∧ (∀ it ∈ B0 s, it.2 = 0) ∧ E7 s = ((B0 s).map (·.1) ++ [⟨0, [], s.length⟩], 0, 0) := by
 unfold E7 at h ⊢
 split at h
 ·exact absurd h (show ¬ (3 : Int) = 0 by decide)
 rename_i hl
 rw [if_neg hl]
 cases hf : (B0 s).find? (fun it => it.2 != 0) with
 | some it =>
  rw [hf] at h
  have := List.find?_some hf
  simp at this
  exact absurd h this
 | none =>
  rw [List.find?_eq_none] at hf
  refine ⟨by omega, fun it hit => by simpa using hf it hit, rfl⟩
def Mx (s : Str) : Int := if B9 1 == s then 1 else if B9 2 == s then 2 else if B9 3 == s then 3 else 0
structure KindUpto (s : Str) (x : Nat) : Prop where
 le : x ≤ 3
 a : 1 ≤ x → (B9 1 == s) = false
 b : 2 ≤ x → (B9 2 == s) = false
 c : 3 ≤ x → (B9 3 == s) = false
theorem nd {s : Str} {x : Nat} (h : KindUpto s x) (hx : x < 3) (e : (B9 ((x : Int) + 1) == s) = true) : Mx s = (x : Int) + 1 := by
 have h3 : x = 0 ∨ x = 1 ∨ x = 2 := by omega
 unfold Mx
 rcases h3 with rfl | rfl | rfl
 ·have e : (B9 1 == s) = true := e
  rw [if_pos e]; rfl
 ·have e : (B9 2 == s) = true := e
  rw [if_neg (by rw [h.a (by omega)]; simp), if_pos e]; rfl
 have e : (B9 3 == s) = true := e
 rw [if_neg (by rw [h.a (by omega)]; simp), if_neg (by rw [h.b (by omega)]; simp), if_pos e]; rfl
theorem nf {s : Str} {x : Nat} (h : KindUpto s x) (hx : x < 3) (e : (B9 ((x : Int) + 1) == s) = false) : KindUpto s (x + 1) := by
 have h3 : x = 0 ∨ x = 1 ∨ x = 2 := by omega
 rcases h3 with rfl | rfl | rfl
 ·exact ⟨by omega, fun _ => e, fun h => by omega, fun h => by omega⟩
 ·exact ⟨by omega, fun _ => h.a (by omega), fun _ => e, fun h => by omega⟩
 exact ⟨by omega, fun _ => h.a (by omega), fun _ => h.b (by omega), fun _ => e⟩
theorem ng {s : Str} {x : Nat} (h : KindUpto s x) (hx : 3 ≤ x) : Mx s = 0 := by
 unfold Mx
 rw [if_neg (by rw [h.a (by omega)]; simp), if_neg (by rw [h.b (by omega)]; simp), if_neg (by rw [h.c (by omega)]; simp)]
theorem yl (s : Str) (Hp : List AObj) : AFun Tryz.prog 198 [A6 s] Hp (A2 (Mx s)) := by
 refine ACall.body [.tmp 2] [0] Tryz.func198 Tryz.ntmps198 (fun d => ?_)
 refine Z38 ?_;refine Z34 ?_;refine H5 ?_
 refine AW.loopC (α := Nat) (fun x => ⟨13, A4 0 (A6 s) (A4 3 (A2 ((x : Nat) + 1)) (fun _ => .any)), Hp, [], [], none⟩) (fun x => KindUpto s x) (fun x => 3 - x) (0) ⟨by omega, fun h => by omega, fun h => by omega, fun h => by omega⟩ (StLe.refl _) rfl (fun x hx => ?_)
 refine Z28 ?_;refine R.fin [0, 3, 5] ?_
 refine W.cond (fun ht5 => ?_) (fun ht5 => ?_)
 ·have hx3 : x < 3 := by simp at ht5; omega
  refine Z62 ?_;refine Z0 ?_;refine R.call Tryz.call70 (c70 _ _) ?_;refine Z1 ?_;refine R.fin [0, 3, 11] ?_
  refine W.cond (fun ht11 => ?_) (fun ht11 => ?_)
  ·refine Sj ?_;refine Z42 ?_;exact K.fin (V.one V.tmp) ⟨by rw [nd hx hx3 (by simpa using ht11)], rfl⟩
  refine ge ?_;exact K.lpN (x + 1) (nf hx hx3 (by simpa using ht11)) (by omega) (StCut.of_eq (by simp))
 have hx3 : 3 ≤ x := by simp at ht5; omega
 refine Ub ?_;exact K.fin (V.one V.tmp) ⟨by rw [ng hx hx3], rfl⟩

def V5 (c : UInt8) : Str := if c = 39 then [39, 39] else [c]
def Jm (t : Str) : Str := t.flatMap V5
theorem V6 : ∀ t : Str, (Jm t).length ≤ 2 * t.length
 | [] => Nat.le_refl _
 | c :: r => by
  have := V6 r
  unfold Jm at this ⊢
  rw [List.flatMap_cons, List.length_append, List.length_cons]
  have h : (V5 c).length ≤ 2 := by unfold V5; split <;> simp
  omega
theorem M4 (c : UInt8) (r : Str) : Jm (c :: r) = V5 c ++ Jm r := by unfold Jm; rw [List.flatMap_cons]
theorem Yz : ∀ s : Str, (Lib.index s [39] = -1 ∧ Jm s = s) ∨ ∃ i : Nat, Lib.index s [39] = (i : Int) ∧ i < s.length ∧ Jm s = s.take i ++ [39, 39] ++ Jm (s.drop (i + 1))
 | [] => .inl ⟨rfl, rfl⟩
 | b :: l => by
  by_cases hb : b = 39
  ·subst hb
   refine .inr ⟨0, by simp [Lib.index, List.isPrefixOf], by simp, ?_⟩
   rw [M4]
   simp [V5]
  have hp : ([39] : Str).isPrefixOf (b :: l) = false := by
   simp [List.isPrefixOf, Ne.symm hb]
  have hd : Jm (b :: l) = b :: Jm l := by
   rw [M4, V5, if_neg hb]
   rfl
  rcases Yz l with ⟨h1, h2⟩ | ⟨i, h1, h2, h3⟩
  ·refine .inl ⟨?_, by rw [hd, h2]⟩
   rw [Lib.index, hp, h1]; rfl
  refine .inr ⟨i + 1, ?_, by simp; omega, ?_⟩
  ·rw [Lib.index, hp, h1, if_neg (by simp), if_neg (by simp)]
   rfl
  rw [hd, h3]
  simp
theorem L2 : ∀ (n : Nat) (s : Str), s.length ≤ n → Lib.replaceK [39] [39, 39] (Lib.count s [39]) s = Jm s
 | n, s, hn => by
  rcases Yz s with ⟨h1, h2⟩ | ⟨i, h1, h2, h3⟩
  ·rw [Lib.count_miss h1, h2]; rfl
  cases n with
  | zero => omega
  | succ n =>
   rw [Lib.count_hit (by decide) h1, Nat.add_comm, Lib.replaceK_hit _ _ _ _ i h1]
   have e : i + ([39] : Str).length = i + 1 := rfl
   rw [e, L2 n (s.drop (i + 1)) (by rw [List.length_drop]; omega), h3]
theorem My (s : Str) : Lib.replaceAll s [39] [39, 39] = Jm s := by
 unfold Lib.replaceAll Lib.replace
 rw [if_neg (by decide)]
 have e : Lib.replaceNum s [39] (-1) = Lib.count s [39] := by unfold Lib.replaceNum; rw [if_pos (.inl (by decide))]
 rw [e]
 exact L2 _ s (Nat.le_refl _)
def Z3 (t : Tok) : Str := if t.kind = 4 then [39] ++ Jm t.text ++ [39] else t.text
theorem Xu {q : Str} (h0 : q.headD 0 = 39) (h1 : 1 ≤ q.length) (h : (Eu q).2 = 0) : [39] ++ Jm (Eu q).1.s ++ [39] = q := by
 cases q with
 | nil => simp at h1
 | cons c r =>
  have hc : c = 39 := h0
  subst hc
  unfold Eu at h ⊢
  have n1 : ((39 :: r : Str) == [110, 117, 108, 108]) = false := by rw [beq_eq_false_iff_ne]; intro e; injection e with e; exact absurd e (by decide)
  have n2 : ((39 :: r : Str) == [116, 114, 117, 101]) = false := by rw [beq_eq_false_iff_ne]; intro e; injection e with e; exact absurd e (by decide)
  have n3 : ((39 :: r : Str) == [102, 97, 108, 115, 101]) = false := by rw [beq_eq_false_iff_ne]; intro e; injection e with e; exact absurd e (by decide)
  rw [n1, n2, n3] at h ⊢
  simp only [Bool.false_eq_true, if_false, Bool.or_self] at h ⊢
  by_cases hq : Qn (39 :: r) = true
  ·rw [if_pos hq] at h ⊢
   unfold Uk at h ⊢
   split at h
   ·exact absurd h (show ¬ (7 : Int) = 0 by decide)
   rename_i hp
   rw [if_neg hp]
   have hp' : E1 (O9 (39 :: r)) = 39 :: r := by simpa using hp
   have hk : (O9 (39 :: r)).kind = 2 := rfl
   show [39] ++ Jm (O9 (39 :: r)).s ++ [39] = 39 :: r
   generalize O9 (39 :: r) = v at hp' hk
   have hne : E1 v ≠ [] := by rw [hp']; simp
   rw [← hp']
   unfold E1 at hne ⊢
   split at hne
   ·exact absurd rfl hne
   rename_i hpl
   rw [if_neg hpl, hk, if_neg (by decide), if_pos (by decide), My]
  rw [if_neg hq] at h
  have hd : Gm (39 :: r) = true := by
   unfold Gm
   have e : Mn (39 :: r) = 39 :: r := by
    rcases Mo (39 :: r) with ⟨_, h4⟩ | ⟨r', h3, _⟩
    ·exact h4
    injection h3 with h3; exact absurd h3 (by decide)
   rw [e]
   have : (Lib.trimS (39 :: r) digs == []) = false := by
    rw [beq_eq_false_iff_ne]
    intro e
    rw [Qi] at e
    exact absurd (e 39 (by simp)) (by decide)
   rw [this]
   simp
  have hn : Cn (39 :: r) = (0, 6) := by unfold Cn; rw [if_pos hd]
  rw [hn] at h
  simp at h
theorem Q7 (s : Str) (m : Nat) : s.take (s.take m).length = s.take m := by
 rw [List.length_take]
 rcases Nat.le_total m s.length with h | h
 ·rw [Nat.min_eq_left h]
 rw [Nat.min_eq_right h, List.take_of_length_le (Nat.le_refl _), List.take_of_length_le h]
theorem Iy (s of : Str) : s.take (Bv s of).length = Bv s of := by
 unfold Bv
 exact Q7 s _
/-- What a word's print spells is what was read. -/
theorem Xv {s : Str} {n p : Nat} (h0 : 1 ≤ s.length) (he : (B4 s).2.2.2 = 0) (hn : (B4 s).2.2.1 = (n : Int)) : Z3 ⟨(B4 s).1, (B4 s).2.1, p⟩ = s.take n := by
 cases s with
 | nil => simp at h0
 | cons c r =>
  unfold B4 at he hn ⊢
  by_cases c1 : decide (0 < Kx ((c :: r).take 1) letters) = true
  ·rw [if_pos c1] at he hn
   simp only [if_pos c1]
   unfold K6 at he hn ⊢
   by_cases r1 : E6 (Bv (c :: r) tails) = true
   ·rw [if_pos r1] at hn
    simp only [if_pos r1]
    have hn' : (((Bv (c :: r) tails).length : Nat) : Int) = n := hn
    have e : n = (Bv (c :: r) tails).length := by omega
    rw [e, Iy]
    rfl
   rw [if_neg r1] at he hn
   simp only [if_neg r1]
   by_cases r2 : (!C8 (Bv (c :: r) tails)) = true
   ·rw [if_pos r2] at he; exact absurd he (show ¬ (3 : Int) = 0 by decide)
   rw [if_neg r2] at hn
   simp only [if_neg r2]
   have hn' : (((Bv (c :: r) tails).length : Nat) : Int) = n := hn
   have e : n = (Bv (c :: r) tails).length := by omega
   rw [e, Iy]
   rfl
  rw [if_neg c1] at he hn
  simp only [if_neg c1]
  by_cases c2 : decide (0 < Kx ((c :: r).take 1) digs) = true
  ·rw [if_pos c2] at he hn
   simp only [if_pos c2]
   have hn' : (((Bv (c :: r) digs).length : Nat) : Int) = n := hn
   have e : n = (Bv (c :: r) digs).length := by omega
   rw [e, Iy]
   rfl
  rw [if_neg c2] at he hn
  simp only [if_neg c2]
  by_cases c3 : (((((c :: r)).getD 0 0).toNat : Int) == 39) = true
  ·rw [if_pos c3] at he hn
   simp only [if_pos c3]
   have hc : c = 39 := by
    have c3' : ((c.toNat : Int) == 39) = true := c3
    exact UInt8.toNat_inj.1 (by have : (39 : UInt8).toNat = 39 := rfl; simp at c3'; omega)
   unfold Gw at he hn ⊢
   cases hq : Bl ((c :: r).drop 1) with
   | none => rw [hq] at he; exact absurd he (show ¬ (7 : Int) = 0 by decide)
   | some m =>
    rw [hq] at he hn
    simp only at he hn ⊢
    split at he
    ·exact absurd he (show ¬ (3 : Int) = 0 by decide)
    rename_i hr
    rw [if_neg hr] at hn
    simp only [if_neg hr]
    have hm' : (((m + 1 : Nat)) : Int) = n := hn
    have hm : n = m + 1 := by omega
    subst hm
    have hr' : (Eu ((c :: r).take (m + 1))).2 = 0 := by simpa using hr
    have := Xu (q := (c :: r).take (m + 1)) (by rw [hc]; rfl) (by simp) hr'
    unfold Z3
    rw [if_pos rfl]
    exact this
  rw [if_neg c3] at he hn
  simp only [if_neg c3]
  unfold Od at he hn ⊢
  split at hn
  ·rename_i h2
   simp only [if_pos h2]
   have hn' : (2 : Int) = n := hn
   have : n = 2 := by omega
   subst this
   rfl
  rename_i h2
  rw [if_neg h2] at he
  simp only [if_neg h2]
  split at hn
  ·rename_i h3
   simp only [if_pos h3]
   have hn' : (1 : Int) = n := hn
   have : n = 1 := by omega
   subst this
   rfl
  rename_i h3
  rw [if_neg h3] at he
  exact absurd he (show ¬ (7 : Int) = 0 by decide)
theorem Z8 : ∀ t : Str, t.length ≤ (Jm t).length
 | [] => Nat.le_refl _
 | c :: r => by
  have := Z8 r
  rw [M4, List.length_append, List.length_cons]
  have h : 1 ≤ (V5 c).length := by unfold V5; split <;> simp
  omega
theorem nh (t : Tok) : t.text.length ≤ (Z3 t).length := by
 unfold Z3
 split
 ·have := Z8 t.text
  simp only [List.length_append, List.length_cons, List.length_nil]
  omega
 exact Nat.le_refl _
theorem M5 {n k : Nat} {o : Bool} {l : List Str} {z : Str} : Low n (.slice o k (l.map A6 ++ [A6 z])) := by
 refine .slice _ _ _ (fun y hy => ?_)
 rcases List.mem_append.1 hy with hy | hy
 ·obtain ⟨a, _, rfl⟩ := List.mem_map.1 hy
  intro z hz
  rw [List.mem_singleton.1 (show z ∈ [A6 a] from hz)]
  exact .v _
 rw [List.mem_singleton.1 hy]
 intro z' hz
 rw [List.mem_singleton.1 (show z' ∈ [A6 z] from hz)]
 exact .v _
/-- Words with an end. -/
structure TokEnd (l : List Tok) : Prop where
 split : ∃ L z, l = L ++ [z] ∧ z.kind = 0 ∧ ∀ t ∈ L, t.kind ≠ 0
 texts : ∀ t ∈ l, t.text.length ≤ 1048576
theorem TokEnd.pos {l : List Tok} (h : TokEnd l) : 1 ≤ l.length := by
 obtain ⟨L, z, rfl, _, _⟩ := h.split
 simp
theorem TokEnd.text {l : List Tok} (h : TokEnd l) (i : Nat) : (A7 l i).text.length ≤ 1048576 := by
 unfold A7
 rcases Nat.lt_or_ge i l.length with hi | hi
 ·rw [List.getD_eq_getElem?_getD, List.getElem?_eq_getElem hi]
  exact h.texts _ (List.getElem_mem hi)
 rw [List.getD_eq_getElem?_getD, List.getElem?_eq_none hi]
 exact Nat.zero_le _
theorem ni (s : Str) (he : (B4 s).2.2.2 = 0) : (B4 s).1 ≠ 0 := by
 revert he
 unfold B4 K6 Sr Gw Od
 repeat' split
 all_goals simp
theorem V7 : ∀ (f q : Nat) (s : Str), (∀ it ∈ Fd f q s, it.2 = 0) → ∀ it ∈ Fd f q s, it.1.kind ≠ 0 ∧ it.1.text.length ≤ s.length
 | 0, _, _, _, it, hm => by cases hm
 | f + 1, q, s, h, it, hm => by
  by_cases hs : s = []
  ·subst hs; cases hm
  obtain ⟨n, h1, h2⟩ := V4 (f := f) (q := q) hs
  rw [h1] at hm h
  have h0 : (B4 s).2.2.2 = 0 := h (⟨(B4 s).1, (B4 s).2.1, q⟩, (B4 s).2.2.2) (List.mem_cons_self ..)
  obtain ⟨hn, hn1, hn2⟩ := h2 h0
  rw [if_pos h0] at hm h
  rcases List.mem_cons.1 hm with rfl | hm
  ·refine ⟨ni s h0, ?_⟩
   have hs1 : 1 ≤ s.length := by cases s with | nil => exact absurd rfl hs | cons c r => simp
   have := Xv (p := q) hs1 h0 hn
   have h3 := nh ⟨(B4 s).1, (B4 s).2.1, q⟩
   rw [this] at h3
   simp only [List.length_take] at h3
   show (B4 s).2.1.length ≤ s.length
   omega
  have := V7 f _ _ (fun it hit => h it (List.mem_cons_of_mem _ hit)) it hm
  simp only [List.length_drop] at this
  exact ⟨this.1, by omega⟩
theorem nj {s : Str} (h : (E7 s).2.1 = 0) : TokEnd (E7 s).1 := by
 by_cases h4 : 4000 < s.length
 ·unfold E7 at h
  rw [if_pos h4] at h
  exact gw
 have e : E7 s = ((B0 s).map (·.1) ++ [⟨0, [], s.length⟩], 0, 0) ∧ ∀ it ∈ B0 s, it.2 = 0 := by
  unfold E7 at h ⊢
  rw [if_neg h4] at h ⊢
  cases hf : (B0 s).find? (fun it => it.2 != 0) with
  | none =>
   rw [List.find?_eq_none] at hf
   exact ⟨rfl, fun it hit => by simpa using hf it hit⟩
  | some it =>
   rw [hf] at h
   have := List.find?_some hf
   simp only [bne_iff_ne] at this
   exact absurd h this
 obtain ⟨e, hz⟩ := e
 have hnz := V7 _ _ _ hz
 rw [e]
 refine ⟨⟨_, _, rfl, rfl, fun t ht => ?_⟩, fun t ht => ?_⟩
 ·obtain ⟨it, hit, rfl⟩ := List.mem_map.1 ht
  exact (hnz it hit).1
 rcases List.mem_append.1 ht with ht | ht
 ·obtain ⟨it, hit, rfl⟩ := List.mem_map.1 ht
  have := (hnz it hit).2
  simp only [List.length_drop] at this
  omega
 have e : t = ⟨0, [], s.length⟩ := by simpa using ht
 subst e
 exact Nat.zero_le _
/-- Where a parser of expressions stands: its word, its nest, its fault. -/
structure PS where
 i : Nat
 nest : Nat
 code : Int
 at_ : Int
def noV : Val := ⟨0, 0, []⟩
def Aa : Expr := .mk 0 [] noV []
def Ce (e a : Int) (S : PS) : PS := if S.code == 0 then ⟨S.i, S.nest, e, a⟩ else S
def isM (l : List Tok) (of : Str) (S : PS) : Bool := (((A7 l S.i).kind == 5) || ((A7 l S.i).kind == 2)) && Je (A7 l S.i).text of
def A9 (S : PS) : PS := ⟨S.i + 1, S.nest, S.code, S.at_⟩
def Bm (S : PS) : PS := ⟨S.i, S.nest + 1, S.code, S.at_⟩
def R2 (S : PS) : PS := ⟨S.i, S.nest - 1, S.code, S.at_⟩
def Di (l : List Tok) (s : Str) (S : PS) : PS := if S.code != 0 then S else if ((A7 l S.i).kind != 5) || !((A7 l S.i).text == s) then Ce 8 (A7 l S.i).at_ S else A9 S
/-- What stands one nest deeper. -/
structure Fam where
 ei : PS → Expr × PS
 no : PS → Expr × PS
 ne : PS → Expr × PS
def B7 (a : Int) (f : PS → Expr × PS) (S : PS) : Expr × PS := if (S.nest : Int) == 30 then (Aa, Ce 18 a S) else ((f (Bm S)).1, R2 (f (Bm S)).2)
def Gq (t : Str) (x y : Expr) : Expr := .mk 5 t noV [x, y]
def R3 (l : List Tok) (of : Str) (f : PS → Expr × PS) : Nat → Expr × PS → Expr × PS
 | 0, r => r
 | n + 1, r => if (r.2.code == 0) && isM l of r.2 then R3 l of f n (Gq (A7 l r.2.i).text r.1 (f (A9 r.2)).1, (f (A9 r.2)).2) else r
def Dq (l : List Tok) (of : Str) (f : PS → Expr × PS) (S : PS) : Expr × PS := R3 l of f l.length (f S)
def P0 : Str := [32, 44, 32]
def argsF (l : List Tok) (f : PS → Expr × PS) : Nat → List Expr × PS → List Expr × PS
 | 0, r => r
 | n + 1, r => if (r.2.code == 0) && isM l P0 r.2 then argsF l f n (r.1 ++ [(f (A9 r.2)).1], (f (A9 r.2)).2) else r
def F7 (l : List Tok) (f : PS → Expr × PS) (S : PS) : List Expr × PS := argsF l f l.length ([(f S).1], (f S).2)
def Mz (l : List Tok) (a : Int) (f : PS → Expr × PS) (S : PS) : List Expr × PS := if (S.nest : Int) == 30 then ([], Ce 18 a S) else ((F7 l f (Bm S)).1, R2 (F7 l f (Bm S)).2)
def Dc : Str := [41]
def Bw (l : List Tok) (D : Fam) (S : PS) : List Expr × PS := Mz l (A7 l S.i).at_ D.ei (A9 S)
def F8 (l : List Tok) (D : Fam) (t : Tok) (S : PS) : Expr × PS :=
 if Ay t.text < 0 then (Aa, Ce 9 t.at_ S)
 else if ((Di l Dc (Bw l D S).2).code == 0) && !(((Bw l D S).1.length : Int) == Ay t.text) then (Aa, Ce 8 t.at_ (Di l Dc (Bw l D S).2))
 else (.mk 6 t.text noV (Bw l D S).1, Di l Dc (Bw l D S).2)
def orT : Str := [32, 111, 114, 32]
def cp : Str := [32, 97, 110, 100, 32]
def rr : Str := [32, 110, 111, 116, 32]
def nk : Str := [32, 61, 32, 33, 61, 32, 60, 32, 60, 61, 32, 62, 32, 62, 61, 32]
def cq : Str := [32, 43, 32, 45, 32, 38, 32]
def R4 : Str := [32, 42, 32, 47, 32, 37, 32]
def rt : Str := [32, 45, 32]
def opT : Str := [32, 40, 32]
def ru : Str := [32, 116, 114, 117, 101, 32, 102, 97, 108, 115, 101, 32, 110, 117, 108, 108, 32]
def I7 (v : Val) : Expr := .mk 1 [] v []
def Ea (l : List Tok) (D : Fam) (S : PS) : Expr × PS :=
 if S.code != 0 then (Aa, S)
 else if ((A7 l S.i).kind == 3) || isM l ru S then (I7 (Eu (A7 l S.i).text).1, A9 S)
 else if (A7 l S.i).kind == 4 then (I7 ⟨2, 0, (A7 l S.i).text.take 200⟩, A9 S)
 else if (A7 l S.i).kind == 1 then (if isM l opT (A9 S) then F8 l D (A7 l S.i) (A9 S) else (Aj (A7 l S.i).text, A9 S))
 else if isM l opT S then ((B7 (A7 l S.i).at_ D.ei (A9 S)).1, Di l Dc (B7 (A7 l S.i).at_ D.ei (A9 S)).2)
 else (Aa, Ce 8 (A7 l S.i).at_ S)
def Em (op : Int) (x : Expr) : Expr := .mk op [] noV [x]
def Ni (l : List Tok) (D : Fam) (S : PS) : Expr × PS := if !isM l rt S then Ea l D S else (Em 3 (B7 (A7 l S.i).at_ D.ne (A9 S)).1, (B7 (A7 l S.i).at_ D.ne (A9 S)).2)
def V8 (l : List Tok) (D : Fam) : PS → Expr × PS := Dq l R4 (Ni l D)
def Cj (l : List Tok) (D : Fam) : PS → Expr × PS := Dq l cq (V8 l D)
def Dj (l : List Tok) (D : Fam) (S : PS) : Expr × PS :=
 if ((Cj l D S).2.code != 0) || !isM l nk (Cj l D S).2 then Cj l D S
 else (Gq (A7 l (Cj l D S).2.i).text (Cj l D S).1 (Cj l D (A9 (Cj l D S).2)).1, (Cj l D (A9 (Cj l D S).2)).2)
def Nj (l : List Tok) (D : Fam) (S : PS) : Expr × PS := if !isM l rr S then Dj l D S else (Em 4 (B7 (A7 l S.i).at_ D.no (A9 S)).1, (B7 (A7 l S.i).at_ D.no (A9 S)).2)
def V9 (l : List Tok) (D : Fam) : PS → Expr × PS := Dq l cp (Nj l D)
def Nn (l : List Tok) (D : Fam) : PS → Expr × PS := Dq l orT (V9 l D)
def Dd (l : List Tok) : Nat → Fam
 | 0 => ⟨fun S => (Aa, S), fun S => (Aa, S), fun S => (Aa, S)⟩
 | d + 1 => ⟨Nn l (Dd l d), Nj l (Dd l d), Ni l (Dd l d)⟩

/-! What is so of them. -/
theorem Cw : ∀ {n m : Nat}, n ≤ m → ∀ {e : Expr}, okE n e → okE m e
 | 0, _, _, _, h => h.elim
 | n + 1, 0, h, _, _ => by omega
 | n + 1, m + 1, h, _, ho => ⟨ho.1, ho.2.1, fun y hy => Cw (by omega) (ho.2.2 y hy)⟩
theorem P1 : sizeE Aa = 1 := rfl
theorem cr (t : Str) (a b : Expr) : sizeE (Gq t a b) = 1 + (sizeE a + (sizeE b + 0)) := by rw [Gq, sizeE, Ah, Ah, Ah]
theorem ct (o : Int) (a : Expr) : sizeE (Em o a) = 1 + (sizeE a + 0) := by rw [Em, sizeE, Ah, Ah]
theorem R5 : ∀ a b : List Expr, Ah (a ++ b) = Ah a + Ah b
 | [], b => by rw [List.nil_append, Ah, Nat.zero_add]
 | e :: r, b => by rw [List.cons_append, Ah, Ah, R5 r b, Nat.add_assoc]
theorem Va {n : Nat} (h : 1 ≤ n) : okE n Aa := Cw h ⟨by decide, by decide, fun y hy => by cases hy⟩
theorem Za {n : Nat} (h : 1 ≤ n) (v : Val) : okE n (I7 v) := Cw h ⟨by simp [I7, Expr.text], by simp [I7, Expr.kids], fun y hy => by cases hy⟩
structure Fact (l : List Tok) (S : PS) (r : Expr × PS) : Prop where
 le : S.i ≤ r.2.i
 lt : r.2.i < l.length
 nest : r.2.nest = S.nest
 ok : okE (2 * (r.2.i - S.i) + 1) r.1
 sz : sizeE r.1 ≤ 2 * (r.2.i - S.i) + 1
def Ck (l : List Tok) (n : Nat) (f : PS → Expr × PS) : Prop := ∀ S, S.i < l.length → S.nest = n → Fact l S (f S)
theorem TokEnd.step {l : List Tok} (h : TokEnd l) {i : Nat} (hi : i < l.length) (hk : (A7 l i).kind ≠ 0) : i + 1 < l.length := by
 obtain ⟨L, z, rfl, hz, _⟩ := h.split
 rcases Nat.lt_or_ge i L.length with h1 | h1
 ·simp only [List.length_append, List.length_cons, List.length_nil]; omega
 have : i = L.length := by simp only [List.length_append, List.length_cons, List.length_nil] at hi; omega
 subst this
 exact absurd (by unfold A7; simpa using hz) hk
theorem ja {l : List Tok} {of : Str} {S : PS} (h : isM l of S = true) : (A7 l S.i).kind ≠ 0 := by
 unfold isM at h
 simp only [Bool.and_eq_true, Bool.or_eq_true, beq_iff_eq] at h
 omega
theorem TokEnd.stepIs {l : List Tok} (h : TokEnd l) {of : Str} {S : PS} (hi : S.i < l.length) (hk : isM l of S = true) : (A9 S).i < l.length := h.step hi (ja hk)
theorem failM_i {e a : Int} {S : PS} : (Ce e a S).i = S.i ∧ (Ce e a S).nest = S.nest := by unfold Ce; split <;> exact ⟨rfl, rfl⟩
theorem Zb {l : List Tok} (hl : TokEnd l) {s : Str} {S : PS} (hi : S.i < l.length) : S.i ≤ (Di l s S).i ∧ (Di l s S).i < l.length ∧ (Di l s S).nest = S.nest := by
 unfold Di
 split
 ·exact ⟨Nat.le_refl _, hi, rfl⟩
 split
 ·rw [failM_i.1, failM_i.2]; exact ⟨Nat.le_refl _, hi, rfl⟩
 rename_i h
 simp only [Bool.or_eq_true, bne_iff_ne, ne_eq, not_or, Classical.not_not] at h
 have := hl.step hi (by rw [h.1]; decide)
 exact ⟨Nat.le_succ _, this, rfl⟩
theorem L3 {l : List Tok} {S S0 : PS} (h0 : S0.i ≤ S.i) (h1 : S.i < l.length) (h2 : S.nest = S0.nest) (e a : Int) : Fact l S0 (Aa, Ce e a S) := by
 refine ⟨?_, ?_, ?_, Va (by omega), by rw [P1]; omega⟩
 ·show _ ≤ (Ce e a S).i; rw [failM_i.1]; exact h0
 ·show (Ce e a S).i < _; rw [failM_i.1]; exact h1
 show (Ce e a S).nest = _; rw [failM_i.2]; exact h2
/-- A state of a loop of marks. -/
structure LeftAt (l : List Tok) (of : Str) (f : PS → Expr × PS) (S : PS) (r : Expr × PS) : Prop where
 fact : Fact l S r
 eq : ∃ n, l.length ≤ r.2.i + n ∧ Dq l of f S = R3 l of f n r
theorem LeftAt.start {l : List Tok} {of : Str} {f : PS → Expr × PS} {S : PS} (h : Fact l S (f S)) : LeftAt l of f S (f S) := ⟨h, l.length, by omega, rfl⟩
theorem Zc {l : List Tok} {S : PS} {r q : Expr × PS} (h : Fact l S r) (hq : Fact l (A9 r.2) q) (hl : TokEnd l) : Fact l S (Gq (A7 l r.2.i).text r.1 q.1, q.2) := by
 have h1 := h.le
 have h2 : r.2.i + 1 ≤ q.2.i := hq.le
 refine ⟨by show S.i ≤ q.2.i; omega, hq.lt, by show q.2.nest = S.nest; rw [hq.nest]; exact h.nest, ?_, ?_⟩
 rotate_left
 ·have s1 := h.sz
  have s2 : sizeE q.1 ≤ 2 * (q.2.i - (r.2.i + 1)) + 1 := hq.sz
  show sizeE (Gq _ r.1 q.1) ≤ 2 * (q.2.i - S.i) + 1
  rw [cr]
  omega
 show okE (2 * (q.2.i - S.i) + 1) _
 refine ⟨hl.text _, by simp [Gq, Expr.kids], fun y hy => ?_⟩
 have hy' : y = r.1 ∨ y = q.1 := by simpa [Gq, Expr.kids] using hy
 rcases hy' with rfl | rfl
 ·exact Cw (by omega) h.ok
 exact Cw (by show 2 * (q.2.i - (r.2.i + 1)) + 1 ≤ _; omega) hq.ok
theorem LeftAt.on {l : List Tok} {of : Str} {f : PS → Expr × PS} {S : PS} {r : Expr × PS} (hl : TokEnd l) (h : LeftAt l of f S r) (hc : ((r.2.code == 0) && isM l of r.2) = true) (hf : Ck l S.nest f) : (A9 r.2).i < l.length ∧ Fact l (A9 r.2) (f (A9 r.2)) ∧ LeftAt l of f S (Gq (A7 l r.2.i).text r.1 (f (A9 r.2)).1, (f (A9 r.2)).2) := by
 have hi := hl.stepIs h.fact.lt (Bool.and_eq_true_iff.1 hc).2
 have hq := hf (A9 r.2) hi h.fact.nest
 obtain ⟨n, hn, e⟩ := h.eq
 have h1 := h.fact.lt
 have h2 : r.2.i + 1 ≤ (f (A9 r.2)).2.i := hq.le
 obtain ⟨m, rfl⟩ : ∃ m, n = m + 1 := ⟨n - 1, by omega⟩
 refine ⟨hi, hq, Zc h.fact hq hl, m, by show l.length ≤ (f (A9 r.2)).2.i + m; omega, ?_⟩
 rw [e, R3, if_pos hc]
theorem LeftAt.out {l : List Tok} {of : Str} {f : PS → Expr × PS} {S : PS} {r : Expr × PS} (h : LeftAt l of f S r) (hc : ¬ ((r.2.code == 0) && isM l of r.2) = true) : Dq l of f S = r := by
 obtain ⟨n, hn, e⟩ := h.eq
 have h1 := h.fact.lt
 obtain ⟨m, rfl⟩ : ∃ m, n = m + 1 := ⟨n - 1, by omega⟩
 rw [e, R3, if_neg hc]
theorem Vb {l : List Tok} {of : Str} {f : PS → Expr × PS} {S : PS} (hl : TokEnd l) (hf : Ck l S.nest f) : ∀ (k : Nat) (r : Expr × PS), l.length - r.2.i ≤ k → LeftAt l of f S r → Fact l S (Dq l of f S)
 | 0, r, hk, h => by have := h.fact.lt; omega
 | k + 1, r, hk, h => by
  by_cases hc : ((r.2.code == 0) && isM l of r.2) = true
  ·obtain ⟨h1, h2, h3⟩ := h.on hl hc hf
   have h4 : r.2.i + 1 ≤ (f (A9 r.2)).2.i := h2.le
   exact Vb hl hf k _ (by show l.length - (f (A9 r.2)).2.i ≤ k; have := h.fact.lt; omega) h3
  rw [h.out hc]; exact h.fact
theorem Ej {l : List Tok} {of : Str} {f : PS → Expr × PS} {n : Nat} (hl : TokEnd l) (hf : Ck l n f) : Ck l n (Dq l of f) := fun S hi hn => Vb hl (hn ▸ hf) l.length (f S) (by omega) (.start (hf S hi hn))
theorem Gd {l : List Tok} {f : PS → Expr × PS} {S : PS} (a : Int) (hi : S.i < l.length) (hf : S.nest ≠ 30 → Ck l (S.nest + 1) f) : Fact l S (B7 a f S) := by
 unfold B7
 split
 ·exact L3 (Nat.le_refl _) hi rfl _ _
 rename_i h
 have h30 : S.nest ≠ 30 := fun e => h (by rw [e]; rfl)
 have := hf h30 (Bm S) hi rfl
 refine ⟨this.le, this.lt, ?_, this.ok, this.sz⟩
 show (f (Bm S)).2.nest - 1 = S.nest
 rw [this.nest]
 rfl
/-- What is so of some kids. -/
structure KFact (l : List Tok) (S : PS) (r : List Expr × PS) : Prop where
 le : S.i ≤ r.2.i
 lt : r.2.i < l.length
 nest : r.2.nest = S.nest
 len : r.1.length ≤ r.2.i - S.i + 1
 ok : ∀ y ∈ r.1, okE (2 * (r.2.i - S.i) + 1) y
 sz : Ah r.1 ≤ 2 * (r.2.i - S.i) + 1
structure ArgsAt (l : List Tok) (f : PS → Expr × PS) (S : PS) (r : List Expr × PS) : Prop where
 fact : KFact l S r
 eq : ∃ n, l.length ≤ r.2.i + n ∧ F7 l f S = argsF l f n r
theorem ArgsAt.start {l : List Tok} {f : PS → Expr × PS} {S : PS} (h : Fact l S (f S)) : ArgsAt l f S ([(f S).1], (f S).2) := ⟨⟨h.le, h.lt, h.nest, by simp, fun y hy => by rw [List.mem_singleton.1 hy]; exact h.ok, by have := h.sz; show sizeE (f S).1 + 0 ≤ _; exact this⟩, l.length, by omega, rfl⟩
theorem ArgsAt.on {l : List Tok} {f : PS → Expr × PS} {S : PS} {r : List Expr × PS} (hl : TokEnd l) (h : ArgsAt l f S r) (hc : ((r.2.code == 0) && isM l P0 r.2) = true) (hf : Ck l S.nest f) : (A9 r.2).i < l.length ∧ Fact l (A9 r.2) (f (A9 r.2)) ∧ ArgsAt l f S (r.1 ++ [(f (A9 r.2)).1], (f (A9 r.2)).2) := by
 have hi := hl.stepIs h.fact.lt (Bool.and_eq_true_iff.1 hc).2
 have hq := hf (A9 r.2) hi h.fact.nest
 obtain ⟨n, hn, e⟩ := h.eq
 have h1 := h.fact.lt
 have h0 := h.fact.le
 have h2 : r.2.i + 1 ≤ (f (A9 r.2)).2.i := hq.le
 obtain ⟨m, rfl⟩ : ∃ m, n = m + 1 := ⟨n - 1, by omega⟩
 refine ⟨hi, hq, ⟨by show S.i ≤ (f (A9 r.2)).2.i; omega, hq.lt, by show (f (A9 r.2)).2.nest = _; rw [hq.nest]; exact h.fact.nest, ?_, fun y hy => ?_, ?_⟩, m, by show l.length ≤ (f (A9 r.2)).2.i + m; omega, ?_⟩
 ·have := h.fact.len
  show (r.1 ++ _).length ≤ (f (A9 r.2)).2.i - S.i + 1
  simp only [List.length_append, List.length_cons, List.length_nil]
  omega
 ·show okE (2 * ((f (A9 r.2)).2.i - S.i) + 1) y
  rcases List.mem_append.1 hy with hy | hy
  ·exact Cw (by omega) (h.fact.ok y hy)
  rw [List.mem_singleton.1 hy]
  exact Cw (by show 2 * ((f (A9 r.2)).2.i - (r.2.i + 1)) + 1 ≤ _; omega) hq.ok
 ·have s1 := h.fact.sz
  have s2 : sizeE (f (A9 r.2)).1 ≤ 2 * ((f (A9 r.2)).2.i - (r.2.i + 1)) + 1 := hq.sz
  show Ah (r.1 ++ [(f (A9 r.2)).1]) ≤ 2 * ((f (A9 r.2)).2.i - S.i) + 1
  rw [R5, Ah, Ah]
  omega
 rw [e, argsF, if_pos hc]
theorem ArgsAt.out {l : List Tok} {f : PS → Expr × PS} {S : PS} {r : List Expr × PS} (h : ArgsAt l f S r) (hc : ¬ ((r.2.code == 0) && isM l P0 r.2) = true) : F7 l f S = r := by
 obtain ⟨n, hn, e⟩ := h.eq
 have h1 := h.fact.lt
 obtain ⟨m, rfl⟩ : ∃ m, n = m + 1 := ⟨n - 1, by omega⟩
 rw [e, argsF, if_neg hc]
theorem Vc {l : List Tok} {f : PS → Expr × PS} {S : PS} (hl : TokEnd l) (hf : Ck l S.nest f) : ∀ (k : Nat) (r : List Expr × PS), l.length - r.2.i ≤ k → ArgsAt l f S r → KFact l S (F7 l f S)
 | 0, r, hk, h => by have := h.fact.lt; omega
 | k + 1, r, hk, h => by
  by_cases hc : ((r.2.code == 0) && isM l P0 r.2) = true
  ·obtain ⟨h1, h2, h3⟩ := h.on hl hc hf
   have h4 : r.2.i + 1 ≤ (f (A9 r.2)).2.i := h2.le
   exact Vc hl hf k _ (by show l.length - (f (A9 r.2)).2.i ≤ k; have := h.fact.lt; omega) h3
  rw [h.out hc]; exact h.fact
theorem P2 {l : List Tok} {f : PS → Expr × PS} {S : PS} (hl : TokEnd l) (hi : S.i < l.length) (hf : Ck l S.nest f) : KFact l S (F7 l f S) := Vc hl hf l.length _ (by show l.length - (f S).2.i ≤ _; omega) (.start (hf S hi rfl))
theorem P3 {l : List Tok} {f : PS → Expr × PS} {S : PS} (hl : TokEnd l) (a : Int) (hi : S.i < l.length) (hf : S.nest ≠ 30 → Ck l (S.nest + 1) f) : KFact l S (Mz l a f S) := by
 unfold Mz
 split
 ·refine ⟨?_, ?_, ?_, by simp, fun y hy => (by cases hy), by simp [Ah]⟩
  ·show _ ≤ (Ce _ _ S).i; rw [failM_i.1]; exact Nat.le_refl _
  ·show (Ce _ _ S).i < _; rw [failM_i.1]; exact hi
  show (Ce _ _ S).nest = _; rw [failM_i.2]
 rename_i h
 have h30 : S.nest ≠ 30 := fun e => h (by rw [e]; rfl)
 have := P2 (S := Bm S) hl hi (hf h30)
 refine ⟨this.le, this.lt, ?_, this.len, this.ok, this.sz⟩
 show (F7 l f (Bm S)).2.nest - 1 = S.nest
 rw [this.nest]
 rfl
theorem Xw {l : List Tok} {D : Fam} {S : PS} (hl : TokEnd l) (hll : l.length ≤ 1048576) {t : Tok} (ht : t.text.length ≤ 1048576) (hi : (A9 S).i < l.length) (hf : S.nest ≠ 30 → Ck l (S.nest + 1) D.ei) : Fact l S (F8 l D t S) := by
 have hk : KFact l (A9 S) (Bw l D S) := P3 hl _ hi hf
 have h1 : S.i + 1 ≤ (Bw l D S).2.i := hk.le
 obtain ⟨w1, w2, w3⟩ := Zb (s := Dc) hl hk.lt
 unfold F8
 split
 ·exact L3 (Nat.le_refl _) (by show S.i < _; have : S.i + 1 < l.length := hi; omega) rfl _ _
 split
 ·exact L3 (show S.i ≤ (Di l Dc (Bw l D S).2).i by omega) w2 (w3.trans hk.nest) 8 t.at_
 refine ⟨by show S.i ≤ (Di l Dc (Bw l D S).2).i; omega, w2, w3.trans hk.nest, ?_, ?_⟩
 rotate_left
 ·have s1 : Ah (Bw l D S).1 ≤ 2 * ((Bw l D S).2.i - (S.i + 1)) + 1 := hk.sz
  show sizeE (.mk 6 t.text noV (Bw l D S).1) ≤ 2 * ((Di l Dc (Bw l D S).2).i - S.i) + 1
  rw [sizeE]
  omega
 show okE (2 * ((Di l Dc (Bw l D S).2).i - S.i) + 1) _
 refine ⟨ht, ?_, fun y hy => ?_⟩
 ·have h5 : (Bw l D S).1.length ≤ (Bw l D S).2.i - (A9 S).i + 1 := hk.len
  have h6 := hk.lt
  show (Bw l D S).1.length ≤ 1048576
  omega
 exact Cw (by show 2 * ((Bw l D S).2.i - (S.i + 1)) + 1 ≤ _; omega) (hk.ok y hy)
theorem Xx {l : List Tok} {D : Fam} {n : Nat} (hl : TokEnd l) (hll : l.length ≤ 1048576) (hf : n ≠ 30 → Ck l (n + 1) D.ei) : Ck l n (Ea l D) := by
 intro S hi hn
 subst hn
 unfold Ea
 have leaf : ∀ e : Expr, okE 1 e → sizeE e = 1 → (A7 l S.i).kind ≠ 0 → Fact l S (e, A9 S) := fun e he hs hk => ⟨Nat.le_succ _, hl.step hi hk, rfl, Cw (by omega) he, by show sizeE e ≤ _; omega⟩
 split
 ·exact ⟨Nat.le_refl _, hi, rfl, Va (by omega), by show sizeE Aa ≤ _; rw [P1]; omega⟩
 split
 ·rename_i h
  refine leaf _ (Za (Nat.le_refl _) _) rfl ?_
  rcases Bool.or_eq_true_iff.1 h with h | h
  ·rw [beq_iff_eq] at h; rw [h]; decide
  exact ja h
 split
 ·rename_i h
  rw [beq_iff_eq] at h
  exact leaf _ (Za (Nat.le_refl _) _) rfl (by rw [h]; decide)
 split
 ·rename_i h
  rw [beq_iff_eq] at h
  have hk : (A7 l S.i).kind ≠ 0 := by rw [h]; decide
  split
  ·rename_i h2
   have hi1 : (A9 S).i < l.length := hl.step hi hk
   have := Xw (S := A9 S) (D := D) hl hll (hl.text S.i) (hl.stepIs hi1 h2) hf
   have h3 : S.i + 1 ≤ (F8 l D (A7 l S.i) (A9 S)).2.i := this.le
   have h4 : sizeE (F8 l D (A7 l S.i) (A9 S)).1 ≤ 2 * ((F8 l D (A7 l S.i) (A9 S)).2.i - (S.i + 1)) + 1 := this.sz
   exact ⟨by omega, this.lt, this.nest, Cw (by show 2 * ((F8 l D (A7 l S.i) (A9 S)).2.i - (S.i + 1)) + 1 ≤ _; omega) this.ok, by omega⟩
  exact leaf _ (Us _ (hl.text _)) rfl hk
 split
 ·rename_i h
  have hi1 : (A9 S).i < l.length := hl.stepIs hi h
  have := Gd (S := A9 S) (l := l) (f := D.ei) (A7 l S.i).at_ hi1 hf
  obtain ⟨w1, w2, w3⟩ := Zb (s := Dc) hl this.lt
  have h3 : S.i + 1 ≤ (B7 (A7 l S.i).at_ D.ei (A9 S)).2.i := this.le
  have h4 : sizeE (B7 (A7 l S.i).at_ D.ei (A9 S)).1 ≤ 2 * ((B7 (A7 l S.i).at_ D.ei (A9 S)).2.i - (S.i + 1)) + 1 := this.sz
  refine ⟨by show S.i ≤ (Di l Dc _).i; omega, w2, w3.trans this.nest, Cw ?_ this.ok, by show sizeE (B7 (A7 l S.i).at_ D.ei (A9 S)).1 ≤ 2 * ((Di l Dc (B7 (A7 l S.i).at_ D.ei (A9 S)).2).i - S.i) + 1; omega⟩
  show 2 * ((B7 (A7 l S.i).at_ D.ei (A9 S)).2.i - (S.i + 1)) + 1 ≤ 2 * ((Di l Dc (B7 (A7 l S.i).at_ D.ei (A9 S)).2).i - S.i) + 1
  omega
 exact L3 (Nat.le_refl _) hi rfl _ _
theorem Zd {l : List Tok} {S : PS} {r : Expr × PS} (h : Fact l (A9 S) r) (op : Int) : Fact l S (Em op r.1, r.2) := by
 have h1 : S.i + 1 ≤ r.2.i := h.le
 refine ⟨by show S.i ≤ r.2.i; omega, h.lt, h.nest, ?_, ?_⟩
 rotate_left
 ·have s1 : sizeE r.1 ≤ 2 * (r.2.i - (S.i + 1)) + 1 := h.sz
  show sizeE (Em op r.1) ≤ 2 * (r.2.i - S.i) + 1
  rw [ct]
  omega
 show okE (2 * (r.2.i - S.i) + 1) _
 refine ⟨by simp [Em, Expr.text], by simp [Em, Expr.kids], fun y hy => ?_⟩
 have hy' : y = r.1 := by simpa [Em, Expr.kids] using hy
 subst hy'
 exact Cw (by show 2 * (r.2.i - (S.i + 1)) + 1 ≤ _; omega) h.ok
theorem M6 {l : List Tok} {D : Fam} {n : Nat} (hl : TokEnd l) (hll : l.length ≤ 1048576) (hf : n ≠ 30 → Ck l (n + 1) D.ei) (hg : n ≠ 30 → Ck l (n + 1) D.ne) : Ck l n (Ni l D) := by
 intro S hi hn
 unfold Ni
 split
 ·exact Xx hl hll hf S hi hn
 rename_i h
 subst hn
 exact Zd (Gd (S := A9 S) _ (hl.stepIs hi (by simpa using h)) hg) 3
theorem R6 {l : List Tok} {D : Fam} {n : Nat} (hl : TokEnd l) (hll : l.length ≤ 1048576) (hf : n ≠ 30 → Ck l (n + 1) D.ei) (hg : n ≠ 30 → Ck l (n + 1) D.ne) : Ck l n (Cj l D) := Ej hl (Ej hl (M6 hl hll hf hg))
theorem Ju {l : List Tok} {D : Fam} {n : Nat} (hl : TokEnd l) (hll : l.length ≤ 1048576) (hf : n ≠ 30 → Ck l (n + 1) D.ei) (hg : n ≠ 30 → Ck l (n + 1) D.ne) : Ck l n (Dj l D) := by
 intro S hi hn
 have h1 := R6 hl hll hf hg S hi hn
 unfold Dj
 split
 ·exact h1
 rename_i h
 simp only [Bool.or_eq_true, not_or, Bool.not_eq_true, Bool.not_eq_false'] at h
 exact Zc h1 (R6 hl hll hf hg _ (hl.stepIs h1.lt h.2) (h1.nest.trans hn)) hl
theorem R7 {l : List Tok} {D : Fam} {n : Nat} (hl : TokEnd l) (hll : l.length ≤ 1048576) (hf : n ≠ 30 → Ck l (n + 1) D.ei) (hg : n ≠ 30 → Ck l (n + 1) D.ne) (hh : n ≠ 30 → Ck l (n + 1) D.no) : Ck l n (Nj l D) := by
 intro S hi hn
 unfold Nj
 split
 ·exact Ju hl hll hf hg S hi hn
 rename_i h
 subst hn
 exact Zd (Gd (S := A9 S) _ (hl.stepIs hi (by simpa using h)) hh) 4
theorem M7 {l : List Tok} (hl : TokEnd l) (hll : l.length ≤ 1048576) : ∀ (d n : Nat), n + d = 31 → n ≠ 31 → Ck l n (Dd l d).ei ∧ Ck l n (Dd l d).no ∧ Ck l n (Dd l d).ne
 | 0, n, h, h2 => by omega
 | d + 1, n, h, _ => by
  have ih : n ≠ 30 → _ := fun h30 => M7 hl hll d (n + 1) (by omega) (by omega)
  have hn := R7 (D := Dd l d) (n := n) hl hll (fun h => (ih h).1) (fun h => (ih h).2.2) (fun h => (ih h).2.1)
  exact ⟨Ej hl (Ej hl hn), hn, M6 hl hll (fun h => (ih h).1) (fun h => (ih h).2.2)⟩
/-! What is printed of columns, word by word. -/
structure ColOk (x : Col) : Prop where
 name : C8 x.name = true
 lo : 1 ≤ x.kind
 hi : x.kind ≤ 3
def ktT (t : Tok) : Int × Str := (t.kind, t.text)
/-! What is printed of a schema is read. -/
/-- What goes together: names of their own. -/
theorem jb {c : List Col} (h : Dp c = true) : (∀ y ∈ c, ColOk y) ∧ (c.map (·.name)).Nodup := by
 rw [colsM_true] at h
 have hat : ∀ (j : Nat) (y : Col), c[j]? = some y → El y.name = true ∧ 1 ≤ y.kind ∧ y.kind ≤ 3 ∧ Al y.name c = (j : Int) := by
  intro j y hj
  have := h j y hj
  unfold O7 at this
  simp only [Bool.not_eq_true', Bool.or_eq_false_iff, Bool.not_eq_false', decide_eq_false_iff_not, bne_eq_false_iff_eq] at this
  obtain ⟨⟨⟨h1, h2⟩, h3⟩, h4⟩ := this
  exact ⟨h1, by omega, by omega, h4⟩
 refine ⟨fun y hy => ?_, ?_⟩
 ·obtain ⟨j, hj⟩ := List.getElem?_of_mem hy
  obtain ⟨h1, h2, h3, _⟩ := hat j y hj
  exact ⟨by rw [Ff]; exact h1, h2, h3⟩
 show List.Pairwise _ _
 rw [List.pairwise_iff_getElem]
 intro i j hi hj hij e
 simp only [List.length_map] at hi hj
 simp only [List.getElem_map] at e
 have e1 := (hat i c[i] (List.getElem?_eq_getElem hi)).2.2.2
 have e2 := (hat j c[j] (List.getElem?_eq_getElem hj)).2.2.2
 rw [e] at e1
 omega
theorem ym (c : List Col) (Hp : List AObj) : AFun Tryz.prog 9 [Ac c] Hp (An (Is c)) := by
 refine ACall.body [.tmp 2] [0] Tryz.func9 Tryz.ntmps9 (fun d => ?_)
 refine Z38 ?_;refine Z18 ?_;refine R.fin [0, 6] ?_
 refine W.cond (fun ht6 => ?_) (fun ht6 => ?_)
 ·refine Z20 ?_;refine K.thR ?_;exact K.fin (V.one V.tmp) ⟨by simp [Is] at ht6 ⊢; omega, rfl⟩
 refine Uc ?_;refine H5 ?_
 refine AW.loopC (α := Nat) (fun x => ⟨20, A4 0 (Ac c) (A4 3 (A2 (x : Nat)) (fun _ => .any)), Hp, [], [], none⟩) (fun x => x ≤ c.length ∧ ∀ (j : Nat) (y : Col), j < x → c[j]? = some y → decide ((100 : Int) < y.name.length) = false) (fun x => c.length - x) (0) (by simp) (StLe.refl _) rfl (fun x hx => ?_)
 refine Z46 ?_;refine R.fin [0, 3, 10] ?_
 refine W.cond (fun ht10 => ?_) (fun ht10 => ?_)
 ·have hlt : x < c.length := by simpa using ht10
  have hcl : c.length ≤ 50 := by simp at ht6; omega
  refine U9 ?_
  refine R.go (h := Q.indexAddr (x) (Av c[x]) (fun _ => Ak hlt)) (hr := ?_)
  refine Z72 ?_;refine R.fin [0, 3, 19] ?_
  refine W.cond (fun ht19 => ?_) (fun ht19 => ?_)
  ·refine U6 ?_;exact K.fin (V.one V.tmp) ⟨by rw [show Is c = true from by unfold Is; rw [ie (p := fun y : Col => decide ((100 : Int) < y.name.length)) hlt ht19, Bool.or_true]], rfl⟩
  refine ge ?_;exact K.lpN (x + 1) ⟨hlt, Bk hlt hx.2 ht19⟩ (by omega) (StCut.of_eq rfl)
 refine Ub ?_;exact K.fin (V.one V.tmp) ⟨by rw [show Is c = false from by unfold Is; rw [Uf (H6 (by simp at ht10; omega) hx.2)]; simpa using ht6], rfl⟩
theorem Ze {c : List Col} (h : Is c = false) : OkCols c := by
 unfold Is at h
 simp only [Bool.or_eq_false_iff, decide_eq_false_iff_not, List.any_eq_false, decide_eq_true_eq] at h
 refine ⟨by omega, fun y hy => ?_⟩
 have := h.2 y hy
 omega
def Vd {α : Type} [BEq α] (v : α) (l : List α) : Int := match l.findIdx? (· == v) with | some i => i | none => -1
theorem rx {α : Type} [BEq α] [LawfulBEq α] {v : α} {l : List α} {x : Nat} (h : x < l.length) (h1 : l[x] = v) (h2 : ∀ (j : Nat) (y : α), j < x → l[j]? = some y → ¬ (y = v)) : Vd v l = x := by
 have : l.findIdx? (· == v) = some x := by
  rw [List.findIdx?_eq_some_iff_getElem]
  exact ⟨h, by simpa using h1, fun j hj => by simpa using h2 j l[j] hj (List.getElem?_eq_getElem _)⟩
 simp [Vd, this]
theorem jc {α : Type} [BEq α] [LawfulBEq α] {v : α} {l : List α} (h : ∀ (j : Nat) (y : α), l[j]? = some y → ¬ (y = v)) : Vd v l = -1 := by
 have : l.findIdx? (· == v) = none := by
  rw [List.findIdx?_eq_none_iff]
  intro y hy
  obtain ⟨j, hj⟩ := List.getElem?_of_mem hy
  simpa using h j y hj
 simp [Vd, this]
theorem nl {α : Type} [BEq α] [LawfulBEq α] (v : α) (l : List α) : decide (0 ≤ Vd v l) = l.contains v := by
 unfold Vd
 cases h : l.findIdx? (· == v) with
 | none =>
  rw [List.findIdx?_eq_none_iff] at h
  have : l.contains v = false := by
   rw [Bool.eq_false_iff]
   intro hc
   have := h v (by simpa using hc)
   simp at this
  rw [this]; rfl
 | some i =>
  rw [List.findIdx?_eq_some_iff_getElem] at h
  obtain ⟨hi, e, _⟩ := h
  have : l.contains v = true := by
   have : l[i] = v := by simpa using e
   rw [← this]
   simp
  rw [this]
  simp only [decide_eq_true_eq]
  omega
theorem c58 (l : List Str) (v : Str) (hl : l.length ≤ 1048576) (Hp : List AObj) : AFun Tryz.prog 58 [Dg l, A6 v] Hp (A2 (Vd v l)) := by
 refine ACall.body [.tmp 4] [0, 1] Tryz.func58 Tryz.ntmps58 (fun d => ?_)
 refine bn ?_
 refine AW.loopC (α := Nat) (fun x => ⟨19, A4 0 (Dg l) (A4 1 (A6 v) (A4 7 (A2 l.length) (A4 8 (A2 (x : Nat)) (fun _ => .any)))), Hp, [], [], none⟩) (fun x => x ≤ l.length ∧ ∀ (j : Nat) (y : Str), j < x → l[j]? = some y → ¬ (y = v)) (fun x => l.length - x) (0) (by simp) (StLe.of_eq (by simp)) rfl (fun x hx => ?_)
 refine bc ?_
 refine W.condX (fun ht9 => ?_) (fun ht9 => ?_)
 ·have hlt : x < l.length := by simpa using ht9
  refine bj ?_
  refine R.go (h := Q.indexAddr (x) (A6 l[x]) (fun _ => Ak hlt)) (hr := ?_)
  refine Z1 ?_;refine br ?_
  refine W.cond (fun ht16 => ?_) (fun ht16 => ?_)
  ·refine bg ?_;refine Z42 ?_;exact K.fin (V.one V.tmp) ⟨by rw [rx hlt (by simpa using (Eq.symm (by simpa using ht16) : l[x] = v)) hx.2], rfl⟩
  refine Z81 ?_;refine R.fin [0, 1, 7, 8] ?_;exact K.lpN (x + 1) ⟨hlt, Bk hlt hx.2 (fun e => by rw [e] at ht16; simp at ht16)⟩ (by omega) (StCut.of_eq rfl)
 refine Sh ?_;refine Z26 ?_;exact K.fin (V.one V.tmp) ⟨by rw [jc (H6 (by simp at ht9; omega) hx.2)], rfl⟩

theorem c40 (l : List Str) (v : Str) (hl : l.length ≤ 1048576) (Hp : List AObj) : AFun Tryz.prog 40 [Dg l, A6 v] Hp (An (l.contains v)) := by
 refine ACall.body [.tmp 4] [0, 1] Tryz.func40 Tryz.ntmps40 (fun d => ?_)
 refine Z54 ?_;refine Z4 ?_;refine R.call Tryz.call58 (c58 l v hl _) ?_;refine Z1 ?_;refine Z26 ?_;exact K.fin (V.one V.tmp) ⟨by rw [nl], rfl⟩

theorem cu {n k : Nat} {o : Bool} {l : List Col} {z : Col} : Low n (.slice o k (l.map Av ++ [Av z])) := by
 refine .slice _ _ _ (fun y hy => ?_)
 have key : ∀ c : Col, ∀ w ∈ (Av c).cells, Low n w := by
  intro c w hw
  have hw' : w ∈ [AV.v (sv c.name), AV.v (.int .i64 c.kind)] := hw
  simp only [List.mem_cons, List.not_mem_nil, or_false] at hw'
  rcases hw' with rfl | rfl
  ·exact .v _
  exact .v _
 rcases List.mem_append.1 hy with hy | hy
 ·obtain ⟨a, _, rfl⟩ := List.mem_map.1 hy
  exact key a
 rw [List.mem_singleton.1 hy]
 exact key z
def Jh (c : List Col) (take : List Str) (j : Nat) (nm : Str) : Bool := !(decide (Al nm c < 0) || (Vd nm take != (j : Int)))
def Ex (c : List Col) (take : List Str) : Bool := take.zipIdx.all fun x => Jh c take x.2 x.1
theorem takenM_true {c : List Col} {take : List Str} : Ex c take = true ↔ ∀ (j : Nat) (y : Str), take[j]? = some y → Jh c take j y = true := K4
def L4 (c : List Col) (x : Nat) (y : Col) : Bool := !((!El y.name) || (Al y.name c != (x : Int)))
def Gr (c : List Col) : Bool := c.zipIdx.all fun x => L4 c x.2 x.1
theorem namedC_true {c : List Col} : Gr c = true ↔ ∀ (j : Nat) (y : Col), c[j]? = some y → L4 c j y = true := K4
def C3 (c : List Col) (take : List Str) : List Col := c.filter fun y => !take.contains y.name
theorem np {c : List Col} {take : List Str} {k : Nat} {y : Col} (h : c[k]? = some y) (hn : take.contains y.name = false) : C3 (c.take (k + 1)) take = C3 (c.take k) take ++ [y] := by
 unfold C3
 have e : c.take (k + 1) = c.take k ++ [y] := by rw [List.take_succ, h]; rfl
 have hm : ¬ y.name ∈ take := by simpa using hn
 rw [e, List.filter_append]
 simp [List.filter_cons, hm]
theorem cv {c : List Col} {take : List Str} {k : Nat} {y : Col} (h : c[k]? = some y) (hn : take.contains y.name = true) : C3 (c.take (k + 1)) take = C3 (c.take k) take := by
 unfold C3
 have e : c.take (k + 1) = c.take k ++ [y] := by rw [List.take_succ, h]; rfl
 have hm : y.name ∈ take := by simpa using hn
 rw [e, List.filter_append]
 simp [List.filter_cons, hm]
theorem Fq (c : List Col) (take : List Str) : (C3 c take).length ≤ c.length := List.length_filter_le _ _
def By (c : List Col) (take : List Str) (give : List Col) : List Col × Int :=
 if Cu c = false then ([], 1) else if Ex c take = false then ([], 9) else if Gr (C3 c take ++ give) = false then ([], 9)
 else if Dp (C3 c take ++ give) = false then ([], 10) else if 12 < (C3 c take ++ give).length then ([], 3) else (C3 c take ++ give, 0)
theorem jd {c : List Col} {take : List Str} {give : List Col} (h : Cu c = false) : By c take give = ([], 1) := by unfold By; rw [if_pos h]
theorem je {c : List Col} {take : List Str} {give : List Col} (h : Cu c = true) (h2 : Ex c take = false) : By c take give = ([], 9) := by unfold By; rw [if_neg (by rw [h]; simp), if_pos h2]
theorem jf {c : List Col} {take : List Str} {give out : List Col} (h : Cu c = true) (h2 : Ex c take = true) (ho : C3 c take ++ give = out) (h3 : Gr out = false) : By c take give = ([], 9) := by
 unfold By; rw [ho, if_neg (by rw [h]; simp), if_neg (by rw [h2]; simp), if_pos h3]
theorem jg {c : List Col} {take : List Str} {give out : List Col} (h : Cu c = true) (h2 : Ex c take = true) (ho : C3 c take ++ give = out) (h3 : Gr out = true) (h4 : Dp out = false) : By c take give = ([], 10) := by
 unfold By; rw [ho, if_neg (by rw [h]; simp), if_neg (by rw [h2]; simp), if_neg (by rw [h3]; simp), if_pos h4]
theorem jh {c : List Col} {take : List Str} {give out : List Col} (h : Cu c = true) (h2 : Ex c take = true) (ho : C3 c take ++ give = out) (h3 : Gr out = true) (h4 : Dp out = true) (h5 : 12 < out.length) : By c take give = ([], 3) := by
 unfold By; rw [ho, if_neg (by rw [h]; simp), if_neg (by rw [h2]; simp), if_neg (by rw [h3]; simp), if_neg (by rw [h4]; simp), if_pos h5]
theorem ji {c : List Col} {take : List Str} {give out : List Col} (h : Cu c = true) (h2 : Ex c take = true) (ho : C3 c take ++ give = out) (h3 : Gr out = true) (h4 : Dp out = true) (h5 : ¬ 12 < out.length) : By c take give = (out, 0) := by
 unfold By; rw [ho, if_neg (by rw [h]; simp), if_neg (by rw [h2]; simp), if_neg (by rw [h3]; simp), if_neg (by rw [h4]; simp), if_neg h5]
theorem M8 {c : List Col} (h : Cu c = true) : c.length ≤ 12 := by
 unfold Cu at h
 simp at h
 omega
theorem jk {c give : List Col} {take : List Str} {out : List Col} (hc : OkCols c) (h : Cu c = true) (hg : OkCols give) (hg2 : give.length ≤ 1000000) (ho : C3 c take ++ give = out) : OkCols out := by
 subst ho
 have h1 := Fq c take
 have h2 := M8 h
 refine ⟨by simp only [List.length_append]; omega, fun y hy => ?_⟩
 rcases List.mem_append.1 hy with hy | hy
 ·exact hc.2 y ((List.mem_filter.1 hy).1)
 exact hg.2 y hy
theorem yn (c : List Col) (hc : OkCols c) (take : List Str) (ht : take.length ≤ 1048576) (Hp : List AObj) : AFun Tryz.prog 131 [Ac c, Dg take] Hp (An (Ex c take)) := by
 refine ACall.body [.tmp 4] [0, 1] Tryz.func131 Tryz.ntmps131 (fun d => ?_)
 refine Z54 ?_;refine Z18 ?_;refine R.fin [0, 1, 7, 8, 9] ?_
 refine AW.loopC (α := Nat) (fun x => ⟨26, A4 0 (Ac c) (A4 1 (Dg take) (A4 7 (Dg take) (A4 8 (A2 take.length) (A4 9 (A2 (x : Nat)) (fun _ => .any))))), Hp, [], [], none⟩) (fun x => x ≤ take.length ∧ ∀ (j : Nat) (y : Str), j < x → take[j]? = some y → Jh c take j y = true) (fun x => take.length - x) (0) (by simp) (StLe.of_eq (by simp)) rfl (fun x hx => ?_)
 refine Z0 ?_;refine R.fin [0, 1, 7, 8, 9, 10] ?_
 refine W.condX (fun ht10 => ?_) (fun ht10 => ?_)
 ·have hlt : x < take.length := by simpa using ht10
  refine Nh ?_
  refine R.go (h := Q.indexAddr (x) (A6 take[x]) (fun _ => Ak hlt)) (hr := ?_)
  refine Z25 ?_;refine R.fin [0, 1, 5, 6, 7, 8, 9] ?_;refine Z4 ?_;refine R.call Tryz.call59 (c59 c hc _ _) ?_;refine Z36 ?_;refine G.call Tryz.call58 (fun hB => c58 take _ ht _) ?_;refine Lo ?_;refine R.fin [0, 1, 7, 8, 9, 24] ?_
  refine W.cond (fun ht24 => ?_) (fun ht24 => ?_)
  ·refine Z0 ?_;refine Z26 ?_;refine Z42 ?_
   exact K.fin (V.one V.tmp) ⟨by rw [show Ex c take = false from Bool.eq_false_iff.2 fun h => by have := takenM_true.1 h x take[x] (List.getElem?_eq_getElem hlt); unfold Jh at this; rw [ht24] at this; cases this], rfl⟩
  refine Z81 ?_;refine R.fin [0, 1, 7, 8, 9] ?_;exact K.lpN (x + 1) ⟨hlt, Hm hlt hx.2 (by unfold Jh; rw [ht24]; rfl)⟩ (by omega) (StCut.of_eq rfl)
 refine Sh ?_;refine Z26 ?_;exact K.fin (V.one V.tmp) ⟨by rw [takenM_true.2 (Jd (by simp at ht10; omega) hx.2)], rfl⟩

theorem yo (c : List Col) (hc : OkCols c) (Hp : List AObj) : AFun Tryz.prog 133 [Ac c] Hp (An (Gr c)) := by
 refine ACall.body [.tmp 2] [0] Tryz.func133 Tryz.ntmps133 (fun d => ?_)
 refine Z38 ?_;refine Z18 ?_;refine R.fin [0, 5, 6, 7] ?_
 refine AW.loopC (α := Nat) (fun x => ⟨25, A4 0 (Ac c) (A4 5 (Ac c) (A4 6 (A2 c.length) (A4 7 (A2 (x : Nat)) (fun _ => .any)))), Hp, [], [], none⟩) (fun x => x ≤ c.length ∧ ∀ (j : Nat) (y : Col), j < x → c[j]? = some y → L4 c j y = true) (fun x => c.length - x) (0) (by simp) (StLe.of_eq (by simp)) rfl (fun x hx => ?_)
 refine Z0 ?_;refine R.fin [0, 5, 6, 7, 8] ?_
 refine W.condX (fun ht8 => ?_) (fun ht8 => ?_)
 ·have hlt : x < c.length := by simpa using ht8
  have hcl := hc.len
  refine Nh ?_
  refine R.go (h := Q.indexAddr (x) (Av c[x]) (fun _ => Ak hlt)) (hr := ?_)
  refine bh ?_;refine R.fin [0, 3, 4, 5, 6, 7] ?_;refine Z4 ?_;refine R.call Tryz.call108 (ii _ (hc.names _ (List.getElem_mem hlt)) _) ?_;refine Z86 ?_;refine G.call Tryz.call59 (fun hB => c59 c hc _ _) ?_;refine Lo ?_;refine R.fin [0, 5, 6, 7, 23] ?_
  refine W.cond (fun ht23 => ?_) (fun ht23 => ?_)
  ·rw [Ff] at ht23
   refine U6 ?_
   exact K.fin (V.one V.tmp) ⟨by rw [show Gr c = false from Bool.eq_false_iff.2 fun h => by have := namedC_true.1 h x c[x] (List.getElem?_eq_getElem hlt); unfold L4 at this; rw [ht23] at this; cases this], rfl⟩
  rw [Ff] at ht23
  refine Z81 ?_;refine R.fin [0, 5, 6, 7] ?_
  refine K.lpN (x + 1) ⟨hlt, Hm hlt hx.2 (by unfold L4; rw [ht23]; rfl)⟩ (by omega) ?_
  exact StCut.take (own := []) (fun _ => .refl _) (by repeat (first | exact Ap | refine Ao (by simp [or_imp, forall_and]) ?_)) (by simp) (by simp)
 refine Z27 ?_;refine Z20 ?_;exact K.fin (V.one V.tmp) ⟨by rw [namedC_true.2 (Jd (by simp at ht8; omega) hx.2)], rfl⟩

theorem yp (c : List Col) (take : List Str) (Hp : List AObj) : AFun Tryz.prog 132 [Ac c, Dg take] Hp (.fn (.func 165) [] [.ro [Ac c], .ro [Dg take]]) := by
 refine ACall.body [.tmp 4] [0, 1] Tryz.func132 Tryz.ntmps132 (fun d => ?_)
 refine Z7 ?_;refine Et ?_;refine Cs ?_;refine Ip ?_;refine R.go ?_;exact qn

theorem yq (l : Nat) (c : List Col) (take : List Str) (hc : c.length ≤ 1048576) (ht : take.length ≤ 1048576) (U : Nat → List AObj) (hlen : ∀ k, (U k).length = (U 0).length) (hll : l < (U 0).length)
  (hlw : ∀ k, ∀ x ∈ U k, ObjLow (U 0).length x) (hn : ∀ k y, c[k]? = some y → take.contains y.name = true → U (k + 1) = U k)
  (hy : ∀ k y X, c[k]? = some y → take.contains y.name = false → AYield Tryz.prog l [Av y] (U k ++ X) (fun b H' => b = true ∧ H' = U (k + 1) ++ X)) : ACall Tryz.prog 165 [.yield l, .ro [Ac c], .ro [Dg take]] (U 0) (fun _ H' => H' = U c.length) := by
 refine ACall.body [] [0, 1, 2] Tryz.func165 Tryz.ntmps165 (fun d => ?_)
 refine Z7 ?_;refine R.fin [0, 2, 6, 7, 8] ?_
 refine AW.loopC (α := Nat) (fun x => ⟨24, A4 0 (.yield l) (A4 2 (.ro [Dg take]) (A4 6 (Ac c) (A4 7 (A2 c.length) (A4 8 (A2 (x : Nat)) (fun _ => .any))))), U x, [], [], none⟩) (fun x => x ≤ c.length) (fun x => c.length - x) (0) (Nat.zero_le _) (StLe.of_eq (by simp)) rfl (fun x hx => ?_)
 refine Z0 ?_;refine R.fin [0, 2, 6, 7, 8, 9] ?_
 refine W.condX (fun ht9 => ?_) (fun ht9 => ?_)
 ·have hlt : x < c.length := by simpa using ht9
  refine Z88 ?_
  refine R.go (h := Q.indexAddr (x) (Av c[x]) (fun _ => Ak hlt)) (hr := ?_)
  refine Nf ?_;refine R.fin [0, 2, 5, 6, 7, 8] ?_;refine Z7 ?_;refine R.call Tryz.call40 (c40 take _ ht _) ?_;refine Z36 ?_
  refine G.yield (l := l) (C := ((!take.contains c[x].name) == true)) (args := [Av c[x]]) (fun hC => hy x c[x] _ (List.getElem?_eq_getElem hlt) (by simpa using hC)) ?_
  intro b V O hV hb hb0
  have hVO : V = U (x + 1) ∧ O = [AObj.cells 58 [A6 c[x].name, A2 c[x].kind]] ∧ (take.contains c[x].name = false → b = true) := by
   cases hcn : take.contains c[x].name with
   | true =>
    obtain ⟨h1, h2⟩ := hb0 (by rw [hcn]; rfl)
    exact ⟨h1.trans (hn x c[x] (List.getElem?_eq_getElem hlt) hcn).symm, h2, fun e => by cases e⟩
   | false =>
    obtain ⟨h1, h2⟩ := hb (by rw [hcn]; rfl)
    have h3 := List.append_inj h2 (by rw [hV, hlen x, hlen (x + 1)])
    exact ⟨h3.1, h3.2, fun _ => h1⟩
  obtain ⟨rfl, rfl, hbt⟩ := hVO
  refine ⟨fun _ => by rw [hlen (x + 1)]; exact hlw (x + 1), fun o ho => (by cases ho), ?_⟩
  refine Si ?_;refine R.fin [0, 2, 6, 7, 8, 22] ?_
  refine W.cond (fun ht22 => ?_) (fun ht22 => ?_)
  ·exfalso
   have hcf : take.contains c[x].name = false := by simp at ht22 ⊢; exact ht22.1
   rw [hbt hcf] at ht22
   simp at ht22
  refine Z81 ?_;refine R.fin [0, 2, 6, 7, 8] ?_;refine bt ?_
  exact StCut.take (own := []) (fun _ => .refl _) (by repeat (first | exact Ap | refine Ao (by first | (simp [or_imp, forall_and]; done) | (have := hlen (x + 1); simp; omega)) ?_)) (by simp) (by simp)
 have hxe : x = c.length := by simp at ht9; omega
 exact ux

/-! What went and came, taken back: the same columns. -/
theorem jl {α β : Type} {f : α → β} {c : List α} (h : (c.map f).Nodup) {i j : Nat} {y z : α} (hi : c[i]? = some y) (hj : c[j]? = some z) (e : f y = f z) : i = j := by
 obtain ⟨hi', ei⟩ := List.getElem?_eq_some_iff.1 hi
 obtain ⟨hj', ej⟩ := List.getElem?_eq_some_iff.1 hj
 have h' : List.Pairwise (· ≠ ·) (c.map f) := h
 rw [List.pairwise_iff_getElem] at h'
 rcases Nat.lt_trichotomy i j with hlt | rfl | hlt
 ·have h2 := h' i j (by simpa using hi') (by simpa using hj') hlt
  rw [List.getElem_map, List.getElem_map, ei, ej] at h2
  exact absurd e h2
 ·rfl
 have h2 := h' j i (by simpa using hj') (by simpa using hi') hlt
 rw [List.getElem_map, List.getElem_map, ei, ej] at h2
 exact absurd e.symm h2
theorem Xy {c : List Col} (h : (c.map (·.name)).Nodup) {j : Nat} {y : Col} (hj : c[j]? = some y) : Al y.name c = (j : Int) := by
 obtain ⟨hj', ej⟩ := List.getElem?_eq_some_iff.1 hj
 exact O6 hj' (by rw [ej]) (fun k z hk hz e => by have := jl h hz hj e; omega)
theorem find_mem {nm : Str} {c : List Col} : ¬ (Al nm c < 0) ↔ ∃ (j : Nat) (y : Col), c[j]? = some y ∧ y.name = nm ∧ Al nm c = (j : Int) := by
 unfold Al
 cases h : c.findIdx? (fun y => y.name == nm) with
 | none =>
  constructor
  ·intro h'; exact absurd (by decide) h'
  rintro ⟨j, y, _, _, e⟩
  exact absurd (show (-1 : Int) = (j : Int) from e) (by omega)
 | some i =>
  rw [List.findIdx?_eq_some_iff_getElem] at h
  obtain ⟨hi, e, _⟩ := h
  constructor
  ·intro _; exact ⟨i, c[i], List.getElem?_eq_getElem hi, by simpa using e, rfl⟩
  intro _ h'
  have : (i : Int) < 0 := h'
  omega
theorem nq {c : List Col} {take : List Str} {give : List Col} (h : (By c take give).2 = 0) : Cu c = true ∧ Ex c take = true ∧ Dp (C3 c take ++ give) = true ∧ (C3 c take ++ give).length ≤ 12 ∧ By c take give = (C3 c take ++ give, 0) := by
 cases h1 : Cu c with
 | false => rw [jd h1] at h; exact absurd (show (1 : Int) = 0 from h) (by decide)
 | true =>
  cases h2 : Ex c take with
  | false => rw [je h1 h2] at h; exact absurd (show (9 : Int) = 0 from h) (by decide)
  | true =>
   cases h3 : Gr (C3 c take ++ give) with
   | false => rw [jf h1 h2 rfl h3] at h; exact absurd (show (9 : Int) = 0 from h) (by decide)
   | true =>
    cases h4 : Dp (C3 c take ++ give) with
    | false => rw [jg h1 h2 rfl h3 h4] at h; exact absurd (show (10 : Int) = 0 from h) (by decide)
    | true =>
     by_cases h5 : 12 < (C3 c take ++ give).length
     ·rw [jh h1 h2 rfl h3 h4 h5] at h; exact absurd (show (3 : Int) = 0 from h) (by decide)
     exact ⟨rfl, rfl, rfl, by omega, ji h1 h2 rfl h3 h4 h5⟩
set_option maxRecDepth 8000
/-- What a node asks of its kids, and what it is. -/
structure Sign where
 kids : List Int
 own : Int
def Ge (s : Str) : Sign := if (s == [111, 114]) || (s == [97, 110, 100]) then ⟨[3, 3], 3⟩ else if (((((s == [61]) || (s == [33, 61])) || (s == [60])) || (s == [60, 61])) || (s == [62])) || (s == [62, 61]) then ⟨[-1, -1], 3⟩ else if s == [38] then ⟨[2, 2], 2⟩ else ⟨[1, 1], 1⟩
def Ey (s : Str) : Sign := if (s == [108, 101, 110]) || (s == [110, 117, 109]) then ⟨[2], 1⟩ else if s == [115, 116, 114] then ⟨[1], 2⟩ else if (s == [108, 101, 102, 116]) || (s == [114, 105, 103, 104, 116]) then ⟨[2, 1], 2⟩ else if s == [105, 115, 110, 117, 108, 108] then ⟨[-2], 3⟩ else if s == [110, 118, 108] then ⟨[-1, -1], -1⟩ else ⟨[3, -1, -1], -1⟩
def Bs (o : Int) (t : Str) : Sign := if o == 3 then ⟨[1], 1⟩ else if o == 4 then ⟨[3], 3⟩ else if o == 5 then Ge t else Ey t
def Bt (a b : Int) : Int × Bool := if a == 0 then (b, true) else if (b == 0) || (a == b) then (a, true) else (0, false)
def P4 : List Int → List Int → Int → Option Int
 | _, [], c => some c
 | [], _ :: _, _ => none
 | w :: ws, k :: ks, c => if w == -2 then P4 ws ks c else if w == -1 then (if (Bt c k).2 then P4 ws ks (Bt c k).1 else none) else if (Bt w k).2 then P4 ws ks c else none
def Ve (s : Sign) (ks : List Int) : Int × Int := match P4 s.kids ks 0 with | none => (0, 10) | some c => if s.own == -1 then (c, 0) else (s.own, 0)
def Vf (c : List Col) (t : Str) : Int × Int := if Al t c < 0 then (0, 9) else ((c.getD (Al t c).toNat ⟨[], 0⟩).kind, 0)
def R8 (c : List Col) (o : Int) (t : Str) (v : Val) (ks : List (Int × Int)) : Int × Int :=
 if o == 1 then (v.kind, 0) else if o == 2 then Vf c t else match ks.find? (fun q => q.2 != 0) with | some q => (0, q.2) | none => Ve (Bs o t) (ks.map (·.1))
mutual
def Dr (c : List Col) : Expr → Int × Int
 | .mk o t v k => R8 c o t v (Zf c k)
def Zf (c : List Col) : List Expr → List (Int × Int)
  | [] => []
  | e :: r => Dr c e :: Zf c r
 end
theorem R9 (c : List Col) : ∀ l, Zf c l = l.map (Dr c)
 | [] => rfl
 | e :: r => by rw [Zf, R9 c r]; rfl
theorem L5 (c : List Col) (e : Expr) : Dr c e = R8 c e.op e.text e.val (e.kids.map (Dr c)) := by cases e; rw [Dr, R9]; rfl
/-- infer.Kind. -/
def Iz (e : Expr) (c : List Col) : Int × Int := if (!(Am e)) || !(Jq c) then (0, 1) else Dr c e
/-! The signs have as many as the nodes have kids. -/
theorem Xz (s : Str) : (Ge s).kids.length = 2 := by
 unfold Ge; repeat' split
 all_goals rfl
theorem Y0 {t : Str} {n : Nat} (h : Ay t = (n : Int)) : (Ey t).kids.length = n := by
 rw [show Ay t = Ay t from rfl] at h
 by_cases hm : t ∈ arityList.map (·.1)
 ·have : ((arityList.map (·.1)).all fun s => decide (((Ey s).kids.length : Int) = Ay s)) = true := by kernel_rfl
  have := of_decide_eq_true (List.all_eq_true.1 this t hm)
  omega
 have h1 : Ay t = -1 := by
  unfold Ay
  rw [List.find?_eq_none.2 fun p hp => by
   simp only [beq_iff_eq]
   rintro rfl
   exact hm (List.mem_map.2 ⟨p, hp, rfl⟩)]
 omega
theorem jm {e : Expr} (h : C2 e = true) (h1 : (e.op == 1) = false) (h2 : (e.op == 2) = false) : (Bs e.op e.text).kids.length = e.kids.length := by
 unfold C2 at h
 rw [h1, h2] at h
 simp only [Bool.false_eq_true, if_false] at h
 unfold Bs
 by_cases h3 : (e.op == 3) = true
 ·rw [h3] at h
  simp only [Bool.true_or, if_true, Bool.and_eq_true, beq_iff_eq] at h
  rw [if_pos h3]
  show 1 = _
  omega
 have h3' : (e.op == 3) = false := by simpa using h3
 rw [if_neg h3]
 rw [h3'] at h
 by_cases h4 : (e.op == 4) = true
 ·rw [h4] at h
  simp only [Bool.false_or, if_true, Bool.and_eq_true, beq_iff_eq] at h
  rw [if_pos h4]
  show 1 = _
  omega
 have h4' : (e.op == 4) = false := by simpa using h4
 rw [if_neg h4]
 rw [h4'] at h
 simp only [Bool.or_false, Bool.false_eq_true, if_false] at h
 by_cases h5 : (e.op == 5) = true
 ·rw [h5] at h
  simp only [if_true, Bool.and_eq_true, beq_iff_eq] at h
  rw [if_pos h5, Xz]
  omega
 have h5' : (e.op == 5) = false := by simpa using h5
 rw [if_neg h5]
 rw [h5'] at h
 simp only [Bool.false_eq_true, if_false] at h
 by_cases h6 : (e.op == 6) = true
 ·rw [h6] at h
  simp only [if_true, Bool.and_eq_true, beq_iff_eq] at h
  exact Y0 h.2
 have h6' : (e.op == 6) = false := by simpa using h6
 rw [h6'] at h
 cases h
/-! More columns. -/
/-! A tree in a column's place. -/
set_option maxRecDepth 4000
abbrev pr (l : List Tok) (S : PS) : AObj := .cells 222 [.slice false 3 (l.map Gn), A2 (S.i : Int), A2 (S.nest : Int), A2 S.code, A2 S.at_]
theorem Bj {n : Nat} {l : List Tok} {S : PS} : ObjLow n (pr l S) := by
 show ∀ y ∈ [AV.slice false 3 (l.map Gn), A2 (S.i : Int), A2 (S.nest : Int), A2 S.code, A2 S.at_], Low n y
 intro y hy
 simp only [List.mem_cons, List.not_mem_nil, or_false] at hy
 rcases hy with rfl | rfl | rfl | rfl | rfl
 ·simp [or_imp, forall_and]
 all_goals simp
theorem Vg (o : Int) (t : Str) (v : Val) : Le (.agg [A2 o, A6 t, A2 v.kind, A2 v.n, A6 v.s, .nil]) (A3 (.mk o t v [])) := by
 rw [A8]
 refine .agg _ _ rfl (by simp [AV.one, Value.oneCell', sv]) fun i y y' h1 h2 => ?_
 match i with
 | 0 => simp at h1 h2; subst h1; subst h2; exact .inl rfl
 | 1 => simp at h1 h2; subst h1; subst h2; exact .inl rfl
 | 2 => simp at h1 h2; subst h1; subst h2; exact .inl rfl
 | 3 => simp at h1 h2; subst h1; subst h2; exact .inl rfl
 | 4 => simp at h1 h2; subst h1; subst h2; exact .inl rfl
 | 5 => simp at h1 h2; subst h1; subst h2; exact .inr ⟨rfl, 6, rfl⟩
 | i + 6 => simp at h1
theorem P5 : Le (.agg [A2 0, A6 [], A2 0, A2 0, A6 [], .nil]) (A3 Aa) := Vg 0 [] noV
theorem w7 (l : List Tok) (S : PS) (o : Nat) (Hp : List AObj) (ho : Hp[o]? = some (pr l S)) (hi : S.i < l.length) : AFun Tryz.prog 258 [.ptr o 0] Hp (Gn (A7 l S.i)) := by
 refine ACall.body [.cell 2 125] [0] Tryz.func258 Tryz.ntmps258 (fun d => ?_)
 refine uo ?_;refine Z56 ?_
 refine D.go (h := Q.loadUp ho) (hr := ?_)
 refine Z56 ?_
 refine D.go (h := Q.loadUp ho) (hr := ?_)
 refine D.tail ?_
 refine R.go (h := Q.indexAddr (S.i) (Gn (A7 l S.i)) (fun _ => Oo hi)) (hr := ?_)
 refine R.go ?_;exact mc

theorem Vh (l : List Tok) (S : PS) (of : Str) (o : Nat) (Hp : List AObj) (ho : Hp[o]? = some (pr l S)) (hi : S.i < l.length) (hl : TokEnd l) (hof : of.length ≤ 1048576) : AFun Tryz.prog 249 [.ptr o 0, A6 of] Hp (An (isM l of S)) := by
 refine ACall.body [.tmp 4] [0, 1] Tryz.func249 Tryz.ntmps249 (fun d => ?_)
 refine Z54 ?_;refine qw ?_;refine Z15 ?_;refine R.fin [1, 5] ?_;refine Z33 ?_;refine Z58 ?_;refine Z86 ?_;refine G.call Tryz.call109 (fun hB => w4 (A7 l S.i).text of (hl.text _) hof _) ?_;exact mn

theorem jn (l : List Tok) (S : PS) (o : Nat) (Hp : List AObj) (ho : Hp[o]? = some (pr l S)) (hi : S.i < l.length) (hll : l.length ≤ 1048576) : ACall Tryz.prog 250 [.ptr o 0] Hp (fun r H' => r = Gn (A7 l S.i) ∧ H' = Hp.set o (pr l (A9 S))) := by
 refine ACall.body [.cell 2 125] [0] Tryz.func250 Tryz.ntmps250 (fun d => ?_)
 refine Z51 ?_;refine qw ?_;refine U1 ?_;refine Z7 ?_
 refine R.go (h := Q.loadUp ho) (hr := ?_)
 refine Z25 ?_
 refine R.storeUp jS ho ?_ ?_
 ·simp
 refine Et ?_;refine Z0 ?_;exact mc

theorem cw (l : List Tok) (S : PS) (e a : Int) (o : Nat) (Hp : List AObj) (ho : Hp[o]? = some (pr l S)) : ACall Tryz.prog 221 [.ptr o 0, A2 e, A2 a] Hp (fun r H' => r = A3 Aa ∧ H' = Hp.set o (pr l (Ce e a S))) := by
 refine ACall.body [.cell 6 45] [0, 1, 2] Tryz.func221 Tryz.ntmps221 (fun d => ?_)
 refine Z29 ?_;refine Wz ?_;refine Z46 ?_
 refine R.go (h := Q.loadUp ho) (hr := ?_)
 refine R.go ?_;refine R.fin [0, 1, 2, 6, 12] ?_
 refine W.cond (fun ht12 => ?_) (fun ht12 => ?_)
 ·have e : Ce e a S = ⟨S.i, S.nest, e, a⟩ := if_pos ht12
  refine Z35 ?_;refine Ud ?_;refine Z1 ?_
  refine R.storeUp jS ho ?_ ?_
  ·simp
  refine R.fin [6] ?_;refine K.thN ?_;refine Z24 ?_;refine R.wk 19 _ P5 ?_;refine Fa ?_;refine Z67 ?_;exact K.fin (V.one (V.cellN jA jS)) ⟨rfl, by rw [e]⟩ (hlow := Ab _ Aa)
 have e : Ce e a S = S := if_neg (by rw [ht12]; simp)
 refine Z6 ?_;refine Z24 ?_;refine R.wk 19 _ P5 ?_;refine Fa ?_;refine Z67 ?_;exact K.fin (V.one (V.cellN jA jS)) ⟨rfl, by rw [e]; exact (Ed ho).symm⟩ (hlow := Ab _ Aa)

theorem w8 (v : Val) (Hp : List AObj) : AFun Tryz.prog 266 [O4 v] Hp (A3 (I7 v)) := by
 refine ACall.body [.cell 2 45] [0] Tryz.func266 Tryz.ntmps266 (fun d => ?_)
 refine gq ?_;refine R.fin [1, 2] ?_;refine Z0 ?_;refine X0 ?_;refine R.wk 4 _ (Vg 1 [] v) ?_;refine Z11 ?_;exact K.fin (V.one (V.cellN jA jS)) ⟨rfl, rfl⟩ (hlow := Ab _ (I7 v))

theorem w9 (l : List Tok) (S : PS) (s : Str) (o : Nat) (Hp : List AObj) (ho : Hp[o]? = some (pr l S)) (hi : S.i < l.length) (hll : l.length ≤ 1048576) : ACall Tryz.prog 268 [.ptr o 0, A6 s] Hp (fun r H' => r = .v (.tuple #[]) ∧ H' = Hp.set o (pr l (Di l s S))) := by
 refine ACall.body [] [0, 1] Tryz.func268 Tryz.ntmps268 (fun d => ?_)
 refine Z46 ?_
 refine R.go (h := Q.loadUp ho) (hr := ?_)
 refine R.go ?_;refine R.fin [0, 1, 10] ?_
 refine W.cond (fun ht10 => ?_) (fun ht10 => ?_)
 ·have e : Di l s S = S := if_pos ht10
  refine Z23 ?_;exact K.fin .nores (hp := ⟨rfl, by rw [e]; exact (Ed ho).symm⟩)
 have e0 : ¬ (S.code != 0) = true := by rw [ht10]; simp
 refine Uc ?_;refine R.call Tryz.call258 (w7 l S o _ (A5 ho) hi) ?_;refine Z15 ?_;refine R.fin [0, 1, 4] ?_;refine Z33 ?_;refine Z9 ?_;refine Lo ?_;refine R.fin [0, 4, 21] ?_
 refine W.cond (fun ht21 => ?_) (fun ht21 => ?_)
 ·have e : Di l s S = Ce 8 (A7 l S.i).at_ S := by unfold Di; rw [if_neg e0, if_pos ht21]
  refine ui ?_;refine R.fin [] ?_;refine Z23 ?_;exact K.fin .nores (hp := ⟨rfl, by rw [e]⟩)
 have e : Di l s S = A9 S := by unfold Di; rw [if_neg e0, if_neg (by rw [ht21]; simp)]
 refine Z6 ?_;refine Z35 ?_
 refine R.go (h := Q.loadUp ho) (hr := ?_)
 refine Z25 ?_
 refine R.storeUp jS ho ?_ ?_
 ·simp
 refine R.fin [] ?_;exact K.finN .nores (hp := ⟨rfl, by rw [e]; rfl⟩)

/-- The contract of one of the parser's functions. -/
def PC (g : FuncId) (l : List Tok) (f : PS → Expr × PS) (n : Nat) : Prop := ∀ (o : Nat) (Hp : List AObj) (S : PS), Hp[o]? = some (pr l S) → S.i < l.length → S.nest = n → ACall Tryz.prog g [.ptr o 0] Hp (fun r H' => r = A3 (f S).1 ∧ H' = Hp.set o (pr l (f S).2))
abbrev H0 : AObj := .cells 45 [A2 0, A6 [], A2 0, A2 0, A6 [], .nil]
theorem T3 {n : Nat} : ObjLow n H0 := by
 show ∀ y ∈ [A2 0, A6 [], A2 0, A2 0, A6 [], AV.nil], Low n y
 simp
theorem nr {n : Nat} (e : Expr) : ObjLow n (.cells 45 (Ba e)) := by
 have h := Ab n e
 rw [A8] at h
 show ∀ y ∈ Ba e, Low n y
 intro y hy
 cases h with
 | agg _ h => exact h y hy
theorem nt (l : List Tok) (S : PS) (a : Int) (g : FuncId) (first caps : List AV) (x : Expr) (S2 : PS) (o : Nat) (Hp Hx : List AObj) (ho : Hp[o]? = some (pr l S)) (hnl : S.nest ≤ 1048576) (hgc : ∀ args w, (callFunc g args).run Tryz.prog w = .ok (.enter g args) w) (hxl : Hx.length = Hp.length) (hxo : Hx[o]? = some (pr l S2)) (hn2 : S2.nest = S.nest + 1) (hlow : (∀ y ∈ Hp.set o (pr l (Bm S)), ObjLow Hp.length y) → ∀ y ∈ Hx, ObjLow Hp.length y) (hcf : S.nest ≠ 30 → ∀ own, ACall Tryz.prog g (first ++ caps) (Hp.set o (pr l (Bm S)) ++ own) (fun y H' => y = A3 x ∧ H' = Hx ++ own)) : ACall Tryz.prog 260 [.ptr o 0, A2 a, .fn (.func g) first caps] Hp (fun r H' => (S.nest = 30 → r = A3 Aa ∧ H' = Hp.set o (pr l (Ce 18 a S))) ∧ (S.nest ≠ 30 → r = A3 x ∧ H' = Hx.set o (pr l (R2 S2)))) := by
 refine ACall.body [.cell 6 45] [0, 1, 2] Tryz.func260 Tryz.ntmps260 (fun d => ?_)
 refine Z29 ?_;refine Wz ?_;refine Z18 ?_
 refine R.go (h := Q.loadUp ho) (hr := ?_)
 refine R.go ?_;refine R.fin [0, 1, 2, 6, 12] ?_
 refine W.cond (fun ht12 => ?_) (fun ht12 => ?_)
 ·have hn30 : S.nest = 30 := by have := ht12; simp at this; omega
  refine Z4 ?_;refine R.callUp Tryz.call221 ho (by simp) Bj (cw l S 18 a o _ (A5 ho)) ?_;refine Fa ?_;refine U3 ?_;exact K.fin (V.one (V.cellN jA jS)) ⟨fun _ => ⟨by rw [A8], rfl⟩, fun h => absurd hn30 h⟩ (hlow := by have := Ab Hp.length Aa; rw [A8] at this; simpa using this)
 have hn30 : S.nest ≠ 30 := by have := ht12; simp at this; omega
 refine Lp ?_
 refine R.go (h := Q.loadUp ho) (hr := ?_)
 refine Z25 ?_
 refine R.storeUp jS ho ?_ ?_
 ·simp
 refine R.fin [0, 2, 6] ?_;refine Z0 ?_
 refine R.callVX (up' := Hx) (own' := [H0]) hgc (hcf hn30 [H0]) (by simpa using hxl) (by rw [List.length_set]; exact hlow) ?_
 rw [← hxl]
 refine Z15 ?_;refine R.fin [0, 6, 7] ?_;refine Z7 ?_
 refine R.go (h := Q.loadUp hxo) (hr := ?_)
 refine Z25 ?_
 refine R.storeUp jS hxo ?_ ?_
 ·simp
 refine R.fin [6, 7] ?_;refine Z80 ?_;refine Z67 ?_;exact K.fin (V.one (V.cellN jA jS)) ⟨fun h => absurd h hn30, fun _ => ⟨by rw [A8], by rw [show ((S2.nest : Int) - 1) = ((R2 S2).nest : Int) by show _ = ((S2.nest - 1 : Nat) : Int); omega]; rfl⟩⟩ (hlow := by have := Ab Hx.length x; rw [A8] at this; simpa using this)

theorem cx (t : Str) (a b : Expr) : Ba (Gq t a b) = [A2 5, .v (sv t), A2 0, A2 0, A6 [], .slice false 6 [A3 a, A3 b]] := rfl
theorem nu {n : Nat} (t : Str) (a b : Expr) : ObjLow n (.cells 45 [A2 5, .v (sv t), A2 0, A2 0, A6 [], .slice false 6 [A3 a, A3 b]]) := nr (Gq t a b)
theorem nv {n : Nat} {U : List AObj} {i : Nat} {x : AObj} (h : ∀ y ∈ U, ObjLow n y) (hx : ObjLow n x) : ∀ y ∈ U.set i x, ObjLow n y := by
 intro y hy
 rcases List.mem_or_eq_of_mem_set hy with h1 | h1
 ·exact h y h1
 rw [h1]; exact hx
/-- within, with a method's value. -/
theorem jo {g : FuncId} (hgc : ∀ args w, (callFunc g args).run Tryz.prog w = .ok (.enter g args) w) (l : List Tok) (S : PS) (a : Int) (f : PS → Expr × PS) (o : Nat) (Hp : List AObj) (ho : Hp[o]? = some (pr l S)) (hi : S.i < l.length) (hnl : S.nest ≤ 30) (hf : S.nest ≠ 30 → Ck l (S.nest + 1) f) (hcf : S.nest ≠ 30 → PC g l f (S.nest + 1)) :
  ACall Tryz.prog 260 [.ptr o 0, A2 a, .fn (.func g) [.ptr o 0] []] Hp (fun r H' => r = A3 (B7 a f S).1 ∧ H' = Hp.set o (pr l (B7 a f S).2)) := by
 have hlt := (List.getElem?_eq_some_iff.1 ho).1
 by_cases h30 : S.nest = 30
 ·refine (nt l S a g [.ptr o 0] [] Aa (Bm S) o Hp (Hp.set o (pr l (Bm S))) ho (by omega) hgc (by simp) (by simp [hlt]) rfl (fun h => h) (fun h => absurd h30 h)).mono fun r H' h => ?_
  have e : B7 a f S = (Aa, Ce 18 a S) := if_pos (by rw [h30]; rfl)
  rw [e]
  exact h.1 h30
 have hq := hf h30 (Bm S) hi rfl
 refine (nt l S a g [.ptr o 0] [] (f (Bm S)).1 (f (Bm S)).2 o Hp (Hp.set o (pr l (f (Bm S)).2)) ho (by omega) hgc (by simp) (by simp [hlt]) hq.nest (fun h y hy => ?_) (fun _ own => ?_)).mono fun r H' h => ?_
 ·rcases List.mem_or_eq_of_mem_set hy with h1 | h1
  ·obtain ⟨i, hi', rfl⟩ := List.getElem_of_mem h1
   by_cases hio : i = o
   ·subst hio
    have : Hp[i] = pr l S := by rw [List.getElem?_eq_getElem hi'] at ho; injection ho
    rw [this]; exact Bj
   refine h _ ?_
   rw [List.mem_iff_getElem?]
   exact ⟨i, by rw [List.getElem?_set_ne (Ne.symm hio), List.getElem?_eq_getElem hi']⟩
  rw [h1]; exact Bj
 ·have hg : (Hp.set o (pr l (Bm S)) ++ own)[o]? = some (pr l (Bm S)) := A5 (by simp [hlt])
  refine (hcf h30 o (Hp.set o (pr l (Bm S)) ++ own) (Bm S) hg hi rfl).mono fun r H' h => ⟨h.1, h.2.trans ?_⟩
  rw [List.set_append_left _ _ (by simpa using hlt), List.set_set]
 have e : B7 a f S = ((f (Bm S)).1, R2 (f (Bm S)).2) := if_neg (by
  show ¬ (((S.nest : Int) == 30) = true)
  simp
  omega)
 rw [e]
 obtain ⟨h1, h2⟩ := h.2 h30
 exact ⟨h1, by rw [h2, List.set_set]⟩
theorem nw {g : FuncId} (hgc : ∀ args w, (callFunc g args).run Tryz.prog w = .ok (.enter g args) w) (l : List Tok) (S : PS) (of : Str) (hof : of.length ≤ 1048576) (f : PS → Expr × PS) (o : Nat) (Hp : List AObj) (ho : Hp[o]? = some (pr l S)) (hi : S.i < l.length) (hl : TokEnd l) (hll : l.length ≤ 1048576) (hf : Ck l S.nest f) (hcf : PC g l f S.nest) : ACall Tryz.prog 238 [.ptr o 0, A6 of, .fn (.func g) [.ptr o 0] []] Hp (fun r H' => r = A3 (Dq l of f S).1 ∧ H' = Hp.set o (pr l (Dq l of f S).2)) := by
 have holt := (List.getElem?_eq_some_iff.1 ho).1
 refine ACall.body [.cell 6 45] [0, 1, 2] Tryz.func238 Tryz.ntmps238 (fun d => ?_)
 refine Z29 ?_;refine Wz ?_;refine Z0 ?_;refine R.callVUp hgc ho (by simp) Bj (hcf o _ S (A5 ho) hi rfl) ?_;refine Z15 ?_;refine R.fin [0, 1, 2, 6, 7] ?_;refine W.seq ?_
 refine AW.loopC (α := Expr × PS) (fun r => ⟨32, A4 0 (.ptr o 0) (A4 1 (A6 of) (A4 2 (.fn (.func g) [.ptr o 0] []) (A4 6 (.ptr (oid Hp.length 0) 0) (A4 7 (.ptr (oid Hp.length 1) 0) (fun _ => .any))))), Hp.set o (pr l r.2), [.cells 45 [A2 0, A6 [], A2 0, A2 0, A6 [], .nil], .cells 45 (Ba r.1)], [], none⟩) (fun r => LeftAt l of f S r) (fun r => l.length - r.2.i) (f S) (.start (hf S hi rfl)) (StLe.of_eq (by simp)) rfl (fun r hx => ?_)
 refine Z46 ?_
 refine R.go (h := Q.loadUp (getset ho)) (hr := ?_)
 refine Z36 ?_;refine G.call Tryz.call249 (fun hB => Vh l r.2 of o _ (A5 (getset ho)) hx.fact.lt hl hof) ?_;refine R.go ?_;refine R.fin [0, 1, 2, 6, 7, 21] ?_
 refine W.cond (fun ht21 => ?_) (fun ht21 => ?_)
 ·have hon := hx.on hl ht21 hf
  have hle := hon.2.1.le
  have hlt0 := hx.fact.lt
  have hU1 : (Hp.set o (pr l r.2)).set o (pr l (A9 r.2)) = Hp.set o (pr l (A9 r.2)) := List.set_set ..
  refine gt ?_;refine Z0 ?_;refine R.callUp Tryz.call250 (getset ho) (by simp) Bj (jn l r.2 o _ (A5 (getset ho)) hx.fact.lt hll) ?_;refine Z15 ?_;refine R.fin [0, 1, 2, 6, 7, 8] ?_;refine W.drawY0 [0, 1, 0, 0, 8, 28, 63, 127] [4] [.q 4 [] [], .s [28] (some 0) [] [], .q 1 [0] []] (fun B => Hp.set o (if B 0 = true then pr l (f (A9 r.2)).2 else pr l (A9 r.2))) (fun _ => [.cells 45 [A2 0, A6 [], A2 0, A2 0, A6 [], .nil], .cells 45 (Ba r.1), .cells 125 [A2 (A7 l r.2.i).kind, A6 (A7 l r.2.i).text, A2 (A7 l r.2.i).at_]]) Ad (by kernel_rfl) (by simp [List.set_set]) rfl (fun B => by simp) ?_
  apply Y.q
  case h1 =>
   intro B hT hF
   exact gg
  case hTF => decide
  refine Y.callVUp (r := A3 (f (A9 r.2)).1) (o := o) (x0 := pr l (A9 r.2)) (x := pr l (f (A9 r.2)).2) hgc (fun B hT hF hB => ⟨by simp only [hB]; exact getset ho, by simp [upd], rfl, Bj, ?_⟩) ?_
  ·simp only [hB]
   exact hcf o _ (A9 r.2) (A5 (getset ho)) hon.1 hx.fact.nest
  apply Y.q
  case h1 =>
   intro B hT hF
   exact Z44
  case hTF => decide
  refine Y.tail (tn := [4]) (U := Hp.set o (pr l (f (A9 r.2)).2)) ?_;refine uh ?_;refine R.fin [0, 1, 2, 6, 7] ?_;refine K.blN ?_
  refine K.lpN (Gq (A7 l r.2.i).text r.1 (f (A9 r.2)).1, (f (A9 r.2)).2) hon.2.2 (by show l.length - (f (A9 r.2)).2.i < l.length - r.2.i; have : r.2.i + 1 ≤ (f (A9 r.2)).2.i := hle; omega) ?_
  simp only [cx]
  have hlow2 := fun n => nu (n := n) (A7 l r.2.i).text r.1 (f (A9 r.2)).1
  simp only [A8] at hlow2 ⊢
  exact StCut.take (fun _ => .refl _) (by repeat (first | exact Ap | refine Ao (by simp [oid] <;> omega) ?_)) (by intro y hy; rcases List.mem_cons.1 hy with rfl | hy; exact T3; rw [List.mem_singleton.1 hy]; exact hlow2 _) (by simp)
 have hout := hx.out (by rw [ht21]; simp)
 refine Z59 ?_;refine Z80 ?_;refine Z67 ?_;exact K.fin (V.one (V.cellN jA jS)) ⟨by rw [hout, A8], by rw [hout]⟩ (hlow := by have := Ab (Hp.set o (pr l r.2)).length r.1; rw [A8] at this; simpa using this)

theorem yr (l : List Tok) (S : PS) (f : PS → Expr × PS) (o : Nat) (Hp : List AObj) (ho : Hp[o]? = some (pr l S)) (hi : S.i < l.length) (hl : TokEnd l) (hll : l.length ≤ 1048576) (hf : Ck l S.nest f) (hcf : PC 239 l f S.nest) : ACall Tryz.prog 219 [.ptr o 0] Hp (fun r H' => r = A3 (Dq l orT f S).1 ∧ H' = Hp.set o (pr l (Dq l orT f S).2)) := by
 refine ACall.body [.cell 2 45] [0] Tryz.func219 Tryz.ntmps219 (fun d => ?_)
 refine Z51 ?_;refine Z4 ?_;refine Ip ?_;refine R.callUp Tryz.call238 ho (by simp) Bj (nw Tryz.call239 l S orT (by decide) f o _ (A5 ho) hi hl hll hf hcf) ?_;refine Z11 ?_;exact K.fin (V.one (V.cellN jA jS)) ⟨by rw [A8], rfl⟩ (hlow := by have := Ab Hp.length (Dq l orT f S).1; rw [A8] at this; simpa using this)

theorem yt (l : List Tok) (S : PS) (f : PS → Expr × PS) (o : Nat) (Hp : List AObj) (ho : Hp[o]? = some (pr l S)) (hi : S.i < l.length) (hl : TokEnd l) (hll : l.length ≤ 1048576) (hf : Ck l S.nest f) (hcf : PC 251 l f S.nest) : ACall Tryz.prog 239 [.ptr o 0] Hp (fun r H' => r = A3 (Dq l cp f S).1 ∧ H' = Hp.set o (pr l (Dq l cp f S).2)) := by
 refine ACall.body [.cell 2 45] [0] Tryz.func239 Tryz.ntmps239 (fun d => ?_)
 refine Z51 ?_;refine Z4 ?_;refine Ip ?_;refine R.callUp Tryz.call238 ho (by simp) Bj (nw Tryz.call251 l S cp (by decide) f o _ (A5 ho) hi hl hll hf hcf) ?_;refine Z11 ?_;exact K.fin (V.one (V.cellN jA jS)) ⟨by rw [A8], rfl⟩ (hlow := by have := Ab Hp.length (Dq l cp f S).1; rw [A8] at this; simpa using this)

theorem yu (l : List Tok) (S : PS) (f : PS → Expr × PS) (o : Nat) (Hp : List AObj) (ho : Hp[o]? = some (pr l S)) (hi : S.i < l.length) (hl : TokEnd l) (hll : l.length ≤ 1048576) (hf : Ck l S.nest f) (hcf : PC 263 l f S.nest) : ACall Tryz.prog 262 [.ptr o 0] Hp (fun r H' => r = A3 (Dq l cq f S).1 ∧ H' = Hp.set o (pr l (Dq l cq f S).2)) := by
 refine ACall.body [.cell 2 45] [0] Tryz.func262 Tryz.ntmps262 (fun d => ?_)
 refine Z51 ?_;refine Z4 ?_;refine Ip ?_;refine R.callUp Tryz.call238 ho (by simp) Bj (nw Tryz.call263 l S cq (by decide) f o _ (A5 ho) hi hl hll hf hcf) ?_;refine Z11 ?_;exact K.fin (V.one (V.cellN jA jS)) ⟨by rw [A8], rfl⟩ (hlow := by have := Ab Hp.length (Dq l cq f S).1; rw [A8] at this; simpa using this)

theorem yw (l : List Tok) (S : PS) (f : PS → Expr × PS) (o : Nat) (Hp : List AObj) (ho : Hp[o]? = some (pr l S)) (hi : S.i < l.length) (hl : TokEnd l) (hll : l.length ≤ 1048576) (hf : Ck l S.nest f) (hcf : PC 264 l f S.nest) : ACall Tryz.prog 263 [.ptr o 0] Hp (fun r H' => r = A3 (Dq l R4 f S).1 ∧ H' = Hp.set o (pr l (Dq l R4 f S).2)) := by
 refine ACall.body [.cell 2 45] [0] Tryz.func263 Tryz.ntmps263 (fun d => ?_)
 refine Z51 ?_;refine Z4 ?_;refine Ip ?_;refine R.callUp Tryz.call238 ho (by simp) Bj (nw Tryz.call264 l S R4 (by decide) f o _ (A5 ho) hi hl hll hf hcf) ?_;refine Z11 ?_;exact K.fin (V.one (V.cellN jA jS)) ⟨by rw [A8], rfl⟩ (hlow := by have := Ab Hp.length (Dq l R4 f S).1; rw [A8] at this; simpa using this)

/-- What is so of the functions one nest deeper. -/
structure DeepC (l : List Tok) (Dv : Fam) (n : Nat) : Prop where
 ei : n ≠ 30 → Ck l (n + 1) Dv.ei ∧ PC 219 l Dv.ei (n + 1)
 no : n ≠ 30 → Ck l (n + 1) Dv.no ∧ PC 251 l Dv.no (n + 1)
 ne : n ≠ 30 → Ck l (n + 1) Dv.ne ∧ PC 264 l Dv.ne (n + 1)
theorem No (op : Int) (x : Expr) : A3 (Em op x) = .agg [A2 op, A6 [], A2 0, A2 0, A6 [], .slice false 6 [A3 x]] := by rw [A8]; rfl
theorem Zg (t : Str) (a b : Expr) : A3 (Gq t a b) = .agg [A2 5, .v (sv t), A2 0, A2 0, A6 [], .slice false 6 [A3 a, A3 b]] := by rw [A8]; rfl
theorem low_agg {n : Nat} (e : Expr) : Low n (.agg [.v (.int .i64 e.op), .v (sv e.text), .v (.int .i64 e.val.kind), .v (.int .i64 e.val.n), .v (sv e.val.s), .slice false 6 (e.kids.map A3)]) := by
 have := Ab n e
 rwa [A8] at this
theorem yx (l : List Tok) (S : PS) (Dv : Fam) (o : Nat) (Hp : List AObj) (ho : Hp[o]? = some (pr l S)) (hi : S.i < l.length) (hl : TokEnd l) (hll : l.length ≤ 1048576) (hnl : S.nest ≤ 30) (hd : DeepC l Dv S.nest) (hc : PC 265 l (Ea l Dv) S.nest) : ACall Tryz.prog 264 [.ptr o 0] Hp (fun r H' => r = A3 (Ni l Dv S).1 ∧ H' = Hp.set o (pr l (Ni l Dv S).2)) := by
 refine ACall.body [.cell 2 45] [0] Tryz.func264 Tryz.ntmps264 (fun d => ?_)
 refine Z51 ?_;refine Z34 ?_;refine R.call Tryz.call249 (Vh l S rt o _ (A5 ho) hi hl (by decide)) ?_;refine R.go ?_;refine R.fin [0, 2, 6] ?_
 refine W.cond (fun ht6 => ?_) (fun ht6 => ?_)
 ·have e : Ni l Dv S = Ea l Dv S := if_pos ht6
  refine Z0 ?_;refine R.callUp Tryz.call265 ho (by simp) Bj (hc o _ S (A5 ho) hi rfl) ?_;refine Z11 ?_;exact Z85
 have his : isM l rt S = true := by simpa using ht6
 have hi1 : (A9 S).i < l.length := hl.stepIs hi his
 have e : Ni l Dv S = (Em 3 (B7 (A7 l S.i).at_ Dv.ne (A9 S)).1, (B7 (A7 l S.i).at_ Dv.ne (A9 S)).2) := if_neg (by rw [ht6]; simp)
 refine Z6 ?_;refine Z52 ?_;refine U1 ?_;refine Z33 ?_;refine Ip ?_;refine R.callUp Tryz.call260 (getset ho) (by simp) Bj (jo Tryz.call264 l (A9 S) (A7 l S.i).at_ Dv.ne o _ (A5 (getset ho)) hi1 hnl (fun h => (hd.ne h).1) (fun h => (hd.ne h).2)) ?_;refine I6 ?_;refine qr ?_;exact K.fin (V.one (V.cellN jA jS)) ⟨by rw [e, No]; simp only [A8], by rw [e, List.set_set]⟩ (hlow := by have := Ab Hp.length (Em 3 (B7 (A7 l S.i).at_ Dv.ne (A9 S)).1); rw [No] at this; simp only [A8] at this; simpa only [List.length_set] using this)

theorem yy (l : List Tok) (S : PS) (Dv : Fam) (o : Nat) (Hp : List AObj) (ho : Hp[o]? = some (pr l S)) (hi : S.i < l.length) (hl : TokEnd l) (hll : l.length ≤ 1048576) (hnl : S.nest ≤ 30) (hd : DeepC l Dv S.nest) (hc : PC 259 l (Dj l Dv) S.nest) : ACall Tryz.prog 251 [.ptr o 0] Hp (fun r H' => r = A3 (Nj l Dv S).1 ∧ H' = Hp.set o (pr l (Nj l Dv S).2)) := by
 refine ACall.body [.cell 2 45] [0] Tryz.func251 Tryz.ntmps251 (fun d => ?_)
 refine Z51 ?_;refine Z34 ?_;refine R.call Tryz.call249 (Vh l S rr o _ (A5 ho) hi hl (by decide)) ?_;refine R.go ?_;refine R.fin [0, 2, 6] ?_
 refine W.cond (fun ht6 => ?_) (fun ht6 => ?_)
 ·have e : Nj l Dv S = Dj l Dv S := if_pos ht6
  refine Z0 ?_;refine R.callUp Tryz.call259 ho (by simp) Bj (hc o _ S (A5 ho) hi rfl) ?_;refine Z11 ?_;exact Z85
 have his : isM l rr S = true := by simpa using ht6
 have hi1 : (A9 S).i < l.length := hl.stepIs hi his
 have e : Nj l Dv S = (Em 4 (B7 (A7 l S.i).at_ Dv.no (A9 S)).1, (B7 (A7 l S.i).at_ Dv.no (A9 S)).2) := if_neg (by rw [ht6]; simp)
 refine Z6 ?_;refine Z52 ?_;refine U1 ?_;refine Z33 ?_;refine Ip ?_;refine R.callUp Tryz.call260 (getset ho) (by simp) Bj (jo Tryz.call251 l (A9 S) (A7 l S.i).at_ Dv.no o _ (A5 (getset ho)) hi1 hnl (fun h => (hd.no h).1) (fun h => (hd.no h).2)) ?_;refine I6 ?_;refine qr ?_;exact K.fin (V.one (V.cellN jA jS)) ⟨by rw [e, No]; simp only [A8], by rw [e, List.set_set]⟩ (hlow := by have := Ab Hp.length (Em 4 (B7 (A7 l S.i).at_ Dv.no (A9 S)).1); rw [No] at this; simp only [A8] at this; simpa only [List.length_set] using this)

theorem yz (l : List Tok) (S : PS) (Dv : Fam) (o : Nat) (Hp : List AObj) (ho : Hp[o]? = some (pr l S)) (hi : S.i < l.length) (hl : TokEnd l) (hll : l.length ≤ 1048576) (hnl : S.nest ≤ 30) (hd : DeepC l Dv S.nest) (hg : Ck l S.nest (Cj l Dv)) (hc : PC 262 l (Cj l Dv) S.nest) : ACall Tryz.prog 259 [.ptr o 0] Hp (fun r H' => r = A3 (Dj l Dv S).1 ∧ H' = Hp.set o (pr l (Dj l Dv S).2)) := by
 have hq := hg S hi rfl
 refine ACall.body [.cell 2 45] [0] Tryz.func259 Tryz.ntmps259 (fun d => ?_)
 refine Z51 ?_;refine Z0 ?_;refine R.callUp Tryz.call262 ho (by simp) Bj (hc o _ S (A5 ho) hi rfl) ?_;refine U1 ?_;refine Z46 ?_
 refine R.go (h := Q.loadUp (getset ho)) (hr := ?_)
 refine Z82 ?_;refine G.call Tryz.call249 (fun hB => Vh l (Cj l Dv S).2 nk o _ (A5 (getset ho)) hq.lt hl (by decide)) ?_;refine Si ?_;refine R.fin [0, 2, 3, 17] ?_
 refine W.cond (fun ht17 => ?_) (fun ht17 => ?_)
 ·have e : Dj l Dv S = Cj l Dv S := if_pos ht17
  refine Z0 ?_;refine Z11 ?_;exact Z85
 have his : isM l nk (Cj l Dv S).2 = true := by
  have := ht17
  simp only [Bool.or_eq_false_iff, Bool.not_eq_false'] at this
  exact this.2
 have hi1 : (A9 (Cj l Dv S).2).i < l.length := hl.stepIs hq.lt his
 have e : Dj l Dv S = (Gq (A7 l (Cj l Dv S).2.i).text (Cj l Dv S).1 (Cj l Dv (A9 (Cj l Dv S).2)).1, (Cj l Dv (A9 (Cj l Dv S).2)).2) := if_neg (by rw [ht17]; simp)
 refine O2 ?_;refine R.callUp Tryz.call250 (getset ho) (by simp) Bj (jn l (Cj l Dv S).2 o _ (A5 (getset ho)) hq.lt hll) ?_;refine Z15 ?_;refine R.fin [0, 2, 3, 4] ?_;refine W.drawY [0, 1, 0, 0, 8, 28, 63, 127] [4] [.q 4 [] [], .s [25] (some 0) [] [], .q 1 [0] []] (fun B => Hp.set o (if B 0 = true then pr l (Cj l Dv (A9 (Cj l Dv S).2)).2 else pr l (A9 (Cj l Dv S).2))) (fun _ => [.cells 45 [A2 0, A6 [], A2 0, A2 0, A6 [], .nil], .cells 45 (Ba (Cj l Dv S).1), .cells 125 [A2 (A7 l (Cj l Dv S).2.i).kind, A6 (A7 l (Cj l Dv S).2.i).text, A2 (A7 l (Cj l Dv S).2.i).at_]]) Ad (by kernel_rfl) (by simp [List.set_set]) rfl (fun B => by simp) ?_
 apply Y.q
 case h1 =>
  intro B hT hF
  exact gg
 case hTF => decide
 refine Y.callUp (r := A3 (Cj l Dv (A9 (Cj l Dv S).2)).1) (o := o) (x0 := pr l (A9 (Cj l Dv S).2)) (x := pr l (Cj l Dv (A9 (Cj l Dv S).2)).2) Tryz.call262 (fun B hT hF hB => ⟨by simp only [hB]; exact getset ho, by simp [upd], rfl, Bj, ?_⟩) ?_
 ·simp only [hB]
  exact hc o _ (A9 (Cj l Dv S).2) (A5 (getset ho)) hi1 hq.nest
 apply Y.q
 case h1 =>
  intro B hT hF
  exact Z44
 case hTF => decide
 refine Y.tail (tn := [4]) (U := Hp.set o (pr l (Cj l Dv (A9 (Cj l Dv S).2)).2)) ?_;refine qr ?_;exact K.fin (V.one (V.cellN jA jS)) ⟨by rw [e, Zg]; simp only [A8], by rw [e]⟩ (hlow := by have := Ab Hp.length (Gq (A7 l (Cj l Dv S).2.i).text (Cj l Dv S).1 (Cj l Dv (A9 (Cj l Dv S).2)).1); rw [Zg] at this; simp only [A8] at this; simpa only [List.length_set] using this)

/-- The contract of the parser of calls. -/
def Vi (l : List Tok) (Dv : Fam) (n : Nat) : Prop := ∀ (o : Nat) (Hp : List AObj) (S : PS) (t : Tok), Hp[o]? = some (pr l S) → (A9 S).i < l.length → S.nest = n → t.text.length ≤ 1048576 → isM l opT S = true → ACall Tryz.prog 267 [.ptr o 0, Gn t] Hp (fun r H' => r = A3 (F8 l Dv t S).1 ∧ H' = Hp.set o (pr l (F8 l Dv t S).2))
theorem jp : A3 Aa = .agg [A2 0, A6 [], A2 0, A2 0, A6 [], .slice false 6 []] := by rw [A8]; rfl
theorem z6 (l : List Tok) (S : PS) (Dv : Fam) (o : Nat) (Hp : List AObj) (ho : Hp[o]? = some (pr l S)) (hi : S.i < l.length) (hl : TokEnd l) (hll : l.length ≤ 1048576) (hnl : S.nest ≤ 30) (hd : DeepC l Dv S.nest) (hcl : Vi l Dv S.nest) : ACall Tryz.prog 265 [.ptr o 0] Hp (fun r H' => r = A3 (Ea l Dv S).1 ∧ H' = Hp.set o (pr l (Ea l Dv S).2)) := by
 refine ACall.body [.cell 2 45] [0] Tryz.func265 Tryz.ntmps265 (fun d => ?_)
 refine Z51 ?_;refine qw ?_;refine U1 ?_;refine Z46 ?_
 refine R.go (h := Q.loadUp ho) (hr := ?_)
 refine R.go ?_;refine R.fin [0, 2, 3, 14] ?_
 refine W.cond (fun ht14 => ?_) (fun ht14 => ?_)
 ·have e : Ea l Dv S = (Aa, S) := if_pos ht14
  refine Z24 ?_;refine R.wk 15 _ P5 ?_;refine Z11 ?_;refine K.thR ?_;exact K.fin (V.one (V.cellN jA jS)) ⟨by rw [e, A8], by rw [e]; exact (Ed ho).symm⟩ (hlow := by have := Ab Hp.length (Aa); simpa only [A8, List.length_set] using this)
 have e0 : ¬ (S.code != 0) = true := by rw [ht14]; simp
 refine Z62 ?_;refine Z33 ?_;refine G.go ?_;refine G.call Tryz.call249 (fun hB => Vh l S ru o _ (A5 ho) hi hl (by decide)) ?_;refine Z1 ?_;refine R.fin [0, 2, 3, 16] ?_
 refine W.cond (fun ht16 => ?_) (fun ht16 => ?_)
 ·have e : Ea l Dv S = (I7 (Eu (A7 l S.i).text).1, A9 S) := by unfold Ea; rw [if_neg e0, if_pos ht16]
  refine Z52 ?_;refine R.go ?_;refine R.call Tryz.call175 (c175 (A7 l S.i).text (hl.text _) _) ?_;refine U7 ?_;refine R.fin [2, 4] ?_;refine Z0 ?_;refine R.call Tryz.call266 (w8 (Eu (A7 l S.i).text).1 _) ?_;refine Z11 ?_;refine Z5 ?_;exact K.fin (V.one (V.cellN jA jS)) ⟨by rw [e, A8], by rw [e]⟩ (hlow := by have := Ab Hp.length (I7 (Eu (A7 l S.i).text).1); simpa only [A8, List.length_set] using this)
 have e1 : ¬ (((A7 l S.i).kind == 3) || isM l ru S) = true := by rw [ht16]; simp
 refine Z33 ?_;refine R.fin [0, 2, 3, 33] ?_
 refine W.cond (fun ht33 => ?_) (fun ht33 => ?_)
 ·have e : Ea l Dv S = (I7 ⟨2, 0, (A7 l S.i).text.take 200⟩, A9 S) := by unfold Ea; rw [if_neg e0, if_neg e1, if_pos ht33]
  refine Z52 ?_;refine R.go ?_;refine R.call Tryz.call213 (c213 (A7 l S.i).text _) ?_;refine R.call Tryz.call266 (w8 ⟨2, 0, (A7 l S.i).text.take 200⟩ _) ?_;refine Z11 ?_;refine Z5 ?_;exact K.fin (V.one (V.cellN jA jS)) ⟨by rw [e, A8], by rw [e]⟩ (hlow := by have := Ab Hp.length (I7 ⟨2, 0, (A7 l S.i).text.take 200⟩); simpa only [A8, List.length_set] using this)
 have e2 : ¬ ((A7 l S.i).kind == 4) = true := by rw [ht33]; simp
 refine Z33 ?_;refine R.fin [0, 2, 3, 42] ?_
 refine W.cond (fun ht42 => ?_) (fun ht42 => ?_)
 ·have hi1 : (A9 S).i < l.length := hl.step hi (by rw [beq_iff_eq] at ht42; rw [ht42]; decide)
  refine Z52 ?_;refine R.fin [0, 2, 3] ?_;refine Z34 ?_;refine R.call Tryz.call249 (Vh l (A9 S) opT o _ (A5 (getset ho)) hi1 hl (by decide)) ?_;refine R.fin [0, 2, 3, 49] ?_
  refine W.cond (fun ht49 => ?_) (fun ht49 => ?_)
  ·have e : Ea l Dv S = F8 l Dv (A7 l S.i) (A9 S) := by unfold Ea; rw [if_neg e0, if_neg e1, if_neg e2, if_pos ht42, if_pos ht49]
   have hi2 : (A9 (A9 S)).i < l.length := hl.stepIs hi1 ht49
   refine Z4 ?_;refine R.callUp Tryz.call267 (getset ho) (by simp) Bj (hcl o _ (A9 S) (A7 l S.i) (A5 (getset ho)) hi2 rfl (hl.text _) ht49) ?_;refine Z11 ?_;refine K.thR ?_;refine Z5 ?_;exact K.fin (V.one (V.cellN jA jS)) ⟨by rw [e, A8], by rw [e, List.set_set]⟩ (hlow := by have := Ab Hp.length ((F8 l Dv (A7 l S.i) (A9 S)).1); simpa only [A8, List.length_set] using this)
  have e : Ea l Dv S = (Aj (A7 l S.i).text, A9 S) := by unfold Ea; rw [if_neg e0, if_neg e1, if_neg e2, if_pos ht42, if_neg (by rw [ht49]; simp)]
  refine Z6 ?_;refine qq ?_;refine R.wk 55 _ (Ur _) ?_;refine Z11 ?_;refine Z5 ?_;exact K.fin (V.one (V.cellN jA jS)) ⟨by rw [e, A8], by rw [e]⟩ (hlow := by have := Ab Hp.length (Aj (A7 l S.i).text); simpa only [A8, List.length_set] using this)
 have e3 : ¬ ((A7 l S.i).kind == 1) = true := by rw [ht42]; simp
 refine Z0 ?_;refine R.call Tryz.call249 (Vh l S opT o _ (A5 ho) hi hl (by decide)) ?_;refine R.go ?_;refine R.fin [0, 2, 3, 56] ?_
 refine W.cond (fun ht56 => ?_) (fun ht56 => ?_)
 ·have e : Ea l Dv S = ((B7 (A7 l S.i).at_ Dv.ei (A9 S)).1, Di l Dc (B7 (A7 l S.i).at_ Dv.ei (A9 S)).2) := by unfold Ea; rw [if_neg e0, if_neg e1, if_neg e2, if_neg e3, if_pos ht56]
  have hi1 : (A9 S).i < l.length := hl.stepIs hi ht56
  have hwf := Gd (S := A9 S) (l := l) (f := Dv.ei) (A7 l S.i).at_ hi1 (fun h => (hd.ei h).1)
  refine Z52 ?_;refine R.fin [0, 2, 3] ?_;refine Z33 ?_;refine Ip ?_;refine R.callUp Tryz.call260 (getset ho) (by simp) Bj (jo Tryz.call219 l (A9 S) (A7 l S.i).at_ Dv.ei o _ (A5 (getset ho)) hi1 hnl (fun h => (hd.ei h).1) (fun h => (hd.ei h).2)) ?_;refine Z15 ?_;refine R.fin [0, 2, 6] ?_;refine Z0 ?_;refine R.callUp Tryz.call268 (getset (getset ho)) (by simp) Bj (w9 l (B7 (A7 l S.i).at_ Dv.ei (A9 S)).2 Dc o _ (A5 (getset (getset ho))) hwf.lt hll) ?_;refine R.fin [2, 6] ?_;refine Z0 ?_;refine Z11 ?_;refine Z5 ?_;exact K.fin (V.one (V.cellN jA jS)) ⟨by rw [e, A8], by rw [e, List.set_set, List.set_set]⟩ (hlow := by have := Ab Hp.length ((B7 (A7 l S.i).at_ Dv.ei (A9 S)).1); simpa only [A8, List.length_set] using this)
 have e : Ea l Dv S = (Aa, Ce 8 (A7 l S.i).at_ S) := by unfold Ea; rw [if_neg e0, if_neg e1, if_neg e2, if_neg e3, if_neg (by rw [ht56]; simp)]
 refine Z16 ?_;refine ui ?_;refine Z11 ?_;exact K.fin (V.one (V.cellN jA jS)) ⟨by rw [e, A8], by rw [e]⟩ (hlow := by have := Ab Hp.length (Aa); simpa only [A8, List.length_set] using this)

theorem nx {l : List Tok} (hl : TokEnd l) (hll : l.length ≤ 1048576) {d n : Nat} (h : n + (d + 1) = 31) (hp : n ≠ 30 → PC 219 l (Dd l d).ei (n + 1) ∧ PC 251 l (Dd l d).no (n + 1) ∧ PC 264 l (Dd l d).ne (n + 1)) : DeepC l (Dd l d) n := by
 have g : n ≠ 30 → _ := fun h30 => M7 hl hll d (n + 1) (by omega) (by omega)
 exact ⟨fun h => ⟨(g h).1, (hp h).1⟩, fun h => ⟨(g h).2.1, (hp h).2.1⟩, fun h => ⟨(g h).2.2, (hp h).2.2⟩⟩
/-- All functions of the parser. -/
theorem Vj {l : List Tok} (hl : TokEnd l) (hll : l.length ≤ 1048576) (hcl : ∀ n Dv, n ≤ 30 → DeepC l Dv n → Vi l Dv n) : ∀ (d n : Nat), n + d = 31 → n ≤ 30 → PC 219 l (Dd l d).ei n ∧ PC 251 l (Dd l d).no n ∧ PC 264 l (Dd l d).ne n
 | 0, n, h, hn => by omega
 | d + 1, n, h, hn => by
  have hd : DeepC l (Dd l d) n := nx hl hll h (fun h30 => Vj hl hll hcl d (n + 1) (by omega) (by omega))
  have g1 : Ck l n (Ni l (Dd l d)) := M6 hl hll (fun h => (hd.ei h).1) (fun h => (hd.ne h).1)
  have g2 : Ck l n (V8 l (Dd l d)) := Ej hl g1
  have g3 : Ck l n (Cj l (Dd l d)) := Ej hl g2
  have g4 : Ck l n (Dj l (Dd l d)) := Ju hl hll (fun h => (hd.ei h).1) (fun h => (hd.ne h).1)
  have g5 : Ck l n (Nj l (Dd l d)) := R7 hl hll (fun h => (hd.ei h).1) (fun h => (hd.ne h).1) (fun h => (hd.no h).1)
  have g6 : Ck l n (V9 l (Dd l d)) := Ej hl g5
  have p0 : PC 265 l (Ea l (Dd l d)) n := fun o Hp S ho hi hS => by
   subst hS
   exact z6 l S (Dd l d) o Hp ho hi hl hll hn hd (hcl _ _ hn hd)
  have p1 : PC 264 l (Ni l (Dd l d)) n := fun o Hp S ho hi hS => by
   subst hS
   exact yx l S (Dd l d) o Hp ho hi hl hll hn hd p0
  have p2 : PC 263 l (V8 l (Dd l d)) n := fun o Hp S ho hi hS => by
   subst hS
   exact yw l S (Ni l (Dd l d)) o Hp ho hi hl hll g1 p1
  have p3 : PC 262 l (Cj l (Dd l d)) n := fun o Hp S ho hi hS => by
   subst hS
   exact yu l S (V8 l (Dd l d)) o Hp ho hi hl hll g2 p2
  have p4 : PC 259 l (Dj l (Dd l d)) n := fun o Hp S ho hi hS => by
   subst hS
   exact yz l S (Dd l d) o Hp ho hi hl hll hn hd g3 p3
  have p5 : PC 251 l (Nj l (Dd l d)) n := fun o Hp S ho hi hS => by
   subst hS
   exact yy l S (Dd l d) o Hp ho hi hl hll hn hd p4
  have p6 : PC 239 l (V9 l (Dd l d)) n := fun o Hp S ho hi hS => by
   subst hS
   exact yt l S (Nj l (Dd l d)) o Hp ho hi hl hll g5 p5
  have p7 : PC 219 l (Nn l (Dd l d)) n := fun o Hp S ho hi hS => by
   subst hS
   exact yr l S (V9 l (Dd l d)) o Hp ho hi hl hll g6 p6
  exact ⟨p7, p5, p1⟩
theorem Ra : ∀ (n : Nat) (e : Expr), okE n e → depthE e ≤ n
 | 0, _, h => h.elim
 | n + 1, e, h => by
  rw [Jg]
  have : ∀ l : List Expr, (∀ y ∈ l, okE n y) → C6 l ≤ n := by
   intro l
   induction l with
   | nil => intro _; exact Nat.zero_le _
   | cons y r ih =>
    intro hl
    rw [C6]
    have h1 := Ra n y (hl y (by simp))
    have h2 := ih (fun z hz => hl z (by simp [hz]))
    omega
  have := this e.kids h.2.2
  omega
theorem jq (e : Expr) (x : Nat) : Ah (e.kids.take x) + 1 ≤ sizeE e := by
 rw [Ev]
 have : ∀ (l : List Expr) (x : Nat), Ah (l.take x) ≤ Ah l := by
  intro l
  induction l with
  | nil => intro x; simp
  | cons y r ih =>
   intro x
   cases x with
   | zero => simp [Ah]
   | succ x =>
    have := ih x
    rw [List.take_succ_cons, Ah, Ah]
    omega
 have := this e.kids x
 omega
theorem c78 : ∀ (n : Nat) (e : Expr), okE n e → n ≤ 1048576 → ∀ Hp : List AObj, AFun Tryz.prog 78 [A3 e] Hp (A2 (depthE e : Nat)) := by
 intro n
 induction n with
 | zero => exact fun e h => h.elim
 | succ n ih =>
 intro e hok hn Hp
 refine ACall.body [.tmp 2] [0] Tryz.func78 Tryz.ntmps78 (fun d => ?_)
 refine Ww ?_;refine R.fin [1, 3] ?_;refine Z34 ?_;refine R.fin [1, 3, 4] ?_
 refine AW.loopC (α := Nat) (fun x => ⟨25, A4 1 (.ro (Ba e)) (A4 3 (A2 (C6 (e.kids.take x) : Nat)) (A4 4 (A2 (x : Nat)) (fun _ => .any))), Hp, [], [], none⟩) (fun x => x ≤ e.kids.length) (fun x => e.kids.length - x) (0) (Nat.zero_le _) (StLe.of_eq (by simp [C6])) rfl (fun x hx => ?_)
 refine Z18 ?_;refine Z1 ?_;refine R.fin [1, 3, 4, 10] ?_
 refine W.cond (fun ht10 => ?_) (fun ht10 => ?_)
 ·have hlt : x < e.kids.length := by simpa using ht10
  have hkl := hok.2.1
  refine Z62 ?_;refine Z7 ?_
  refine R.go (h := Q.indexAddr (x) (A3 e.kids[x]) (fun _ => Ak hlt)) (hr := ?_)
  refine R.go ?_;refine R.call Tryz.call78 (ih e.kids[x] (hok.2.2 _ (List.getElem_mem hlt)) (by omega) _) ?_;refine R.go ?_;refine R.fin [1, 3, 4, 5] ?_;refine Z7 ?_;refine R.fin [1, 3, 4, 5, 21] ?_
  refine W.cond (fun ht21 => ?_) (fun ht21 => ?_)
  ·have em : C6 (e.kids.take (x + 1)) = depthE e.kids[x] := by rw [Mv _ hlt]; have := of_decide_eq_true ht21; omega
   refine Z13 ?_;refine R.fin [1, 3, 4] ?_;refine Px ?_;exact tz
  have em : C6 (e.kids.take (x + 1)) = C6 (e.kids.take x) := by rw [Mv _ hlt]; have := of_decide_eq_false ht21; omega
  refine Z96 ?_;exact tz
 have hd1 := Ra _ e hok
 have hxe : e.kids.take x = e.kids := List.take_of_length_le (by simp at ht10; omega)
 have hdd := Jg e
 refine Z59 ?_;refine Z0 ?_
 rw [hxe]
 refine Z40 ?_;exact K.fin (V.one V.tmp) ⟨by rw [hdd]; rfl, rfl⟩

theorem c22 : ∀ (n : Nat) (e : Expr), okE n e → sizeE e ≤ 1048576 → ∀ Hp : List AObj, AFun Tryz.prog 22 [A3 e] Hp (A2 (sizeE e : Nat)) := by
 intro n
 induction n with
 | zero => exact fun e h => h.elim
 | succ n ih =>
 intro e hok hn Hp
 refine ACall.body [.tmp 2] [0] Tryz.func22 Tryz.ntmps22 (fun d => ?_)
 refine Ww ?_;refine R.fin [1, 3] ?_;refine Z34 ?_;refine R.fin [1, 3, 4] ?_
 refine AW.loopC (α := Nat) (fun x => ⟨21, A4 1 (.ro (Ba e)) (A4 3 (A2 ((Ah (e.kids.take x) : Nat) + 1)) (A4 4 (A2 (x : Nat)) (fun _ => .any))), Hp, [], [], none⟩) (fun x => x ≤ e.kids.length) (fun x => e.kids.length - x) (0) (Nat.zero_le _) (StLe.of_eq (by simp [Ah])) rfl (fun x hx => ?_)
 refine Z18 ?_;refine Z1 ?_;refine R.fin [1, 3, 4, 9] ?_
 refine W.cond (fun ht9 => ?_) (fun ht9 => ?_)
 ·have hlt : x < e.kids.length := by simpa using ht9
  have hkl := hok.2.1
  have hs1 := Xq e.kids hlt
  have hs2 := jq e (x + 1)
  refine Z62 ?_;refine Z13 ?_;refine Z1 ?_
  refine R.go (h := Q.indexAddr (x) (A3 e.kids[x]) (fun _ => Ak hlt)) (hr := ?_)
  refine R.go ?_
  refine R.call Tryz.call22 (ih e.kids[x] (hok.2.2 _ (List.getElem_mem hlt)) (by have := Uo e hlt; omega) _) ?_
  refine Z1 ?_;refine R.fin [1, 3, 4] ?_;refine Px ?_;refine R.fin [1, 3, 4] ?_;exact K.lpN (x + 1) hlt (by omega) (StCut.of_eq (by simp only [hs1]; congr 4; simp only [AV.v.injEq, Value.int.injEq, true_and]; omega))
 have hxe : e.kids.take x = e.kids := List.take_of_length_le (by simp at ht9; omega)
 have hdd := Ev e
 refine Z59 ?_;refine Sj ?_;exact K.fin (V.one V.tmp) ⟨by rw [hxe, hdd]; simp; omega, rfl⟩

def M9 (s : Str) : Int := if (((s == [108, 101, 110]) || (s == [115, 116, 114])) || (s == [110, 117, 109])) || (s == [105, 115, 110, 117, 108, 108]) then 1 else if ((s == [110, 118, 108]) || (s == [108, 101, 102, 116])) || (s == [114, 105, 103, 104, 116]) then 2 else if s == [105, 102] then 3 else -1
theorem cy (s : Str) : Ay s = M9 s := by
 by_cases h : s ∈ arityList.map (·.1)
 ·have : ((arityList.map (·.1)).all fun s => decide (Ay s = M9 s)) = true := by kernel_rfl
  exact of_decide_eq_true (List.all_eq_true.1 this s h)
 have h1 : Ay s = -1 := by
  unfold Ay
  rw [List.find?_eq_none.2 fun p hp => by
   simp only [beq_iff_eq]
   rintro rfl
   exact h (List.mem_map.2 ⟨p, hp, rfl⟩)]
 rw [h1]
 simp only [arityList, List.map_cons, List.map_nil, List.mem_cons, List.not_mem_nil, or_false, not_or] at h
 obtain ⟨a1, a2, a3, a4, a5, a6, a7, a8⟩ := h
 simp [M9, a1, a2, a3, a4, a5, a6, a7, a8]
theorem wc (s : Str) (Hp : List AObj) : AFun Tryz.prog 146 [A6 s] Hp (A2 (M9 s)) := by
 refine ACall.body [.tmp 2] [0] Tryz.func146 Tryz.ntmps146 (fun d => ?_)
 refine Z38 ?_;refine Z34 ?_;refine R.fin [3] ?_;refine gr ?_;refine R.fin [3, 4] ?_
 refine W.cond (fun ht4 => ?_) (fun ht4 => ?_)
 ·refine Z6 ?_
  refine W.cond (fun ht4 => ?_) (fun ht4 => ?_)
  ·exact Z47
  refine Z28 ?_;refine R.fin [3, 9] ?_
  refine W.cond (fun ht9 => ?_) (fun ht9 => ?_)
  ·refine Z6 ?_
   refine W.cond (fun ht9 => ?_) (fun ht9 => ?_)
   ·exact Z47
   refine Z79 ?_
   refine W.cond (fun ht13 => ?_) (fun ht13 => ?_)
   ·exact Z47
   exact Z90
  refine Z4 ?_;refine R.fin [3, 9] ?_
  refine W.cond (fun ht9 => ?_) (fun ht9 => ?_)
  ·refine Z6 ?_
   refine W.cond (fun ht9 => ?_) (fun ht9 => ?_)
   ·exact Z47
   refine Z79 ?_
   refine W.cond (fun ht13 => ?_) (fun ht13 => ?_)
   ·exact Z47
   exact Z90
  refine Z13 ?_;refine mm ?_
  refine W.cond (fun ht9 => ?_) (fun ht9 => ?_)
  ·exact Z47
  refine Z79 ?_
  refine W.cond (fun ht13 => ?_) (fun ht13 => ?_)
  ·exact Z47
  exact Z90
 refine Z4 ?_;refine R.fin [3, 4] ?_
 refine W.cond (fun ht4 => ?_) (fun ht4 => ?_)
 ·refine Z6 ?_
  refine W.cond (fun ht4 => ?_) (fun ht4 => ?_)
  ·exact Z47
  refine Z28 ?_;refine R.fin [3, 9] ?_
  refine W.cond (fun ht9 => ?_) (fun ht9 => ?_)
  ·refine Z6 ?_
   refine W.cond (fun ht9 => ?_) (fun ht9 => ?_)
   ·exact Z47
   refine Z79 ?_
   refine W.cond (fun ht13 => ?_) (fun ht13 => ?_)
   ·exact Z47
   exact Z90
  refine Z4 ?_;refine R.fin [3, 9] ?_
  refine W.cond (fun ht9 => ?_) (fun ht9 => ?_)
  ·refine Z6 ?_
   refine W.cond (fun ht9 => ?_) (fun ht9 => ?_)
   ·exact Z47
   refine Z79 ?_
   refine W.cond (fun ht13 => ?_) (fun ht13 => ?_)
   ·exact Z47
   exact Z90
  refine Z13 ?_;refine mm ?_
  refine W.cond (fun ht9 => ?_) (fun ht9 => ?_)
  ·exact Z47
  refine Z79 ?_
  refine W.cond (fun ht13 => ?_) (fun ht13 => ?_)
  ·exact Z47
  exact Z90
 refine Z4 ?_;refine R.fin [3, 4] ?_
 refine W.cond (fun ht4 => ?_) (fun ht4 => ?_)
 ·refine Z6 ?_
  refine W.cond (fun ht4 => ?_) (fun ht4 => ?_)
  ·exact Z47
  refine Z28 ?_;refine R.fin [3, 9] ?_
  refine W.cond (fun ht9 => ?_) (fun ht9 => ?_)
  ·refine Z6 ?_
   refine W.cond (fun ht9 => ?_) (fun ht9 => ?_)
   ·exact Z47
   refine Z79 ?_
   refine W.cond (fun ht13 => ?_) (fun ht13 => ?_)
   ·exact Z47
   exact Z90
  refine Z4 ?_;refine R.fin [3, 9] ?_
  refine W.cond (fun ht9 => ?_) (fun ht9 => ?_)
  ·refine Z6 ?_
   refine W.cond (fun ht9 => ?_) (fun ht9 => ?_)
   ·exact Z47
   refine Z79 ?_
   refine W.cond (fun ht13 => ?_) (fun ht13 => ?_)
   ·exact Z47
   exact Z90
  refine Z13 ?_;refine mm ?_
  refine W.cond (fun ht9 => ?_) (fun ht9 => ?_)
  ·exact Z47
  refine Z79 ?_
  refine W.cond (fun ht13 => ?_) (fun ht13 => ?_)
  ·exact Z47
  exact Z90
 refine Z13 ?_;refine R.fin [3, 4] ?_;refine K.thN ?_
 refine W.cond (fun ht4 => ?_) (fun ht4 => ?_)
 ·exact Z47
 refine Z28 ?_;refine R.fin [3, 9] ?_
 refine W.cond (fun ht9 => ?_) (fun ht9 => ?_)
 ·refine Z6 ?_
  refine W.cond (fun ht9 => ?_) (fun ht9 => ?_)
  ·exact Z47
  refine Z79 ?_
  refine W.cond (fun ht13 => ?_) (fun ht13 => ?_)
  ·exact Z47
  exact Z90
 refine Z4 ?_;refine R.fin [3, 9] ?_
 refine W.cond (fun ht9 => ?_) (fun ht9 => ?_)
 ·refine Z6 ?_
  refine W.cond (fun ht9 => ?_) (fun ht9 => ?_)
  ·exact Z47
  refine Z79 ?_
  refine W.cond (fun ht13 => ?_) (fun ht13 => ?_)
  ·exact Z47
  exact Z90
 refine Z13 ?_;refine mm ?_
 refine W.cond (fun ht9 => ?_) (fun ht9 => ?_)
 ·exact Z47
 refine Z79 ?_
 refine W.cond (fun ht13 => ?_) (fun ht13 => ?_)
 ·exact Z47
 exact Z90

theorem jr {s : Str} {x : Nat} (hx : x < levels.length) (h : levels[x].contains s = true) (h0 : ∀ (j : Nat) (l : List Str), j < x → levels[j]? = some l → l.contains s = false) : Aq s = (x : Int) := by
 unfold Aq
 rw [List.findIdx?_eq_some_iff_getElem.2 ⟨hx, h, fun j hj => by
  have e := h0 j levels[j] hj (List.getElem?_eq_getElem _)
  show ¬ (levels[j].contains s = true)
  rw [e]
  simp⟩]
theorem js {s : Str} (h0 : ∀ (j : Nat) (l : List Str), j < levels.length → levels[j]? = some l → l.contains s = false) : Aq s = -1 := by
 unfold Aq
 rw [List.findIdx?_eq_none_iff.2 fun l hl => by
  obtain ⟨j, hj⟩ := List.getElem?_of_mem hl
  exact h0 j l (List.getElem?_eq_some_iff.1 hj).1 hj]
theorem Y1 : levels.length = 6 := rfl
theorem T5 {x : Nat} (hx : x < levels.length) : levels[x].length ≤ 6 := by
 have : (levels.all fun l => decide (l.length ≤ 6)) = true := by kernel_rfl
 exact of_decide_eq_true (List.all_eq_true.1 this _ (List.getElem_mem hx))
theorem Q8 {l : List Str} {s : Str} (h : ∀ (j : Nat) (w : Str), j < l.length → l[j]? = some w → (w == s) = false) : l.contains s = false := by
 rw [Bool.eq_false_iff]
 intro hc
 have hm : s ∈ l := by simpa using hc
 obtain ⟨j, hj⟩ := List.getElem?_of_mem hm
 have := h j s (List.getElem?_eq_some_iff.1 hj).1 hj
 simp at this
theorem c145 (s : Str) (Hp : List AObj) : AFun Tryz.prog 145 [A6 s] Hp (A2 (Aq s)) := by
 refine ACall.body [.tmp 2] [0] Tryz.func145 Tryz.ntmps145 (fun d => ?_)
 refine Z38 ?_;refine Cs ?_;refine qy ?_;refine qy ?_;refine qy ?_;refine g0 ?_;refine H5 ?_;refine Z34 ?_;refine R.fin [0, 3, 4] ?_
 refine AW.loopC (α := Nat) (fun x => ⟨38, A4 0 (A6 s) (A4 3 (.slice true 1 (levels.map Dg)) (A4 4 (A2 (x : Nat)) (fun _ => .any))), Hp, [], [], none⟩) (fun x => x ≤ levels.length ∧ ∀ (j : Nat) (l : List Str), j < x → levels[j]? = some l → l.contains s = false) (fun x => levels.length - x) (0) ⟨Nat.zero_le _, fun j l h => by omega⟩ (StLe.refl _) rfl (fun x hx => ?_)
 refine Z46 ?_;refine R.fin [0, 3, 4, 16] ?_
 refine W.cond (fun ht16 => ?_) (fun ht16 => ?_)
 ·have hlt : x < levels.length := by simpa using ht16
  have h6 := Y1
  have hls := T5 hlt
  refine Z62 ?_;refine Z0 ?_;refine R.fin [0, 3, 4, 5] ?_
  refine AW.loopC (α := Nat) (fun y => ⟨38, A4 0 (A6 s) (A4 3 (.slice true 1 (levels.map Dg)) (A4 4 (A2 (x : Nat)) (A4 5 (A2 (y : Nat)) (fun _ => .any)))), Hp, [], [], none⟩) (fun y => y ≤ levels[x].length ∧ ∀ (j : Nat) (w : Str), j < y → levels[x][j]? = some w → (w == s) = false) (fun y => levels[x].length - y) (0) ⟨Nat.zero_le _, fun j l h => by omega⟩ (StLe.refl _) rfl (fun y hy => ?_)
  refine Z18 ?_
  refine R.go (h := Q.indexAddr (x) (Dg levels[x]) (fun _ => Ak hlt)) (hr := ?_)
  refine Z25 ?_;refine R.fin [0, 3, 4, 5, 25] ?_
  refine W.cond (fun ht25 => ?_) (fun ht25 => ?_)
  ·have hly : y < levels[x].length := by simpa using ht25
   refine U9 ?_
   refine R.go (h := Q.indexAddr (x) (Dg levels[x]) (fun _ => Ak hlt)) (hr := ?_)
   refine Z1 ?_
   refine R.go (h := Q.indexAddr (y) (A6 (levels[x])[y]) (fun _ => Ak hly)) (hr := ?_)
   refine Z25 ?_;refine R.fin [0, 3, 4, 5, 36] ?_
   refine W.cond (fun ht36 => ?_) (fun ht36 => ?_)
   ·refine Sj ?_;refine Z5 ?_;refine K.lpR ?_;refine Z42 ?_;exact K.fin (V.one V.tmp) ⟨by rw [jr hlt (by simp only [List.contains_iff_mem]; have := ht36; simp only [beq_iff_eq] at this; rw [← this]; exact List.getElem_mem hly) hx.2], rfl⟩
   refine Z96 ?_;refine R.fin [0, 3, 4, 5] ?_;exact K.lpN (y + 1) ⟨hly, Bk hly hy.2 ht36⟩ (by omega) (StCut.of_eq rfl)
  have hny : levels[x].length ≤ y := by simpa using ht25
  refine Z37 ?_;refine K.lpE ?_;refine Px ?_;refine R.fin [0, 3, 4] ?_;exact K.lpN (x + 1) ⟨hlt, Bk hlt hx.2 (Q8 fun j w hj hw => hy.2 j w (by omega) hw)⟩ (by omega) (StCut.of_eq rfl)
 have hnx : levels.length ≤ x := by simpa using ht16
 refine Ub ?_;exact K.fin (V.one V.tmp) ⟨by rw [js (fun j l hj h => hx.2 j l (by omega) h)], rfl⟩

theorem z7 (e : Expr) (hs : e.text.length ≤ 1048576) (Hp : List AObj) : AFun Tryz.prog 112 [A3 e] Hp (An (E2 e)) := by
 refine ACall.body [.tmp 2] [0] Tryz.func112 Tryz.ntmps112 (fun d => ?_)
 refine Z64 ?_;refine Z33 ?_;refine R.fin [1, 3] ?_;refine Z18 ?_;refine R.fin [1, 3, 9] ?_
 refine W.cond (fun ht9 => ?_) (fun ht9 => ?_)
 ·refine Z4 ?_;refine R.call Tryz.call144 (xq e.val _) ?_;refine R.go ?_;refine Sk ?_;refine Z86 ?_;refine Z36 ?_;refine Z40 ?_;exact ua
 refine Z6 ?_;refine Z28 ?_;refine Wy ?_
 refine R.go (h := Q.neqAgg i8 (Kw e.val.kind e.val.n 0 0 e.val.s [])) (hr := ?_)
 refine R.fin [1, 3, 31] ?_
 refine W.cond (fun ht31 => ?_) (fun ht31 => ?_)
 ·refine Z20 ?_;exact ua
 refine Z6 ?_;refine Z28 ?_;refine R.fin [1, 3, 33] ?_;refine Z87 ?_;refine R.fin [1, 3, 33, 34] ?_
 refine W.cond (fun ht34 => ?_) (fun ht34 => ?_)
 ·refine Z4 ?_;refine R.call Tryz.call80 (c80 e.text hs _) ?_;refine R.go ?_;refine Z70 ?_;exact Z41
 refine Z28 ?_;refine R.fin [1, 3, 33, 43] ?_
 refine W.cond (fun ht43 => ?_) (fun ht43 => ?_)
 ·refine Z6 ?_
  refine W.cond (fun ht43 => ?_) (fun ht43 => ?_)
  ·refine Z33 ?_;refine Z70 ?_;exact Z41
  refine Z4 ?_;refine R.fin [1, 3, 33, 53] ?_
  refine W.cond (fun ht53 => ?_) (fun ht53 => ?_)
  ·refine Z4 ?_;refine R.call Tryz.call145 (c145 e.text _) ?_;refine Z36 ?_;refine Z40 ?_;exact Z41
  refine Z4 ?_;refine R.fin [1, 3, 63] ?_
  refine W.cond (fun ht63 => ?_) (fun ht63 => ?_)
  ·refine Z4 ?_;refine R.call Tryz.call146 (wc e.text _) ?_;refine Z25 ?_;refine Z2 ?_;exact Z41
  exact ub
 refine Z13 ?_;refine R.fin [1, 3, 33, 43] ?_;refine K.thN ?_
 refine W.cond (fun ht43 => ?_) (fun ht43 => ?_)
 ·refine Z33 ?_;refine Z70 ?_;exact Z41
 refine Z4 ?_;refine R.fin [1, 3, 33, 53] ?_
 refine W.cond (fun ht53 => ?_) (fun ht53 => ?_)
 ·refine Z4 ?_;refine R.call Tryz.call145 (c145 e.text _) ?_;refine Z36 ?_;refine Z40 ?_;exact Z41
 refine Z4 ?_;refine R.fin [1, 3, 63] ?_
 refine W.cond (fun ht63 => ?_) (fun ht63 => ?_)
 ·refine Z4 ?_;refine R.call Tryz.call146 (wc e.text _) ?_;refine Z25 ?_;refine Z2 ?_;exact Z41
 exact ub

theorem c79 : ∀ (n : Nat) (e : Expr), okE n e → ∀ Hp : List AObj, AFun Tryz.prog 79 [A3 e] Hp (An (Cf E2 e)) := by
 intro n
 induction n with
 | zero => exact fun e h => h.elim
 | succ n ih =>
 intro e hok Hp
 refine ACall.body [.tmp 2] [0] Tryz.func79 Tryz.ntmps79 (fun d => ?_)
 refine Z64 ?_;refine Z34 ?_;refine R.call Tryz.call112 (z7 e hok.1 _) ?_;refine R.go ?_;refine R.fin [1, 6] ?_
 refine W.cond (fun ht6 => ?_) (fun ht6 => ?_)
 ·refine Z20 ?_;refine K.thR ?_;exact K.fin (V.one V.tmp) ⟨by rw [D9]; simp at ht6; rw [ht6]; rfl, rfl⟩
 refine Uc ?_;refine R.fin [1, 3] ?_
 refine AW.loopC (α := Nat) (fun x => ⟨21, A4 1 (.ro (Ba e)) (A4 3 (A2 (x : Nat)) (fun _ => .any)), Hp, [], [], none⟩) (fun x => x ≤ e.kids.length ∧ Fo E2 (e.kids.take x) = true) (fun x => e.kids.length - x) (0) ⟨Nat.zero_le _, rfl⟩ (StLe.refl _) rfl (fun x hx => ?_)
 refine Z18 ?_;refine Z1 ?_;refine R.fin [1, 3, 11] ?_
 refine W.cond (fun ht11 => ?_) (fun ht11 => ?_)
 ·have hlt : x < e.kids.length := by simpa using ht11
  have hkl := hok.2.1
  refine Z62 ?_;refine Z7 ?_
  refine R.go (h := Q.indexAddr (x) (A3 e.kids[x]) (fun _ => Ak hlt)) (hr := ?_)
  refine R.go ?_;refine R.call Tryz.call79 (ih e.kids[x] (hok.2.2 _ (List.getElem_mem hlt)) _) ?_;refine R.go ?_;refine R.fin [1, 3, 20] ?_
  refine W.cond (fun ht20 => ?_) (fun ht20 => ?_)
  ·refine U6 ?_;exact K.fin (V.one V.tmp) ⟨by rw [show Cf E2 e = false from by rw [Bool.eq_false_iff]; intro h; rw [D9, Bool.and_eq_true] at h; have := (Cv _ _).1 h.2 _ (List.getElem_mem hlt); rw [this] at ht20; cases ht20], rfl⟩
  refine Z96 ?_;refine R.fin [1, 3] ?_;exact K.lpN (x + 1) ⟨hlt, by rw [List.take_succ_eq_append_getElem hlt, Mu, hx.2, Fo, Fo, Bool.and_true, Bool.true_and]; simpa using ht20⟩ (by omega) (StCut.of_eq rfl)
 have hxe : e.kids.take x = e.kids := List.take_of_length_le (by simp at ht11; omega)
 refine Ub ?_;exact K.fin (V.one V.tmp) ⟨by have := hx.2; rw [hxe] at this; rw [D9, this]; simp at ht6; rw [ht6]; rfl, rfl⟩

theorem jt (e : Expr) : Cf E2 e = Cf C2 e := by rw [show C2 = E2 from funext Oy]
theorem c47 (n : Nat) (e : Expr) (hok : okE n e) (hn : n ≤ 1048576) (hs : sizeE e ≤ 1048576) (Hp : List AObj) : AFun Tryz.prog 47 [A3 e] Hp (An (Ai e)) := by
 refine ACall.body [.tmp 2] [0] Tryz.func47 Tryz.ntmps47 (fun d => ?_)
 refine Ww ?_;refine R.call Tryz.call78 (c78 n e hok hn _) ?_;refine Z82 ?_;refine G.call Tryz.call22 (fun hB => c22 n e hok hs _) ?_;refine G.go ?_;refine Z82 ?_;refine G.call Tryz.call79 (fun hB => c79 n e hok _) ?_;refine Z40 ?_;exact K.fin (V.one V.tmp) ⟨by rw [Ai, jt, show decide ((depthE e : Int) ≤ 30) = decide (depthE e ≤ 30) by rw [decide_eq_decide]; omega, show decide ((sizeE e : Int) ≤ 300) = decide (sizeE e ≤ 300) by rw [decide_eq_decide]; omega], rfl⟩

set_option maxRecDepth 8000
/-! The document's kinds of trees are infer's. -/
set_option maxRecDepth 4000
theorem Zh {n : Nat} {U F : Nat → List AObj} {H' : List AObj} (h : Ha (fun _ => true) U F n H') : H' = U n := by
 rcases h with ⟨_, h⟩ | ⟨j, _, _, h, _⟩
 ·exact h
 cases h
theorem cz {α : Type} {l : List α} {k : Nat} {y : α} (h : l[k]? = some y) : l.take (k + 1) = l.take k ++ [y] := by rw [List.take_add_one, h]; rfl
theorem ju {L : List (Int × Expr)} {k : Nat} {it : Int × Expr} (h : L[k]? = some it) : D3 0 (L.take (k + 1)) = if D3 0 (L.take k) < it.1 then it.1 else D3 0 (L.take k) := by
 have e : D3 0 (L.take (k + 1)) = max (D3 0 (L.take k)) it.1 := by
  unfold D3
  rw [cz h, List.foldl_append]
  rfl
 rw [e]
 split <;> omega
theorem Hb {n k : Nat} {o : Bool} {l : List Str} : Low n (.slice o k (l.map A6)) := by simp [or_imp, forall_and]
theorem z8 (n : Nat) (e : Expr) (hok : okE n e) (hn : n ≤ 1048576) (hs : sizeE e ≤ 1048576) (Hp : List AObj) : AFun Tryz.prog 220 [A3 e] Hp (A2 (depthE e : Nat)) := by
 refine ACall.body [.tmp 2] [0, 4] Tryz.func220 Tryz.ntmps220 (fun d => ?_)
 refine Z4 ?_;refine R.fin [1, 4] ?_;refine Cs ?_;refine Z15 ?_;refine R.fin [1, 3, 4] ?_;refine Z65 ?_
 refine R.assumeLow (fun hlow => ?_)
 refine r6 ?_;refine R.fin [3, 4, 6] ?_;refine AW.block ?_
 refine W.rangeV (m := 1) Tryz.call105 (fun FR as' bd' hFR has hbd => ?_)
 have hFRl : ∀ s, Low (Hp.length + 3) (FR s) := by
  intro s
  rw [hFR]
  refine Low.strip ?_
  revert s
  repeat (first | exact Ap | refine Ao (by simp [oid, Ab] <;> try omega) ?_)
 have hOl : ∀ {k : Nat}, ∀ x ∈ [AObj.cells 3 [A2 (D3 0 ((At 1 e).take k))], AObj.defs, AObj.loop LoopState.ready none FR 13 #[7, 8] as' bd' (oid Hp.length 1)], ObjLow (Hp.length + 3) x := by
  intro k x hx
  simp only [List.mem_cons, List.mem_nil_iff, or_false] at hx
  rcases hx with rfl | rfl | rfl
  ·intro y hy
   rw [List.mem_singleton.1 hy]
   first | exact Hb | simp
  ·trivial
  exact gx
 refine ⟨fun _ H' => Ha (fun _ => true) (fun k => Hp ++ [AObj.cells 3 [A2 (D3 0 ((At 1 e).take k))], AObj.defs, AObj.loop LoopState.ready none FR 13 #[7, 8] as' bd' (oid Hp.length 1)]) (fun k => Hp ++ [AObj.cells 3 [A2 (D3 0 ((At 1 e).take k))], AObj.defs, AObj.loop LoopState.ready none FR 13 #[7, 8] as' bd' (oid Hp.length 1)]) (At 1 e).length H', rn (l := oid Hp.length 2) (go := fun _ => true) (U := fun k => Hp ++ [AObj.cells 3 [A2 (D3 0 ((At 1 e).take k))], AObj.defs, AObj.loop LoopState.ready none FR 13 #[7, 8] as' bd' (oid Hp.length 1)]) (F := fun k => Hp ++ [AObj.cells 3 [A2 (D3 0 ((At 1 e).take k))], AObj.defs, AObj.loop LoopState.ready none FR 13 #[7, 8] as' bd' (oid Hp.length 1)]) (n0 := Hp.length + 3) ⟨fun k => by simp, fun k => by simp, fun k x hx => ?_, fun k x hx => ?_, by simp [oid], fun X k it hit hgo => ?_⟩ n hok hn, ?_⟩
 ·exact gy
 ·exact gy
 ·have hklt : k < sizeE e := by rw [← Da 1 e]; exact (List.getElem?_eq_some_iff.1 hit).1
  generalize hV : (Hp ++ [AObj.cells 3 [A2 (D3 0 ((At 1 e).take k))], AObj.defs, AObj.loop LoopState.ready none FR 13 #[7, 8] as' bd' (oid Hp.length 1)] ++ X) = V
  have hL : V[oid Hp.length 2]? = some (AObj.loop LoopState.ready none FR 13 #[7, 8] as' bd' (oid Hp.length 1)) := by rw [← hV, List.append_assoc, Aw]; rfl
  have hA0 : V[oid Hp.length 0]? = some (AObj.cells 3 [A2 (D3 0 ((At 1 e).take k))]) := by rw [← hV, List.append_assoc, Aw]; rfl
  refine AYield.ofRound (pd := none) (fr := FR) (sz := 13) (ps := #[7, 8]) (df := oid Hp.length 1) (asg := as') (bd := bd') hL rfl (by decide) (fun d => ?_)
  subst hFR has hbd
  refine W.keep [3, 7, 8] ?_;refine Sg ?_;refine R.fin [3, 4] ?_
  refine ⟨rfl, none, hL, ?_⟩
  generalize hbz : (AObj.loop LoopState.busy _ _ _ _ _ _ _) = bz
  have hA : (V.set (oid Hp.length 2) bz)[oid Hp.length 0]? = some (AObj.cells 3 [A2 (D3 0 ((At 1 e).take k))]) := by rw [List.getElem?_set_ne (C1 (by decide))]; exact hA0
  refine AW.block ?_;refine AW.region ?_
  refine R.go (h := Q.loadUp hA) (hr := ?_)
  refine R.go ?_;refine R.maxI ?_
  refine R.storeUp jS hA ?_ ?_
  ·simp
  refine Z53 ?_
  subst hbz
  refine K.rdN (Tz hL (C1 (by decide))) ?_
  refine ⟨rfl, ?_⟩
  rw [if_pos rfl]
  subst hV
  simp only [List.append_assoc, E5, List.cons_append, List.nil_append, List.set_cons_succ, List.set_cons_zero]
  rw [ju hit]
 intro r H' hq
 obtain rfl := Zh hq
 refine ⟨Hp, _, _, _, rfl, rfl, fun h => h, ?_, rfl, by simp, ?_⟩
 ·intro o ho
  have : o = oid Hp.length 1 := by simpa using ho
  subst this
  rw [Aw]
  rfl
 refine Z12 ?_;refine Sj ?_;exact K.fin (V.one V.tmp) ⟨by rw [List.take_length, Mw], rfl⟩

theorem c53 (n : Nat) (e : Expr) (hok : okE n e) (hn : n ≤ 1048576) (hs : sizeE e ≤ 1048576) (Hp : List AObj) : AFun Tryz.prog 53 [A3 e] Hp (A2 (sizeE e : Nat)) := by
 refine ACall.body [.tmp 2] [0] Tryz.func53 Tryz.ntmps53 (fun d => ?_)
 refine Z64 ?_;refine Cs ?_;refine Z15 ?_;refine R.fin [1, 3] ?_;refine Z65 ?_
 refine R.assumeLow (fun hlow => ?_)
 refine r6 ?_;refine R.fin [3, 5] ?_;refine AW.block ?_
 refine W.rangeV (m := 1) Tryz.call105 (fun FR as' bd' hFR has hbd => ?_)
 have hFRl : ∀ s, Low (Hp.length + 3) (FR s) := by
  intro s
  rw [hFR]
  refine Low.strip ?_
  revert s
  repeat (first | exact Ap | refine Ao (by simp [oid, Ab] <;> try omega) ?_)
 have hOl : ∀ {k : Nat}, ∀ x ∈ [AObj.cells 3 [A2 ((k : Nat))], AObj.defs, AObj.loop LoopState.ready none FR 11 #[6, 7] as' bd' (oid Hp.length 1)], ObjLow (Hp.length + 3) x := by
  intro k x hx
  simp only [List.mem_cons, List.mem_nil_iff, or_false] at hx
  rcases hx with rfl | rfl | rfl
  ·intro y hy
   rw [List.mem_singleton.1 hy]
   first | exact Hb | simp
  ·trivial
  exact gx
 refine ⟨fun _ H' => Ha (fun _ => true) (fun k => Hp ++ [AObj.cells 3 [A2 ((k : Nat))], AObj.defs, AObj.loop LoopState.ready none FR 11 #[6, 7] as' bd' (oid Hp.length 1)]) (fun k => Hp ++ [AObj.cells 3 [A2 ((k : Nat))], AObj.defs, AObj.loop LoopState.ready none FR 11 #[6, 7] as' bd' (oid Hp.length 1)]) (At 1 e).length H', rn (l := oid Hp.length 2) (go := fun _ => true) (U := fun k => Hp ++ [AObj.cells 3 [A2 ((k : Nat))], AObj.defs, AObj.loop LoopState.ready none FR 11 #[6, 7] as' bd' (oid Hp.length 1)]) (F := fun k => Hp ++ [AObj.cells 3 [A2 ((k : Nat))], AObj.defs, AObj.loop LoopState.ready none FR 11 #[6, 7] as' bd' (oid Hp.length 1)]) (n0 := Hp.length + 3) ⟨fun k => by simp, fun k => by simp, fun k x hx => ?_, fun k x hx => ?_, by simp [oid], fun X k it hit hgo => ?_⟩ n hok hn, ?_⟩
 ·exact gy
 ·exact gy
 ·have hklt : k < sizeE e := by rw [← Da 1 e]; exact (List.getElem?_eq_some_iff.1 hit).1
  generalize hV : (Hp ++ [AObj.cells 3 [A2 ((k : Nat))], AObj.defs, AObj.loop LoopState.ready none FR 11 #[6, 7] as' bd' (oid Hp.length 1)] ++ X) = V
  have hL : V[oid Hp.length 2]? = some (AObj.loop LoopState.ready none FR 11 #[6, 7] as' bd' (oid Hp.length 1)) := by rw [← hV, List.append_assoc, Aw]; rfl
  have hA0 : V[oid Hp.length 0]? = some (AObj.cells 3 [A2 ((k : Nat))]) := by rw [← hV, List.append_assoc, Aw]; rfl
  refine AYield.ofRound (pd := none) (fr := FR) (sz := 11) (ps := #[6, 7]) (df := oid Hp.length 1) (asg := as') (bd := bd') hL rfl (by decide) (fun d => ?_)
  subst hFR has hbd
  refine W.keep [3, 6, 7] ?_;refine AW.skip ?_
  refine ⟨rfl, none, hL, ?_⟩
  generalize hbz : (AObj.loop LoopState.busy _ _ _ _ _ _ _) = bz
  have hA : (V.set (oid Hp.length 2) bz)[oid Hp.length 0]? = some (AObj.cells 3 [A2 ((k : Nat))]) := by rw [List.getElem?_set_ne (C1 (by decide))]; exact hA0
  refine AW.block ?_;refine AW.region ?_
  refine R.go (h := Q.loadUp hA) (hr := ?_)
  refine R.go ?_
  refine R.storeUp jS hA ?_ ?_
  ·simp
  refine Z53 ?_
  subst hbz
  refine K.rdN (Tz hL (C1 (by decide))) ?_
  refine ⟨rfl, ?_⟩
  rw [if_pos rfl]
  subst hV
  simp only [List.append_assoc, E5, List.cons_append, List.nil_append, List.set_cons_succ, List.set_cons_zero]
  rfl
 intro r H' hq
 obtain rfl := Zh hq
 refine ⟨Hp, _, _, _, rfl, rfl, fun h => h, ?_, rfl, by simp, ?_⟩
 ·intro o ho
  have : o = oid Hp.length 1 := by simpa using ho
  subst this
  rw [Aw]
  rfl
 refine Z12 ?_;refine Sj ?_;exact K.fin (V.one V.tmp) ⟨by rw [Da], rfl⟩

set_option maxRecDepth 8000
abbrev TK := Int × Str
/-- What stands from word i on. -/
def seg (l : List Tok) (i : Nat) : List TK := (l.drop i).map ktT
theorem J0 (s : Str) : s ∈ levels.flatten ∨ (Aq s = -1 ∧ ∀ l ∈ levels, l.contains s = false) := by
 by_cases h : s ∈ levels.flatten
 ·exact .inl h
 have h2 : ∀ l ∈ levels, l.contains s = false := fun l hl => by
  rw [Bool.eq_false_iff]
  intro h3
  exact h (List.mem_flatten.2 ⟨l, hl, by simpa using h3⟩)
 refine .inr ⟨?_, h2⟩
 unfold Aq
 rw [List.findIdx?_eq_none_iff.2 fun l hl => h2 l hl]
/-- The texts of levels of marks. -/
def ofL (k : Nat) : Str := if k = 0 then orT else if k = 1 then cp else if k = 3 then nk else if k = 4 then cq else R4
theorem jv (s : Str) : -1 ≤ Aq s ∧ Aq s ≤ 5 ∧ Aq s ≠ 2 := by
 rcases J0 s with h | ⟨h, _⟩
 ·have h3 : (levels.flatten.all fun s => decide (-1 ≤ Aq s ∧ Aq s ≤ 5 ∧ Aq s ≠ 2)) = true := by kernel_rfl
  exact of_decide_eq_true (List.all_eq_true.1 h3 s h)
 omega
/-- A row of words behind which no mark of a level, or of a tighter one, stands. -/
def jx (k : Nat) (rest : List TK) : Prop := ∀ h r, rest = h :: r → ((h.1 == 5) || (h.1 == 2)) = true → Aq h.2 < (k : Int) ∧ h.2 ≠ [40]
def d7 : Str := [110, 111, 116]
def levE (e : Expr) : Nat := if e.op == 4 then 2 else if e.op == 3 then 6 else if e.op == 5 then (Aq e.text).toNat else 7
def ny (least : Nat) (x : Expr) (T : List TK) : List TK := if least ≤ levE x then T else (5, [40]) :: (T ++ [(5, [41])])
def nz (least : Nat) (x : Expr) (n : Nat) : Nat := if least ≤ levE x then n else n + 1
def Ez (own : Nat) : Nat := if own = 3 then 4 else own
def ry (v : Val) : TK := if v.kind == 1 then (3, E1 v) else if v.kind == 2 then (4, v.s) else (2, E1 v)
def wd (t : Str) : TK := (if Do (t.headD 0) then 2 else 5, t)
def we : List (List TK) → List TK
 | [] => []
 | T :: r => (5, [44]) :: (T ++ we r)
def wg (o : Int) (t : Str) (v : Val) (k : List Expr) (ts : List (List TK)) : List TK :=
 if o == 1 then [ry v] else if o == 2 then [(1, t)]
 else if o == 3 then (5, [45]) :: ny 6 (k.getD 0 Aa) (ts.getD 0 [])
 else if o == 4 then (2, d7) :: ny 2 (k.getD 0 Aa) (ts.getD 0 [])
 else if o == 5 then ny (Ez (Aq t).toNat) (k.getD 0 Aa) (ts.getD 0 []) ++ wd t :: ny ((Aq t).toNat + 1) (k.getD 1 Aa) (ts.getD 1 [])
 else (1, t) :: (5, [40]) :: ((we ts).drop 1 ++ [(5, [41])])
mutual
def P6 : Expr → List TK
 | .mk o t v k => wg o t v k (qc k)
def qc : List Expr → List (List TK)
  | [] => []
  | e :: r => P6 e :: qc r
 end
def wh : List Nat → Nat
 | [] => 0
 | n :: r => max n (wh r)
def wi (o : Int) (t : Str) (k : List Expr) (ns : List Nat) : Nat :=
 if o == 1 then 0 else if o == 2 then 0
 else if o == 3 then 1 + nz 6 (k.getD 0 Aa) (ns.getD 0 0)
 else if o == 4 then 1 + nz 2 (k.getD 0 Aa) (ns.getD 0 0)
 else if o == 5 then max (nz (Ez (Aq t).toNat) (k.getD 0 Aa) (ns.getD 0 0)) (nz ((Aq t).toNat + 1) (k.getD 1 Aa) (ns.getD 1 0))
 else 1 + wh ns
mutual
def Zi : Expr → Nat
 | .mk o t v k => wi o t k (qd k)
def qd : List Expr → List Nat
  | [] => []
  | e :: r => Zi e :: qd r
 end
theorem o4 {v : Val} (h : H9 v = true) : v = noV := by
 unfold H9 at h
 simp only [Bool.and_eq_true, beq_iff_eq] at h
 cases v
 simp_all [noV]
/-- What a right node is. -/
inductive NodeC : Expr → Prop
 | val (v : Val) (h : D8 v = true) (h0 : 0 ≤ v.n) : NodeC (I7 v)
 | name (t : Str) (h : El t = true) : NodeC (Aj t)
 | neg (a : Expr) : NodeC (Em 3 a)
 | no (a : Expr) : NodeC (Em 4 a)
 | bin (t : Str) (a b : Expr) (h : 0 ≤ Aq t) : NodeC (Gq t a b)
 | call (t : Str) (k : List Expr) (h : Ay t = (k.length : Int)) : NodeC (.mk 6 t noV k)
theorem Y2 (o : Int) (t : Str) (v : Val) (k : List Expr) : E2 (.mk o t v k) =
 if o == 1 then ((D8 v && decide (0 ≤ v.n)) && (t == [])) && ((k.length : Int) == 0)
 else if !(H9 v) then false
 else if o == 2 then El t && ((k.length : Int) == 0)
 else if o == 3 || o == 4 then (t == []) && ((k.length : Int) == 1)
 else if o == 5 then decide (0 ≤ Aq t) && ((k.length : Int) == 2)
 else if o == 6 then Ay t == (k.length : Int)
 else false := rfl
theorem Fg {e : Expr} (h : C2 e = true) : NodeC e := by
 rw [Oy] at h
 cases e with
 | mk o t v k =>
 rw [Y2] at h
 by_cases h1 : (o == 1) = true
 ·rw [if_pos h1] at h
  simp only [Bool.and_eq_true, beq_iff_eq, decide_eq_true_eq] at h h1
  obtain ⟨⟨⟨a1, a2⟩, a3⟩, a4⟩ := h
  subst h1
  subst a3
  have : k = [] := by cases k with | nil => rfl | cons x r => simp at a4; omega
  subst this
  exact .val v a1 a2
 rw [if_neg h1] at h
 by_cases hb : (!(H9 v)) = true
 ·rw [if_pos hb] at h; cases h
 rw [if_neg hb] at h
 have hv : v = noV := o4 (by simpa using hb)
 subst hv
 by_cases h2 : (o == 2) = true
 ·rw [if_pos h2] at h
  simp only [Bool.and_eq_true, beq_iff_eq] at h h2
  subst h2
  have : k = [] := by cases k with | nil => rfl | cons x r => have := h.2; simp at this; omega
  subst this
  exact .name t h.1
 rw [if_neg h2] at h
 by_cases h3 : (o == 3 || o == 4) = true
 ·rw [if_pos h3] at h
  simp only [Bool.and_eq_true, Bool.or_eq_true, beq_iff_eq] at h h3
  obtain ⟨rfl, h4⟩ := h
  match k, h4 with
  | [a], _ =>
   rcases h3 with rfl | rfl
   ·exact .neg a
   exact .no a
  | [], h4 => simp at h4
  | _ :: _ :: _, h4 => simp at h4; omega
 rw [if_neg h3] at h
 by_cases h5 : (o == 5) = true
 ·rw [if_pos h5] at h
  simp only [Bool.and_eq_true, beq_iff_eq, decide_eq_true_eq] at h h5
  subst h5
  match k, h.2 with
  | [a, b], _ => exact .bin t a b h.1
  | [], h4 => simp at h4
  | [_], h4 => simp at h4
  | _ :: _ :: _ :: _, h4 => simp at h4; omega
 rw [if_neg h5] at h
 by_cases h6 : (o == 6) = true
 ·rw [if_pos h6] at h
  simp only [beq_iff_eq] at h h6
  subst h6
  exact .call t k h
 rw [if_neg h6] at h; cases h
/-- The functions of the levels. -/
def pf (l : List Tok) (D : Fam) : Nat → PS → Expr × PS
 | 0 => Nn l D
 | 1 => V9 l D
 | 2 => Nj l D
 | 3 => Dj l D
 | 4 => Cj l D
 | 5 => V8 l D
 | 6 => Ni l D
 | _ => Ea l D
abbrev fam (l : List Tok) (n : Nat) : Fam := Dd l (30 - n)
def adv (S : PS) (n : Nat) : PS := ⟨S.i + n, S.nest, S.code, S.at_⟩
def T1 (l : List Tok) (x : Expr) : Prop := ∀ (k : Nat) (S : PS) (rest : List TK), k ≤ levE x → S.code = 0 → S.nest + Zi x ≤ 30 → seg l S.i = P6 x ++ rest → jx k rest → pf l (fam l S.nest) k S = (x, adv S (P6 x).length)
def T2 (l : List Tok) (x : Expr) : Prop := ∀ (k : Nat) (S : PS) (rest : List TK), (k = 0 ∨ k = 1 ∨ k = 4 ∨ k = 5) → k ≤ levE x → S.code = 0 → S.nest + Zi x ≤ 30 → seg l S.i = P6 x ++ rest → jx (k + 1) rest →
 ∃ n, l.length ≤ S.i + (P6 x).length + n ∧ Dq l (ofL k) (pf l (fam l S.nest) (k + 1)) S = R3 l (ofL k) (pf l (fam l S.nest) (k + 1)) n (x, adv S (P6 x).length)
/-! The parser from a word on, and of a source. -/
def atS (l : List Tok) (i : Nat) (r : Expr × PS) : PS := if r.2.code != 0 then r.2 else if decide ((30 : Int) < depthE r.1) then Ce 18 (A7 l i).at_ r.2 else if decide ((300 : Int) < sizeE r.1) then Ce 3 (A7 l i).at_ r.2 else r.2
def atR (l : List Tok) (i : Nat) : Expr × PS := Nn l (Dd l 30) ⟨i, 0, 0, 0⟩
/-- The tree, the word behind it, the fault. -/
def atM (l : List Tok) (i : Nat) : Expr × Int × Int × Int := if (atS l i (atR l i)).code != 0 then (Aa, 0, (atS l i (atR l i)).code, (atS l i (atR l i)).at_) else ((atR l i).1, ((atS l i (atR l i)).i : Int), 0, 0)
set_option maxRecDepth 4000
theorem P7 {l : List Tok} (hl : TokEnd l) (hll : l.length ≤ 1048576) {i : Nat} (hi : i < l.length) : Fact l ⟨i, 0, 0, 0⟩ (atR l i) := (M7 hl hll 31 0 rfl (by decide)).1 ⟨i, 0, 0, 0⟩ hi rfl
theorem rz {l : List Tok} {i : Nat} (hi : i < l.length) (hl : TokEnd l) (hll : l.length ≤ 1048576) (hcl : ∀ n Dv, n ≤ 30 → DeepC l Dv n → Vi l Dv n) (o : Nat) (Hp : List AObj) (ho : Hp[o]? = some (pr l ⟨i, 0, 0, 0⟩)) : ACall Tryz.prog 219 [.ptr o 0] Hp (fun r H' => r = A3 (atR l i).1 ∧ H' = Hp.set o (pr l (atR l i).2)) := (Vj hl hll hcl 31 0 rfl (by decide)).1 o Hp ⟨i, 0, 0, 0⟩ ho hi rfl
theorem Vk {l : List Tok} (hl : TokEnd l) : (A7 l (l.length - 1)).kind = 0 := by
 obtain ⟨L, z, rfl, hz, _⟩ := hl.split
 unfold A7
 simp [hz]
theorem za (l : List Tok) (i : Nat) (hi : i < l.length) (hl : TokEnd l) (hll : l.length ≤ 500000) (hcl : ∀ n Dv, n ≤ 30 → DeepC l Dv n → Vi l Dv n) (Hp : List AObj) : AFun Tryz.prog 199 [Ys l, A2 (i : Int)] Hp (.tup [A3 (atM l i).1, A2 (atM l i).2.1, .agg [A2 (atM l i).2.2.1, A2 (atM l i).2.2.2]]) := by
 have hmap : (l.map Gn).length = l.length := List.length_map ..
 have hll1 : l.length ≤ 1048576 := by omega
 have hq := P7 hl hll1 hi
 have hlast := Vk hl
 have hpos := hl.pos
 have hqlt := hq.lt
 have hqs := hq.sz
 have hok0 : okE 1048576 (atR l i).1 := Cw (by have := hq.lt; omega) hq.ok
 have hsz0 : sizeE (atR l i).1 ≤ 1048576 := by have := hq.sz; have := hq.lt; omega
 refine ACall.body [.cell 4 45, .tmp 5, .cell 6 60] [0, 1] Tryz.func199 Tryz.ntmps199 (fun d => ?_)
 refine Z29 ?_;refine R.go ?_;refine R.alloc jZ ?_;refine R.fin [0, 1, 4, 6] ?_;refine Z18 ?_;refine Sk ?_;refine Wv ?_
 refine G.go (h := Q.indexAddr ((l.length - 1)) (Gn (A7 l (l.length - 1))) (fun _ => Oo (by omega))) (hr := ?_)
 refine Wu ?_;refine R.fin [0, 1, 4, 6, 26] ?_
 refine W.cond (fun ht26 => ?_) (fun ht26 => ?_)
 ·simp only [Bool.or_eq_true, decide_eq_true_eq, bne_iff_ne, ne_eq] at ht26
  rcases ht26 with (h | h) | h
  ·omega
  ·simp at h; omega
  exact absurd hlast h
 refine Wx ?_;refine R.build (places := #[(0, 1), (1, 1), (2, 1), (3, 2)]) jU (fun w => by simp) jZ ?_;refine R.box ?_;refine R.go ?_;refine R.fin [0, 1, 4, 6, 7] ?_;refine Z0 ?_
 refine R.callOwn (n := 2) (x := pr l (atR l i).2) Tryz.call219 (rz hi hl hll1 hcl (oid Hp.length 2) _ (by rw [Aw]; rfl)) ?_
 refine Z15 ?_;refine R.fin [0, 1, 4, 6, 7, 8] ?_
 refine W.join ⟨81, A4 4 (.ptr (oid Hp.length 0) 0) (A4 6 (.ptr (oid Hp.length 1) 0) (A4 7 (.ptr (oid Hp.length 2) 0) (A4 8 (.ptr (oid Hp.length 3) 0) (fun _ => .any)))), Hp, [.cells 45 [A2 0, A6 [], A2 0, A2 0, A6 [], .nil], .cells 60 [A2 0, A2 0], pr l (atS l i (atR l i)), .cells 45 (Ba (atR l i).1)], [], none⟩ ?_ ?_
 ·refine AW.block ?_;refine Z7 ?_;refine Z72 ?_;refine R.fin [0, 1, 4, 6, 7, 8, 35] ?_
  refine W.cond (fun ht35 => ?_) (fun ht35 => ?_)
  ·have e : atS l i (atR l i) = (atR l i).2 := if_pos ht35
   refine W.keep [4, 6, 7, 8] ?_;refine AW.skip ?_;exact md
  have e0 : ¬ ((atR l i).2.code != 0) = true := by rw [ht35]; simp
  refine Z0 ?_;refine R.call Tryz.call220 (z8 1048576 _ hok0 (Nat.le_refl _) hsz0 _) ?_;refine Z1 ?_;refine R.fin [0, 1, 4, 6, 7, 8, 42] ?_
  refine W.cond (fun ht42 => ?_) (fun ht42 => ?_)
  ·have e : atS l i (atR l i) = Ce 18 (A7 l i).at_ (atR l i).2 := by unfold atS; rw [if_neg e0, if_pos ht42]
   refine Z35 ?_
   refine R.go (h := Q.indexAddr (i) (Gn (A7 l i)) (fun _ => Oo hi)) (hr := ?_)
   refine Z1 ?_
   refine R.callOwn (n := 2) (x := pr l (Ce 18 (A7 l i).at_ (atR l i).2)) Tryz.call221 (cw l (atR l i).2 18 (A7 l i).at_ (oid Hp.length 2) _ (by rw [Aw]; rfl)) ?_
   refine R.fin [4, 6, 7, 8] ?_;exact md
  have e1 : ¬ decide ((30 : Int) < depthE (atR l i).1) = true := by rw [ht42]; simp
  refine Z0 ?_;refine R.call Tryz.call53 (c53 1048576 _ hok0 (Nat.le_refl _) hsz0 _) ?_;refine Z1 ?_;refine R.fin [0, 1, 4, 6, 7, 8, 53] ?_
  refine W.cond (fun ht53 => ?_) (fun ht53 => ?_)
  ·have e : atS l i (atR l i) = Ce 3 (A7 l i).at_ (atR l i).2 := by unfold atS; rw [if_neg e0, if_neg e1, if_pos ht53]
   refine Z35 ?_
   refine R.go (h := Q.indexAddr (i) (Gn (A7 l i)) (fun _ => Oo hi)) (hr := ?_)
   refine Z1 ?_
   refine R.callOwn (n := 2) (x := pr l (Ce 3 (A7 l i).at_ (atR l i).2)) Tryz.call221 (cw l (atR l i).2 3 (A7 l i).at_ (oid Hp.length 2) _ (by rw [Aw]; rfl)) ?_
   refine R.fin [4, 6, 7, 8] ?_;exact md
  have e : atS l i (atR l i) = (atR l i).2 := by unfold atS; rw [if_neg e0, if_neg e1, if_neg (by rw [ht53]; simp)]
  refine W.keep [4, 6, 7, 8] ?_;refine AW.skip ?_;exact md
 refine Z18 ?_;refine Z25 ?_;refine R.fin [4, 6, 7, 8, 69] ?_
 refine W.cond (fun ht69 => ?_) (fun ht69 => ?_)
 ·have e : atM l i = (Aa, 0, (atS l i (atR l i)).code, (atS l i (atR l i)).at_) := if_pos ht69
  refine W.drawY [0, 0, 2, 6, 14, 1, 33, 127] [5] [.q 5 [] [], .s [] (some 0) [] [], .q 1 [0] []] (fun _ => Hp) (fun _ => [.cells 45 [A2 0, A6 [], A2 0, A2 0, A6 [], .nil], .cells 60 [A2 0, A2 0], pr l (atS l i (atR l i)), .cells 45 (Ba (atR l i).1)]) Ad (by kernel_rfl) rfl rfl (fun _ => rfl) ?_
  apply Y.q
  case h1 =>
   intro B hT hF
   refine D.build (places := #[(0, 1), (1, 1), (2, 3), (5, 1)]) jU (fun w => by simp) jZ ?_;exact gg
  case hTF => decide
  refine Y.storeOwn (u := Hp.length) (n := 0) (t' := 45) (cs := [A2 0, A6 [], A2 0, A2 0, A6 [], .nil]) (cs' := [A2 0, A6 [], A2 0, A2 0, A6 [], .nil]) Tryz.sizeOf45 (fun B hB => ⟨rfl, rfl, rfl, rfl⟩) ?_
  apply Y.q
  case h1 =>
   intro B hT hF
   exact Z68
  case hTF => decide
  refine Y.tail (tn := [5])  ?_;refine R.nilCell 0 5 6 ?_;refine Fa ?_;refine R.fin [4, 5, 6] ?_;refine Z23 ?_;exact K.fin (V.three (V.cellN jA jS) V.tmp (V.cellN jA jS)) ⟨by rw [e, jp] <;> rfl, rfl⟩
 have e : atM l i = ((atR l i).1, ((atS l i (atR l i)).i : Int), 0, 0) := if_neg (by rw [ht69]; simp)
 refine Z6 ?_;refine W.drawY [0, 0, 2, 6, 14, 0, 1, 95, 255] [6] [.q 6 [] [], .s [] (some 0) [] [], .q 1 [0] []] (fun _ => Hp) (fun B => [.cells 45 (if B 0 = true then Ba (atR l i).1 else [A2 0, A6 [], A2 0, A2 0, A6 [], .nil]), .cells 60 [A2 0, A2 0], pr l (atS l i (atR l i)), .cells 45 (Ba (atR l i).1)]) Ad (by kernel_rfl) rfl rfl (fun _ => rfl) ?_
 apply Y.q
 case h1 =>
  intro B hT hF
  refine U8 ?_;exact u7
 case hTF => decide
 refine Y.storeOwn (u := Hp.length) (n := 0) (t' := 45) (cs := [A2 0, A6 [], A2 0, A2 0, A6 [], .nil]) (cs' := Ba (atR l i).1) Tryz.sizeOf45 (fun B hB => ⟨rfl, by simp only [hB]; rfl, by simp [upd], rfl⟩) ?_
 apply Y.q
 case h1 =>
  intro B hT hF
  exact Z68
 case hTF => decide
 refine Y.tail (tn := [6]) (O := [.cells 45 (Ba (atR l i).1), .cells 60 [A2 0, A2 0], pr l (atS l i (atR l i)), .cells 45 (Ba (atR l i).1)]) ?_;refine Fa ?_;refine R.fin [4, 5, 6] ?_;refine AW.ret ?_;exact K.fin (V.three (V.cellN jA jS) V.tmp (V.cellN jA jS)) ⟨by rw [e, A8] <;> rfl, rfl⟩ (hlow := by have := low_agg (n := Hp.length) (atR l i).1; simp at this ⊢; exact this)

theorem o5 {s : Str} (h : (E7 s).2.1 = 0) : (E7 s).1.length ≤ 4002 := by
 obtain ⟨h1, _, h3⟩ := nb h
 have h2 := Oj s
 rw [h3]
 simp only [List.length_append, List.length_map, List.length_cons, List.length_nil]
 omega
theorem o6 {l : List Tok} (hl : TokEnd l) (hll : l.length ≤ 1048576) {i : Nat} (hi : i < l.length) (h : (atM l i).2.2.1 = 0) : ∃ k : Nat, (atM l i).2.1 = (k : Int) ∧ k < l.length := by
 have hq := P7 hl hll hi
 unfold atM at h ⊢
 split at h
 ·rename_i h1
  have : (atS l i (atR l i)).code = 0 := h
  rw [this] at h1
  cases h1
 rename_i h1
 rw [if_neg h1]
 refine ⟨(atS l i (atR l i)).i, rfl, ?_⟩
 have e : (atS l i (atR l i)).i = (atR l i).2.i := by
  unfold atS
  repeat' split
  all_goals first | rfl | exact failM_i.1
 rw [e]
 exact hq.lt
theorem Q9 {α : Type} {a b : List α} (hl : a.length = b.length) (h : ∀ (j : Nat) (y : α), j < a.length → a[j]? = some y → b[j]? = some y) : a = b := by
 apply List.ext_getElem hl
 intro j h1 h2
 have := h j a[j] h1 (List.getElem?_eq_getElem h1)
 rw [List.getElem?_eq_getElem h2] at this
 injection this with this
 exact this.symm
theorem Bb {n k : Nat} {o : Bool} {l : List Expr} : Low n (.slice o k (l.map A3)) := low_slice.2 fun y hy => by
 obtain ⟨a, _, rfl⟩ := List.mem_map.1 hy
 exact Ab _ a
theorem Rb {l : List Expr} (h : 0 < l.length) : Cq l = l[0] :: Cq (l[0].kids ++ l.drop 1) ∧ Ah l = 1 + Ah (l[0].kids ++ l.drop 1) ∧ l[0].kids.length ≤ Ah l := by
 cases l with
 | nil => simp at h
 | cons e r =>
  refine ⟨?_, ?_, ?_⟩
  ·show Fx e ++ Cq r = e :: Cq (e.kids ++ r)
   rw [Qx, Js]
   rfl
  ·show sizeE e + Ah r = 1 + Ah (e.kids ++ r)
   rw [Ev, Gc]
   omega
  show e.kids.length ≤ sizeE e + Ah r
  have := Hr e.kids
  rw [Ev]
  omega
theorem Rc (l : List Expr) : l.length ≤ Ah l := by have := Hr l; omega
structure NamesAt (e : Expr) (x : List Expr × List Str) : Prop where
 eq : Ax e = (Cq x.1).foldl Db x.2
 bd : x.2.length + Ah x.1 ≤ 1048576
theorem NamesAt.on {e : Expr} {x : List Expr × List Str} (h : NamesAt e x) (h0 : 0 < x.1.length) : NamesAt e (x.1[0].kids ++ x.1.drop 1, Db x.2 x.1[0]) := by
 obtain ⟨a, b, _⟩ := Rb h0
 refine ⟨?_, ?_⟩
 ·rw [h.eq, a, List.foldl_cons]
 have := h.bd
 have := Yw x.2 x.1[0]
 show (Db x.2 x.1[0]).length + Ah (x.1[0].kids ++ x.1.drop 1) ≤ _
 omega
theorem L6 (l : List Str) (s : Str) : (l.any fun w => w == s) = l.contains s := by
 rw [Bool.eq_iff_iff, List.any_eq_true, List.contains_iff_mem]
 constructor
 ·rintro ⟨w, hw, h⟩
  rw [beq_iff_eq] at h
  subst h
  exact hw
 exact fun h => ⟨s, h, by simp⟩
theorem d8 {l : List Str} {z : Nat} (h : z < l.length) (s : Str) : ((l.take (z + 1)).any fun w => w == s) = (((l.take z).any fun w => w == s) || (l[z] == s)) := by
 rw [List.take_succ_eq_append_getElem h, List.any_append]
 simp
theorem c49 (e : Expr) (hs : sizeE e ≤ 1048576) (Hp : List AObj) : AFun Tryz.prog 49 [A3 e] Hp (Dg (Ax e)) := by
 refine ACall.body [.tmp 2] [0] Tryz.func49 Tryz.ntmps49 (fun d => ?_)
 refine Z64 ?_;refine Cs ?_;refine g0 ?_;refine R.fin [1, 3] ?_;refine Z0 ?_;refine g0 ?_;refine R.fin [3, 4] ?_;refine W.seq ?_
 refine AW.loopC (α := List Expr × List Str) (fun x => ⟨51, A4 3 (.slice true 1 (x.2.map A6)) (A4 4 (.slice true 6 (x.1.map A3)) (fun _ => .any)), Hp, [], [], none⟩) (fun x => NamesAt e x) (fun x => Ah x.1) (([e], [])) ⟨by unfold Ax; simp [Cq], by simp [Ah]; exact hs⟩ (StLe.of_eq (by simp [A8])) rfl (fun x hx => ?_)
 refine Z18 ?_;refine R.fin [3, 4, 13] ?_
 refine W.cond (fun ht13 => ?_) (fun ht13 => ?_)
 ·have hlt : 0 < x.1.length := by simpa using ht13
  have hpop := Rb hlt
  have hon := hx.on hlt
  have em : List.map A3 x.1[0].kids ++ List.drop 1 (List.map A3 x.1) = List.map A3 (x.1[0].kids ++ x.1.drop 1) := by rw [List.map_append, List.map_drop]
  refine gt ?_;refine Z0 ?_
  refine R.go (h := Q.indexAddr (0) (A3 x.1[0]) (fun _ => Ak hlt)) (hr := ?_)
  refine Nf ?_;refine R.fin [3, 4, 5] ?_;refine W.drawY [0, 0, 2, 7, 0, 16, 63, 127] [] [.s [17] none [] [], .q 2 [] [], .s [17, 20] none [] [], .q 2 [] []] (fun _ => Hp) (fun _ => [.cells 45 (Ba x.1[0])]) Ad (by kernel_rfl) rfl rfl (fun _ => rfl) ?_;refine Y.buildSlice jU Tryz.sizeOf45 Tryz.zeroValue45 ?_
  apply Y.q
  case h1 =>
   intro B hT hF
   exact Z66
  case hTF => decide
  refine Y.append jU Tryz.type45 ?_ ?_ ?_
  ·have := hpop.2.2; have := hx.bd; simp [Tryz.t45]; omega
  ·have := hpop.2.2; have := hx.bd; simp [Tryz.t45]; omega
  apply Y.q
  case h1 =>
   intro B hT hF
   refine D.go ?_
   refine D.go (h := Q.cutL 1 (fun _ => show 1 ≤ (x.1.map A3).length by rw [List.length_map]; exact hlt) (fun _ => Nat.le_refl _)) (hr := ?_)
   exact Sm
  case hTF => decide
  refine Y.tail (tn := [])  ?_
  refine R.append jU Tryz.type45 ?_ ?_ ?_
  ·have := hpop.2.2; have := hx.bd; have := Rc x.1; simp [Tryz.t45]; omega
  ·have := hpop.2.2; have := hx.bd; have := Rc x.1; simp [Tryz.t45]; omega
  refine R.assignT ?_;refine R.fin [3, 4, 5] ?_;refine Z18 ?_;refine R.fin [3, 4, 5, 26] ?_
  refine W.cond (fun ht26 => ?_) (fun ht26 => ?_)
  ·have hadd : Db x.2 x.1[0] = x.2 := if_neg (by have := ht26; simp at this; simp [this])
   rw [hadd] at hon
   refine W.keep [3, 4] ?_;refine Z37 ?_;refine K.blE ?_
   refine K.lpN (x.1[0].kids ++ x.1.drop 1, x.2) hon (by have := hpop.2.1; show Ah (x.1[0].kids ++ x.1.drop 1) < Ah x.1; omega) ?_
   simp only [show Tryz.t45.size = 6 from rfl, em]
   exact StCut.take (own := []) (fun _ => .refl _) (by repeat (first | exact Ap | refine Ao (by first | exact Bb | exact Hb | exact M5 | (rw [← List.map_append]; exact Bb)) ?_)) (by simp) (by simp)
  have hop : (x.1[0].op == 2) = true := by simpa using ht26
  refine O2 ?_;refine R.fin [3, 4, 5, 6] ?_;refine Z34 ?_;refine R.fin [3, 4, 5, 6, 7] ?_
  refine AW.loopC (α := Nat) (fun z => ⟨51, A4 3 (.slice true 1 (x.2.map A6)) (A4 4 (.slice true 6 ((x.1[0].kids ++ x.1.drop 1).map A3)) (A4 5 (.ptr (oid Hp.length 0) 0) (A4 6 (An ((x.2.take z).any fun w => w == x.1[0].text)) (A4 7 (A2 (z : Nat)) (fun _ => .any))))), Hp, [.cells 45 (Ba x.1[0])], [], none⟩) (fun z => z ≤ x.2.length) (fun z => x.2.length - z) (0) (Nat.zero_le _) (StLe.of_eq (by simp [List.map_append, List.map_drop] <;> rfl)) rfl (fun z hz => ?_)
  refine Z46 ?_;refine R.fin [3, 4, 5, 6, 7, 30] ?_
  refine W.cond (fun ht30 => ?_) (fun ht30 => ?_)
  ·have hlz : z < x.2.length := by simpa using ht30
   have hbd := hx.bd
   refine Z62 ?_;refine W.drawQ0 [0, 1, 3, 3, 15, 31, 3, 67, 255, 511, 1023] 8 Ad (by kernel_rfl) ?_;refine Z17 ?_;refine Z99 ?_
   refine H.go (h := Q.indexAddr (z) (A6 x.2[z]) (fun _ => Ak hlz)) (hr := ?_)
   refine Z99 ?_;refine H.go ?_;refine D.tail ?_;refine G.go ?_;refine Z1 ?_;refine R.fin [3, 4, 5, 6, 7] ?_;refine Px ?_;refine R.fin [3, 4, 5, 6, 7] ?_
   refine K.lpN (z + 1) hlz (by omega) (StCut.of_eq ?_)
   rw [d8 hlz]
   rfl
  have hze : x.2.take z = x.2 := List.take_of_length_le (by simp at ht30; omega)
  refine Z59 ?_;refine Z4 ?_;refine R.fin [3, 4, 5, 44] ?_
  refine W.cond (fun ht44 => ?_) (fun ht44 => ?_)
  ·have hadd : Db x.2 x.1[0] = x.2 ++ [x.1[0].text] := if_pos (by rw [hop]; rw [hze, L6] at ht44; simpa using ht44)
   rw [hadd] at hon
   refine bf ?_;refine Z1 ?_;refine I6 ?_
   refine R.append jU Tryz.type9 ?_ ?_ ?_
   ·have := hx.bd; simp [Tryz.t9]; omega
   ·have := hx.bd; simp [Tryz.t9]; omega
   refine R.assignT ?_;refine R.fin [3, 4] ?_;refine K.blN ?_
   first | refine K.lpN (x.1[0].kids ++ x.1.drop 1, x.2 ++ [x.1[0].text]) hon (by have := hpop.2.1; show Ah (x.1[0].kids ++ x.1.drop 1) < Ah x.1; omega) ?_ | refine K.lpN (x.1[0].kids ++ x.1.drop 1, x.2) hon (by have := hpop.2.1; show Ah (x.1[0].kids ++ x.1.drop 1) < Ah x.1; omega) ?_
   try simp only [show Tryz.t9.size = 1 from rfl, List.map_append, List.map_cons, List.map_nil]
   exact StCut.take (own := []) (fun _ => .refl _) (by repeat (first | exact Ap | refine Ao (by first | exact Bb | exact Hb | exact M5 | (rw [← List.map_append]; exact Bb)) ?_)) (by simp) (by simp)
  have hadd : Db x.2 x.1[0] = x.2 := if_neg (by rw [hop]; rw [hze, L6] at ht44; simp at ht44; simp [ht44])
  rw [hadd] at hon
  refine W.keep [3, 4] ?_;refine AW.skip ?_;refine K.blN ?_
  first | refine K.lpN (x.1[0].kids ++ x.1.drop 1, x.2 ++ [x.1[0].text]) hon (by have := hpop.2.1; show Ah (x.1[0].kids ++ x.1.drop 1) < Ah x.1; omega) ?_ | refine K.lpN (x.1[0].kids ++ x.1.drop 1, x.2) hon (by have := hpop.2.1; show Ah (x.1[0].kids ++ x.1.drop 1) < Ah x.1; omega) ?_
  try simp only [show Tryz.t9.size = 1 from rfl, List.map_append, List.map_cons, List.map_nil]
  exact StCut.take (own := []) (fun _ => .refl _) (by repeat (first | exact Ap | refine Ao (by first | exact Bb | exact Hb | exact M5 | (rw [← List.map_append]; exact Bb)) ?_)) (by simp) (by simp)
 have hnil : x.1 = [] := by have := ht13; simp at this; exact this
 refine Z59 ?_;refine Sj ?_;exact K.fin (V.one V.tmp) ⟨by rw [hx.eq, hnil]; rfl, rfl⟩

theorem d9 {l : List Expr} {n f : Nat} (h0 : l.isEmpty = false) (h : Jt l n = true) : Ee f l n = true := by
 cases f with
 | zero => rw [Ee, h0]; rfl
 | succ f => rw [Ee, if_neg (by rw [h0]; simp), if_pos h]
theorem o7 {l : List Expr} {n y : Nat} (hy : y < l.length) (h : 500 < n + y + 1 ∨ M3 l[y] = true) : Jt l n = true := by
 unfold Jt
 rcases h with h | h
 ·rw [decide_eq_true (by omega)]; rfl
 rw [List.any_eq_true.2 ⟨_, List.getElem_mem hy, h⟩, Bool.or_true]
theorem P8 {l : List Expr} : ∀ (y : Nat), y ≤ l.length → (∀ (j : Nat) (e : Expr), j < y → l[j]? = some e → M3 e = false) → ((l.take y).flatMap Expr.kids).length ≤ 100 * y
 | 0, _, _ => by simp
 | y + 1, hy, h => by
  rw [List.take_succ_eq_append_getElem hy, List.flatMap_append, List.length_append]
  have h1 := P8 y (by omega) (fun j e hj he => h j e (by omega) he)
  have h2 := T0 (h y l[y] (by omega) (List.getElem?_eq_getElem _))
  simp only [List.flatMap_cons, List.flatMap_nil, List.append_nil]
  omega
structure WideAt (l0 : List Expr) (x : List Expr × Nat × Nat) : Prop where
 eq : Ee 61 l0 0 = Ee x.2.2 x.1 x.2.1
 f : x.2.2 ≤ 61
 n : x.2.1 ≤ 500
theorem c43 (l0 : List Expr) (Hp : List AObj) : AFun Tryz.prog 43 [.slice false 6 (l0.map A3), A2 0] Hp (An (Ee 61 l0 0)) := by
 refine ACall.body [.tmp 4] [0, 1] Tryz.func43 Tryz.ntmps43 (fun d => ?_)
 refine Z54 ?_;refine Z0 ?_;refine R.fin [0, 1, 5] ?_;refine W.seq ?_
 refine AW.loopC (α := List Expr × Nat × Nat) (fun x => ⟨67, A4 0 (.slice false 6 (x.1.map A3)) (A4 1 (A2 (61 - (x.2.2 : Int))) (A4 5 (A2 (x.2.1 : Nat)) (fun _ => .any))), Hp, [], [], none⟩) (fun x => WideAt l0 x) (fun x => x.2.2) ((l0, 0, 61)) ⟨rfl, Nat.le_refl _, Nat.zero_le _⟩ (StLe.of_eq (by simp)) rfl (fun x hx => ?_)
 refine Z18 ?_;refine R.fin [0, 1, 5, 10] ?_
 refine W.cond (fun ht10 => ?_) (fun ht10 => ?_)
 ·have hpos : 0 < x.1.length := by simpa using ht10
  have hne : x.1.isEmpty = false := by cases hxx : x.1 with
   | nil => rw [hxx] at hpos; simp at hpos
   | cons a r => rfl
  have hxf := hx.f
  refine gt ?_;refine Cs ?_;refine g0 ?_;refine R.fin [0, 1, 5, 6] ?_;refine Z34 ?_;refine R.fin [0, 1, 5, 6, 7] ?_
  refine AW.loopC (α := Nat) (fun y => ⟨67, A4 0 (.slice false 6 (x.1.map A3)) (A4 1 (A2 (61 - (x.2.2 : Int))) (A4 5 (A2 ((x.2.1 + y : Nat) : Int)) (A4 6 (.slice true 6 (((x.1.take y).flatMap Expr.kids).map A3)) (A4 7 (A2 (y : Nat)) (fun _ => .any))))), Hp, [], [], none⟩) (fun y => y ≤ x.1.length ∧ x.2.1 + y ≤ 500 ∧ ∀ (j : Nat) (e : Expr), j < y → x.1[j]? = some e → M3 e = false) (fun y => x.1.length - y) (0) ⟨Nat.zero_le _, hx.n, fun j e h => by omega⟩ (StLe.of_eq (by simp)) rfl (fun y hy => ?_)
  refine Z46 ?_;refine R.fin [0, 1, 5, 6, 7, 15] ?_
  refine W.cond (fun ht15 => ?_) (fun ht15 => ?_)
  ·have hlt : y < x.1.length := by simpa using ht15
   have hyn := hy.2.1
   refine Z62 ?_;refine Z7 ?_;refine R.fin [0, 1, 5, 6, 7] ?_;refine Z18 ?_;refine Z9 ?_
   refine G.go (h := Q.indexAddr (y) (A3 x.1[y]) (fun _ => Ak hlt)) (hr := ?_)
   refine Sk ?_;refine Z36 ?_
   refine G.go (h := Q.indexAddr (y) (A3 x.1[y]) (fun _ => Ak hlt)) (hr := ?_)
   refine Z9 ?_;refine Z58 ?_;refine Z36 ?_
   refine G.go (h := Q.indexAddr (y) (A3 x.1[y]) (fun _ => Ak hlt)) (hr := ?_)
   refine Z9 ?_;refine Lo ?_;refine R.fin [0, 1, 5, 6, 7, 49] ?_
   refine W.cond (fun ht49 => ?_) (fun ht49 => ?_)
   ·have hm : Jt x.1 x.2.1 = true := o7 hlt (by
     simp only [Bool.or_eq_true, decide_eq_true_eq, List.length_map] at ht49
     unfold M3
     simp only [Bool.or_eq_true, decide_eq_true_eq]
     omega)
    have hw := d9 (f := x.2.2) hne hm
    refine Z0 ?_;refine gm ?_;refine Z42 ?_;refine K.blR ?_;exact uk
   have hfat : M3 x.1[y] = false ∧ x.2.1 + y + 1 ≤ 500 := by
    simp only [Bool.or_eq_false_iff, decide_eq_false_iff_not, List.length_map] at ht49
    unfold M3
    simp only [Bool.or_eq_false_iff, decide_eq_false_iff_not]
    omega
   have hkl := (T0 hfat.1).2.2
   have hfm : (x.1.take (y + 1)).flatMap Expr.kids = (x.1.take y).flatMap Expr.kids ++ x.1[y].kids := by rw [List.take_succ_eq_append_getElem hlt, List.flatMap_append]; simp
   refine Z6 ?_;refine bf ?_;refine Z1 ?_
   refine R.go (h := Q.indexAddr (y) (A3 x.1[y]) (fun _ => Ak hlt)) (hr := ?_)
   refine Z1 ?_
   refine R.append jU Tryz.type45 ?_ ?_ ?_
   ·have h1 := P8 y hy.1 hy.2.2; have h2 := hkl; have h3 := hy.2.1; simp only [List.length_map, Tryz.t45]; omega
   ·have h1 := P8 y hy.1 hy.2.2; have h2 := hkl; have h3 := hy.2.1; simp only [List.length_map, Tryz.t45]; omega
   refine R.assignT ?_;refine R.fin [0, 1, 5, 6, 7] ?_;refine Px ?_;refine R.fin [0, 1, 5, 6, 7] ?_
   refine K.lpN (y + 1) ⟨hlt, by omega, Bk hlt hy.2.2 hfat.1⟩ (by omega) (StCut.of_eq ?_)
   rw [hfm, List.map_append]
   rfl
  have hye : x.1.take y = x.1 := List.take_of_length_le (by simp at ht15; omega)
  have hyl : y = x.1.length := by have := hy.1; simp at ht15; omega
  have hmany : Jt x.1 x.2.1 = false := by
   unfold Jt
   rw [decide_eq_false (by have := hy.2.1; omega), Bool.false_or, List.any_eq_false]
   intro e he
   obtain ⟨j, hj⟩ := List.getElem?_of_mem he
   rw [hy.2.2 j e (by have := (List.getElem?_eq_some_iff.1 hj).1; omega) hj]
   simp
  refine Z59 ?_;refine Z46 ?_;refine Lo ?_;refine R.fin [1, 5, 6, 63] ?_
  refine W.cond (fun ht63 => ?_) (fun ht63 => ?_)
  ·have hw : Ee x.2.2 x.1 x.2.1 = true := by
    have h9 := ht63
    rw [hye] at h9
    simp only [Bool.or_eq_true, decide_eq_true_eq, List.length_map] at h9
    cases hf : x.2.2 with
    | zero => rw [Ee, hne]; rfl
    | succ f =>
     rw [Ee, if_neg (by rw [hne]; simp), if_neg (by rw [hmany]; simp), if_pos (by rw [decide_eq_true_eq]; omega)]
   refine Z0 ?_;refine gm ?_;refine K.blR ?_;exact uk
  have h9 := ht63
  rw [hye] at h9
  simp only [Bool.or_eq_false_iff, decide_eq_false_iff_not, List.length_map] at h9
  obtain ⟨f, hf⟩ : ∃ f, x.2.2 = f + 1 := ⟨x.2.2 - 1, by omega⟩
  have hw : Ee x.2.2 x.1 x.2.1 = Ee f (x.1.flatMap Expr.kids) (x.2.1 + x.1.length) := by
   rw [hf, Ee, if_neg (by rw [hne]; simp), if_neg (by rw [hmany]; simp), if_neg (by rw [decide_eq_true_eq]; omega)]
  refine Wx ?_;refine R.fin [0, 1, 5] ?_;refine Z35 ?_;refine R.fin [0, 1, 5] ?_;refine K.blN ?_
  refine K.lpN (x.1.flatMap Expr.kids, x.2.1 + x.1.length, f) ⟨hx.eq.trans hw, by show f ≤ 61; omega, by show x.2.1 + x.1.length ≤ 500; have := hy.2.1; omega⟩ (by show f < x.2.2; omega) (StCut.of_eq ?_)
  rw [hye, hyl]
  congr 4
  simp only [AV.v.injEq, Value.int.injEq, true_and]
  omega
 have hnil : x.1 = [] := by have := ht10; simp at this; exact this
 refine Z59 ?_;refine Z0 ?_;refine Z26 ?_;exact K.fin (V.one V.tmp) ⟨by rw [hx.eq, hnil]; cases x.2.2 <;> rfl, rfl⟩

theorem c21 (e : Expr) (Hp : List AObj) : AFun Tryz.prog 21 [A3 e] Hp (An (Ix e)) := by
 refine ACall.body [.tmp 2] [0] Tryz.func21 Tryz.ntmps21 (fun d => ?_)
 refine Ww ?_;refine I6 ?_;refine R.call Tryz.call43 (c43 [e] _) ?_;exact gc

theorem Vl {a b : List Expr} (hl : a.length = b.length) (h : ∀ (j : Nat) (y z : Expr), j < a.length → a[j]? = some y → b[j]? = some z → eqE y z = true) : eqL a b = true := by
 rw [L1]
 refine Q9 hl fun j y hj hy => ?_
 have hjb : j < b.length := by omega
 have := h j y b[j] hj hy (List.getElem?_eq_getElem hjb)
 rw [List.getElem?_eq_getElem hjb, (Sy _ _).1 this]
theorem s6 {a b : List Expr} (h : eqL a b = true) {j : Nat} (hj : j < a.length) (hb : j < b.length) : eqE a[j] b[j] = true := by
 have e := (L1 _ _).1 h
 subst e
 exact V1 _
theorem jy {a b : List Expr} {j : Nat} (hj : j < a.length) (hb : j < b.length) (h : eqE a[j] b[j] = false) : eqL a b = false := by
 rw [Bool.eq_false_iff]
 intro h2
 rw [s6 h2 hj hb] at h
 cases h
theorem Zj {a b : List Expr} (h : a.length ≠ b.length) : eqL a b = false := by
 rw [Bool.eq_false_iff]
 exact fun h2 => h (n9 h2)
theorem qe {a b : List Expr} {x : Nat} (hx : x < a.length) (hb : x < b.length) (h : ∀ (j : Nat) (y z : Expr), j < x → a[j]? = some y → b[j]? = some z → eqE y z = true) (he : eqE a[x] b[x] = true) : ∀ (j : Nat) (y z : Expr), j < x + 1 → a[j]? = some y → b[j]? = some z → eqE y z = true := by
 intro j y z hj h1 h2
 rcases Nat.lt_or_ge j x with h3 | h3
 ·exact h j y z h3 h1 h2
 have : j = x := by omega
 subst this
 rw [List.getElem?_eq_getElem hx] at h1
 rw [List.getElem?_eq_getElem hb] at h2
 injection h1 with h1
 injection h2 with h2
 rw [← h1, ← h2]
 exact he
def Vm (x y : Expr) : Bool := ((x.op == y.op) && (x.text == y.text)) && ((x.val.kind == y.val.kind && x.val.n == y.val.n) && x.val.s == y.val.s)
theorem T6 (x y : Expr) : eqE x y = (Vm x y && eqL x.kids y.kids) := j8 x y
theorem c25 : ∀ (n : Nat) (x : Expr), okE n x → ∀ (y : Expr) (Hp : List AObj), AFun Tryz.prog 25 [A3 x, A3 y] Hp (An (eqE x y)) := by
 intro n
 induction n with
 | zero => exact fun x h => h.elim
 | succ n ih =>
 intro x hok y Hp
 refine ACall.body [.tmp 4] [0, 1] Tryz.func25 Tryz.ntmps25 (fun d => ?_)
 refine Z7 ?_;refine Et ?_;refine Z18 ?_;refine Z25 ?_;refine Z9 ?_;refine Z58 ?_;refine Wv ?_
 refine G.go (h := Q.neqAgg i8 (fun w => Kw x.val.kind x.val.n y.val.kind y.val.n x.val.s y.val.s w)) (hr := ?_)
 refine Wv ?_;refine Wu ?_;refine R.fin [2, 3, 33] ?_
 refine W.cond (fun ht33 => ?_) (fun ht33 => ?_)
 ·have hf : eqE x y = false := by
   rw [T6]
   simp only [Bool.or_eq_true, bne_iff_ne, ne_eq, List.length_map, Bool.not_eq_true'] at ht33
   by_cases hh : Vm x y = true
   ·rw [hh, Bool.true_and]
    refine Zj ?_
    unfold Vm at hh
    simp only [Bool.and_eq_true, beq_iff_eq] at hh
    obtain ⟨⟨h1, h2⟩, ⟨h3, h4⟩, h5⟩ := hh
    rcases ht33 with ((h | h) | h) | h
    ·exact absurd h1 h
    ·simp [h2] at h
    ·simp [h3, h4, h5] at h
    intro e; exact h (by rw [e])
   rw [Bool.not_eq_true] at hh
   rw [hh, Bool.false_and]
  refine Z0 ?_;refine gm ?_;exact r8
 have hh : Vm x y = true ∧ x.kids.length = y.kids.length := by
  simp only [Bool.or_eq_false_iff, bne_eq_false_iff_eq, List.length_map, Bool.not_eq_false'] at ht33
  obtain ⟨⟨⟨h1, h2⟩, h3⟩, h4⟩ := ht33
  unfold Vm
  refine ⟨?_, by omega⟩
  simp only [beq_iff_eq, Bool.and_eq_true] at h1 h2 h3 ⊢
  exact ⟨⟨h1, h2⟩, h3⟩
 obtain ⟨hh, hlen⟩ := hh
 have hkl := hok.2.1
 refine Uc ?_;refine R.fin [2, 3, 5] ?_
 refine AW.loopC (α := Nat) (fun i => ⟨53, A4 2 (.ro (Ba x)) (A4 3 (.ro (Ba y)) (A4 5 (A2 (i : Nat)) (fun _ => .any))), Hp, [], [], none⟩) (fun i => i ≤ x.kids.length ∧ ∀ (j : Nat) (a b : Expr), j < i → x.kids[j]? = some a → y.kids[j]? = some b → eqE a b = true) (fun i => x.kids.length - i) (0) ⟨Nat.zero_le _, fun j a b h => by omega⟩ (StLe.refl _) rfl (fun i hi => ?_)
 refine Z18 ?_;refine Z1 ?_;refine R.fin [2, 3, 5, 38] ?_
 refine W.cond (fun ht38 => ?_) (fun ht38 => ?_)
 ·have hlt : i < x.kids.length := by simpa using ht38
  have hly : i < y.kids.length := by omega
  refine Z62 ?_;refine W.drawQ [0, 1, 0, 7, 15, 0, 32, 0, 224, 480, 1023, 2047] 10 Ad (by kernel_rfl) ?_;refine Z56 ?_
  refine D.go (h := Q.indexAddr (i) (A3 x.kids[i]) (fun _ => Ak hlt)) (hr := ?_)
  refine bo ?_
  refine D.go (h := Q.indexAddr (i) (A3 y.kids[i]) (fun _ => Ak hly)) (hr := ?_)
  refine gu ?_;refine R.call Tryz.call25 (ih x.kids[i] (hok.2.2 _ (List.getElem_mem hlt)) y.kids[i] _) ?_;refine R.go ?_;refine R.fin [2, 3, 5, 52] ?_
  refine W.cond (fun ht52 => ?_) (fun ht52 => ?_)
  ·have hf : eqE x y = false := by rw [T6, jy hlt hly (by simpa using ht52), Bool.and_false]
   refine Z0 ?_;refine Z26 ?_;exact uq
  have he : eqE x.kids[i] y.kids[i] = true := by simpa using ht52
  refine Z96 ?_;refine R.fin [2, 3, 5] ?_;exact K.lpN (i + 1) ⟨hlt, qe hlt hly hi.2 he⟩ (by omega) (StCut.of_eq rfl)
 have hxe : x.kids.length ≤ i := by simpa using ht38
 refine Z59 ?_;refine Z0 ?_;refine Z26 ?_;exact K.fin (V.one V.tmp) ⟨by rw [T6, hh, Vl hlen (fun j a b hj => hi.2 j a b (by omega))]; rfl, rfl⟩

theorem zb (n : Nat) (a b : List Expr) (ha : a.length ≤ 1048576) (hok : ∀ y ∈ a, okE n y) (ih : ∀ (x : Expr), okE n x → ∀ (y : Expr) (Hp : List AObj), AFun Tryz.prog 129 [A3 x, A3 y] Hp (An (eqE x y))) (Hp : List AObj) : AFun Tryz.prog 164 [.slice false 6 (a.map A3), .slice false 6 (b.map A3), .fn (.func 129) [] []] Hp (An (eqL a b)) := by
 refine ACall.body [.tmp 6] [0, 1, 2] Tryz.func164 Tryz.ntmps164 (fun d => ?_)
 refine Z0 ?_;refine R.fin [0, 1, 2] ?_;refine Z18 ?_;refine Z1 ?_;refine R.fin [0, 1, 2, 14] ?_
 refine W.cond (fun ht14 => ?_) (fun ht14 => ?_)
 ·have hf : eqL a b = false := Zj (by have := ht14; simp at this; omega)
  refine Z0 ?_;refine U3 ?_;exact r8
 have hlen : a.length = b.length := by have := ht14; simp at this; omega
 refine Z6 ?_;refine Z18 ?_;refine R.fin [1, 2, 15, 16, 17] ?_
 refine AW.loopC (α := Nat) (fun i => ⟨32, A4 1 (.slice false 6 (b.map A3)) (A4 2 (.fn (.func 129) [] []) (A4 15 (.slice false 6 (a.map A3)) (A4 16 (A2 (a.length : Nat)) (A4 17 (A2 (i : Nat)) (fun _ => .any))))), Hp, [], [], none⟩) (fun i => i ≤ a.length ∧ ∀ (j : Nat) (y z : Expr), j < i → a[j]? = some y → b[j]? = some z → eqE y z = true) (fun i => a.length - i) (0) ⟨Nat.zero_le _, fun j y z h => by omega⟩ (StLe.of_eq (by simp)) rfl (fun i hi => ?_)
 refine Z0 ?_;refine R.fin [1, 2, 15, 16, 17, 18] ?_
 refine W.condX (fun ht18 => ?_) (fun ht18 => ?_)
 ·have hlt : i < a.length := by simpa using ht18
  have hlb : i < b.length := by omega
  refine Nh ?_
  refine R.go (h := Q.indexAddr (i) (A3 a[i]) (fun _ => Ak hlt)) (hr := ?_)
  refine bh ?_;refine R.fin [1, 2, 7, 8, 15, 16, 17] ?_;refine Z4 ?_
  refine R.go (h := Q.indexAddr (i) (A3 b[i]) (fun _ => Ak hlb)) (hr := ?_)
  refine Nf ?_;refine R.fin [1, 2, 8, 9, 15, 16, 17] ?_;refine Z7 ?_;refine R.callV Tryz.call129 (ih a[i] (hok _ (List.getElem_mem hlt)) b[i] _) ?_;refine R.go ?_;refine R.fin [1, 2, 15, 16, 17, 30] ?_
  refine W.cond (fun ht30 => ?_) (fun ht30 => ?_)
  ·have hf : eqL a b = false := jy hlt hlb (by simpa using ht30)
   refine Z0 ?_;refine Z67 ?_;exact uq
  have he : eqE a[i] b[i] = true := by simpa using ht30
  refine Z81 ?_;refine R.fin [1, 2, 15, 16, 17] ?_;refine K.lpN (i + 1) ⟨hlt, qe hlt hlb hi.2 he⟩ (by omega) ?_
  exact StCut.take (own := []) (fun _ => .refl _) (by repeat (first | exact Ap | refine Ao (by first | exact Bb | (simp; done)) ?_)) (by simp) (by simp)
 have hxe : a.length ≤ i := by simpa using ht18
 refine Sh ?_;refine Z67 ?_;exact K.fin (V.one V.tmp) ⟨by rw [Vl hlen (fun j y z hj => hi.2 j y z (by omega))], rfl⟩

theorem wj : ∀ (n : Nat) (x : Expr), okE n x → ∀ (y : Expr) (Hp : List AObj), AFun Tryz.prog 129 [A3 x, A3 y] Hp (An (eqE x y)) := by
 intro n
 induction n with
 | zero => exact fun x h => h.elim
 | succ n ih =>
 intro x hok y Hp
 refine ACall.body [.tmp 4] [0, 1] Tryz.func129 Tryz.ntmps129 (fun d => ?_)
 refine Z7 ?_;refine Et ?_;refine Z7 ?_;refine Z25 ?_;refine Z9 ?_;refine Z58 ?_;refine Wv ?_
 refine G.go (h := Q.eqlAgg i8 (fun w => Kw x.val.kind x.val.n y.val.kind y.val.n x.val.s y.val.s w)) (hr := ?_)
 refine Wv ?_;refine G.call Tryz.call164 (fun hB => zb n x.kids y.kids hok.2.1 hok.2.2 ih _) ?_;refine Z1 ?_;refine Z26 ?_;exact K.fin (V.one V.tmp) ⟨by rw [j8], rfl⟩

set_option maxRecDepth 8000
/-! Moves: what mig.Right, sound.* and the document's layers 18, 19 answer. -/
structure Mov where
 kind : Int
 take : List Str
 give : List Col
 ahead : List Expr
 back : List Expr
abbrev B5 (l : List Expr) : AV := .slice false 6 (l.map A3)
abbrev Kb (m : Mov) : List AV := [A2 m.kind, Dg m.take, Ac m.give, B5 m.ahead, B5 m.back]
abbrev Fy (m : Mov) : AV := .agg (Kb m)
abbrev G7 (l : List Mov) : AV := .slice false 5 (l.map Fy)
/-- Trees that may be walked. -/
structure OkEs (l : List Expr) : Prop where
 len : l.length ≤ 1048576
 ok : ∀ e ∈ l, okE 61 e
 size : ∀ e ∈ l, sizeE e ≤ 1048576
 rng : ∀ e ∈ l, Cf Fp e = true
structure OkMov (m : Mov) : Prop where
 takes : m.take.length ≤ 1048576
 names : ∀ s ∈ m.take, s.length ≤ 1048576
 gives : OkCols m.give
 gives2 : m.give.length ≤ 1000000
 ahead : OkEs m.ahead
 back : OkEs m.back
structure OkMovs (l : List Mov) : Prop where
 len : l.length ≤ 1048576
 each : ∀ m ∈ l, OkMov m
def Ds (m : Mov) : Bool :=
 if ((m.ahead.length : Int) != (m.give.length : Int)) || ((m.back.length : Int) != (m.take.length : Int)) then false
 else if m.kind == 1 then ((m.take.length : Int) == 0) && ((m.give.length : Int) == 1)
 else if m.kind == 2 then ((m.take.length : Int) == 1) && ((m.give.length : Int) == 0)
 else if (m.kind == 3) || (m.kind == 6) then ((m.take.length : Int) == 1) && ((m.give.length : Int) == 1)
 else if m.kind == 4 then ((m.take.length : Int) == 1) && decide ((1 : Int) < (m.give.length : Int))
 else if m.kind == 5 then decide ((1 : Int) < (m.take.length : Int)) && ((m.give.length : Int) == 1)
 else false
def J1 (m : Mov) (c : Col) : Bool := C8 c.name && (((B9 c.kind == []) == (m.kind == 3)) && !((m.kind == 3) && (c.kind != 0)))
def Kc (m : Mov) : Bool :=
 if m.kind == 3 then eqE (m.ahead.getD 0 Aa) (Aj (m.take.getD 0 [])) && eqE (m.back.getD 0 Aa) (Aj (m.give.getD 0 ⟨[], 0⟩).name)
 else if m.kind == 6 then m.take.getD 0 [] == (m.give.getD 0 ⟨[], 0⟩).name else true
def G8 (m : Mov) : Bool := (((((Ds m && m.give.all (J1 m)) && m.take.all C8) && m.ahead.all Am) && m.back.all Am) && Kc m)
def da (l : List Mov) : Bool := decide ((l.length : Int) ≤ 8) && l.all G8
/-! Columns behind moves. -/
def jz (e : Expr) (c : List Col) (w : Int) : Bool := ((Iz e c).2 == 0) && (((Iz e c).1 == w) || ((Iz e c).1 == 0))
def B1 (c : List Col) (m : Mov) : List Col :=
 if m.kind == 3 then (if Al (m.take.getD 0 []) c < 0 then m.give else match m.give with
  | [] => []
  | y :: r => ⟨y.name, (c.getD (Al (m.take.getD 0 []) c).toNat ⟨[], 0⟩).kind⟩ :: r)
 else m.give
def T7 (e : Expr) (c : List Col) (w : Int) : Int := if (Iz e c).2 != 0 then (Iz e c).2 else if !jz e c w then 10 else 0
def Ch (over : List Col) : List Expr → List Col → Int
 | x :: r, w :: ws => if T7 x over w.kind != 0 then T7 x over w.kind else Ch over r ws
 | _, _ => 0
def Ht (c : List Col) (m : Mov) : List Col := m.take.map fun s => c.getD (Al s c).toNat ⟨[], 0⟩
def Bf (c : List Col) (m : Mov) : List Col × Int :=
 if (By c m.take (B1 c m)).2 != 0 then ([], (By c m.take (B1 c m)).2)
 else if Ch c m.ahead (B1 c m) != 0 then ([], Ch c m.ahead (B1 c m))
 else if Ch (By c m.take (B1 c m)).1 m.back (Ht c m) != 0 then ([], Ch (By c m.take (B1 c m)).1 m.back (Ht c m))
 else ((By c m.take (B1 c m)).1, 0)
/-- The columns ahead of each move and behind the last one, till one is wrong; the error. -/
def C7 (c : List Col) : List Mov → List (List Col) × Int
 | [] => ([c], 0)
 | m :: r => if (Bf c m).2 != 0 then ([c], (Bf c m).2) else (c :: (C7 (Bf c m).1 r).1, (C7 (Bf c m).1 r).2)
def Ma (c : List Col) (l : List Mov) : Bool := Cu c && da l
/-- ref19.Steps. -/
def Mb (c : List Col) (l : List Mov) : List (List Col) × Int := if Ma c l then C7 c l else ([], 1)
/-- sound.Steps. -/
def Fh (c : List Col) (l : List Mov) : List (List Col) × Int := if (Mb c l).2 != 0 then ([], (Mb c l).2) else Mb c l
theorem Rd {m : Mov} (h : G8 m = true) : Ds m = true := by
 unfold G8 at h
 simp only [Bool.and_eq_true] at h
 exact h.1.1.1.1.1
theorem Gs {m : Mov} (h : Ds m = true) : m.ahead.length = m.give.length ∧ m.back.length = m.take.length := by
 unfold Ds at h
 split at h
 ·cases h
 rename_i h1
 simp only [Bool.or_eq_true, bne_iff_ne, ne_eq, not_or, Classical.not_not] at h1
 omega
theorem P9 {m : Mov} (h : Ds m = true) (h3 : ((m.kind == 3) || (m.kind == 6)) = true) : m.take.length = 1 ∧ m.give.length = 1 := by
 unfold Ds at h
 split at h
 ·cases h
 have h1 : (m.kind == 1) = false := by simp at h3 ⊢; omega
 have h2 : (m.kind == 2) = false := by simp at h3 ⊢; omega
 simp only [h1, h2, h3, if_true, if_false, Bool.false_eq_true, Bool.and_eq_true, beq_iff_eq] at h
 omega
theorem Hc (c : List Col) (m : Mov) : (B1 c m).length = m.give.length := by
 unfold B1
 split
 ·split
  ·rfl
  split <;> simp_all
 rfl
set_option maxRecDepth 4000
/-! mig.Parse: the first fault is Wr. -/
inductive PR (α : Type) where
 | ok (r : α) (i : Nat)
 | bad (e a : Int)
def PR.bind {α β : Type} (x : PR α) (f : α → Nat → PR β) : PR β := match x with
 | .ok r i => f r i
 | .bad e a => .bad e a
def Re {α : Type} (L : List Tok) (i : Nat) (e : Int) : PR α := .bad e (A7 L i).at_
def isP (L : List Tok) (s : Str) (i : Nat) : Bool := (((A7 L i).kind == 5) || ((A7 L i).kind == 2)) && ((A7 L i).text == s)
def Bg (L : List Tok) (s : Str) (i : Nat) : PR Unit := if isP L s i then .ok () (i + 1) else Re L i 8
def Ef (L : List Tok) (i : Nat) : PR Str := if (A7 L i).kind != 1 then Re L i 8 else .ok (A7 L i).text (i + 1)
def Zk (L : List Tok) (nm : Str) (j : Nat) : PR Col := if ((A7 L j).kind != 2) || (Mx (A7 L j).text == 0) then Re L j 8 else .ok ⟨nm, Mx (A7 L j).text⟩ (j + 1)
def Gf (L : List Tok) (i : Nat) : PR Col := (Ef L i).bind (Zk L)
def I5 (L : List Tok) (i : Nat) : PR Expr := if (atM L i).2.2.1 != 0 then .bad (atM L i).2.2.1 (atM L i).2.2.2 else .ok (atM L i).1 (atM L i).2.1.toNat
def Bu (m : Mov) (c : Col) : Mov := { m with give := m.give ++ [c] }
def Zl (m : Mov) (x : Expr) : Mov := { m with ahead := m.ahead ++ [x] }
def Co (L : List Tok) (m : Mov) (i : Nat) : PR Mov := (Gf L i).bind fun c j => (Bg L [61] j).bind fun _ j => (I5 L j).bind fun x j => .ok (Zl (Bu m c) x) j
def N0 (L : List Tok) (n : Int) (k : Nat) (i : Nat) : Bool := decide ((k : Int) < n) || ((n == 0) && (decide ((k : Int) < 2) || isP L [44] i))
/-- Things with commas between, behind the first k. -/
def L7 (L : List Tok) (n : Int) (one : Mov → Nat → PR Mov) : Nat → Nat → Mov → Nat → PR Mov
 | 0, _, m, i => .ok m i
 | f + 1, k, m, i => if N0 L n k i then (Bg L [44] i).bind fun _ j => (one m j).bind fun m j => L7 L n one f (k + 1) m j else .ok m i
def F0 (L : List Tok) (n : Int) (one : Mov → Nat → PR Mov) (m : Mov) (i : Nat) : PR Mov := (one m i).bind fun m j => L7 L n one (L.length + 1) 1 m j
def k7 : Str := [98, 97, 99, 107]
def G9 : Str := [105, 110, 116, 111]
def toW : Str := [116, 111]
def Zm (m : Mov) (x : Expr) : Mov := { m with back := m.back ++ [x] }
def N1 (L : List Tok) (m : Mov) (i : Nat) : PR Mov := (I5 L i).bind fun x j => .ok (Zm m x) j
def Dk (L : List Tok) (m : Mov) (i : Nat) : PR Mov := (Bg L k7 i).bind fun _ j => F0 L m.take.length (N1 L) m j
def Gg (L : List Tok) (m : Mov) (i : Nat) : PR Mov := (Ef L i).bind fun s j => (Bg L toW j).bind fun _ j => (Ef L j).bind fun t j => .ok ⟨m.kind, [s], [⟨t, 0⟩], [Aj s], [Aj t]⟩ j
def takeS (m : Mov) (s : Str) : Mov := { m with take := [s] }
def Zn (m : Mov) (s : Str) : Mov := { m with take := m.take ++ [s] }
def L8 (L : List Tok) (m : Mov) (i : Nat) : PR Mov := (Ef L i).bind fun s j => .ok (Zn m s) j
def F1 (L : List Tok) (m : Mov) (i : Nat) : PR Mov :=
 if m.kind == 1 then Co L m i
 else if m.kind == 2 then (Ef L i).bind fun s j => Dk L (takeS m s) j
 else if m.kind == 3 then Gg L m i
 else if m.kind == 4 then (Ef L i).bind fun s j => (Bg L G9 j).bind fun _ j => (F0 L 0 (Co L) (takeS m s) j).bind fun m j => Dk L m j
 else if m.kind == 5 then (F0 L 0 (L8 L) m i).bind fun m j => (Bg L G9 j).bind fun _ j => (Co L m j).bind fun m j => Dk L m j
 else if m.kind == 6 then (Co L m i).bind fun m j => Dk L (takeS m (m.give.getD 0 ⟨[], 0⟩).name) j
 else .ok m i
def migWords : List Str := [[], [97, 100, 100], [100, 114, 111, 112], [114, 101, 110, 97, 109, 101], [115, 112, 108, 105, 116], [109, 101, 114, 103, 101], [114, 101, 116, 121, 112, 101]]
def Ca (k : Int) : Str := if (decide (k < 1) || decide (6 < k)) = true then [] else migWords.getD k.toNat []
def Eh (s : Str) : Int := if Ca 1 == s then 1 else if Ca 2 == s then 2 else if Ca 3 == s then 3 else if Ca 4 == s then 4 else if Ca 5 == s then 5 else if Ca 6 == s then 6 else 0
def J2 (L : List Tok) (i : Nat) : PR Mov :=
 if ((A7 L i).kind != 2) || (Eh (A7 L i).text == 0) then Re L i 8
 else (F1 L ⟨Eh (A7 L i).text, [], [], [], []⟩ (i + 1)).bind fun m j => (Bg L [59] j).bind fun _ j => .ok m j
/-- Moves, behind some. -/
def Hu (L : List Tok) : Nat → List Mov → Nat → PR (List Mov)
 | 0, l, i => .ok l i
 | f + 1, l, i => if (A7 L i).kind != 0 then (if (l.length : Int) == 8 then Re L i 3 else (J2 L i).bind fun m j => Hu L f (l ++ [m]) j) else .ok l i
def Fz (L : List Tok) : PR (List Mov) := Hu L 9 [] 0
/-- The moves; the fault's code and place. -/
def Y3 (s : Str) : List Mov × Int × Int :=
 if (E7 s).2.1 != 0 then ([], (E7 s).2.1, (E7 s).2.2)
 else match Fz (E7 s).1 with
  | .ok l _ => (l, 0, 0)
  | .bad e a => ([], e, a)
end Go.SX.Nb
namespace Go.SX
variable [GI : GlobInv]
open Classical
section
variable {P : Program} {d : Nat}
variable {sz : Nat} {dfs : List Nat} {rnd : Option Nat} {l0 : List Oper} {up own : (Nat → Bool) → List AObj} {KP : List PanicEntry → St → Prop} {E : List Oper → (Nat → AV) → Prop} {S : List SegY} {l : List Oper} {fr : Nat → AV} {ty : TypeId} {pos : String} {aft : Array Edge} {s : Nat} {T F : List Nat}
end
section
variable {P : Program} {d : Nat} {ops : Array Oper}
theorem AW.upEq {c : Code} {sz : Nat} {fr : Nat → AV} {up up' own : List AObj} {dfs : List Nat} {rnd : Option Nat} {K : Exit → St → Prop} (e : up = up') (h : AW P d c ⟨sz, fr, up', own, dfs, rnd⟩ K) : AW P d c ⟨sz, fr, up, own, dfs, rnd⟩ K := e ▸ h
end
end Go.SX
namespace Go.SX
variable [GI : GlobInv]
open Classical
section
variable {P : Program} {d : Nat} {st : St} {ty : TypeId} {pos : String} {aft : Array Edge} {gd : Option (Nat × Bool)}
/-- A variable of its own, not laid yet. -/
theorem AOp.allocP {t : TypeId} {z : Value} {k s : Nat} (hz : ∀ w, (zeroValue t).run P w = .ok z w) (hk : z.cells.size = k) (hs : s < st.sz) :
  AOp P d ⟨some s, .alloc t, ty, pos, aft, gd⟩ st (· = st.set s (.cellp k)) := by
 subst hk
 intro G a w h Q'
 let G' : Gh := { G with tag := fun b o => if b = w.heap.size ∧ o < z.cells.size then .tail (.slot d s) else G.tag b o }
 have hfree : ∀ o, G.tag w.heap.size o = .free := fun o => Cm h.tags _ o (Nat.le_refl _)
 have hne : ∀ b o, G.tag b o ≠ .free → ¬ (b = w.heap.size ∧ o < z.cells.size) := fun b o hb hc => by rw [hc.1] at hb; exact hb (hfree o)
 have hkeep : ∀ b o, G.tag b o ≠ .free → G'.tag b o = G.tag b o := fun b o hb => by simp only [G']; rw [if_neg (hne b o hb)]
 have hcell : ∀ b o, G.tag b o ≠ .free → (w.alloc (.cells z.cells t)).cell? ⟨b, o, none⟩ = w.cell? ⟨b, o, none⟩ := fun b o hb => by
  refine World.cell?_alloc_old _ _ _ ?_
  show b ≠ w.heap.size
  rintro rfl
  exact hb (hfree o)
 have T : Turn G w G' (w.alloc (.cells z.cells t)) := by
  refine ⟨fun b o hb => ⟨by rw [hkeep b o (by rw [hb]; simp)]; exact hb, hcell b o (by rw [hb]; simp)⟩, fun b o L hb => by rw [hkeep b o (by rw [hb]; simp)]; exact hb, fun b o i hb => by rw [hkeep b o (by rw [hb]; simp)]; exact hb, Nat.le_refl _, fun o ho => rfl, rfl, rfl, rfl, by simp, Still.alloc _ (fun b o hb => .inl (by simp only [G']; rw [if_neg (by omega)])) (fun i hi => .inl ⟨hi, rfl⟩)⟩
 have h1 : StRel d G' st a (w.alloc (.cells z.cells t)) := by
  refine h.turn (U := st.up) (O := st.own) T ⟨fun i x hx => T.objRel ?_ ?_ (h.heap.obj i x hx) (fun b hb => ?_), h.heap.n, h.heap.inj⟩ rfl h.defsAt ⟨fun b o hb => ?_, fun b o i hb => ?_, fun b o L hb => ?_, h.tags.globKeep T.old⟩ h.low
  ·rw [h.heap.n]; exact (List.getElem?_eq_some_iff.1 hx).1
  ·have := (h.heap.obj i x hx).blt
   show (w.heap.push _)[G.blk i]? = _
   rw [Array.getElem?_push, if_neg (by omega)]
  ·have := hb.lt
   show (w.heap.push _)[b]? = _
   rw [Array.getElem?_push, if_neg (by omega)]
  ·simp only [G'] at hb
   split at hb
   ·rename_i hc
    obtain ⟨rfl, hlt⟩ := hc
    exact ⟨z.cells[o], by rw [World.cell?_alloc_new]; exact Array.getElem?_eq_getElem hlt⟩
   rw [hcell b o hb]
   exact h.tags.ex b o hb
  ·simp only [G'] at hb
   split at hb
   ·cases hb
   rw [World.frozen?_alloc_old]
   ·exact h.tags.obj b o i hb
   show b ≠ w.heap.size
   rintro rfl
   rw [hfree] at hb; cases hb
  simp only [G'] at hb
  split at hb
  ·rename_i hc
   obtain ⟨rfl, hlt⟩ := hc
   exact World.frozen?_alloc_new _ _ _ _
  rw [World.frozen?_alloc_old]
  ·exact h.tags.tail b o L hb
  show b ≠ w.heap.size
  rintro rfl
  rw [hfree] at hb; cases hb
 have hrun : (execOp a.eval (⟨some s, .alloc t, ty, pos, aft, gd⟩ : Oper)).run P w = .ok (.value (.pointer (some ⟨w.heap.size, 0, none⟩))) (w.alloc (.cells z.cells t)) := by
  simp [execOp, Instr.alloc, hz, newVar, newRow]
 refine Bh (by intro c h; cases h) hrun ⟨G', _, h1.put (s := s) (y := .cellp z.cells.size) hs ?_, T.keep d, rfl, rfl, rfl, rfl⟩
 exact .cellp _ _ _ ⟨_, rfl, fun o ho => by simp [G', ho]⟩

/-- It is laid: from now on nobody writes it. -/
theorem AOp.storeP {t : TypeId} {x : Operand} {r k : Nat} {y : AV} (hsz : ∀ w, (sizeOf t).run P w = .ok k w) (hf : st.fr r = .cellp k) (hx : st.ev x = y) (hk : y.cells.length = k) (hk0 : 0 < k) (h1 : y.cells.all AV.one = true) :
  AOp P d ⟨none, .store t (.tmp r) x, ty, pos, aft, gd⟩ st (· = st.set r (.ro y.cells)) := by
 intro G a w h Q'
 have hone : ∀ c ∈ y.cells, c.one = true := fun c hc => List.all_eq_true.1 h1 c hc
 obtain ⟨hc, hcc⟩ := (hx ▸ h.eval x).cells hone
 have hsl := h.slots r
 rw [hf] at hsl
 generalize hv : a.tmps.getD r undef = v at hsl
 cases hsl with
 | cellp l k b ho =>
  obtain ⟨L, hL, ht⟩ := ho
  injection hL with hL
  subst hL
  let us := (a.eval x).cells.toList
  have hul : us.length = k := by simp only [us, Array.length_toList]; omega
  have huone : ∀ u ∈ us, u.oneCell' = true := fun u hu => by
   obtain ⟨j, hj⟩ := List.getElem?_of_mem hu
   have hj' : (a.eval x).cells[j]? = some u := by rw [← Array.getElem?_toList]; exact hj
   have hlt : j < y.cells.length := by rw [← hc]; exact (Array.getElem?_eq_some_iff.1 hj').1
   exact (hcc j _ u (List.getElem?_eq_getElem hlt) hj').one (hone _ (List.getElem_mem hlt))
  have hrun0 := run_storeCells_cells (P := P) b 0 us 0 w (fun j hj => by
    obtain ⟨u, hu⟩ := h.tags.ex b j (by rw [ht j (by omega)]; simp)
    simp only [Nat.add_zero, Nat.zero_add]; rw [hu]; rfl) (fun j hj => by simpa using h.tags.tail _ _ _ (ht j (by omega))) huone
  simp only [Nat.add_zero] at hrun0
  let W := w.setCells b 0 us
  let G' : Gh := { G with tag := fun b' o => if b' = b ∧ o < k then .fix else G.tag b' o }
  have htag : ∀ b' o, G.tag b' o ≠ .tail (.slot d r) → G'.tag b' o = G.tag b' o := fun b' o hb => by
   simp only [G']
   rw [if_neg]
   rintro ⟨rfl, ho⟩
   exact hb (ht o ho)
  have hout : ∀ b' o, ¬ (b' = b ∧ o < k) → W.cell? ⟨b', o, none⟩ = w.cell? ⟨b', o, none⟩ := fun b' o hn =>
   World.cell?_setCells_out _ us 0 w ⟨b', o, none⟩ (fun hb _ => by
    simp only at hb ⊢
    exact .inr (Nat.le_of_not_lt fun h'' => hn ⟨hb, by omega⟩))
  have hcell : ∀ b' o, G.tag b' o ≠ .tail (.slot d r) → W.cell? ⟨b', o, none⟩ = w.cell? ⟨b', o, none⟩ := fun b' o hb => hout b' o (fun hn => hb (by rw [hn.1]; exact ht o hn.2))
  have hnb : ∀ i, i < G.n → G.blk i ≠ b := I2 h.heap h.tags (ht 0 hk0)
  have hheap : ∀ b', b' ≠ b → W.heap[b']? = w.heap[b']? := fun b' hb => Bo _ _ _ _ _ hb
  have hsize : W.heap.size = w.heap.size := Bn _ _ _ _
  have hstill : Still G w G' W := Still.tags (fun b' hb' => hheap b' (fun e => Fv (ht 0 hk0) (e ▸ hb'))) (Nat.le_of_eq hsize.symm) (fun b' o _ => by
   by_cases hc : b' = b ∧ o < k
   ·exact .inr ⟨_, by rw [hc.1]; exact ht o hc.2⟩
   exact .inl (by simp only [G']; rw [if_neg hc])) (fun i hi => .inl ⟨hi, rfl⟩)
  have hfix : ∀ b' o, G.tag b' o = .fix → G'.tag b' o = .fix ∧ W.cell? ⟨b', o, none⟩ = w.cell? ⟨b', o, none⟩ := fun b' o hb => ⟨by rw [htag b' o (by rw [hb]; simp)]; exact hb, hcell b' o (by rw [hb]; simp)⟩
  have htail : ∀ b' o L, L ≠ .slot d r → G.tag b' o = .tail L → G'.tag b' o = .tail L := fun b' o L hL hb => by
   rw [htag b' o (by rw [hb]; intro e; injection e with e; exact hL e)]; exact hb
  have hobj : ∀ b' o i, G.tag b' o = .obj i → G'.tag b' o = .obj i := fun b' o i hb => by rw [htag b' o (by rw [hb]; simp)]; exact hb
  have hrep : ∀ {l : Option Loc} {z : AV} {u : Value}, l ≠ some (.slot d r) → Rep G w l z u → Rep G' W l z u := fun hl hz =>
   hz.mono (G' := G') hfix (Nat.le_refl _) (fun _ _ => rfl) (fun L hL b' o ht' => htail b' o L (fun e => hl (by rw [hL, e])) ht')
  have hkeep : Keep d G w G' W := ⟨hfix, fun b' o e s he ht' => htail b' o _ (by rintro ⟨⟩; omega) ht', Nat.le_refl _, fun _ _ => rfl, Dx _ _ _ _, Cp _ _ _ _, C5 _ _ _ _, Nat.le_of_eq hsize.symm, hstill⟩
  have hvec : ∀ j u, us[j]? = some u → W.cell? ⟨b, j, none⟩ = some u := fun j u hu => by
   have hj := (List.getElem?_eq_some_iff.1 hu).1
   have hex : ∃ u', w.cell? ⟨b, j, none⟩ = some u' := h.tags.ex b j (by rw [ht j (by omega)]; simp)
   obtain ⟨u', hu'⟩ := hex
   have hbk : ∃ vs e fz, w.heap[b]? = some (.cells vs e fz) := by
    simp only [World.cell?] at hu'
    split at hu'
    ·rename_i vs e fz hb; exact ⟨vs, e, fz, hb⟩
    cases hu'
   obtain ⟨vs, e, fz, hbk⟩ := hbk
   have hlen : 0 + us.length ≤ vs.size := by
    rw [hul, Nat.zero_add]
    rcases Nat.lt_or_ge vs.size k with h' | h'
    ·exfalso
     obtain ⟨u2, hu2⟩ := h.tags.ex b vs.size (by rw [ht _ h']; simp)
     simp [World.cell?, hbk] at hu2
    exact h'
   obtain ⟨vs', b1, b2, b3⟩ := Gk b e fz us 0 w vs hbk hlen
   have b3' := b3 j
   rw [if_pos (by omega)] at b3'
   show (w.setCells b 0 us).cell? ⟨b, j, none⟩ = some u
   simp only [World.cell?, b1]
   rw [b3', Nat.sub_zero]
   exact hu
  have hst : StRel d G' (st.set r (.ro y.cells)) a W := by
   refine ⟨h.size, fun s => ?_, ⟨fun i z hz => ?_, h.heap.n, h.heap.inj⟩, h.defs, h.defsAt, h.defsNodup, h.defsGe, ⟨fun b' o hb => ?_, fun b' o i hb => ?_, fun b' o L hb => ?_, h.tags.globKeep hstill⟩, h.rnd, h.low, h.top⟩
   ·show Rep G' W _ (A4 r (.ro y.cells) st.fr s) _
    unfold A4
    by_cases hs : s = r
    ·subst hs
     rw [if_pos rfl, hv]
     refine .ro _ _ ⟨b, 0, none⟩ (fun j => (a.eval x).cells.getD j undef) rfl hone (fun j c hj => ?_) (fun j c hj => ?_)
     all_goals
      have hlt : j < y.cells.length := (List.getElem?_eq_some_iff.1 hj).1
      have hu : (a.eval x).cells[j]? = some ((a.eval x).cells[j]'(by omega)) := Array.getElem?_eq_getElem _
      have e1 : (a.eval x).cells.getD j undef = (a.eval x).cells[j]'(by omega) := by rw [Array.getD_eq_getD_getElem?, hu]; rfl
      rw [e1]
     ·refine ⟨by simp only [G', Nat.zero_add]; rw [if_pos ⟨trivial, by omega⟩], ?_⟩
      rw [Nat.zero_add]
      exact hvec j _ (by simp only [us]; rw [Array.getElem?_toList]; exact hu)
     exact hrep (by simp) (hcc j c _ hj hu)
    rw [if_neg hs]
    exact hrep (by simp; exact fun e => hs e) (h.slots s)
   ·have hob := h.heap.obj i z hz
    have hi : i < G.n := by rw [h.heap.n]; exact (List.getElem?_eq_some_iff.1 hz).1
    have hb := hheap (G.blk i) (hnb i hi)
    cases z with
    | cells t cs =>
     obtain ⟨vs, a1, a2, a3, a4⟩ := hob
     exact ⟨vs, hb.trans a1, a2, fun j y u p q => hrep (by simp) (a3 j y u p q), fun j hj => hobj _ _ _ (a4 j hj)⟩
    | loop sta pd fr sz ps asg bd df =>
     obtain ⟨fn, tmps, a1, a2, a3, a4⟩ := hob
     exact ⟨fn, tmps, hb.trans a1, a2, fun s => hrep (by simp) (a3 s), a4⟩
    | defs => exact hb.trans hob
    | dead => exact hb.trans hob
    | bld t e bs => exact BldRel.turn hob rfl (fun b' o ho => hobj b' o i ho) hb (fun b' ha => hheap b' (fun e => by
      have := ha.tag h.tags (o := 0) (by rw [e, ht 0 hk0]; simp)
      rw [e, ht 0 hk0] at this; cases this))
    | gone =>
     obtain ⟨vs, t, fz, a1, a2⟩ := hob
     exact ⟨vs, t, fz, hb.trans a1, fun j hj => (hfix _ _ (a2 j hj)).1⟩
   ·by_cases hc : b' = b ∧ o < k
    ·obtain ⟨rfl, ho⟩ := hc
     exact ⟨us[o]'(by omega), hvec o _ (List.getElem?_eq_getElem _)⟩
    rw [hout b' o hc]
    simp only [G', if_neg hc] at hb
    exact h.tags.ex b' o hb
   ·rw [World.frozen?_setCells]
    simp only [G'] at hb
    split at hb
    ·cases hb
    exact h.tags.obj b' o i hb
   rw [World.frozen?_setCells]
   simp only [G'] at hb
   split at hb
   ·cases hb
   exact h.tags.tail b' o L hb
  have hrun : (execOp a.eval (⟨none, .store t (.tmp r) x, ty, pos, aft, gd⟩ : Oper)).run P w = .ok .skip W :=
   Dz hsz (show a.eval (.tmp r) = _ from hv) (by omega) hrun0
  exact E4 (by intro c h; cases h) hrun ⟨G', _, hst, hkeep, rfl, rfl, rfl, rfl⟩
end
section
variable {P : Program} {d : Nat} {sz : Nat} {dfs : List Nat} {rnd : Option Nat} {l0 : List Oper} {up own : (Nat → Bool) → List AObj} {KP : List PanicEntry → St → Prop} {E : List Oper → (Nat → AV) → Prop} {S : List SegY} {l : List Oper} {fr : Nat → AV} {ty : TypeId} {pos : String} {aft : Array Edge} {s : Nat} {T F : List Nat}
theorem Y.allocP {t : TypeId} {z : Value} {k : Nat} (hz : ∀ w, (zeroValue t).run P w = .ok z w) (h : ChainY P d l0 sz up own dfs rnd KP E S l (A4 s (.cellp k) fr)) (hk : z.cells.size = k := by rfl) (hs : Nat.blt s sz = true := by rfl) :
  ChainY P d l0 sz up own dfs rnd KP E (.s [s] none T F :: S) (⟨some s, .alloc t, ty, pos, aft, none⟩ :: l) fr := by
 refine ⟨_, l, [(s, .cellp k)], rfl, ⟨rfl, rfl, fun B f _ _ _ hf => .of ?_⟩, h⟩
 exact AOp.allocP (st := ⟨sz, f, up B, own B, dfs, rnd⟩) hz hk (by simpa using hs)
theorem Y.storeP {t : TypeId} {x : Operand} {r k : Nat} {y : AV} {ys : List AV} (hsz : ∀ w, (Go.sizeOf t).run P w = .ok k w) (h : ChainY P d l0 sz up own dfs rnd KP E S l (A4 r (.ro ys) fr))
  (hf : fr r = .cellp k := by exact sL0) (hx : Ag fr x = y := by exact sL0) (hc : y.cells = ys := by exact sL0)
  (hk : ys.length = k := by rfl) (hk0 : 0 < k := by decide) (h1 : ys.all AV.one = true := by exact sL2) :
  ChainY P d l0 sz up own dfs rnd KP E (.s [r] none T F :: S) (⟨none, .store t (.tmp r) x, ty, pos, aft, none⟩ :: l) fr := by
 subst hc
 refine ⟨_, l, [(r, .ro y.cells)], rfl, ⟨rfl, rfl, fun B f _ _ _ hfr => .of ?_⟩, h⟩
 have e : f r = fr r := hfr r (by simp [lk, S4, Op.operands])
 have ex : Ag f x = y := by rw [agr hfr (by simp [Op.operands])]; exact hx
 exact AOp.storeP (st := ⟨sz, f, up B, own B, dfs, rnd⟩) hsz (e.trans hf) ex hk hk0 h1
end
end Go.SX
