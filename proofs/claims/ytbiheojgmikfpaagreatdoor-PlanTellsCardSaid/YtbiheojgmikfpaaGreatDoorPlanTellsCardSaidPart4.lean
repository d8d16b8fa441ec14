/- Texts on the way to this: PlanTells answers true for whatever it is handed: of any columns and any moves the plan, its text, the plan back and the shadows are what the reference says, or the migration is not sound. (part 4) -/
import Derived.ReadAgain
import Derived.ChangeSame
import Derived.ChangeArms
import Derived.ChangeOld
import Derived.ChangeFn
import Derived.MapPlaces
import Derived.DataReads
import Derived.OpenShut
import Derived.RowKit
import Derived.Deep.DeepHandedRow
import Derived.Test.YtbiheojgmikfpaaGreatDoorCards
import Derived.Test.YtbiheojgmikfpaaGreatDoorTie
import Derived.Lay
import Derived.Lib.LaidTab
import Derived.Stop.LaidErr
import Derived.Shelf.Vars
import Derived.ChangeBears
import Derived.Below
import Derived.Test.YtbiheojgmikfpaaGreatDoorPlanTellsCardSaidPart3
set_option linter.all false
namespace Go.SX
variable [GI : GlobInv]
open Classical Go.RowKit Go.ChangeShapes
section
variable {P : Program} {H : Type} {enc : TypeId × Value → H}

/-- The first ghost: whatever lies there is read for good. -/
noncomputable def G0 (W : World) : Gh := ⟨fun b o => if (W.cell? ⟨b, o, none⟩).isSome then .fix else .free, fun _ => 0, 0⟩
theorem ol {W : World} {b o : Nat} {u : Value} (h : W.cell? ⟨b, o, none⟩ = some u) : (G0 W).tag b o = .fix := by simp [G0, h]
theorem Lk {W : World} {b : Nat} (h : b < W.heap.size) : Fk (G0 W) W b := ⟨h, fun o => by simp only [G0]; split <;> simp, fun i hi => absurd hi (Nat.not_lt_zero _)⟩
theorem kg (W : World) : HeapRel (G0 W) [] W := ⟨fun i x h => by simp at h, rfl, fun i j hi => absurd hi (Nat.not_lt_zero _)⟩
theorem ki {W : World} (h : Ic W) : TagOK (G0 W) W := by
 refine ⟨fun b o hb => ?_, fun b o i hb => ?_, fun b o L hb => ?_, fun x hx => ?_⟩
 ·simp only [G0] at hb
  split at hb
  ·rename_i hs; exact Option.isSome_iff_exists.1 hs
  exact absurd rfl hb
 ·simp only [G0] at hb; split at hb <;> cases hb
 ·simp only [G0] at hb; split at hb <;> cases hb
 obtain ⟨v, h1, h2⟩ := h x hx
 exact ⟨Lk (Array.getElem?_eq_some_iff.1 h1).1, v, h1, h2⟩

/-- What a datum of a vf type vg as. -/
inductive DRep (P : Program) : TypeId → DataW H → AV → Prop
 | int {t : TypeId} {k : IntKind} {n : Int} (hu : P.underlying t = some (.int k)) (wf : (Lit.int k n).wf = true) : DRep P t (.lit (.int k n)) (.v (.int k n))
 | bool {t : TypeId} {b : Bool} (hu : P.underlying t = some .bool) : DRep P t (.lit (.bool b)) (.v (.bool b))
 | str {t : TypeId} {bs : List UInt8} (hu : P.underlying t = some .string) : DRep P t (.lit (.string bs)) (.v (sv bs))
 | nil {t e : TypeId} (hu : P.underlying t = some (.slice e)) : DRep P t .nil (.slice false (P.cellsOf e) [])
 | slice {t e : TypeId} {elems spare : List (DataW H)} {ys : List AV} (hu : P.underlying t = some (.slice e)) (hn : ys.length = elems.length)
   (h : ∀ (i : Nat) (d : DataW H) (y : AV), elems[i]? = some d → ys[i]? = some y → DRep P e d y) : DRep P t (.slice elems spare) (.slice false (P.cellsOf e) ys)
 | struct {t : TypeId} {fs : Array Field} {parts : List (DataW H)} {ys : List AV} (hu : P.underlying t = some (.struct fs)) (hn : parts.length = fs.size) (hn' : ys.length = fs.size)
   (h : ∀ (i : Nat) (f : Field) (d : DataW H) (y : AV), fs[i]? = some f → parts[i]? = some d → ys[i]? = some y → DRep P f.type d y) : DRep P t (.agg parts) (.agg (ys.flatMap AV.cells))

/-- Types that are made of numbers, texts, bools, slices and structs alone. -/
structure PlainT (P : Program) (T : TypeId → Prop) : Prop where
 look : ∀ t, T t → (P.cellsOf t = 1 ∧ ((∃ k, P.underlying t = some (.int k)) ∨ P.underlying t = some .bool ∨ P.underlying t = some .string ∨ (∃ e, P.underlying t = some (.slice e) ∧ T e ∧ 0 < P.cellsOf e))) ∨
  (∃ fs, P.underlying t = some (.struct fs) ∧ (∀ f ∈ fs.toList, T f.type) ∧ P.cellsOf t = (fs.toList.map fun f => P.cellsOf f.type).sum ∧
   ∀ (j : Nat) (f : Field), fs.toList[j]? = some f → f.offset = ((fs.toList.take j).map fun f => P.cellsOf f.type).sum)

/-- The reading of a row of cells. -/
def CRep (W : World) (y : AV) (cs : List Value) : Prop :=
 y.cells.length = cs.length ∧ (∀ c ∈ y.cells, c.one = true) ∧ ∀ (j : Nat) (c : AV) (v : Value), y.cells[j]? = some c → cs[j]? = some v → Rep (G0 W) W none c v

theorem CRep.v1 {W : World} {x : Value} (h : x.oneCell' = true) : CRep W (.v x) [x] :=
 ⟨rfl, by simp [AV.cells, AV.one, h], fun j c v h1 h2 => by
  match j with
  | 0 => simp [AV.cells] at h1 h2; subst h1; subst h2; exact .v _ _
  | j + 1 => simp [AV.cells] at h1⟩

theorem U6 {f : AV → List AV} : ∀ (ys : List AV) (j : Nat) (c : AV), (ys.flatMap f)[j]? = some c → ∃ (i : Nat) (y : AV) (q : Nat), ys[i]? = some y ∧ (f y)[q]? = some c ∧ j = ((ys.take i).map fun y => (f y).length).sum + q
 | [], j, c, h => by simp at h
 | y :: r, j, c, h => by
  rw [List.flatMap_cons] at h
  rcases Nat.lt_or_ge j (f y).length with h' | h'
  ·rw [List.getElem?_append_left h'] at h
   exact ⟨0, y, j, rfl, h, by simp⟩
  rw [List.getElem?_append_right h'] at h
  obtain ⟨i, z, q, h1, h2, h3⟩ := U6 r _ c h
  exact ⟨i + 1, z, q, h1, h2, by simp only [List.take_succ_cons, List.map_cons, List.sum_cons]; omega⟩
theorem Ig {α : Type} {R : Nat → α → Prop} : ∀ (n : Nat), (∀ i, i < n → ∃ y, R i y) → ∃ ys : List α, ys.length = n ∧ ∀ (i : Nat) (y : α), ys[i]? = some y → R i y
 | 0, _ => ⟨[], rfl, fun i y h => by simp at h⟩
 | n + 1, h => by
  obtain ⟨ys, h1, h2⟩ := Ig n (fun i hi => h i (by omega))
  obtain ⟨y, hy⟩ := h n (by omega)
  refine ⟨ys ++ [y], by simp [h1], fun i z hz => ?_⟩
  rcases Nat.lt_or_ge i n with h' | h'
  ·rw [List.getElem?_append_left (by omega)] at hz; exact h2 i z hz
  rw [List.getElem?_append_right (by omega)] at hz
  have : i = n := by
   have := (List.getElem?_eq_some_iff.1 hz).1
   simp at this; omega
  subst this
  rw [h1] at hz
  simp at hz
  exact hz ▸ hy
theorem K5 {α β : Type} {f : α → Nat} {g : β → Nat} : ∀ (l : List α) (m : List β), l.length = m.length → (∀ (i : Nat) (a : α) (b : β), l[i]? = some a → m[i]? = some b → f a = g b) → (l.map f).sum = (m.map g).sum
 | [], [], _, _ => rfl
 | [], b :: m, h, _ => by simp at h
 | a :: l, [], h, _ => by simp at h
 | a :: l, b :: m, h, hh => by
  simp only [List.map_cons, List.sum_cons]
  rw [hh 0 a b rfl rfl, K5 l m (by simpa using h) (fun i a b h1 h2 => hh (i + 1) a b h1 h2)]

theorem er {T : TypeId → Prop} (PT : PlainT P T) {W : World} : ∀ (n : Nat) (t : TypeId) (cs : List Value) (x : DataW H × List MemPlace), T t → DataW.trod enc P W 0 (fun _ => true) true n t cs = some x →
  ∃ y, DRep P t x.1 y ∧ CRep W y cs ∧ cs.length = P.cellsOf t := by
 intro n
 induction n with
 | zero => intro t cs x _ h; simp [DataW.trod] at h
 | succ n ih =>
  intro t cs x hT h
  rcases PT.look t hT with ⟨hc1, ⟨k, hu⟩ | hu | hu | ⟨e, hu, he, hz⟩⟩ | ⟨fs, hu, hf, hsum, hoff⟩
  ·obtain ⟨m, rfl, rfl, hw⟩ := DataW.trod_int hu h
   exact ⟨_, .int hu hw, .v1 rfl, hc1.symm⟩
  ·obtain ⟨b, rfl, rfl⟩ := DataW.trod_bool hu h
   exact ⟨_, .bool hu, .v1 rfl, hc1.symm⟩
  ·obtain ⟨s, rfl, rfl, _⟩ := DataW.trod_string hu h
   exact ⟨_, .str hu, .v1 rfl, hc1.symm⟩
  ·rcases DataW.trod_slice hu h with ⟨rfl, rfl⟩ | ⟨a, len, cap, elems, rest, m, hm, rfl, rfl, hb, hlc, hcm, hel, hE, _, _⟩
   ·refine ⟨_, .nil hu, ⟨rfl, by simp [AV.cells, AV.one], fun j c v h1 h2 => ?_⟩, hc1.symm⟩
    match j with
    | 0 => simp [AV.cells] at h1 h2; subst h1; subst h2; exact .slice0 _ _ _
    | j + 1 => simp [AV.cells] at h1
   injection hm with hm
   subst hm
   subst hel
   have hEi : ∀ i, i < elems.length → ∃ y, (∀ d, elems[i]? = some d → DRep P e d.1 y) ∧ ∃ ci, W.cells? 0 (a.add (i * P.cellsOf e)) (P.cellsOf e) = some ci ∧ CRep W y ci := fun i hi => by
    have h1 := hE i hi
    rw [List.getElem?_eq_getElem hi, Option.bind_eq_some_iff] at h1
    obtain ⟨ci, h2, h3⟩ := h1
    obtain ⟨y, h4, h5, _⟩ := ih e ci _ he h3
    exact ⟨y, fun d hd => by rw [List.getElem?_eq_getElem hi] at hd; injection hd with hd; subst hd; exact h4, ci, h2, h5⟩
   obtain ⟨ys, hyl, hys⟩ := Ig elems.length hEi
   refine ⟨.slice false (P.cellsOf e) ys, .slice hu (by simp [hyl]) (fun i d y hd hy => ?_), ⟨rfl, by simp [AV.cells, AV.one], fun j c v h1 h2 => ?_⟩, hc1.symm⟩
   ·rw [List.getElem?_map, Option.map_eq_some_iff] at hd
    obtain ⟨d', hd', rfl⟩ := hd
    exact (hys i y hy).1 d' hd'
   match j with
   | j + 1 => simp [AV.cells] at h1
   | 0 =>
    simp [AV.cells] at h1 h2
    subst h1; subst h2
    by_cases h0 : elems.length = 0
    ·have : ys = [] := List.eq_nil_of_length_eq_zero (by omega)
     subst this
     rw [h0]
     exact .sliceE _ _ _ _
    have hspot : a.spot = none := by
     obtain ⟨ci, hci, _⟩ := (hys 0 ys[0] (List.getElem?_eq_getElem (by omega))).2
     obtain ⟨_, g1, g2⟩ := World.cells?_some hci
     have g3 := g2 0 hz
     rw [List.getElem?_eq_getElem (by omega)] at g3
     simp only [Nat.zero_mul, Addr.add, if_true] at g3
     unfold World.cell? at g3
     split at g3
     ·split at g3
      ·cases g3
      rename_i hs; simpa using hs
     cases g3
    refine .slice _ false _ ys a _ cap (fun i j => (W.cell? ⟨a.block, a.off + i * P.cellsOf e + j, none⟩).getD undef) hspot hyl.symm hlc (fun x hx => ?_) (fun x hx => ?_) (fun i x j y hx hy => ?_) (fun i x j y hx hy => ?_) (fun h => by cases h)
    ·obtain ⟨i, hi⟩ := List.getElem?_of_mem hx
     obtain ⟨ci, hci, hcr⟩ := (hys i x hi).2
     rw [hcr.1]
     exact (World.cells?_some hci).2.1
    ·obtain ⟨i, hi⟩ := List.getElem?_of_mem hx
     obtain ⟨ci, hci, hcr⟩ := (hys i x hi).2
     exact hcr.2.1
    ·obtain ⟨ci, hci, hcr⟩ := (hys i x hx).2
     obtain ⟨_, g1, g2⟩ := World.cells?_some hci
     have hj : j < P.cellsOf e := by
      have := (List.getElem?_eq_some_iff.1 hy).1
      rw [hcr.1] at this; omega
     have g3 := g2 j hj
     rw [List.getElem?_eq_getElem (by omega), Bd hspot, Bd rfl] at g3
     exact ⟨ol g3, by rw [g3]; rfl⟩
    obtain ⟨ci, hci, hcr⟩ := (hys i x hx).2
    obtain ⟨_, g1, g2⟩ := World.cells?_some hci
    have hj : j < P.cellsOf e := by
     have := (List.getElem?_eq_some_iff.1 hy).1
     rw [hcr.1] at this; omega
    have g3 := g2 j hj
    rw [List.getElem?_eq_getElem (by omega), Bd hspot, Bd rfl] at g3
    simp only at g3
    rw [g3]
    exact hcr.2.2 j y _ hy (List.getElem?_eq_getElem (by omega))
  obtain ⟨xs, m, hm, rfl, hcl, hxl, hX⟩ := DataW.trod_struct hu h
  injection hm with hm
  subst hm
  have hXi : ∀ i, i < fs.size → ∃ y, ∀ (f : Field), fs[i]? = some f → (∀ d, xs[i]? = some d → DRep P f.type d.1 y) ∧ CRep W y ((cs.drop f.offset).take (P.cellsOf f.type)) ∧ y.cells.length = P.cellsOf f.type := fun i hi => by
   have h1 := hX i fs[i] (Array.getElem?_eq_getElem hi)
   rw [List.getElem?_eq_getElem (by omega)] at h1
   obtain ⟨y, h2, h3, h4⟩ := ih _ _ _ (hf _ (by simp)) h1
   refine ⟨y, fun f hf' => ?_⟩
   rw [Array.getElem?_eq_getElem hi] at hf'
   injection hf' with hf'
   subst hf'
   exact ⟨fun d hd => by rw [List.getElem?_eq_getElem (by omega)] at hd; injection hd with hd; subst hd; exact h2, h3, by rw [h3.1, h4]⟩
  obtain ⟨ys, hyl, hys⟩ := Ig fs.size hXi
  have hlenI : ∀ (i : Nat), ((ys.take i).map fun y => y.cells.length).sum = ((fs.toList.take i).map fun f => P.cellsOf f.type).sum := fun i => by
   refine K5 _ _ (by simp [hyl]) (fun j y f h1 h2 => ?_)
   rw [List.getElem?_take] at h1 h2
   split at h1
   ·rename_i hj
    rw [if_pos hj] at h2
    exact (hys j y h1 f (by simpa using h2)).2.2
   cases h1
  have htot : (ys.flatMap AV.cells).length = cs.length := by
   rw [List.length_flatMap, hcl, hsum]
   refine K5 _ _ (by simp [hyl]) (fun j y f h1 h2 => (hys j y h1 f (by simpa using h2)).2.2)
  refine ⟨.agg (ys.flatMap AV.cells), .struct hu (by simp [hxl]) hyl (fun i f d y hf' hd hy => ?_), ⟨htot, fun c hc => ?_, fun j c v h1 h2 => ?_⟩, hcl⟩
  ·rw [List.getElem?_map, Option.map_eq_some_iff] at hd
   obtain ⟨d', hd', rfl⟩ := hd
   exact (hys i y hy f hf').1 d' hd'
  ·obtain ⟨y, hy, hcy⟩ := List.mem_flatMap.1 hc
   obtain ⟨i, hi⟩ := List.getElem?_of_mem hy
   have hlt : i < fs.size := by rw [← hyl]; exact (List.getElem?_eq_some_iff.1 hi).1
   exact ((hys i y hi fs[i] (Array.getElem?_eq_getElem hlt)).2.1).2.1 c hcy
  obtain ⟨i, y, q, g1, g2, rfl⟩ := U6 ys j c h1
  have hlt : i < fs.size := by rw [← hyl]; exact (List.getElem?_eq_some_iff.1 g1).1
  obtain ⟨_, k2, k3⟩ := hys i y g1 fs[i] (Array.getElem?_eq_getElem hlt)
  have hq : q < P.cellsOf (fs[i]).type := by have := (List.getElem?_eq_some_iff.1 g2).1; omega
  refine k2.2.2 q c v g2 ?_
  rw [List.getElem?_take, if_pos hq, List.getElem?_drop, hoff i fs[i] (by simp [hlt]), ← hlenI i]
  exact h2

/-- A measure of data. -/
structure Bulk (B : DataW H → Nat) : Prop where
 str : ∀ bs, bs.length ≤ B (.lit (.string bs))
 slice : ∀ elems spare, elems.length ≤ B (.slice elems spare) ∧ ∀ d ∈ elems, B d ≤ B (.slice elems spare)
 agg : ∀ parts, ∀ d ∈ parts, B d ≤ B (.agg parts)
theorem DRep.int' {t : TypeId} {k : IntKind} {d : DataW H} {y : AV} (hu : P.underlying t = some (.int k)) (h : DRep P t d y) : ∃ n, d = .lit (.int k n) ∧ y = .v (.int k n) ∧ k.min ≤ n ∧ n ≤ k.max := by
 cases h with
 | int hu' wf => rw [hu] at hu'; injection hu' with e; injection e with e; subst e; exact ⟨_, rfl, rfl, by simpa [Lit.wf] using wf⟩
 | _ hu' => rw [hu] at hu'; cases hu'
theorem DRep.str' {t : TypeId} {d : DataW H} {y : AV} (hu : P.underlying t = some .string) (h : DRep P t d y) : ∃ s, d = .lit (.string s) ∧ y = .v (sv s) := by
 cases h with
 | str hu' => exact ⟨_, rfl, rfl⟩
 | _ hu' => rw [hu] at hu'; cases hu'
theorem DRep.slice' {t e : TypeId} {d : DataW H} {y : AV} {B : DataW H → Nat} (hB : Bulk B) {α : Type} (A : α → AV) (R : α → Prop) {b : Nat} (hu : P.underlying t = some (.slice e)) (h : DRep P t d y) (hb : B d ≤ b)
  (hE : ∀ d y, B d ≤ b → DRep P e d y → ∃ x, y = A x ∧ R x) : ∃ l : List α, y = .slice false (P.cellsOf e) (l.map A) ∧ l.length ≤ b ∧ ∀ x ∈ l, R x := by
 cases h with
 | nil hu' => rw [hu] at hu'; injection hu' with e'; injection e' with e'; subst e'; exact ⟨[], rfl, Nat.zero_le _, fun x hx => by cases hx⟩
 | slice hu' hn hh =>
  rw [hu] at hu'; injection hu' with e'; injection e' with e'; subst e'
  rename_i elems spare ys
  obtain ⟨h1, h2⟩ := hB.slice elems spare
  have key : ∀ (ys : List AV) (es : List (DataW H)), ys.length = es.length → (∀ d ∈ es, B d ≤ b) → (∀ (i : Nat) (d : DataW H) (y : AV), es[i]? = some d → ys[i]? = some y → DRep P e d y) → ∃ l : List α, ys = l.map A ∧ ∀ x ∈ l, R x := by
   intro ys
   induction ys with
   | nil => exact fun es _ _ _ => ⟨[], rfl, fun x hx => by cases hx⟩
   | cons y ys ih =>
    intro es hl hb2 hr
    cases es with
    | nil => simp at hl
    | cons d es =>
     obtain ⟨x, rfl, hx⟩ := hE d y (hb2 d (by simp)) (hr 0 d y rfl rfl)
     obtain ⟨l, rfl, hR⟩ := ih es (by simpa using hl) (fun d hd => hb2 d (by simp [hd])) (fun i d y a c => hr (i + 1) d y a c)
     exact ⟨x :: l, rfl, fun z hz => by
      rcases List.mem_cons.1 hz with rfl | hz
      ·exact hx
      exact hR z hz⟩
  obtain ⟨l, rfl, hR⟩ := key ys elems hn (fun d hd => Nat.le_trans (h2 d hd) hb) hh
  exact ⟨l, rfl, by simp at hn; omega, hR⟩
 | _ hu' => rw [hu] at hu'; cases hu'
theorem DRep.struct' {t : TypeId} {fs : Array Field} {d : DataW H} {y : AV} {B : DataW H → Nat} (hB : Bulk B) (hu : P.underlying t = some (.struct fs)) (h : DRep P t d y) :
  ∃ ys : List AV, ys.length = fs.size ∧ y = .agg (ys.flatMap AV.cells) ∧ ∀ (i : Nat) (f : Field) (z : AV), fs[i]? = some f → ys[i]? = some z → ∃ d', B d' ≤ B d ∧ DRep P f.type d' z := by
 cases h with
 | struct hu' hn hn' hh =>
  rw [hu] at hu'; injection hu' with e'; injection e' with e'; subst e'
  rename_i parts ys
  refine ⟨ys, hn', rfl, fun i f z h1 h2 => ?_⟩
  have hlt : i < parts.length := by rw [hn]; exact (Array.getElem?_eq_some_iff.1 h1).1
  exact ⟨parts[i], hB.agg parts _ (List.getElem_mem hlt), hh i f parts[i] z h1 (List.getElem?_eq_getElem hlt) h2⟩
 | _ hu' => rw [hu] at hu'; cases hu'

/-- An argument's reading. -/
theorem kj {T : TypeId → Prop} (PT : PlainT P T) {W : World} {t : TypeId} {v : Value} {d : DataW H} {ps : List MemPlace} {b0 : Nat} (hT : T t) (hok : Value.okWide P W .any b0 t v) (h : DataW.Trod enc P W 0 (fun _ => true) true t v d ps) :
  ∃ y, DRep P t d y ∧ Rep (G0 W) W none y v := by
 obtain ⟨n, hn⟩ := h
 obtain ⟨y, h1, h2, h3⟩ := er PT n t _ _ hT hn
 refine ⟨y, h1, ?_⟩
 rcases PT.look t hT with ⟨hc1, hone⟩ | ⟨fs, hu, _⟩
 ·have hva : ∀ cs, v ≠ .agg cs := fun cs e => by
   subst e
   rcases hone with ⟨k, hu⟩ | hu | hu | ⟨e, hu, he, hz⟩ <;> simp [Value.okWide, hu, Cell.okWide, Cell.ok] at hok
  have hvc : v.cells = #[v] := by cases v <;> first | rfl | exact absurd rfl (hva _)
  have hyc : y.cells = [y] := by
   cases h1 with
   | struct hu => rcases hone with ⟨k, hu'⟩ | hu' | hu' | ⟨e, hu', he, hz⟩ <;> rw [hu] at hu' <;> cases hu'
   | _ => rfl
  have := h2.2.2 0 y v (by rw [hyc]; rfl) (by rw [hvc]; rfl)
  exact this
 obtain ⟨cs, rfl, hsz, _⟩ : ∃ cs, v = .agg cs ∧ cs.size = P.cellsOf t ∧ Row.okWide P W .any b0 t cs := by
  simp only [Value.okWide, hu] at hok
  exact hok
 cases h1 with
 | struct hu' hn1 hn2 hh =>
  refine .agg _ _ _ (by have := h2.1; simp only [AV.cells, Value.cells, Array.length_toList] at this; exact this.symm) h2.2.1 (fun i c u a b => h2.2.2 i c u a (by simpa [Value.cells] using b))
 | int hu' => rw [hu] at hu'; cases hu'
 | bool hu' => rw [hu] at hu'; cases hu'
 | str hu' => rw [hu] at hu'; cases hu'
 | nil hu' => rw [hu] at hu'; cases hu'
 | slice hu' => rw [hu] at hu'; cases hu'

def DReps (P : Program) : List TypeId → List (DataW H) → List AV → Prop
 | [], [], [] => True
 | t :: ts, d :: ds, y :: ys => DRep P t d y ∧ DReps P ts ds ys
 | _, _, _ => False

theorem DReps.cons' {t : TypeId} {ts : List TypeId} {ds : List (DataW H)} {ys : List AV} (h : DReps P (t :: ts) ds ys) : ∃ d ds' y ys', ds = d :: ds' ∧ ys = y :: ys' ∧ DRep P t d y ∧ DReps P ts ds' ys' := by
 match ds, ys, h with
 | d :: ds', y :: ys', ⟨h1, h2⟩ => exact ⟨d, ds', y, ys', rfl, rfl, h1, h2⟩
 | [], _, h => simp [DReps] at h
 | _ :: _, [], h => simp [DReps] at h
theorem DReps.nil' {ds : List (DataW H)} {ys : List AV} (h : DReps P [] ds ys) : ds = [] ∧ ys = [] := by
 match ds, ys, h with
 | [], [], _ => exact ⟨rfl, rfl⟩
 | [], _ :: _, h => simp [DReps] at h
 | _ :: _, _, h => simp [DReps] at h
theorem Qi {T : TypeId → Prop} (PT : PlainT P T) {W : World} {b0 : Nat} : ∀ (ts : List TypeId) (vs : List Value) (ds : List (DataW H)) (ps : List MemPlace), (∀ t ∈ ts, T t) →
  (∀ (j : Nat) t v, ts[j]? = some t → vs[j]? = some v → Value.okWide P W .any b0 t v) → DataW.TrodAll enc P W 0 (fun _ => true) true ts vs ds ps →
  ∃ ys, DReps P ts ds ys ∧ ys.length = vs.length ∧ ∀ (i : Nat) (y : AV) (u : Value), ys[i]? = some y → vs[i]? = some u → Rep (G0 W) W none y u
 | [], [], [], _, _, _, _ => ⟨[], trivial, rfl, fun i y u h => by simp at h⟩
 | t :: ts, v :: vs, d :: ds, ps, hT, hok, ⟨p, q, h1, h2, _⟩ => by
  obtain ⟨y, k1, k2⟩ := kj PT (hT t (by simp)) (hok 0 t v rfl rfl) h1
  obtain ⟨ys, k3, k4, k5⟩ := Qi PT ts vs ds q (fun t ht => hT t (by simp [ht])) (fun j t v a b => hok (j + 1) t v a b) h2
  refine ⟨y :: ys, ⟨k1, k3⟩, by simp [k4], fun i z u a b => ?_⟩
  match i with
  | 0 => simp at a b; subst a; subst b; exact k2
  | i + 1 => exact k5 i z u a b
 | [], _ :: _, _, _, _, _, h => by simp [DataW.TrodAll] at h
 | [], [], _ :: _, _, _, _, h => by simp [DataW.TrodAll] at h
 | _ :: _, [], _, _, _, _, h => by simp [DataW.TrodAll] at h
 | _ :: _, _ :: _, [], _, _, _, h => by simp [DataW.TrodAll] at h

theorem Mb {W : World} {sp : Nat → Bool} {hd : Bool} : ∀ {ts : List TypeId} {vs : List Value} {ds : List (DataW H)} {ps : List MemPlace}, DataW.TrodAll enc P W 0 sp hd ts vs ds ps → ds.length = ts.length
 | [], [], [], _, _ => rfl
 | _ :: _, _ :: _, _ :: _, _, ⟨_, _, _, h, _⟩ => by rw [List.length_cons, List.length_cons, Mb h]
 | [], _ :: _, _, _, h => by simp [DataW.TrodAll] at h
 | [], [], _ :: _, _, h => by simp [DataW.TrodAll] at h
 | _ :: _, [], _, _, h => by simp [DataW.TrodAll] at h
 | _ :: _, _ :: _, [], _, h => by simp [DataW.TrodAll] at h
theorem Ih {W W' : World} {sp : Nat → Bool} : ∀ {ts : List TypeId} {vs : List Value} {ds : List (DataW H)} {ps : List MemPlace}, DataW.TrodAll enc P W 0 sp true ts vs ds ps → (∀ p ∈ ps, W.sameAt W' p) → DataW.TrodAll enc P W' 0 sp true ts vs ds ps
 | [], [], [], _, h, _ => h
 | _ :: _, _ :: _, _ :: _, _, ⟨p, q, ⟨n, hn⟩, h2, e⟩, hs => ⟨p, q, ⟨n, DataW.trod_carry n _ _ _ hn (fun x hx => hs x (by rw [e]; exact List.mem_append_left _ hx))⟩, Ih h2 (fun x hx => hs x (by rw [e]; exact List.mem_append_right _ hx)), e⟩
 | [], _ :: _, _, _, h, _ => by simp [DataW.TrodAll] at h
 | [], [], _ :: _, _, h, _ => by simp [DataW.TrodAll] at h
 | _ :: _, [], _, _, h, _ => by simp [DataW.TrodAll] at h
 | _ :: _, _ :: _, [], _, h, _ => by simp [DataW.TrodAll] at h

/-- **A law that answers true, for whatever can be read.** -/
theorem aw {f : FuncId} {fn : Func} {s : ChangeSpec} {T : TypeId → Prop} {tb : TypeId} {W : World} {base : Nat} {args : Array Value} {ds gs : List (DataW H)} {before : List MemPlace} (K : Kids P (· < P.types.size)) (hz : ∀ t e, t < P.types.size → P.underlying t = some (.slice e) → 0 < P.cellsOf e)
  (PT : PlainT P T) (hT : ∀ t ∈ fn.params.toList, T t ∧ t < P.types.size) (hb : P.underlying tb = some .bool) (hres : fn.resultTypes = #[tb]) (hvars : s.vars = [])
  (hspec : ∀ ds : List (DataW H), ds.length = fn.params.size → s.fn H ds = { results := [.lit (.bool true)], args := ds })
  (hval : ∀ (j : Nat) t v, fn.params[j]? = some t → args[j]? = some v → Value.okWide P W .any base t v) (hW : DataW.Whole enc P fn.params.toList s.vars false W args.toList ds gs before)
  (hglob : Ic W)
  (main : ∀ ys : List AV, DReps P fn.params.toList ds ys → AFun P f ys [] (.v (.bool true))) :
  Calls P f args W (fun e W' => ∃ v, e = .returned v ∧ s.post enc P fn false true false false W args v W') := by
 have hW0 := hW
 obtain ⟨p, q, hA, hV, hpq, hfz, hnd⟩ := hW
 rw [hvars] at hV
 obtain ⟨rfl, rfl⟩ := trodVars_none hV
 rw [List.append_nil] at hpq
 subst hpq
 obtain ⟨ys, h1, h2, h3⟩ := Qi PT _ _ _ _ (fun t ht => (hT t ht).1) (fun j t v a b => hval j t v (by simpa using a) (by simpa using b)) hA
 have hlen := Mb hA
 have hc := main ys h1 0 (G0 W) W args (by simpa using h2.symm) (fun i y u a b => (h3 i y u a (by simpa using b)).lift) (kg W) (ki hglob)
 refine (callsIn_wide.1 hc).mono ?_
 rintro e W' ⟨v, G', r, H', rfl, hr, hH, hTg, hk, hl, rfl, rfl⟩
 have hv := Hu hr
 subst hv
 refine ⟨_, rfl, ds, [], before, [], before, [], hW0, ?_, ?_, ?_, ?_, fun h => by cases h⟩
 ·rw [hres, List.append_nil, hspec ds (by simpa using hlen)]
  exact trodAll_cons_mk (p := []) (shut_bool hb true) trodAll_mk0
 ·rw [List.append_nil, hspec ds (by simpa using hlen)]
  refine Ih (DataW.TrodAll.respare K hz (fun t ht => (hT t ht).2) hA (fun p hp => by simpa using hW0.lt p hp)) (fun p hp => ?_)
  have hlt := hW0.lt p hp
  have hb := (hk.old _ (Lk hlt)).1
  cases p with
  | cell b o => exact Cj hb
  | map b => exact hb
 ·rw [hvars, List.append_nil, hspec ds (by simpa using hlen)]
  rfl
 refine ⟨hk.os, hk.output, fun i hi => ?_⟩
 have hb := (hk.old i (Lk hi)).1
 rw [hb]
 cases ho : W.heap[i]? with
 | none => simp
 | some o => cases o <;> simp
end
end Go.SX
namespace Go.Proofs.YtbiheojgmikfpaaGreatDoor
open Go Go.SX Go.SX.Nb Go.ChangeShapes Go.RowKit
set_option maxRecDepth 100000

theorem own : ownKnob Tryz.prog.godebug = none := by kernel_rfl
theorem kids : Kids Tryz.prog (· < Tryz.prog.types.size) := kids_rows (by kernel_rfl) (by kernel_rfl)
theorem full : ∀ t e, t < Tryz.prog.types.size → Tryz.prog.underlying t = some (.slice e) → 0 < Tryz.prog.cellsOf e := slices_full_of Tryz.prog (by kernel_rfl)
theorem et {H : Type} : ∀ d : DataW H, 1 ≤ Rows.uptoBulk d
 | .lit (.string b) => by rw [Rows.uptoBulk]; omega
 | .lit (.bool _) => by simp [Rows.uptoBulk]
 | .lit (.int _ _) => by simp [Rows.uptoBulk]
 | .lit (.float _ _) => by simp [Rows.uptoBulk]
 | .lit .nil => by simp [Rows.uptoBulk]
 | .nil => by simp [Rows.uptoBulk]
 | .ptr d => by rw [Rows.uptoBulk]; omega
 | .slice a b => by rw [Rows.uptoBulk]; omega
 | .agg a => by rw [Rows.uptoBulk]; omega
 | .iface _ d => by rw [Rows.uptoBulk]; omega
 | .map a => by rw [Rows.uptoBulk]; omega
 | .held _ => by simp [Rows.uptoBulk]
theorem Oa {H : Type} : ∀ l : List (DataW H), l.length ≤ Rows.uptoBulkAll l ∧ ∀ d ∈ l, Rows.uptoBulk d ≤ Rows.uptoBulkAll l
 | [] => ⟨Nat.zero_le _, fun d h => by cases h⟩
 | d :: r => by
  obtain ⟨h1, h2⟩ := Oa r
  have := et d
  rw [Rows.uptoBulkAll, List.length_cons]
  refine ⟨by omega, fun x hx => ?_⟩
  rcases List.mem_cons.1 hx with rfl | hx
  ·omega
  have := h2 x hx; omega
theorem ax {H : Type} : Bulk (Rows.uptoBulk (H := H)) where
 str := fun bs => by rw [Rows.uptoBulk]; omega
 slice := fun elems spare => by
  obtain ⟨h1, h2⟩ := Oa elems
  rw [Rows.uptoBulk]
  exact ⟨by omega, fun d hd => by have := h2 d hd; omega⟩
 agg := fun parts d hd => by
  have := (Oa parts).2 d hd
  rw [Rows.uptoBulk]
  omega

/-- What the rows of this seat list. -/
def md : List (String × DataW Unit) := Rows.planLinesUptoRow.laid
theorem km {W : World} (h : laidMet Tryz.prog md W) : Lib.TabIs Tryz.prog W "internal/strconv.uint64pow10" .u64 Lib.pow10Tab :=
 Lib.tabIs_of_head (g := 3) (t := 205) (e := 135) (n := 20) (by kernel_rfl) (by kernel_rfl) (by kernel_rfl) (by kernel_rfl) (by kernel_rfl) (by kernel_rfl) h.tail.tail
theorem ay {P : Program} {W : World} {n : String} {g : Nat} {cs : Array Value} (hg : P.globalNamed n = some g) (h : W.var? P n = some cs) : ∃ t f, W.heap[g]? = some (.cells cs t f) := by
 unfold World.var? at h
 rw [hg] at h
 simp only [Option.bind_some] at h
 split at h
 ·rename_i cs' t f e
  injection h with h
  subst h
  exact ⟨t, f, e⟩
 cases h
theorem glob {W : World} [E : ErrAt] (h : W.ShapedOpen Tryz.prog) (hl : laidMet Tryz.prog md W) : Ic W := by
 intro x hx
 have hx' : x ∈ Tu := hx
 unfold Tu at hx'
 simp only [List.mem_cons, List.mem_nil_iff, or_false] at hx'
 rcases hx' with rfl | rfl
 ·obtain ⟨m, hm⟩ := cell_of_shapedOpen_int (g := 0) (t := 3) (zero := #[.int .i64 0]) (k := .i64) h (of_decide_eq_true (by kernel_rfl)) (by kernel_rfl) rfl (by kernel_rfl) (by kernel_rfl) Tryz.underlying3
  obtain ⟨cs, hh, hs, _⟩ := h.1 0 #[.int .i64 0] 3 (of_decide_eq_true (by kernel_rfl)) (by kernel_rfl)
  have hs' : cs.size = 1 := hs
  have h1 : 0 < cs.size := by omega
  have hc : cs[0] = .int .i64 m := by
   simp [World.cell?, hh, h1] at hm
   exact hm
  have : cs = #[.int .i64 m] := by
   apply Array.ext
   ·simpa using hs'
   intro i h1 h2
   have : i = 0 := by omega
   subst this
   simpa using hc
  rw [this] at hh
  exact ⟨_, hh, m, 3, _, rfl⟩
 obtain ⟨t, f, e⟩ := ay (g := 3) (by kernel_rfl) (km hl)
 exact ⟨_, e, t, f, rfl⟩
end Go.Proofs.YtbiheojgmikfpaaGreatDoor
namespace Go.SX.Nb
open Go Go.SX Go.Proofs
variable [ErrAt]
set_option maxRecDepth 4000
mutual
def depthE : Expr → Nat
 | .mk _ _ _ k => Ce k + 1
def Ce : List Expr → Nat
  | [] => 0
  | e :: r => max (depthE e) (Ce r)
 end
mutual
def Cm (p : Expr → Bool) : Expr → Bool
 | .mk o t v k => p (.mk o t v k) && Fe p k
def Fe (p : Expr → Bool) : List Expr → Bool
  | [] => true
  | e :: r => Cm p e && Fe p r
 end
mutual
def Fm : Expr → List Expr
 | .mk o t v k => .mk o t v k :: D0 k
def D0 : List Expr → List Expr
  | [] => []
  | e :: r => Fm e ++ D0 r
 end
theorem J1 (e : Expr) : depthE e = Ce e.kids + 1 := by cases e; rfl
theorem Cp (p : Expr → Bool) (e : Expr) : Cm p e = (p e && Fe p e.kids) := by cases e; rfl
theorem Qj (e : Expr) : Fm e = e :: D0 e.kids := by cases e; rfl
theorem Jl : ∀ a b, Ce (a ++ b) = max (Ce a) (Ce b)
 | [], b => by rw [List.nil_append, Ce, Nat.zero_max]
 | e :: r, b => by rw [List.cons_append, Ce, Ce, Jl r b, Nat.max_assoc]
theorem Ft : ∀ a b, At (a ++ b) = At a + At b
 | [], b => by rw [List.nil_append, At, Nat.zero_add]
 | e :: r, b => by rw [List.cons_append, At, At, Ft r b, Nat.add_assoc]
theorem Mc (p : Expr → Bool) : ∀ a b, Fe p (a ++ b) = (Fe p a && Fe p b)
 | [], b => by rw [List.nil_append, Fe, Bool.true_and]
 | e :: r, b => by rw [List.cons_append, Fe, Fe, Mc p r b, Bool.and_assoc]
theorem Jm : ∀ a b, D0 (a ++ b) = D0 a ++ D0 b
 | [], b => rfl
 | e :: r, b => by rw [List.cons_append, D0, D0, Jm r b, List.append_assoc]
theorem Md (l : List Expr) {x : Nat} (h : x < l.length) : Ce (l.take (x + 1)) = max (Ce (l.take x)) (depthE l[x]) := by
 rw [List.take_succ_eq_append_getElem h, Jl, Ce, Ce, Nat.max_zero]
theorem Wr (l : List Expr) {x : Nat} (h : x < l.length) : At (l.take (x + 1)) = At (l.take x) + sizeE l[x] := by
 rw [List.take_succ_eq_append_getElem h, Ft, At, At, Nat.add_zero]
theorem Cg (p : Expr → Bool) : ∀ l : List Expr, Fe p l = true ↔ ∀ y ∈ l, Cm p y = true
 | [] => by simp [Fe]
 | e :: r => by rw [Fe, Bool.and_eq_true, Cg p r]; simp
mutual
theorem Ex : ∀ (d : Int) (e : Expr), (Bc d e).length = sizeE e
 | d, .mk o t v k => by rw [Bc, sizeE, List.length_cons, Ob (d + 1) k, Nat.add_comm]
theorem Ob : ∀ (d : Int) (l : List Expr), (Ap d l).length = At l
  | d, [] => rfl
  | d, e :: r => by rw [Ap, At, List.length_append, Ex d e, Ob d r]
 end
mutual
theorem K6 : ∀ (d : Int) (e : Expr), (Bc d e).map (·.2) = Fm e
 | d, .mk o t v k => by rw [Bc, Fm, List.map_cons, Oc (d + 1) k]
theorem Oc : ∀ (d : Int) (l : List Expr), (Ap d l).map (·.2) = D0 l
  | d, [] => rfl
  | d, e :: r => by rw [Ap, D0, List.map_append, K6 d e, Oc d r]
 end
mutual
theorem Qk (p : Expr → Bool) : ∀ e : Expr, (Fm e).all p = Cm p e
 | .mk o t v k => by rw [Fm, Cm, List.all_cons, Od p k]
theorem Od (p : Expr → Bool) : ∀ l : List Expr, (D0 l).all p = Fe p l
  | [] => rfl
  | e :: r => by rw [D0, Fe, List.all_append, Qk p e, Od p r]
 end
theorem az (p : Expr → Bool) (d : Int) (e : Expr) : ((Bc d e).all fun it => p it.2) = Cm p e := by
 rw [← Qk p e, ← K6 d e, List.all_map]
 rfl
def Hx (m : Int) (L : List (Int × Expr)) : Int := L.foldl (fun m it => max m it.1) m
mutual
theorem Oe : ∀ (d m : Int) (e : Expr), Hx m (Bc d e) = max m (d - 1 + depthE e)
 | d, m, .mk o t v k => by
  rw [Bc, depthE]
  show Hx (max m d) (Ap (d + 1) k) = _
  rw [Of (d + 1) (max m d) k (by omega)]
  omega
theorem Of : ∀ (d m : Int) (l : List Expr), d - 1 ≤ m → Hx m (Ap d l) = max m (d - 1 + Ce l)
  | d, m, [], h => by
    rw [Ap, Ce]
    show m = _
    omega
  | d, m, e :: r, h => by
    rw [Ap, Ce]
    unfold Hx
    rw [List.foldl_append]
    show Hx (Hx m (Bc d e)) (Ap d r) = _
    rw [Oe d m e, Of d _ r (by omega)]
    omega
 end
theorem U7 (e : Expr) : Hx 0 (Bc 1 e) = depthE e := by rw [Oe]; omega
theorem U8 : ∀ (L : List (Int × Expr)) (m b : Int), m ≤ b → (Hx m L ≤ b ↔ ∀ it ∈ L, it.1 ≤ b)
 | [], m, b, h => by simp [Hx, h]
 | it :: r, m, b, h => by
  show Hx (max m it.1) r ≤ b ↔ _
  rcases Decidable.em (it.1 ≤ b) with h1 | h1
  ·rw [U8 r (max m it.1) b (by omega)]
   simp [h1]
  constructor
  ·intro h2
   have : ∀ (r : List (Int × Expr)) (m : Int), m ≤ Hx m r := by
    intro r
    induction r with
    | nil => intro m; exact Int.le_refl _
    | cons a r ih => intro m; have := ih (max m a.1); show m ≤ Hx (max m a.1) r; omega
   have := this r (max m it.1)
   omega
  intro h2
  exact absurd (h2 it (by simp)) h1
theorem kn (e : Expr) {b : Nat} : (∀ it ∈ Bc 1 e, it.1 ≤ (b : Int)) ↔ depthE e ≤ b := by
 rw [← U8 (Bc 1 e) 0 b (by omega), U7]
 omega
def Aa (e : Expr) : Bool := (decide (depthE e ≤ 30) && decide (sizeE e ≤ 300)) && Cm Bp e
theorem Bx (e : Expr) : Ad e = Aa e := by
 have hpos : 1 ≤ sizeE e := by rw [El]; omega
 rw [Bool.eq_iff_iff]
 unfold Ad Aa
 rw [List.all_eq_true]
 simp only [Bool.and_eq_true, decide_eq_true_eq, List.mem_range, Ex]
 rw [← kn e, ← az Bp 1 e, List.all_eq_true]
 constructor
 ·intro h
  have key : ∀ (k : Nat) (hk : k < (Bc 1 e).length), Bp (Bc 1 e)[k].2 = true ∧ (Bc 1 e)[k].1 ≤ 30 ∧ (k : Int) + 1 ≤ 300 := fun k hk => by
   have := h k (by rw [Ex] at hk; exact hk)
   rw [S4 (List.getElem?_eq_getElem hk)] at this
   simp only [Bool.not_eq_true', Bool.or_eq_false_iff, Bool.not_eq_false', decide_eq_false_iff_not] at this
   exact ⟨this.1.1, by have := this.1.2; omega, by have := this.2; omega⟩
  refine ⟨⟨fun it hit => ?_, ?_⟩, fun it hit => ?_⟩
  ·obtain ⟨k, hk, rfl⟩ := List.getElem_of_mem hit
   exact (key k hk).2.1
  ·have := (key (sizeE e - 1) (by rw [Ex]; omega)).2.2
   omega
  obtain ⟨k, hk, rfl⟩ := List.getElem_of_mem hit
  exact (key k hk).1
 rintro ⟨⟨h1, h2⟩, h3⟩ k hk
 have hk' : k < (Bc 1 e).length := by rw [Ex]; exact hk
 rw [S4 (List.getElem?_eq_getElem hk')]
 have a1 := h1 _ (List.getElem_mem hk')
 have a3 := h3 _ (List.getElem_mem hk')
 have a3' : Bp (Bc 1 e)[k].2 = true := a3
 rw [a3']
 simp only [Bool.not_eq_true', Bool.or_eq_false_iff, Bool.not_true, decide_eq_false_iff_not]
 exact ⟨⟨trivial, by have : (Bc 1 e)[k].1 ≤ (30 : Int) := a1; omega⟩, by omega⟩
/-- Its number is one of 64 bits. -/
def Fu (e : Expr) : Bool := decide (-9223372036854775808 ≤ e.val.n) && decide (e.val.n ≤ 9223372036854775807)
/-! Names. -/
def Db (l : List Str) (e : Expr) : List Str := if (e.op == 2) && !l.contains e.text then l ++ [e.text] else l
def B4 (e : Expr) : List Str := (Fm e).foldl Db []
def Em (s : Str) (e : Expr) : Bool := (Fm e).any fun y => (y.op == 2) && (y.text == s)
def Dh (s : Str) (l : List Expr) : Bool := (D0 l).any fun y => (y.op == 2) && (y.text == s)
theorem Dd (s : Str) (e : Expr) : Em s e = (((e.op == 2) && (e.text == s)) || Dh s e.kids) := by unfold Em Dh; rw [Qj, List.any_cons]
theorem Ck (s : Str) (e : Expr) (r : List Expr) : Dh s (e :: r) = (Em s e || Dh s r) := by unfold Em Dh; rw [D0, List.any_append]
theorem ko (s : Str) (l : List Str) (e : Expr) : s ∈ Db l e ↔ s ∈ l ∨ ((e.op == 2) && (e.text == s)) = true := by
 unfold Db
 split
 ·rename_i h
  simp only [Bool.and_eq_true, beq_iff_eq] at h ⊢
  simp only [List.mem_append, List.mem_cons, List.not_mem_nil, or_false]
  constructor
  ·rintro (h1 | h1)
   ·exact .inl h1
   exact .inr ⟨h.1, h1.symm⟩
  rintro (h1 | h1)
  ·exact .inl h1
  exact .inr h1.2.symm
 rename_i h
 simp only [Bool.and_eq_true, beq_iff_eq, not_and, Bool.not_eq_true', Bool.not_eq_false, List.contains_iff_mem] at h ⊢
 constructor
 ·exact .inl
 rintro (h1 | ⟨h1, rfl⟩)
 ·exact h1
 exact h h1
theorem U9 (s : Str) : ∀ (L : List Expr) (l : List Str), s ∈ L.foldl Db l ↔ s ∈ l ∨ (L.any fun y => (y.op == 2) && (y.text == s)) = true
 | [], l => by simp
 | e :: r, l => by
  rw [List.foldl_cons, U9 s r, ko, List.any_cons, Bool.or_eq_true, or_assoc]
theorem Ll (s : Str) (e : Expr) : (B4 e).contains s = Em s e := by
 rw [Bool.eq_iff_iff, List.contains_iff_mem]
 unfold B4 Em
 rw [U9]
 simp
theorem Y1 (l : List Str) (e : Expr) : (Db l e).length ≤ l.length + 1 := by
 unfold Db; split <;> simp
theorem Ua : ∀ (L : List Expr) (l : List Str), (L.foldl Db l).length ≤ l.length + L.length
 | [], l => by simp
 | e :: r, l => by
  have h1 := Ua r (Db l e)
  have h2 := Y1 l e
  rw [List.foldl_cons, List.length_cons]
  omega
theorem b6 (e : Expr) : (Fm e).length = sizeE e := by rw [← K6 1 e, List.length_map, Ex]
mutual
def Dx (s : Str) (y : Expr) : Expr → Expr
 | .mk o t v k => if (o == 2) && (t == s) then y else .mk o t v (Q3 s y k)
def Q3 (s : Str) (y : Expr) : List Expr → List Expr
  | [] => []
  | e :: r => Dx s y e :: Q3 s y r
 end
theorem Ub (s : Str) (y : Expr) : ∀ l, Q3 s y l = l.map (Dx s y)
 | [] => rfl
 | e :: r => by rw [Q3, Ub s y r]; rfl
theorem Y2 (s : Str) (y e : Expr) : Dx s y e = if (e.op == 2) && (e.text == s) then y else .mk e.op e.text e.val (e.kids.map (Dx s y)) := by
 cases e with
 | mk o t v k => rw [Dx, Ub]; rfl
mutual
def eqE : Expr → Expr → Bool
 | .mk o t v k, .mk o' t' v' k' => ((((o == o') && (t == t')) && ((v.kind == v'.kind && v.n == v'.n) && v.s == v'.s))) && eqL k k'
def eqL : List Expr → List Expr → Bool
  | [], [] => true
  | e :: r, e' :: r' => eqE e e' && eqL r r'
  | _, _ => false
 end
theorem eu (x y : Expr) : eqE x y = ((((x.op == y.op) && (x.text == y.text)) && ((x.val.kind == y.val.kind && x.val.n == y.val.n) && x.val.s == y.val.s)) && eqL x.kids y.kids) := by
 cases x; cases y; rw [eqE]; rfl
mutual
theorem S8 : ∀ x y : Expr, eqE x y = true ↔ x = y
 | .mk o t v k, .mk o' t' v' k' => by
  rw [eqE]
  simp only [Bool.and_eq_true, beq_iff_eq, L1 k k', Expr.mk.injEq]
  constructor
  ·rintro ⟨⟨⟨rfl, rfl⟩, ⟨h1, h2⟩, h3⟩, rfl⟩
   refine ⟨rfl, rfl, ?_, rfl⟩
   cases v; cases v'
   simp_all
  rintro ⟨rfl, rfl, rfl, rfl⟩
  exact ⟨⟨⟨rfl, rfl⟩, ⟨rfl, rfl⟩, rfl⟩, rfl⟩
theorem L1 : ∀ x y : List Expr, eqL x y = true ↔ x = y
  | [], [] => by simp [eqL]
  | [], e :: r => by simp [eqL]
  | e :: r, [] => by simp [eqL]
  | e :: r, e' :: r' => by rw [eqL, Bool.and_eq_true, S8 e e', L1 r r', List.cons.injEq]
 end
theorem kp : ∀ {x y : List Expr}, eqL x y = true → x.length = y.length := fun h => by rw [(L1 _ _).1 h]
theorem ew (x : Expr) : eqE x x = true := (S8 x x).2 rfl
mutual
theorem Uc (s : Str) (y : Expr) : ∀ x : Expr, Em s x = false → Dx s y x = x
 | .mk o t v k, h => by
  rw [Dd, Bool.or_eq_false_iff] at h
  have h1 : ((o == 2) && (t == s)) = false := h.1
  rw [Dx, if_neg (by rw [h1]; simp), Ql s y k h.2]
theorem Ql (s : Str) (y : Expr) : ∀ l : List Expr, Dh s l = false → Q3 s y l = l
  | [], h => rfl
  | e :: r, h => by
    rw [Ck, Bool.or_eq_false_iff] at h
    rw [Q3, Uc s y e h.1, Ql s y r h.2]
 end
/-! A node by itself, and marks. -/
theorem S9 {of : Str} {ws : List Str} (h : of = If ws) (hp : ∀ w ∈ ws, (32 : UInt8) ∉ w) (s : Str) : Iy s of = (!(s == []) && ws.contains s) := by
 unfold Iy
 rw [U5]
 cases hb : s.contains 32 with
 | false =>
  have h2 : (32 : UInt8) ∉ s := by simpa using hb
  rw [h, Ga s h2 ws hp, Bool.not_false, Bool.and_true]
  congr 1
  rw [List.contains_eq_any_beq]
  congr 1
  funext w
  rw [Bool.eq_iff_iff, beq_iff_eq, beq_iff_eq]
  exact eq_comm
 | true =>
  have h2 : (32 : UInt8) ∈ s := by simpa using hb
  have h3 : ws.contains s = false := by
   rw [Bool.eq_false_iff]
   intro h4
   exact hp s (by simpa using h4) h2
  rw [h3]
  simp
def levels : List (List Str) := [[[111, 114]], [[97, 110, 100]], [], [[61], [33, 61], [60], [60, 61], [62], [62, 61]], [[43], [45], [38]], [[42], [47], [37]]]
def Aj (s : Str) : Int := match levels.findIdx? (fun l => l.contains s) with | some i => i | none => -1
def Lm : List Str := [[111, 114], [], [97, 110, 100], [], [61], [33, 61], [60], [60, 61], [62], [62, 61], [], [43], [45], [38], [], [42], [47], [37]]
theorem Ws : Iz = If Lm := by kernel_rfl
theorem Ud : ∀ w ∈ Lm, (32 : UInt8) ∉ w := by decide
theorem Wt (s : Str) : Iy s Iz = decide (0 ≤ Aj s) := by
 rw [S9 Ws Ud s]
 have h1 : decide (0 ≤ Aj s) = levels.any (fun l => l.contains s) := by
  unfold Aj
  cases h : levels.findIdx? (fun l => l.contains s) with
  | some i =>
   have : levels.any (fun l => l.contains s) = true := by
    have := List.findIdx?_eq_some_iff_getElem.1 h
    obtain ⟨hi, hp, _⟩ := this
    exact List.any_eq_true.2 ⟨_, List.getElem_mem hi, hp⟩
   rw [this]
   simp
  | none =>
   have := List.findIdx?_eq_none_iff.1 h
   have e : levels.any (fun l => l.contains s) = false := by
    rw [List.any_eq_false]
    intro l hl
    rw [this l hl]
    simp
   rw [e]
   rfl
 rw [h1]
 by_cases h0 : s = []
 ·subst h0; rfl
 have : (s == []) = false := by simpa using h0
 rw [this, Bool.not_false, Bool.true_and]
 simp [levels, Lm, h0, Bool.or_assoc]
def D5 (e : Expr) : Bool :=
 if e.op == 1 then ((Cd e.val && decide (0 ≤ e.val.n)) && (e.text == [])) && ((e.kids.length : Int) == 0)
 else if !(H4 e.val) then false
 else if e.op == 2 then Dy e.text && ((e.kids.length : Int) == 0)
 else if e.op == 3 || e.op == 4 then (e.text == []) && ((e.kids.length : Int) == 1)
 else if e.op == 5 then decide (0 ≤ Aj e.text) && ((e.kids.length : Int) == 2)
 else if e.op == 6 then Bb e.text == (e.kids.length : Int)
 else false
theorem Ii (e : Expr) : Bp e = D5 e := by
 unfold Bp D5
 rw [Wt, Ca]
 cases H4 e.val <;> simp
/-! What is wide. -/
def Ln (e : Expr) : Bool := ((decide ((100 : Int) < e.text.length) || decide ((400 : Int) < e.val.s.length)) || decide ((100 : Int) < e.kids.length))
/-- Among trees, when n have been seen: is one too much? -/
def Jn (l : List Expr) (n : Nat) : Bool := decide (500 < n + l.length) || l.any Ln
def E0 : Nat → List Expr → Nat → Bool
 | 0, l, n => !l.isEmpty
 | f + 1, l, n => if l.isEmpty then false else if Jn l n then true else if decide ((500 : Int) < (l.flatMap Expr.kids).length) then true else E0 f (l.flatMap Expr.kids) (n + l.length)
theorem Hl : ∀ l : List Expr, At l = l.length + At (l.flatMap Expr.kids)
 | [] => rfl
 | e :: r => by
  rw [At, El, List.flatMap_cons, Ft, Hl r, List.length_cons]
  omega
theorem Og {l : List Expr} {n : Nat} (h : Jn l n = false) : n + l.length ≤ 500 ∧ ∀ e ∈ l, Ln e = false := by
 unfold Jn at h
 simp only [Bool.or_eq_false_iff, decide_eq_false_iff_not, List.any_eq_false, Bool.not_eq_true] at h
 exact ⟨by omega, h.2⟩
theorem Sa {e : Expr} (h : Ln e = false) : e.text.length ≤ 100 ∧ e.val.s.length ≤ 400 ∧ e.kids.length ≤ 100 := by
 unfold Ln at h
 simp only [Bool.or_eq_false_iff, decide_eq_false_iff_not] at h
 omega
theorem Qm {f : Nat} {l : List Expr} {n : Nat} (h : E0 (f + 1) l n = false) (hl : l.isEmpty = false) : Jn l n = false ∧ (l.flatMap Expr.kids).length ≤ 500 ∧ E0 f (l.flatMap Expr.kids) (n + l.length) = false := by
 rw [E0, if_neg (by rw [hl]; simp)] at h
 split at h
 ·cases h
 rename_i h1
 split at h
 ·cases h
 rename_i h2
 simp only [decide_eq_true_eq] at h2
 exact ⟨by simpa using h1, by omega, h⟩
theorem Y3 : ∀ (f : Nat) (l : List Expr) (n : Nat), E0 f l n = false → ∀ e ∈ l, okE f e ∧ Cm (fun y => !Ln y) e = true
 | 0, l, n, h, e, he => by
  have : l = [] := by simpa [E0] using h
  subst this
  cases he
 | f + 1, l, n, h, e, he => by
  have hl : l.isEmpty = false := by cases l <;> simp_all
  obtain ⟨h1, h2, h3⟩ := Qm h hl
  have h4 := Sa ((Og h1).2 e he)
  have ih := Y3 f _ _ h3
  have hk : ∀ y ∈ e.kids, okE f y ∧ Cm (fun y => !Ln y) y = true := fun y hy => ih y (List.mem_flatMap.2 ⟨e, he, hy⟩)
  refine ⟨⟨by omega, by omega, fun y hy => (hk y hy).1⟩, ?_⟩
  rw [Cp, (Og h1).2 e he, (Cg _ _).2 fun y hy => (hk y hy).2]
  rfl
theorem Qn : ∀ (f : Nat) (l : List Expr) (n : Nat), n ≤ 500 → E0 f l n = false → n + At l ≤ 500
 | 0, l, n, hn, h => by
  have : l = [] := by simpa [E0] using h
  subst this
  simpa [At] using hn
 | f + 1, l, n, hn, h => by
  by_cases hl : l.isEmpty = true
  ·have : l = [] := by simpa using hl
   subst this
   simpa [At] using hn
  have hl' : l.isEmpty = false := by simpa using hl
  obtain ⟨h1, h2, h3⟩ := Qm h hl'
  have := Qn f _ _ (Og h1).1 h3
  rw [Hl l]
  omega
def Oh (e : Expr) : Bool := E0 61 [e] 0
/-- A tree that is gone through. -/
structure Slim (e : Expr) : Prop where
 ok : okE 61 e
 size : sizeE e ≤ 500
 slim : Cm (fun y => !Ln y) e = true
theorem kq {e : Expr} (h : Oh e = false) : Slim e := by
 obtain ⟨h1, h2⟩ := Y3 _ _ _ h e (by simp)
 have := Qn _ _ _ (by decide) h
 exact ⟨h1, by simpa [At] using this, h2⟩
end Go.SX.Nb
namespace Go.Proofs.YtbiheojgmikfpaaGreatDoor
open Go Go.SX Go.SX.Nb Go.ChangeShapes Go.RowKit
set_option maxRecDepth 100000
theorem Wu {ys : List AV} (h : ∀ (i : Nat) (y : AV), ys[i]? = some y → ∃ e : Nb.Expr, y = A5 e ∧ Cm Fu e = true) : ∃ l : List Nb.Expr, ys = l.map A5 ∧ Fe Fu l = true := by
 induction ys with
 | nil => exact ⟨[], rfl, rfl⟩
 | cons y ys ih =>
  obtain ⟨e, rfl, he⟩ := h 0 y rfl
  obtain ⟨l, rfl, hl⟩ := ih (fun i z hz => h (i + 1) z hz)
  exact ⟨e :: l, rfl, by rw [Fe, he, hl]; rfl⟩
theorem kr {H : Type} [ErrAt] (d : DataW H) (y : AV) (h : DRep Tryz.prog 58 d y) : ∃ v : Val, y = am v ∧ -9223372036854775808 ≤ v.n ∧ v.n ≤ 9223372036854775807 := by
 obtain ⟨ys, hn, rfl, hh⟩ := h.struct' ax Tryz.underlying58
 match ys, hn with
 | [y0, y1, y2], _ =>
  obtain ⟨d0, b0, h0⟩ := hh 0 _ y0 rfl rfl
  obtain ⟨d1, b1, h1⟩ := hh 1 _ y1 rfl rfl
  obtain ⟨d2, b2, h2⟩ := hh 2 _ y2 rfl rfl
  obtain ⟨k, rfl, rfl, _⟩ := h0.int' Tryz.underlying3
  obtain ⟨n, rfl, rfl, hn1, hn2⟩ := h1.int' Tryz.underlying2
  obtain ⟨s, rfl, rfl⟩ := h2.str' Tryz.underlying9
  exact ⟨⟨k, n, s⟩, rfl, hn1, hn2⟩
theorem ey {H : Type} [ErrAt] {t : TypeId} {d : DataW H} {y : AV} (h : DRep Tryz.prog t d y) : (t = 60 → ∃ e : Nb.Expr, y = A5 e ∧ Cm Fu e = true) ∧ (t = 53 → ∃ l : List Nb.Expr, y = .slice false 6 (l.map A5) ∧ Fe Fu l = true) := by
 induction h with
 | int hu _ => exact ⟨fun e => (by subst e; rw [Tryz.underlying60] at hu; cases hu), fun e => by subst e; rw [Tryz.underlying53] at hu; cases hu⟩
 | bool hu => exact ⟨fun e => (by subst e; rw [Tryz.underlying60] at hu; cases hu), fun e => by subst e; rw [Tryz.underlying53] at hu; cases hu⟩
 | str hu => exact ⟨fun e => (by subst e; rw [Tryz.underlying60] at hu; cases hu), fun e => by subst e; rw [Tryz.underlying53] at hu; cases hu⟩
 | nil hu =>
  refine ⟨fun e => (by subst e; rw [Tryz.underlying60] at hu; cases hu), fun e => ?_⟩
  subst e
  rw [Tryz.underlying53] at hu
  injection hu with hu
  injection hu with hu
  subst hu
  exact ⟨[], by rw [show Tryz.prog.cellsOf 60 = 6 by kernel_rfl]; rfl, rfl⟩
 | slice hu hn hh ih =>
  refine ⟨fun e => (by subst e; rw [Tryz.underlying60] at hu; cases hu), fun e => ?_⟩
  subst e
  rw [Tryz.underlying53] at hu
  injection hu with hu
  injection hu with hu
  subst hu
  rename_i elems spare ys
  obtain ⟨l, rfl, hl⟩ := Wu (ys := ys) (fun i y hy => by
   have hlt : i < elems.length := by rw [← hn]; exact (List.getElem?_eq_some_iff.1 hy).1
   exact (ih i elems[i] y (List.getElem?_eq_getElem hlt) hy).1 rfl)
  exact ⟨l, by rw [show Tryz.prog.cellsOf 60 = 6 by kernel_rfl], hl⟩
 | struct hu hn hn' hh ih =>
  refine ⟨fun e => ?_, fun e => by subst e; rw [Tryz.underlying53] at hu; cases hu⟩
  subst e
  rw [Tryz.underlying60] at hu
  injection hu with hu
  injection hu with hu
  subst hu
  rename_i parts ys
  match parts, hn, ys, hn' with
  | [p0, p1, p2, p3], _, [y0, y1, y2, y3], _ =>
   obtain ⟨o, rfl, rfl, _⟩ := (hh 0 _ p0 y0 rfl rfl rfl).int' Tryz.underlying3
   obtain ⟨s, rfl, rfl⟩ := (hh 1 _ p1 y1 rfl rfl rfl).str' Tryz.underlying9
   obtain ⟨v, rfl, hv1, hv2⟩ := kr p2 y2 (hh 2 _ p2 y2 rfl rfl rfl)
   obtain ⟨l, rfl, hl⟩ := (ih 3 _ p3 y3 rfl rfl rfl).2 rfl
   refine ⟨.mk o s v l, ?_, ?_⟩
   ·rw [Bg]; rfl
   rw [Cm, hl, Bool.and_true]
   show (decide (-9223372036854775808 ≤ v.n) && decide (v.n ≤ 9223372036854775807)) = true
   simp [hv1, hv2]
end Go.Proofs.YtbiheojgmikfpaaGreatDoor
namespace Go.SX
variable [GI : GlobInv]
open Classical Go.RowKit
section
variable {P : Program} {g : FuncId} {Hp : List AObj}
/-- Where a slice of vf values lies. -/
def u0 (w : World) (u : Value) (l : List Value) : Prop :=
 (u = .slice none 0 0 ∧ l = []) ∨ ∃ (ad : Addr) (c : Nat), u = .slice (some ad) l.length c ∧ l.length ≤ c ∧ (l ≠ [] → ad.spot = none) ∧ (∀ (j : Nat) (x : Value), l[j]? = some x → w.cell? ⟨ad.block, ad.off + j, none⟩ = some x)
theorem AFun.libSl {l xs : List Value} {o : Bool} {r : AV} {v : Value} (hr : ∀ G w, Rep G w none r v) (h : ∀ w u, Ic w → u0 w u l → Calls P g (u :: xs).toArray w (fun e w' => e = .returned v ∧ Below w.heap.size w w')) : AFun P g (.slice o 1 (l.map .v) :: xs.map .v) Hp r := by
 intro d G w vs hn hv hH hT
 have hn' : vs.size = xs.length + 1 := by simpa using hn
 have h0 : vs[0]? = some (vs[0]'(by omega)) := Array.getElem?_eq_getElem (by omega)
 have hvs : vs = ((vs[0]'(by omega)) :: xs).toArray := by
  apply Array.ext
  ·simpa using hn'
  intro i h1 h2
  cases i with
  | zero => rfl
  | succ i =>
   have hi : i < xs.length := by omega
   have hrp := hv (i + 1) (.v xs[i]) vs[i + 1] (by simp [hi]) (Array.getElem?_eq_getElem h1)
   have := Hu hrp
   simpa using this
 have hsl : u0 w (vs[0]'(by omega)) l := by
  have hrp := hv 0 _ _ rfl h0
  rcases Dn (.inl rfl) hrp with ⟨e, hl⟩ | ⟨ad, c, f, e, hc, hF, _⟩
  ·exact .inl ⟨e, by simpa using hl⟩
  rw [List.length_map] at e hc
  refine .inr ⟨ad, c, e, hc, fun hne => hF.spot (by simpa using hne), fun j x hj => ?_⟩
  have hx : (l.map AV.v)[j]? = some (.v x) := by rw [List.getElem?_map, hj]; rfl
  have h1 := (hF.cell j _ 0 _ hx rfl).2
  have h2 := Hu (hF.rep j _ 0 _ hx rfl)
  rw [h2] at h1
  simpa using h1
 rw [hvs]
 refine (callsIn_wide.2 (h w _ (fun x hx => let ⟨_, u, a, b⟩ := hT.glob x hx; ⟨u, a, b⟩) hsl)).mono ?_
 rintro e w' ⟨rfl, hb⟩
 obtain ⟨h1, h2⟩ := Nn hH hT hb
 exact ⟨v, G, r, Hp, rfl, (hr G w').lift, h1, h2, (Jx hT hb).keep _, rfl, rfl, rfl⟩
end
end Go.SX
