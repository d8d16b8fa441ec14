/- Texts on the way to this: The law LexTwice answers true for whatever can be read. (part 7) -/
import Derived.ReadAgain
import Derived.ChangeSame
import Derived.ChangeArms
import Derived.ChangeOld
import Derived.ChangeFn
import Derived.MapPlaces
import Derived.DataReads
import Derived.OpenShut
import Derived.RowKit
import Derived.Deep.DeepHandedRow
import Derived.Test.YtefgfjedonchdaaGreatDoorCards
import Derived.Test.YtefgfjedonchdaaGreatDoorTie
import Derived.Lay
import Derived.Lib.LaidTab
import Derived.Stop.LaidErr
import Derived.Shelf.Vars
import Derived.ChangeBears
import Derived.Laws.BytesString
import Derived.Test.YtefgfjedonchdaaGreatDoorLexTwiceCardSaidPart6
set_option linter.all false
namespace Go.SX
variable [GI : GlobInv]
open Classical Go.RowKit Go.ChangeShapes
section
variable {P : Program} {H : Type} {enc : TypeId × Value → H}

/-- The first ghost: whatever lies there is read for good. -/
noncomputable def G0 (W : World) : Gh := ⟨fun b o => if (W.cell? ⟨b, o, none⟩).isSome then .fix else .free, fun _ => 0, 0⟩
theorem G0_fix {W : World} {b o : Nat} {u : Value} (h : W.cell? ⟨b, o, none⟩ = some u) : (G0 W).tag b o = .fix := by simp [G0, h]
theorem G0_virgin {W : World} {b : Nat} (h : b < W.heap.size) : Virgin (G0 W) W b := ⟨h, fun o => by simp only [G0]; split <;> simp, fun i hi => absurd hi (Nat.not_lt_zero _)⟩
theorem G0_heap (W : World) : HeapRel (G0 W) [] W := ⟨fun i x h => by simp at h, rfl, fun i j hi => absurd hi (Nat.not_lt_zero _)⟩
theorem G0_tags {W : World} (h : GlobIn W) : TagOK (G0 W) W := by
  refine ⟨fun b o hb => ?_, fun b o i hb => ?_, fun b o L hb => ?_, fun x hx => ?_⟩
  · simp only [G0] at hb
    split at hb
    · rename_i hs; exact Option.isSome_iff_exists.1 hs
    · exact absurd rfl hb
  · simp only [G0] at hb; split at hb <;> cases hb
  · simp only [G0] at hb; split at hb <;> cases hb
  · obtain ⟨v, h1, h2⟩ := h x hx
    exact ⟨G0_virgin (Array.getElem?_eq_some_iff.1 h1).1, v, h1, h2⟩

/-- What a datum of a plain type reads as. -/
inductive DRep (P : Program) : TypeId → DataW H → AV → Prop
  | int {t : TypeId} {k : IntKind} {n : Int} (hu : P.underlying t = some (.int k)) (wf : (Lit.int k n).wf = true) : DRep P t (.lit (.int k n)) (.v (.int k n))
  | bool {t : TypeId} {b : Bool} (hu : P.underlying t = some .bool) : DRep P t (.lit (.bool b)) (.v (.bool b))
  | str {t : TypeId} {bs : List UInt8} (hu : P.underlying t = some .string) : DRep P t (.lit (.string bs)) (.v (sv bs))
  | nil {t e : TypeId} (hu : P.underlying t = some (.slice e)) : DRep P t .nil (.slice false (P.cellsOf e) [])
  | slice {t e : TypeId} {elems spare : List (DataW H)} {ys : List AV} (hu : P.underlying t = some (.slice e)) (hn : ys.length = elems.length)
      (h : ∀ (i : Nat) (d : DataW H) (y : AV), elems[i]? = some d → ys[i]? = some y → DRep P e d y) : DRep P t (.slice elems spare) (.slice false (P.cellsOf e) ys)
  | struct {t : TypeId} {fs : Array Field} {parts : List (DataW H)} {ys : List AV} (hu : P.underlying t = some (.struct fs)) (hn : parts.length = fs.size) (hn' : ys.length = fs.size)
      (h : ∀ (i : Nat) (f : Field) (d : DataW H) (y : AV), fs[i]? = some f → parts[i]? = some d → ys[i]? = some y → DRep P f.type d y) : DRep P t (.agg parts) (.agg (ys.flatMap AV.cells))

/-- Types that are made of numbers, texts, bools, slices and structs alone. -/
structure PlainT (P : Program) (T : TypeId → Prop) : Prop where
  look : ∀ t, T t → (P.cellsOf t = 1 ∧ ((∃ k, P.underlying t = some (.int k)) ∨ P.underlying t = some .bool ∨ P.underlying t = some .string ∨ (∃ e, P.underlying t = some (.slice e) ∧ T e ∧ 0 < P.cellsOf e))) ∨
    (∃ fs, P.underlying t = some (.struct fs) ∧ (∀ f ∈ fs.toList, T f.type) ∧ P.cellsOf t = (fs.toList.map fun f => P.cellsOf f.type).sum ∧
      ∀ (j : Nat) (f : Field), fs.toList[j]? = some f → f.offset = ((fs.toList.take j).map fun f => P.cellsOf f.type).sum)

/-- The reading of a row of cells. -/
def CRep (W : World) (y : AV) (cs : List Value) : Prop :=
  y.cells.length = cs.length ∧ (∀ c ∈ y.cells, c.one = true) ∧ ∀ (j : Nat) (c : AV) (v : Value), y.cells[j]? = some c → cs[j]? = some v → Rep (G0 W) W none c v

theorem CRep.v1 {W : World} {x : Value} (h : x.oneCell' = true) : CRep W (.v x) [x] :=
  ⟨rfl, by simp [AV.cells, AV.one, h], fun j c v h1 h2 => by
    match j with
    | 0 => simp [AV.cells] at h1 h2; subst h1; subst h2; exact .v _ _
    | j + 1 => simp [AV.cells] at h1⟩

theorem flat_get {f : AV → List AV} : ∀ (ys : List AV) (j : Nat) (c : AV), (ys.flatMap f)[j]? = some c → ∃ (i : Nat) (y : AV) (q : Nat), ys[i]? = some y ∧ (f y)[q]? = some c ∧ j = ((ys.take i).map fun y => (f y).length).sum + q
  | [], j, c, h => by simp at h
  | y :: r, j, c, h => by
    rw [List.flatMap_cons] at h
    rcases Nat.lt_or_ge j (f y).length with h' | h'
    · rw [List.getElem?_append_left h'] at h
      exact ⟨0, y, j, rfl, h, by simp⟩
    · rw [List.getElem?_append_right h'] at h
      obtain ⟨i, z, q, h1, h2, h3⟩ := flat_get r _ c h
      exact ⟨i + 1, z, q, h1, h2, by simp only [List.take_succ_cons, List.map_cons, List.sum_cons]; omega⟩
theorem choose_list {α : Type} {R : Nat → α → Prop} : ∀ (n : Nat), (∀ i, i < n → ∃ y, R i y) → ∃ ys : List α, ys.length = n ∧ ∀ (i : Nat) (y : α), ys[i]? = some y → R i y
  | 0, _ => ⟨[], rfl, fun i y h => by simp at h⟩
  | n + 1, h => by
    obtain ⟨ys, h1, h2⟩ := choose_list n (fun i hi => h i (by omega))
    obtain ⟨y, hy⟩ := h n (by omega)
    refine ⟨ys ++ [y], by simp [h1], fun i z hz => ?_⟩
    rcases Nat.lt_or_ge i n with h' | h'
    · rw [List.getElem?_append_left (by omega)] at hz; exact h2 i z hz
    · rw [List.getElem?_append_right (by omega)] at hz
      have : i = n := by
        have := (List.getElem?_eq_some_iff.1 hz).1
        simp at this; omega
      subst this
      rw [h1] at hz
      simp at hz
      exact hz ▸ hy
theorem map_sum_eq {α β : Type} {f : α → Nat} {g : β → Nat} : ∀ (l : List α) (m : List β), l.length = m.length → (∀ (i : Nat) (a : α) (b : β), l[i]? = some a → m[i]? = some b → f a = g b) → (l.map f).sum = (m.map g).sum
  | [], [], _, _ => rfl
  | [], b :: m, h, _ => by simp at h
  | a :: l, [], h, _ => by simp at h
  | a :: l, b :: m, h, hh => by
    simp only [List.map_cons, List.sum_cons]
    rw [hh 0 a b rfl rfl, map_sum_eq l m (by simpa using h) (fun i a b h1 h2 => hh (i + 1) a b h1 h2)]

theorem trod_rep {T : TypeId → Prop} (PT : PlainT P T) {W : World} : ∀ (n : Nat) (t : TypeId) (cs : List Value) (x : DataW H × List MemPlace), T t → DataW.trod enc P W 0 (fun _ => true) true n t cs = some x →
    ∃ y, DRep P t x.1 y ∧ CRep W y cs ∧ cs.length = P.cellsOf t := by
  intro n
  induction n with
  | zero => intro t cs x _ h; simp [DataW.trod] at h
  | succ n ih =>
    intro t cs x hT h
    rcases PT.look t hT with ⟨hc1, ⟨k, hu⟩ | hu | hu | ⟨e, hu, he, hz⟩⟩ | ⟨fs, hu, hf, hsum, hoff⟩
    · obtain ⟨m, rfl, rfl, hw⟩ := DataW.trod_int hu h
      exact ⟨_, .int hu hw, .v1 rfl, hc1.symm⟩
    · obtain ⟨b, rfl, rfl⟩ := DataW.trod_bool hu h
      exact ⟨_, .bool hu, .v1 rfl, hc1.symm⟩
    · obtain ⟨s, rfl, rfl, _⟩ := DataW.trod_string hu h
      exact ⟨_, .str hu, .v1 rfl, hc1.symm⟩
    · rcases DataW.trod_slice hu h with ⟨rfl, rfl⟩ | ⟨a, len, cap, elems, rest, m, hm, rfl, rfl, hb, hlc, hcm, hel, hE, _, _⟩
      · refine ⟨_, .nil hu, ⟨rfl, by simp [AV.cells, AV.one], fun j c v h1 h2 => ?_⟩, hc1.symm⟩
        match j with
        | 0 => simp [AV.cells] at h1 h2; subst h1; subst h2; exact .slice0 _ _ _
        | j + 1 => simp [AV.cells] at h1
      · injection hm with hm
        subst hm
        subst hel
        have hEi : ∀ i, i < elems.length → ∃ y, (∀ d, elems[i]? = some d → DRep P e d.1 y) ∧ ∃ ci, W.cells? 0 (a.add (i * P.cellsOf e)) (P.cellsOf e) = some ci ∧ CRep W y ci := fun i hi => by
          have h1 := hE i hi
          rw [List.getElem?_eq_getElem hi, Option.bind_eq_some_iff] at h1
          obtain ⟨ci, h2, h3⟩ := h1
          obtain ⟨y, h4, h5, _⟩ := ih e ci _ he h3
          exact ⟨y, fun d hd => by rw [List.getElem?_eq_getElem hi] at hd; injection hd with hd; subst hd; exact h4, ci, h2, h5⟩
        obtain ⟨ys, hyl, hys⟩ := choose_list elems.length hEi
        refine ⟨.slice false (P.cellsOf e) ys, .slice hu (by simp [hyl]) (fun i d y hd hy => ?_), ⟨rfl, by simp [AV.cells, AV.one], fun j c v h1 h2 => ?_⟩, hc1.symm⟩
        · rw [List.getElem?_map, Option.map_eq_some_iff] at hd
          obtain ⟨d', hd', rfl⟩ := hd
          exact (hys i y hy).1 d' hd'
        · match j with
          | j + 1 => simp [AV.cells] at h1
          | 0 =>
            simp [AV.cells] at h1 h2
            subst h1; subst h2
            by_cases h0 : elems.length = 0
            · have : ys = [] := List.eq_nil_of_length_eq_zero (by omega)
              subst this
              rw [h0]
              exact .sliceE _ _ _ _
            · have hspot : a.spot = none := by
                obtain ⟨ci, hci, _⟩ := (hys 0 ys[0] (List.getElem?_eq_getElem (by omega))).2
                obtain ⟨_, g1, g2⟩ := World.cells?_some hci
                have g3 := g2 0 hz
                rw [List.getElem?_eq_getElem (by omega)] at g3
                simp only [Nat.zero_mul, Addr.add, if_true] at g3
                unfold World.cell? at g3
                split at g3
                · split at g3
                  · cases g3
                  · rename_i hs; simpa using hs
                · cases g3
              refine .slice _ false _ ys a _ cap (fun i j => (W.cell? ⟨a.block, a.off + i * P.cellsOf e + j, none⟩).getD undef) hspot hyl.symm hlc (fun x hx => ?_) (fun x hx => ?_) (fun i x j y hx hy => ?_) (fun i x j y hx hy => ?_) (fun h => by cases h)
              · obtain ⟨i, hi⟩ := List.getElem?_of_mem hx
                obtain ⟨ci, hci, hcr⟩ := (hys i x hi).2
                rw [hcr.1]
                exact (World.cells?_some hci).2.1
              · obtain ⟨i, hi⟩ := List.getElem?_of_mem hx
                obtain ⟨ci, hci, hcr⟩ := (hys i x hi).2
                exact hcr.2.1
              · obtain ⟨ci, hci, hcr⟩ := (hys i x hx).2
                obtain ⟨_, g1, g2⟩ := World.cells?_some hci
                have hj : j < P.cellsOf e := by
                  have := (List.getElem?_eq_some_iff.1 hy).1
                  rw [hcr.1] at this; omega
                have g3 := g2 j hj
                rw [List.getElem?_eq_getElem (by omega), add_of_none hspot, add_of_none rfl] at g3
                exact ⟨G0_fix g3, by rw [g3]; rfl⟩
              · obtain ⟨ci, hci, hcr⟩ := (hys i x hx).2
                obtain ⟨_, g1, g2⟩ := World.cells?_some hci
                have hj : j < P.cellsOf e := by
                  have := (List.getElem?_eq_some_iff.1 hy).1
                  rw [hcr.1] at this; omega
                have g3 := g2 j hj
                rw [List.getElem?_eq_getElem (by omega), add_of_none hspot, add_of_none rfl] at g3
                simp only at g3
                rw [g3]
                exact hcr.2.2 j y _ hy (List.getElem?_eq_getElem (by omega))
    · obtain ⟨xs, m, hm, rfl, hcl, hxl, hX⟩ := DataW.trod_struct hu h
      injection hm with hm
      subst hm
      have hXi : ∀ i, i < fs.size → ∃ y, ∀ (f : Field), fs[i]? = some f → (∀ d, xs[i]? = some d → DRep P f.type d.1 y) ∧ CRep W y ((cs.drop f.offset).take (P.cellsOf f.type)) ∧ y.cells.length = P.cellsOf f.type := fun i hi => by
        have h1 := hX i fs[i] (Array.getElem?_eq_getElem hi)
        rw [List.getElem?_eq_getElem (by omega)] at h1
        obtain ⟨y, h2, h3, h4⟩ := ih _ _ _ (hf _ (by simp)) h1
        refine ⟨y, fun f hf' => ?_⟩
        rw [Array.getElem?_eq_getElem hi] at hf'
        injection hf' with hf'
        subst hf'
        exact ⟨fun d hd => by rw [List.getElem?_eq_getElem (by omega)] at hd; injection hd with hd; subst hd; exact h2, h3, by rw [h3.1, h4]⟩
      obtain ⟨ys, hyl, hys⟩ := choose_list fs.size hXi
      have hlenI : ∀ (i : Nat), ((ys.take i).map fun y => y.cells.length).sum = ((fs.toList.take i).map fun f => P.cellsOf f.type).sum := fun i => by
        refine map_sum_eq _ _ (by simp [hyl]) (fun j y f h1 h2 => ?_)
        rw [List.getElem?_take] at h1 h2
        split at h1
        · rename_i hj
          rw [if_pos hj] at h2
          exact (hys j y h1 f (by simpa using h2)).2.2
        · cases h1
      have htot : (ys.flatMap AV.cells).length = cs.length := by
        rw [List.length_flatMap, hcl, hsum]
        refine map_sum_eq _ _ (by simp [hyl]) (fun j y f h1 h2 => (hys j y h1 f (by simpa using h2)).2.2)
      refine ⟨.agg (ys.flatMap AV.cells), .struct hu (by simp [hxl]) hyl (fun i f d y hf' hd hy => ?_), ⟨htot, fun c hc => ?_, fun j c v h1 h2 => ?_⟩, hcl⟩
      · rw [List.getElem?_map, Option.map_eq_some_iff] at hd
        obtain ⟨d', hd', rfl⟩ := hd
        exact (hys i y hy f hf').1 d' hd'
      · obtain ⟨y, hy, hcy⟩ := List.mem_flatMap.1 hc
        obtain ⟨i, hi⟩ := List.getElem?_of_mem hy
        have hlt : i < fs.size := by rw [← hyl]; exact (List.getElem?_eq_some_iff.1 hi).1
        exact ((hys i y hi fs[i] (Array.getElem?_eq_getElem hlt)).2.1).2.1 c hcy
      · obtain ⟨i, y, q, g1, g2, rfl⟩ := flat_get ys j c h1
        have hlt : i < fs.size := by rw [← hyl]; exact (List.getElem?_eq_some_iff.1 g1).1
        obtain ⟨_, k2, k3⟩ := hys i y g1 fs[i] (Array.getElem?_eq_getElem hlt)
        have hq : q < P.cellsOf (fs[i]).type := by have := (List.getElem?_eq_some_iff.1 g2).1; omega
        refine k2.2.2 q c v g2 ?_
        rw [List.getElem?_take, if_pos hq, List.getElem?_drop, hoff i fs[i] (by simp [hlt]), ← hlenI i]
        exact h2

/-- A measure of data. -/
structure Bulk (B : DataW H → Nat) : Prop where
  str : ∀ bs, bs.length ≤ B (.lit (.string bs))
  slice : ∀ elems spare, elems.length ≤ B (.slice elems spare) ∧ ∀ d ∈ elems, B d ≤ B (.slice elems spare)
  agg : ∀ parts, ∀ d ∈ parts, B d ≤ B (.agg parts)
theorem DRep.int' {t : TypeId} {k : IntKind} {d : DataW H} {y : AV} (hu : P.underlying t = some (.int k)) (h : DRep P t d y) : ∃ n, d = .lit (.int k n) ∧ y = .v (.int k n) ∧ k.min ≤ n ∧ n ≤ k.max := by
  cases h with
  | int hu' wf => rw [hu] at hu'; injection hu' with e; injection e with e; subst e; exact ⟨_, rfl, rfl, by simpa [Lit.wf] using wf⟩
  | _ hu' => rw [hu] at hu'; cases hu'
theorem DRep.bool' {t : TypeId} {d : DataW H} {y : AV} (hu : P.underlying t = some .bool) (h : DRep P t d y) : ∃ b, d = .lit (.bool b) ∧ y = .v (.bool b) := by
  cases h with
  | bool hu' => exact ⟨_, rfl, rfl⟩
  | _ hu' => rw [hu] at hu'; cases hu'
theorem DRep.str' {t : TypeId} {d : DataW H} {y : AV} (hu : P.underlying t = some .string) (h : DRep P t d y) : ∃ s, d = .lit (.string s) ∧ y = .v (sv s) := by
  cases h with
  | str hu' => exact ⟨_, rfl, rfl⟩
  | _ hu' => rw [hu] at hu'; cases hu'
theorem DRep.slice' {t e : TypeId} {d : DataW H} {y : AV} {B : DataW H → Nat} (hB : Bulk B) {α : Type} (A : α → AV) (R : α → Prop) {b : Nat} (hu : P.underlying t = some (.slice e)) (h : DRep P t d y) (hb : B d ≤ b)
    (hE : ∀ d y, B d ≤ b → DRep P e d y → ∃ x, y = A x ∧ R x) : ∃ l : List α, y = .slice false (P.cellsOf e) (l.map A) ∧ l.length ≤ b ∧ ∀ x ∈ l, R x := by
  cases h with
  | nil hu' => rw [hu] at hu'; injection hu' with e'; injection e' with e'; subst e'; exact ⟨[], rfl, Nat.zero_le _, fun x hx => by cases hx⟩
  | slice hu' hn hh =>
    rw [hu] at hu'; injection hu' with e'; injection e' with e'; subst e'
    rename_i elems spare ys
    obtain ⟨h1, h2⟩ := hB.slice elems spare
    have key : ∀ (ys : List AV) (es : List (DataW H)), ys.length = es.length → (∀ d ∈ es, B d ≤ b) → (∀ (i : Nat) (d : DataW H) (y : AV), es[i]? = some d → ys[i]? = some y → DRep P e d y) → ∃ l : List α, ys = l.map A ∧ ∀ x ∈ l, R x := by
      intro ys
      induction ys with
      | nil => exact fun es _ _ _ => ⟨[], rfl, fun x hx => by cases hx⟩
      | cons y ys ih =>
        intro es hl hb2 hr
        cases es with
        | nil => simp at hl
        | cons d es =>
          obtain ⟨x, rfl, hx⟩ := hE d y (hb2 d (by simp)) (hr 0 d y rfl rfl)
          obtain ⟨l, rfl, hR⟩ := ih es (by simpa using hl) (fun d hd => hb2 d (by simp [hd])) (fun i d y a c => hr (i + 1) d y a c)
          exact ⟨x :: l, rfl, fun z hz => by
            rcases List.mem_cons.1 hz with rfl | hz
            · exact hx
            · exact hR z hz⟩
    obtain ⟨l, rfl, hR⟩ := key ys elems hn (fun d hd => Nat.le_trans (h2 d hd) hb) hh
    exact ⟨l, rfl, by simp at hn; omega, hR⟩
  | _ hu' => rw [hu] at hu'; cases hu'
theorem DRep.struct' {t : TypeId} {fs : Array Field} {d : DataW H} {y : AV} {B : DataW H → Nat} (hB : Bulk B) (hu : P.underlying t = some (.struct fs)) (h : DRep P t d y) :
    ∃ ys : List AV, ys.length = fs.size ∧ y = .agg (ys.flatMap AV.cells) ∧ ∀ (i : Nat) (f : Field) (z : AV), fs[i]? = some f → ys[i]? = some z → ∃ d', B d' ≤ B d ∧ DRep P f.type d' z := by
  cases h with
  | struct hu' hn hn' hh =>
    rw [hu] at hu'; injection hu' with e'; injection e' with e'; subst e'
    rename_i parts ys
    refine ⟨ys, hn', rfl, fun i f z h1 h2 => ?_⟩
    have hlt : i < parts.length := by rw [hn]; exact (Array.getElem?_eq_some_iff.1 h1).1
    exact ⟨parts[i], hB.agg parts _ (List.getElem_mem hlt), hh i f parts[i] z h1 (List.getElem?_eq_getElem hlt) h2⟩
  | _ hu' => rw [hu] at hu'; cases hu'

/-- An argument's reading. -/
theorem arg_rep {T : TypeId → Prop} (PT : PlainT P T) {W : World} {t : TypeId} {v : Value} {d : DataW H} {ps : List MemPlace} {b0 : Nat} (hT : T t) (hok : Value.okWide P W .any b0 t v) (h : DataW.Trod enc P W 0 (fun _ => true) true t v d ps) :
    ∃ y, DRep P t d y ∧ Rep (G0 W) W none y v := by
  obtain ⟨n, hn⟩ := h
  obtain ⟨y, h1, h2, h3⟩ := trod_rep PT n t _ _ hT hn
  refine ⟨y, h1, ?_⟩
  rcases PT.look t hT with ⟨hc1, hone⟩ | ⟨fs, hu, _⟩
  · have hva : ∀ cs, v ≠ .agg cs := fun cs e => by
      subst e
      rcases hone with ⟨k, hu⟩ | hu | hu | ⟨e, hu, he, hz⟩ <;> simp [Value.okWide, hu, Cell.okWide, Cell.ok] at hok
    have hvc : v.cells = #[v] := by cases v <;> first | rfl | exact absurd rfl (hva _)
    have hyc : y.cells = [y] := by
      cases h1 with
      | struct hu => rcases hone with ⟨k, hu'⟩ | hu' | hu' | ⟨e, hu', he, hz⟩ <;> rw [hu] at hu' <;> cases hu'
      | _ => rfl
    have := h2.2.2 0 y v (by rw [hyc]; rfl) (by rw [hvc]; rfl)
    exact this
  · obtain ⟨cs, rfl, hsz, _⟩ : ∃ cs, v = .agg cs ∧ cs.size = P.cellsOf t ∧ Row.okWide P W .any b0 t cs := by
      simp only [Value.okWide, hu] at hok
      exact hok
    cases h1 with
    | struct hu' hn1 hn2 hh =>
      refine .agg _ _ _ (by have := h2.1; simp only [AV.cells, Value.cells, Array.length_toList] at this; exact this.symm) h2.2.1 (fun i c u a b => h2.2.2 i c u a (by simpa [Value.cells] using b))
    | int hu' => rw [hu] at hu'; cases hu'
    | bool hu' => rw [hu] at hu'; cases hu'
    | str hu' => rw [hu] at hu'; cases hu'
    | nil hu' => rw [hu] at hu'; cases hu'
    | slice hu' => rw [hu] at hu'; cases hu'

def DReps (P : Program) : List TypeId → List (DataW H) → List AV → Prop
  | [], [], [] => True
  | t :: ts, d :: ds, y :: ys => DRep P t d y ∧ DReps P ts ds ys
  | _, _, _ => False

theorem DReps.cons' {t : TypeId} {ts : List TypeId} {ds : List (DataW H)} {ys : List AV} (h : DReps P (t :: ts) ds ys) : ∃ d ds' y ys', ds = d :: ds' ∧ ys = y :: ys' ∧ DRep P t d y ∧ DReps P ts ds' ys' := by
  match ds, ys, h with
  | d :: ds', y :: ys', ⟨h1, h2⟩ => exact ⟨d, ds', y, ys', rfl, rfl, h1, h2⟩
  | [], _, h => simp [DReps] at h
  | _ :: _, [], h => simp [DReps] at h
theorem DReps.nil' {ds : List (DataW H)} {ys : List AV} (h : DReps P [] ds ys) : ds = [] ∧ ys = [] := by
  match ds, ys, h with
  | [], [], _ => exact ⟨rfl, rfl⟩
  | [], _ :: _, h => simp [DReps] at h
  | _ :: _, _, h => simp [DReps] at h
theorem args_rep0 {T : TypeId → Prop} (PT : PlainT P T) {W : World} {b0 : Nat} : ∀ (ts : List TypeId) (vs : List Value) (ds : List (DataW H)) (ps : List MemPlace), (∀ t ∈ ts, T t) →
    (∀ (j : Nat) t v, ts[j]? = some t → vs[j]? = some v → Value.okWide P W .any b0 t v) → DataW.TrodAll enc P W 0 (fun _ => true) true ts vs ds ps →
    ∃ ys, DReps P ts ds ys ∧ ys.length = vs.length ∧ ∀ (i : Nat) (y : AV) (u : Value), ys[i]? = some y → vs[i]? = some u → Rep (G0 W) W none y u
  | [], [], [], _, _, _, _ => ⟨[], trivial, rfl, fun i y u h => by simp at h⟩
  | t :: ts, v :: vs, d :: ds, ps, hT, hok, ⟨p, q, h1, h2, _⟩ => by
    obtain ⟨y, k1, k2⟩ := arg_rep PT (hT t (by simp)) (hok 0 t v rfl rfl) h1
    obtain ⟨ys, k3, k4, k5⟩ := args_rep0 PT ts vs ds q (fun t ht => hT t (by simp [ht])) (fun j t v a b => hok (j + 1) t v a b) h2
    refine ⟨y :: ys, ⟨k1, k3⟩, by simp [k4], fun i z u a b => ?_⟩
    match i with
    | 0 => simp at a b; subst a; subst b; exact k2
    | i + 1 => exact k5 i z u a b
  | [], _ :: _, _, _, _, _, h => by simp [DataW.TrodAll] at h
  | [], [], _ :: _, _, _, _, h => by simp [DataW.TrodAll] at h
  | _ :: _, [], _, _, _, _, h => by simp [DataW.TrodAll] at h
  | _ :: _, _ :: _, [], _, _, _, h => by simp [DataW.TrodAll] at h

theorem trodAll_len {W : World} {sp : Nat → Bool} {hd : Bool} : ∀ {ts : List TypeId} {vs : List Value} {ds : List (DataW H)} {ps : List MemPlace}, DataW.TrodAll enc P W 0 sp hd ts vs ds ps → ds.length = ts.length
  | [], [], [], _, _ => rfl
  | _ :: _, _ :: _, _ :: _, _, ⟨_, _, _, h, _⟩ => by rw [List.length_cons, List.length_cons, trodAll_len h]
  | [], _ :: _, _, _, h => by simp [DataW.TrodAll] at h
  | [], [], _ :: _, _, h => by simp [DataW.TrodAll] at h
  | _ :: _, [], _, _, h => by simp [DataW.TrodAll] at h
  | _ :: _, _ :: _, [], _, h => by simp [DataW.TrodAll] at h
theorem trodAll_carry' {W W' : World} {sp : Nat → Bool} : ∀ {ts : List TypeId} {vs : List Value} {ds : List (DataW H)} {ps : List MemPlace}, DataW.TrodAll enc P W 0 sp true ts vs ds ps → (∀ p ∈ ps, W.sameAt W' p) → DataW.TrodAll enc P W' 0 sp true ts vs ds ps
  | [], [], [], _, h, _ => h
  | _ :: _, _ :: _, _ :: _, _, ⟨p, q, ⟨n, hn⟩, h2, e⟩, hs => ⟨p, q, ⟨n, DataW.trod_carry n _ _ _ hn (fun x hx => hs x (by rw [e]; exact List.mem_append_left _ hx))⟩, trodAll_carry' h2 (fun x hx => hs x (by rw [e]; exact List.mem_append_right _ hx)), e⟩
  | [], _ :: _, _, _, h, _ => by simp [DataW.TrodAll] at h
  | [], [], _ :: _, _, h, _ => by simp [DataW.TrodAll] at h
  | _ :: _, [], _, _, h, _ => by simp [DataW.TrodAll] at h
  | _ :: _, _ :: _, [], _, h, _ => by simp [DataW.TrodAll] at h

/-- **A law that answers true, for whatever can be read.** -/
theorem card_true {f : FuncId} {fn : Func} {s : ChangeSpec} {T : TypeId → Prop} {tb : TypeId} {W : World} {base : Nat} {args : Array Value} {ds gs : List (DataW H)} {before : List MemPlace} (K : Kids P (· < P.types.size)) (hz : ∀ t e, t < P.types.size → P.underlying t = some (.slice e) → 0 < P.cellsOf e)
    (PT : PlainT P T) (hT : ∀ t ∈ fn.params.toList, T t ∧ t < P.types.size) (hb : P.underlying tb = some .bool) (hres : fn.resultTypes = #[tb]) (hvars : s.vars = [])
    (hspec : ∀ ds : List (DataW H), ds.length = fn.params.size → s.fn H ds = { results := [.lit (.bool true)], args := ds })
    (hval : ∀ (j : Nat) t v, fn.params[j]? = some t → args[j]? = some v → Value.okWide P W .any base t v) (hW : DataW.Whole enc P fn.params.toList s.vars false W args.toList ds gs before)
    (hglob : GlobIn W)
    (main : ∀ ys : List AV, DReps P fn.params.toList ds ys → AFun P f ys [] (.v (.bool true))) :
    Calls P f args W (fun e W' => ∃ v, e = .returned v ∧ s.post enc P fn false true false false W args v W') := by
  have hW0 := hW
  obtain ⟨p, q, hA, hV, hpq, hfz, hnd⟩ := hW
  rw [hvars] at hV
  obtain ⟨rfl, rfl⟩ := trodVars_none hV
  rw [List.append_nil] at hpq
  subst hpq
  obtain ⟨ys, h1, h2, h3⟩ := args_rep0 PT _ _ _ _ (fun t ht => (hT t ht).1) (fun j t v a b => hval j t v (by simpa using a) (by simpa using b)) hA
  have hlen := trodAll_len hA
  have hc := main ys h1 0 (G0 W) W args (by simpa using h2.symm) (fun i y u a b => (h3 i y u a (by simpa using b)).lift) (G0_heap W) (G0_tags hglob)
  refine (callsIn_wide.1 hc).mono ?_
  rintro e W' ⟨v, G', r, H', rfl, hr, hH, hTg, hk, hl, rfl, rfl⟩
  have hv := rep_v hr
  subst hv
  refine ⟨_, rfl, ds, [], before, [], before, [], hW0, ?_, ?_, ?_, ?_, fun h => by cases h⟩
  · rw [hres, List.append_nil, hspec ds (by simpa using hlen)]
    exact trodAll_cons_mk (p := []) (shut_bool hb true) trodAll_mk0
  · rw [List.append_nil, hspec ds (by simpa using hlen)]
    refine trodAll_carry' (DataW.TrodAll.respare K hz (fun t ht => (hT t ht).2) hA (fun p hp => by simpa using hW0.lt p hp)) (fun p hp => ?_)
    have hlt := hW0.lt p hp
    have hb := (hk.old _ (G0_virgin hlt)).1
    cases p with
    | cell b o => exact cell_of_blk hb
    | map b => exact hb
  · rw [hvars, List.append_nil, hspec ds (by simpa using hlen)]
    rfl
  · refine ⟨hk.os, hk.output, fun i hi => ?_⟩
    have hb := (hk.old i (G0_virgin hi)).1
    rw [hb]
    cases ho : W.heap[i]? with
    | none => simp
    | some o => cases o <;> simp
end
end Go.SX
namespace Go.Proofs.YtefgfjedonchdaaGreatDoor
open Go Go.SX Go.SX.Nb Go.ChangeShapes Go.RowKit
set_option maxRecDepth 100000

theorem own : ownKnob Tryz.prog.godebug = none := by kernel_rfl
theorem kids : Kids Tryz.prog (· < Tryz.prog.types.size) := kids_rows (by kernel_rfl) (by kernel_rfl)
theorem full : ∀ t e, t < Tryz.prog.types.size → Tryz.prog.underlying t = some (.slice e) → 0 < Tryz.prog.cellsOf e := slices_full_of Tryz.prog (by kernel_rfl)
theorem bulk_one {H : Type} : ∀ d : DataW H, 1 ≤ Rows.uptoBulk d
  | .lit (.string b) => by rw [Rows.uptoBulk]; omega
  | .lit (.bool _) => by simp [Rows.uptoBulk]
  | .lit (.int _ _) => by simp [Rows.uptoBulk]
  | .lit (.float _ _) => by simp [Rows.uptoBulk]
  | .lit .nil => by simp [Rows.uptoBulk]
  | .nil => by simp [Rows.uptoBulk]
  | .ptr d => by rw [Rows.uptoBulk]; omega
  | .slice a b => by rw [Rows.uptoBulk]; omega
  | .agg a => by rw [Rows.uptoBulk]; omega
  | .iface _ d => by rw [Rows.uptoBulk]; omega
  | .map a => by rw [Rows.uptoBulk]; omega
  | .held _ => by simp [Rows.uptoBulk]
theorem bulk_all {H : Type} : ∀ l : List (DataW H), l.length ≤ Rows.uptoBulkAll l ∧ ∀ d ∈ l, Rows.uptoBulk d ≤ Rows.uptoBulkAll l
  | [] => ⟨Nat.zero_le _, fun d h => by cases h⟩
  | d :: r => by
    obtain ⟨h1, h2⟩ := bulk_all r
    have := bulk_one d
    rw [Rows.uptoBulkAll, List.length_cons]
    refine ⟨by omega, fun x hx => ?_⟩
    rcases List.mem_cons.1 hx with rfl | hx
    · omega
    · have := h2 x hx; omega
theorem bulk {H : Type} : Bulk (Rows.uptoBulk (H := H)) where
  str := fun bs => by rw [Rows.uptoBulk]; omega
  slice := fun elems spare => by
    obtain ⟨h1, h2⟩ := bulk_all elems
    rw [Rows.uptoBulk]
    exact ⟨by omega, fun d hd => by have := h2 d hd; omega⟩
  agg := fun parts d hd => by
    have := (bulk_all parts).2 d hd
    rw [Rows.uptoBulk]
    omega

/-- What the rows of this seat list. -/
def laidZ : List (String × DataW Unit) := Rows.lexNamesUptoRow.laid
theorem iface_row : ∀ u, Tryz.prog.typeName? 3 u = some "*errors.errorString" → u = 287 := by
  intro u hu
  exact typeName_ptr_named (nm := "errors.errorString") (by kernel_rfl) (by kernel_rfl) (by decide) u hu
theorem err_var {W : World} (h : laidMet Tryz.prog laidZ W) : ∃ a : Addr, W.var? Tryz.prog "strconv.ErrRange" = some #[.iface 287 (.pointer (some a))] := by
  have h' := h.tail.tail.tail.tail
  obtain ⟨a, s, h1, _⟩ := laid_sentinel (g := 3) (ti := 112) (tp := 287) (te := 289) (ts := 9) h' (by kernel_rfl) (by kernel_rfl) Tryz.underlying112 iface_row Tryz.underlying287 Tryz.underlying289 rfl rfl Tryz.underlying9 (by kernel_rfl) (by kernel_rfl)
  exact ⟨a, h1⟩
theorem tab_var {W : World} (h : laidMet Tryz.prog laidZ W) : Lib.TabIs Tryz.prog W "internal/strconv.uint64pow10" .u64 Lib.pow10Tab :=
  Lib.tabIs_of_head (g := 5) (t := 283) (e := 143) (n := 20) (by kernel_rfl) (by kernel_rfl) (by kernel_rfl) (by kernel_rfl) (by kernel_rfl) (by kernel_rfl) h.tail.tail
theorem var_block {P : Program} {W : World} {n : String} {g : Nat} {cs : Array Value} (hg : P.globalNamed n = some g) (h : W.var? P n = some cs) : ∃ t f, W.heap[g]? = some (.cells cs t f) := by
  unfold World.var? at h
  rw [hg] at h
  simp only [Option.bind_some] at h
  split at h
  · rename_i cs' t f e
    injection h with h
    subst h
    exact ⟨t, f, e⟩
  · cases h
theorem glob {W : World} [E : ErrAt] (h : W.ShapedOpen Tryz.prog) (hl : laidMet Tryz.prog laidZ W) (he : W.var? Tryz.prog "strconv.ErrRange" = some #[.iface 287 (.pointer (some E.b))]) : GlobIn W := by
  intro x hx
  have hx' : x ∈ globs := hx
  unfold globs at hx'
  simp only [List.mem_cons, List.mem_nil_iff, or_false] at hx'
  rcases hx' with rfl | rfl | rfl
  · obtain ⟨m, hm⟩ := cell_of_shapedOpen_int (g := 0) (t := 3) (zero := #[.int .i64 0]) (k := .i64) h (of_decide_eq_true (by kernel_rfl)) (by kernel_rfl) rfl (by kernel_rfl) (by kernel_rfl) Tryz.underlying3
    obtain ⟨cs, hh, hs, _⟩ := h.1 0 #[.int .i64 0] 3 (of_decide_eq_true (by kernel_rfl)) (by kernel_rfl)
    have hs' : cs.size = 1 := hs
    have h1 : 0 < cs.size := by omega
    have hc : cs[0] = .int .i64 m := by
      simp [World.cell?, hh, h1] at hm
      exact hm
    have : cs = #[.int .i64 m] := by
      apply Array.ext
      · simpa using hs'
      · intro i h1 h2
        have : i = 0 := by omega
        subst this
        simpa using hc
    rw [this] at hh
    exact ⟨_, hh, m, 3, _, rfl⟩
  · obtain ⟨t, f, e⟩ := var_block (g := 3) (by kernel_rfl) he
    exact ⟨_, e, t, f, rfl⟩
  · obtain ⟨t, f, e⟩ := var_block (g := 5) (by kernel_rfl) (tab_var hl)
    exact ⟨_, e, t, f, rfl⟩
end Go.Proofs.YtefgfjedonchdaaGreatDoor
namespace Go.SX.Nb
open Go Go.SX Go.Proofs
variable [ErrAt]
set_option maxRecDepth 4000
/-- The lexer from a place between two words on. -/
def lexG (f q : Nat) (s : Str) : List (Tok × Int) := itemsF f (q + gapM s) (s.drop (gapM s))
theorem itemsT_G (s : Str) : itemsT s = lexG (s.length + 1) 0 s := by unfold itemsT lexG; rw [Nat.zero_add]
theorem itemsF_step {f q : Nat} {s : Str} (h : s ≠ []) : ∃ (n : Nat), itemsF (f + 1) q s = (⟨(wordM s).1, (wordM s).2.1, q⟩, (wordM s).2.2.2) :: (if (wordM s).2.2.2 = 0 then lexG f (q + n) (s.drop n) else []) ∧ ((wordM s).2.2.2 = 0 → (wordM s).2.2.1 = (n : Int) ∧ 1 ≤ n ∧ n ≤ s.length) := by
  refine ⟨(wordM s).2.2.1.toNat, ?_, fun he => ?_⟩
  · rw [itemsF_cons h]
    simp only [beq_iff_eq]
    rfl
  · obtain ⟨n, h1, h2, h3⟩ := word_ok (s := s) (by cases s with | nil => exact absurd rfl h | cons c r => simp) he
    rw [h1]
    exact ⟨rfl, by simpa using h2, by simpa using h3⟩
theorem itemsF_fuel : ∀ (f f' q : Nat) (s : Str), s.length < f → s.length < f' → itemsF f q s = itemsF f' q s
  | 0, _, _, _, h, _ => by omega
  | _ + 1, 0, _, _, _, h => by omega
  | f + 1, g + 1, q, s, h1, h2 => by
    by_cases hs : s = []
    · subst hs; rfl
    · rw [itemsF_cons hs, itemsF_cons hs]
      congr 1
      by_cases he : (wordM s).2.2.2 = 0
      · obtain ⟨n, hn, k1, k2⟩ := word_ok (s := s) (by cases s with | nil => exact absurd rfl hs | cons c r => simp) he
        rw [he]
        simp only [beq_self_eq_true, if_true]
        rw [hn, Int.toNat_natCast]
        exact itemsF_fuel f g _ _ (by simp only [List.length_drop]; omega) (by simp only [List.length_drop]; omega)
      · rw [if_neg (by simpa using he), if_neg (by simpa using he)]
def shiftT (d : Nat) (it : Tok × Int) : Tok × Int := (⟨it.1.kind, it.1.text, it.1.at_ + d⟩, it.2)
theorem itemsF_shift (d : Nat) : ∀ (f q : Nat) (s : Str), itemsF f (q + d) s = (itemsF f q s).map (shiftT d)
  | 0, _, _ => rfl
  | f + 1, q, s => by
    by_cases hs : s = []
    · subst hs; rfl
    · rw [itemsF_cons hs, itemsF_cons hs, List.map_cons]
      congr 1
      split
      · have e : ∀ a b : Nat, q + d + a + b = q + a + b + d := fun a b => by omega
        rw [e, itemsF_shift d f]
      · rfl
theorem itemsF_ge : ∀ (f q : Nat) (s : Str), ∀ it ∈ itemsF f q s, q ≤ it.1.at_
  | 0, _, _, it, h => by cases h
  | f + 1, q, s, it, h => by
    by_cases hs : s = []
    · subst hs; cases h
    · rw [itemsF_cons hs] at h
      rcases List.mem_cons.1 h with rfl | h
      · exact Nat.le_refl _
      · split at h
        · have := itemsF_ge f _ _ it h
          omega
        · cases h

/-! ### Gaps -/
theorem skip_suffix : ∀ (s : Str) (b : Bool), s.drop (s.length - (skipB s b).length) = skipB s b
  | [], b => by cases b <;> rfl
  | c :: r, b => by
    have ih := skip_suffix r
    have hl := skip_le r
    have key : ∀ b', (c :: r).drop ((c :: r).length - (skipB r b').length) = skipB r b' := fun b' => by
      have := hl b'
      rw [List.length_cons, show r.length + 1 - (skipB r b').length = (r.length - (skipB r b').length) + 1 by omega, List.drop_succ_cons]
      exact ih b'
    cases b with
    | false =>
      rw [skipB]
      split
      · exact key _
      · split
        · exact key _
        · simp
    | true =>
      rw [skipB]
      split
      · exact key _
      · exact key _
theorem gap_drop (s : Str) : s.drop (gapM s) = skipB s false := skip_suffix s false
/-- Where a gap ends at a place, it does so whatever stands behind. -/
theorem skip_stop {B : Str} (hB : B ≠ []) (Z : Str) : ∀ (U : Str) (b : Bool), skipB (U ++ B) b = B → skipB (U ++ Z) b = skipB Z false
  | [], false, _ => rfl
  | [], true, h => by
    cases B with
    | nil => exact absurd rfl hB
    | cons c r =>
      rw [List.nil_append, skipB] at h
      have h1 := skip_le r
      split at h
      · have := congrArg List.length h; have := h1 false; simp at *; omega
      · have := congrArg List.length h; have := h1 true; simp at *; omega
  | c :: U, false, h => by
    rw [List.cons_append, skipB] at h ⊢
    split at h
    · rename_i hc; rw [if_pos hc]; exact skip_stop hB Z U false h
    · rename_i hc
      rw [if_neg hc]
      split at h
      · rename_i hc'; rw [if_pos hc']; exact skip_stop hB Z U true h
      · have := congrArg List.length h; simp at this; omega
  | c :: U, true, h => by
    rw [List.cons_append, skipB] at h ⊢
    split at h
    · rename_i hc; rw [if_pos hc]; exact skip_stop hB Z U false h
    · rename_i hc; rw [if_neg hc]; exact skip_stop hB Z U true h
theorem skip_before {B : Str} (Z : Str) {V : Str} (hV : V ≠ []) : ∀ (U : Str) (b : Bool), skipB (U ++ B) b = V ++ B → skipB (U ++ Z) b = V ++ Z
  | [], b, h => by
    have h1 := skip_le B b
    have := congrArg List.length h
    cases V with
    | nil => exact absurd rfl hV
    | cons v V => simp at this; omega
  | c :: U, false, h => by
    rw [List.cons_append, skipB] at h ⊢
    split at h
    · rename_i hc; rw [if_pos hc]; exact skip_before Z hV U false h
    · rename_i hc
      rw [if_neg hc]
      split at h
      · rename_i hc'; rw [if_pos hc']; exact skip_before Z hV U true h
      · rename_i hc'
        rw [if_neg hc']
        have : c :: U = V := by
          rw [← List.cons_append] at h
          exact List.append_cancel_right h
        rw [← this]; rfl
  | c :: U, true, h => by
    rw [List.cons_append, skipB] at h ⊢
    split at h
    · rename_i hc; rw [if_pos hc]; exact skip_before Z hV U false h
    · rename_i hc; rw [if_neg hc]; exact skip_before Z hV U true h
theorem gap_before {U B : Str} (Z : Str) {g : Nat} (hg : gapM (U ++ B) = g) (hl : g < U.length) : gapM (U ++ Z) = g := by
  have h1 := gap_drop (U ++ B)
  rw [hg, List.drop_append_of_le_length (by omega)] at h1
  have h2 := skip_before Z (V := U.drop g) (by rw [Ne, List.drop_eq_nil_iff]; omega) U false h1.symm
  unfold gapM
  rw [h2]
  simp only [List.length_append, List.length_drop]
  omega
theorem gap_stop {U B : Str} (Z : Str) (hB : B ≠ []) (hg : gapM (U ++ B) = U.length) : gapM (U ++ Z) = U.length + gapM Z := by
  have h1 := gap_drop (U ++ B)
  rw [hg, List.drop_left] at h1
  have h2 := skip_stop hB Z U false h1.symm
  have h3 := skip_le Z false
  unfold gapM
  rw [h2, List.length_append]
  omega

/-! ### Words -/
theorem run_pre {p : UInt8 → Bool} {V B : Str} (z : UInt8) (Z : Str) (hz : p z = false) (h : ((V ++ B).takeWhile p).length ≤ V.length) : (V ++ z :: Z).takeWhile p = (V ++ B).takeWhile p := by
  rw [List.takeWhile_append, List.takeWhile_append, List.takeWhile_cons, hz]
  rw [List.takeWhile_append] at h
  split
  · rename_i hv
    rw [if_pos hv] at h
    rw [List.length_append] at h
    have : B.takeWhile p = [] := List.eq_nil_of_length_eq_zero (by omega)
    rw [this]
    rfl
  · rfl
theorem wordOf_eq (s of : Str) : wordOf s of = s.takeWhile (of.contains ·) := take_run s of
theorem wordOf_pre {V B of : Str} (Z : Str) (hz : of.contains (32 : UInt8) = false) (h : (wordOf (V ++ B) of).length ≤ V.length) : wordOf (V ++ 32 :: Z) of = wordOf (V ++ B) of := by
  rw [wordOf_eq] at h ⊢
  rw [wordOf_eq]
  exact run_pre 32 Z hz h
theorem close_pre {B : Str} (Z : Str) : ∀ (V : Str) (m : Nat), closeQ (V ++ B) = some m → m ≤ V.length → closeQ (V ++ 32 :: Z) = some m
  | [], m, h, hm => by
    have := close_bd _ m h
    simp at hm; omega
  | c :: V, m, h, hm => by
    by_cases hc : (c == 39) = true
    · have e : c = 39 := by simpa using hc
      subst e
      rw [List.cons_append, close_mark] at h ⊢
      cases V with
      | nil =>
        simp only [List.nil_append] at h ⊢
        have e1 : ((32 : UInt8) == 39) = false := by decide
        rw [e1]
        cases B with
        | nil => simpa using h
        | cons d t =>
          simp only at h
          split at h
          · rw [Option.map_eq_some_iff] at h
            obtain ⟨m', hm', rfl⟩ := h
            simp at hm
          · simpa using h
      | cons d V =>
        simp only [List.cons_append] at h ⊢
        split at h
        · rename_i hd
          rw [if_pos hd]
          rw [Option.map_eq_some_iff] at h ⊢
          obtain ⟨m', hm', rfl⟩ := h
          exact ⟨m', close_pre Z V m' hm' (by simp at hm; omega), rfl⟩
        · rename_i hd
          rw [if_neg hd]
          exact h
    · rw [List.cons_append, close_other hc] at h ⊢
      rw [Option.map_eq_some_iff] at h ⊢
      obtain ⟨m', hm', rfl⟩ := h
      exact ⟨m', close_pre Z V m' hm' (by simp at hm; omega), rfl⟩
  termination_by V => V.length
/-- A word is what it is, whatever stands behind its end, where that begins with a blank. -/
theorem word_pre {V B : Str} (Z : Str) {n : Nat} (he : (wordM (V ++ B)).2.2.2 = 0) (hn : (wordM (V ++ B)).2.2.1 = (n : Int)) (h1 : 1 ≤ n) (hV : n ≤ V.length) : wordM (V ++ 32 :: Z) = wordM (V ++ B) := by
  cases V with
  | nil => simp at hV; omega
  | cons c V =>
    have e1 : ((c :: V) ++ 32 :: Z).take 1 = ((c :: V) ++ B).take 1 := rfl
    have e2 : ((c :: V) ++ 32 :: Z).getD 0 0 = ((c :: V) ++ B).getD 0 0 := rfl
    unfold wordM at he hn ⊢
    rw [e1, e2]
    by_cases c1 : decide (0 < runM (((c :: V) ++ B).take 1) letters) = true
    · rw [if_pos c1] at he hn ⊢
      rw [if_pos c1]
      have hw : wordOf ((c :: V) ++ 32 :: Z) tails = wordOf ((c :: V) ++ B) tails := by
        refine wordOf_pre Z (by decide) ?_
        unfold namedM at he hn
        split at hn
        · have : (((wordOf ((c :: V) ++ B) tails).length : Nat) : Int) = n := hn
          omega
        · rename_i h2
          rw [if_neg h2] at he
          split at hn
          · rename_i h3; rw [if_pos h3] at he; exact absurd he (show ¬ (3 : Int) = 0 by decide)
          · have : (((wordOf ((c :: V) ++ B) tails).length : Nat) : Int) = n := hn
            omega
      unfold namedM
      rw [hw]
    · rw [if_neg c1] at he hn ⊢
      rw [if_neg c1]
      by_cases c2 : decide (0 < runM (((c :: V) ++ B).take 1) digs) = true
      · rw [if_pos c2] at he hn ⊢
        rw [if_pos c2]
        have hw : wordOf ((c :: V) ++ 32 :: Z) digs = wordOf ((c :: V) ++ B) digs := by
          refine wordOf_pre Z (by decide) ?_
          have : (((wordOf ((c :: V) ++ B) digs).length : Nat) : Int) = n := hn
          omega
        unfold numberM
        rw [hw]
      · rw [if_neg c2] at he hn ⊢
        rw [if_neg c2]
        by_cases c3 : (((((c :: V) ++ B).getD 0 0).toNat : Int) == 39) = true
        · rw [if_pos c3] at he hn ⊢
          rw [if_pos c3]
          unfold quotedM at he hn ⊢
          have d1 : ((c :: V) ++ B).drop 1 = V ++ B := rfl
          have d2 : ((c :: V) ++ 32 :: Z).drop 1 = V ++ 32 :: Z := rfl
          rw [d1] at he hn ⊢
          rw [d2]
          cases hq : closeQ (V ++ B) with
          | none => rw [hq] at he; exact absurd he (show ¬ (7 : Int) = 0 by decide)
          | some m =>
            rw [hq] at he hn
            simp only at he hn
            split at he
            · exact absurd he (show ¬ (3 : Int) = 0 by decide)
            · rename_i hr
              rw [if_neg hr] at hn
              have hm' : (((m + 1 : Nat)) : Int) = n := hn
              have hm : m + 1 = n := by omega
              have hcl := close_pre Z V m hq (by simp at hV; omega)
              rw [hcl]
              have t1 : ((c :: V) ++ 32 :: Z).take (m + 1) = ((c :: V) ++ B).take (m + 1) := by
                rw [List.take_append_of_le_length (by omega), List.take_append_of_le_length (by omega)]
              simp only [t1]
        · rw [if_neg c3] at he hn ⊢
          rw [if_neg c3]
          unfold signM at he hn ⊢
          cases V with
          | nil =>
            have hn1 : n = 1 := by simp at hV; omega
            subst hn1
            have x1 : ¬ ((decide ((1 : Int) < (([c] ++ B).length : Nat)) && Lib.contains doubles (([c] ++ B).take 2)) && (((([c] ++ B).getD 1 0).toNat : Int) == 61)) = true := fun h => by
              rw [if_pos h] at hn
              exact absurd hn (show ¬ (2 : Int) = ((1 : Nat) : Int) by decide)
            have x2 : ¬ ((decide ((1 : Int) < (([c] ++ 32 :: Z).length : Nat)) && Lib.contains doubles (([c] ++ 32 :: Z).take 2)) && (((([c] ++ 32 :: Z).getD 1 0).toNat : Int) == 61)) = true := fun h => by
              simp only [Bool.and_eq_true] at h
              have h2 : ((((32 : UInt8)).toNat : Int) == 61) = true := h.2
              exact absurd h2 (by decide)
            rw [if_neg x1, if_neg x2]
            rfl
          | cons d V =>
            have y1 : decide ((1 : Int) < ((((c :: d :: V) ++ 32 :: Z)).length : Nat)) = decide ((1 : Int) < ((((c :: d :: V) ++ B)).length : Nat)) := by
              rw [decide_eq_decide]
              simp only [List.length_append, List.length_cons]
              omega
            have y2 : ((c :: d :: V) ++ 32 :: Z).take 2 = ((c :: d :: V) ++ B).take 2 := rfl
            have y3 : ((c :: d :: V) ++ 32 :: Z).getD 1 0 = ((c :: d :: V) ++ B).getD 1 0 := rfl
            rw [y1, y2, y3]
            rfl
end Go.SX.Nb
namespace Go.SX.Nb
open Go Go.SX Go.Proofs
variable [ErrAt]
set_option maxRecDepth 4000
def insX (note : Str) : Str := 32 :: 9 :: 35 :: (note ++ [10, 32])
theorem insX_len (note : Str) : (insX note).length = note.length + 5 := by simp [insX]
theorem skip_note_to : ∀ (note R : Str), (∀ b ∈ note, b ≠ 10) → skipB (note ++ 10 :: R) true = skipB R false
  | [], R, _ => by rw [List.nil_append, skipB]; rfl
  | c :: r, R, h => by
    have hc : ¬ (c == 10) = true := by simpa using h c (by simp)
    rw [List.cons_append, skipB, if_neg hc]
    exact skip_note_to r R (fun b hb => h b (by simp [hb]))
theorem gap_ins {note B : Str} (hn : ∀ b ∈ note, b ≠ 10) (hB : skipB B false = B) : gapM (insX note ++ B) = (insX note).length := by
  have e : insX note ++ B = 32 :: 9 :: 35 :: (note ++ 10 :: (32 :: B)) := by simp [insX]
  have h : skipB (insX note ++ B) false = B := by
    rw [e, skipB, if_pos (by decide), skipB, if_pos (by decide), skipB, if_neg (by decide), if_pos (by decide), skip_note_to note _ hn, skipB, if_pos (by decide), hB]
  unfold gapM
  rw [h, List.length_append]
  omega
theorem lex_ins {note : Str} (hn : ∀ b ∈ note, b ≠ 10) : ∀ (k f f' q : Nat) (U B : Str) (it : Tok × Int), (U ++ B).length < f → (U ++ (insX note ++ B)).length < f' → (∀ i ∈ lexG f q (U ++ B), i.2 = 0) → (lexG f q (U ++ B))[k]? = some it → it.1.at_ = q + U.length →
    lexG f' q (U ++ (insX note ++ B)) = (lexG f q (U ++ B)).take k ++ ((lexG f q (U ++ B)).drop k).map (shiftT (insX note).length)
  | 0, f, f', q, U, B, it, hf, hf', _, hit, hat => by
    unfold lexG at hit ⊢
    obtain ⟨f0, rfl⟩ : ∃ f0, f = f0 + 1 := ⟨f - 1, by omega⟩
    have hne : (U ++ B).drop (gapM (U ++ B)) ≠ [] := fun e => by rw [e, itemsF_nil] at hit; cases hit
    have hg : gapM (U ++ B) = U.length := by
      rw [itemsF_cons hne] at hit
      simp only [List.getElem?_cons_zero, Option.some.injEq] at hit
      rw [← hit] at hat
      simp only at hat
      omega
    rw [hg, List.drop_left] at hne ⊢
    have hs := gap_drop (U ++ B)
    rw [hg, List.drop_left] at hs
    have hB : skipB B false = B := (skip_stop hne B U false hs.symm).symm.trans hs.symm
    rw [gap_stop _ hne hg, gap_ins hn hB]
    have e1 : (U ++ (insX note ++ B)).drop (U.length + (insX note).length) = B := by
      rw [← List.append_assoc, ← List.length_append, List.drop_left]
    rw [e1, List.take_zero, List.nil_append, List.drop_zero, ← Nat.add_assoc]
    rw [itemsF_shift]
    congr 1
    simp only [List.length_append] at hf hf'
    exact itemsF_fuel _ _ _ _ (by omega) (by omega)
  | k + 1, f, f', q, U, B, it, hf, hf', hok, hit, hat => by
    obtain ⟨f0, rfl⟩ : ∃ f0, f = f0 + 1 := ⟨f - 1, by omega⟩
    obtain ⟨f0', rfl⟩ : ∃ f0, f' = f0 + 1 := ⟨f' - 1, by omega⟩
    obtain ⟨g, hg⟩ : ∃ g, gapM (U ++ B) = g := ⟨_, rfl⟩
    have hne : (U ++ B).drop g ≠ [] := fun e => by unfold lexG at hit; rw [hg, e, itemsF_nil] at hit; cases hit
    obtain ⟨n, hst, hw⟩ := itemsF_step (f := f0) (q := q + g) hne
    have hL : lexG (f0 + 1) q (U ++ B) = itemsF (f0 + 1) (q + g) ((U ++ B).drop g) := by unfold lexG; rw [hg]
    rw [hst] at hL
    rw [hL] at hok hit ⊢
    have h0 : (wordM ((U ++ B).drop g)).2.2.2 = 0 := hok _ List.mem_cons_self
    obtain ⟨hn1, hn2, hn3⟩ := hw h0
    rw [if_pos h0] at hok hit ⊢
    rw [List.getElem?_cons_succ] at hit
    have hge : q + g + n ≤ it.1.at_ := by
      unfold lexG at hit
      have := itemsF_ge _ _ _ it (List.mem_of_getElem? hit)
      omega
    have hUl : g + n ≤ U.length := by omega
    have d1 : (U ++ B).drop g = U.drop g ++ B := List.drop_append_of_le_length (by omega)
    have d2 : ((U ++ B).drop g).drop n = U.drop (g + n) ++ B := by rw [List.drop_drop, List.drop_append_of_le_length hUl]
    have d3 : (U ++ (insX note ++ B)).drop g = U.drop g ++ (insX note ++ B) := List.drop_append_of_le_length (by omega)
    have d4 : ((U ++ (insX note ++ B)).drop g).drop n = U.drop (g + n) ++ (insX note ++ B) := by rw [List.drop_drop, List.drop_append_of_le_length hUl]
    have hg' : gapM (U ++ (insX note ++ B)) = g := gap_before _ hg (by omega)
    have hwe : wordM (U.drop g ++ (insX note ++ B)) = wordM (U.drop g ++ B) := by
      rw [d1] at h0 hn1
      have eX : insX note ++ B = 32 :: (9 :: 35 :: (note ++ [10, 32]) ++ B) := rfl
      rw [eX]
      exact word_pre _ h0 hn1 hn2 (by rw [List.length_drop]; omega)
    have hne' : (U ++ (insX note ++ B)).drop g ≠ [] := by
      rw [d3]; simp [insX]
    have hL' : lexG (f0' + 1) q (U ++ (insX note ++ B)) = itemsF (f0' + 1) (q + g) ((U ++ (insX note ++ B)).drop g) := by unfold lexG; rw [hg']
    obtain ⟨n', hst', hw'⟩ := itemsF_step (f := f0') (q := q + g) hne'
    have hww : wordM ((U ++ (insX note ++ B)).drop g) = wordM ((U ++ B).drop g) := by rw [d3, d1, hwe]
    rw [hww] at hst' hw'
    have hnn : n' = n := by
      have := (hw' h0).1
      rw [hn1] at this
      omega
    subst hnn
    rw [hL', hst', if_pos h0, d4, d2, List.take_succ_cons, List.drop_succ_cons, List.cons_append]
    congr 1
    rw [d2] at hok hit
    have hlen : (U.drop (g + n')).length = U.length - (g + n') := List.length_drop
    refine lex_ins hn k f0 f0' (q + g + n') (U.drop (g + n')) B it ?_ ?_ (fun i hi => hok i (List.mem_cons_of_mem _ hi)) hit (by rw [hlen]; omega)
    · simp only [List.length_append] at hf ⊢; omega
    · simp only [List.length_append] at hf' ⊢; omega
theorem lexM_ok {s : Str} (h : (lexM s).2.1 = 0) : s.length ≤ 4000 ∧ (∀ it ∈ itemsT s, it.2 = 0) ∧ lexM s = ((itemsT s).map (·.1) ++ [⟨0, [], s.length⟩], 0, 0) := by
  unfold lexM at h ⊢
  split at h
  · exact absurd h (show ¬ (3 : Int) = 0 by decide)
  · rename_i hl
    rw [if_neg hl]
    cases hf : (itemsT s).find? (fun it => it.2 != 0) with
    | some it =>
      rw [hf] at h
      have := List.find?_some hf
      simp at this
      exact absurd h this
    | none =>
      rw [List.find?_eq_none] at hf
      refine ⟨by omega, fun it hit => by simpa using hf it hit, rfl⟩
theorem lexM_of {s : Str} (hl : s.length ≤ 4000) (h : ∀ it ∈ itemsT s, it.2 = 0) : lexM s = ((itemsT s).map (·.1) ++ [⟨0, [], s.length⟩], 0, 0) := by
  unfold lexM
  rw [if_neg (by omega), lex_none h]
def shiftTok (d : Nat) (t : Tok) : Tok := ⟨t.kind, t.text, t.at_ + d⟩
theorem itemsF_lt : ∀ (f q : Nat) (s : Str), ∀ it ∈ itemsF f q s, it.1.at_ ≤ q + s.length
  | 0, _, _, it, h => by cases h
  | f + 1, q, s, it, h => by
    by_cases hs : s = []
    · subst hs; cases h
    · obtain ⟨n, hst, hw⟩ := itemsF_step (f := f) (q := q) hs
      rw [hst] at h
      rcases List.mem_cons.1 h with rfl | h
      · exact Nat.le_add_right _ _
      · split at h
        · rename_i h0
          obtain ⟨_, _, h3⟩ := hw h0
          have := itemsF_lt f _ _ it h
          have hg := gap_le (s.drop n)
          simp only [List.length_drop] at this hg
          omega
        · cases h
theorem items_at_le {s : Str} {k : Nat} {it : Tok × Int} (h : (itemsT s)[k]? = some it) : it.1.at_ ≤ s.length := by
  unfold itemsT at h
  have := itemsF_lt _ _ _ it (List.mem_of_getElem? h)
  have hg := gap_le s
  rw [List.length_drop] at this
  omega
theorem lex_gaps {src note : Str} (hs : src.length ≤ 2000) (hn : note.length ≤ 1000) (hf : (lexM src).2.1 = 0) (hnl : ∀ b ∈ note, b ≠ 10) {k : Nat} (hk : k + 1 < (lexM src).1.length) :
    (tokAt (lexM src).1 k).at_ ≤ src.length ∧ lexM (src.take (tokAt (lexM src).1 k).at_ ++ (insX note ++ src.drop (tokAt (lexM src).1 k).at_)) = ((lexM src).1.take k ++ ((lexM src).1.drop k).map (shiftTok (note.length + 5)), 0, 0) := by
  obtain ⟨_, hok, hl⟩ := lexM_ok hf
  rw [hl] at hk ⊢
  simp only [List.length_append, List.length_map, List.length_cons, List.length_nil] at hk
  have hkl : k < (itemsT src).length := by omega
  obtain ⟨it, hit⟩ : ∃ it, (itemsT src)[k]? = some it := ⟨_, List.getElem?_eq_getElem hkl⟩
  have htk : tokAt ((itemsT src).map (·.1) ++ [⟨0, [], src.length⟩]) k = it.1 := by
    unfold tokAt
    rw [List.getD_eq_getElem?_getD, List.getElem?_append_left (by simpa using hkl), List.getElem?_map, hit]
    rfl
  simp only [htk]
  have hle : it.1.at_ ≤ src.length := items_at_le hit
  refine ⟨hle, ?_⟩
  have hX := insX_len note
  have hlen : (src.take it.1.at_ ++ (insX note ++ src.drop it.1.at_)).length = src.length + (insX note).length := by
    simp only [List.length_append, List.length_take, List.length_drop]; omega
  have e0 : src.take it.1.at_ ++ src.drop it.1.at_ = src := List.take_append_drop _ _
  have key := lex_ins hnl k (src.length + 1) ((src.take it.1.at_ ++ (insX note ++ src.drop it.1.at_)).length + 1) 0 (src.take it.1.at_) (src.drop it.1.at_) it (by rw [e0]; omega) (by omega) (by rw [e0, ← itemsT_G]; exact hok) (by rw [e0, ← itemsT_G]; exact hit) (by rw [List.length_take]; omega)
  rw [e0, ← itemsT_G, ← itemsT_G] at key
  rw [lexM_of (by rw [hlen, hX]; omega) (by
    rw [key]
    intro i hi
    rcases List.mem_append.1 hi with h | h
    · exact hok i (List.mem_of_mem_take h)
    · obtain ⟨j, hj, rfl⟩ := List.mem_map.1 h
      exact hok j (List.mem_of_mem_drop hj)), key, hlen, hX]
  congr 1
  rw [List.map_append, List.append_assoc]
  have t1 : ((itemsT src).map (·.1) ++ [(⟨0, [], src.length⟩ : Tok)]).take k = ((itemsT src).take k).map (·.1) := by
    rw [List.take_append_of_le_length (by simp; omega), List.map_take]
  have t2 : ((itemsT src).map (·.1) ++ [(⟨0, [], src.length⟩ : Tok)]).drop k = ((itemsT src).drop k).map (·.1) ++ [⟨0, [], src.length⟩] := by
    rw [List.drop_append_of_le_length (by simp; omega), List.map_drop]
  rw [t1, t2, List.map_append, List.map_map, List.map_map]
  rfl
end Go.SX.Nb
namespace Go.SX
variable [GI : GlobInv]
open Classical
section
variable {P : Program} {d : Nat} {st : St} {dst : Option Tmp} {ty : TypeId} {pos : String} {aft : Array Edge} {gd : Option (Nat × Bool)}
abbrev u8A (c : UInt8) : AV := .v (.int .u8 (c.toNat : Int))
theorem fold_bytes : ∀ (l : List UInt8) (r : ByteArray), (l.map fun c => (c.toNat : Int)).foldl (fun r n => r.push (UInt8.ofNat n.toNat)) r = ⟨r.data ++ l.toArray⟩
  | [], r => by simp
  | c :: l, r => by
    rw [List.map_cons, List.foldl_cons, fold_bytes l]
    have : UInt8.ofNat ((c.toNat : Int)).toNat = c := by simp
    rw [this]
    simp [ByteArray.push]
theorem OpV.bytesStr {a t e : TypeId} {x : Operand} {o : Bool} {l : List UInt8} (hs : P.underlying a = some (.slice e)) (he : P.underlying e = some (.int .u8)) (ht : P.underlying t = some .string) (hx : st.ev x = .slice o 1 (l.map u8A)) :
    OpV P d ⟨dst, .convert a t x, ty, pos, aft, gd⟩ st (.v (sv l)) :=
  OpV.pure (by intro c h; cases h) fun G ac w h => by
    have hr := hx ▸ h.eval x
    generalize hv : ac.eval x = u at hr
    refine ⟨.string ⟨l.toArray⟩, ?_, .v _ _⟩
    rcases asSl_cases (.inl rfl) hr with ⟨rfl, hl⟩ | ⟨ad, c, f, rfl, _, hF, _⟩
    · have : l = [] := by simpa using hl
      subst this
      simp [execOp, hv, run_convert_bytes_string w a t e none 0 0 hs he ht, Conv.bytesToString]
      rfl
    · have hvals := hF.vals (Nat.succ_pos 0)
      have e1 : flatVals 1 (l.map u8A).length f = (l.map fun c => (c.toNat : Int)).map (Value.int .u8) := by
        apply List.ext_getElem?
        intro i
        by_cases hi : i < l.length
        · have h1 : i < (l.map u8A).length * 1 := by simpa using hi
          rw [flatVals_get h1, Nat.div_one, Nat.mod_one]
          have hxi : (l.map u8A)[i]? = some (u8A l[i]) := by rw [List.getElem?_map, List.getElem?_eq_getElem hi]; rfl
          have hrep := hF.rep i _ 0 _ hxi rfl
          have := rep_v hrep
          rw [this, List.map_map, List.getElem?_map, List.getElem?_eq_getElem hi]
          rfl
        · rw [List.getElem?_eq_none (by rw [flatVals_length]; simp; omega), List.getElem?_eq_none (by simp; omega)]
      have e2 := run_loadCells_list (P := P) (w := w) ad _ hvals
      rw [flatVals_length, e1, Nat.mul_one] at e2
      have e3 := run_bytesToString w ad (l.map u8A).length c _ e2
      rw [fold_bytes] at e3
      rw [List.length_map] at e3 hv
      simp [execOp, hv, run_convert_bytes_string w a t e (some ad) l.length c hs he ht, e3]
end
variable {P : Program} {d : Nat} {ops : Array Oper} {rest : List Oper} {sz : Nat} {fr : Nat → AV} {up own : List AObj} {dfs : List Nat} {rnd : Option Nat} {Q : St → Prop} {s : Nat} {ty : TypeId} {pos : String} {aft : Array Edge}
theorem R.bytesStr {a t e : TypeId} {x : Operand} {o : Bool} (l : List UInt8) (hs' : P.underlying a = some (.slice e)) (he : P.underlying e = some (.int .u8)) (ht : P.underlying t = some .string) (hr : ARun P d ops rest ⟨sz, setF s (.v (sv l)) fr, up, own, dfs, rnd⟩ Q)
    (hx : frEv fr x = .slice o 1 (l.map u8A) := by simp only [go_sem, ↓reduceIte, Nat.reduceEqDiff, Nat.reduceAdd] <;> rfl) (hs : Nat.blt s sz = true := by rfl) :
    ARun P d ops (⟨some s, .convert a t x, ty, pos, aft, none⟩ :: rest) ⟨sz, fr, up, own, dfs, rnd⟩ Q :=
  ARun.vv rfl rfl hs (OpV.bytesStr hs' he ht hx) hr
end Go.SX
