/- Texts on the way to this: SoundTells answers true for whatever it is handed: which move is the first that is not sound and why, the columns behind it, and what is lost, are as the reference tells. (part 7) -/
import Derived.ReadAgain
import Derived.ChangeSame
import Derived.ChangeArms
import Derived.ChangeOld
import Derived.ChangeFn
import Derived.MapPlaces
import Derived.DataReads
import Derived.OpenShut
import Derived.RowKit
import Derived.Deep.DeepHandedRow
import Derived.Test.YtepoiomaocjhfaaGreatDoorCards
import Derived.Test.YtepoiomaocjhfaaGreatDoorTie
import Derived.Lay
import Derived.Lib.LaidTab
import Derived.Stop.LaidErr
import Derived.Shelf.Vars
import Derived.ChangeBears
import Derived.Test.YtepoiomaocjhfaaGreatDoorSoundTellsCardSaidPart6
set_option linter.all false
namespace Go.SX
variable [GI : GlobInv]
open Classical Go.RowKit Go.ChangeShapes
section
variable {P : Program} {H : Type} {enc : TypeId × Value → H}

/-- The first ghost: whatever lies there is read for good. -/
noncomputable def G0 (W : World) : Gh := ⟨fun b o => if (W.cell? ⟨b, o, none⟩).isSome then .fix else .free, fun _ => 0, 0⟩
theorem qq {W : World} {b o : Nat} {u : Value} (h : W.cell? ⟨b, o, none⟩ = some u) : (G0 W).tag b o = .fix := by simp [G0, h]
theorem Lw {W : World} {b : Nat} (h : b < W.heap.size) : Gu (G0 W) W b := ⟨h, fun o => by simp only [G0]; split <;> simp, fun i hi => absurd hi (Nat.not_lt_zero _)⟩
theorem ln (W : World) : HeapRel (G0 W) [] W := ⟨fun i x h => by simp at h, rfl, fun i j hi => absurd hi (Nat.not_lt_zero _)⟩
theorem lq {W : World} (h : Gg W) : TagOK (G0 W) W := by
 refine ⟨fun b o hb => ?_, fun b o i hb => ?_, fun b o L hb => ?_, fun x hx => ?_⟩
 ·simp only [G0] at hb
  split at hb
  ·rename_i hs; exact Option.isSome_iff_exists.1 hs
  exact absurd rfl hb
 ·simp only [G0] at hb; split at hb <;> cases hb
 ·simp only [G0] at hb; split at hb <;> cases hb
 obtain ⟨v, h1, h2⟩ := h x hx
 exact ⟨Lw (Array.getElem?_eq_some_iff.1 h1).1, v, h1, h2⟩

/-- What a datum of a vq type vr as. -/
inductive DRep (P : Program) : TypeId → DataW H → AV → Prop
 | int {t : TypeId} {k : IntKind} {n : Int} (hu : P.underlying t = some (.int k)) (wf : (Lit.int k n).wf = true) : DRep P t (.lit (.int k n)) (.v (.int k n))
 | bool {t : TypeId} {b : Bool} (hu : P.underlying t = some .bool) : DRep P t (.lit (.bool b)) (.v (.bool b))
 | str {t : TypeId} {bs : List UInt8} (hu : P.underlying t = some .string) : DRep P t (.lit (.string bs)) (.v (sv bs))
 | nil {t e : TypeId} (hu : P.underlying t = some (.slice e)) : DRep P t .nil (.slice false (P.cellsOf e) [])
 | slice {t e : TypeId} {elems spare : List (DataW H)} {ys : List AV} (hu : P.underlying t = some (.slice e)) (hn : ys.length = elems.length)
   (h : ∀ (i : Nat) (d : DataW H) (y : AV), elems[i]? = some d → ys[i]? = some y → DRep P e d y) : DRep P t (.slice elems spare) (.slice false (P.cellsOf e) ys)
 | struct {t : TypeId} {fs : Array Field} {parts : List (DataW H)} {ys : List AV} (hu : P.underlying t = some (.struct fs)) (hn : parts.length = fs.size) (hn' : ys.length = fs.size)
   (h : ∀ (i : Nat) (f : Field) (d : DataW H) (y : AV), fs[i]? = some f → parts[i]? = some d → ys[i]? = some y → DRep P f.type d y) : DRep P t (.agg parts) (.agg (ys.flatMap AV.cells))

/-- Types that are made of numbers, texts, bools, slices and structs alone. -/
structure PlainT (P : Program) (T : TypeId → Prop) : Prop where
 look : ∀ t, T t → (P.cellsOf t = 1 ∧ ((∃ k, P.underlying t = some (.int k)) ∨ P.underlying t = some .bool ∨ P.underlying t = some .string ∨ (∃ e, P.underlying t = some (.slice e) ∧ T e ∧ 0 < P.cellsOf e))) ∨
  (∃ fs, P.underlying t = some (.struct fs) ∧ (∀ f ∈ fs.toList, T f.type) ∧ P.cellsOf t = (fs.toList.map fun f => P.cellsOf f.type).sum ∧
   ∀ (j : Nat) (f : Field), fs.toList[j]? = some f → f.offset = ((fs.toList.take j).map fun f => P.cellsOf f.type).sum)

/-- The reading of a row of cells. -/
def CRep (W : World) (y : AV) (cs : List Value) : Prop :=
 y.cells.length = cs.length ∧ (∀ c ∈ y.cells, c.one = true) ∧ ∀ (j : Nat) (c : AV) (v : Value), y.cells[j]? = some c → cs[j]? = some v → Rep (G0 W) W none c v

theorem CRep.v1 {W : World} {x : Value} (h : x.oneCell' = true) : CRep W (.v x) [x] :=
 ⟨rfl, by simp [AV.cells, AV.one, h], fun j c v h1 h2 => by
  match j with
  | 0 => simp [AV.cells] at h1 h2; subst h1; subst h2; exact .v _ _
  | j + 1 => simp [AV.cells] at h1⟩

theorem Uh {f : AV → List AV} : ∀ (ys : List AV) (j : Nat) (c : AV), (ys.flatMap f)[j]? = some c → ∃ (i : Nat) (y : AV) (q : Nat), ys[i]? = some y ∧ (f y)[q]? = some c ∧ j = ((ys.take i).map fun y => (f y).length).sum + q
 | [], j, c, h => by simp at h
 | y :: r, j, c, h => by
  rw [List.flatMap_cons] at h
  rcases Nat.lt_or_ge j (f y).length with h' | h'
  ·rw [List.getElem?_append_left h'] at h
   exact ⟨0, y, j, rfl, h, by simp⟩
  rw [List.getElem?_append_right h'] at h
  obtain ⟨i, z, q, h1, h2, h3⟩ := Uh r _ c h
  exact ⟨i + 1, z, q, h1, h2, by simp only [List.take_succ_cons, List.map_cons, List.sum_cons]; omega⟩
theorem Ii {α : Type} {R : Nat → α → Prop} : ∀ (n : Nat), (∀ i, i < n → ∃ y, R i y) → ∃ ys : List α, ys.length = n ∧ ∀ (i : Nat) (y : α), ys[i]? = some y → R i y
 | 0, _ => ⟨[], rfl, fun i y h => by simp at h⟩
 | n + 1, h => by
  obtain ⟨ys, h1, h2⟩ := Ii n (fun i hi => h i (by omega))
  obtain ⟨y, hy⟩ := h n (by omega)
  refine ⟨ys ++ [y], by simp [h1], fun i z hz => ?_⟩
  rcases Nat.lt_or_ge i n with h' | h'
  ·rw [List.getElem?_append_left (by omega)] at hz; exact h2 i z hz
  rw [List.getElem?_append_right (by omega)] at hz
  have : i = n := by
   have := (List.getElem?_eq_some_iff.1 hz).1
   simp at this; omega
  subst this
  rw [h1] at hz
  simp at hz
  exact hz ▸ hy
theorem K1 {α β : Type} {f : α → Nat} {g : β → Nat} : ∀ (l : List α) (m : List β), l.length = m.length → (∀ (i : Nat) (a : α) (b : β), l[i]? = some a → m[i]? = some b → f a = g b) → (l.map f).sum = (m.map g).sum
 | [], [], _, _ => rfl
 | [], b :: m, h, _ => by simp at h
 | a :: l, [], h, _ => by simp at h
 | a :: l, b :: m, h, hh => by
  simp only [List.map_cons, List.sum_cons]
  rw [hh 0 a b rfl rfl, K1 l m (by simpa using h) (fun i a b h1 h2 => hh (i + 1) a b h1 h2)]

theorem ik {T : TypeId → Prop} (PT : PlainT P T) {W : World} : ∀ (n : Nat) (t : TypeId) (cs : List Value) (x : DataW H × List MemPlace), T t → DataW.trod enc P W 0 (fun _ => true) true n t cs = some x →
  ∃ y, DRep P t x.1 y ∧ CRep W y cs ∧ cs.length = P.cellsOf t := by
 intro n
 induction n with
 | zero => intro t cs x _ h; simp [DataW.trod] at h
 | succ n ih =>
  intro t cs x hT h
  rcases PT.look t hT with ⟨hc1, ⟨k, hu⟩ | hu | hu | ⟨e, hu, he, hz⟩⟩ | ⟨fs, hu, hf, hsum, hoff⟩
  ·obtain ⟨m, rfl, rfl, hw⟩ := DataW.trod_int hu h
   exact ⟨_, .int hu hw, .v1 rfl, hc1.symm⟩
  ·obtain ⟨b, rfl, rfl⟩ := DataW.trod_bool hu h
   exact ⟨_, .bool hu, .v1 rfl, hc1.symm⟩
  ·obtain ⟨s, rfl, rfl, _⟩ := DataW.trod_string hu h
   exact ⟨_, .str hu, .v1 rfl, hc1.symm⟩
  ·rcases DataW.trod_slice hu h with ⟨rfl, rfl⟩ | ⟨a, len, cap, elems, rest, m, hm, rfl, rfl, hb, hlc, hcm, hel, hE, _, _⟩
   ·refine ⟨_, .nil hu, ⟨rfl, by simp [AV.cells, AV.one], fun j c v h1 h2 => ?_⟩, hc1.symm⟩
    match j with
    | 0 => simp [AV.cells] at h1 h2; subst h1; subst h2; exact .slice0 _ _ _
    | j + 1 => simp [AV.cells] at h1
   injection hm with hm
   subst hm
   subst hel
   have hEi : ∀ i, i < elems.length → ∃ y, (∀ d, elems[i]? = some d → DRep P e d.1 y) ∧ ∃ ci, W.cells? 0 (a.add (i * P.cellsOf e)) (P.cellsOf e) = some ci ∧ CRep W y ci := fun i hi => by
    have h1 := hE i hi
    rw [List.getElem?_eq_getElem hi, Option.bind_eq_some_iff] at h1
    obtain ⟨ci, h2, h3⟩ := h1
    obtain ⟨y, h4, h5, _⟩ := ih e ci _ he h3
    exact ⟨y, fun d hd => by rw [List.getElem?_eq_getElem hi] at hd; injection hd with hd; subst hd; exact h4, ci, h2, h5⟩
   obtain ⟨ys, hyl, hys⟩ := Ii elems.length hEi
   refine ⟨.slice false (P.cellsOf e) ys, .slice hu (by simp [hyl]) (fun i d y hd hy => ?_), ⟨rfl, by simp [AV.cells, AV.one], fun j c v h1 h2 => ?_⟩, hc1.symm⟩
   ·rw [List.getElem?_map, Option.map_eq_some_iff] at hd
    obtain ⟨d', hd', rfl⟩ := hd
    exact (hys i y hy).1 d' hd'
   match j with
   | j + 1 => simp [AV.cells] at h1
   | 0 =>
    simp [AV.cells] at h1 h2
    subst h1; subst h2
    by_cases h0 : elems.length = 0
    ·have : ys = [] := List.eq_nil_of_length_eq_zero (by omega)
     subst this
     rw [h0]
     exact .sliceE _ _ _ _
    have hspot : a.spot = none := by
     obtain ⟨ci, hci, _⟩ := (hys 0 ys[0] (List.getElem?_eq_getElem (by omega))).2
     obtain ⟨_, g1, g2⟩ := World.cells?_some hci
     have g3 := g2 0 hz
     rw [List.getElem?_eq_getElem (by omega)] at g3
     simp only [Nat.zero_mul, Addr.add, if_true] at g3
     unfold World.cell? at g3
     split at g3
     ·split at g3
      ·cases g3
      rename_i hs; simpa using hs
     cases g3
    refine .slice _ false _ ys a _ cap (fun i j => (W.cell? ⟨a.block, a.off + i * P.cellsOf e + j, none⟩).getD undef) hspot hyl.symm hlc (fun x hx => ?_) (fun x hx => ?_) (fun i x j y hx hy => ?_) (fun i x j y hx hy => ?_) (fun h => by cases h)
    ·obtain ⟨i, hi⟩ := List.getElem?_of_mem hx
     obtain ⟨ci, hci, hcr⟩ := (hys i x hi).2
     rw [hcr.1]
     exact (World.cells?_some hci).2.1
    ·obtain ⟨i, hi⟩ := List.getElem?_of_mem hx
     obtain ⟨ci, hci, hcr⟩ := (hys i x hi).2
     exact hcr.2.1
    ·obtain ⟨ci, hci, hcr⟩ := (hys i x hx).2
     obtain ⟨_, g1, g2⟩ := World.cells?_some hci
     have hj : j < P.cellsOf e := by
      have := (List.getElem?_eq_some_iff.1 hy).1
      rw [hcr.1] at this; omega
     have g3 := g2 j hj
     rw [List.getElem?_eq_getElem (by omega), B7 hspot, B7 rfl] at g3
     exact ⟨qq g3, by rw [g3]; rfl⟩
    obtain ⟨ci, hci, hcr⟩ := (hys i x hx).2
    obtain ⟨_, g1, g2⟩ := World.cells?_some hci
    have hj : j < P.cellsOf e := by
     have := (List.getElem?_eq_some_iff.1 hy).1
     rw [hcr.1] at this; omega
    have g3 := g2 j hj
    rw [List.getElem?_eq_getElem (by omega), B7 hspot, B7 rfl] at g3
    simp only at g3
    rw [g3]
    exact hcr.2.2 j y _ hy (List.getElem?_eq_getElem (by omega))
  obtain ⟨xs, m, hm, rfl, hcl, hxl, hX⟩ := DataW.trod_struct hu h
  injection hm with hm
  subst hm
  have hXi : ∀ i, i < fs.size → ∃ y, ∀ (f : Field), fs[i]? = some f → (∀ d, xs[i]? = some d → DRep P f.type d.1 y) ∧ CRep W y ((cs.drop f.offset).take (P.cellsOf f.type)) ∧ y.cells.length = P.cellsOf f.type := fun i hi => by
   have h1 := hX i fs[i] (Array.getElem?_eq_getElem hi)
   rw [List.getElem?_eq_getElem (by omega)] at h1
   obtain ⟨y, h2, h3, h4⟩ := ih _ _ _ (hf _ (by simp)) h1
   refine ⟨y, fun f hf' => ?_⟩
   rw [Array.getElem?_eq_getElem hi] at hf'
   injection hf' with hf'
   subst hf'
   exact ⟨fun d hd => by rw [List.getElem?_eq_getElem (by omega)] at hd; injection hd with hd; subst hd; exact h2, h3, by rw [h3.1, h4]⟩
  obtain ⟨ys, hyl, hys⟩ := Ii fs.size hXi
  have hlenI : ∀ (i : Nat), ((ys.take i).map fun y => y.cells.length).sum = ((fs.toList.take i).map fun f => P.cellsOf f.type).sum := fun i => by
   refine K1 _ _ (by simp [hyl]) (fun j y f h1 h2 => ?_)
   rw [List.getElem?_take] at h1 h2
   split at h1
   ·rename_i hj
    rw [if_pos hj] at h2
    exact (hys j y h1 f (by simpa using h2)).2.2
   cases h1
  have htot : (ys.flatMap AV.cells).length = cs.length := by
   rw [List.length_flatMap, hcl, hsum]
   refine K1 _ _ (by simp [hyl]) (fun j y f h1 h2 => (hys j y h1 f (by simpa using h2)).2.2)
  refine ⟨.agg (ys.flatMap AV.cells), .struct hu (by simp [hxl]) hyl (fun i f d y hf' hd hy => ?_), ⟨htot, fun c hc => ?_, fun j c v h1 h2 => ?_⟩, hcl⟩
  ·rw [List.getElem?_map, Option.map_eq_some_iff] at hd
   obtain ⟨d', hd', rfl⟩ := hd
   exact (hys i y hy f hf').1 d' hd'
  ·obtain ⟨y, hy, hcy⟩ := List.mem_flatMap.1 hc
   obtain ⟨i, hi⟩ := List.getElem?_of_mem hy
   have hlt : i < fs.size := by rw [← hyl]; exact (List.getElem?_eq_some_iff.1 hi).1
   exact ((hys i y hi fs[i] (Array.getElem?_eq_getElem hlt)).2.1).2.1 c hcy
  obtain ⟨i, y, q, g1, g2, rfl⟩ := Uh ys j c h1
  have hlt : i < fs.size := by rw [← hyl]; exact (List.getElem?_eq_some_iff.1 g1).1
  obtain ⟨_, k2, k3⟩ := hys i y g1 fs[i] (Array.getElem?_eq_getElem hlt)
  have hq : q < P.cellsOf (fs[i]).type := by have := (List.getElem?_eq_some_iff.1 g2).1; omega
  refine k2.2.2 q c v g2 ?_
  rw [List.getElem?_take, if_pos hq, List.getElem?_drop, hoff i fs[i] (by simp [hlt]), ← hlenI i]
  exact h2

/-- A measure of data. -/
structure Bulk (B : DataW H → Nat) : Prop where
 str : ∀ bs, bs.length ≤ B (.lit (.string bs))
 slice : ∀ elems spare, elems.length ≤ B (.slice elems spare) ∧ ∀ d ∈ elems, B d ≤ B (.slice elems spare)
 agg : ∀ parts, ∀ d ∈ parts, B d ≤ B (.agg parts)
theorem DRep.int' {t : TypeId} {k : IntKind} {d : DataW H} {y : AV} (hu : P.underlying t = some (.int k)) (h : DRep P t d y) : ∃ n, d = .lit (.int k n) ∧ y = .v (.int k n) ∧ k.min ≤ n ∧ n ≤ k.max := by
 cases h with
 | int hu' wf => rw [hu] at hu'; injection hu' with e; injection e with e; subst e; exact ⟨_, rfl, rfl, by simpa [Lit.wf] using wf⟩
 | _ hu' => rw [hu] at hu'; cases hu'
theorem DRep.str' {t : TypeId} {d : DataW H} {y : AV} (hu : P.underlying t = some .string) (h : DRep P t d y) : ∃ s, d = .lit (.string s) ∧ y = .v (sv s) := by
 cases h with
 | str hu' => exact ⟨_, rfl, rfl⟩
 | _ hu' => rw [hu] at hu'; cases hu'
theorem DRep.slice' {t e : TypeId} {d : DataW H} {y : AV} {B : DataW H → Nat} (hB : Bulk B) {α : Type} (A : α → AV) (R : α → Prop) {b : Nat} (hu : P.underlying t = some (.slice e)) (h : DRep P t d y) (hb : B d ≤ b)
  (hE : ∀ d y, B d ≤ b → DRep P e d y → ∃ x, y = A x ∧ R x) : ∃ l : List α, y = .slice false (P.cellsOf e) (l.map A) ∧ l.length ≤ b ∧ ∀ x ∈ l, R x := by
 cases h with
 | nil hu' => rw [hu] at hu'; injection hu' with e'; injection e' with e'; subst e'; exact ⟨[], rfl, Nat.zero_le _, fun x hx => by cases hx⟩
 | slice hu' hn hh =>
  rw [hu] at hu'; injection hu' with e'; injection e' with e'; subst e'
  rename_i elems spare ys
  obtain ⟨h1, h2⟩ := hB.slice elems spare
  have key : ∀ (ys : List AV) (es : List (DataW H)), ys.length = es.length → (∀ d ∈ es, B d ≤ b) → (∀ (i : Nat) (d : DataW H) (y : AV), es[i]? = some d → ys[i]? = some y → DRep P e d y) → ∃ l : List α, ys = l.map A ∧ ∀ x ∈ l, R x := by
   intro ys
   induction ys with
   | nil => exact fun es _ _ _ => ⟨[], rfl, fun x hx => by cases hx⟩
   | cons y ys ih =>
    intro es hl hb2 hr
    cases es with
    | nil => simp at hl
    | cons d es =>
     obtain ⟨x, rfl, hx⟩ := hE d y (hb2 d (by simp)) (hr 0 d y rfl rfl)
     obtain ⟨l, rfl, hR⟩ := ih es (by simpa using hl) (fun d hd => hb2 d (by simp [hd])) (fun i d y a c => hr (i + 1) d y a c)
     exact ⟨x :: l, rfl, fun z hz => by
      rcases List.mem_cons.1 hz with rfl | hz
      ·exact hx
      exact hR z hz⟩
  obtain ⟨l, rfl, hR⟩ := key ys elems hn (fun d hd => Nat.le_trans (h2 d hd) hb) hh
  exact ⟨l, rfl, by simp at hn; omega, hR⟩
 | _ hu' => rw [hu] at hu'; cases hu'
theorem DRep.struct' {t : TypeId} {fs : Array Field} {d : DataW H} {y : AV} {B : DataW H → Nat} (hB : Bulk B) (hu : P.underlying t = some (.struct fs)) (h : DRep P t d y) :
  ∃ ys : List AV, ys.length = fs.size ∧ y = .agg (ys.flatMap AV.cells) ∧ ∀ (i : Nat) (f : Field) (z : AV), fs[i]? = some f → ys[i]? = some z → ∃ d', B d' ≤ B d ∧ DRep P f.type d' z := by
 cases h with
 | struct hu' hn hn' hh =>
  rw [hu] at hu'; injection hu' with e'; injection e' with e'; subst e'
  rename_i parts ys
  refine ⟨ys, hn', rfl, fun i f z h1 h2 => ?_⟩
  have hlt : i < parts.length := by rw [hn]; exact (Array.getElem?_eq_some_iff.1 h1).1
  exact ⟨parts[i], hB.agg parts _ (List.getElem_mem hlt), hh i f parts[i] z h1 (List.getElem?_eq_getElem hlt) h2⟩
 | _ hu' => rw [hu] at hu'; cases hu'

/-- An argument's reading. -/
theorem lr {T : TypeId → Prop} (PT : PlainT P T) {W : World} {t : TypeId} {v : Value} {d : DataW H} {ps : List MemPlace} {b0 : Nat} (hT : T t) (hok : Value.okWide P W .any b0 t v) (h : DataW.Trod enc P W 0 (fun _ => true) true t v d ps) :
  ∃ y, DRep P t d y ∧ Rep (G0 W) W none y v := by
 obtain ⟨n, hn⟩ := h
 obtain ⟨y, h1, h2, h3⟩ := ik PT n t _ _ hT hn
 refine ⟨y, h1, ?_⟩
 rcases PT.look t hT with ⟨hc1, hone⟩ | ⟨fs, hu, _⟩
 ·have hva : ∀ cs, v ≠ .agg cs := fun cs e => by
   subst e
   rcases hone with ⟨k, hu⟩ | hu | hu | ⟨e, hu, he, hz⟩ <;> simp [Value.okWide, hu, Cell.okWide, Cell.ok] at hok
  have hvc : v.cells = #[v] := by cases v <;> first | rfl | exact absurd rfl (hva _)
  have hyc : y.cells = [y] := by
   cases h1 with
   | struct hu => rcases hone with ⟨k, hu'⟩ | hu' | hu' | ⟨e, hu', he, hz⟩ <;> rw [hu] at hu' <;> cases hu'
   | _ => rfl
  have := h2.2.2 0 y v (by rw [hyc]; rfl) (by rw [hvc]; rfl)
  exact this
 obtain ⟨cs, rfl, hsz, _⟩ : ∃ cs, v = .agg cs ∧ cs.size = P.cellsOf t ∧ Row.okWide P W .any b0 t cs := by
  simp only [Value.okWide, hu] at hok
  exact hok
 cases h1 with
 | struct hu' hn1 hn2 hh =>
  refine .agg _ _ _ (by have := h2.1; simp only [AV.cells, Value.cells, Array.length_toList] at this; exact this.symm) h2.2.1 (fun i c u a b => h2.2.2 i c u a (by simpa [Value.cells] using b))
 | int hu' => rw [hu] at hu'; cases hu'
 | bool hu' => rw [hu] at hu'; cases hu'
 | str hu' => rw [hu] at hu'; cases hu'
 | nil hu' => rw [hu] at hu'; cases hu'
 | slice hu' => rw [hu] at hu'; cases hu'

def DReps (P : Program) : List TypeId → List (DataW H) → List AV → Prop
 | [], [], [] => True
 | t :: ts, d :: ds, y :: ys => DRep P t d y ∧ DReps P ts ds ys
 | _, _, _ => False

theorem DReps.cons' {t : TypeId} {ts : List TypeId} {ds : List (DataW H)} {ys : List AV} (h : DReps P (t :: ts) ds ys) : ∃ d ds' y ys', ds = d :: ds' ∧ ys = y :: ys' ∧ DRep P t d y ∧ DReps P ts ds' ys' := by
 match ds, ys, h with
 | d :: ds', y :: ys', ⟨h1, h2⟩ => exact ⟨d, ds', y, ys', rfl, rfl, h1, h2⟩
 | [], _, h => simp [DReps] at h
 | _ :: _, [], h => simp [DReps] at h
theorem DReps.nil' {ds : List (DataW H)} {ys : List AV} (h : DReps P [] ds ys) : ds = [] ∧ ys = [] := by
 match ds, ys, h with
 | [], [], _ => exact ⟨rfl, rfl⟩
 | [], _ :: _, h => simp [DReps] at h
 | _ :: _, _, h => simp [DReps] at h
theorem Qm {T : TypeId → Prop} (PT : PlainT P T) {W : World} {b0 : Nat} : ∀ (ts : List TypeId) (vs : List Value) (ds : List (DataW H)) (ps : List MemPlace), (∀ t ∈ ts, T t) →
  (∀ (j : Nat) t v, ts[j]? = some t → vs[j]? = some v → Value.okWide P W .any b0 t v) → DataW.TrodAll enc P W 0 (fun _ => true) true ts vs ds ps →
  ∃ ys, DReps P ts ds ys ∧ ys.length = vs.length ∧ ∀ (i : Nat) (y : AV) (u : Value), ys[i]? = some y → vs[i]? = some u → Rep (G0 W) W none y u
 | [], [], [], _, _, _, _ => ⟨[], trivial, rfl, fun i y u h => by simp at h⟩
 | t :: ts, v :: vs, d :: ds, ps, hT, hok, ⟨p, q, h1, h2, _⟩ => by
  obtain ⟨y, k1, k2⟩ := lr PT (hT t (by simp)) (hok 0 t v rfl rfl) h1
  obtain ⟨ys, k3, k4, k5⟩ := Qm PT ts vs ds q (fun t ht => hT t (by simp [ht])) (fun j t v a b => hok (j + 1) t v a b) h2
  refine ⟨y :: ys, ⟨k1, k3⟩, by simp [k4], fun i z u a b => ?_⟩
  match i with
  | 0 => simp at a b; subst a; subst b; exact k2
  | i + 1 => exact k5 i z u a b
 | [], _ :: _, _, _, _, _, h => by simp [DataW.TrodAll] at h
 | [], [], _ :: _, _, _, _, h => by simp [DataW.TrodAll] at h
 | _ :: _, [], _, _, _, _, h => by simp [DataW.TrodAll] at h
 | _ :: _, _ :: _, [], _, _, _, h => by simp [DataW.TrodAll] at h

theorem Mk {W : World} {sp : Nat → Bool} {hd : Bool} : ∀ {ts : List TypeId} {vs : List Value} {ds : List (DataW H)} {ps : List MemPlace}, DataW.TrodAll enc P W 0 sp hd ts vs ds ps → ds.length = ts.length
 | [], [], [], _, _ => rfl
 | _ :: _, _ :: _, _ :: _, _, ⟨_, _, _, h, _⟩ => by rw [List.length_cons, List.length_cons, Mk h]
 | [], _ :: _, _, _, h => by simp [DataW.TrodAll] at h
 | [], [], _ :: _, _, h => by simp [DataW.TrodAll] at h
 | _ :: _, [], _, _, h => by simp [DataW.TrodAll] at h
 | _ :: _, _ :: _, [], _, h => by simp [DataW.TrodAll] at h
theorem Ij {W W' : World} {sp : Nat → Bool} : ∀ {ts : List TypeId} {vs : List Value} {ds : List (DataW H)} {ps : List MemPlace}, DataW.TrodAll enc P W 0 sp true ts vs ds ps → (∀ p ∈ ps, W.sameAt W' p) → DataW.TrodAll enc P W' 0 sp true ts vs ds ps
 | [], [], [], _, h, _ => h
 | _ :: _, _ :: _, _ :: _, _, ⟨p, q, ⟨n, hn⟩, h2, e⟩, hs => ⟨p, q, ⟨n, DataW.trod_carry n _ _ _ hn (fun x hx => hs x (by rw [e]; exact List.mem_append_left _ hx))⟩, Ij h2 (fun x hx => hs x (by rw [e]; exact List.mem_append_right _ hx)), e⟩
 | [], _ :: _, _, _, h, _ => by simp [DataW.TrodAll] at h
 | [], [], _ :: _, _, h, _ => by simp [DataW.TrodAll] at h
 | _ :: _, [], _, _, h, _ => by simp [DataW.TrodAll] at h
 | _ :: _, _ :: _, [], _, h, _ => by simp [DataW.TrodAll] at h

/-- **A law that answers true, for whatever can be read.** -/
theorem ca {f : FuncId} {fn : Func} {s : ChangeSpec} {T : TypeId → Prop} {tb : TypeId} {W : World} {base : Nat} {args : Array Value} {ds gs : List (DataW H)} {before : List MemPlace} (K : Kids P (· < P.types.size)) (hz : ∀ t e, t < P.types.size → P.underlying t = some (.slice e) → 0 < P.cellsOf e)
  (PT : PlainT P T) (hT : ∀ t ∈ fn.params.toList, T t ∧ t < P.types.size) (hb : P.underlying tb = some .bool) (hres : fn.resultTypes = #[tb]) (hvars : s.vars = [])
  (hspec : ∀ ds : List (DataW H), ds.length = fn.params.size → s.fn H ds = { results := [.lit (.bool true)], args := ds })
  (hval : ∀ (j : Nat) t v, fn.params[j]? = some t → args[j]? = some v → Value.okWide P W .any base t v) (hW : DataW.Whole enc P fn.params.toList s.vars false W args.toList ds gs before)
  (hglob : Gg W)
  (main : ∀ ys : List AV, DReps P fn.params.toList ds ys → AFun P f ys [] (.v (.bool true))) (hbd : GI.bd ≤ 0 := by exact Nat.le_refl 0) :
  Calls P f args W (fun e W' => ∃ v, e = .returned v ∧ s.post enc P fn false true false false W args v W') := by
 have hW0 := hW
 obtain ⟨p, q, hA, hV, hpq, hfz, hnd⟩ := hW
 rw [hvars] at hV
 obtain ⟨rfl, rfl⟩ := trodVars_none hV
 rw [List.append_nil] at hpq
 subst hpq
 obtain ⟨ys, h1, h2, h3⟩ := Qm PT _ _ _ _ (fun t ht => (hT t ht).1) (fun j t v a b => hval j t v (by simpa using a) (by simpa using b)) hA
 have hlen := Mk hA
 have hc := main ys h1 0 (G0 W) W args (by simpa using h2.symm) (fun i y u a b => (h3 i y u a (by simpa using b)).lift) (ln W) (lq hglob)
 refine (callsIn_wide.1 (hc hbd)).mono ?_
 rintro e W' ⟨v, G', r, H', rfl, hr, hH, hTg, hk, hl, rfl, rfl⟩
 have hv := Kc hr
 subst hv
 refine ⟨_, rfl, ds, [], before, [], before, [], hW0, ?_, ?_, ?_, ?_, fun h => by cases h⟩
 ·rw [hres, List.append_nil, hspec ds (by simpa using hlen)]
  exact trodAll_cons_mk (p := []) (shut_bool hb true) trodAll_mk0
 ·rw [List.append_nil, hspec ds (by simpa using hlen)]
  refine Ij (DataW.TrodAll.respare K hz (fun t ht => (hT t ht).2) hA (fun p hp => by simpa using hW0.lt p hp)) (fun p hp => ?_)
  have hlt := hW0.lt p hp
  have hb := (hk.old _ (Lw hlt)).1
  cases p with
  | cell b o => exact Fj hb
  | map b => exact hb
 ·rw [hvars, List.append_nil, hspec ds (by simpa using hlen)]
  rfl
 refine ⟨hk.os, hk.output, fun i hi => ?_⟩
 have hb := (hk.old i (Lw hi)).1
 rw [hb]
 cases ho : W.heap[i]? with
 | none => simp
 | some o => cases o <;> simp
end
end Go.SX
namespace Go.Proofs.YtepoiomaocjhfaaGreatDoor
open Go Go.SX Go.SX.Nb Go.ChangeShapes Go.RowKit
set_option maxRecDepth 100000

theorem own : ownKnob Tryz.prog.godebug = none := by kernel_rfl
theorem kids : Kids Tryz.prog (· < Tryz.prog.types.size) := kids_rows (by kernel_rfl) (by kernel_rfl)
theorem full : ∀ t e, t < Tryz.prog.types.size → Tryz.prog.underlying t = some (.slice e) → 0 < Tryz.prog.cellsOf e := slices_full_of Tryz.prog (by kernel_rfl)
theorem il {H : Type} : ∀ d : DataW H, 1 ≤ Rows.uptoBulk d
 | .lit (.string b) => by rw [Rows.uptoBulk]; omega
 | .lit (.bool _) => by simp [Rows.uptoBulk]
 | .lit (.int _ _) => by simp [Rows.uptoBulk]
 | .lit (.float _ _) => by simp [Rows.uptoBulk]
 | .lit .nil => by simp [Rows.uptoBulk]
 | .nil => by simp [Rows.uptoBulk]
 | .ptr d => by rw [Rows.uptoBulk]; omega
 | .slice a b => by rw [Rows.uptoBulk]; omega
 | .agg a => by rw [Rows.uptoBulk]; omega
 | .iface _ d => by rw [Rows.uptoBulk]; omega
 | .map a => by rw [Rows.uptoBulk]; omega
 | .held _ => by simp [Rows.uptoBulk]
theorem Oh {H : Type} : ∀ l : List (DataW H), l.length ≤ Rows.uptoBulkAll l ∧ ∀ d ∈ l, Rows.uptoBulk d ≤ Rows.uptoBulkAll l
 | [] => ⟨Nat.zero_le _, fun d h => by cases h⟩
 | d :: r => by
  obtain ⟨h1, h2⟩ := Oh r
  have := il d
  rw [Rows.uptoBulkAll, List.length_cons]
  refine ⟨by omega, fun x hx => ?_⟩
  rcases List.mem_cons.1 hx with rfl | hx
  ·omega
  have := h2 x hx; omega
theorem cb {H : Type} : Bulk (Rows.uptoBulk (H := H)) where
 str := fun bs => by rw [Rows.uptoBulk]; omega
 slice := fun elems spare => by
  obtain ⟨h1, h2⟩ := Oh elems
  rw [Rows.uptoBulk]
  exact ⟨by omega, fun d hd => by have := h2 d hd; omega⟩
 agg := fun parts d hd => by
  have := (Oh parts).2 d hd
  rw [Rows.uptoBulk]
  omega

/-- What the rows of this seat list. -/
def im : List (String × DataW Unit) := Rows.soundJoinsUptoRow.laid
theorem cd : ∀ u, Tryz.prog.typeName? 3 u = some "*errors.errorString" → u = 271 := by
 intro u hu
 exact typeName_ptr_named (nm := "errors.errorString") (by kernel_rfl) (by kernel_rfl) (by decide) u hu
theorem ls {W : World} (h : laidMet Tryz.prog im W) : ∃ a : Addr, W.var? Tryz.prog "strconv.ErrRange" = some #[.iface 271 (.pointer (some a))] := by
 have h' := h.tail.tail.tail.tail
 obtain ⟨a, s, h1, _⟩ := laid_sentinel (g := 1) (ti := 133) (tp := 271) (te := 273) (ts := 9) h' (by kernel_rfl) (by kernel_rfl) Tryz.underlying133 cd Tryz.underlying271 Tryz.underlying273 rfl rfl Tryz.underlying9 (by kernel_rfl) (by kernel_rfl)
 exact ⟨a, h1⟩
theorem lu {W : World} (h : laidMet Tryz.prog im W) : Lib.TabIs Tryz.prog W "internal/strconv.uint64pow10" .u64 Lib.pow10Tab :=
 Lib.tabIs_of_head (g := 4) (t := 232) (e := 210) (n := 20) (by kernel_rfl) (by kernel_rfl) (by kernel_rfl) (by kernel_rfl) (by kernel_rfl) (by kernel_rfl) h.tail.tail
theorem Qn {P : Program} {W : World} {n : String} {g : Nat} {cs : Array Value} (hg : P.globalNamed n = some g) (h : W.var? P n = some cs) : ∃ t f, W.heap[g]? = some (.cells cs t f) := by
 unfold World.var? at h
 rw [hg] at h
 simp only [Option.bind_some] at h
 split at h
 ·rename_i cs' t f e
  injection h with h
  subst h
  exact ⟨t, f, e⟩
 cases h
theorem glob {W : World} [E : ErrAt] (h : W.ShapedOpen Tryz.prog) (hl : laidMet Tryz.prog im W) (he : W.var? Tryz.prog "strconv.ErrRange" = some #[.iface 271 (.pointer (some E.b))]) : Gg W := by
 intro x hx
 have hx' : x ∈ Q8 := hx
 unfold Q8 at hx'
 simp only [List.mem_cons, List.mem_nil_iff, or_false] at hx'
 rcases hx' with rfl | rfl | rfl
 ·obtain ⟨m, hm⟩ := cell_of_shapedOpen_int (g := 0) (t := 3) (zero := #[.int .i64 0]) (k := .i64) h (of_decide_eq_true (by kernel_rfl)) (by kernel_rfl) rfl (by kernel_rfl) (by kernel_rfl) Tryz.underlying3
  obtain ⟨cs, hh, hs, _⟩ := h.1 0 #[.int .i64 0] 3 (of_decide_eq_true (by kernel_rfl)) (by kernel_rfl)
  have hs' : cs.size = 1 := hs
  have h1 : 0 < cs.size := by omega
  have hc : cs[0] = .int .i64 m := by
   simp [World.cell?, hh, h1] at hm
   exact hm
  have : cs = #[.int .i64 m] := by
   apply Array.ext
   ·simpa using hs'
   intro i h1 h2
   have : i = 0 := by omega
   subst this
   simpa using hc
  rw [this] at hh
  exact ⟨_, hh, m, 3, _, rfl⟩
 ·obtain ⟨t, f, e⟩ := Qn (g := 1) (by kernel_rfl) he
  exact ⟨_, e, t, f, rfl⟩
 obtain ⟨t, f, e⟩ := Qn (g := 4) (by kernel_rfl) (lu hl)
 exact ⟨_, e, t, f, rfl⟩
end Go.Proofs.YtepoiomaocjhfaaGreatDoor
namespace Go.SX.Nb
open Go Go.SX Go.Proofs
variable [ErrAt]
set_option maxRecDepth 4000
mutual
def depthE : Expr → Nat
 | .mk _ _ _ k => Ch k + 1
def Ch : List Expr → Nat
  | [] => 0
  | e :: r => max (depthE e) (Ch r)
 end
mutual
def Fu (p : Expr → Bool) : Expr → Bool
 | .mk o t v k => p (.mk o t v k) && Ha p k
def Ha (p : Expr → Bool) : List Expr → Bool
  | [] => true
  | e :: r => Fu p e && Ha p r
 end
mutual
def Oi : Expr → List Expr
 | .mk o t v k => .mk o t v k :: Lx k
def Lx : List Expr → List Expr
  | [] => []
  | e :: r => Oi e ++ Lx r
 end
theorem Qo (e : Expr) : depthE e = Ch e.kids + 1 := by cases e; rfl
theorem J3 (p : Expr → Bool) (e : Expr) : Fu p e = (p e && Ha p e.kids) := by cases e; rfl
theorem Ji : ∀ a b, Ch (a ++ b) = max (Ch a) (Ch b)
 | [], b => by rw [List.nil_append, Ch, Nat.zero_max]
 | e :: r, b => by rw [List.cons_append, Ch, Ch, Ji r b, Nat.max_assoc]
theorem Ho : ∀ a b, B8 (a ++ b) = B8 a + B8 b
 | [], b => by rw [List.nil_append, B8, Nat.zero_add]
 | e :: r, b => by rw [List.cons_append, B8, B8, Ho r b, Nat.add_assoc]
theorem Ml (p : Expr → Bool) : ∀ a b, Ha p (a ++ b) = (Ha p a && Ha p b)
 | [], b => by rw [List.nil_append, Ha, Bool.true_and]
 | e :: r, b => by rw [List.cons_append, Ha, Ha, Ml p r b, Bool.and_assoc]
theorem Mm (l : List Expr) {x : Nat} (h : x < l.length) : Ch (l.take (x + 1)) = max (Ch (l.take x)) (depthE l[x]) := by
 rw [List.take_succ_eq_append_getElem h, Ji, Ch, Ch, Nat.max_zero]
theorem X7 (l : List Expr) {x : Nat} (h : x < l.length) : B8 (l.take (x + 1)) = B8 (l.take x) + sizeE l[x] := by
 rw [List.take_succ_eq_append_getElem h, Ho, B8, B8, Nat.add_zero]
theorem Hb (p : Expr → Bool) : ∀ l : List Expr, Ha p l = true ↔ ∀ y ∈ l, Fu p y = true
 | [] => by simp [Ha]
 | e :: r => by rw [Ha, Bool.and_eq_true, Hb p r]; simp
mutual
theorem Dy : ∀ (d : Int) (e : Expr), (An d e).length = sizeE e
 | d, .mk o t v k => by rw [An, sizeE, List.length_cons, Oj (d + 1) k, Nat.add_comm]
theorem Oj : ∀ (d : Int) (l : List Expr), (Ak d l).length = B8 l
  | d, [] => rfl
  | d, e :: r => by rw [Ak, B8, List.length_append, Dy d e, Oj d r]
 end
mutual
theorem Ok : ∀ (d : Int) (e : Expr), (An d e).map (·.2) = Oi e
 | d, .mk o t v k => by rw [An, Oi, List.map_cons, Ol (d + 1) k]
theorem Ol : ∀ (d : Int) (l : List Expr), (Ak d l).map (·.2) = Lx l
  | d, [] => rfl
  | d, e :: r => by rw [Ak, Lx, List.map_append, Ok d e, Ol d r]
 end
mutual
theorem Qp (p : Expr → Bool) : ∀ e : Expr, (Oi e).all p = Fu p e
 | .mk o t v k => by rw [Oi, Fu, List.all_cons, Om p k]
theorem Om (p : Expr → Bool) : ∀ l : List Expr, (Lx l).all p = Ha p l
  | [] => rfl
  | e :: r => by rw [Lx, Ha, List.all_append, Qp p e, Om p r]
 end
theorem ce (p : Expr → Bool) (d : Int) (e : Expr) : ((An d e).all fun it => p it.2) = Fu p e := by
 rw [← Qp p e, ← Ok d e, List.all_map]
 rfl
def Cw (m : Int) (L : List (Int × Expr)) : Int := L.foldl (fun m it => max m it.1) m
mutual
theorem On : ∀ (d m : Int) (e : Expr), Cw m (An d e) = max m (d - 1 + depthE e)
 | d, m, .mk o t v k => by
  rw [An, depthE]
  show Cw (max m d) (Ak (d + 1) k) = _
  rw [Oo (d + 1) (max m d) k (by omega)]
  omega
theorem Oo : ∀ (d m : Int) (l : List Expr), d - 1 ≤ m → Cw m (Ak d l) = max m (d - 1 + Ch l)
  | d, m, [], h => by
    rw [Ak, Ch]
    show m = _
    omega
  | d, m, e :: r, h => by
    rw [Ak, Ch]
    unfold Cw
    rw [List.foldl_append]
    show Cw (Cw m (An d e)) (Ak d r) = _
    rw [On d m e, Oo d _ r (by omega)]
    omega
 end
theorem Mn (e : Expr) : Cw 0 (An 1 e) = depthE e := by rw [On]; omega
theorem Ui : ∀ (L : List (Int × Expr)) (m b : Int), m ≤ b → (Cw m L ≤ b ↔ ∀ it ∈ L, it.1 ≤ b)
 | [], m, b, h => by simp [Cw, h]
 | it :: r, m, b, h => by
  show Cw (max m it.1) r ≤ b ↔ _
  rcases Decidable.em (it.1 ≤ b) with h1 | h1
  ·rw [Ui r (max m it.1) b (by omega)]
   simp [h1]
  constructor
  ·intro h2
   have : ∀ (r : List (Int × Expr)) (m : Int), m ≤ Cw m r := by
    intro r
    induction r with
    | nil => intro m; exact Int.le_refl _
    | cons a r ih => intro m; have := ih (max m a.1); show m ≤ Cw (max m a.1) r; omega
   have := this r (max m it.1)
   omega
  intro h2
  exact absurd (h2 it (by simp)) h1
theorem lv (e : Expr) {b : Nat} : (∀ it ∈ An 1 e, it.1 ≤ (b : Int)) ↔ depthE e ≤ b := by
 rw [← Ui (An 1 e) 0 b (by omega), Mn]
 omega
def C7 (e : Expr) : Bool := (decide (depthE e ≤ 30) && decide (sizeE e ≤ 300)) && Fu Da e
theorem Ep (e : Expr) : Ao e = C7 e := by
 have hpos : 1 ≤ sizeE e := by rw [Ig]; omega
 rw [Bool.eq_iff_iff]
 unfold Ao C7
 rw [List.all_eq_true]
 simp only [Bool.and_eq_true, decide_eq_true_eq, List.mem_range, Dy]
 rw [← lv e, ← ce Da 1 e, List.all_eq_true]
 constructor
 ·intro h
  have key : ∀ (k : Nat) (hk : k < (An 1 e).length), Da (An 1 e)[k].2 = true ∧ (An 1 e)[k].1 ≤ 30 ∧ (k : Int) + 1 ≤ 300 := fun k hk => by
   have := h k (by rw [Dy] at hk; exact hk)
   rw [Sf (List.getElem?_eq_getElem hk)] at this
   simp only [Bool.not_eq_true', Bool.or_eq_false_iff, Bool.not_eq_false', decide_eq_false_iff_not] at this
   exact ⟨this.1.1, by have := this.1.2; omega, by have := this.2; omega⟩
  refine ⟨⟨fun it hit => ?_, ?_⟩, fun it hit => ?_⟩
  ·obtain ⟨k, hk, rfl⟩ := List.getElem_of_mem hit
   exact (key k hk).2.1
  ·have := (key (sizeE e - 1) (by rw [Dy]; omega)).2.2
   omega
  obtain ⟨k, hk, rfl⟩ := List.getElem_of_mem hit
  exact (key k hk).1
 rintro ⟨⟨h1, h2⟩, h3⟩ k hk
 have hk' : k < (An 1 e).length := by rw [Dy]; exact hk
 rw [Sf (List.getElem?_eq_getElem hk')]
 have a1 := h1 _ (List.getElem_mem hk')
 have a3 := h3 _ (List.getElem_mem hk')
 have a3' : Da (An 1 e)[k].2 = true := a3
 rw [a3']
 simp only [Bool.not_eq_true', Bool.or_eq_false_iff, Bool.not_true, decide_eq_false_iff_not]
 exact ⟨⟨trivial, by have : (An 1 e)[k].1 ≤ (30 : Int) := a1; omega⟩, by omega⟩
/-- Its number is one of 64 bits. -/
def Sk (e : Expr) : Bool := decide (-9223372036854775808 ≤ e.val.n) && decide (e.val.n ≤ 9223372036854775807)
/-! Names. -/
mutual
def qr (s : Str) (y : Expr) : Expr → Expr
 | .mk o t v k => if (o == 2) && (t == s) then y else .mk o t v (lw s y k)
def lw (s : Str) (y : Expr) : List Expr → List Expr
  | [] => []
  | e :: r => qr s y e :: lw s y r
 end
mutual
def eqE : Expr → Expr → Bool
 | .mk o t v k, .mk o' t' v' k' => ((((o == o') && (t == t')) && ((v.kind == v'.kind && v.n == v'.n) && v.s == v'.s))) && eqL k k'
def eqL : List Expr → List Expr → Bool
  | [], [] => true
  | e :: r, e' :: r' => eqE e e' && eqL r r'
  | _, _ => false
 end
theorem io (x y : Expr) : eqE x y = ((((x.op == y.op) && (x.text == y.text)) && ((x.val.kind == y.val.kind && x.val.n == y.val.n) && x.val.s == y.val.s)) && eqL x.kids y.kids) := by
 cases x; cases y; rw [eqE]; rfl
mutual
theorem Sl : ∀ x y : Expr, eqE x y = true ↔ x = y
 | .mk o t v k, .mk o' t' v' k' => by
  rw [eqE]
  simp only [Bool.and_eq_true, beq_iff_eq, Kw k k', Expr.mk.injEq]
  constructor
  ·rintro ⟨⟨⟨rfl, rfl⟩, ⟨h1, h2⟩, h3⟩, rfl⟩
   refine ⟨rfl, rfl, ?_, rfl⟩
   cases v; cases v'
   simp_all
  rintro ⟨rfl, rfl, rfl, rfl⟩
  exact ⟨⟨⟨rfl, rfl⟩, ⟨rfl, rfl⟩, rfl⟩, rfl⟩
theorem Kw : ∀ x y : List Expr, eqL x y = true ↔ x = y
  | [], [] => by simp [eqL]
  | [], e :: r => by simp [eqL]
  | e :: r, [] => by simp [eqL]
  | e :: r, e' :: r' => by rw [eqL, Bool.and_eq_true, Sl e e', Kw r r', List.cons.injEq]
 end
theorem lx : ∀ {x y : List Expr}, eqL x y = true → x.length = y.length := fun h => by rw [(Kw _ _).1 h]
theorem ip (x : Expr) : eqE x x = true := (Sl x x).2 rfl
/-! A node by itself, and marks. -/
theorem Sm {of : Str} {ws : List Str} (h : of = Ih ws) (hp : ∀ w ∈ ws, (32 : UInt8) ∉ w) (s : Str) : J1 s of = (!(s == []) && ws.contains s) := by
 unfold J1
 rw [Uf]
 cases hb : s.contains 32 with
 | false =>
  have h2 : (32 : UInt8) ∉ s := by simpa using hb
  rw [h, Gk s h2 ws hp, Bool.not_false, Bool.and_true]
  congr 1
  rw [List.contains_eq_any_beq]
  congr 1
  funext w
  rw [Bool.eq_iff_iff, beq_iff_eq, beq_iff_eq]
  exact eq_comm
 | true =>
  have h2 : (32 : UInt8) ∈ s := by simpa using hb
  have h3 : ws.contains s = false := by
   rw [Bool.eq_false_iff]
   intro h4
   exact hp s (by simpa using h4) h2
  rw [h3]
  simp
def levels : List (List Str) := [[[111, 114]], [[97, 110, 100]], [], [[61], [33, 61], [60], [60, 61], [62], [62, 61]], [[43], [45], [38]], [[42], [47], [37]]]
def Di (s : Str) : Int := match levels.findIdx? (fun l => l.contains s) with | some i => i | none => -1
def Ly : List Str := [[111, 114], [], [97, 110, 100], [], [61], [33, 61], [60], [60, 61], [62], [62, 61], [], [43], [45], [38], [], [42], [47], [37]]
theorem X8 : J2 = Ih Ly := by kernel_rfl
theorem Uj : ∀ w ∈ Ly, (32 : UInt8) ∉ w := by decide
theorem X9 (s : Str) : J1 s J2 = decide (0 ≤ Di s) := by
 rw [Sm X8 Uj s]
 have h1 : decide (0 ≤ Di s) = levels.any (fun l => l.contains s) := by
  unfold Di
  cases h : levels.findIdx? (fun l => l.contains s) with
  | some i =>
   have : levels.any (fun l => l.contains s) = true := by
    have := List.findIdx?_eq_some_iff_getElem.1 h
    obtain ⟨hi, hp, _⟩ := this
    exact List.any_eq_true.2 ⟨_, List.getElem_mem hi, hp⟩
   rw [this]
   simp
  | none =>
   have := List.findIdx?_eq_none_iff.1 h
   have e : levels.any (fun l => l.contains s) = false := by
    rw [List.any_eq_false]
    intro l hl
    rw [this l hl]
    simp
   rw [e]
   rfl
 rw [h1]
 by_cases h0 : s = []
 ·subst h0; rfl
 have : (s == []) = false := by simpa using h0
 rw [this, Bool.not_false, Bool.true_and]
 simp [levels, Ly, h0, Bool.or_assoc]
def Er (e : Expr) : Bool :=
 if e.op == 1 then ((Ee e.val && decide (0 ≤ e.val.n)) && (e.text == [])) && ((e.kids.length : Int) == 0)
 else if !(Kr e.val) then false
 else if e.op == 2 then Ie e.text && ((e.kids.length : Int) == 0)
 else if e.op == 3 || e.op == 4 then (e.text == []) && ((e.kids.length : Int) == 1)
 else if e.op == 5 then decide (0 ≤ Di e.text) && ((e.kids.length : Int) == 2)
 else if e.op == 6 then D5 e.text == (e.kids.length : Int)
 else false
theorem iq (e : Expr) : Da e = Er e := by
 unfold Da Er
 rw [X9, D6]
 cases Kr e.val <;> simp
/-! What is wide. -/
def Lz (e : Expr) : Bool := ((decide ((100 : Int) < e.text.length) || decide ((400 : Int) < e.val.s.length)) || decide ((100 : Int) < e.kids.length))
/-- Among trees, when n have been seen: is one too much? -/
def Jj (l : List Expr) (n : Nat) : Bool := decide (500 < n + l.length) || l.any Lz
def E5 : Nat → List Expr → Nat → Bool
 | 0, l, n => !l.isEmpty
 | f + 1, l, n => if l.isEmpty then false else if Jj l n then true else if decide ((500 : Int) < (l.flatMap Expr.kids).length) then true else E5 f (l.flatMap Expr.kids) (n + l.length)
theorem Oq : ∀ l : List Expr, B8 l = l.length + B8 (l.flatMap Expr.kids)
 | [] => rfl
 | e :: r => by
  rw [B8, Ig, List.flatMap_cons, Ho, Oq r, List.length_cons]
  omega
theorem Ot {l : List Expr} {n : Nat} (h : Jj l n = false) : n + l.length ≤ 500 ∧ ∀ e ∈ l, Lz e = false := by
 unfold Jj at h
 simp only [Bool.or_eq_false_iff, decide_eq_false_iff_not, List.any_eq_false, Bool.not_eq_true] at h
 exact ⟨by omega, h.2⟩
theorem Sn {e : Expr} (h : Lz e = false) : e.text.length ≤ 100 ∧ e.val.s.length ≤ 400 ∧ e.kids.length ≤ 100 := by
 unfold Lz at h
 simp only [Bool.or_eq_false_iff, decide_eq_false_iff_not] at h
 omega
theorem Qq {f : Nat} {l : List Expr} {n : Nat} (h : E5 (f + 1) l n = false) (hl : l.isEmpty = false) : Jj l n = false ∧ (l.flatMap Expr.kids).length ≤ 500 ∧ E5 f (l.flatMap Expr.kids) (n + l.length) = false := by
 rw [E5, if_neg (by rw [hl]; simp)] at h
 split at h
 ·cases h
 rename_i h1
 split at h
 ·cases h
 rename_i h2
 simp only [decide_eq_true_eq] at h2
 exact ⟨by simpa using h1, by omega, h⟩
theorem Yk : ∀ (f : Nat) (l : List Expr) (n : Nat), E5 f l n = false → ∀ e ∈ l, okE f e ∧ Fu (fun y => !Lz y) e = true
 | 0, l, n, h, e, he => by
  have : l = [] := by simpa [E5] using h
  subst this
  cases he
 | f + 1, l, n, h, e, he => by
  have hl : l.isEmpty = false := by cases l <;> simp_all
  obtain ⟨h1, h2, h3⟩ := Qq h hl
  have h4 := Sn ((Ot h1).2 e he)
  have ih := Yk f _ _ h3
  have hk : ∀ y ∈ e.kids, okE f y ∧ Fu (fun y => !Lz y) y = true := fun y hy => ih y (List.mem_flatMap.2 ⟨e, he, hy⟩)
  refine ⟨⟨by omega, by omega, fun y hy => (hk y hy).1⟩, ?_⟩
  rw [J3, (Ot h1).2 e he, (Hb _ _).2 fun y hy => (hk y hy).2]
  rfl
theorem Qr : ∀ (f : Nat) (l : List Expr) (n : Nat), n ≤ 500 → E5 f l n = false → n + B8 l ≤ 500
 | 0, l, n, hn, h => by
  have : l = [] := by simpa [E5] using h
  subst this
  simpa [B8] using hn
 | f + 1, l, n, hn, h => by
  by_cases hl : l.isEmpty = true
  ·have : l = [] := by simpa using hl
   subst this
   simpa [B8] using hn
  have hl' : l.isEmpty = false := by simpa using hl
  obtain ⟨h1, h2, h3⟩ := Qq h hl'
  have := Qr f _ _ (Ot h1).1 h3
  rw [Oq l]
  omega
def Ou (e : Expr) : Bool := E5 61 [e] 0
/-- A tree that is gone through. -/
structure Slim (e : Expr) : Prop where
 ok : okE 61 e
 size : sizeE e ≤ 500
 slim : Fu (fun y => !Lz y) e = true
theorem ly {e : Expr} (h : Ou e = false) : Slim e := by
 obtain ⟨h1, h2⟩ := Yk _ _ _ h e (by simp)
 have := Qr _ _ _ (by decide) h
 exact ⟨h1, by simpa [B8] using this, h2⟩
end Go.SX.Nb
namespace Go.Proofs.YtepoiomaocjhfaaGreatDoor
open Go Go.SX Go.SX.Nb Go.ChangeShapes Go.RowKit
set_option maxRecDepth 100000
theorem Xa {ys : List AV} (h : ∀ (i : Nat) (y : AV), ys[i]? = some y → ∃ e : Nb.Expr, y = A4 e ∧ Fu Sk e = true) : ∃ l : List Nb.Expr, ys = l.map A4 ∧ Ha Sk l = true := by
 induction ys with
 | nil => exact ⟨[], rfl, rfl⟩
 | cons y ys ih =>
  obtain ⟨e, rfl, he⟩ := h 0 y rfl
  obtain ⟨l, rfl, hl⟩ := ih (fun i z hz => h (i + 1) z hz)
  exact ⟨e :: l, rfl, by rw [Ha, he, hl]; rfl⟩
theorem lz {H : Type} [ErrAt] (d : DataW H) (y : AV) (h : DRep Tryz.prog 42 d y) : ∃ v : Val, y = Nz v ∧ -9223372036854775808 ≤ v.n ∧ v.n ≤ 9223372036854775807 := by
 obtain ⟨ys, hn, rfl, hh⟩ := h.struct' cb Tryz.underlying42
 match ys, hn with
 | [y0, y1, y2], _ =>
  obtain ⟨d0, b0, h0⟩ := hh 0 _ y0 rfl rfl
  obtain ⟨d1, b1, h1⟩ := hh 1 _ y1 rfl rfl
  obtain ⟨d2, b2, h2⟩ := hh 2 _ y2 rfl rfl
  obtain ⟨k, rfl, rfl, _⟩ := h0.int' Tryz.underlying3
  obtain ⟨n, rfl, rfl, hn1, hn2⟩ := h1.int' Tryz.underlying2
  obtain ⟨s, rfl, rfl⟩ := h2.str' Tryz.underlying9
  exact ⟨⟨k, n, s⟩, rfl, hn1, hn2⟩
theorem ir {H : Type} [ErrAt] {t : TypeId} {d : DataW H} {y : AV} (h : DRep Tryz.prog t d y) : (t = 45 → ∃ e : Nb.Expr, y = A4 e ∧ Fu Sk e = true) ∧ (t = 43 → ∃ l : List Nb.Expr, y = .slice false 6 (l.map A4) ∧ Ha Sk l = true) := by
 induction h with
 | int hu _ => exact ⟨fun e => (by subst e; rw [Tryz.underlying45] at hu; cases hu), fun e => by subst e; rw [Tryz.underlying43] at hu; cases hu⟩
 | bool hu => exact ⟨fun e => (by subst e; rw [Tryz.underlying45] at hu; cases hu), fun e => by subst e; rw [Tryz.underlying43] at hu; cases hu⟩
 | str hu => exact ⟨fun e => (by subst e; rw [Tryz.underlying45] at hu; cases hu), fun e => by subst e; rw [Tryz.underlying43] at hu; cases hu⟩
 | nil hu =>
  refine ⟨fun e => (by subst e; rw [Tryz.underlying45] at hu; cases hu), fun e => ?_⟩
  subst e
  rw [Tryz.underlying43] at hu
  injection hu with hu
  injection hu with hu
  subst hu
  exact ⟨[], by rw [show Tryz.prog.cellsOf 45 = 6 by kernel_rfl]; rfl, rfl⟩
 | slice hu hn hh ih =>
  refine ⟨fun e => (by subst e; rw [Tryz.underlying45] at hu; cases hu), fun e => ?_⟩
  subst e
  rw [Tryz.underlying43] at hu
  injection hu with hu
  injection hu with hu
  subst hu
  rename_i elems spare ys
  obtain ⟨l, rfl, hl⟩ := Xa (ys := ys) (fun i y hy => by
   have hlt : i < elems.length := by rw [← hn]; exact (List.getElem?_eq_some_iff.1 hy).1
   exact (ih i elems[i] y (List.getElem?_eq_getElem hlt) hy).1 rfl)
  exact ⟨l, by rw [show Tryz.prog.cellsOf 45 = 6 by kernel_rfl], hl⟩
 | struct hu hn hn' hh ih =>
  refine ⟨fun e => ?_, fun e => by subst e; rw [Tryz.underlying43] at hu; cases hu⟩
  subst e
  rw [Tryz.underlying45] at hu
  injection hu with hu
  injection hu with hu
  subst hu
  rename_i parts ys
  match parts, hn, ys, hn' with
  | [p0, p1, p2, p3], _, [y0, y1, y2, y3], _ =>
   obtain ⟨o, rfl, rfl, _⟩ := (hh 0 _ p0 y0 rfl rfl rfl).int' Tryz.underlying3
   obtain ⟨s, rfl, rfl⟩ := (hh 1 _ p1 y1 rfl rfl rfl).str' Tryz.underlying9
   obtain ⟨v, rfl, hv1, hv2⟩ := lz p2 y2 (hh 2 _ p2 y2 rfl rfl rfl)
   obtain ⟨l, rfl, hl⟩ := (ih 3 _ p3 y3 rfl rfl rfl).2 rfl
   refine ⟨.mk o s v l, ?_, ?_⟩
   ·rw [Ab]; rfl
   rw [Fu, hl, Bool.and_true]
   show (decide (-9223372036854775808 ≤ v.n) && decide (v.n ≤ 9223372036854775807)) = true
   simp [hv1, hv2]
end Go.Proofs.YtepoiomaocjhfaaGreatDoor
namespace Go.SX.Nb
open Go Go.SX Go.Proofs
variable [ErrAt]
set_option maxRecDepth 4000
/-- The lexer from a place between two words on. -/
def x7 (f q : Nat) (s : Str) : List (Tok × Int) := F6 f (q + gapM s) (s.drop (gapM s))
theorem Uk {f q : Nat} {s : Str} (h : s ≠ []) : ∃ (n : Nat), F6 (f + 1) q s = (⟨(B5 s).1, (B5 s).2.1, q⟩, (B5 s).2.2.2) :: (if (B5 s).2.2.2 = 0 then x7 f (q + n) (s.drop n) else []) ∧ ((B5 s).2.2.2 = 0 → (B5 s).2.2.1 = (n : Int) ∧ 1 ≤ n ∧ n ≤ s.length) := by
 refine ⟨(B5 s).2.2.1.toNat, ?_, fun he => ?_⟩
 ·rw [If h]
  simp only [beq_iff_eq]
  rfl
 obtain ⟨n, h1, h2, h3⟩ := Yi (s := s) (by cases s with | nil => exact absurd rfl h | cons c r => simp) he
 rw [h1]
 exact ⟨rfl, by simpa using h2, by simpa using h3⟩
/-! ### Gaps -/
/-! ### Words -/
theorem m0 {s : Str} (h : (Dx s).2.1 = 0) : s.length ≤ 4000 ∧ (∀ it ∈ B2 s, it.2 = 0) ∧ Dx s = ((B2 s).map (·.1) ++ [⟨0, [], s.length⟩], 0, 0) := by
 unfold Dx at h ⊢
 split at h
 ·exact absurd h (show ¬ (3 : Int) = 0 by decide)
 rename_i hl
 rw [if_neg hl]
 cases hf : (B2 s).find? (fun it => it.2 != 0) with
 | some it =>
  rw [hf] at h
  have := List.find?_some hf
  simp at this
  exact absurd h this
 | none =>
  rw [List.find?_eq_none] at hf
  refine ⟨by omega, fun it hit => by simpa using hf it hit, rfl⟩
theorem x8 : Tryz.prog.eqGuardType Tryz.prog.depth 58 = false := by kernel_rfl
theorem m8 (k k' : Int) (s s' : List UInt8) (w : World) : (Op.equal 58 (.agg #[.string ⟨s.toArray⟩, .int .i64 k]) (.agg #[.string ⟨s'.toArray⟩, .int .i64 k'])).run Tryz.prog w = .ok (s == s' && k == k') w := by
 have h1 : Tryz.prog.stoodInHeld 58 = false := by kernel_rfl
 show (Op.equalIn (9999 + 1) _ _ _).run _ _ = _
 rw [Op.equalIn]
 generalize hd : (9999 : Nat) = d
 obtain ⟨d, rfl⟩ : ∃ e, d = e + 1 := ⟨9998, hd.symm⟩
 clear hd
 simp [run_underlying Tryz.underlying58, h1, part, ek _ _ _ _ _ _ Tryz.underlying3, o6 _ _ _ _ _ Tryz.underlying9, Tryz.isAgg3, Tryz.isAgg9]
 by_cases e1 : k = k' <;> by_cases e3 : s = s' <;> simp [e1, e3]
theorem Yl {a b : Col} : (a.name == b.name && a.kind == b.kind) = decide (a = b) := by
 rw [Bool.eq_iff_iff]
 cases a; cases b
 simp
theorem c12 (a b : List Col) (ha : a.length ≤ 1048576) (Hp : List AObj) : AFun Tryz.prog 12 [A8 a, A8 b] Hp (Aj (decide (a = b))) := by
 refine ACall.body [.tmp 4] [0, 1] Tryz.func12 Tryz.ntmps12 (fun d => ?_)
 refine Z52 ?_;refine Kk ?_;refine R.fin [0, 1, 10] ?_
 refine W.cond (fun ht10 => ?_) (fun ht10 => ?_)
 ·refine b9 ?_;exact K.fin (V.one V.tmp) ⟨by rw [ui (by simpa using ht10)], rfl⟩
 refine Z99 ?_;refine Po ?_
 refine AW.loopC (α := Nat) (fun x => ⟨26, A3 0 (A8 a) (A3 1 (A8 b) (A3 5 (A2 (x : Nat)) (fun _ => .any))), Hp, [], [], none⟩) (fun x => x ≤ a.length ∧ ∀ (j : Nat) (y : Col), j < x → a[j]? = some y → b[j]? = some y) (fun x => a.length - x) (0) (by simp) (StLe.refl _) rfl (fun x hx => ?_)
 refine Z54 ?_;refine R.fin [0, 1, 5, 14] ?_
 refine W.cond (fun ht14 => ?_) (fun ht14 => ?_)
 ·have hlt : x < a.length := by simpa using ht14
  have hlb : x < b.length := by have := qf ht10; omega
  refine pe ?_;refine Z14 ?_
  refine D.gw (h := Q.indexAddr (x) (Ag a[x]) (fun _ => Ac hlt)) (hr := ?_)
  refine Z55 ?_
  refine D.gw (h := Q.indexAddr (x) (Ag b[x]) (fun _ => Ac hlb)) (hr := ?_)
  refine Wf ?_
  refine R.gw (h := Q.neqAgg x8 (m8 a[x].kind b[x].kind a[x].name b[x].name)) (hr := ?_)
  refine R.fin [0, 1, 5, 25] ?_
  refine W.cond (fun ht25 => ?_) (fun ht25 => ?_)
  ·rw [Yl] at ht25
   refine Z78 ?_;refine Z35 ?_;exact K.fin (V.one V.tmp) ⟨by rw [we hlt hlb (by simpa using ht25)], rfl⟩
  rw [Yl] at ht25
  refine Z61 ?_;refine Po ?_
  exact K.lpN (x + 1) ⟨hlt, Ed (p := fun j y => b[j]? = some y) hlt hx.2 (by rw [List.getElem?_eq_getElem hlb]; simpa using (Eq.symm (by simpa using ht25) : b[x] = a[x]))⟩ (by omega) (StCut.of_eq rfl)
 refine Z42 ?_;refine Z78 ?_;exact K.fin (V.one V.tmp) ⟨by rw [uk (by simpa using ht10) (F4 (by simp at ht14; omega) hx.2)], rfl⟩

def cf (c : UInt8) : Str := if c = 39 then [39, 39] else [c]
def Kx (t : Str) : Str := t.flatMap cf
theorem M0 (c : UInt8) (r : Str) : Kx (c :: r) = cf c ++ Kx r := by unfold Kx; rw [List.flatMap_cons]
theorem Ym : ∀ s : Str, (Lib.index s [39] = -1 ∧ Kx s = s) ∨ ∃ i : Nat, Lib.index s [39] = (i : Int) ∧ i < s.length ∧ Kx s = s.take i ++ [39, 39] ++ Kx (s.drop (i + 1))
 | [] => .inl ⟨rfl, rfl⟩
 | b :: l => by
  by_cases hb : b = 39
  ·subst hb
   refine .inr ⟨0, by simp [Lib.index, List.isPrefixOf], by simp, ?_⟩
   rw [M0]
   simp [cf]
  have hp : ([39] : Str).isPrefixOf (b :: l) = false := by
   simp [List.isPrefixOf, Ne.symm hb]
  have hd : Kx (b :: l) = b :: Kx l := by
   rw [M0, cf, if_neg hb]
   rfl
  rcases Ym l with ⟨h1, h2⟩ | ⟨i, h1, h2, h3⟩
  ·refine .inl ⟨?_, by rw [hd, h2]⟩
   rw [Lib.index, hp, h1]; rfl
  refine .inr ⟨i + 1, ?_, by simp; omega, ?_⟩
  ·rw [Lib.index, hp, h1, if_neg (by simp), if_neg (by simp)]
   rfl
  rw [hd, h3]
  simp
theorem Ky : ∀ (n : Nat) (s : Str), s.length ≤ n → Lib.replaceK [39] [39, 39] (Lib.count s [39]) s = Kx s
 | n, s, hn => by
  rcases Ym s with ⟨h1, h2⟩ | ⟨i, h1, h2, h3⟩
  ·rw [Lib.count_miss h1, h2]; rfl
  cases n with
  | zero => omega
  | succ n =>
   rw [Lib.count_hit (by decide) h1, Nat.add_comm, Lib.replaceK_hit _ _ _ _ i h1]
   have e : i + ([39] : Str).length = i + 1 := rfl
   rw [e, Ky n (s.drop (i + 1)) (by rw [List.length_drop]; omega), h3]
theorem Ul (s : Str) : Lib.replaceAll s [39] [39, 39] = Kx s := by
 unfold Lib.replaceAll Lib.replace
 rw [if_neg (by decide)]
 have e : Lib.replaceNum s [39] (-1) = Lib.count s [39] := by unfold Lib.replaceNum; rw [if_pos (.inl (by decide))]
 rw [e]
 exact Ky _ s (Nat.le_refl _)
def Yn (t : Tok) : Str := if t.kind = 4 then [39] ++ Kx t.text ++ [39] else t.text
theorem Xb {q : Str} (h0 : q.headD 0 = 39) (h1 : 1 ≤ q.length) (h : (Eo q).2 = 0) : [39] ++ Kx (Eo q).1.s ++ [39] = q := by
 cases q with
 | nil => simp at h1
 | cons c r =>
  have hc : c = 39 := h0
  subst hc
  unfold Eo at h ⊢
  have n1 : ((39 :: r : Str) == [110, 117, 108, 108]) = false := by rw [beq_eq_false_iff_ne]; intro e; injection e with e; exact absurd e (by decide)
  have n2 : ((39 :: r : Str) == [116, 114, 117, 101]) = false := by rw [beq_eq_false_iff_ne]; intro e; injection e with e; exact absurd e (by decide)
  have n3 : ((39 :: r : Str) == [102, 97, 108, 115, 101]) = false := by rw [beq_eq_false_iff_ne]; intro e; injection e with e; exact absurd e (by decide)
  rw [n1, n2, n3] at h ⊢
  simp only [Bool.false_eq_true, if_false, Bool.or_self] at h ⊢
  by_cases hq : Qe (39 :: r) = true
  ·rw [if_pos hq] at h ⊢
   unfold U5 at h ⊢
   split at h
   ·exact absurd h (show ¬ (7 : Int) = 0 by decide)
   rename_i hp
   rw [if_neg hp]
   have hp' : Ft (O2 (39 :: r)) = 39 :: r := by simpa using hp
   have hk : (O2 (39 :: r)).kind = 2 := rfl
   show [39] ++ Kx (O2 (39 :: r)).s ++ [39] = 39 :: r
   generalize O2 (39 :: r) = v at hp' hk
   have hne : Ft v ≠ [] := by rw [hp']; simp
   rw [← hp']
   unfold Ft at hne ⊢
   split at hne
   ·exact absurd rfl hne
   rename_i hpl
   rw [if_neg hpl, hk, if_neg (by decide), if_pos (by decide), Ul]
  rw [if_neg hq] at h
  have hd : Gi (39 :: r) = true := by
   unfold Gi
   have e : Me (39 :: r) = 39 :: r := by
    rcases Mf (39 :: r) with ⟨_, h4⟩ | ⟨r', h3, _⟩
    ·exact h4
    injection h3 with h3; exact absurd h3 (by decide)
   rw [e]
   have : (Lib.trimS (39 :: r) digs == []) = false := by
    rw [beq_eq_false_iff_ne]
    intro e
    rw [Q9] at e
    exact absurd (e 39 (by simp)) (by decide)
   rw [this]
   simp
  have hn : Co (39 :: r) = (0, 6) := by unfold Co; rw [if_pos hd]
  rw [hn] at h
  simp at h
theorem Pv (s : Str) (m : Nat) : s.take (s.take m).length = s.take m := by
 rw [List.length_take]
 rcases Nat.le_total m s.length with h | h
 ·rw [Nat.min_eq_left h]
 rw [Nat.min_eq_right h, List.take_of_length_le (Nat.le_refl _), List.take_of_length_le h]
theorem Ik (s of : Str) : s.take (C1 s of).length = C1 s of := by
 unfold C1
 exact Pv s _
/-- What a word's print spells is what was read. -/
theorem Xc {s : Str} {n p : Nat} (h0 : 1 ≤ s.length) (he : (B5 s).2.2.2 = 0) (hn : (B5 s).2.2.1 = (n : Int)) : Yn ⟨(B5 s).1, (B5 s).2.1, p⟩ = s.take n := by
 cases s with
 | nil => simp at h0
 | cons c r =>
  unfold B5 at he hn ⊢
  by_cases c1 : decide (0 < Kp ((c :: r).take 1) letters) = true
  ·rw [if_pos c1] at he hn
   simp only [if_pos c1]
   unfold Jx at he hn ⊢
   by_cases r1 : E1 (C1 (c :: r) tails) = true
   ·rw [if_pos r1] at hn
    simp only [if_pos r1]
    have hn' : (((C1 (c :: r) tails).length : Nat) : Int) = n := hn
    have e : n = (C1 (c :: r) tails).length := by omega
    rw [e, Ik]
    rfl
   rw [if_neg r1] at he hn
   simp only [if_neg r1]
   by_cases r2 : (!Bd (C1 (c :: r) tails)) = true
   ·rw [if_pos r2] at he; exact absurd he (show ¬ (3 : Int) = 0 by decide)
   rw [if_neg r2] at hn
   simp only [if_neg r2]
   have hn' : (((C1 (c :: r) tails).length : Nat) : Int) = n := hn
   have e : n = (C1 (c :: r) tails).length := by omega
   rw [e, Ik]
   rfl
  rw [if_neg c1] at he hn
  simp only [if_neg c1]
  by_cases c2 : decide (0 < Kp ((c :: r).take 1) digs) = true
  ·rw [if_pos c2] at he hn
   simp only [if_pos c2]
   have hn' : (((C1 (c :: r) digs).length : Nat) : Int) = n := hn
   have e : n = (C1 (c :: r) digs).length := by omega
   rw [e, Ik]
   rfl
  rw [if_neg c2] at he hn
  simp only [if_neg c2]
  by_cases c3 : (((((c :: r)).getD 0 0).toNat : Int) == 39) = true
  ·rw [if_pos c3] at he hn
   simp only [if_pos c3]
   have hc : c = 39 := by
    have c3' : ((c.toNat : Int) == 39) = true := c3
    exact UInt8.toNat_inj.1 (by have : (39 : UInt8).toNat = 39 := rfl; simp at c3'; omega)
   unfold Gt at he hn ⊢
   cases hq : Bq ((c :: r).drop 1) with
   | none => rw [hq] at he; exact absurd he (show ¬ (7 : Int) = 0 by decide)
   | some m =>
    rw [hq] at he hn
    simp only at he hn ⊢
    split at he
    ·exact absurd he (show ¬ (3 : Int) = 0 by decide)
    rename_i hr
    rw [if_neg hr] at hn
    simp only [if_neg hr]
    have hm' : (((m + 1 : Nat)) : Int) = n := hn
    have hm : n = m + 1 := by omega
    subst hm
    have hr' : (Eo ((c :: r).take (m + 1))).2 = 0 := by simpa using hr
    have := Xb (q := (c :: r).take (m + 1)) (by rw [hc]; rfl) (by simp) hr'
    unfold Yn
    rw [if_pos rfl]
    exact this
  rw [if_neg c3] at he hn
  simp only [if_neg c3]
  unfold O6 at he hn ⊢
  split at hn
  ·rename_i h2
   simp only [if_pos h2]
   have hn' : (2 : Int) = n := hn
   have : n = 2 := by omega
   subst this
   rfl
  rename_i h2
  rw [if_neg h2] at he
  simp only [if_neg h2]
  split at hn
  ·rename_i h3
   simp only [if_pos h3]
   have hn' : (1 : Int) = n := hn
   have : n = 1 := by omega
   subst this
   rfl
  rename_i h3
  rw [if_neg h3] at he
  exact absurd he (show ¬ (7 : Int) = 0 by decide)
/-! What is printed of columns, word by word. -/
structure ColOk (x : Col) : Prop where
 name : Bd x.name = true
 lo : 1 ≤ x.kind
 hi : x.kind ≤ 3
def ktT (t : Tok) : Int × Str := (t.kind, t.text)
def Mo (s : Str) : Int := if Ax 1 == s then 1 else if Ax 2 == s then 2 else if Ax 3 == s then 3 else 0
structure KindUpto (s : Str) (x : Nat) : Prop where
 le : x ≤ 3
 a : 1 ≤ x → (Ax 1 == s) = false
 b : 2 ≤ x → (Ax 2 == s) = false
 c : 3 ≤ x → (Ax 3 == s) = false
theorem m9 {s : Str} {x : Nat} (h : KindUpto s x) (hx : x < 3) (e : (Ax ((x : Int) + 1) == s) = true) : Mo s = (x : Int) + 1 := by
 have h3 : x = 0 ∨ x = 1 ∨ x = 2 := by omega
 unfold Mo
 rcases h3 with rfl | rfl | rfl
 ·have e : (Ax 1 == s) = true := e
  rw [if_pos e]; rfl
 ·have e : (Ax 2 == s) = true := e
  rw [if_neg (by rw [h.a (by omega)]; simp), if_pos e]; rfl
 have e : (Ax 3 == s) = true := e
 rw [if_neg (by rw [h.a (by omega)]; simp), if_neg (by rw [h.b (by omega)]; simp), if_pos e]; rfl
theorem ma {s : Str} {x : Nat} (h : KindUpto s x) (hx : x < 3) (e : (Ax ((x : Int) + 1) == s) = false) : KindUpto s (x + 1) := by
 have h3 : x = 0 ∨ x = 1 ∨ x = 2 := by omega
 rcases h3 with rfl | rfl | rfl
 ·exact ⟨by omega, fun _ => e, fun h => by omega, fun h => by omega⟩
 ·exact ⟨by omega, fun _ => h.a (by omega), fun _ => e, fun h => by omega⟩
 exact ⟨by omega, fun _ => h.a (by omega), fun _ => h.b (by omega), fun _ => e⟩
theorem mb {s : Str} {x : Nat} (h : KindUpto s x) (hx : 3 ≤ x) : Mo s = 0 := by
 unfold Mo
 rw [if_neg (by rw [h.a (by omega)]; simp), if_neg (by rw [h.b (by omega)]; simp), if_neg (by rw [h.c (by omega)]; simp)]
theorem x9 (s : Str) (Hp : List AObj) : AFun Tryz.prog 198 [A6 s] Hp (A2 (Mo s)) := by
 refine ACall.body [.tmp 2] [0] Tryz.func198 Tryz.ntmps198 (fun d => ?_)
 refine Z40 ?_;refine Z32 ?_;refine Ib ?_
 refine AW.loopC (α := Nat) (fun x => ⟨13, A3 0 (A6 s) (A3 3 (A2 ((x : Nat) + 1)) (fun _ => .any)), Hp, [], [], none⟩) (fun x => KindUpto s x) (fun x => 3 - x) (0) ⟨by omega, fun h => by omega, fun h => by omega, fun h => by omega⟩ (StLe.refl _) rfl (fun x hx => ?_)
 refine Z8 ?_;refine R.fin [0, 3, 5] ?_
 refine W.cond (fun ht5 => ?_) (fun ht5 => ?_)
 ·have hx3 : x < 3 := by simp at ht5; omega
  refine Z39 ?_;refine Z2 ?_;refine R.call Tryz.call70 (c70 _ _) ?_;refine Z0 ?_;refine R.fin [0, 3, 11] ?_
  refine W.cond (fun ht11 => ?_) (fun ht11 => ?_)
  ·refine Z1 ?_;refine Z3 ?_;refine Z35 ?_;exact K.fin (V.one V.tmp) ⟨by rw [m9 hx hx3 (by simpa using ht11)], rfl⟩
  refine Wd ?_;exact K.lpN (x + 1) (ma hx hx3 (by simpa using ht11)) (by omega) (StCut.of_eq (by simp))
 have hx3 : 3 ≤ x := by simp at ht5; omega
 refine Tu ?_;exact K.fin (V.one V.tmp) ⟨by rw [mb hx hx3], rfl⟩

theorem Yo : ∀ t : Str, t.length ≤ (Kx t).length
 | [] => Nat.le_refl _
 | c :: r => by
  have := Yo r
  rw [M0, List.length_append, List.length_cons]
  have h : 1 ≤ (cf c).length := by unfold cf; split <;> simp
  omega
theorem mc (t : Tok) : t.text.length ≤ (Yn t).length := by
 unfold Yn
 split
 ·have := Yo t.text
  simp only [List.length_append, List.length_cons, List.length_nil]
  omega
 exact Nat.le_refl _
/-- Words with an end. -/
structure TokEnd (l : List Tok) : Prop where
 split : ∃ L z, l = L ++ [z] ∧ z.kind = 0 ∧ ∀ t ∈ L, t.kind ≠ 0
 texts : ∀ t ∈ l, t.text.length ≤ 1048576
theorem TokEnd.pos {l : List Tok} (h : TokEnd l) : 1 ≤ l.length := by
 obtain ⟨L, z, rfl, _, _⟩ := h.split
 simp
theorem TokEnd.text {l : List Tok} (h : TokEnd l) (i : Nat) : (A7 l i).text.length ≤ 1048576 := by
 unfold A7
 rcases Nat.lt_or_ge i l.length with hi | hi
 ·rw [List.getD_eq_getElem?_getD, List.getElem?_eq_getElem hi]
  exact h.texts _ (List.getElem_mem hi)
 rw [List.getD_eq_getElem?_getD, List.getElem?_eq_none hi]
 exact Nat.zero_le _
theorem md (s : Str) (he : (B5 s).2.2.2 = 0) : (B5 s).1 ≠ 0 := by
 revert he
 unfold B5 Jx Se Gt O6
 repeat' split
 all_goals simp
theorem Um : ∀ (f q : Nat) (s : Str), (∀ it ∈ F6 f q s, it.2 = 0) → ∀ it ∈ F6 f q s, it.1.kind ≠ 0 ∧ it.1.text.length ≤ s.length
 | 0, _, _, _, it, hm => by cases hm
 | f + 1, q, s, h, it, hm => by
  by_cases hs : s = []
  ·subst hs; cases hm
  obtain ⟨n, h1, h2⟩ := Uk (f := f) (q := q) hs
  rw [h1] at hm h
  have h0 : (B5 s).2.2.2 = 0 := h (⟨(B5 s).1, (B5 s).2.1, q⟩, (B5 s).2.2.2) (List.mem_cons_self ..)
  obtain ⟨hn, hn1, hn2⟩ := h2 h0
  rw [if_pos h0] at hm h
  rcases List.mem_cons.1 hm with rfl | hm
  ·refine ⟨md s h0, ?_⟩
   have hs1 : 1 ≤ s.length := by cases s with | nil => exact absurd rfl hs | cons c r => simp
   have := Xc (p := q) hs1 h0 hn
   have h3 := mc ⟨(B5 s).1, (B5 s).2.1, q⟩
   rw [this] at h3
   simp only [List.length_take] at h3
   show (B5 s).2.1.length ≤ s.length
   omega
  have := Um f _ _ (fun it hit => h it (List.mem_cons_of_mem _ hit)) it hm
  simp only [List.length_drop] at this
  exact ⟨this.1, by omega⟩
theorem me {s : Str} (h : (Dx s).2.1 = 0) : TokEnd (Dx s).1 := by
 by_cases h4 : 4000 < s.length
 ·unfold Dx at h
  rw [if_pos h4] at h
  exact g7
 have e : Dx s = ((B2 s).map (·.1) ++ [⟨0, [], s.length⟩], 0, 0) ∧ ∀ it ∈ B2 s, it.2 = 0 := by
  unfold Dx at h ⊢
  rw [if_neg h4] at h ⊢
  cases hf : (B2 s).find? (fun it => it.2 != 0) with
  | none =>
   rw [List.find?_eq_none] at hf
   exact ⟨rfl, fun it hit => by simpa using hf it hit⟩
  | some it =>
   rw [hf] at h
   have := List.find?_some hf
   simp only [bne_iff_ne] at this
   exact absurd h this
 obtain ⟨e, hz⟩ := e
 have hnz := Um _ _ _ hz
 rw [e]
 refine ⟨⟨_, _, rfl, rfl, fun t ht => ?_⟩, fun t ht => ?_⟩
 ·obtain ⟨it, hit, rfl⟩ := List.mem_map.1 ht
  exact (hnz it hit).1
 rcases List.mem_append.1 ht with ht | ht
 ·obtain ⟨it, hit, rfl⟩ := List.mem_map.1 ht
  have := (hnz it hit).2
  simp only [List.length_drop] at this
  omega
 have e : t = ⟨0, [], s.length⟩ := by simpa using ht
 subst e
 exact Nat.zero_le _
/-! What is printed of a schema is read. -/
/-- What goes together: names of their own. -/
theorem iu {c : List Col} (h : Ek c = true) : (∀ y ∈ c, ColOk y) ∧ (c.map (·.name)).Nodup := by
 rw [colsM_true] at h
 have hat : ∀ (j : Nat) (y : Col), c[j]? = some y → Ie y.name = true ∧ 1 ≤ y.kind ∧ y.kind ≤ 3 ∧ Ar y.name c = (j : Int) := by
  intro j y hj
  have := h j y hj
  unfold Ko at this
  simp only [Bool.not_eq_true', Bool.or_eq_false_iff, Bool.not_eq_false', decide_eq_false_iff_not, bne_eq_false_iff_eq] at this
  obtain ⟨⟨⟨h1, h2⟩, h3⟩, h4⟩ := this
  exact ⟨h1, by omega, by omega, h4⟩
 refine ⟨fun y hy => ?_, ?_⟩
 ·obtain ⟨j, hj⟩ := List.getElem?_of_mem hy
  obtain ⟨h1, h2, h3, _⟩ := hat j y hj
  exact ⟨by rw [D6]; exact h1, h2, h3⟩
 show List.Pairwise _ _
 rw [List.pairwise_iff_getElem]
 intro i j hi hj hij e
 simp only [List.length_map] at hi hj
 simp only [List.getElem_map] at e
 have e1 := (hat i c[i] (List.getElem?_eq_getElem hi)).2.2.2
 have e2 := (hat j c[j] (List.getElem?_eq_getElem hj)).2.2.2
 rw [e] at e1
 omega
theorem xa (c : List Col) (Hp : List AObj) : AFun Tryz.prog 9 [A8 c] Hp (Aj (E4 c)) := by
 refine ACall.body [.tmp 2] [0] Tryz.func9 Tryz.ntmps9 (fun d => ?_)
 refine Tv ?_;refine R.fin [0, 6] ?_
 refine W.cond (fun ht6 => ?_) (fun ht6 => ?_)
 ·refine Z22 ?_;refine K.thR ?_;exact K.fin (V.one V.tmp) ⟨by simp [E4] at ht6 ⊢; omega, rfl⟩
 refine fl ?_
 refine AW.loopC (α := Nat) (fun x => ⟨20, A3 0 (A8 c) (A3 3 (A2 (x : Nat)) (fun _ => .any)), Hp, [], [], none⟩) (fun x => x ≤ c.length ∧ ∀ (j : Nat) (y : Col), j < x → c[j]? = some y → decide ((100 : Int) < y.name.length) = false) (fun x => c.length - x) (0) (by simp) (StLe.refl _) rfl (fun x hx => ?_)
 refine Z54 ?_;refine R.fin [0, 3, 10] ?_
 refine W.cond (fun ht10 => ?_) (fun ht10 => ?_)
 ·have hlt : x < c.length := by simpa using ht10
  have hcl : c.length ≤ 50 := by simp at ht6; omega
  refine Lj ?_
  refine R.gw (h := Q.indexAddr (x) (Ag c[x]) (fun _ => Ac hlt)) (hr := ?_)
  refine Z67 ?_;refine R.fin [0, 3, 19] ?_
  refine W.cond (fun ht19 => ?_) (fun ht19 => ?_)
  ·refine Pm ?_;exact K.fin (V.one V.tmp) ⟨by rw [show E4 c = true from by unfold E4; rw [gm (p := fun y : Col => decide ((100 : Int) < y.name.length)) hlt ht19, Bool.or_true]], rfl⟩
  refine Wd ?_;exact K.lpN (x + 1) ⟨hlt, Aw hlt hx.2 ht19⟩ (by omega) (StCut.of_eq rfl)
 refine Tu ?_;exact K.fin (V.one V.tmp) ⟨by rw [show E4 c = false from by unfold E4; rw [Tz (Gj (by simp at ht10; omega) hx.2)]; simpa using ht6], rfl⟩
theorem Yp {c : List Col} (h : E4 c = false) : OkCols c := by
 unfold E4 at h
 simp only [Bool.or_eq_false_iff, decide_eq_false_iff_not, List.any_eq_false, decide_eq_true_eq] at h
 refine ⟨by omega, fun y hy => ?_⟩
 have := h.2 y hy
 omega
def Pw {α : Type} [BEq α] (v : α) (l : List α) : Int := match l.findIdx? (· == v) with | some i => i | none => -1
theorem iv {α : Type} [BEq α] [LawfulBEq α] {v : α} {l : List α} {x : Nat} (h : x < l.length) (h1 : l[x] = v) (h2 : ∀ (j : Nat) (y : α), j < x → l[j]? = some y → ¬ (y = v)) : Pw v l = x := by
 have : l.findIdx? (· == v) = some x := by
  rw [List.findIdx?_eq_some_iff_getElem]
  exact ⟨h, by simpa using h1, fun j hj => by simpa using h2 j l[j] hj (List.getElem?_eq_getElem _)⟩
 simp [Pw, this]
theorem iw {α : Type} [BEq α] [LawfulBEq α] {v : α} {l : List α} (h : ∀ (j : Nat) (y : α), l[j]? = some y → ¬ (y = v)) : Pw v l = -1 := by
 have : l.findIdx? (· == v) = none := by
  rw [List.findIdx?_eq_none_iff]
  intro y hy
  obtain ⟨j, hj⟩ := List.getElem?_of_mem hy
  simpa using h j y hj
 simp [Pw, this]
theorem mf {α : Type} [BEq α] [LawfulBEq α] (v : α) (l : List α) : decide (0 ≤ Pw v l) = l.contains v := by
 unfold Pw
 cases h : l.findIdx? (· == v) with
 | none =>
  rw [List.findIdx?_eq_none_iff] at h
  have : l.contains v = false := by
   rw [Bool.eq_false_iff]
   intro hc
   have := h v (by simpa using hc)
   simp at this
  rw [this]; rfl
 | some i =>
  rw [List.findIdx?_eq_some_iff_getElem] at h
  obtain ⟨hi, e, _⟩ := h
  have : l.contains v = true := by
   have : l[i] = v := by simpa using e
   rw [← this]
   simp
  rw [this]
  simp only [decide_eq_true_eq]
  omega
theorem c58 (l : List Str) (v : Str) (hl : l.length ≤ 1048576) (Hp : List AObj) : AFun Tryz.prog 58 [C4 l, A6 v] Hp (A2 (Pw v l)) := by
 refine ACall.body [.tmp 4] [0, 1] Tryz.func58 Tryz.ntmps58 (fun d => ?_)
 refine Z52 ?_;refine ff ?_
 refine AW.loopC (α := Nat) (fun x => ⟨19, A3 0 (C4 l) (A3 1 (A6 v) (A3 7 (A2 l.length) (A3 8 (A2 (x : Nat)) (fun _ => .any)))), Hp, [], [], none⟩) (fun x => x ≤ l.length ∧ ∀ (j : Nat) (y : Str), j < x → l[j]? = some y → ¬ (y = v)) (fun x => l.length - x) (0) (by simp) (StLe.of_eq (by simp)) rfl (fun x hx => ?_)
 refine f8 ?_
 refine W.condX (fun ht9 => ?_) (fun ht9 => ?_)
 ·have hlt : x < l.length := by simpa using ht9
  refine Z18 ?_;refine Z1 ?_;refine f6 ?_
  refine R.gw (h := Q.indexAddr (x) (A6 l[x]) (fun _ => Ac hlt)) (hr := ?_)
  refine Z0 ?_;refine g0 ?_
  refine W.cond (fun ht16 => ?_) (fun ht16 => ?_)
  ·refine S6 ?_;refine Z35 ?_;exact K.fin (V.one V.tmp) ⟨by rw [iv hlt (by simpa using (Eq.symm (by simpa using ht16) : l[x] = v)) hx.2], rfl⟩
  refine Js ?_;refine R.fin [0, 1, 7, 8] ?_;exact K.lpN (x + 1) ⟨hlt, Aw hlt hx.2 (fun e => by rw [e] at ht16; simp at ht16)⟩ (by omega) (StCut.of_eq rfl)
 refine Z28 ?_;refine Z78 ?_;exact K.fin (V.one V.tmp) ⟨by rw [iw (Gj (by simp at ht9; omega) hx.2)], rfl⟩

theorem c40 (l : List Str) (v : Str) (hl : l.length ≤ 1048576) (Hp : List AObj) : AFun Tryz.prog 40 [C4 l, A6 v] Hp (Aj (l.contains v)) := by
 refine ACall.body [.tmp 4] [0, 1] Tryz.func40 Tryz.ntmps40 (fun d => ?_)
 refine Z52 ?_;refine Z1 ?_;refine R.call Tryz.call58 (c58 l v hl _) ?_;refine Z0 ?_;refine Z23 ?_;exact K.fin (V.one V.tmp) ⟨by rw [mf], rfl⟩

theorem cg {n k : Nat} {o : Bool} {l : List Col} {z : Col} : Low n (.slice o k (l.map Ag ++ [Ag z])) := by
 refine .slice _ _ _ (fun y hy => ?_)
 have key : ∀ c : Col, ∀ w ∈ (Ag c).cells, Low n w := by
  intro c w hw
  have hw' : w ∈ [AV.v (sv c.name), AV.v (.int .i64 c.kind)] := hw
  simp only [List.mem_cons, List.not_mem_nil, or_false] at hw'
  rcases hw' with rfl | rfl
  ·exact .v _
  exact .v _
 rcases List.mem_append.1 hy with hy | hy
 ·obtain ⟨a, _, rfl⟩ := List.mem_map.1 hy
  exact key a
 rw [List.mem_singleton.1 hy]
 exact key z
def E9 (c : List Col) (take : List Str) (j : Nat) (nm : Str) : Bool := !(decide (Ar nm c < 0) || (Pw nm take != (j : Int)))
def Dj (c : List Col) (take : List Str) : Bool := take.zipIdx.all fun x => E9 c take x.2 x.1
theorem takenM_true {c : List Col} {take : List Str} : Dj c take = true ↔ ∀ (j : Nat) (y : Str), take[j]? = some y → E9 c take j y = true := Jv
def Es (c : List Col) (x : Nat) (y : Col) : Bool := !((!Ie y.name) || (Ar y.name c != (x : Int)))
def Ef (c : List Col) : Bool := c.zipIdx.all fun x => Es c x.2 x.1
theorem namedC_true {c : List Col} : Ef c = true ↔ ∀ (j : Nat) (y : Col), c[j]? = some y → Es c j y = true := Jv
def Bu (c : List Col) (take : List Str) : List Col := c.filter fun y => !take.contains y.name
theorem Yq {c : List Col} {take : List Str} {k : Nat} {y : Col} (h : c[k]? = some y) (hn : take.contains y.name = false) : Bu (c.take (k + 1)) take = Bu (c.take k) take ++ [y] := by
 unfold Bu
 have e : c.take (k + 1) = c.take k ++ [y] := by rw [List.take_succ, h]; rfl
 have hm : ¬ y.name ∈ take := by simpa using hn
 rw [e, List.filter_append]
 simp [List.filter_cons, hm]
theorem Qs {c : List Col} {take : List Str} {k : Nat} {y : Col} (h : c[k]? = some y) (hn : take.contains y.name = true) : Bu (c.take (k + 1)) take = Bu (c.take k) take := by
 unfold Bu
 have e : c.take (k + 1) = c.take k ++ [y] := by rw [List.take_succ, h]; rfl
 have hm : y.name ∈ take := by simpa using hn
 rw [e, List.filter_append]
 simp [List.filter_cons, hm]
theorem Et (c : List Col) (take : List Str) : (Bu c take).length ≤ c.length := List.length_filter_le _ _
def Bi (c : List Col) (take : List Str) (give : List Col) : List Col × Int :=
 if Bb c = false then ([], 1) else if Dj c take = false then ([], 9) else if Ef (Bu c take ++ give) = false then ([], 9)
 else if Ek (Bu c take ++ give) = false then ([], 10) else if 12 < (Bu c take ++ give).length then ([], 3) else (Bu c take ++ give, 0)
theorem ix {c : List Col} {take : List Str} {give : List Col} (h : Bb c = false) : Bi c take give = ([], 1) := by unfold Bi; rw [if_pos h]
theorem Xd {c : List Col} {take : List Str} {give : List Col} (h : Bb c = true) (h2 : Dj c take = false) : Bi c take give = ([], 9) := by unfold Bi; rw [if_neg (by rw [h]; simp), if_pos h2]
theorem Xe {c : List Col} {take : List Str} {give out : List Col} (h : Bb c = true) (h2 : Dj c take = true) (ho : Bu c take ++ give = out) (h3 : Ef out = false) : Bi c take give = ([], 9) := by
 unfold Bi; rw [ho, if_neg (by rw [h]; simp), if_neg (by rw [h2]; simp), if_pos h3]
theorem Xf {c : List Col} {take : List Str} {give out : List Col} (h : Bb c = true) (h2 : Dj c take = true) (ho : Bu c take ++ give = out) (h3 : Ef out = true) (h4 : Ek out = false) : Bi c take give = ([], 10) := by
 unfold Bi; rw [ho, if_neg (by rw [h]; simp), if_neg (by rw [h2]; simp), if_neg (by rw [h3]; simp), if_pos h4]
theorem Xg {c : List Col} {take : List Str} {give out : List Col} (h : Bb c = true) (h2 : Dj c take = true) (ho : Bu c take ++ give = out) (h3 : Ef out = true) (h4 : Ek out = true) (h5 : 12 < out.length) : Bi c take give = ([], 3) := by
 unfold Bi; rw [ho, if_neg (by rw [h]; simp), if_neg (by rw [h2]; simp), if_neg (by rw [h3]; simp), if_neg (by rw [h4]; simp), if_pos h5]
theorem Xh {c : List Col} {take : List Str} {give out : List Col} (h : Bb c = true) (h2 : Dj c take = true) (ho : Bu c take ++ give = out) (h3 : Ef out = true) (h4 : Ek out = true) (h5 : ¬ 12 < out.length) : Bi c take give = (out, 0) := by
 unfold Bi; rw [ho, if_neg (by rw [h]; simp), if_neg (by rw [h2]; simp), if_neg (by rw [h3]; simp), if_neg (by rw [h4]; simp), if_neg h5]
theorem Hc {c : List Col} (h : Bb c = true) : c.length ≤ 12 := by
 unfold Bb at h
 simp at h
 omega
theorem Xi {c give : List Col} {take : List Str} {out : List Col} (hc : OkCols c) (h : Bb c = true) (hg : OkCols give) (hg2 : give.length ≤ 1000000) (ho : Bu c take ++ give = out) : OkCols out := by
 subst ho
 have h1 := Et c take
 have h2 := Hc h
 refine ⟨by simp only [List.length_append]; omega, fun y hy => ?_⟩
 rcases List.mem_append.1 hy with hy | hy
 ·exact hc.2 y ((List.mem_filter.1 hy).1)
 exact hg.2 y hy
theorem xb (c : List Col) (hc : OkCols c) (take : List Str) (ht : take.length ≤ 1048576) (Hp : List AObj) : AFun Tryz.prog 131 [A8 c, C4 take] Hp (Aj (Dj c take)) := by
 refine ACall.body [.tmp 4] [0, 1] Tryz.func131 Tryz.ntmps131 (fun d => ?_)
 refine Z52 ?_;refine Z36 ?_;refine R.fin [0, 1, 7, 8, 9] ?_
 refine AW.loopC (α := Nat) (fun x => ⟨26, A3 0 (A8 c) (A3 1 (C4 take) (A3 7 (C4 take) (A3 8 (A2 take.length) (A3 9 (A2 (x : Nat)) (fun _ => .any))))), Hp, [], [], none⟩) (fun x => x ≤ take.length ∧ ∀ (j : Nat) (y : Str), j < x → take[j]? = some y → E9 c take j y = true) (fun x => take.length - x) (0) (by simp) (StLe.of_eq (by simp)) rfl (fun x hx => ?_)
 refine Z2 ?_;refine R.fin [0, 1, 7, 8, 9, 10] ?_
 refine W.condX (fun ht10 => ?_) (fun ht10 => ?_)
 ·have hlt : x < take.length := by simpa using ht10
  refine S7 ?_
  refine R.gw (h := Q.indexAddr (x) (A6 take[x]) (fun _ => Ac hlt)) (hr := ?_)
  refine Z24 ?_;refine R.fin [0, 1, 5, 6, 7, 8, 9] ?_;refine Z1 ?_;refine R.call Tryz.call59 (c59 c hc _ _) ?_;refine Z25 ?_;refine G.call Tryz.call58 (fun hB => c58 take _ ht _) ?_;refine Nv ?_;refine R.fin [0, 1, 7, 8, 9, 24] ?_
  refine W.cond (fun ht24 => ?_) (fun ht24 => ?_)
  ·refine Z78 ?_;refine Z35 ?_
   exact K.fin (V.one V.tmp) ⟨by rw [show Dj c take = false from Bool.eq_false_iff.2 fun h => by have := takenM_true.1 h x take[x] (List.getElem?_eq_getElem hlt); unfold E9 at this; rw [ht24] at this; cases this], rfl⟩
  refine Js ?_;refine R.fin [0, 1, 7, 8, 9] ?_;exact K.lpN (x + 1) ⟨hlt, Ed hlt hx.2 (by unfold E9; rw [ht24]; rfl)⟩ (by omega) (StCut.of_eq rfl)
 refine Z28 ?_;refine Z78 ?_;exact K.fin (V.one V.tmp) ⟨by rw [takenM_true.2 (F4 (by simp at ht10; omega) hx.2)], rfl⟩

theorem xc (c : List Col) (hc : OkCols c) (Hp : List AObj) : AFun Tryz.prog 133 [A8 c] Hp (Aj (Ef c)) := by
 refine ACall.body [.tmp 2] [0] Tryz.func133 Tryz.ntmps133 (fun d => ?_)
 refine Tv ?_;refine R.fin [0, 5, 6, 7] ?_
 refine AW.loopC (α := Nat) (fun x => ⟨25, A3 0 (A8 c) (A3 5 (A8 c) (A3 6 (A2 c.length) (A3 7 (A2 (x : Nat)) (fun _ => .any)))), Hp, [], [], none⟩) (fun x => x ≤ c.length ∧ ∀ (j : Nat) (y : Col), j < x → c[j]? = some y → Es c j y = true) (fun x => c.length - x) (0) (by simp) (StLe.of_eq (by simp)) rfl (fun x hx => ?_)
 refine Z2 ?_;refine R.fin [0, 5, 6, 7, 8] ?_
 refine W.condX (fun ht8 => ?_) (fun ht8 => ?_)
 ·have hlt : x < c.length := by simpa using ht8
  have hcl := hc.len
  refine S7 ?_
  refine R.gw (h := Q.indexAddr (x) (Ag c[x]) (fun _ => Ac hlt)) (hr := ?_)
  refine R.go ?_;refine ay ?_;refine R.fin [0, 3, 4, 5, 6, 7] ?_;refine Z1 ?_;refine R.call Tryz.call108 (gq _ (hc.names _ (List.getElem_mem hlt)) _) ?_;refine Z56 ?_;refine G.call Tryz.call59 (fun hB => c59 c hc _ _) ?_;refine Nv ?_;refine R.fin [0, 5, 6, 7, 23] ?_
  refine W.cond (fun ht23 => ?_) (fun ht23 => ?_)
  ·rw [D6] at ht23
   refine Pm ?_
   exact K.fin (V.one V.tmp) ⟨by rw [show Ef c = false from Bool.eq_false_iff.2 fun h => by have := namedC_true.1 h x c[x] (List.getElem?_eq_getElem hlt); unfold Es at this; rw [ht23] at this; cases this], rfl⟩
  rw [D6] at ht23
  refine Js ?_;refine R.fin [0, 5, 6, 7] ?_
  refine K.lpN (x + 1) ⟨hlt, Ed hlt hx.2 (by unfold Es; rw [ht23]; rfl)⟩ (by omega) ?_
  exact StCut.take (own := []) (fun _ => .refl _) (by repeat (first | exact At | refine As (by simp [or_imp, forall_and]) ?_)) (by simp) (by simp)
 refine Z28 ?_;refine Z22 ?_;exact K.fin (V.one V.tmp) ⟨by rw [namedC_true.2 (F4 (by simp at ht8; omega) hx.2)], rfl⟩

theorem xd (c : List Col) (take : List Str) (Hp : List AObj) : AFun Tryz.prog 132 [A8 c, C4 take] Hp (.fn (.func 165) [] [.ro [A8 c], .ro [C4 take]]) := by
 refine ACall.body [.tmp 4] [0, 1] Tryz.func132 Tryz.ntmps132 (fun d => ?_)
 refine Z20 ?_;refine Fl ?_;refine Cs ?_;refine Ja ?_;refine R.go ?_;exact ou

theorem xe (l : Nat) (c : List Col) (take : List Str) (hc : c.length ≤ 1048576) (ht : take.length ≤ 1048576) (U : Nat → List AObj) (hlen : ∀ k, (U k).length = (U 0).length) (hll : l < (U 0).length)
  (hlw : ∀ k, ∀ x ∈ U k, ObjLow (U 0).length x) (hn : ∀ k y, c[k]? = some y → take.contains y.name = true → U (k + 1) = U k)
  (hy : ∀ k y X, c[k]? = some y → take.contains y.name = false → AYield Tryz.prog l [Ag y] (U k ++ X) (fun b H' => b = true ∧ H' = U (k + 1) ++ X)) : ACall Tryz.prog 165 [.yield l, .ro [A8 c], .ro [C4 take]] (U 0) (fun _ H' => H' = U c.length) := by
 refine ACall.body [] [0, 1, 2] Tryz.func165 Tryz.ntmps165 (fun d => ?_)
 refine Z20 ?_;refine R.fin [0, 2, 6, 7, 8] ?_
 refine AW.loopC (α := Nat) (fun x => ⟨24, A3 0 (.yield l) (A3 2 (.ro [C4 take]) (A3 6 (A8 c) (A3 7 (A2 c.length) (A3 8 (A2 (x : Nat)) (fun _ => .any))))), U x, [], [], none⟩) (fun x => x ≤ c.length) (fun x => c.length - x) (0) (Nat.zero_le _) (StLe.of_eq (by simp)) rfl (fun x hx => ?_)
 refine Z2 ?_;refine R.fin [0, 2, 6, 7, 8, 9] ?_
 refine W.condX (fun ht9 => ?_) (fun ht9 => ?_)
 ·have hlt : x < c.length := by simpa using ht9
  refine N1 ?_
  refine R.gw (h := Q.indexAddr (x) (Ag c[x]) (fun _ => Ac hlt)) (hr := ?_)
  refine Nt ?_;refine R.fin [0, 2, 5, 6, 7, 8] ?_;refine Z20 ?_;refine R.call Tryz.call40 (c40 take _ ht _) ?_;refine Z25 ?_
  refine G.yield (l := l) (C := ((!take.contains c[x].name) == true)) (args := [Ag c[x]]) (fun hC => hy x c[x] _ (List.getElem?_eq_getElem hlt) (by simpa using hC)) ?_
  intro b V O hV hb hb0
  have hVO : V = U (x + 1) ∧ O = [AObj.cells 58 [A6 c[x].name, A2 c[x].kind]] ∧ (take.contains c[x].name = false → b = true) := by
   cases hcn : take.contains c[x].name with
   | true =>
    obtain ⟨h1, h2⟩ := hb0 (by rw [hcn]; rfl)
    exact ⟨h1.trans (hn x c[x] (List.getElem?_eq_getElem hlt) hcn).symm, h2, fun e => by cases e⟩
   | false =>
    obtain ⟨h1, h2⟩ := hb (by rw [hcn]; rfl)
    have h3 := List.append_inj h2 (by rw [hV, hlen x, hlen (x + 1)])
    exact ⟨h3.1, h3.2, fun _ => h1⟩
  obtain ⟨rfl, rfl, hbt⟩ := hVO
  refine ⟨fun _ => by rw [hlen (x + 1)]; exact hlw (x + 1), fun o ho => (by cases ho), ?_⟩
  refine Z68 ?_;refine R.fin [0, 2, 6, 7, 8, 22] ?_
  refine W.cond (fun ht22 => ?_) (fun ht22 => ?_)
  ·exfalso
   have hcf : take.contains c[x].name = false := by simp at ht22 ⊢; exact ht22.1
   rw [hbt hcf] at ht22
   simp at ht22
  refine Js ?_;refine R.fin [0, 2, 6, 7, 8] ?_;refine K.lpN (x + 1) hlt (by omega) ?_
  exact StCut.take (own := []) (fun _ => .refl _) (by repeat (first | exact At | refine As (by first | (simp [or_imp, forall_and]; done) | (have := hlen (x + 1); simp; omega)) ?_)) (by simp) (by simp)
 have hxe : x = c.length := by simp at ht9; omega
 refine K.lpE ?_;exact K.finN .nores (hp := by rw [hxe])

theorem Un {c : List Col} {take : List Str} {x : Nat} (hlt : x < take.length) (h : E9 c take x take[x] = false) : Dj c take = false :=
 Bool.eq_false_iff.2 fun h' => by rw [takenM_true.1 h' x take[x] (List.getElem?_eq_getElem hlt)] at h; cases h
theorem Xj {α : Type} [BEq α] [LawfulBEq α] {v : α} {l : List α} {k x : Nat} (hlk : k < l.length) (hkx : k < x) (h : l[k] = v) : (Pw v l != (x : Int)) = true := by
 rw [bne_iff_ne]
 intro e
 unfold Pw at e
 cases hf : l.findIdx? (· == v) with
 | none => rw [hf] at e; exact absurd (show (-1 : Int) = (x : Int) from e) (by omega)
 | some i =>
  rw [hf] at e
  have hix : i = x := by simp at e; omega
  subst hix
  rw [List.findIdx?_eq_some_iff_getElem] at hf
  obtain ⟨_, _, h3⟩ := hf
  have := h3 k hkx
  rw [h] at this
  simp at this
theorem iy {α : Type} {p : α → Bool} {l : List α} {x : Nat} (h : x < l.length) : (l.take (x + 1)).all p = ((l.take x).all p && p l[x]) := by
 have e : l.take (x + 1) = l.take x ++ [l[x]] := by rw [List.take_succ, List.getElem?_eq_getElem h]; rfl
 rw [e, List.all_append]
 simp
theorem qt (l : List Str) (n : Str) : (l.all fun t => !(t == n)) = !l.contains n := by
 induction l with
 | nil => rfl
 | cons x r ih =>
  rw [List.all_cons, ih, List.contains_cons, Bool.not_or]
  congr 2
  exact Bool.beq_comm ..
def K2 (y : Col) : Bool := !(decide (y.kind < 1) || decide ((3 : Int) < y.kind))
theorem Uo (c : List Col) (j : Nat) (y : Col) : Ko c j y = (Es c j y && K2 y) := by
 unfold Ko Es K2
 cases Ie y.name <;> cases decide (y.kind < 1) <;> cases decide ((3 : Int) < y.kind) <;> cases (Ar y.name c != (j : Int)) <;> rfl
theorem Xk {c : List Col} (h : Ef c = true) (hk : ∀ (j : Nat) (y : Col), c[j]? = some y → K2 y = true) : Ek c = true :=
 colsM_true.2 fun j y hj => by rw [Uo, namedC_true.1 h j y hj, hk j y hj]; rfl
theorem So {c : List Col} {x : Nat} (hlt : x < c.length) (hk : K2 c[x] = false) : Ek c = false :=
 Bool.eq_false_iff.2 fun h => by have := colsM_true.1 h x c[x] (List.getElem?_eq_getElem hlt); rw [Uo, hk, Bool.and_false] at this; cases this
theorem iz {c : List Col} {x : Nat} (hlt : x < c.length) (hk : Es c x c[x] = false) : Ef c = false :=
 Bool.eq_false_iff.2 fun h => by rw [namedC_true.1 h x c[x] (List.getElem?_eq_getElem hlt)] at hk; cases hk
theorem c68 (c : List Col) (hc : OkCols c) (take : List Str) (ht : take.length ≤ 1048576) (give : List Col) (hg : OkCols give) (hg2 : give.length ≤ 1000000) (Hp : List AObj) : AFun Tryz.prog 68 [A8 c, C4 take, A8 give] Hp (.tup [A8 (Bi c take give).1, A2 (Bi c take give).2]) := by
 refine ACall.body [.tmp 6, .tmp 7] [0, 1, 2] Tryz.func68 Tryz.ntmps68 (fun d => ?_)
 refine Z1 ?_;refine R.fin [0, 1, 2] ?_;refine Z32 ?_;refine R.call Tryz.call37 (c37 c hc _) ?_;refine R.go ?_;refine R.fin [0, 1, 2, 18] ?_
 refine W.cond (fun ht18 => ?_) (fun ht18 => ?_)
 ·have hr : Bb c = false := by simpa using ht18
  refine Nw ?_;exact sa
 have hr : Bb c = true := by simpa using ht18
 refine Z99 ?_;refine R.fin [0, 1, 2, 8] ?_
 refine AW.loopC (α := Nat) (fun x => ⟨131, A3 0 (A8 c) (A3 1 (C4 take) (A3 2 (A8 give) (A3 8 (A2 (x : Nat)) (fun _ => .any)))), Hp, [], [], none⟩) (fun x => x ≤ take.length ∧ ∀ (j : Nat) (y : Str), j < x → take[j]? = some y → E9 c take j y = true) (fun x => take.length - x) (0) (by simp) (StLe.refl _) rfl (fun x hx => ?_)
 refine Z54 ?_;refine R.fin [0, 1, 2, 8, 22] ?_
 refine W.cond (fun ht22 => ?_) (fun ht22 => ?_)
 ·have hlt : x < take.length := by simpa using ht22
  refine Z39 ?_;refine Z36 ?_
  refine R.gw (h := Q.indexAddr (x) (A6 take[x]) (fun _ => Ac hlt)) (hr := ?_)
  refine R.go ?_;refine R.call Tryz.call50 (c50 c hc _ _) ?_;refine R.go ?_;refine R.fin [0, 1, 2, 8, 31] ?_
  refine W.cond (fun ht31 => ?_) (fun ht31 => ?_)
  ·have hkn : Dj c take = false := Un hlt (by unfold E9; rw [ht31]; rfl)
   refine Nw ?_;refine Z43 ?_;exact s8
  refine Kl ?_;refine R.fin [0, 1, 2, 8, 9] ?_
  refine AW.loopC (α := Nat) (fun k => ⟨131, A3 0 (A8 c) (A3 1 (C4 take) (A3 2 (A8 give) (A3 8 (A2 (x : Nat)) (A3 9 (A2 (k : Nat)) (fun _ => .any))))), Hp, [], [], none⟩) (fun k => k ≤ x ∧ ∀ (j : Nat) (y : Str), j < k → take[j]? = some y → ¬ (y = take[x])) (fun k => x - k) (0) (by simp) (StLe.refl _) rfl (fun k hk => ?_)
  refine Z36 ?_;refine R.fin [0, 1, 2, 8, 9, 34] ?_
  refine W.cond (fun ht34 => ?_) (fun ht34 => ?_)
  ·have hkx : k < x := by simpa using ht34
   have hlk : k < take.length := by omega
   refine pe ?_;refine Z14 ?_
   refine D.gw (h := Q.indexAddr (k) (A6 take[k]) (fun _ => Ac hlk)) (hr := ?_)
   refine Z55 ?_
   refine D.gw (h := Q.indexAddr (x) (A6 take[x]) (fun _ => Ac hlt)) (hr := ?_)
   refine Wf ?_;refine R.go ?_;refine R.fin [0, 1, 2, 8, 9, 45] ?_
   refine W.cond (fun ht45 => ?_) (fun ht45 => ?_)
   ·have hkn : Dj c take = false := Un hlt (by unfold E9; rw [Xj hlk hkx (by simpa using ht45)]; simp)
    refine Nw ?_;refine Z80 ?_;refine K.lpR ?_;exact s8
   refine Z61 ?_;refine R.fin [0, 1, 2, 8, 9] ?_;exact K.lpN (k + 1) ⟨hkx, Aw (l := take) hlk hk.2 (by simpa using ht45)⟩ (by omega) (StCut.of_eq rfl)
  have hkx : k = x := by simp at ht34; omega
  have htk : E9 c take x take[x] = true := by
   unfold E9
   rw [ht31, iv hlt rfl (fun j y hj => hk.2 j y (by omega))]
   simp
  refine Z31 ?_;refine b7 ?_;refine R.fin [0, 1, 2, 8] ?_;exact K.lpN (x + 1) ⟨hlt, Ed hlt hx.2 htk⟩ (by omega) (StCut.of_eq rfl)
 have hk0 : Dj c take = true := takenM_true.2 (F4 (by simp at ht22; omega) hx.2)
 refine Z42 ?_;refine fq ?_;refine R.fin [0, 1, 2, 10] ?_;refine Z32 ?_;refine R.fin [0, 1, 2, 10, 11] ?_
 refine AW.loopC (α := Nat) (fun i => ⟨131, A3 0 (A8 c) (A3 1 (C4 take) (A3 2 (A8 give) (A3 10 (.slice true 2 ((Bu (c.take i) take).map Ag)) (A3 11 (A2 (i : Nat)) (fun _ => .any))))), Hp, [], [], none⟩) (fun i => i ≤ c.length) (fun i => c.length - i) (0) (Nat.zero_le _) (StLe.of_eq (by simp [Bu])) rfl (fun i hi => ?_)
 refine Z54 ?_;refine R.fin [0, 1, 2, 10, 11, 50] ?_
 refine W.cond (fun ht50 => ?_) (fun ht50 => ?_)
 ·have hli : i < c.length := by simpa using ht50
  have hcl := hc.len
  refine Z39 ?_;refine Z2 ?_;refine R.fin [0, 1, 2, 10, 11, 12] ?_;refine Z32 ?_;refine R.fin [0, 1, 2, 10, 11, 12, 13] ?_
  refine AW.loopC (α := Nat) (fun m => ⟨131, A3 0 (A8 c) (A3 1 (C4 take) (A3 2 (A8 give) (A3 10 (.slice true 2 ((Bu (c.take i) take).map Ag)) (A3 11 (A2 (i : Nat)) (A3 12 (Aj ((take.take m).all fun t => !(t == c[i].name))) (A3 13 (A2 (m : Nat)) (fun _ => .any))))))), Hp, [], [], none⟩) (fun m => m ≤ take.length) (fun m => take.length - m) (0) (Nat.zero_le _) (StLe.refl _) rfl (fun m hm => ?_)
  refine Z54 ?_;refine R.fin [0, 1, 2, 10, 11, 12, 13, 56] ?_
  refine W.cond (fun ht56 => ?_) (fun ht56 => ?_)
  ·have hlm : m < take.length := by simpa using ht56
   refine Z39 ?_;refine W.drawQ0 [0, 1, 3, 3, 15, 31, 3, 3, 195, 451, 963, 2047, 4095, 8191] 11 Aa (by kernel_rfl) ?_;refine Z14 ?_;refine Z65 ?_
   refine H.gw (h := Q.indexAddr (m) (A6 take[m]) (fun _ => Ac hlm)) (hr := ?_)
   refine S4 ?_
   refine H.gw (h := Q.indexAddr (i) (Ag c[i]) (fun _ => Ac hli)) (hr := ?_)
   refine Z65 ?_;refine fu ?_;refine Z0 ?_;refine R.fin [0, 1, 2, 10, 11, 12, 13] ?_;refine Z98 ?_;refine R.fin [0, 1, 2, 10, 11, 12, 13] ?_;exact K.lpN (m + 1) hlm (by omega) (StCut.of_eq (by rw [iy hlm]; rfl))
  have hme : take.take m = take := List.take_of_length_le (by simp at ht56; omega)
  rw [hme, qt]
  refine Z42 ?_;refine Z2 ?_;refine R.fin [0, 1, 2, 10, 11, 72] ?_
  refine W.cond (fun ht72 => ?_) (fun ht72 => ?_)
  ·have hst := Yq (take := take) (List.getElem?_eq_getElem hli) (by simpa using ht72)
   refine Z82 ?_;refine Z0 ?_
   refine R.gw (h := Q.indexAddr (i) (Ag c[i]) (fun _ => Ac hli)) (hr := ?_)
   refine Z70 ?_
   refine R.append jU Tryz.type58 ?_ ?_ ?_
   ·have h1 := Et (c.take i) take; have h2 := hc.len; simp only [List.length_take] at h1; simp [Tryz.t58]; omega
   ·have h1 := Et (c.take i) take; have h2 := hc.len; simp only [List.length_take] at h1; simp [Tryz.t58]; omega
   refine Hy ?_;refine R.fin [0, 1, 2, 10, 11] ?_;refine Z98 ?_;exact rr
  have hst := Qs (take := take) (List.getElem?_eq_getElem hli) (by simpa using ht72)
  refine Z61 ?_;exact rr
 have hie : c.take i = c := List.take_of_length_le (by simp at ht50; omega)
 rw [hie]
 refine Z42 ?_;refine Cs ?_;refine R.moveT ?_;refine R.go ?_
 refine R.append jU Tryz.type58 ?_ ?_ ?_
 ·have h1 := Et c take; have h2 := Hc hr; simp [Tryz.t58]; omega
 ·have h1 := Et c take; have h2 := Hc hr; simp [Tryz.t58]; omega
 refine Hy ?_;refine R.fin [10] ?_;refine Z69 ?_
 have e10 : (Bu c take).map Ag ++ give.map Ag = (Bu c take ++ give).map Ag := (List.map_append ..).symm
 rw [e10]
 generalize hout : Bu c take ++ give = out
 have ho : OkCols out := Xi hc hr hg hg2 hout
 have hol := ho.len
 refine R.go ?_;refine R.fin [10, 14] ?_
 refine AW.loopC (α := Nat) (fun a => ⟨131, A3 10 (.slice true 2 (out.map Ag)) (A3 14 (A2 (a : Nat)) (fun _ => .any)), Hp, [], [], none⟩) (fun a => a ≤ out.length ∧ ∀ (j : Nat) (y : Col), j < a → out[j]? = some y → Es out j y = true) (fun a => out.length - a) (0) (by simp) (StLe.refl _) rfl (fun a ha => ?_)
 refine Z54 ?_;refine R.fin [10, 14, 86] ?_
 refine W.cond (fun ht86 => ?_) (fun ht86 => ?_)
 ·have hla : a < out.length := by simpa using ht86
  refine Lj ?_
  refine R.gw (h := Q.indexAddr (a) (Ag out[a]) (fun _ => Ac hla)) (hr := ?_)
  refine Z0 ?_;refine R.call Tryz.call80 (c80 _ (ho.names _ (List.getElem_mem hla)) _) ?_;refine Z56 ?_
  refine G.gw (h := Q.indexAddr (a) (Ag out[a]) (fun _ => Ac hla)) (hr := ?_)
  refine Z7 ?_;refine G.call Tryz.call50 (fun hB => c50 out ho _ _) ?_;refine Nv ?_;refine R.fin [10, 14, 106] ?_
  refine W.cond (fun ht106 => ?_) (fun ht106 => ?_)
  ·have hn : Ef out = false := iz hla (by unfold Es; rw [ht106]; rfl)
   refine Nw ?_;refine AW.ret ?_;refine Z35 ?_;exact K.fin (V.two V.tmp V.tmp) ⟨by rw [Xe hr hk0 hout hn]; try rfl, rfl⟩
  refine Z61 ?_;refine R.fin [10, 14] ?_;exact K.lpN (a + 1) ⟨hla, Ed hla ha.2 (by unfold Es; rw [ht106]; rfl)⟩ (by omega) (StCut.of_eq rfl)
 have hn : Ef out = true := namedC_true.2 (F4 (by simp at ht86; omega) ha.2)
 refine Z42 ?_;refine Z32 ?_;refine R.fin [10, 15] ?_
 refine AW.loopC (α := Nat) (fun b => ⟨131, A3 10 (.slice true 2 (out.map Ag)) (A3 15 (A2 (b : Nat)) (fun _ => .any)), Hp, [], [], none⟩) (fun b => b ≤ out.length ∧ ∀ (j : Nat) (y : Col), j < b → out[j]? = some y → K2 y = true) (fun b => out.length - b) (0) (by simp) (StLe.refl _) rfl (fun b hb => ?_)
 refine Z54 ?_;refine R.fin [10, 15, 110] ?_
 refine W.cond (fun ht110 => ?_) (fun ht110 => ?_)
 ·have hlb : b < out.length := by simpa using ht110
  refine Lj ?_
  refine R.gw (h := Q.indexAddr (b) (Ag out[b]) (fun _ => Ac hlb)) (hr := ?_)
  refine Z0 ?_;refine Z25 ?_
  refine G.gw (h := Q.indexAddr (b) (Ag out[b]) (fun _ => Ac hlb)) (hr := ?_)
  refine Z7 ?_;refine Z68 ?_;refine R.fin [10, 15, 126] ?_
  refine W.cond (fun ht126 => ?_) (fun ht126 => ?_)
  ·have hq : Ek out = false := So hlb (by unfold K2; rw [ht126]; rfl)
   refine Nw ?_;refine AW.ret ?_;refine Z35 ?_;exact K.fin (V.two V.tmp V.tmp) ⟨by rw [Xf hr hk0 hout hn hq]; try rfl, rfl⟩
  refine Z61 ?_;refine R.fin [10, 15] ?_;exact K.lpN (b + 1) ⟨hlb, Aw hlb hb.2 (by unfold K2; rw [ht126]; rfl)⟩ (by omega) (StCut.of_eq rfl)
 have hq : Ek out = true := Xk hn (Gj (by simp at ht110; omega) hb.2)
 refine Z42 ?_;refine Z36 ?_;refine R.fin [10, 129] ?_
 refine W.cond (fun ht129 => ?_) (fun ht129 => ?_)
 ·have h12 : 12 < out.length := by simp at ht129; omega
  refine Nw ?_;refine Z43 ?_;exact K.fin (V.two V.tmp V.tmp) ⟨by rw [Xg hr hk0 hout hn hq h12]; try rfl, rfl⟩
 have h12 : ¬ 12 < out.length := by simp at ht129; omega
 refine Z85 ?_;refine R.fin [6, 7] ?_;refine AW.ret ?_;exact K.fin (V.two V.tmp V.tmp) ⟨by rw [Xh hr hk0 hout hn hq h12]; try rfl, rfl⟩

/-! What went and came, taken back: the same columns. -/
theorem find_mem {nm : Str} {c : List Col} : ¬ (Ar nm c < 0) ↔ ∃ (j : Nat) (y : Col), c[j]? = some y ∧ y.name = nm ∧ Ar nm c = (j : Int) := by
 unfold Ar
 cases h : c.findIdx? (fun y => y.name == nm) with
 | none =>
  constructor
  ·intro h'; exact absurd (by decide) h'
  rintro ⟨j, y, _, _, e⟩
  exact absurd (show (-1 : Int) = (j : Int) from e) (by omega)
 | some i =>
  rw [List.findIdx?_eq_some_iff_getElem] at h
  obtain ⟨hi, e, _⟩ := h
  constructor
  ·intro _; exact ⟨i, c[i], List.getElem?_eq_getElem hi, by simpa using e, rfl⟩
  intro _ h'
  have : (i : Int) < 0 := h'
  omega
theorem mg {c : List Col} {take : List Str} {give : List Col} (h : (Bi c take give).2 = 0) : Bb c = true ∧ Dj c take = true ∧ Ek (Bu c take ++ give) = true ∧ (Bu c take ++ give).length ≤ 12 ∧ Bi c take give = (Bu c take ++ give, 0) := by
 cases h1 : Bb c with
 | false => rw [ix h1] at h; exact absurd (show (1 : Int) = 0 from h) (by decide)
 | true =>
  cases h2 : Dj c take with
  | false => rw [Xd h1 h2] at h; exact absurd (show (9 : Int) = 0 from h) (by decide)
  | true =>
   cases h3 : Ef (Bu c take ++ give) with
   | false => rw [Xe h1 h2 rfl h3] at h; exact absurd (show (9 : Int) = 0 from h) (by decide)
   | true =>
    cases h4 : Ek (Bu c take ++ give) with
    | false => rw [Xf h1 h2 rfl h3 h4] at h; exact absurd (show (10 : Int) = 0 from h) (by decide)
    | true =>
     by_cases h5 : 12 < (Bu c take ++ give).length
     ·rw [Xg h1 h2 rfl h3 h4 h5] at h; exact absurd (show (3 : Int) = 0 from h) (by decide)
     exact ⟨rfl, rfl, rfl, by omega, Xh h1 h2 rfl h3 h4 h5⟩
set_option maxRecDepth 8000
/-- What a node asks of its kids, and what it is. -/
structure Sign where
 kids : List Int
 own : Int
def D7 (s : Str) : Sign := if (s == [111, 114]) || (s == [97, 110, 100]) then ⟨[3, 3], 3⟩ else if (((((s == [61]) || (s == [33, 61])) || (s == [60])) || (s == [60, 61])) || (s == [62])) || (s == [62, 61]) then ⟨[-1, -1], 3⟩ else if s == [38] then ⟨[2, 2], 2⟩ else ⟨[1, 1], 1⟩
def C8 (s : Str) : Sign := if (s == [108, 101, 110]) || (s == [110, 117, 109]) then ⟨[2], 1⟩ else if s == [115, 116, 114] then ⟨[1], 2⟩ else if (s == [108, 101, 102, 116]) || (s == [114, 105, 103, 104, 116]) then ⟨[2, 1], 2⟩ else if s == [105, 115, 110, 117, 108, 108] then ⟨[-2], 3⟩ else if s == [110, 118, 108] then ⟨[-1, -1], -1⟩ else ⟨[3, -1, -1], -1⟩
def Bo (o : Int) (t : Str) : Sign := if o == 3 then ⟨[1], 1⟩ else if o == 4 then ⟨[3], 3⟩ else if o == 5 then D7 t else C8 t
def Bp (a b : Int) : Int × Bool := if a == 0 then (b, true) else if (b == 0) || (a == b) then (a, true) else (0, false)
def Jb : List Int → List Int → Int → Option Int
 | _, [], c => some c
 | [], _ :: _, _ => none
 | w :: ws, k :: ks, c => if w == -2 then Jb ws ks c else if w == -1 then (if (Bp c k).2 then Jb ws ks (Bp c k).1 else none) else if (Bp w k).2 then Jb ws ks c else none
def Gw (s : Sign) (ks : List Int) : Int × Int := match Jb s.kids ks 0 with | none => (0, 10) | some c => if s.own == -1 then (c, 0) else (s.own, 0)
def Mp (c : List Col) (t : Str) : Int × Int := if Ar t c < 0 then (0, 9) else ((c.getD (Ar t c).toNat ⟨[], 0⟩).kind, 0)
def Qt (c : List Col) (o : Int) (t : Str) (v : Val) (ks : List (Int × Int)) : Int × Int :=
 if o == 1 then (v.kind, 0) else if o == 2 then Mp c t else match ks.find? (fun q => q.2 != 0) with | some q => (0, q.2) | none => Gw (Bo o t) (ks.map (·.1))
mutual
def Cf (c : List Col) : Expr → Int × Int
 | .mk o t v k => Qt c o t v (Yr c k)
def Yr (c : List Col) : List Expr → List (Int × Int)
  | [] => []
  | e :: r => Cf c e :: Yr c r
 end
theorem Qu (c : List Col) : ∀ l, Yr c l = l.map (Cf c)
 | [] => rfl
 | e :: r => by rw [Yr, Qu c r]; rfl
theorem Kz (c : List Col) (e : Expr) : Cf c e = Qt c e.op e.text e.val (e.kids.map (Cf c)) := by cases e; rw [Cf, Qu]; rfl
/-- infer.Kind. -/
def Cr (e : Expr) (c : List Col) : Int × Int := if (!(Ao e)) || !(Of c) then (0, 1) else Cf c e
/-! The signs have as many as the nodes have kids. -/
theorem K3 (s : Str) : (D7 s).kids.length = 2 := by
 unfold D7; repeat' split
 all_goals rfl
theorem Xl {t : Str} {n : Nat} (h : D5 t = (n : Int)) : (C8 t).kids.length = n := by
 rw [show D5 t = D5 t from rfl] at h
 by_cases hm : t ∈ arityList.map (·.1)
 ·have : ((arityList.map (·.1)).all fun s => decide (((C8 s).kids.length : Int) = D5 s)) = true := by kernel_rfl
  have := of_decide_eq_true (List.all_eq_true.1 this t hm)
  omega
 have h1 : D5 t = -1 := by
  unfold D5
  rw [List.find?_eq_none.2 fun p hp => by
   simp only [beq_iff_eq]
   rintro rfl
   exact hm (List.mem_map.2 ⟨p, hp, rfl⟩)]
 omega
theorem Hd {e : Expr} (h : Da e = true) (h1 : (e.op == 1) = false) (h2 : (e.op == 2) = false) : (Bo e.op e.text).kids.length = e.kids.length := by
 unfold Da at h
 rw [h1, h2] at h
 simp only [Bool.false_eq_true, if_false] at h
 unfold Bo
 by_cases h3 : (e.op == 3) = true
 ·rw [h3] at h
  simp only [Bool.true_or, if_true, Bool.and_eq_true, beq_iff_eq] at h
  rw [if_pos h3]
  show 1 = _
  omega
 have h3' : (e.op == 3) = false := by simpa using h3
 rw [if_neg h3]
 rw [h3'] at h
 by_cases h4 : (e.op == 4) = true
 ·rw [h4] at h
  simp only [Bool.false_or, if_true, Bool.and_eq_true, beq_iff_eq] at h
  rw [if_pos h4]
  show 1 = _
  omega
 have h4' : (e.op == 4) = false := by simpa using h4
 rw [if_neg h4]
 rw [h4'] at h
 simp only [Bool.or_false, Bool.false_eq_true, if_false] at h
 by_cases h5 : (e.op == 5) = true
 ·rw [h5] at h
  simp only [if_true, Bool.and_eq_true, beq_iff_eq] at h
  rw [if_pos h5, K3]
  omega
 have h5' : (e.op == 5) = false := by simpa using h5
 rw [if_neg h5]
 rw [h5'] at h
 simp only [Bool.false_eq_true, if_false] at h
 by_cases h6 : (e.op == 6) = true
 ·rw [h6] at h
  simp only [if_true, Bool.and_eq_true, beq_iff_eq] at h
  exact Xl h.2
 have h6' : (e.op == 6) = false := by simpa using h6
 rw [h6'] at h
 cases h
/-! More columns. -/
/-! A tree in a column's place. -/
set_option maxRecDepth 4000
/-- Where a parser of expressions stands: its word, its nest, its fault. -/
structure PS where
 i : Nat
 nest : Nat
 code : Int
 at_ : Int
def noV : Val := ⟨0, 0, []⟩
def Ap : Expr := .mk 0 [] noV []
def Cg (e a : Int) (S : PS) : PS := if S.code == 0 then ⟨S.i, S.nest, e, a⟩ else S
def isM (l : List Tok) (of : Str) (S : PS) : Bool := (((A7 l S.i).kind == 5) || ((A7 l S.i).kind == 2)) && J1 (A7 l S.i).text of
def A9 (S : PS) : PS := ⟨S.i + 1, S.nest, S.code, S.at_⟩
def Br (S : PS) : PS := ⟨S.i, S.nest + 1, S.code, S.at_⟩
def Qv (S : PS) : PS := ⟨S.i, S.nest - 1, S.code, S.at_⟩
def Db (l : List Tok) (s : Str) (S : PS) : PS := if S.code != 0 then S else if ((A7 l S.i).kind != 5) || !((A7 l S.i).text == s) then Cg 8 (A7 l S.i).at_ S else A9 S
/-- What stands one nest deeper. -/
structure Fam where
 ei : PS → Expr × PS
 no : PS → Expr × PS
 ne : PS → Expr × PS
def Ba (a : Int) (f : PS → Expr × PS) (S : PS) : Expr × PS := if (S.nest : Int) == 30 then (Ap, Cg 18 a S) else ((f (Br S)).1, Qv (f (Br S)).2)
def K4 (t : Str) (x y : Expr) : Expr := .mk 5 t noV [x, y]
def Qw (l : List Tok) (of : Str) (f : PS → Expr × PS) : Nat → Expr × PS → Expr × PS
 | 0, r => r
 | n + 1, r => if (r.2.code == 0) && isM l of r.2 then Qw l of f n (K4 (A7 l r.2.i).text r.1 (f (A9 r.2)).1, (f (A9 r.2)).2) else r
def Dn (l : List Tok) (of : Str) (f : PS → Expr × PS) (S : PS) : Expr × PS := Qw l of f l.length (f S)
def Ov : Str := [32, 44, 32]
def argsF (l : List Tok) (f : PS → Expr × PS) : Nat → List Expr × PS → List Expr × PS
 | 0, r => r
 | n + 1, r => if (r.2.code == 0) && isM l Ov r.2 then argsF l f n (r.1 ++ [(f (A9 r.2)).1], (f (A9 r.2)).2) else r
def Ex (l : List Tok) (f : PS → Expr × PS) (S : PS) : List Expr × PS := argsF l f l.length ([(f S).1], (f S).2)
def Mq (l : List Tok) (a : Int) (f : PS → Expr × PS) (S : PS) : List Expr × PS := if (S.nest : Int) == 30 then ([], Cg 18 a S) else ((Ex l f (Br S)).1, Qv (Ex l f (Br S)).2)
def D8 : Str := [41]
def C2 (l : List Tok) (D : Fam) (S : PS) : List Expr × PS := Mq l (A7 l S.i).at_ D.ei (A9 S)
def Ey (l : List Tok) (D : Fam) (t : Tok) (S : PS) : Expr × PS :=
 if D5 t.text < 0 then (Ap, Cg 9 t.at_ S)
 else if ((Db l D8 (C2 l D S).2).code == 0) && !(((C2 l D S).1.length : Int) == D5 t.text) then (Ap, Cg 8 t.at_ (Db l D8 (C2 l D S).2))
 else (.mk 6 t.text noV (C2 l D S).1, Db l D8 (C2 l D S).2)
def orT : Str := [32, 111, 114, 32]
def cj : Str := [32, 97, 110, 100, 32]
def qu : Str := [32, 110, 111, 116, 32]
def mh : Str := [32, 61, 32, 33, 61, 32, 60, 32, 60, 61, 32, 62, 32, 62, 61, 32]
def ck : Str := [32, 43, 32, 45, 32, 38, 32]
def Qx : Str := [32, 42, 32, 47, 32, 37, 32]
def qv : Str := [32, 45, 32]
def opT : Str := [32, 40, 32]
def qw : Str := [32, 116, 114, 117, 101, 32, 102, 97, 108, 115, 101, 32, 110, 117, 108, 108, 32]
def Ow (v : Val) : Expr := .mk 1 [] v []
def E3 (l : List Tok) (D : Fam) (S : PS) : Expr × PS :=
 if S.code != 0 then (Ap, S)
 else if ((A7 l S.i).kind == 3) || isM l qw S then (Ow (Eo (A7 l S.i).text).1, A9 S)
 else if (A7 l S.i).kind == 4 then (Ow ⟨2, 0, (A7 l S.i).text.take 200⟩, A9 S)
 else if (A7 l S.i).kind == 1 then (if isM l opT (A9 S) then Ey l D (A7 l S.i) (A9 S) else (Bw (A7 l S.i).text, A9 S))
 else if isM l opT S then ((Ba (A7 l S.i).at_ D.ei (A9 S)).1, Db l D8 (Ba (A7 l S.i).at_ D.ei (A9 S)).2)
 else (Ap, Cg 8 (A7 l S.i).at_ S)
def L0 (op : Int) (x : Expr) : Expr := .mk op [] noV [x]
def N4 (l : List Tok) (D : Fam) (S : PS) : Expr × PS := if !isM l qv S then E3 l D S else (L0 3 (Ba (A7 l S.i).at_ D.ne (A9 S)).1, (Ba (A7 l S.i).at_ D.ne (A9 S)).2)
def Up (l : List Tok) (D : Fam) : PS → Expr × PS := Dn l Qx (N4 l D)
def Cm (l : List Tok) (D : Fam) : PS → Expr × PS := Dn l ck (Up l D)
def Dc (l : List Tok) (D : Fam) (S : PS) : Expr × PS :=
 if ((Cm l D S).2.code != 0) || !isM l mh (Cm l D S).2 then Cm l D S
 else (K4 (A7 l (Cm l D S).2.i).text (Cm l D S).1 (Cm l D (A9 (Cm l D S).2)).1, (Cm l D (A9 (Cm l D S).2)).2)
def N5 (l : List Tok) (D : Fam) (S : PS) : Expr × PS := if !isM l qu S then Dc l D S else (L0 4 (Ba (A7 l S.i).at_ D.no (A9 S)).1, (Ba (A7 l S.i).at_ D.no (A9 S)).2)
def Uq (l : List Tok) (D : Fam) : PS → Expr × PS := Dn l cj (N5 l D)
def Na (l : List Tok) (D : Fam) : PS → Expr × PS := Dn l orT (Uq l D)
def D9 (l : List Tok) : Nat → Fam
 | 0 => ⟨fun S => (Ap, S), fun S => (Ap, S), fun S => (Ap, S)⟩
 | d + 1 => ⟨Na l (D9 l d), N5 l (D9 l d), N4 l (D9 l d)⟩

/-! What is so of them. -/
theorem F8 : ∀ {n m : Nat}, n ≤ m → ∀ {e : Expr}, okE n e → okE m e
 | 0, _, _, _, h => h.elim
 | n + 1, 0, h, _, _ => by omega
 | n + 1, m + 1, h, _, ho => ⟨ho.1, ho.2.1, fun y hy => F8 (by omega) (ho.2.2 y hy)⟩
theorem Ox : sizeE Ap = 1 := rfl
theorem cl (t : Str) (a b : Expr) : sizeE (K4 t a b) = 1 + (sizeE a + (sizeE b + 0)) := by rw [K4, sizeE, B8, B8, B8]
theorem cm (o : Int) (a : Expr) : sizeE (L0 o a) = 1 + (sizeE a + 0) := by rw [L0, sizeE, B8, B8]
theorem Qy : ∀ a b : List Expr, B8 (a ++ b) = B8 a + B8 b
 | [], b => by rw [List.nil_append, B8, Nat.zero_add]
 | e :: r, b => by rw [List.cons_append, B8, B8, Qy r b, Nat.add_assoc]
theorem Ur {n : Nat} (h : 1 ≤ n) : okE n Ap := F8 h ⟨by decide, by decide, fun y hy => by cases hy⟩
theorem Ys {n : Nat} (h : 1 ≤ n) (v : Val) : okE n (Ow v) := F8 h ⟨by simp [Ow, Expr.text], by simp [Ow, Expr.kids], fun y hy => by cases hy⟩
structure Fact (l : List Tok) (S : PS) (r : Expr × PS) : Prop where
 le : S.i ≤ r.2.i
 lt : r.2.i < l.length
 nest : r.2.nest = S.nest
 ok : okE (2 * (r.2.i - S.i) + 1) r.1
 sz : sizeE r.1 ≤ 2 * (r.2.i - S.i) + 1
def Cn (l : List Tok) (n : Nat) (f : PS → Expr × PS) : Prop := ∀ S, S.i < l.length → S.nest = n → Fact l S (f S)
theorem TokEnd.step {l : List Tok} (h : TokEnd l) {i : Nat} (hi : i < l.length) (hk : (A7 l i).kind ≠ 0) : i + 1 < l.length := by
 obtain ⟨L, z, rfl, hz, _⟩ := h.split
 rcases Nat.lt_or_ge i L.length with h1 | h1
 ·simp only [List.length_append, List.length_cons, List.length_nil]; omega
 have : i = L.length := by simp only [List.length_append, List.length_cons, List.length_nil] at hi; omega
 subst this
 exact absurd (by unfold A7; simpa using hz) hk
theorem j4 {l : List Tok} {of : Str} {S : PS} (h : isM l of S = true) : (A7 l S.i).kind ≠ 0 := by
 unfold isM at h
 simp only [Bool.and_eq_true, Bool.or_eq_true, beq_iff_eq] at h
 omega
theorem TokEnd.stepIs {l : List Tok} (h : TokEnd l) {of : Str} {S : PS} (hi : S.i < l.length) (hk : isM l of S = true) : (A9 S).i < l.length := h.step hi (j4 hk)
theorem failM_i {e a : Int} {S : PS} : (Cg e a S).i = S.i ∧ (Cg e a S).nest = S.nest := by unfold Cg; split <;> exact ⟨rfl, rfl⟩
theorem Yt {l : List Tok} (hl : TokEnd l) {s : Str} {S : PS} (hi : S.i < l.length) : S.i ≤ (Db l s S).i ∧ (Db l s S).i < l.length ∧ (Db l s S).nest = S.nest := by
 unfold Db
 split
 ·exact ⟨Nat.le_refl _, hi, rfl⟩
 split
 ·rw [failM_i.1, failM_i.2]; exact ⟨Nat.le_refl _, hi, rfl⟩
 rename_i h
 simp only [Bool.or_eq_true, bne_iff_ne, ne_eq, not_or, Classical.not_not] at h
 have := hl.step hi (by rw [h.1]; decide)
 exact ⟨Nat.le_succ _, this, rfl⟩
theorem L1 {l : List Tok} {S S0 : PS} (h0 : S0.i ≤ S.i) (h1 : S.i < l.length) (h2 : S.nest = S0.nest) (e a : Int) : Fact l S0 (Ap, Cg e a S) := by
 refine ⟨?_, ?_, ?_, Ur (by omega), by rw [Ox]; omega⟩
 ·show _ ≤ (Cg e a S).i; rw [failM_i.1]; exact h0
 ·show (Cg e a S).i < _; rw [failM_i.1]; exact h1
 show (Cg e a S).nest = _; rw [failM_i.2]; exact h2
/-- A state of a loop of marks. -/
structure LeftAt (l : List Tok) (of : Str) (f : PS → Expr × PS) (S : PS) (r : Expr × PS) : Prop where
 fact : Fact l S r
 eq : ∃ n, l.length ≤ r.2.i + n ∧ Dn l of f S = Qw l of f n r
theorem LeftAt.start {l : List Tok} {of : Str} {f : PS → Expr × PS} {S : PS} (h : Fact l S (f S)) : LeftAt l of f S (f S) := ⟨h, l.length, by omega, rfl⟩
theorem Yu {l : List Tok} {S : PS} {r q : Expr × PS} (h : Fact l S r) (hq : Fact l (A9 r.2) q) (hl : TokEnd l) : Fact l S (K4 (A7 l r.2.i).text r.1 q.1, q.2) := by
 have h1 := h.le
 have h2 : r.2.i + 1 ≤ q.2.i := hq.le
 refine ⟨by show S.i ≤ q.2.i; omega, hq.lt, by show q.2.nest = S.nest; rw [hq.nest]; exact h.nest, ?_, ?_⟩
 rotate_left
 ·have s1 := h.sz
  have s2 : sizeE q.1 ≤ 2 * (q.2.i - (r.2.i + 1)) + 1 := hq.sz
  show sizeE (K4 _ r.1 q.1) ≤ 2 * (q.2.i - S.i) + 1
  rw [cl]
  omega
 show okE (2 * (q.2.i - S.i) + 1) _
 refine ⟨hl.text _, by simp [K4, Expr.kids], fun y hy => ?_⟩
 have hy' : y = r.1 ∨ y = q.1 := by simpa [K4, Expr.kids] using hy
 rcases hy' with rfl | rfl
 ·exact F8 (by omega) h.ok
 exact F8 (by show 2 * (q.2.i - (r.2.i + 1)) + 1 ≤ _; omega) hq.ok
theorem LeftAt.on {l : List Tok} {of : Str} {f : PS → Expr × PS} {S : PS} {r : Expr × PS} (hl : TokEnd l) (h : LeftAt l of f S r) (hc : ((r.2.code == 0) && isM l of r.2) = true) (hf : Cn l S.nest f) : (A9 r.2).i < l.length ∧ Fact l (A9 r.2) (f (A9 r.2)) ∧ LeftAt l of f S (K4 (A7 l r.2.i).text r.1 (f (A9 r.2)).1, (f (A9 r.2)).2) := by
 have hi := hl.stepIs h.fact.lt (Bool.and_eq_true_iff.1 hc).2
 have hq := hf (A9 r.2) hi h.fact.nest
 obtain ⟨n, hn, e⟩ := h.eq
 have h1 := h.fact.lt
 have h2 : r.2.i + 1 ≤ (f (A9 r.2)).2.i := hq.le
 obtain ⟨m, rfl⟩ : ∃ m, n = m + 1 := ⟨n - 1, by omega⟩
 refine ⟨hi, hq, Yu h.fact hq hl, m, by show l.length ≤ (f (A9 r.2)).2.i + m; omega, ?_⟩
 rw [e, Qw, if_pos hc]
theorem LeftAt.out {l : List Tok} {of : Str} {f : PS → Expr × PS} {S : PS} {r : Expr × PS} (h : LeftAt l of f S r) (hc : ¬ ((r.2.code == 0) && isM l of r.2) = true) : Dn l of f S = r := by
 obtain ⟨n, hn, e⟩ := h.eq
 have h1 := h.fact.lt
 obtain ⟨m, rfl⟩ : ∃ m, n = m + 1 := ⟨n - 1, by omega⟩
 rw [e, Qw, if_neg hc]
theorem Us {l : List Tok} {of : Str} {f : PS → Expr × PS} {S : PS} (hl : TokEnd l) (hf : Cn l S.nest f) : ∀ (k : Nat) (r : Expr × PS), l.length - r.2.i ≤ k → LeftAt l of f S r → Fact l S (Dn l of f S)
 | 0, r, hk, h => by have := h.fact.lt; omega
 | k + 1, r, hk, h => by
  by_cases hc : ((r.2.code == 0) && isM l of r.2) = true
  ·obtain ⟨h1, h2, h3⟩ := h.on hl hc hf
   have h4 : r.2.i + 1 ≤ (f (A9 r.2)).2.i := h2.le
   exact Us hl hf k _ (by show l.length - (f (A9 r.2)).2.i ≤ k; have := h.fact.lt; omega) h3
  rw [h.out hc]; exact h.fact
theorem Eg {l : List Tok} {of : Str} {f : PS → Expr × PS} {n : Nat} (hl : TokEnd l) (hf : Cn l n f) : Cn l n (Dn l of f) := fun S hi hn => Us hl (hn ▸ hf) l.length (f S) (by omega) (.start (hf S hi hn))
theorem Fx {l : List Tok} {f : PS → Expr × PS} {S : PS} (a : Int) (hi : S.i < l.length) (hf : S.nest ≠ 30 → Cn l (S.nest + 1) f) : Fact l S (Ba a f S) := by
 unfold Ba
 split
 ·exact L1 (Nat.le_refl _) hi rfl _ _
 rename_i h
 have h30 : S.nest ≠ 30 := fun e => h (by rw [e]; rfl)
 have := hf h30 (Br S) hi rfl
 refine ⟨this.le, this.lt, ?_, this.ok, this.sz⟩
 show (f (Br S)).2.nest - 1 = S.nest
 rw [this.nest]
 rfl
/-- What is so of some kids. -/
structure KFact (l : List Tok) (S : PS) (r : List Expr × PS) : Prop where
 le : S.i ≤ r.2.i
 lt : r.2.i < l.length
 nest : r.2.nest = S.nest
 len : r.1.length ≤ r.2.i - S.i + 1
 ok : ∀ y ∈ r.1, okE (2 * (r.2.i - S.i) + 1) y
 sz : B8 r.1 ≤ 2 * (r.2.i - S.i) + 1
structure ArgsAt (l : List Tok) (f : PS → Expr × PS) (S : PS) (r : List Expr × PS) : Prop where
 fact : KFact l S r
 eq : ∃ n, l.length ≤ r.2.i + n ∧ Ex l f S = argsF l f n r
theorem ArgsAt.start {l : List Tok} {f : PS → Expr × PS} {S : PS} (h : Fact l S (f S)) : ArgsAt l f S ([(f S).1], (f S).2) := ⟨⟨h.le, h.lt, h.nest, by simp, fun y hy => by rw [List.mem_singleton.1 hy]; exact h.ok, by have := h.sz; show sizeE (f S).1 + 0 ≤ _; exact this⟩, l.length, by omega, rfl⟩
theorem ArgsAt.on {l : List Tok} {f : PS → Expr × PS} {S : PS} {r : List Expr × PS} (hl : TokEnd l) (h : ArgsAt l f S r) (hc : ((r.2.code == 0) && isM l Ov r.2) = true) (hf : Cn l S.nest f) : (A9 r.2).i < l.length ∧ Fact l (A9 r.2) (f (A9 r.2)) ∧ ArgsAt l f S (r.1 ++ [(f (A9 r.2)).1], (f (A9 r.2)).2) := by
 have hi := hl.stepIs h.fact.lt (Bool.and_eq_true_iff.1 hc).2
 have hq := hf (A9 r.2) hi h.fact.nest
 obtain ⟨n, hn, e⟩ := h.eq
 have h1 := h.fact.lt
 have h0 := h.fact.le
 have h2 : r.2.i + 1 ≤ (f (A9 r.2)).2.i := hq.le
 obtain ⟨m, rfl⟩ : ∃ m, n = m + 1 := ⟨n - 1, by omega⟩
 refine ⟨hi, hq, ⟨by show S.i ≤ (f (A9 r.2)).2.i; omega, hq.lt, by show (f (A9 r.2)).2.nest = _; rw [hq.nest]; exact h.fact.nest, ?_, fun y hy => ?_, ?_⟩, m, by show l.length ≤ (f (A9 r.2)).2.i + m; omega, ?_⟩
 ·have := h.fact.len
  show (r.1 ++ _).length ≤ (f (A9 r.2)).2.i - S.i + 1
  simp only [List.length_append, List.length_cons, List.length_nil]
  omega
 ·show okE (2 * ((f (A9 r.2)).2.i - S.i) + 1) y
  rcases List.mem_append.1 hy with hy | hy
  ·exact F8 (by omega) (h.fact.ok y hy)
  rw [List.mem_singleton.1 hy]
  exact F8 (by show 2 * ((f (A9 r.2)).2.i - (r.2.i + 1)) + 1 ≤ _; omega) hq.ok
 ·have s1 := h.fact.sz
  have s2 : sizeE (f (A9 r.2)).1 ≤ 2 * ((f (A9 r.2)).2.i - (r.2.i + 1)) + 1 := hq.sz
  show B8 (r.1 ++ [(f (A9 r.2)).1]) ≤ 2 * ((f (A9 r.2)).2.i - S.i) + 1
  rw [Qy, B8, B8]
  omega
 rw [e, argsF, if_pos hc]
theorem ArgsAt.out {l : List Tok} {f : PS → Expr × PS} {S : PS} {r : List Expr × PS} (h : ArgsAt l f S r) (hc : ¬ ((r.2.code == 0) && isM l Ov r.2) = true) : Ex l f S = r := by
 obtain ⟨n, hn, e⟩ := h.eq
 have h1 := h.fact.lt
 obtain ⟨m, rfl⟩ : ∃ m, n = m + 1 := ⟨n - 1, by omega⟩
 rw [e, argsF, if_neg hc]
theorem Ut {l : List Tok} {f : PS → Expr × PS} {S : PS} (hl : TokEnd l) (hf : Cn l S.nest f) : ∀ (k : Nat) (r : List Expr × PS), l.length - r.2.i ≤ k → ArgsAt l f S r → KFact l S (Ex l f S)
 | 0, r, hk, h => by have := h.fact.lt; omega
 | k + 1, r, hk, h => by
  by_cases hc : ((r.2.code == 0) && isM l Ov r.2) = true
  ·obtain ⟨h1, h2, h3⟩ := h.on hl hc hf
   have h4 : r.2.i + 1 ≤ (f (A9 r.2)).2.i := h2.le
   exact Ut hl hf k _ (by show l.length - (f (A9 r.2)).2.i ≤ k; have := h.fact.lt; omega) h3
  rw [h.out hc]; exact h.fact
theorem Oy {l : List Tok} {f : PS → Expr × PS} {S : PS} (hl : TokEnd l) (hi : S.i < l.length) (hf : Cn l S.nest f) : KFact l S (Ex l f S) := Ut hl hf l.length _ (by show l.length - (f S).2.i ≤ _; omega) (.start (hf S hi rfl))
theorem Oz {l : List Tok} {f : PS → Expr × PS} {S : PS} (hl : TokEnd l) (a : Int) (hi : S.i < l.length) (hf : S.nest ≠ 30 → Cn l (S.nest + 1) f) : KFact l S (Mq l a f S) := by
 unfold Mq
 split
 ·refine ⟨?_, ?_, ?_, by simp, fun y hy => (by cases hy), by simp [B8]⟩
  ·show _ ≤ (Cg _ _ S).i; rw [failM_i.1]; exact Nat.le_refl _
  ·show (Cg _ _ S).i < _; rw [failM_i.1]; exact hi
  show (Cg _ _ S).nest = _; rw [failM_i.2]
 rename_i h
 have h30 : S.nest ≠ 30 := fun e => h (by rw [e]; rfl)
 have := Oy (S := Br S) hl hi (hf h30)
 refine ⟨this.le, this.lt, ?_, this.len, this.ok, this.sz⟩
 show (Ex l f (Br S)).2.nest - 1 = S.nest
 rw [this.nest]
 rfl
theorem Xm {l : List Tok} {D : Fam} {S : PS} (hl : TokEnd l) (hll : l.length ≤ 1048576) {t : Tok} (ht : t.text.length ≤ 1048576) (hi : (A9 S).i < l.length) (hf : S.nest ≠ 30 → Cn l (S.nest + 1) D.ei) : Fact l S (Ey l D t S) := by
 have hk : KFact l (A9 S) (C2 l D S) := Oz hl _ hi hf
 have h1 : S.i + 1 ≤ (C2 l D S).2.i := hk.le
 obtain ⟨w1, w2, w3⟩ := Yt (s := D8) hl hk.lt
 unfold Ey
 split
 ·exact L1 (Nat.le_refl _) (by show S.i < _; have : S.i + 1 < l.length := hi; omega) rfl _ _
 split
 ·exact L1 (show S.i ≤ (Db l D8 (C2 l D S).2).i by omega) w2 (w3.trans hk.nest) 8 t.at_
 refine ⟨by show S.i ≤ (Db l D8 (C2 l D S).2).i; omega, w2, w3.trans hk.nest, ?_, ?_⟩
 rotate_left
 ·have s1 : B8 (C2 l D S).1 ≤ 2 * ((C2 l D S).2.i - (S.i + 1)) + 1 := hk.sz
  show sizeE (.mk 6 t.text noV (C2 l D S).1) ≤ 2 * ((Db l D8 (C2 l D S).2).i - S.i) + 1
  rw [sizeE]
  omega
 show okE (2 * ((Db l D8 (C2 l D S).2).i - S.i) + 1) _
 refine ⟨ht, ?_, fun y hy => ?_⟩
 ·have h5 : (C2 l D S).1.length ≤ (C2 l D S).2.i - (A9 S).i + 1 := hk.len
  have h6 := hk.lt
  show (C2 l D S).1.length ≤ 1048576
  omega
 exact F8 (by show 2 * ((C2 l D S).2.i - (S.i + 1)) + 1 ≤ _; omega) (hk.ok y hy)
theorem Xn {l : List Tok} {D : Fam} {n : Nat} (hl : TokEnd l) (hll : l.length ≤ 1048576) (hf : n ≠ 30 → Cn l (n + 1) D.ei) : Cn l n (E3 l D) := by
 intro S hi hn
 subst hn
 unfold E3
 have leaf : ∀ e : Expr, okE 1 e → sizeE e = 1 → (A7 l S.i).kind ≠ 0 → Fact l S (e, A9 S) := fun e he hs hk => ⟨Nat.le_succ _, hl.step hi hk, rfl, F8 (by omega) he, by show sizeE e ≤ _; omega⟩
 split
 ·exact ⟨Nat.le_refl _, hi, rfl, Ur (by omega), by show sizeE Ap ≤ _; rw [Ox]; omega⟩
 split
 ·rename_i h
  refine leaf _ (Ys (Nat.le_refl _) _) rfl ?_
  rcases Bool.or_eq_true_iff.1 h with h | h
  ·rw [beq_iff_eq] at h; rw [h]; decide
  exact j4 h
 split
 ·rename_i h
  rw [beq_iff_eq] at h
  exact leaf _ (Ys (Nat.le_refl _) _) rfl (by rw [h]; decide)
 split
 ·rename_i h
  rw [beq_iff_eq] at h
  have hk : (A7 l S.i).kind ≠ 0 := by rw [h]; decide
  split
  ·rename_i h2
   have hi1 : (A9 S).i < l.length := hl.step hi hk
   have := Xm (S := A9 S) (D := D) hl hll (hl.text S.i) (hl.stepIs hi1 h2) hf
   have h3 : S.i + 1 ≤ (Ey l D (A7 l S.i) (A9 S)).2.i := this.le
   have h4 : sizeE (Ey l D (A7 l S.i) (A9 S)).1 ≤ 2 * ((Ey l D (A7 l S.i) (A9 S)).2.i - (S.i + 1)) + 1 := this.sz
   exact ⟨by omega, this.lt, this.nest, F8 (by show 2 * ((Ey l D (A7 l S.i) (A9 S)).2.i - (S.i + 1)) + 1 ≤ _; omega) this.ok, by omega⟩
  exact leaf _ (Uc _ (hl.text _)) rfl hk
 split
 ·rename_i h
  have hi1 : (A9 S).i < l.length := hl.stepIs hi h
  have := Fx (S := A9 S) (l := l) (f := D.ei) (A7 l S.i).at_ hi1 hf
  obtain ⟨w1, w2, w3⟩ := Yt (s := D8) hl this.lt
  have h3 : S.i + 1 ≤ (Ba (A7 l S.i).at_ D.ei (A9 S)).2.i := this.le
  have h4 : sizeE (Ba (A7 l S.i).at_ D.ei (A9 S)).1 ≤ 2 * ((Ba (A7 l S.i).at_ D.ei (A9 S)).2.i - (S.i + 1)) + 1 := this.sz
  refine ⟨by show S.i ≤ (Db l D8 _).i; omega, w2, w3.trans this.nest, F8 ?_ this.ok, by show sizeE (Ba (A7 l S.i).at_ D.ei (A9 S)).1 ≤ 2 * ((Db l D8 (Ba (A7 l S.i).at_ D.ei (A9 S)).2).i - S.i) + 1; omega⟩
  show 2 * ((Ba (A7 l S.i).at_ D.ei (A9 S)).2.i - (S.i + 1)) + 1 ≤ 2 * ((Db l D8 (Ba (A7 l S.i).at_ D.ei (A9 S)).2).i - S.i) + 1
  omega
 exact L1 (Nat.le_refl _) hi rfl _ _
theorem Yv {l : List Tok} {S : PS} {r : Expr × PS} (h : Fact l (A9 S) r) (op : Int) : Fact l S (L0 op r.1, r.2) := by
 have h1 : S.i + 1 ≤ r.2.i := h.le
 refine ⟨by show S.i ≤ r.2.i; omega, h.lt, h.nest, ?_, ?_⟩
 rotate_left
 ·have s1 : sizeE r.1 ≤ 2 * (r.2.i - (S.i + 1)) + 1 := h.sz
  show sizeE (L0 op r.1) ≤ 2 * (r.2.i - S.i) + 1
  rw [cm]
  omega
 show okE (2 * (r.2.i - S.i) + 1) _
 refine ⟨by simp [L0, Expr.text], by simp [L0, Expr.kids], fun y hy => ?_⟩
 have hy' : y = r.1 := by simpa [L0, Expr.kids] using hy
 subst hy'
 exact F8 (by show 2 * (r.2.i - (S.i + 1)) + 1 ≤ _; omega) h.ok
theorem M1 {l : List Tok} {D : Fam} {n : Nat} (hl : TokEnd l) (hll : l.length ≤ 1048576) (hf : n ≠ 30 → Cn l (n + 1) D.ei) (hg : n ≠ 30 → Cn l (n + 1) D.ne) : Cn l n (N4 l D) := by
 intro S hi hn
 unfold N4
 split
 ·exact Xn hl hll hf S hi hn
 rename_i h
 subst hn
 exact Yv (Fx (S := A9 S) _ (hl.stepIs hi (by simpa using h)) hg) 3
theorem Qz {l : List Tok} {D : Fam} {n : Nat} (hl : TokEnd l) (hll : l.length ≤ 1048576) (hf : n ≠ 30 → Cn l (n + 1) D.ei) (hg : n ≠ 30 → Cn l (n + 1) D.ne) : Cn l n (Cm l D) := Eg hl (Eg hl (M1 hl hll hf hg))
theorem Jk {l : List Tok} {D : Fam} {n : Nat} (hl : TokEnd l) (hll : l.length ≤ 1048576) (hf : n ≠ 30 → Cn l (n + 1) D.ei) (hg : n ≠ 30 → Cn l (n + 1) D.ne) : Cn l n (Dc l D) := by
 intro S hi hn
 have h1 := Qz hl hll hf hg S hi hn
 unfold Dc
 split
 ·exact h1
 rename_i h
 simp only [Bool.or_eq_true, not_or, Bool.not_eq_true, Bool.not_eq_false'] at h
 exact Yu h1 (Qz hl hll hf hg _ (hl.stepIs h1.lt h.2) (h1.nest.trans hn)) hl
theorem R0 {l : List Tok} {D : Fam} {n : Nat} (hl : TokEnd l) (hll : l.length ≤ 1048576) (hf : n ≠ 30 → Cn l (n + 1) D.ei) (hg : n ≠ 30 → Cn l (n + 1) D.ne) (hh : n ≠ 30 → Cn l (n + 1) D.no) : Cn l n (N5 l D) := by
 intro S hi hn
 unfold N5
 split
 ·exact Jk hl hll hf hg S hi hn
 rename_i h
 subst hn
 exact Yv (Fx (S := A9 S) _ (hl.stepIs hi (by simpa using h)) hh) 4
theorem M2 {l : List Tok} (hl : TokEnd l) (hll : l.length ≤ 1048576) : ∀ (d n : Nat), n + d = 31 → n ≠ 31 → Cn l n (D9 l d).ei ∧ Cn l n (D9 l d).no ∧ Cn l n (D9 l d).ne
 | 0, n, h, h2 => by omega
 | d + 1, n, h, _ => by
  have ih : n ≠ 30 → _ := fun h30 => M2 hl hll d (n + 1) (by omega) (by omega)
  have hn := R0 (D := D9 l d) (n := n) hl hll (fun h => (ih h).1) (fun h => (ih h).2.2) (fun h => (ih h).2.1)
  exact ⟨Eg hl (Eg hl hn), hn, M1 hl hll (fun h => (ih h).1) (fun h => (ih h).2.2)⟩
abbrev pr (l : List Tok) (S : PS) : AObj := .cells 222 [.slice false 3 (l.map Fw), A2 (S.i : Int), A2 (S.nest : Int), A2 S.code, A2 S.at_]
theorem Bk {n : Nat} {l : List Tok} {S : PS} : ObjLow n (pr l S) := by
 show ∀ y ∈ [AV.slice false 3 (l.map Fw), A2 (S.i : Int), A2 (S.nest : Int), A2 S.code, A2 S.at_], Low n y
 intro y hy
 simp only [List.mem_cons, List.not_mem_nil, or_false] at hy
 rcases hy with rfl | rfl | rfl | rfl | rfl
 ·simp [or_imp, forall_and]
 all_goals simp
theorem Uu (o : Int) (t : Str) (v : Val) : Le (.agg [A2 o, A6 t, A2 v.kind, A2 v.n, A6 v.s, .nil]) (A4 (.mk o t v [])) := by
 rw [Ab]
 refine .agg _ _ rfl (by simp [AV.one, Value.oneCell', sv]) fun i y y' h1 h2 => ?_
 match i with
 | 0 => simp at h1 h2; subst h1; subst h2; exact .inl rfl
 | 1 => simp at h1 h2; subst h1; subst h2; exact .inl rfl
 | 2 => simp at h1 h2; subst h1; subst h2; exact .inl rfl
 | 3 => simp at h1 h2; subst h1; subst h2; exact .inl rfl
 | 4 => simp at h1 h2; subst h1; subst h2; exact .inl rfl
 | 5 => simp at h1 h2; subst h1; subst h2; exact .inr ⟨rfl, 6, rfl⟩
 | i + 6 => simp at h1
theorem P0 : Le (.agg [A2 0, A6 [], A2 0, A2 0, A6 [], .nil]) (A4 Ap) := Uu 0 [] noV
theorem uo (l : List Tok) (S : PS) (o : Nat) (Hp : List AObj) (ho : Hp[o]? = some (pr l S)) (hi : S.i < l.length) : AFun Tryz.prog 258 [.ptr o 0] Hp (Fw (A7 l S.i)) := by
 refine ACall.body [.cell 2 125] [0] Tryz.func258 Tryz.ntmps258 (fun d => ?_)
 refine t7 ?_;refine Z55 ?_
 refine D.gw (h := Q.loadUp ho) (hr := ?_)
 refine Z55 ?_
 refine D.gw (h := Q.loadUp ho) (hr := ?_)
 refine D.tail ?_
 refine R.gw (h := Q.indexAddr (S.i) (Fw (A7 l S.i)) (fun _ => Lv hi)) (hr := ?_)
 refine R.go ?_;exact kv

theorem Uv (l : List Tok) (S : PS) (of : Str) (o : Nat) (Hp : List AObj) (ho : Hp[o]? = some (pr l S)) (hi : S.i < l.length) (hl : TokEnd l) (hof : of.length ≤ 1048576) : AFun Tryz.prog 249 [.ptr o 0, A6 of] Hp (Aj (isM l of S)) := by
 refine ACall.body [.tmp 4] [0, 1] Tryz.func249 Tryz.ntmps249 (fun d => ?_)
 refine Z52 ?_;refine pj ?_;refine Z21 ?_;refine R.fin [1, 5] ?_;refine Tw ?_;refine Z56 ?_;refine G.call Tryz.call109 (fun hB => um (A7 l S.i).text of (hl.text _) hof _) ?_;exact fp

theorem j5 (l : List Tok) (S : PS) (o : Nat) (Hp : List AObj) (ho : Hp[o]? = some (pr l S)) (hi : S.i < l.length) (hll : l.length ≤ 1048576) : ACall Tryz.prog 250 [.ptr o 0] Hp (fun r H' => r = Fw (A7 l S.i) ∧ H' = Hp.set o (pr l (A9 S))) := by
 refine ACall.body [.cell 2 125] [0] Tryz.func250 Tryz.ntmps250 (fun d => ?_)
 refine Z60 ?_;refine pj ?_;refine Tq ?_;refine Z20 ?_
 refine R.gw (h := Q.loadUp ho) (hr := ?_)
 refine Z24 ?_
 refine R.storeUp jS ho ?_ ?_
 ·simp
 refine Fl ?_;refine Z2 ?_;exact kv

theorem cn (l : List Tok) (S : PS) (e a : Int) (o : Nat) (Hp : List AObj) (ho : Hp[o]? = some (pr l S)) : ACall Tryz.prog 221 [.ptr o 0, A2 e, A2 a] Hp (fun r H' => r = A4 Ap ∧ H' = Hp.set o (pr l (Cg e a S))) := by
 refine ACall.body [.cell 6 45] [0, 1, 2] Tryz.func221 Tryz.ntmps221 (fun d => ?_)
 refine Z33 ?_;refine Wh ?_;refine Z54 ?_
 refine R.gw (h := Q.loadUp ho) (hr := ?_)
 refine R.go ?_;refine R.fin [0, 1, 2, 6, 12] ?_
 refine W.cond (fun ht12 => ?_) (fun ht12 => ?_)
 ·have e : Cg e a S = ⟨S.i, S.nest, e, a⟩ := if_pos ht12
  refine Z30 ?_;refine Tx ?_;refine Z0 ?_
  refine R.storeUp jS ho ?_ ?_
  ·simp
  refine R.fin [6] ?_;refine K.thN ?_;refine oy ?_;refine R.wk 19 _ P0 ?_;refine En ?_;refine Z88 ?_;exact K.fin (V.one (V.cellN jA jS)) ⟨rfl, by rw [e]⟩ (hlow := Ad _ Ap)
 have e : Cg e a S = S := if_neg (by rw [ht12]; simp)
 refine Z5 ?_;refine oy ?_;refine R.wk 19 _ P0 ?_;refine En ?_;refine Z88 ?_;exact K.fin (V.one (V.cellN jA jS)) ⟨rfl, by rw [e]; exact (Du ho).symm⟩ (hlow := Ad _ Ap)

theorem uq (v : Val) (Hp : List AObj) : AFun Tryz.prog 266 [Nz v] Hp (A4 (Ow v)) := by
 refine ACall.body [.cell 2 45] [0] Tryz.func266 Tryz.ntmps266 (fun d => ?_)
 refine Z2 ?_;refine Ju ?_;refine R.fin [1, 2] ?_;refine Z2 ?_;refine ga ?_;refine R.wk 4 _ (Uu 1 [] v) ?_;refine Z13 ?_;exact K.fin (V.one (V.cellN jA jS)) ⟨rfl, rfl⟩ (hlow := Ad _ (Ow v))

theorem ur (l : List Tok) (S : PS) (s : Str) (o : Nat) (Hp : List AObj) (ho : Hp[o]? = some (pr l S)) (hi : S.i < l.length) (hll : l.length ≤ 1048576) : ACall Tryz.prog 268 [.ptr o 0, A6 s] Hp (fun r H' => r = .v (.tuple #[]) ∧ H' = Hp.set o (pr l (Db l s S))) := by
 refine ACall.body [] [0, 1] Tryz.func268 Tryz.ntmps268 (fun d => ?_)
 refine Z54 ?_
 refine R.gw (h := Q.loadUp ho) (hr := ?_)
 refine R.go ?_;refine R.fin [0, 1, 10] ?_
 refine W.cond (fun ht10 => ?_) (fun ht10 => ?_)
 ·have e : Db l s S = S := if_pos ht10
  refine Z43 ?_;exact K.fin .nores (hp := ⟨rfl, by rw [e]; exact (Du ho).symm⟩)
 have e0 : ¬ (S.code != 0) = true := by rw [ht10]; simp
 refine Z99 ?_;refine R.call Tryz.call258 (uo l S o _ (A5 ho) hi) ?_;refine Z21 ?_;refine R.fin [0, 1, 4] ?_;refine Z1 ?_;refine Z62 ?_;refine R.go ?_;refine R.fin [0, 4, 21] ?_
 refine W.cond (fun ht21 => ?_) (fun ht21 => ?_)
 ·have e : Db l s S = Cg 8 (A7 l S.i).at_ S := by unfold Db; rw [if_neg e0, if_pos ht21]
  refine sh ?_;refine R.fin [] ?_;refine Z43 ?_;exact K.fin .nores (hp := ⟨rfl, by rw [e]⟩)
 have e : Db l s S = A9 S := by unfold Db; rw [if_neg e0, if_neg (by rw [ht21]; simp)]
 refine Z5 ?_;refine Z30 ?_
 refine R.gw (h := Q.loadUp ho) (hr := ?_)
 refine Z24 ?_
 refine R.storeUp jS ho ?_ ?_
 ·simp
 refine R.fin [] ?_;exact K.finN .nores (hp := ⟨rfl, by rw [e]; rfl⟩)

/-- The contract of one of the parser's functions. -/
def PC (g : FuncId) (l : List Tok) (f : PS → Expr × PS) (n : Nat) : Prop := ∀ (o : Nat) (Hp : List AObj) (S : PS), Hp[o]? = some (pr l S) → S.i < l.length → S.nest = n → ACall Tryz.prog g [.ptr o 0] Hp (fun r H' => r = A4 (f S).1 ∧ H' = Hp.set o (pr l (f S).2))
abbrev Gx : AObj := .cells 45 [A2 0, A6 [], A2 0, A2 0, A6 [], .nil]
theorem Yw {n : Nat} : ObjLow n Gx := by
 show ∀ y ∈ [A2 0, A6 [], A2 0, A2 0, A6 [], AV.nil], Low n y
 simp
theorem mi {n : Nat} (e : Expr) : ObjLow n (.cells 45 (C0 e)) := by
 have h := Ad n e
 rw [Ab] at h
 show ∀ y ∈ C0 e, Low n y
 intro y hy
 cases h with
 | agg _ h => exact h y hy
theorem mj (l : List Tok) (S : PS) (a : Int) (g : FuncId) (first caps : List AV) (x : Expr) (S2 : PS) (o : Nat) (Hp Hx : List AObj) (ho : Hp[o]? = some (pr l S)) (hnl : S.nest ≤ 1048576) (hgc : ∀ args w, (callFunc g args).run Tryz.prog w = .ok (.enter g args) w) (hxl : Hx.length = Hp.length) (hxo : Hx[o]? = some (pr l S2)) (hn2 : S2.nest = S.nest + 1) (hlow : (∀ y ∈ Hp.set o (pr l (Br S)), ObjLow Hp.length y) → ∀ y ∈ Hx, ObjLow Hp.length y) (hcf : S.nest ≠ 30 → ∀ own, ACall Tryz.prog g (first ++ caps) (Hp.set o (pr l (Br S)) ++ own) (fun y H' => y = A4 x ∧ H' = Hx ++ own)) : ACall Tryz.prog 260 [.ptr o 0, A2 a, .fn (.func g) first caps] Hp (fun r H' => (S.nest = 30 → r = A4 Ap ∧ H' = Hp.set o (pr l (Cg 18 a S))) ∧ (S.nest ≠ 30 → r = A4 x ∧ H' = Hx.set o (pr l (Qv S2)))) := by
 refine ACall.body [.cell 6 45] [0, 1, 2] Tryz.func260 Tryz.ntmps260 (fun d => ?_)
 refine Z33 ?_;refine Wh ?_;refine Z36 ?_
 refine R.gw (h := Q.loadUp ho) (hr := ?_)
 refine R.go ?_;refine R.fin [0, 1, 2, 6, 12] ?_
 refine W.cond (fun ht12 => ?_) (fun ht12 => ?_)
 ·have hn30 : S.nest = 30 := by have := ht12; simp at this; omega
  refine Z1 ?_;refine R.callUp Tryz.call221 ho (by simp) Bk (cn l S 18 a o _ (A5 ho)) ?_;refine En ?_;refine fg ?_;exact K.fin (V.one (V.cellN jA jS)) ⟨fun _ => ⟨by rw [Ab], rfl⟩, fun h => absurd hn30 h⟩ (hlow := by have := Ad Hp.length Ap; rw [Ab] at this; simpa using this)
 have hn30 : S.nest ≠ 30 := by have := ht12; simp at this; omega
 refine Z85 ?_
 refine R.gw (h := Q.loadUp ho) (hr := ?_)
 refine Z24 ?_
 refine R.storeUp jS ho ?_ ?_
 ·simp
 refine R.fin [0, 2, 6] ?_;refine Z2 ?_
 refine R.callVX (up' := Hx) (own' := [Gx]) hgc (hcf hn30 [Gx]) (by simpa using hxl) (by rw [List.length_set]; exact hlow) ?_
 rw [← hxl]
 refine Z21 ?_;refine R.fin [0, 6, 7] ?_;refine Z20 ?_
 refine R.gw (h := Q.loadUp hxo) (hr := ?_)
 refine Z24 ?_
 refine R.storeUp jS hxo ?_ ?_
 ·simp
 refine R.fin [6, 7] ?_;refine Z2 ?_;refine En ?_;refine Z88 ?_;exact K.fin (V.one (V.cellN jA jS)) ⟨fun h => absurd h hn30, fun _ => ⟨by rw [Ab], by rw [show ((S2.nest : Int) - 1) = ((Qv S2).nest : Int) by show _ = ((S2.nest - 1 : Nat) : Int); omega]; rfl⟩⟩ (hlow := by have := Ad Hx.length x; rw [Ab] at this; simpa using this)

theorem co (t : Str) (a b : Expr) : C0 (K4 t a b) = [A2 5, .v (sv t), A2 0, A2 0, A6 [], .slice false 6 [A4 a, A4 b]] := rfl
theorem ml {n : Nat} (t : Str) (a b : Expr) : ObjLow n (.cells 45 [A2 5, .v (sv t), A2 0, A2 0, A6 [], .slice false 6 [A4 a, A4 b]]) := mi (K4 t a b)
theorem mm {n : Nat} {U : List AObj} {i : Nat} {x : AObj} (h : ∀ y ∈ U, ObjLow n y) (hx : ObjLow n x) : ∀ y ∈ U.set i x, ObjLow n y := by
 intro y hy
 rcases List.mem_or_eq_of_mem_set hy with h1 | h1
 ·exact h y h1
 rw [h1]; exact hx
/-- within, with a method's value. -/
theorem j6 {g : FuncId} (hgc : ∀ args w, (callFunc g args).run Tryz.prog w = .ok (.enter g args) w) (l : List Tok) (S : PS) (a : Int) (f : PS → Expr × PS) (o : Nat) (Hp : List AObj) (ho : Hp[o]? = some (pr l S)) (hi : S.i < l.length) (hnl : S.nest ≤ 30) (hf : S.nest ≠ 30 → Cn l (S.nest + 1) f) (hcf : S.nest ≠ 30 → PC g l f (S.nest + 1)) :
  ACall Tryz.prog 260 [.ptr o 0, A2 a, .fn (.func g) [.ptr o 0] []] Hp (fun r H' => r = A4 (Ba a f S).1 ∧ H' = Hp.set o (pr l (Ba a f S).2)) := by
 have hlt := (List.getElem?_eq_some_iff.1 ho).1
 by_cases h30 : S.nest = 30
 ·refine (mj l S a g [.ptr o 0] [] Ap (Br S) o Hp (Hp.set o (pr l (Br S))) ho (by omega) hgc (by simp) (by simp [hlt]) rfl (fun h => h) (fun h => absurd h30 h)).mono fun r H' h => ?_
  have e : Ba a f S = (Ap, Cg 18 a S) := if_pos (by rw [h30]; rfl)
  rw [e]
  exact h.1 h30
 have hq := hf h30 (Br S) hi rfl
 refine (mj l S a g [.ptr o 0] [] (f (Br S)).1 (f (Br S)).2 o Hp (Hp.set o (pr l (f (Br S)).2)) ho (by omega) hgc (by simp) (by simp [hlt]) hq.nest (fun h y hy => ?_) (fun _ own => ?_)).mono fun r H' h => ?_
 ·rcases List.mem_or_eq_of_mem_set hy with h1 | h1
  ·obtain ⟨i, hi', rfl⟩ := List.getElem_of_mem h1
   by_cases hio : i = o
   ·subst hio
    have : Hp[i] = pr l S := by rw [List.getElem?_eq_getElem hi'] at ho; injection ho
    rw [this]; exact Bk
   refine h _ ?_
   rw [List.mem_iff_getElem?]
   exact ⟨i, by rw [List.getElem?_set_ne (Ne.symm hio), List.getElem?_eq_getElem hi']⟩
  rw [h1]; exact Bk
 ·have hg : (Hp.set o (pr l (Br S)) ++ own)[o]? = some (pr l (Br S)) := A5 (by simp [hlt])
  refine (hcf h30 o (Hp.set o (pr l (Br S)) ++ own) (Br S) hg hi rfl).mono fun r H' h => ⟨h.1, h.2.trans ?_⟩
  rw [List.set_append_left _ _ (by simpa using hlt), List.set_set]
 have e : Ba a f S = ((f (Br S)).1, Qv (f (Br S)).2) := if_neg (by
  show ¬ (((S.nest : Int) == 30) = true)
  simp
  omega)
 rw [e]
 obtain ⟨h1, h2⟩ := h.2 h30
 exact ⟨h1, by rw [h2, List.set_set]⟩
theorem mn {g : FuncId} (hgc : ∀ args w, (callFunc g args).run Tryz.prog w = .ok (.enter g args) w) (l : List Tok) (S : PS) (of : Str) (hof : of.length ≤ 1048576) (f : PS → Expr × PS) (o : Nat) (Hp : List AObj) (ho : Hp[o]? = some (pr l S)) (hi : S.i < l.length) (hl : TokEnd l) (hll : l.length ≤ 1048576) (hf : Cn l S.nest f) (hcf : PC g l f S.nest) : ACall Tryz.prog 238 [.ptr o 0, A6 of, .fn (.func g) [.ptr o 0] []] Hp (fun r H' => r = A4 (Dn l of f S).1 ∧ H' = Hp.set o (pr l (Dn l of f S).2)) := by
 have holt := (List.getElem?_eq_some_iff.1 ho).1
 refine ACall.body [.cell 6 45] [0, 1, 2] Tryz.func238 Tryz.ntmps238 (fun d => ?_)
 refine Z33 ?_;refine Wh ?_;refine Z2 ?_;refine R.callVUp hgc ho (by simp) Bk (hcf o _ S (A5 ho) hi rfl) ?_;refine Z21 ?_;refine R.fin [0, 1, 2, 6, 7] ?_;refine W.seq ?_
 refine AW.loopC (α := Expr × PS) (fun r => ⟨32, A3 0 (.ptr o 0) (A3 1 (A6 of) (A3 2 (.fn (.func g) [.ptr o 0] []) (A3 6 (.ptr (oid Hp.length 0) 0) (A3 7 (.ptr (oid Hp.length 1) 0) (fun _ => .any))))), Hp.set o (pr l r.2), [.cells 45 [A2 0, A6 [], A2 0, A2 0, A6 [], .nil], .cells 45 (C0 r.1)], [], none⟩) (fun r => LeftAt l of f S r) (fun r => l.length - r.2.i) (f S) (.start (hf S hi rfl)) (StLe.of_eq (by simp)) rfl (fun r hx => ?_)
 refine Z54 ?_
 refine R.gw (h := Q.loadUp (getset ho)) (hr := ?_)
 refine Z25 ?_;refine G.call Tryz.call249 (fun hB => Uv l r.2 of o _ (A5 (getset ho)) hx.fact.lt hl hof) ?_;refine R.go ?_;refine R.fin [0, 1, 2, 6, 7, 21] ?_
 refine W.cond (fun ht21 => ?_) (fun ht21 => ?_)
 ·have hon := hx.on hl ht21 hf
  have hle := hon.2.1.le
  have hlt0 := hx.fact.lt
  have hU1 : (Hp.set o (pr l r.2)).set o (pr l (A9 r.2)) = Hp.set o (pr l (A9 r.2)) := List.set_set ..
  refine Z5 ?_;refine AW.block ?_;refine Z2 ?_;refine R.callUp Tryz.call250 (getset ho) (by simp) Bk (j5 l r.2 o _ (A5 (getset ho)) hx.fact.lt hll) ?_;refine Z21 ?_;refine R.fin [0, 1, 2, 6, 7, 8] ?_;refine W.drawY0 [0, 1, 0, 0, 8, 28, 63, 127] [4] [.q 4 [] [], .s [28] (some 0) [] [], .q 1 [0] []] (fun B => Hp.set o (if B 0 = true then pr l (f (A9 r.2)).2 else pr l (A9 r.2))) (fun _ => [.cells 45 [A2 0, A6 [], A2 0, A2 0, A6 [], .nil], .cells 45 (C0 r.1), .cells 125 [A2 (A7 l r.2.i).kind, A6 (A7 l r.2.i).text, A2 (A7 l r.2.i).at_]]) Aa (by kernel_rfl) (by simp [List.set_set]) rfl (fun B => by simp) ?_
  apply Y.q
  case h1 =>
   intro B hT hF
   exact fh
  case hTF => decide
  refine Y.callVUp (r := A4 (f (A9 r.2)).1) (o := o) (x0 := pr l (A9 r.2)) (x := pr l (f (A9 r.2)).2) hgc (fun B hT hF hB => ⟨by simp only [hB]; exact getset ho, by simp [upd], rfl, Bk, ?_⟩) ?_
  ·simp only [hB]
   exact hcf o _ (A9 r.2) (A5 (getset ho)) hon.1 hx.fact.nest
  apply Y.q
  case h1 =>
   intro B hT hF
   exact Z49
  case hTF => decide
  refine Y.tail (tn := [4]) (U := Hp.set o (pr l (f (A9 r.2)).2)) ?_;refine si ?_;refine R.fin [0, 1, 2, 6, 7] ?_;refine K.blN ?_
  refine K.lpN (K4 (A7 l r.2.i).text r.1 (f (A9 r.2)).1, (f (A9 r.2)).2) hon.2.2 (by show l.length - (f (A9 r.2)).2.i < l.length - r.2.i; have : r.2.i + 1 ≤ (f (A9 r.2)).2.i := hle; omega) ?_
  simp only [co]
  have hlow2 := fun n => ml (n := n) (A7 l r.2.i).text r.1 (f (A9 r.2)).1
  simp only [Ab] at hlow2 ⊢
  exact StCut.take (fun _ => .refl _) (by repeat (first | exact At | refine As (by simp [oid] <;> omega) ?_)) (by intro y hy; rcases List.mem_cons.1 hy with rfl | hy; exact Yw; rw [List.mem_singleton.1 hy]; exact hlow2 _) (by simp)
 have hout := hx.out (by rw [ht21]; simp)
 refine Z42 ?_;refine Z2 ?_;refine En ?_;refine Z88 ?_;exact K.fin (V.one (V.cellN jA jS)) ⟨by rw [hout, Ab], by rw [hout]⟩ (hlow := by have := Ad (Hp.set o (pr l r.2)).length r.1; rw [Ab] at this; simpa using this)

theorem xf (l : List Tok) (S : PS) (f : PS → Expr × PS) (o : Nat) (Hp : List AObj) (ho : Hp[o]? = some (pr l S)) (hi : S.i < l.length) (hl : TokEnd l) (hll : l.length ≤ 1048576) (hf : Cn l S.nest f) (hcf : PC 239 l f S.nest) : ACall Tryz.prog 219 [.ptr o 0] Hp (fun r H' => r = A4 (Dn l orT f S).1 ∧ H' = Hp.set o (pr l (Dn l orT f S).2)) := by
 refine ACall.body [.cell 2 45] [0] Tryz.func219 Tryz.ntmps219 (fun d => ?_)
 refine Z60 ?_;refine Z1 ?_;refine Ja ?_;refine R.callUp Tryz.call238 ho (by simp) Bk (mn Tryz.call239 l S orT (by decide) f o _ (A5 ho) hi hl hll hf hcf) ?_;refine Z13 ?_;exact K.fin (V.one (V.cellN jA jS)) ⟨by rw [Ab], rfl⟩ (hlow := by have := Ad Hp.length (Dn l orT f S).1; rw [Ab] at this; simpa using this)

theorem xg (l : List Tok) (S : PS) (f : PS → Expr × PS) (o : Nat) (Hp : List AObj) (ho : Hp[o]? = some (pr l S)) (hi : S.i < l.length) (hl : TokEnd l) (hll : l.length ≤ 1048576) (hf : Cn l S.nest f) (hcf : PC 251 l f S.nest) : ACall Tryz.prog 239 [.ptr o 0] Hp (fun r H' => r = A4 (Dn l cj f S).1 ∧ H' = Hp.set o (pr l (Dn l cj f S).2)) := by
 refine ACall.body [.cell 2 45] [0] Tryz.func239 Tryz.ntmps239 (fun d => ?_)
 refine Z60 ?_;refine Z1 ?_;refine Ja ?_;refine R.callUp Tryz.call238 ho (by simp) Bk (mn Tryz.call251 l S cj (by decide) f o _ (A5 ho) hi hl hll hf hcf) ?_;refine Z13 ?_;exact K.fin (V.one (V.cellN jA jS)) ⟨by rw [Ab], rfl⟩ (hlow := by have := Ad Hp.length (Dn l cj f S).1; rw [Ab] at this; simpa using this)

theorem xh (l : List Tok) (S : PS) (f : PS → Expr × PS) (o : Nat) (Hp : List AObj) (ho : Hp[o]? = some (pr l S)) (hi : S.i < l.length) (hl : TokEnd l) (hll : l.length ≤ 1048576) (hf : Cn l S.nest f) (hcf : PC 263 l f S.nest) : ACall Tryz.prog 262 [.ptr o 0] Hp (fun r H' => r = A4 (Dn l ck f S).1 ∧ H' = Hp.set o (pr l (Dn l ck f S).2)) := by
 refine ACall.body [.cell 2 45] [0] Tryz.func262 Tryz.ntmps262 (fun d => ?_)
 refine Z60 ?_;refine Z1 ?_;refine Ja ?_;refine R.callUp Tryz.call238 ho (by simp) Bk (mn Tryz.call263 l S ck (by decide) f o _ (A5 ho) hi hl hll hf hcf) ?_;refine Z13 ?_;exact K.fin (V.one (V.cellN jA jS)) ⟨by rw [Ab], rfl⟩ (hlow := by have := Ad Hp.length (Dn l ck f S).1; rw [Ab] at this; simpa using this)

theorem xi (l : List Tok) (S : PS) (f : PS → Expr × PS) (o : Nat) (Hp : List AObj) (ho : Hp[o]? = some (pr l S)) (hi : S.i < l.length) (hl : TokEnd l) (hll : l.length ≤ 1048576) (hf : Cn l S.nest f) (hcf : PC 264 l f S.nest) : ACall Tryz.prog 263 [.ptr o 0] Hp (fun r H' => r = A4 (Dn l Qx f S).1 ∧ H' = Hp.set o (pr l (Dn l Qx f S).2)) := by
 refine ACall.body [.cell 2 45] [0] Tryz.func263 Tryz.ntmps263 (fun d => ?_)
 refine Z60 ?_;refine Z1 ?_;refine Ja ?_;refine R.callUp Tryz.call238 ho (by simp) Bk (mn Tryz.call264 l S Qx (by decide) f o _ (A5 ho) hi hl hll hf hcf) ?_;refine Z13 ?_;exact K.fin (V.one (V.cellN jA jS)) ⟨by rw [Ab], rfl⟩ (hlow := by have := Ad Hp.length (Dn l Qx f S).1; rw [Ab] at this; simpa using this)

/-- What is so of the functions one nest deeper. -/
structure DeepC (l : List Tok) (Dv : Fam) (n : Nat) : Prop where
 ei : n ≠ 30 → Cn l (n + 1) Dv.ei ∧ PC 219 l Dv.ei (n + 1)
 no : n ≠ 30 → Cn l (n + 1) Dv.no ∧ PC 251 l Dv.no (n + 1)
 ne : n ≠ 30 → Cn l (n + 1) Dv.ne ∧ PC 264 l Dv.ne (n + 1)
theorem Nc (op : Int) (x : Expr) : A4 (L0 op x) = .agg [A2 op, A6 [], A2 0, A2 0, A6 [], .slice false 6 [A4 x]] := by rw [Ab]; rfl
theorem Yx (t : Str) (a b : Expr) : A4 (K4 t a b) = .agg [A2 5, .v (sv t), A2 0, A2 0, A6 [], .slice false 6 [A4 a, A4 b]] := by rw [Ab]; rfl
theorem low_agg {n : Nat} (e : Expr) : Low n (.agg [.v (.int .i64 e.op), .v (sv e.text), .v (.int .i64 e.val.kind), .v (.int .i64 e.val.n), .v (sv e.val.s), .slice false 6 (e.kids.map A4)]) := by
 have := Ad n e
 rwa [Ab] at this
theorem xj (l : List Tok) (S : PS) (Dv : Fam) (o : Nat) (Hp : List AObj) (ho : Hp[o]? = some (pr l S)) (hi : S.i < l.length) (hl : TokEnd l) (hll : l.length ≤ 1048576) (hnl : S.nest ≤ 30) (hd : DeepC l Dv S.nest) (hc : PC 265 l (E3 l Dv) S.nest) : ACall Tryz.prog 264 [.ptr o 0] Hp (fun r H' => r = A4 (N4 l Dv S).1 ∧ H' = Hp.set o (pr l (N4 l Dv S).2)) := by
 refine ACall.body [.cell 2 45] [0] Tryz.func264 Tryz.ntmps264 (fun d => ?_)
 refine Z60 ?_;refine Z32 ?_;refine R.call Tryz.call249 (Uv l S qv o _ (A5 ho) hi hl (by decide)) ?_;refine R.go ?_;refine R.fin [0, 2, 6] ?_
 refine W.cond (fun ht6 => ?_) (fun ht6 => ?_)
 ·have e : N4 l Dv S = E3 l Dv S := if_pos ht6
  refine Z2 ?_;refine R.callUp Tryz.call265 ho (by simp) Bk (hc o _ S (A5 ho) hi rfl) ?_;refine Z13 ?_;exact Z74
 have his : isM l qv S = true := by simpa using ht6
 have hi1 : (A9 S).i < l.length := hl.stepIs hi his
 have e : N4 l Dv S = (L0 3 (Ba (A7 l S.i).at_ Dv.ne (A9 S)).1, (Ba (A7 l S.i).at_ Dv.ne (A9 S)).2) := if_neg (by rw [ht6]; simp)
 refine Z5 ?_;refine Z63 ?_;refine Tq ?_;refine Z45 ?_;refine Ja ?_;refine R.callUp Tryz.call260 (getset ho) (by simp) Bk (j6 Tryz.call264 l (A9 S) (A7 l S.i).at_ Dv.ne o _ (A5 (getset ho)) hi1 hnl (fun h => (hd.ne h).1) (fun h => (hd.ne h).2)) ?_;refine Hw ?_;refine p9 ?_;exact K.fin (V.one (V.cellN jA jS)) ⟨by rw [e, Nc]; simp only [Ab], by rw [e, List.set_set]⟩ (hlow := by have := Ad Hp.length (L0 3 (Ba (A7 l S.i).at_ Dv.ne (A9 S)).1); rw [Nc] at this; simp only [Ab] at this; simpa only [List.length_set] using this)

theorem xk (l : List Tok) (S : PS) (Dv : Fam) (o : Nat) (Hp : List AObj) (ho : Hp[o]? = some (pr l S)) (hi : S.i < l.length) (hl : TokEnd l) (hll : l.length ≤ 1048576) (hnl : S.nest ≤ 30) (hd : DeepC l Dv S.nest) (hc : PC 259 l (Dc l Dv) S.nest) : ACall Tryz.prog 251 [.ptr o 0] Hp (fun r H' => r = A4 (N5 l Dv S).1 ∧ H' = Hp.set o (pr l (N5 l Dv S).2)) := by
 refine ACall.body [.cell 2 45] [0] Tryz.func251 Tryz.ntmps251 (fun d => ?_)
 refine Z60 ?_;refine Z32 ?_;refine R.call Tryz.call249 (Uv l S qu o _ (A5 ho) hi hl (by decide)) ?_;refine R.go ?_;refine R.fin [0, 2, 6] ?_
 refine W.cond (fun ht6 => ?_) (fun ht6 => ?_)
 ·have e : N5 l Dv S = Dc l Dv S := if_pos ht6
  refine Z2 ?_;refine R.callUp Tryz.call259 ho (by simp) Bk (hc o _ S (A5 ho) hi rfl) ?_;refine Z13 ?_;exact Z74
 have his : isM l qu S = true := by simpa using ht6
 have hi1 : (A9 S).i < l.length := hl.stepIs hi his
 have e : N5 l Dv S = (L0 4 (Ba (A7 l S.i).at_ Dv.no (A9 S)).1, (Ba (A7 l S.i).at_ Dv.no (A9 S)).2) := if_neg (by rw [ht6]; simp)
 refine Z5 ?_;refine Z63 ?_;refine Tq ?_;refine Z45 ?_;refine Ja ?_;refine R.callUp Tryz.call260 (getset ho) (by simp) Bk (j6 Tryz.call251 l (A9 S) (A7 l S.i).at_ Dv.no o _ (A5 (getset ho)) hi1 hnl (fun h => (hd.no h).1) (fun h => (hd.no h).2)) ?_;refine Hw ?_;refine p9 ?_;exact K.fin (V.one (V.cellN jA jS)) ⟨by rw [e, Nc]; simp only [Ab], by rw [e, List.set_set]⟩ (hlow := by have := Ad Hp.length (L0 4 (Ba (A7 l S.i).at_ Dv.no (A9 S)).1); rw [Nc] at this; simp only [Ab] at this; simpa only [List.length_set] using this)

theorem xl (l : List Tok) (S : PS) (Dv : Fam) (o : Nat) (Hp : List AObj) (ho : Hp[o]? = some (pr l S)) (hi : S.i < l.length) (hl : TokEnd l) (hll : l.length ≤ 1048576) (hnl : S.nest ≤ 30) (hd : DeepC l Dv S.nest) (hg : Cn l S.nest (Cm l Dv)) (hc : PC 262 l (Cm l Dv) S.nest) : ACall Tryz.prog 259 [.ptr o 0] Hp (fun r H' => r = A4 (Dc l Dv S).1 ∧ H' = Hp.set o (pr l (Dc l Dv S).2)) := by
 have hq := hg S hi rfl
 refine ACall.body [.cell 2 45] [0] Tryz.func259 Tryz.ntmps259 (fun d => ?_)
 refine Z60 ?_;refine Z2 ?_;refine R.callUp Tryz.call262 ho (by simp) Bk (hc o _ S (A5 ho) hi rfl) ?_;refine Tq ?_;refine Z54 ?_
 refine R.gw (h := Q.loadUp (getset ho)) (hr := ?_)
 refine Jt ?_;refine G.call Tryz.call249 (fun hB => Uv l (Cm l Dv S).2 mh o _ (A5 (getset ho)) hq.lt hl (by decide)) ?_;refine Z68 ?_;refine R.fin [0, 2, 3, 17] ?_
 refine W.cond (fun ht17 => ?_) (fun ht17 => ?_)
 ·have e : Dc l Dv S = Cm l Dv S := if_pos ht17
  refine Z2 ?_;refine Z13 ?_;exact Z74
 have his : isM l mh (Cm l Dv S).2 = true := by
  have := ht17
  simp only [Bool.or_eq_false_iff, Bool.not_eq_false'] at this
  exact this.2
 have hi1 : (A9 (Cm l Dv S).2).i < l.length := hl.stepIs hq.lt his
 have e : Dc l Dv S = (K4 (A7 l (Cm l Dv S).2.i).text (Cm l Dv S).1 (Cm l Dv (A9 (Cm l Dv S).2)).1, (Cm l Dv (A9 (Cm l Dv S).2)).2) := if_neg (by rw [ht17]; simp)
 refine Kl ?_;refine R.callUp Tryz.call250 (getset ho) (by simp) Bk (j5 l (Cm l Dv S).2 o _ (A5 (getset ho)) hq.lt hll) ?_;refine Z21 ?_;refine R.fin [0, 2, 3, 4] ?_;refine W.drawY [0, 1, 0, 0, 8, 28, 63, 127] [4] [.q 4 [] [], .s [25] (some 0) [] [], .q 1 [0] []] (fun B => Hp.set o (if B 0 = true then pr l (Cm l Dv (A9 (Cm l Dv S).2)).2 else pr l (A9 (Cm l Dv S).2))) (fun _ => [.cells 45 [A2 0, A6 [], A2 0, A2 0, A6 [], .nil], .cells 45 (C0 (Cm l Dv S).1), .cells 125 [A2 (A7 l (Cm l Dv S).2.i).kind, A6 (A7 l (Cm l Dv S).2.i).text, A2 (A7 l (Cm l Dv S).2.i).at_]]) Aa (by kernel_rfl) (by simp [List.set_set]) rfl (fun B => by simp) ?_
 apply Y.q
 case h1 =>
  intro B hT hF
  exact fh
 case hTF => decide
 refine Y.callUp (r := A4 (Cm l Dv (A9 (Cm l Dv S).2)).1) (o := o) (x0 := pr l (A9 (Cm l Dv S).2)) (x := pr l (Cm l Dv (A9 (Cm l Dv S).2)).2) Tryz.call262 (fun B hT hF hB => ⟨by simp only [hB]; exact getset ho, by simp [upd], rfl, Bk, ?_⟩) ?_
 ·simp only [hB]
  exact hc o _ (A9 (Cm l Dv S).2) (A5 (getset ho)) hi1 hq.nest
 apply Y.q
 case h1 =>
  intro B hT hF
  exact Z49
 case hTF => decide
 refine Y.tail (tn := [4]) (U := Hp.set o (pr l (Cm l Dv (A9 (Cm l Dv S).2)).2)) ?_;refine p9 ?_;exact K.fin (V.one (V.cellN jA jS)) ⟨by rw [e, Yx]; simp only [Ab], by rw [e]⟩ (hlow := by have := Ad Hp.length (K4 (A7 l (Cm l Dv S).2.i).text (Cm l Dv S).1 (Cm l Dv (A9 (Cm l Dv S).2)).1); rw [Yx] at this; simp only [Ab] at this; simpa only [List.length_set] using this)

/-- The contract of the parser of calls. -/
def Uw (l : List Tok) (Dv : Fam) (n : Nat) : Prop := ∀ (o : Nat) (Hp : List AObj) (S : PS) (t : Tok), Hp[o]? = some (pr l S) → (A9 S).i < l.length → S.nest = n → t.text.length ≤ 1048576 → isM l opT S = true → ACall Tryz.prog 267 [.ptr o 0, Fw t] Hp (fun r H' => r = A4 (Ey l Dv t S).1 ∧ H' = Hp.set o (pr l (Ey l Dv t S).2))
theorem j7 : A4 Ap = .agg [A2 0, A6 [], A2 0, A2 0, A6 [], .slice false 6 []] := by rw [Ab]; rfl
theorem xm (l : List Tok) (S : PS) (Dv : Fam) (o : Nat) (Hp : List AObj) (ho : Hp[o]? = some (pr l S)) (hi : S.i < l.length) (hl : TokEnd l) (hll : l.length ≤ 1048576) (hnl : S.nest ≤ 30) (hd : DeepC l Dv S.nest) (hcl : Uw l Dv S.nest) : ACall Tryz.prog 265 [.ptr o 0] Hp (fun r H' => r = A4 (E3 l Dv S).1 ∧ H' = Hp.set o (pr l (E3 l Dv S).2)) := by
 refine ACall.body [.cell 2 45] [0] Tryz.func265 Tryz.ntmps265 (fun d => ?_)
 refine Z60 ?_;refine pj ?_;refine Tq ?_;refine Z54 ?_
 refine R.gw (h := Q.loadUp ho) (hr := ?_)
 refine R.go ?_;refine R.fin [0, 2, 3, 14] ?_
 refine W.cond (fun ht14 => ?_) (fun ht14 => ?_)
 ·have e : E3 l Dv S = (Ap, S) := if_pos ht14
  refine oy ?_;refine R.wk 15 _ P0 ?_;refine Z13 ?_;refine K.thR ?_;exact K.fin (V.one (V.cellN jA jS)) ⟨by rw [e, Ab], by rw [e]; exact (Du ho).symm⟩ (hlow := by have := Ad Hp.length (Ap); simpa only [Ab, List.length_set] using this)
 have e0 : ¬ (S.code != 0) = true := by rw [ht14]; simp
 refine Z39 ?_;refine Z45 ?_;refine G.go ?_;refine G.call Tryz.call249 (fun hB => Uv l S qw o _ (A5 ho) hi hl (by decide)) ?_;refine Z0 ?_;refine R.fin [0, 2, 3, 16] ?_
 refine W.cond (fun ht16 => ?_) (fun ht16 => ?_)
 ·have e : E3 l Dv S = (Ow (Eo (A7 l S.i).text).1, A9 S) := by unfold E3; rw [if_neg e0, if_pos ht16]
  refine Z63 ?_;refine R.go ?_;refine R.call Tryz.call175 (c175 (A7 l S.i).text (hl.text _) _) ?_;refine Z24 ?_;refine Z21 ?_;refine R.go ?_;refine R.fin [2, 4] ?_;refine Z2 ?_;refine R.call Tryz.call266 (uq (Eo (A7 l S.i).text).1 _) ?_;refine Z13 ?_;refine Z6 ?_;exact K.fin (V.one (V.cellN jA jS)) ⟨by rw [e, Ab], by rw [e]⟩ (hlow := by have := Ad Hp.length (Ow (Eo (A7 l S.i).text).1); simpa only [Ab, List.length_set] using this)
 have e1 : ¬ (((A7 l S.i).kind == 3) || isM l qw S) = true := by rw [ht16]; simp
 refine Z45 ?_;refine R.fin [0, 2, 3, 33] ?_
 refine W.cond (fun ht33 => ?_) (fun ht33 => ?_)
 ·have e : E3 l Dv S = (Ow ⟨2, 0, (A7 l S.i).text.take 200⟩, A9 S) := by unfold E3; rw [if_neg e0, if_neg e1, if_pos ht33]
  refine Z63 ?_;refine R.go ?_;refine R.call Tryz.call213 (c213 (A7 l S.i).text _) ?_;refine R.call Tryz.call266 (uq ⟨2, 0, (A7 l S.i).text.take 200⟩ _) ?_;refine Z13 ?_;refine Z6 ?_;exact K.fin (V.one (V.cellN jA jS)) ⟨by rw [e, Ab], by rw [e]⟩ (hlow := by have := Ad Hp.length (Ow ⟨2, 0, (A7 l S.i).text.take 200⟩); simpa only [Ab, List.length_set] using this)
 have e2 : ¬ ((A7 l S.i).kind == 4) = true := by rw [ht33]; simp
 refine Z45 ?_;refine R.fin [0, 2, 3, 42] ?_
 refine W.cond (fun ht42 => ?_) (fun ht42 => ?_)
 ·have hi1 : (A9 S).i < l.length := hl.step hi (by rw [beq_iff_eq] at ht42; rw [ht42]; decide)
  refine Z63 ?_;refine R.fin [0, 2, 3] ?_;refine Z32 ?_;refine R.call Tryz.call249 (Uv l (A9 S) opT o _ (A5 (getset ho)) hi1 hl (by decide)) ?_;refine R.fin [0, 2, 3, 49] ?_
  refine W.cond (fun ht49 => ?_) (fun ht49 => ?_)
  ·have e : E3 l Dv S = Ey l Dv (A7 l S.i) (A9 S) := by unfold E3; rw [if_neg e0, if_neg e1, if_neg e2, if_pos ht42, if_pos ht49]
   have hi2 : (A9 (A9 S)).i < l.length := hl.stepIs hi1 ht49
   refine Z1 ?_;refine R.callUp Tryz.call267 (getset ho) (by simp) Bk (hcl o _ (A9 S) (A7 l S.i) (A5 (getset ho)) hi2 rfl (hl.text _) ht49) ?_;refine Z13 ?_;refine K.thR ?_;refine Z6 ?_;exact K.fin (V.one (V.cellN jA jS)) ⟨by rw [e, Ab], by rw [e, List.set_set]⟩ (hlow := by have := Ad Hp.length ((Ey l Dv (A7 l S.i) (A9 S)).1); simpa only [Ab, List.length_set] using this)
  have e : E3 l Dv S = (Bw (A7 l S.i).text, A9 S) := by unfold E3; rw [if_neg e0, if_neg e1, if_neg e2, if_pos ht42, if_neg (by rw [ht49]; simp)]
  refine Z5 ?_;refine p8 ?_;refine R.wk 55 _ (Ub _) ?_;refine Z13 ?_;refine Z6 ?_;exact K.fin (V.one (V.cellN jA jS)) ⟨by rw [e, Ab], by rw [e]⟩ (hlow := by have := Ad Hp.length (Bw (A7 l S.i).text); simpa only [Ab, List.length_set] using this)
 have e3 : ¬ ((A7 l S.i).kind == 1) = true := by rw [ht42]; simp
 refine Z2 ?_;refine R.call Tryz.call249 (Uv l S opT o _ (A5 ho) hi hl (by decide)) ?_;refine R.go ?_;refine R.fin [0, 2, 3, 56] ?_
 refine W.cond (fun ht56 => ?_) (fun ht56 => ?_)
 ·have e : E3 l Dv S = ((Ba (A7 l S.i).at_ Dv.ei (A9 S)).1, Db l D8 (Ba (A7 l S.i).at_ Dv.ei (A9 S)).2) := by unfold E3; rw [if_neg e0, if_neg e1, if_neg e2, if_neg e3, if_pos ht56]
  have hi1 : (A9 S).i < l.length := hl.stepIs hi ht56
  have hwf := Fx (S := A9 S) (l := l) (f := Dv.ei) (A7 l S.i).at_ hi1 (fun h => (hd.ei h).1)
  refine Z63 ?_;refine R.fin [0, 2, 3] ?_;refine Z45 ?_;refine Ja ?_;refine R.callUp Tryz.call260 (getset ho) (by simp) Bk (j6 Tryz.call219 l (A9 S) (A7 l S.i).at_ Dv.ei o _ (A5 (getset ho)) hi1 hnl (fun h => (hd.ei h).1) (fun h => (hd.ei h).2)) ?_;refine Z21 ?_;refine R.fin [0, 2, 6] ?_;refine Z2 ?_;refine R.callUp Tryz.call268 (getset (getset ho)) (by simp) Bk (ur l (Ba (A7 l S.i).at_ Dv.ei (A9 S)).2 D8 o _ (A5 (getset (getset ho))) hwf.lt hll) ?_;refine R.fin [2, 6] ?_;refine Z2 ?_;refine Z13 ?_;refine Z6 ?_;exact K.fin (V.one (V.cellN jA jS)) ⟨by rw [e, Ab], by rw [e, List.set_set, List.set_set]⟩ (hlow := by have := Ad Hp.length ((Ba (A7 l S.i).at_ Dv.ei (A9 S)).1); simpa only [Ab, List.length_set] using this)
 have e : E3 l Dv S = (Ap, Cg 8 (A7 l S.i).at_ S) := by unfold E3; rw [if_neg e0, if_neg e1, if_neg e2, if_neg e3, if_neg (by rw [ht56]; simp)]
 refine Z15 ?_;refine sh ?_;refine Z13 ?_;exact K.fin (V.one (V.cellN jA jS)) ⟨by rw [e, Ab], by rw [e]⟩ (hlow := by have := Ad Hp.length (Ap); simpa only [Ab, List.length_set] using this)

theorem mo {l : List Tok} (hl : TokEnd l) (hll : l.length ≤ 1048576) {d n : Nat} (h : n + (d + 1) = 31) (hp : n ≠ 30 → PC 219 l (D9 l d).ei (n + 1) ∧ PC 251 l (D9 l d).no (n + 1) ∧ PC 264 l (D9 l d).ne (n + 1)) : DeepC l (D9 l d) n := by
 have g : n ≠ 30 → _ := fun h30 => M2 hl hll d (n + 1) (by omega) (by omega)
 exact ⟨fun h => ⟨(g h).1, (hp h).1⟩, fun h => ⟨(g h).2.1, (hp h).2.1⟩, fun h => ⟨(g h).2.2, (hp h).2.2⟩⟩
/-- All functions of the parser. -/
theorem Ux {l : List Tok} (hl : TokEnd l) (hll : l.length ≤ 1048576) (hcl : ∀ n Dv, n ≤ 30 → DeepC l Dv n → Uw l Dv n) : ∀ (d n : Nat), n + d = 31 → n ≤ 30 → PC 219 l (D9 l d).ei n ∧ PC 251 l (D9 l d).no n ∧ PC 264 l (D9 l d).ne n
 | 0, n, h, hn => by omega
 | d + 1, n, h, hn => by
  have hd : DeepC l (D9 l d) n := mo hl hll h (fun h30 => Ux hl hll hcl d (n + 1) (by omega) (by omega))
  have g1 : Cn l n (N4 l (D9 l d)) := M1 hl hll (fun h => (hd.ei h).1) (fun h => (hd.ne h).1)
  have g2 : Cn l n (Up l (D9 l d)) := Eg hl g1
  have g3 : Cn l n (Cm l (D9 l d)) := Eg hl g2
  have g4 : Cn l n (Dc l (D9 l d)) := Jk hl hll (fun h => (hd.ei h).1) (fun h => (hd.ne h).1)
  have g5 : Cn l n (N5 l (D9 l d)) := R0 hl hll (fun h => (hd.ei h).1) (fun h => (hd.ne h).1) (fun h => (hd.no h).1)
  have g6 : Cn l n (Uq l (D9 l d)) := Eg hl g5
  have p0 : PC 265 l (E3 l (D9 l d)) n := fun o Hp S ho hi hS => by
   subst hS
   exact xm l S (D9 l d) o Hp ho hi hl hll hn hd (hcl _ _ hn hd)
  have p1 : PC 264 l (N4 l (D9 l d)) n := fun o Hp S ho hi hS => by
   subst hS
   exact xj l S (D9 l d) o Hp ho hi hl hll hn hd p0
  have p2 : PC 263 l (Up l (D9 l d)) n := fun o Hp S ho hi hS => by
   subst hS
   exact xi l S (N4 l (D9 l d)) o Hp ho hi hl hll g1 p1
  have p3 : PC 262 l (Cm l (D9 l d)) n := fun o Hp S ho hi hS => by
   subst hS
   exact xh l S (Up l (D9 l d)) o Hp ho hi hl hll g2 p2
  have p4 : PC 259 l (Dc l (D9 l d)) n := fun o Hp S ho hi hS => by
   subst hS
   exact xl l S (D9 l d) o Hp ho hi hl hll hn hd g3 p3
  have p5 : PC 251 l (N5 l (D9 l d)) n := fun o Hp S ho hi hS => by
   subst hS
   exact xk l S (D9 l d) o Hp ho hi hl hll hn hd p4
  have p6 : PC 239 l (Uq l (D9 l d)) n := fun o Hp S ho hi hS => by
   subst hS
   exact xg l S (N5 l (D9 l d)) o Hp ho hi hl hll g5 p5
  have p7 : PC 219 l (Na l (D9 l d)) n := fun o Hp S ho hi hS => by
   subst hS
   exact xf l S (Uq l (D9 l d)) o Hp ho hi hl hll g6 p6
  exact ⟨p7, p5, p1⟩
theorem R1 : ∀ (n : Nat) (e : Expr), okE n e → depthE e ≤ n
 | 0, _, h => h.elim
 | n + 1, e, h => by
  rw [Qo]
  have : ∀ l : List Expr, (∀ y ∈ l, okE n y) → Ch l ≤ n := by
   intro l
   induction l with
   | nil => intro _; exact Nat.zero_le _
   | cons y r ih =>
    intro hl
    rw [Ch]
    have h1 := R1 n y (hl y (by simp))
    have h2 := ih (fun z hz => hl z (by simp [hz]))
    omega
  have := this e.kids h.2.2
  omega
theorem j8 (e : Expr) (x : Nat) : B8 (e.kids.take x) + 1 ≤ sizeE e := by
 rw [Ig]
 have : ∀ (l : List Expr) (x : Nat), B8 (l.take x) ≤ B8 l := by
  intro l
  induction l with
  | nil => intro x; simp
  | cons y r ih =>
   intro x
   cases x with
   | zero => simp [B8]
   | succ x =>
    have := ih x
    rw [List.take_succ_cons, B8, B8]
    omega
 have := this e.kids x
 omega
theorem c78 : ∀ (n : Nat) (e : Expr), okE n e → n ≤ 1048576 → ∀ Hp : List AObj, AFun Tryz.prog 78 [A4 e] Hp (A2 (depthE e : Nat)) := by
 intro n
 induction n with
 | zero => exact fun e h => h.elim
 | succ n ih =>
 intro e hok hn Hp
 refine ACall.body [.tmp 2] [0] Tryz.func78 Tryz.ntmps78 (fun d => ?_)
 refine Z81 ?_;refine Z2 ?_;refine R.fin [1, 3] ?_;refine Z32 ?_;refine S9 ?_
 refine AW.loopC (α := Nat) (fun x => ⟨25, A3 1 (.ro (C0 e)) (A3 3 (A2 (Ch (e.kids.take x) : Nat)) (A3 4 (A2 (x : Nat)) (fun _ => .any))), Hp, [], [], none⟩) (fun x => x ≤ e.kids.length) (fun x => e.kids.length - x) (0) (Nat.zero_le _) (StLe.of_eq (by simp [Ch])) rfl (fun x hx => ?_)
 refine Kk ?_;refine R.fin [1, 3, 4, 10] ?_
 refine W.cond (fun ht10 => ?_) (fun ht10 => ?_)
 ·have hlt : x < e.kids.length := by simpa using ht10
  have hkl := hok.2.1
  refine S5 ?_
  refine R.gw (h := Q.indexAddr (x) (A4 e.kids[x]) (fun _ => Ac hlt)) (hr := ?_)
  refine R.go ?_;refine R.call Tryz.call78 (ih e.kids[x] (hok.2.2 _ (List.getElem_mem hlt)) (by omega) _) ?_;refine R.go ?_;refine R.fin [1, 3, 4, 5] ?_;refine Z20 ?_;refine R.fin [1, 3, 4, 5, 21] ?_
  refine W.cond (fun ht21 => ?_) (fun ht21 => ?_)
  ·have em : Ch (e.kids.take (x + 1)) = depthE e.kids[x] := by rw [Mm _ hlt]; have := of_decide_eq_true ht21; omega
   refine Z12 ?_;refine S9 ?_;refine Z98 ?_;exact ry
  have em : Ch (e.kids.take (x + 1)) = Ch (e.kids.take x) := by rw [Mm _ hlt]; have := of_decide_eq_false ht21; omega
  refine Z61 ?_;exact ry
 have hd1 := R1 _ e hok
 have hxe : e.kids.take x = e.kids := List.take_of_length_le (by simp at ht10; omega)
 have hdd := Qo e
 refine Z42 ?_;refine Z2 ?_
 rw [hxe]
 refine Z38 ?_;exact K.fin (V.one V.tmp) ⟨by rw [hdd]; rfl, rfl⟩

theorem c22 : ∀ (n : Nat) (e : Expr), okE n e → sizeE e ≤ 1048576 → ∀ Hp : List AObj, AFun Tryz.prog 22 [A4 e] Hp (A2 (sizeE e : Nat)) := by
 intro n
 induction n with
 | zero => exact fun e h => h.elim
 | succ n ih =>
 intro e hok hn Hp
 refine ACall.body [.tmp 2] [0] Tryz.func22 Tryz.ntmps22 (fun d => ?_)
 refine Z81 ?_;refine Z2 ?_;refine R.fin [1, 3] ?_;refine Z32 ?_;refine S9 ?_
 refine AW.loopC (α := Nat) (fun x => ⟨21, A3 1 (.ro (C0 e)) (A3 3 (A2 ((B8 (e.kids.take x) : Nat) + 1)) (A3 4 (A2 (x : Nat)) (fun _ => .any))), Hp, [], [], none⟩) (fun x => x ≤ e.kids.length) (fun x => e.kids.length - x) (0) (Nat.zero_le _) (StLe.of_eq (by simp [B8])) rfl (fun x hx => ?_)
 refine Kk ?_;refine R.fin [1, 3, 4, 9] ?_
 refine W.cond (fun ht9 => ?_) (fun ht9 => ?_)
 ·have hlt : x < e.kids.length := by simpa using ht9
  have hkl := hok.2.1
  have hs1 := X7 e.kids hlt
  have hs2 := j8 e (x + 1)
  refine Z39 ?_;refine Z12 ?_;refine Z0 ?_
  refine R.gw (h := Q.indexAddr (x) (A4 e.kids[x]) (fun _ => Ac hlt)) (hr := ?_)
  refine R.go ?_
  refine R.call Tryz.call22 (ih e.kids[x] (hok.2.2 _ (List.getElem_mem hlt)) (by have := ig e hlt; omega) _) ?_
  refine Z0 ?_;refine S9 ?_;refine Z98 ?_;refine S9 ?_;exact K.lpN (x + 1) hlt (by omega) (StCut.of_eq (by simp only [hs1]; congr 4; simp only [AV.v.injEq, Value.int.injEq, true_and]; omega))
 have hxe : e.kids.take x = e.kids := List.take_of_length_le (by simp at ht9; omega)
 have hdd := Ig e
 refine Z42 ?_;refine Z1 ?_;refine Z3 ?_;exact K.fin (V.one V.tmp) ⟨by rw [hxe, hdd]; simp; omega, rfl⟩

def M3 (s : Str) : Int := if (((s == [108, 101, 110]) || (s == [115, 116, 114])) || (s == [110, 117, 109])) || (s == [105, 115, 110, 117, 108, 108]) then 1 else if ((s == [110, 118, 108]) || (s == [108, 101, 102, 116])) || (s == [114, 105, 103, 104, 116]) then 2 else if s == [105, 102] then 3 else -1
theorem cp (s : Str) : D5 s = M3 s := by
 by_cases h : s ∈ arityList.map (·.1)
 ·have : ((arityList.map (·.1)).all fun s => decide (D5 s = M3 s)) = true := by kernel_rfl
  exact of_decide_eq_true (List.all_eq_true.1 this s h)
 have h1 : D5 s = -1 := by
  unfold D5
  rw [List.find?_eq_none.2 fun p hp => by
   simp only [beq_iff_eq]
   rintro rfl
   exact h (List.mem_map.2 ⟨p, hp, rfl⟩)]
 rw [h1]
 simp only [arityList, List.map_cons, List.map_nil, List.mem_cons, List.not_mem_nil, or_false, not_or] at h
 obtain ⟨a1, a2, a3, a4, a5, a6, a7, a8⟩ := h
 simp [M3, a1, a2, a3, a4, a5, a6, a7, a8]
theorem ut (s : Str) (Hp : List AObj) : AFun Tryz.prog 146 [A6 s] Hp (A2 (M3 s)) := by
 refine ACall.body [.tmp 2] [0] Tryz.func146 Tryz.ntmps146 (fun d => ?_)
 refine Z40 ?_;refine Z32 ?_;refine R.fin [3] ?_;refine az ?_;refine R.fin [3, 4] ?_
 refine W.cond (fun ht4 => ?_) (fun ht4 => ?_)
 ·refine Z5 ?_
  refine W.cond (fun ht4 => ?_) (fun ht4 => ?_)
  ·exact Z53
  refine Z8 ?_;refine R.fin [3, 9] ?_
  refine W.cond (fun ht9 => ?_) (fun ht9 => ?_)
  ·refine Z5 ?_
   refine W.cond (fun ht9 => ?_) (fun ht9 => ?_)
   ·exact Z53
   refine Z94 ?_
   refine W.cond (fun ht13 => ?_) (fun ht13 => ?_)
   ·exact Z53
   exact N2
  refine Z1 ?_;refine R.fin [3, 9] ?_
  refine W.cond (fun ht9 => ?_) (fun ht9 => ?_)
  ·refine Z5 ?_
   refine W.cond (fun ht9 => ?_) (fun ht9 => ?_)
   ·exact Z53
   refine Z94 ?_
   refine W.cond (fun ht13 => ?_) (fun ht13 => ?_)
   ·exact Z53
   exact N2
  refine Z12 ?_;refine l8 ?_
  refine W.cond (fun ht9 => ?_) (fun ht9 => ?_)
  ·exact Z53
  refine Z94 ?_
  refine W.cond (fun ht13 => ?_) (fun ht13 => ?_)
  ·exact Z53
  exact N2
 refine Z1 ?_;refine R.fin [3, 4] ?_
 refine W.cond (fun ht4 => ?_) (fun ht4 => ?_)
 ·refine Z5 ?_
  refine W.cond (fun ht4 => ?_) (fun ht4 => ?_)
  ·exact Z53
  refine Z8 ?_;refine R.fin [3, 9] ?_
  refine W.cond (fun ht9 => ?_) (fun ht9 => ?_)
  ·refine Z5 ?_
   refine W.cond (fun ht9 => ?_) (fun ht9 => ?_)
   ·exact Z53
   refine Z94 ?_
   refine W.cond (fun ht13 => ?_) (fun ht13 => ?_)
   ·exact Z53
   exact N2
  refine Z1 ?_;refine R.fin [3, 9] ?_
  refine W.cond (fun ht9 => ?_) (fun ht9 => ?_)
  ·refine Z5 ?_
   refine W.cond (fun ht9 => ?_) (fun ht9 => ?_)
   ·exact Z53
   refine Z94 ?_
   refine W.cond (fun ht13 => ?_) (fun ht13 => ?_)
   ·exact Z53
   exact N2
  refine Z12 ?_;refine l8 ?_
  refine W.cond (fun ht9 => ?_) (fun ht9 => ?_)
  ·exact Z53
  refine Z94 ?_
  refine W.cond (fun ht13 => ?_) (fun ht13 => ?_)
  ·exact Z53
  exact N2
 refine Z1 ?_;refine R.fin [3, 4] ?_
 refine W.cond (fun ht4 => ?_) (fun ht4 => ?_)
 ·refine Z5 ?_
  refine W.cond (fun ht4 => ?_) (fun ht4 => ?_)
  ·exact Z53
  refine Z8 ?_;refine R.fin [3, 9] ?_
  refine W.cond (fun ht9 => ?_) (fun ht9 => ?_)
  ·refine Z5 ?_
   refine W.cond (fun ht9 => ?_) (fun ht9 => ?_)
   ·exact Z53
   refine Z94 ?_
   refine W.cond (fun ht13 => ?_) (fun ht13 => ?_)
   ·exact Z53
   exact N2
  refine Z1 ?_;refine R.fin [3, 9] ?_
  refine W.cond (fun ht9 => ?_) (fun ht9 => ?_)
  ·refine Z5 ?_
   refine W.cond (fun ht9 => ?_) (fun ht9 => ?_)
   ·exact Z53
   refine Z94 ?_
   refine W.cond (fun ht13 => ?_) (fun ht13 => ?_)
   ·exact Z53
   exact N2
  refine Z12 ?_;refine l8 ?_
  refine W.cond (fun ht9 => ?_) (fun ht9 => ?_)
  ·exact Z53
  refine Z94 ?_
  refine W.cond (fun ht13 => ?_) (fun ht13 => ?_)
  ·exact Z53
  exact N2
 refine Z12 ?_;refine R.fin [3, 4] ?_;refine K.thN ?_
 refine W.cond (fun ht4 => ?_) (fun ht4 => ?_)
 ·exact Z53
 refine Z8 ?_;refine R.fin [3, 9] ?_
 refine W.cond (fun ht9 => ?_) (fun ht9 => ?_)
 ·refine Z5 ?_
  refine W.cond (fun ht9 => ?_) (fun ht9 => ?_)
  ·exact Z53
  refine Z94 ?_
  refine W.cond (fun ht13 => ?_) (fun ht13 => ?_)
  ·exact Z53
  exact N2
 refine Z1 ?_;refine R.fin [3, 9] ?_
 refine W.cond (fun ht9 => ?_) (fun ht9 => ?_)
 ·refine Z5 ?_
  refine W.cond (fun ht9 => ?_) (fun ht9 => ?_)
  ·exact Z53
  refine Z94 ?_
  refine W.cond (fun ht13 => ?_) (fun ht13 => ?_)
  ·exact Z53
  exact N2
 refine Z12 ?_;refine l8 ?_
 refine W.cond (fun ht9 => ?_) (fun ht9 => ?_)
 ·exact Z53
 refine Z94 ?_
 refine W.cond (fun ht13 => ?_) (fun ht13 => ?_)
 ·exact Z53
 exact N2

theorem j9 {s : Str} {x : Nat} (hx : x < levels.length) (h : levels[x].contains s = true) (h0 : ∀ (j : Nat) (l : List Str), j < x → levels[j]? = some l → l.contains s = false) : Di s = (x : Int) := by
 unfold Di
 rw [List.findIdx?_eq_some_iff_getElem.2 ⟨hx, h, fun j hj => by
  have e := h0 j levels[j] hj (List.getElem?_eq_getElem _)
  show ¬ (levels[j].contains s = true)
  rw [e]
  simp⟩]
theorem ja {s : Str} (h0 : ∀ (j : Nat) (l : List Str), j < levels.length → levels[j]? = some l → l.contains s = false) : Di s = -1 := by
 unfold Di
 rw [List.findIdx?_eq_none_iff.2 fun l hl => by
  obtain ⟨j, hj⟩ := List.getElem?_of_mem hl
  exact h0 j l (List.getElem?_eq_some_iff.1 hj).1 hj]
theorem Xo : levels.length = 6 := rfl
theorem Sp {x : Nat} (hx : x < levels.length) : levels[x].length ≤ 6 := by
 have : (levels.all fun l => decide (l.length ≤ 6)) = true := by kernel_rfl
 exact of_decide_eq_true (List.all_eq_true.1 this _ (List.getElem_mem hx))
theorem Px {l : List Str} {s : Str} (h : ∀ (j : Nat) (w : Str), j < l.length → l[j]? = some w → (w == s) = false) : l.contains s = false := by
 rw [Bool.eq_false_iff]
 intro hc
 have hm : s ∈ l := by simpa using hc
 obtain ⟨j, hj⟩ := List.getElem?_of_mem hm
 have := h j s (List.getElem?_eq_some_iff.1 hj).1 hj
 simp at this
theorem c145 (s : Str) (Hp : List AObj) : AFun Tryz.prog 145 [A6 s] Hp (A2 (Di s)) := by
 refine ACall.body [.tmp 2] [0] Tryz.func145 Tryz.ntmps145 (fun d => ?_)
 refine Z40 ?_;refine Z92 ?_;refine pq ?_;refine pq ?_;refine pq ?_;refine Hy ?_;refine Ib ?_;refine Z32 ?_;refine R.fin [0, 3, 4] ?_
 refine AW.loopC (α := Nat) (fun x => ⟨38, A3 0 (A6 s) (A3 3 (.slice true 1 (levels.map C4)) (A3 4 (A2 (x : Nat)) (fun _ => .any))), Hp, [], [], none⟩) (fun x => x ≤ levels.length ∧ ∀ (j : Nat) (l : List Str), j < x → levels[j]? = some l → l.contains s = false) (fun x => levels.length - x) (0) ⟨Nat.zero_le _, fun j l h => by omega⟩ (StLe.refl _) rfl (fun x hx => ?_)
 refine Z54 ?_;refine R.fin [0, 3, 4, 16] ?_
 refine W.cond (fun ht16 => ?_) (fun ht16 => ?_)
 ·have hlt : x < levels.length := by simpa using ht16
  have h6 := Xo
  have hls := Sp hlt
  refine Z39 ?_;refine Z2 ?_;refine R.fin [0, 3, 4, 5] ?_
  refine AW.loopC (α := Nat) (fun y => ⟨38, A3 0 (A6 s) (A3 3 (.slice true 1 (levels.map C4)) (A3 4 (A2 (x : Nat)) (A3 5 (A2 (y : Nat)) (fun _ => .any)))), Hp, [], [], none⟩) (fun y => y ≤ levels[x].length ∧ ∀ (j : Nat) (w : Str), j < y → levels[x][j]? = some w → (w == s) = false) (fun y => levels[x].length - y) (0) ⟨Nat.zero_le _, fun j l h => by omega⟩ (StLe.refl _) rfl (fun y hy => ?_)
  refine Z36 ?_
  refine R.gw (h := Q.indexAddr (x) (C4 levels[x]) (fun _ => Ac hlt)) (hr := ?_)
  refine Z24 ?_;refine R.fin [0, 3, 4, 5, 25] ?_
  refine W.cond (fun ht25 => ?_) (fun ht25 => ?_)
  ·have hly : y < levels[x].length := by simpa using ht25
   refine Lj ?_
   refine R.gw (h := Q.indexAddr (x) (C4 levels[x]) (fun _ => Ac hlt)) (hr := ?_)
   refine Z0 ?_
   refine R.gw (h := Q.indexAddr (y) (A6 (levels[x])[y]) (fun _ => Ac hly)) (hr := ?_)
   refine Z24 ?_;refine R.fin [0, 3, 4, 5, 36] ?_
   refine W.cond (fun ht36 => ?_) (fun ht36 => ?_)
   ·refine Z1 ?_;refine Z3 ?_;refine Z6 ?_;refine K.lpR ?_;refine Z35 ?_;exact K.fin (V.one V.tmp) ⟨by rw [j9 hlt (by simp only [List.contains_iff_mem]; have := ht36; simp only [beq_iff_eq] at this; rw [← this]; exact List.getElem_mem hly) hx.2], rfl⟩
   refine Z61 ?_;refine R.fin [0, 3, 4, 5] ?_;exact K.lpN (y + 1) ⟨hly, Aw hly hy.2 ht36⟩ (by omega) (StCut.of_eq rfl)
  have hny : levels[x].length ≤ y := by simpa using ht25
  refine Z31 ?_;refine b7 ?_;refine R.fin [0, 3, 4] ?_;exact K.lpN (x + 1) ⟨hlt, Aw hlt hx.2 (Px fun j w hj hw => hy.2 j w (by omega) hw)⟩ (by omega) (StCut.of_eq rfl)
 have hnx : levels.length ≤ x := by simpa using ht16
 refine Tu ?_;exact K.fin (V.one V.tmp) ⟨by rw [ja (fun j l hj h => hx.2 j l (by omega) h)], rfl⟩

theorem xn (e : Expr) (hs : e.text.length ≤ 1048576) (Hp : List AObj) : AFun Tryz.prog 112 [A4 e] Hp (Aj (Er e)) := by
 refine ACall.body [.tmp 2] [0] Tryz.func112 Tryz.ntmps112 (fun d => ?_)
 refine Z81 ?_;refine Z45 ?_;refine R.fin [1, 3] ?_;refine Z36 ?_;refine R.fin [1, 3, 9] ?_
 refine W.cond (fun ht9 => ?_) (fun ht9 => ?_)
 ·refine Z1 ?_;refine R.call Tryz.call144 (wd e.val _) ?_;refine R.go ?_;refine S8 ?_;refine Z56 ?_;refine Z25 ?_;refine Z38 ?_;exact s6
 refine Z5 ?_;refine Z8 ?_;refine Wg ?_
 refine R.gw (h := Q.neqAgg gh (Kn e.val.kind e.val.n 0 0 e.val.s [])) (hr := ?_)
 refine R.fin [1, 3, 31] ?_
 refine W.cond (fun ht31 => ?_) (fun ht31 => ?_)
 ·refine Z22 ?_;exact s6
 refine Z5 ?_;refine Z8 ?_;refine R.fin [1, 3, 33] ?_;refine Ns ?_;refine R.fin [1, 3, 33, 34] ?_
 refine W.cond (fun ht34 => ?_) (fun ht34 => ?_)
 ·refine Z1 ?_;refine R.call Tryz.call80 (c80 e.text hs _) ?_;refine R.go ?_;refine Z7 ?_;exact sj
 refine Z8 ?_;refine R.fin [1, 3, 33, 43] ?_
 refine W.cond (fun ht43 => ?_) (fun ht43 => ?_)
 ·refine Z5 ?_
  refine W.cond (fun ht43 => ?_) (fun ht43 => ?_)
  ·refine Z1 ?_;exact pv
  refine Z1 ?_;refine R.fin [1, 3, 33, 53] ?_
  refine W.cond (fun ht53 => ?_) (fun ht53 => ?_)
  ·refine Z1 ?_;exact tg
  refine Z1 ?_;refine R.fin [1, 3, 63] ?_
  refine W.cond (fun ht63 => ?_) (fun ht63 => ?_)
  ·refine Z1 ?_;refine R.call Tryz.call146 (ut e.text _) ?_;refine Z24 ?_;refine Z3 ?_;exact Z47
  refine Z15 ?_;exact s9
 refine Z12 ?_;refine R.fin [1, 3, 33, 43] ?_;refine K.thN ?_
 refine W.cond (fun ht43 => ?_) (fun ht43 => ?_)
 ·refine Z1 ?_;exact pv
 refine Z1 ?_;refine R.fin [1, 3, 33, 53] ?_
 refine W.cond (fun ht53 => ?_) (fun ht53 => ?_)
 ·refine Z1 ?_;exact tg
 refine Z1 ?_;refine R.fin [1, 3, 63] ?_
 refine W.cond (fun ht63 => ?_) (fun ht63 => ?_)
 ·refine Z1 ?_;refine R.call Tryz.call146 (ut e.text _) ?_;refine Z24 ?_;refine Z3 ?_;exact Z47
 refine Z15 ?_;exact s9

theorem c79 : ∀ (n : Nat) (e : Expr), okE n e → ∀ Hp : List AObj, AFun Tryz.prog 79 [A4 e] Hp (Aj (Fu Er e)) := by
 intro n
 induction n with
 | zero => exact fun e h => h.elim
 | succ n ih =>
 intro e hok Hp
 refine ACall.body [.tmp 2] [0] Tryz.func79 Tryz.ntmps79 (fun d => ?_)
 refine Z81 ?_;refine Z32 ?_;refine R.call Tryz.call112 (xn e hok.1 _) ?_;refine R.go ?_;refine R.fin [1, 6] ?_
 refine W.cond (fun ht6 => ?_) (fun ht6 => ?_)
 ·refine Z22 ?_;refine K.thR ?_;exact K.fin (V.one V.tmp) ⟨by rw [J3]; simp at ht6; rw [ht6]; rfl, rfl⟩
 refine Z99 ?_;refine R.fin [1, 3] ?_
 refine AW.loopC (α := Nat) (fun x => ⟨21, A3 1 (.ro (C0 e)) (A3 3 (A2 (x : Nat)) (fun _ => .any)), Hp, [], [], none⟩) (fun x => x ≤ e.kids.length ∧ Ha Er (e.kids.take x) = true) (fun x => e.kids.length - x) (0) ⟨Nat.zero_le _, rfl⟩ (StLe.refl _) rfl (fun x hx => ?_)
 refine Kk ?_;refine R.fin [1, 3, 11] ?_
 refine W.cond (fun ht11 => ?_) (fun ht11 => ?_)
 ·have hlt : x < e.kids.length := by simpa using ht11
  have hkl := hok.2.1
  refine S5 ?_
  refine R.gw (h := Q.indexAddr (x) (A4 e.kids[x]) (fun _ => Ac hlt)) (hr := ?_)
  refine R.go ?_;refine R.call Tryz.call79 (ih e.kids[x] (hok.2.2 _ (List.getElem_mem hlt)) _) ?_;refine R.go ?_;refine R.fin [1, 3, 20] ?_
  refine W.cond (fun ht20 => ?_) (fun ht20 => ?_)
  ·refine Pm ?_;exact K.fin (V.one V.tmp) ⟨by rw [show Fu Er e = false from by rw [Bool.eq_false_iff]; intro h; rw [J3, Bool.and_eq_true] at h; have := (Hb _ _).1 h.2 _ (List.getElem_mem hlt); rw [this] at ht20; cases ht20], rfl⟩
  refine Z61 ?_;refine R.fin [1, 3] ?_;exact K.lpN (x + 1) ⟨hlt, by rw [List.take_succ_eq_append_getElem hlt, Ml, hx.2, Ha, Ha, Bool.and_true, Bool.true_and]; simpa using ht20⟩ (by omega) (StCut.of_eq rfl)
 have hxe : e.kids.take x = e.kids := List.take_of_length_le (by simp at ht11; omega)
 refine Tu ?_;exact K.fin (V.one V.tmp) ⟨by have := hx.2; rw [hxe] at this; rw [J3, this]; simp at ht6; rw [ht6]; rfl, rfl⟩

theorem jb (e : Expr) : Fu Er e = Fu Da e := by rw [show Da = Er from funext iq]
theorem c47 (n : Nat) (e : Expr) (hok : okE n e) (hn : n ≤ 1048576) (hs : sizeE e ≤ 1048576) (Hp : List AObj) : AFun Tryz.prog 47 [A4 e] Hp (Aj (C7 e)) := by
 refine ACall.body [.tmp 2] [0] Tryz.func47 Tryz.ntmps47 (fun d => ?_)
 refine Z81 ?_;refine Z2 ?_;refine R.call Tryz.call78 (c78 n e hok hn _) ?_;refine Jt ?_;refine G.call Tryz.call22 (fun hB => c22 n e hok hs _) ?_;refine G.go ?_;refine Jt ?_;refine G.call Tryz.call79 (fun hB => c79 n e hok _) ?_;refine Z38 ?_;exact K.fin (V.one V.tmp) ⟨by rw [C7, jb, show decide ((depthE e : Int) ≤ 30) = decide (depthE e ≤ 30) by rw [decide_eq_decide]; omega, show decide ((sizeE e : Int) ≤ 300) = decide (sizeE e ≤ 300) by rw [decide_eq_decide]; omega], rfl⟩

set_option maxRecDepth 8000
/-! The document's kinds of trees are infer's. -/
def Ck (k w : Int) : Bool := (k == 0) || (k == w)
def Bx (o : Int) (t : Str) (ks : List Int) : Int × Bool :=
 if o == 3 then (1, Ck (ks.getD 0 0) 1) else if o == 4 then (3, Ck (ks.getD 0 0) 3)
 else if (o == 5) && ((t == [111, 114]) || (t == [97, 110, 100])) then (3, Ck (ks.getD 0 0) 3 && Ck (ks.getD 1 0) 3)
 else if (o == 5) && (Di t == 3) then (3, (ks.getD 0 0 == 0) || Ck (ks.getD 1 0) (ks.getD 0 0))
 else if (o == 5) && (t == [38]) then (2, Ck (ks.getD 0 0) 2 && Ck (ks.getD 1 0) 2)
 else if o == 5 then (1, Ck (ks.getD 0 0) 1 && Ck (ks.getD 1 0) 1)
 else if (t == [108, 101, 110]) || (t == [110, 117, 109]) then (1, Ck (ks.getD 0 0) 2)
 else if t == [115, 116, 114] then (2, Ck (ks.getD 0 0) 1)
 else if (t == [108, 101, 102, 116]) || (t == [114, 105, 103, 104, 116]) then (2, Ck (ks.getD 0 0) 2 && Ck (ks.getD 1 0) 1)
 else if t == [105, 115, 110, 117, 108, 108] then (3, true)
 else (if ks.getD (ks.length - 2) 0 == 0 then ks.getD (ks.length - 1) 0 else ks.getD (ks.length - 2) 0,
  ((ks.getD (ks.length - 2) 0 == 0) || Ck (ks.getD (ks.length - 1) 0) (ks.getD (ks.length - 2) 0)) && ((t == [110, 118, 108]) || Ck (ks.getD 0 0) 3))
def Bv (o : Int) (t : Str) (ks : List Int) : Int × Int := if (Bx o t ks).2 then ((Bx o t ks).1, 0) else (0, 10)
theorem J4 (w k : Int) (hw : (w == 0) = false) : (Bp w k).2 = Ck k w := by
 unfold Bp Ck
 rw [hw]
 simp only [Bool.false_eq_true, if_false]
 by_cases h : (k == 0) = true
 ·simp [h]
 have h' : (k == 0) = false := by simpa using h
 rw [h']
 by_cases h2 : w = k
 ·subst h2; simp
 have : ¬ k = w := fun e => h2 e.symm
 simp [h2, this]
theorem mp (t : Str) : (Di t == 3) = ((((((t == [61]) || (t == [33, 61])) || (t == [60])) || (t == [60, 61])) || (t == [62])) || (t == [62, 61])) := by
 by_cases h : t ∈ [[61], [33, 61], [60], [60, 61], [62], [62, 61]]
 ·simp only [List.mem_cons, List.mem_nil_iff, or_false] at h
  rcases h with rfl | rfl | rfl | rfl | rfl | rfl <;> rfl
 have e : ((((((t == [61]) || (t == [33, 61])) || (t == [60])) || (t == [60, 61])) || (t == [62])) || (t == [62, 61])) = false := by
  simp only [List.mem_cons, List.mem_nil_iff, or_false, not_or] at h
  simp [h]
 rw [e]
 unfold Di
 split
 ·rename_i i hi
  rw [List.findIdx?_eq_some_iff_getElem] at hi
  obtain ⟨hl, hc, _⟩ := hi
  by_cases h3 : i = 3
  ·subst h3
   exact (h (by simp [levels] at hc; simpa using hc)).elim
  have : ¬ ((i : Int) = 3) := by omega
  simp [this]
 rfl
theorem Yy {s : Sign} {a w : Int} (hk : s.kids = [w]) (hw : (w == 0) = false) (h1 : (w == -1) = false) (h2 : (w == -2) = false) (ho : (s.own == -1) = false) : Gw s [a] = if Ck a w then (s.own, 0) else (0, 10) := by
 unfold Gw
 rw [hk]
 simp only [Jb, h1, h2, Bool.false_eq_true, if_false, J4 w a hw]
 cases Ck a w <;> simp [ho]
theorem Yz {s : Sign} {a b v w : Int} (hk : s.kids = [v, w]) (hv : (v == 0) = false) (hv1 : (v == -1) = false) (hv2 : (v == -2) = false) (hw : (w == 0) = false) (h1 : (w == -1) = false) (h2 : (w == -2) = false) (ho : (s.own == -1) = false) : Gw s [a, b] = if Ck a v && Ck b w then (s.own, 0) else (0, 10) := by
 unfold Gw
 rw [hk]
 simp only [Jb, hv1, hv2, h1, h2, Bool.false_eq_true, if_false, J4 w b hw, J4 v a hv]
 cases Ck a v <;> cases Ck b w <;> simp [ho]
theorem o8 {s : Sign} {a b : Int} (hk : s.kids = [-1, -1]) : Gw s [a, b] = if (a == 0) || Ck b a then (if s.own == -1 then (if a == 0 then b else a, 0) else (s.own, 0)) else (0, 10) := by
 unfold Gw Ck
 rw [hk]
 simp only [Jb, Bp]
 by_cases ha : a = 0
 ·subst ha; simp
 by_cases hb : b = 0
 ·subst hb; simp [ha]
 by_cases he : a = b
 ·subst he; simp [ha]
 have : ¬ b = a := fun e => he e.symm
 simp [ha, hb, he, this]
theorem qx {s : Sign} {x a b : Int} (hk : s.kids = [3, -1, -1]) : Gw s [x, a, b] = if ((a == 0) || Ck b a) && Ck x 3 then (if s.own == -1 then (if a == 0 then b else a, 0) else (s.own, 0)) else (0, 10) := by
 unfold Gw Ck
 rw [hk]
 simp only [Jb, J4 3 x rfl, Ck]
 simp only [Bp]
 by_cases hx : ((x == 0) || (x == 3)) = true
 ·by_cases ha : a = 0
  ·subst ha; simp [hx]
  by_cases hb : b = 0
  ·subst hb; simp [ha, hx]
  by_cases he : a = b
  ·subst he; simp [ha, hx]
  have : ¬ b = a := fun e => he e.symm
  simp [ha, hb, he, this, hx]
 simp [hx]
theorem uu {s : Sign} {x : Int} (hk : s.kids = [-2]) (ho : (s.own == -1) = false) : Gw s [x] = (s.own, 0) := by
 unfold Gw
 rw [hk]
 simp [Jb, ho]
theorem Uy {ks : List Int} (h : ks.length = 1) : ∃ a, ks = [a] := by
 match ks, h with
 | [a], _ => exact ⟨a, rfl⟩
theorem jc {ks : List Int} (h : ks.length = 2) : ∃ a b, ks = [a, b] := by
 match ks, h with
 | [a, b], _ => exact ⟨a, b, rfl⟩
theorem uv {ks : List Int} (h : ks.length = 3) : ∃ a b c, ks = [a, b, c] := by
 match ks, h with
 | [a, b, c], _ => exact ⟨a, b, c, rfl⟩
theorem Xp (t : Str) (a b : Int) : Bv 5 t [a, b] = Gw (D7 t) [a, b] := by
 unfold Bv Bx D7
 simp only [mp, show ((5 : Int) == 3) = false from rfl, show ((5 : Int) == 4) = false from rfl, show ((5 : Int) == 5) = true from rfl, Bool.true_and, Bool.false_eq_true, if_false]
 by_cases h1 : ((t == [111, 114]) || (t == [97, 110, 100])) = true
 ·simp only [h1, if_true]
  rw [Yz (v := 3) (w := 3) rfl rfl rfl rfl rfl rfl rfl rfl]
  rfl
 simp only [h1, if_false, Bool.false_eq_true]
 by_cases h2 : ((((((t == [61]) || (t == [33, 61])) || (t == [60])) || (t == [60, 61])) || (t == [62])) || (t == [62, 61])) = true
 ·simp only [h2, if_true]
  rw [o8 rfl]
  rfl
 simp only [h2, if_false, Bool.false_eq_true]
 by_cases h3 : (t == [38]) = true
 ·simp only [h3, if_true]
  rw [Yz (v := 2) (w := 2) rfl rfl rfl rfl rfl rfl rfl rfl]
  rfl
 simp only [h3, if_false, Bool.false_eq_true, if_true]
 rw [Yz (v := 1) (w := 1) rfl rfl rfl rfl rfl rfl rfl rfl]
 rfl
theorem Xq {t : Str} {ks : List Int} (h : (C8 t).kids.length = ks.length) : Bv 6 t ks = Gw (C8 t) ks := by
 unfold Bv Bx
 simp only [show ((6 : Int) == 3) = false from rfl, show ((6 : Int) == 4) = false from rfl, show ((6 : Int) == 5) = false from rfl, Bool.false_and, Bool.false_eq_true, if_false]
 unfold C8 at h ⊢
 by_cases h1 : ((t == [108, 101, 110]) || (t == [110, 117, 109])) = true
 ·simp only [h1, if_true] at h ⊢
  obtain ⟨a, rfl⟩ := Uy h.symm
  rw [Yy (w := 2) rfl rfl rfl rfl rfl]
  rfl
 simp only [h1, if_false, Bool.false_eq_true] at h ⊢
 by_cases h2 : (t == [115, 116, 114]) = true
 ·simp only [h2, if_true] at h ⊢
  obtain ⟨a, rfl⟩ := Uy h.symm
  rw [Yy (w := 1) rfl rfl rfl rfl rfl]
  rfl
 simp only [h2, if_false, Bool.false_eq_true] at h ⊢
 by_cases h3 : ((t == [108, 101, 102, 116]) || (t == [114, 105, 103, 104, 116])) = true
 ·simp only [h3, if_true] at h ⊢
  obtain ⟨a, b, rfl⟩ := jc h.symm
  rw [Yz (v := 2) (w := 1) rfl rfl rfl rfl rfl rfl rfl rfl]
  rfl
 simp only [h3, if_false, Bool.false_eq_true] at h ⊢
 by_cases h4 : (t == [105, 115, 110, 117, 108, 108]) = true
 ·simp only [h4, if_true] at h ⊢
  obtain ⟨a, rfl⟩ := Uy h.symm
  rw [uu rfl rfl]
 simp only [h4, if_false, Bool.false_eq_true] at h ⊢
 by_cases h5 : (t == [110, 118, 108]) = true
 ·simp only [h5, if_true] at h ⊢
  obtain ⟨a, b, rfl⟩ := jc h.symm
  rw [o8 rfl]
  simp
 simp only [h5, if_false, Bool.false_eq_true] at h ⊢
 obtain ⟨a, b, c, rfl⟩ := uv h.symm
 rw [qx rfl]
 simp
theorem mq {e : Expr} (h : Da e = true) (h1 : (e.op == 1) = false) (h2 : (e.op == 2) = false) {ks : List Int} (hl : ks.length = e.kids.length) : Bv e.op e.text ks = Gw (Bo e.op e.text) ks := by
 have hs := Hd h h1 h2
 unfold Bo at hs ⊢
 unfold Da at h
 rw [h1, h2] at h
 simp only [Bool.false_eq_true, if_false] at h
 by_cases h3 : e.op = 3
 ·rw [h3] at hs ⊢
  simp only [beq_self_eq_true, if_true] at hs ⊢
  obtain ⟨a, rfl⟩ := Uy (by rw [hl, ← hs]; rfl)
  rw [Yy (w := 1) rfl rfl rfl rfl rfl]
  rfl
 by_cases h4 : e.op = 4
 ·rw [h4] at hs ⊢
  obtain ⟨a, rfl⟩ := Uy (by rw [hl, ← hs]; rfl)
  rw [show (if ((4 : Int) == 3) = true then (⟨[1], 1⟩ : Sign) else if ((4 : Int) == 4) = true then ⟨[3], 3⟩ else if ((4 : Int) == 5) = true then D7 e.text else C8 e.text) = ⟨[3], 3⟩ from rfl, Yy (w := 3) rfl rfl rfl rfl rfl]
  rfl
 by_cases h5 : e.op = 5
 ·rw [h5] at hs ⊢
  rw [show (if ((5 : Int) == 3) = true then (⟨[1], 1⟩ : Sign) else if ((5 : Int) == 4) = true then ⟨[3], 3⟩ else if ((5 : Int) == 5) = true then D7 e.text else C8 e.text) = D7 e.text from rfl] at hs ⊢
  obtain ⟨a, b, rfl⟩ := jc (by rw [hl, ← hs, K3])
  exact Xp _ _ _
 have h6 : e.op = 6 := by
  simp [h3, h4, h5] at h
  exact h.1
 rw [h6] at hs ⊢
 rw [show (if ((6 : Int) == 3) = true then (⟨[1], 1⟩ : Sign) else if ((6 : Int) == 4) = true then ⟨[3], 3⟩ else if ((6 : Int) == 5) = true then D7 e.text else C8 e.text) = C8 e.text from rfl] at hs ⊢
 exact Xq (by rw [hs, hl])
set_option maxRecDepth 4000
theorem Z4 {n : Nat} {U F : Nat → List AObj} {H' : List AObj} (h : H9 (fun _ => true) U F n H') : H' = U n := by
 rcases h with ⟨_, h⟩ | ⟨j, _, _, h, _⟩
 ·exact h
 cases h
theorem cq {α : Type} {l : List α} {k : Nat} {y : α} (h : l[k]? = some y) : l.take (k + 1) = l.take k ++ [y] := by rw [List.take_add_one, h]; rfl
theorem jd {L : List (Int × Expr)} {k : Nat} {it : Int × Expr} (h : L[k]? = some it) : Cw 0 (L.take (k + 1)) = if Cw 0 (L.take k) < it.1 then it.1 else Cw 0 (L.take k) := by
 have e : Cw 0 (L.take (k + 1)) = max (Cw 0 (L.take k)) it.1 := by
  unfold Cw
  rw [cq h, List.foldl_append]
  rfl
 rw [e]
 split <;> omega
theorem R2 {n k : Nat} {o : Bool} {l : List Str} : Low n (.slice o k (l.map A6)) := by simp [or_imp, forall_and]
theorem xp (n : Nat) (e : Expr) (hok : okE n e) (hn : n ≤ 1048576) (hs : sizeE e ≤ 1048576) (Hp : List AObj) : AFun Tryz.prog 220 [A4 e] Hp (A2 (depthE e : Nat)) := by
 refine ACall.body [.tmp 2] [0, 4] Tryz.func220 Tryz.ntmps220 (fun d => ?_)
 refine Z1 ?_;refine R.fin [1, 4] ?_;refine b6 ?_;refine S9 ?_;refine Z69 ?_
 refine R.assumeLow (fun hlow => ?_)
 refine pw ?_;refine R.fin [3, 4, 6] ?_;refine AW.block ?_
 refine W.rangeV (m := 1) Tryz.call105 (fun FR as' bd' hFR has hbd => ?_)
 have hFRl : ∀ s, Low (Hp.length + 3) (FR s) := by
  intro s
  rw [hFR]
  refine Low.strip ?_
  revert s
  repeat (first | exact At | refine As (by simp [oid, Ad] <;> try omega) ?_)
 have hOl : ∀ {k : Nat}, ∀ x ∈ [AObj.cells 3 [A2 (Cw 0 ((An 1 e).take k))], AObj.defs, AObj.loop LoopState.ready none FR 13 #[7, 8] as' bd' (oid Hp.length 1)], ObjLow (Hp.length + 3) x := by
  intro k x hx
  simp only [List.mem_cons, List.mem_nil_iff, or_false] at hx
  rcases hx with rfl | rfl | rfl
  ·intro y hy
   rw [List.mem_singleton.1 hy]
   first | exact R2 | simp
  ·trivial
  exact g8
 refine ⟨fun _ H' => H9 (fun _ => true) (fun k => Hp ++ [AObj.cells 3 [A2 (Cw 0 ((An 1 e).take k))], AObj.defs, AObj.loop LoopState.ready none FR 13 #[7, 8] as' bd' (oid Hp.length 1)]) (fun k => Hp ++ [AObj.cells 3 [A2 (Cw 0 ((An 1 e).take k))], AObj.defs, AObj.loop LoopState.ready none FR 13 #[7, 8] as' bd' (oid Hp.length 1)]) (An 1 e).length H', qn (l := oid Hp.length 2) (go := fun _ => true) (U := fun k => Hp ++ [AObj.cells 3 [A2 (Cw 0 ((An 1 e).take k))], AObj.defs, AObj.loop LoopState.ready none FR 13 #[7, 8] as' bd' (oid Hp.length 1)]) (F := fun k => Hp ++ [AObj.cells 3 [A2 (Cw 0 ((An 1 e).take k))], AObj.defs, AObj.loop LoopState.ready none FR 13 #[7, 8] as' bd' (oid Hp.length 1)]) (n0 := Hp.length + 3) ⟨fun k => by simp, fun k => by simp, fun k x hx => ?_, fun k x hx => ?_, by simp [oid], fun X k it hit hgo => ?_⟩ n hok hn, ?_⟩
 ·exact g9
 ·exact g9
 ·have hklt : k < sizeE e := by rw [← Dy 1 e]; exact (List.getElem?_eq_some_iff.1 hit).1
  generalize hV : (Hp ++ [AObj.cells 3 [A2 (Cw 0 ((An 1 e).take k))], AObj.defs, AObj.loop LoopState.ready none FR 13 #[7, 8] as' bd' (oid Hp.length 1)] ++ X) = V
  have hL : V[oid Hp.length 2]? = some (AObj.loop LoopState.ready none FR 13 #[7, 8] as' bd' (oid Hp.length 1)) := by rw [← hV, List.append_assoc, Al]; rfl
  have hA0 : V[oid Hp.length 0]? = some (AObj.cells 3 [A2 (Cw 0 ((An 1 e).take k))]) := by rw [← hV, List.append_assoc, Al]; rfl
  refine AYield.ofRound (pd := none) (fr := FR) (sz := 13) (ps := #[7, 8]) (df := oid Hp.length 1) (asg := as') (bd := bd') hL rfl (by decide) (fun d => ?_)
  subst hFR has hbd
  refine W.keep [3, 7, 8] ?_;refine Z59 ?_;refine R.fin [3, 4] ?_
  refine ⟨rfl, none, hL, ?_⟩
  generalize hbz : (AObj.loop LoopState.busy _ _ _ _ _ _ _) = bz
  have hA : (V.set (oid Hp.length 2) bz)[oid Hp.length 0]? = some (AObj.cells 3 [A2 (Cw 0 ((An 1 e).take k))]) := by rw [List.getElem?_set_ne (oid_ne (by decide))]; exact hA0
  refine AW.block ?_;refine AW.region ?_
  refine R.gw (h := Q.loadUp hA) (hr := ?_)
  refine R.go ?_;refine R.maxI ?_
  refine R.storeUp jS hA ?_ ?_
  ·simp
  refine Z93 ?_
  subst hbz
  refine la ?_
  refine ⟨rfl, ?_⟩
  rw [if_pos rfl]
  subst hV
  simp only [List.append_assoc, D4, List.cons_append, List.nil_append, List.set_cons_succ, List.set_cons_zero]
  rw [jd hit]
 intro r H' hq
 obtain rfl := Z4 hq
 refine ⟨Hp, _, _, _, rfl, rfl, fun h => h, ?_, rfl, by simp, ?_⟩
 ·intro o ho
  have : o = oid Hp.length 1 := by simpa using ho
  subst this
  rw [Al]
  rfl
 refine Z10 ?_;refine Z1 ?_;refine Z3 ?_;exact K.fin (V.one V.tmp) ⟨by rw [List.take_length, Mn], rfl⟩

theorem c53 (n : Nat) (e : Expr) (hok : okE n e) (hn : n ≤ 1048576) (hs : sizeE e ≤ 1048576) (Hp : List AObj) : AFun Tryz.prog 53 [A4 e] Hp (A2 (sizeE e : Nat)) := by
 refine ACall.body [.tmp 2] [0] Tryz.func53 Tryz.ntmps53 (fun d => ?_)
 refine Z81 ?_;refine b6 ?_;refine R.fin [1, 3] ?_;refine Z69 ?_
 refine R.assumeLow (fun hlow => ?_)
 refine pw ?_;refine R.fin [3, 5] ?_;refine AW.block ?_
 refine W.rangeV (m := 1) Tryz.call105 (fun FR as' bd' hFR has hbd => ?_)
 have hFRl : ∀ s, Low (Hp.length + 3) (FR s) := by
  intro s
  rw [hFR]
  refine Low.strip ?_
  revert s
  repeat (first | exact At | refine As (by simp [oid, Ad] <;> try omega) ?_)
 have hOl : ∀ {k : Nat}, ∀ x ∈ [AObj.cells 3 [A2 ((k : Nat))], AObj.defs, AObj.loop LoopState.ready none FR 11 #[6, 7] as' bd' (oid Hp.length 1)], ObjLow (Hp.length + 3) x := by
  intro k x hx
  simp only [List.mem_cons, List.mem_nil_iff, or_false] at hx
  rcases hx with rfl | rfl | rfl
  ·intro y hy
   rw [List.mem_singleton.1 hy]
   first | exact R2 | simp
  ·trivial
  exact g8
 refine ⟨fun _ H' => H9 (fun _ => true) (fun k => Hp ++ [AObj.cells 3 [A2 ((k : Nat))], AObj.defs, AObj.loop LoopState.ready none FR 11 #[6, 7] as' bd' (oid Hp.length 1)]) (fun k => Hp ++ [AObj.cells 3 [A2 ((k : Nat))], AObj.defs, AObj.loop LoopState.ready none FR 11 #[6, 7] as' bd' (oid Hp.length 1)]) (An 1 e).length H', qn (l := oid Hp.length 2) (go := fun _ => true) (U := fun k => Hp ++ [AObj.cells 3 [A2 ((k : Nat))], AObj.defs, AObj.loop LoopState.ready none FR 11 #[6, 7] as' bd' (oid Hp.length 1)]) (F := fun k => Hp ++ [AObj.cells 3 [A2 ((k : Nat))], AObj.defs, AObj.loop LoopState.ready none FR 11 #[6, 7] as' bd' (oid Hp.length 1)]) (n0 := Hp.length + 3) ⟨fun k => by simp, fun k => by simp, fun k x hx => ?_, fun k x hx => ?_, by simp [oid], fun X k it hit hgo => ?_⟩ n hok hn, ?_⟩
 ·exact g9
 ·exact g9
 ·have hklt : k < sizeE e := by rw [← Dy 1 e]; exact (List.getElem?_eq_some_iff.1 hit).1
  generalize hV : (Hp ++ [AObj.cells 3 [A2 ((k : Nat))], AObj.defs, AObj.loop LoopState.ready none FR 11 #[6, 7] as' bd' (oid Hp.length 1)] ++ X) = V
  have hL : V[oid Hp.length 2]? = some (AObj.loop LoopState.ready none FR 11 #[6, 7] as' bd' (oid Hp.length 1)) := by rw [← hV, List.append_assoc, Al]; rfl
  have hA0 : V[oid Hp.length 0]? = some (AObj.cells 3 [A2 ((k : Nat))]) := by rw [← hV, List.append_assoc, Al]; rfl
  refine AYield.ofRound (pd := none) (fr := FR) (sz := 11) (ps := #[6, 7]) (df := oid Hp.length 1) (asg := as') (bd := bd') hL rfl (by decide) (fun d => ?_)
  subst hFR has hbd
  refine W.keep [3, 6, 7] ?_;refine AW.skip ?_
  refine ⟨rfl, none, hL, ?_⟩
  generalize hbz : (AObj.loop LoopState.busy _ _ _ _ _ _ _) = bz
  have hA : (V.set (oid Hp.length 2) bz)[oid Hp.length 0]? = some (AObj.cells 3 [A2 ((k : Nat))]) := by rw [List.getElem?_set_ne (oid_ne (by decide))]; exact hA0
  refine AW.block ?_;refine AW.region ?_
  refine R.gw (h := Q.loadUp hA) (hr := ?_)
  refine R.go ?_
  refine R.storeUp jS hA ?_ ?_
  ·simp
  refine Z93 ?_
  subst hbz
  refine la ?_
  refine ⟨rfl, ?_⟩
  rw [if_pos rfl]
  subst hV
  simp only [List.append_assoc, D4, List.cons_append, List.nil_append, List.set_cons_succ, List.set_cons_zero]
  rfl
 intro r H' hq
 obtain rfl := Z4 hq
 refine ⟨Hp, _, _, _, rfl, rfl, fun h => h, ?_, rfl, by simp, ?_⟩
 ·intro o ho
  have : o = oid Hp.length 1 := by simpa using ho
  subst this
  rw [Al]
  rfl
 refine Z10 ?_;refine Z1 ?_;refine Z3 ?_;exact K.fin (V.one V.tmp) ⟨by rw [Dy], rfl⟩

set_option maxRecDepth 8000
abbrev TK := Int × Str
/-- What stands from word i on. -/
def seg (l : List Tok) (i : Nat) : List TK := (l.drop i).map ktT
/-- The texts of levels of marks. -/
def ofL (k : Nat) : Str := if k = 0 then orT else if k = 1 then cj else if k = 3 then mh else if k = 4 then ck else Qx
/-- A row of words behind which no mark of a level, or of a tighter one, stands. -/
def je (k : Nat) (rest : List TK) : Prop := ∀ h r, rest = h :: r → ((h.1 == 5) || (h.1 == 2)) = true → Di h.2 < (k : Int) ∧ h.2 ≠ [40]
def xq : Str := [110, 111, 116]
def jf (e : Expr) : Nat := if e.op == 4 then 2 else if e.op == 3 then 6 else if e.op == 5 then (Di e.text).toNat else 7
def mr (least : Nat) (x : Expr) (T : List TK) : List TK := if least ≤ jf x then T else (5, [40]) :: (T ++ [(5, [41])])
def mt (least : Nat) (x : Expr) (n : Nat) : Nat := if least ≤ jf x then n else n + 1
def jg (own : Nat) : Nat := if own = 3 then 4 else own
def qy (v : Val) : TK := if v.kind == 1 then (3, Ft v) else if v.kind == 2 then (4, v.s) else (2, Ft v)
def uw (t : Str) : TK := (if E0 (t.headD 0) then 2 else 5, t)
def ux : List (List TK) → List TK
 | [] => []
 | T :: r => (5, [44]) :: (T ++ ux r)
def uz (o : Int) (t : Str) (v : Val) (k : List Expr) (ts : List (List TK)) : List TK :=
 if o == 1 then [qy v] else if o == 2 then [(1, t)]
 else if o == 3 then (5, [45]) :: mr 6 (k.getD 0 Ap) (ts.getD 0 [])
 else if o == 4 then (2, xq) :: mr 2 (k.getD 0 Ap) (ts.getD 0 [])
 else if o == 5 then mr (jg (Di t).toNat) (k.getD 0 Ap) (ts.getD 0 []) ++ uw t :: mr ((Di t).toNat + 1) (k.getD 1 Ap) (ts.getD 1 [])
 else (1, t) :: (5, [40]) :: ((ux ts).drop 1 ++ [(5, [41])])
mutual
def P1 : Expr → List TK
 | .mk o t v k => uz o t v k (o9 k)
def o9 : List Expr → List (List TK)
  | [] => []
  | e :: r => P1 e :: o9 r
 end
def v6 : List Nat → Nat
 | [] => 0
 | n :: r => max n (v6 r)
def v7 (o : Int) (t : Str) (k : List Expr) (ns : List Nat) : Nat :=
 if o == 1 then 0 else if o == 2 then 0
 else if o == 3 then 1 + mt 6 (k.getD 0 Ap) (ns.getD 0 0)
 else if o == 4 then 1 + mt 2 (k.getD 0 Ap) (ns.getD 0 0)
 else if o == 5 then max (mt (jg (Di t).toNat) (k.getD 0 Ap) (ns.getD 0 0)) (mt ((Di t).toNat + 1) (k.getD 1 Ap) (ns.getD 1 0))
 else 1 + v6 ns
mutual
def Z9 : Expr → Nat
 | .mk o t v k => v7 o t k (oa k)
def oa : List Expr → List Nat
  | [] => []
  | e :: r => Z9 e :: oa r
 end
/-- The functions of the levels. -/
def pf (l : List Tok) (D : Fam) : Nat → PS → Expr × PS
 | 0 => Na l D
 | 1 => Uq l D
 | 2 => N5 l D
 | 3 => Dc l D
 | 4 => Cm l D
 | 5 => Up l D
 | 6 => N4 l D
 | _ => E3 l D
abbrev fam (l : List Tok) (n : Nat) : Fam := D9 l (30 - n)
def adv (S : PS) (n : Nat) : PS := ⟨S.i + n, S.nest, S.code, S.at_⟩
def T1 (l : List Tok) (x : Expr) : Prop := ∀ (k : Nat) (S : PS) (rest : List TK), k ≤ jf x → S.code = 0 → S.nest + Z9 x ≤ 30 → seg l S.i = P1 x ++ rest → je k rest → pf l (fam l S.nest) k S = (x, adv S (P1 x).length)
def T2 (l : List Tok) (x : Expr) : Prop := ∀ (k : Nat) (S : PS) (rest : List TK), (k = 0 ∨ k = 1 ∨ k = 4 ∨ k = 5) → k ≤ jf x → S.code = 0 → S.nest + Z9 x ≤ 30 → seg l S.i = P1 x ++ rest → je (k + 1) rest →
 ∃ n, l.length ≤ S.i + (P1 x).length + n ∧ Dn l (ofL k) (pf l (fam l S.nest) (k + 1)) S = Qw l (ofL k) (pf l (fam l S.nest) (k + 1)) n (x, adv S (P1 x).length)
/-! The parser from a word on, and of a source. -/
def atS (l : List Tok) (i : Nat) (r : Expr × PS) : PS := if r.2.code != 0 then r.2 else if decide ((30 : Int) < depthE r.1) then Cg 18 (A7 l i).at_ r.2 else if decide ((300 : Int) < sizeE r.1) then Cg 3 (A7 l i).at_ r.2 else r.2
def atR (l : List Tok) (i : Nat) : Expr × PS := Na l (D9 l 30) ⟨i, 0, 0, 0⟩
/-- The tree, the word behind it, the fault. -/
def atM (l : List Tok) (i : Nat) : Expr × Int × Int × Int := if (atS l i (atR l i)).code != 0 then (Ap, 0, (atS l i (atR l i)).code, (atS l i (atR l i)).at_) else ((atR l i).1, ((atS l i (atR l i)).i : Int), 0, 0)
set_option maxRecDepth 4000
theorem P2 {l : List Tok} (hl : TokEnd l) (hll : l.length ≤ 1048576) {i : Nat} (hi : i < l.length) : Fact l ⟨i, 0, 0, 0⟩ (atR l i) := (M2 hl hll 31 0 rfl (by decide)).1 ⟨i, 0, 0, 0⟩ hi rfl
theorem qz {l : List Tok} {i : Nat} (hi : i < l.length) (hl : TokEnd l) (hll : l.length ≤ 1048576) (hcl : ∀ n Dv, n ≤ 30 → DeepC l Dv n → Uw l Dv n) (o : Nat) (Hp : List AObj) (ho : Hp[o]? = some (pr l ⟨i, 0, 0, 0⟩)) : ACall Tryz.prog 219 [.ptr o 0] Hp (fun r H' => r = A4 (atR l i).1 ∧ H' = Hp.set o (pr l (atR l i).2)) := (Ux hl hll hcl 31 0 rfl (by decide)).1 o Hp ⟨i, 0, 0, 0⟩ ho hi rfl
theorem Uz {l : List Tok} (hl : TokEnd l) : (A7 l (l.length - 1)).kind = 0 := by
 obtain ⟨L, z, rfl, hz, _⟩ := hl.split
 unfold A7
 simp [hz]
theorem xt (l : List Tok) (i : Nat) (hi : i < l.length) (hl : TokEnd l) (hll : l.length ≤ 500000) (hcl : ∀ n Dv, n ≤ 30 → DeepC l Dv n → Uw l Dv n) (Hp : List AObj) : AFun Tryz.prog 199 [Yg l, A2 (i : Int)] Hp (.tup [A4 (atM l i).1, A2 (atM l i).2.1, .agg [A2 (atM l i).2.2.1, A2 (atM l i).2.2.2]]) := by
 have hmap : (l.map Fw).length = l.length := List.length_map ..
 have hll1 : l.length ≤ 1048576 := by omega
 have hq := P2 hl hll1 hi
 have hlast := Uz hl
 have hpos := hl.pos
 have hqlt := hq.lt
 have hqs := hq.sz
 have hok0 : okE 1048576 (atR l i).1 := F8 (by have := hq.lt; omega) hq.ok
 have hsz0 : sizeE (atR l i).1 ≤ 1048576 := by have := hq.sz; have := hq.lt; omega
 refine ACall.body [.cell 4 45, .tmp 5, .cell 6 60] [0, 1] Tryz.func199 Tryz.ntmps199 (fun d => ?_)
 refine Z33 ?_;refine R.go ?_;refine Ju ?_;refine R.fin [0, 1, 4, 6] ?_;refine Z36 ?_;refine S8 ?_;refine Z62 ?_
 refine G.gw (h := Q.indexAddr ((l.length - 1)) (Fw (A7 l (l.length - 1))) (fun _ => Lv (by omega))) (hr := ?_)
 refine Z7 ?_;refine Z68 ?_;refine R.fin [0, 1, 4, 6, 26] ?_
 refine W.cond (fun ht26 => ?_) (fun ht26 => ?_)
 ·simp only [Bool.or_eq_true, decide_eq_true_eq, bne_iff_ne, ne_eq] at ht26
  rcases ht26 with (h | h) | h
  ·omega
  ·simp at h; omega
  exact absurd hlast h
 refine Lk ?_;refine R.build (places := #[(0, 1), (1, 1), (2, 1), (3, 2)]) jU (fun w => by simp) jZ ?_;refine R.box ?_;refine R.go ?_;refine R.fin [0, 1, 4, 6, 7] ?_;refine Z2 ?_
 refine R.callOwn (n := 2) (x := pr l (atR l i).2) Tryz.call219 (qz hi hl hll1 hcl (oid Hp.length 2) _ (by rw [Al]; rfl)) ?_
 refine Z21 ?_;refine R.fin [0, 1, 4, 6, 7, 8] ?_
 refine W.join ⟨81, A3 4 (.ptr (oid Hp.length 0) 0) (A3 6 (.ptr (oid Hp.length 1) 0) (A3 7 (.ptr (oid Hp.length 2) 0) (A3 8 (.ptr (oid Hp.length 3) 0) (fun _ => .any)))), Hp, [.cells 45 [A2 0, A6 [], A2 0, A2 0, A6 [], .nil], .cells 60 [A2 0, A2 0], pr l (atS l i (atR l i)), .cells 45 (C0 (atR l i).1)], [], none⟩ ?_ ?_
 ·refine AW.block ?_;refine Z45 ?_;refine Z24 ?_;refine R.fin [0, 1, 4, 6, 7, 8, 35] ?_
  refine W.cond (fun ht35 => ?_) (fun ht35 => ?_)
  ·have e : atS l i (atR l i) = (atR l i).2 := if_pos ht35
   refine W.keep [4, 6, 7, 8] ?_;refine AW.skip ?_;exact kw
  have e0 : ¬ ((atR l i).2.code != 0) = true := by rw [ht35]; simp
  refine Z2 ?_;refine R.call Tryz.call220 (xp 1048576 _ hok0 (Nat.le_refl _) hsz0 _) ?_;refine Z0 ?_;refine R.fin [0, 1, 4, 6, 7, 8, 42] ?_
  refine W.cond (fun ht42 => ?_) (fun ht42 => ?_)
  ·have e : atS l i (atR l i) = Cg 18 (A7 l i).at_ (atR l i).2 := by unfold atS; rw [if_neg e0, if_pos ht42]
   refine Z30 ?_
   refine R.gw (h := Q.indexAddr (i) (Fw (A7 l i)) (fun _ => Lv hi)) (hr := ?_)
   refine Z0 ?_
   refine R.callOwn (n := 2) (x := pr l (Cg 18 (A7 l i).at_ (atR l i).2)) Tryz.call221 (cn l (atR l i).2 18 (A7 l i).at_ (oid Hp.length 2) _ (by rw [Al]; rfl)) ?_
   refine R.fin [4, 6, 7, 8] ?_;exact kw
  have e1 : ¬ decide ((30 : Int) < depthE (atR l i).1) = true := by rw [ht42]; simp
  refine Z2 ?_;refine R.call Tryz.call53 (c53 1048576 _ hok0 (Nat.le_refl _) hsz0 _) ?_;refine Z0 ?_;refine R.fin [0, 1, 4, 6, 7, 8, 53] ?_
  refine W.cond (fun ht53 => ?_) (fun ht53 => ?_)
  ·have e : atS l i (atR l i) = Cg 3 (A7 l i).at_ (atR l i).2 := by unfold atS; rw [if_neg e0, if_neg e1, if_pos ht53]
   refine Z30 ?_
   refine R.gw (h := Q.indexAddr (i) (Fw (A7 l i)) (fun _ => Lv hi)) (hr := ?_)
   refine Z0 ?_
   refine R.callOwn (n := 2) (x := pr l (Cg 3 (A7 l i).at_ (atR l i).2)) Tryz.call221 (cn l (atR l i).2 3 (A7 l i).at_ (oid Hp.length 2) _ (by rw [Al]; rfl)) ?_
   refine R.fin [4, 6, 7, 8] ?_;exact kw
  have e : atS l i (atR l i) = (atR l i).2 := by unfold atS; rw [if_neg e0, if_neg e1, if_neg (by rw [ht53]; simp)]
  refine W.keep [4, 6, 7, 8] ?_;refine AW.skip ?_;exact kw
 refine Z54 ?_;refine Z0 ?_;refine R.fin [4, 6, 7, 8, 69] ?_
 refine W.cond (fun ht69 => ?_) (fun ht69 => ?_)
 ·have e : atM l i = (Ap, 0, (atS l i (atR l i)).code, (atS l i (atR l i)).at_) := if_pos ht69
  refine W.drawY [0, 0, 2, 6, 14, 1, 33, 127] [5] [.q 5 [] [], .s [] (some 0) [] [], .q 1 [0] []] (fun _ => Hp) (fun _ => [.cells 45 [A2 0, A6 [], A2 0, A2 0, A6 [], .nil], .cells 60 [A2 0, A2 0], pr l (atS l i (atR l i)), .cells 45 (C0 (atR l i).1)]) Aa (by kernel_rfl) rfl rfl (fun _ => rfl) ?_
  apply Y.q
  case h1 =>
   intro B hT hF
   refine D.build (places := #[(0, 1), (1, 1), (2, 3), (5, 1)]) jU (fun w => by simp) jZ ?_;exact fh
  case hTF => decide
  refine Y.storeOwn (u := Hp.length) (n := 0) (t' := 45) (cs := [A2 0, A6 [], A2 0, A2 0, A6 [], .nil]) (cs' := [A2 0, A6 [], A2 0, A2 0, A6 [], .nil]) Tryz.sizeOf45 (fun B hB => ⟨rfl, rfl, rfl, rfl⟩) ?_
  apply Y.q
  case h1 =>
   intro B hT hF
   exact Z75
  case hTF => decide
  refine Y.tail (tn := [5])  ?_;refine R.nilCell 0 5 6 ?_;refine En ?_;refine R.fin [4, 5, 6] ?_;refine Z43 ?_;exact K.fin (V.three (V.cellN jA jS) V.tmp (V.cellN jA jS)) ⟨by rw [e, j7] <;> rfl, rfl⟩
 have e : atM l i = ((atR l i).1, ((atS l i (atR l i)).i : Int), 0, 0) := if_neg (by rw [ht69]; simp)
 refine Z5 ?_;refine W.drawY [0, 0, 2, 6, 14, 0, 1, 95, 255] [6] [.q 6 [] [], .s [] (some 0) [] [], .q 1 [0] []] (fun _ => Hp) (fun B => [.cells 45 (if B 0 = true then C0 (atR l i).1 else [A2 0, A6 [], A2 0, A2 0, A6 [], .nil]), .cells 60 [A2 0, A2 0], pr l (atS l i (atR l i)), .cells 45 (C0 (atR l i).1)]) Aa (by kernel_rfl) rfl rfl (fun _ => rfl) ?_
 apply Y.q
 case h1 =>
  intro B hT hF
  refine Z14 ?_;refine Z55 ?_;exact rz
 case hTF => decide
 refine Y.storeOwn (u := Hp.length) (n := 0) (t' := 45) (cs := [A2 0, A6 [], A2 0, A2 0, A6 [], .nil]) (cs' := C0 (atR l i).1) Tryz.sizeOf45 (fun B hB => ⟨rfl, by simp only [hB]; rfl, by simp [upd], rfl⟩) ?_
 apply Y.q
 case h1 =>
  intro B hT hF
  exact Z75
 case hTF => decide
 refine Y.tail (tn := [6]) (O := [.cells 45 (C0 (atR l i).1), .cells 60 [A2 0, A2 0], pr l (atS l i (atR l i)), .cells 45 (C0 (atR l i).1)]) ?_;refine En ?_;refine R.fin [4, 5, 6] ?_;refine AW.ret ?_;exact K.fin (V.three (V.cellN jA jS) V.tmp (V.cellN jA jS)) ⟨by rw [e, Ab] <;> rfl, rfl⟩ (hlow := by have := low_agg (n := Hp.length) (atR l i).1; simp at this ⊢; exact this)

theorem mu {s : Str} (h : (Dx s).2.1 = 0) : (Dx s).1.length ≤ 4002 := by
 obtain ⟨h1, _, h3⟩ := m0 h
 have h2 := Oc s
 rw [h3]
 simp only [List.length_append, List.length_map, List.length_cons, List.length_nil]
 omega
theorem mv {l : List Tok} (hl : TokEnd l) (hll : l.length ≤ 1048576) {i : Nat} (hi : i < l.length) (h : (atM l i).2.2.1 = 0) : ∃ k : Nat, (atM l i).2.1 = (k : Int) ∧ k < l.length := by
 have hq := P2 hl hll hi
 unfold atM at h ⊢
 split at h
 ·rename_i h1
  have : (atS l i (atR l i)).code = 0 := h
  rw [this] at h1
  cases h1
 rename_i h1
 rw [if_neg h1]
 refine ⟨(atS l i (atR l i)).i, rfl, ?_⟩
 have e : (atS l i (atR l i)).i = (atR l i).2.i := by
  unfold atS
  repeat' split
  all_goals first | rfl | exact failM_i.1
 rw [e]
 exact hq.lt
theorem Jl {α : Type} {a b : List α} (hl : a.length = b.length) (h : ∀ (j : Nat) (y : α), j < a.length → a[j]? = some y → b[j]? = some y) : a = b := by
 apply List.ext_getElem hl
 intro j h1 h2
 have := h j a[j] h1 (List.getElem?_eq_getElem h1)
 rw [List.getElem?_eq_getElem h2] at this
 injection this with this
 exact this.symm
theorem c17 (a b : List Str) (ha : a.length ≤ 1048576) (Hp : List AObj) : AFun Tryz.prog 17 [C4 a, C4 b] Hp (Aj (decide (a = b))) := by
 refine ACall.body [.tmp 4] [0, 1] Tryz.func17 Tryz.ntmps17 (fun d => ?_)
 refine Z52 ?_;refine Kk ?_;refine R.fin [0, 1, 10] ?_
 refine W.cond (fun ht10 => ?_) (fun ht10 => ?_)
 ·have hne : a ≠ b := by rintro rfl; simp at ht10
  refine b9 ?_;exact u4
 have hlen : a.length = b.length := by have := ht10; simp at this; omega
 refine Z99 ?_;refine Po ?_
 refine AW.loopC (α := Nat) (fun x => ⟨26, A3 0 (C4 a) (A3 1 (C4 b) (A3 5 (A2 (x : Nat)) (fun _ => .any))), Hp, [], [], none⟩) (fun x => x ≤ a.length ∧ ∀ (j : Nat) (y : Str), j < x → a[j]? = some y → b[j]? = some y) (fun x => a.length - x) (0) ⟨Nat.zero_le _, fun j y h => by omega⟩ (StLe.refl _) rfl (fun x hx => ?_)
 refine Z54 ?_;refine R.fin [0, 1, 5, 14] ?_
 refine W.cond (fun ht14 => ?_) (fun ht14 => ?_)
 ·have hlt : x < a.length := by simpa using ht14
  have hlb : x < b.length := by omega
  refine pe ?_;refine Z14 ?_
  refine D.gw (h := Q.indexAddr (x) (A6 a[x]) (fun _ => Ac hlt)) (hr := ?_)
  refine Z55 ?_
  refine D.gw (h := Q.indexAddr (x) (A6 b[x]) (fun _ => Ac hlb)) (hr := ?_)
  refine Wf ?_;refine R.go ?_;refine R.fin [0, 1, 5, 25] ?_
  refine W.cond (fun ht25 => ?_) (fun ht25 => ?_)
  ·have hne : a ≠ b := by rintro rfl; simp at ht25
   refine Z78 ?_;refine Z35 ?_;exact u4
  have heq : a[x] = b[x] := by simpa using ht25
  refine Z61 ?_;refine Po ?_
  refine K.lpN (x + 1) ⟨hlt, fun j y hj hy => ?_⟩ (by omega) (StCut.of_eq rfl)
  rcases Nat.lt_or_ge j x with h | h
  ·exact hx.2 j y h hy
  have : j = x := by omega
  subst this
  rw [List.getElem?_eq_getElem hlt] at hy
  rw [List.getElem?_eq_getElem hlb, ← hy, heq]
 have hxe : a.length ≤ x := by simpa using ht14
 refine Z42 ?_;refine Z78 ?_;exact K.fin (V.one V.tmp) ⟨by rw [decide_eq_true (Jl hlen fun j y hj hy => hx.2 j y (by omega) hy)], rfl⟩

theorem Cu {n k : Nat} {o : Bool} {l : List Expr} : Low n (.slice o k (l.map A4)) := low_slice.2 fun y hy => by
 obtain ⟨a, _, rfl⟩ := List.mem_map.1 hy
 exact Ad _ a
theorem cr {l : List Expr} {n f : Nat} (h0 : l.isEmpty = false) (h : Jj l n = true) : E5 f l n = true := by
 cases f with
 | zero => rw [E5, h0]; rfl
 | succ f => rw [E5, if_neg (by rw [h0]; simp), if_pos h]
theorem mw {l : List Expr} {n y : Nat} (hy : y < l.length) (h : 500 < n + y + 1 ∨ Lz l[y] = true) : Jj l n = true := by
 unfold Jj
 rcases h with h | h
 ·rw [decide_eq_true (by omega)]; rfl
 rw [List.any_eq_true.2 ⟨_, List.getElem_mem hy, h⟩, Bool.or_true]
theorem P3 {l : List Expr} : ∀ (y : Nat), y ≤ l.length → (∀ (j : Nat) (e : Expr), j < y → l[j]? = some e → Lz e = false) → ((l.take y).flatMap Expr.kids).length ≤ 100 * y
 | 0, _, _ => by simp
 | y + 1, hy, h => by
  rw [List.take_succ_eq_append_getElem hy, List.flatMap_append, List.length_append]
  have h1 := P3 y (by omega) (fun j e hj he => h j e (by omega) he)
  have h2 := Sn (h y l[y] (by omega) (List.getElem?_eq_getElem _))
  simp only [List.flatMap_cons, List.flatMap_nil, List.append_nil]
  omega
structure WideAt (l0 : List Expr) (x : List Expr × Nat × Nat) : Prop where
 eq : E5 61 l0 0 = E5 x.2.2 x.1 x.2.1
 f : x.2.2 ≤ 61
 n : x.2.1 ≤ 500
theorem c43 (l0 : List Expr) (Hp : List AObj) : AFun Tryz.prog 43 [.slice false 6 (l0.map A4), A2 0] Hp (Aj (E5 61 l0 0)) := by
 refine ACall.body [.tmp 4] [0, 1] Tryz.func43 Tryz.ntmps43 (fun d => ?_)
 refine Z52 ?_;refine Z2 ?_;refine Po ?_;refine W.seq ?_
 refine AW.loopC (α := List Expr × Nat × Nat) (fun x => ⟨67, A3 0 (.slice false 6 (x.1.map A4)) (A3 1 (A2 (61 - (x.2.2 : Int))) (A3 5 (A2 (x.2.1 : Nat)) (fun _ => .any))), Hp, [], [], none⟩) (fun x => WideAt l0 x) (fun x => x.2.2) ((l0, 0, 61)) ⟨rfl, Nat.le_refl _, Nat.zero_le _⟩ (StLe.of_eq (by simp)) rfl (fun x hx => ?_)
 refine Z36 ?_;refine R.fin [0, 1, 5, 10] ?_
 refine W.cond (fun ht10 => ?_) (fun ht10 => ?_)
 ·have hpos : 0 < x.1.length := by simpa using ht10
  have hne : x.1.isEmpty = false := by cases hxx : x.1 with
   | nil => rw [hxx] at hpos; simp at hpos
   | cons a r => rfl
  have hxf := hx.f
  refine Z5 ?_;refine AW.block ?_;refine fq ?_;refine R.fin [0, 1, 5, 6] ?_;refine Z32 ?_;refine bg ?_
  refine AW.loopC (α := Nat) (fun y => ⟨67, A3 0 (.slice false 6 (x.1.map A4)) (A3 1 (A2 (61 - (x.2.2 : Int))) (A3 5 (A2 ((x.2.1 + y : Nat) : Int)) (A3 6 (.slice true 6 (((x.1.take y).flatMap Expr.kids).map A4)) (A3 7 (A2 (y : Nat)) (fun _ => .any))))), Hp, [], [], none⟩) (fun y => y ≤ x.1.length ∧ x.2.1 + y ≤ 500 ∧ ∀ (j : Nat) (e : Expr), j < y → x.1[j]? = some e → Lz e = false) (fun y => x.1.length - y) (0) ⟨Nat.zero_le _, hx.n, fun j e h => by omega⟩ (StLe.of_eq (by simp)) rfl (fun y hy => ?_)
  refine Z54 ?_;refine R.fin [0, 1, 5, 6, 7, 15] ?_
  refine W.cond (fun ht15 => ?_) (fun ht15 => ?_)
  ·have hlt : y < x.1.length := by simpa using ht15
   have hyn := hy.2.1
   refine S5 ?_;refine bg ?_;refine Z36 ?_;refine Z7 ?_
   refine G.gw (h := Q.indexAddr (y) (A4 x.1[y]) (fun _ => Ac hlt)) (hr := ?_)
   refine S8 ?_;refine Z25 ?_
   refine G.gw (h := Q.indexAddr (y) (A4 x.1[y]) (fun _ => Ac hlt)) (hr := ?_)
   refine Z7 ?_;refine Kj ?_;refine Z25 ?_
   refine G.gw (h := Q.indexAddr (y) (A4 x.1[y]) (fun _ => Ac hlt)) (hr := ?_)
   refine Z7 ?_;refine Nv ?_;refine R.fin [0, 1, 5, 6, 7, 49] ?_
   refine W.cond (fun ht49 => ?_) (fun ht49 => ?_)
   ·have hm : Jj x.1 x.2.1 = true := mw hlt (by
     simp only [Bool.or_eq_true, decide_eq_true_eq, List.length_map] at ht49
     unfold Lz
     simp only [Bool.or_eq_true, decide_eq_true_eq]
     omega)
    have hw := cr (f := x.2.2) hne hm
    refine b9 ?_;refine Z35 ?_;refine K.blR ?_;exact sq
   have hfat : Lz x.1[y] = false ∧ x.2.1 + y + 1 ≤ 500 := by
    simp only [Bool.or_eq_false_iff, decide_eq_false_iff_not, List.length_map] at ht49
    unfold Lz
    simp only [Bool.or_eq_false_iff, decide_eq_false_iff_not]
    omega
   have hkl := (Sn hfat.1).2.2
   have hfm : (x.1.take (y + 1)).flatMap Expr.kids = (x.1.take y).flatMap Expr.kids ++ x.1[y].kids := by rw [List.take_succ_eq_append_getElem hlt, List.flatMap_append]; simp
   refine Z5 ?_;refine Z82 ?_;refine Z0 ?_
   refine R.gw (h := Q.indexAddr (y) (A4 x.1[y]) (fun _ => Ac hlt)) (hr := ?_)
   refine Z0 ?_
   refine R.append jU Tryz.type45 ?_ ?_ ?_
   ·have h1 := P3 y hy.1 hy.2.2; have h2 := hkl; have h3 := hy.2.1; simp only [List.length_map, Tryz.t45]; omega
   ·have h1 := P3 y hy.1 hy.2.2; have h2 := hkl; have h3 := hy.2.1; simp only [List.length_map, Tryz.t45]; omega
   refine Hy ?_;refine bg ?_;refine Z98 ?_;refine bg ?_
   refine K.lpN (y + 1) ⟨hlt, by omega, Aw hlt hy.2.2 hfat.1⟩ (by omega) (StCut.of_eq ?_)
   rw [hfm, List.map_append]
   rfl
  have hye : x.1.take y = x.1 := List.take_of_length_le (by simp at ht15; omega)
  have hyl : y = x.1.length := by have := hy.1; simp at ht15; omega
  have hmany : Jj x.1 x.2.1 = false := by
   unfold Jj
   rw [decide_eq_false (by have := hy.2.1; omega), Bool.false_or, List.any_eq_false]
   intro e he
   obtain ⟨j, hj⟩ := List.getElem?_of_mem he
   rw [hy.2.2 j e (by have := (List.getElem?_eq_some_iff.1 hj).1; omega) hj]
   simp
  refine Z42 ?_;refine Z8 ?_;refine Z25 ?_;refine R.go ?_;refine R.fin [1, 5, 6, 63] ?_
  refine W.cond (fun ht63 => ?_) (fun ht63 => ?_)
  ·have hw : E5 x.2.2 x.1 x.2.1 = true := by
    have h9 := ht63
    rw [hye] at h9
    simp only [Bool.or_eq_true, decide_eq_true_eq, List.length_map] at h9
    cases hf : x.2.2 with
    | zero => rw [E5, hne]; rfl
    | succ f =>
     rw [E5, if_neg (by rw [hne]; simp), if_neg (by rw [hmany]; simp), if_pos (by rw [decide_eq_true_eq]; omega)]
   refine b9 ?_;refine K.blR ?_;exact sq
  have h9 := ht63
  rw [hye] at h9
  simp only [Bool.or_eq_false_iff, decide_eq_false_iff_not, List.length_map] at h9
  obtain ⟨f, hf⟩ : ∃ f, x.2.2 = f + 1 := ⟨x.2.2 - 1, by omega⟩
  have hw : E5 x.2.2 x.1 x.2.1 = E5 f (x.1.flatMap Expr.kids) (x.2.1 + x.1.length) := by
   rw [hf, E5, if_neg (by rw [hne]; simp), if_neg (by rw [hmany]; simp), if_neg (by rw [decide_eq_true_eq]; omega)]
  refine Lk ?_;refine Po ?_;refine Z30 ?_;refine Po ?_;refine K.blN ?_
  refine K.lpN (x.1.flatMap Expr.kids, x.2.1 + x.1.length, f) ⟨hx.eq.trans hw, by show f ≤ 61; omega, by show x.2.1 + x.1.length ≤ 500; have := hy.2.1; omega⟩ (by show f < x.2.2; omega) (StCut.of_eq ?_)
  rw [hye, hyl]
  congr 4
  simp only [AV.v.injEq, Value.int.injEq, true_and]
  omega
 have hnil : x.1 = [] := by have := ht10; simp at this; exact this
 refine Z42 ?_;refine Z78 ?_;exact K.fin (V.one V.tmp) ⟨by rw [hx.eq, hnil]; cases x.2.2 <;> rfl, rfl⟩

theorem c21 (e : Expr) (Hp : List AObj) : AFun Tryz.prog 21 [A4 e] Hp (Aj (Ou e)) := by
 refine ACall.body [.tmp 2] [0] Tryz.func21 Tryz.ntmps21 (fun d => ?_)
 refine Z81 ?_;refine Z2 ?_;refine Hw ?_;refine R.call Tryz.call43 (c43 [e] _) ?_;refine R.go ?_;exact pu

theorem V0 {a b : List Expr} (hl : a.length = b.length) (h : ∀ (j : Nat) (y z : Expr), j < a.length → a[j]? = some y → b[j]? = some z → eqE y z = true) : eqL a b = true := by
 rw [Kw]
 refine Jl hl fun j y hj hy => ?_
 have hjb : j < b.length := by omega
 have := h j y b[j] hj hy (List.getElem?_eq_getElem hjb)
 rw [List.getElem?_eq_getElem hjb, (Sl _ _).1 this]
theorem r6 {a b : List Expr} (h : eqL a b = true) {j : Nat} (hj : j < a.length) (hb : j < b.length) : eqE a[j] b[j] = true := by
 have e := (Kw _ _).1 h
 subst e
 exact ip _
theorem jh {a b : List Expr} {j : Nat} (hj : j < a.length) (hb : j < b.length) (h : eqE a[j] b[j] = false) : eqL a b = false := by
 rw [Bool.eq_false_iff]
 intro h2
 rw [r6 h2 hj hb] at h
 cases h
theorem Za {a b : List Expr} (h : a.length ≠ b.length) : eqL a b = false := by
 rw [Bool.eq_false_iff]
 exact fun h2 => h (lx h2)
theorem ob {a b : List Expr} {x : Nat} (hx : x < a.length) (hb : x < b.length) (h : ∀ (j : Nat) (y z : Expr), j < x → a[j]? = some y → b[j]? = some z → eqE y z = true) (he : eqE a[x] b[x] = true) : ∀ (j : Nat) (y z : Expr), j < x + 1 → a[j]? = some y → b[j]? = some z → eqE y z = true := by
 intro j y z hj h1 h2
 rcases Nat.lt_or_ge j x with h3 | h3
 ·exact h j y z h3 h1 h2
 have : j = x := by omega
 subst this
 rw [List.getElem?_eq_getElem hx] at h1
 rw [List.getElem?_eq_getElem hb] at h2
 injection h1 with h1
 injection h2 with h2
 rw [← h1, ← h2]
 exact he
def V1 (x y : Expr) : Bool := ((x.op == y.op) && (x.text == y.text)) && ((x.val.kind == y.val.kind && x.val.n == y.val.n) && x.val.s == y.val.s)
theorem Sq (x y : Expr) : eqE x y = (V1 x y && eqL x.kids y.kids) := io x y
theorem c25 : ∀ (n : Nat) (x : Expr), okE n x → ∀ (y : Expr) (Hp : List AObj), AFun Tryz.prog 25 [A4 x, A4 y] Hp (Aj (eqE x y)) := by
 intro n
 induction n with
 | zero => exact fun x h => h.elim
 | succ n ih =>
 intro x hok y Hp
 refine ACall.body [.tmp 4] [0, 1] Tryz.func25 Tryz.ntmps25 (fun d => ?_)
 refine Z20 ?_;refine Fl ?_;refine Z54 ?_;refine Z62 ?_;refine G.go ?_;refine Z62 ?_
 refine G.gw (h := Q.neqAgg gh (fun w => Kn x.val.kind x.val.n y.val.kind y.val.n x.val.s y.val.s w)) (hr := ?_)
 refine Z62 ?_;refine Z7 ?_;refine Z68 ?_;refine R.fin [2, 3, 33] ?_
 refine W.cond (fun ht33 => ?_) (fun ht33 => ?_)
 ·have hf : eqE x y = false := by
   rw [Sq]
   simp only [Bool.or_eq_true, bne_iff_ne, ne_eq, List.length_map, Bool.not_eq_true'] at ht33
   by_cases hh : V1 x y = true
   ·rw [hh, Bool.true_and]
    refine Za ?_
    unfold V1 at hh
    simp only [Bool.and_eq_true, beq_iff_eq] at hh
    obtain ⟨⟨h1, h2⟩, ⟨h3, h4⟩, h5⟩ := hh
    rcases ht33 with ((h | h) | h) | h
    ·exact absurd h1 h
    ·simp [h2] at h
    ·simp [h3, h4, h5] at h
    intro e; exact h (by rw [e])
   rw [Bool.not_eq_true] at hh
   rw [hh, Bool.false_and]
  refine b9 ?_;exact pz
 have hh : V1 x y = true ∧ x.kids.length = y.kids.length := by
  simp only [Bool.or_eq_false_iff, bne_eq_false_iff_eq, List.length_map, Bool.not_eq_false'] at ht33
  obtain ⟨⟨⟨h1, h2⟩, h3⟩, h4⟩ := ht33
  unfold V1
  refine ⟨?_, by omega⟩
  simp only [beq_iff_eq, Bool.and_eq_true] at h1 h2 h3 ⊢
  exact ⟨⟨h1, h2⟩, h3⟩
 obtain ⟨hh, hlen⟩ := hh
 have hkl := hok.2.1
 refine Z99 ?_;refine R.fin [2, 3, 5] ?_
 refine AW.loopC (α := Nat) (fun i => ⟨53, A3 2 (.ro (C0 x)) (A3 3 (.ro (C0 y)) (A3 5 (A2 (i : Nat)) (fun _ => .any))), Hp, [], [], none⟩) (fun i => i ≤ x.kids.length ∧ ∀ (j : Nat) (a b : Expr), j < i → x.kids[j]? = some a → y.kids[j]? = some b → eqE a b = true) (fun i => x.kids.length - i) (0) ⟨Nat.zero_le _, fun j a b h => by omega⟩ (StLe.refl _) rfl (fun i hi => ?_)
 refine Kk ?_;refine R.fin [2, 3, 5, 38] ?_
 refine W.cond (fun ht38 => ?_) (fun ht38 => ?_)
 ·have hlt : i < x.kids.length := by simpa using ht38
  have hly : i < y.kids.length := by omega
  refine Z39 ?_;refine W.drawQ [0, 1, 0, 7, 15, 0, 32, 0, 224, 480, 1023, 2047] 10 Aa (by kernel_rfl) ?_;refine Z55 ?_
  refine D.gw (h := Q.indexAddr (i) (A4 x.kids[i]) (fun _ => Ac hlt)) (hr := ?_)
  refine Ki ?_
  refine D.gw (h := Q.indexAddr (i) (A4 y.kids[i]) (fun _ => Ac hly)) (hr := ?_)
  refine Wf ?_;refine R.call Tryz.call25 (ih x.kids[i] (hok.2.2 _ (List.getElem_mem hlt)) y.kids[i] _) ?_;refine R.go ?_;refine R.fin [2, 3, 5, 52] ?_
  refine W.cond (fun ht52 => ?_) (fun ht52 => ?_)
  ·have hf : eqE x y = false := by rw [Sq, jh hlt hly (by simpa using ht52), Bool.and_false]
   refine Z78 ?_;exact t8
  have he : eqE x.kids[i] y.kids[i] = true := by simpa using ht52
  refine Z61 ?_;refine R.fin [2, 3, 5] ?_;exact K.lpN (i + 1) ⟨hlt, ob hlt hly hi.2 he⟩ (by omega) (StCut.of_eq rfl)
 have hxe : x.kids.length ≤ i := by simpa using ht38
 refine Z42 ?_;refine Z78 ?_;exact K.fin (V.one V.tmp) ⟨by rw [Sq, hh, V0 hlen (fun j a b hj => hi.2 j a b (by omega))]; rfl, rfl⟩

theorem xu (n : Nat) (a b : List Expr) (ha : a.length ≤ 1048576) (hok : ∀ y ∈ a, okE n y) (ih : ∀ (x : Expr), okE n x → ∀ (y : Expr) (Hp : List AObj), AFun Tryz.prog 129 [A4 x, A4 y] Hp (Aj (eqE x y))) (Hp : List AObj) : AFun Tryz.prog 164 [.slice false 6 (a.map A4), .slice false 6 (b.map A4), .fn (.func 129) [] []] Hp (Aj (eqL a b)) := by
 refine ACall.body [.tmp 6] [0, 1, 2] Tryz.func164 Tryz.ntmps164 (fun d => ?_)
 refine Z2 ?_;refine R.fin [0, 1, 2] ?_;refine Kk ?_;refine R.fin [0, 1, 2, 14] ?_
 refine W.cond (fun ht14 => ?_) (fun ht14 => ?_)
 ·have hf : eqL a b = false := Za (by have := ht14; simp at this; omega)
  refine Z2 ?_;refine fg ?_;exact pz
 have hlen : a.length = b.length := by have := ht14; simp at this; omega
 refine Z5 ?_;refine Z36 ?_;refine R.fin [1, 2, 15, 16, 17] ?_
 refine AW.loopC (α := Nat) (fun i => ⟨32, A3 1 (.slice false 6 (b.map A4)) (A3 2 (.fn (.func 129) [] []) (A3 15 (.slice false 6 (a.map A4)) (A3 16 (A2 (a.length : Nat)) (A3 17 (A2 (i : Nat)) (fun _ => .any))))), Hp, [], [], none⟩) (fun i => i ≤ a.length ∧ ∀ (j : Nat) (y z : Expr), j < i → a[j]? = some y → b[j]? = some z → eqE y z = true) (fun i => a.length - i) (0) ⟨Nat.zero_le _, fun j y z h => by omega⟩ (StLe.of_eq (by simp)) rfl (fun i hi => ?_)
 refine Z2 ?_;refine R.fin [1, 2, 15, 16, 17, 18] ?_
 refine W.condX (fun ht18 => ?_) (fun ht18 => ?_)
 ·have hlt : i < a.length := by simpa using ht18
  have hlb : i < b.length := by omega
  refine S7 ?_
  refine R.gw (h := Q.indexAddr (i) (A4 a[i]) (fun _ => Ac hlt)) (hr := ?_)
  refine R.go ?_;refine ay ?_;refine R.fin [1, 2, 7, 8, 15, 16, 17] ?_;refine Z1 ?_
  refine R.gw (h := Q.indexAddr (i) (A4 b[i]) (fun _ => Ac hlb)) (hr := ?_)
  refine Nt ?_;refine R.fin [1, 2, 8, 9, 15, 16, 17] ?_;refine Z20 ?_;refine R.callV Tryz.call129 (ih a[i] (hok _ (List.getElem_mem hlt)) b[i] _) ?_;refine R.go ?_;refine R.fin [1, 2, 15, 16, 17, 30] ?_
  refine W.cond (fun ht30 => ?_) (fun ht30 => ?_)
  ·have hf : eqL a b = false := jh hlt hlb (by simpa using ht30)
   refine Z2 ?_;refine Z88 ?_;exact t8
  have he : eqE a[i] b[i] = true := by simpa using ht30
  refine Js ?_;refine R.fin [1, 2, 15, 16, 17] ?_;refine K.lpN (i + 1) ⟨hlt, ob hlt hlb hi.2 he⟩ (by omega) ?_
  exact StCut.take (own := []) (fun _ => .refl _) (by repeat (first | exact At | refine As (by first | exact Cu | (simp; done)) ?_)) (by simp) (by simp)
 have hxe : a.length ≤ i := by simpa using ht18
 refine Z28 ?_;refine Z2 ?_;refine Z88 ?_;exact K.fin (V.one V.tmp) ⟨by rw [V0 hlen (fun j y z hj => hi.2 j y z (by omega))], rfl⟩

theorem v8 : ∀ (n : Nat) (x : Expr), okE n x → ∀ (y : Expr) (Hp : List AObj), AFun Tryz.prog 129 [A4 x, A4 y] Hp (Aj (eqE x y)) := by
 intro n
 induction n with
 | zero => exact fun x h => h.elim
 | succ n ih =>
 intro x hok y Hp
 refine ACall.body [.tmp 4] [0, 1] Tryz.func129 Tryz.ntmps129 (fun d => ?_)
 refine Z20 ?_;refine Fl ?_;refine Z45 ?_;refine Z62 ?_;refine G.go ?_;refine Z62 ?_
 refine G.gw (h := Q.eqlAgg gh (fun w => Kn x.val.kind x.val.n y.val.kind y.val.n x.val.s y.val.s w)) (hr := ?_)
 refine Z62 ?_;refine G.call Tryz.call164 (fun hB => xu n x.kids y.kids hok.2.1 hok.2.2 ih _) ?_;refine Z0 ?_;refine Z23 ?_;exact K.fin (V.one V.tmp) ⟨by rw [io], rfl⟩

set_option maxRecDepth 8000
/-! Moves: what mig.Right, sound.* and the document's layers 18, 19 answer. -/
structure Mov where
 kind : Int
 take : List Str
 give : List Col
 ahead : List Expr
 back : List Expr
abbrev Gy (l : List Expr) : AV := .slice false 6 (l.map A4)
abbrev Jc (m : Mov) : List AV := [A2 m.kind, C4 m.take, A8 m.give, Gy m.ahead, Gy m.back]
abbrev Cv (m : Mov) : AV := .agg (Jc m)
abbrev C5 (l : List Mov) : AV := .slice false 5 (l.map Cv)
/-- Trees that may be walked. -/
structure OkEs (l : List Expr) : Prop where
 len : l.length ≤ 1048576
 ok : ∀ e ∈ l, okE 61 e
 size : ∀ e ∈ l, sizeE e ≤ 1048576
 rng : ∀ e ∈ l, Fu Sk e = true
structure OkMov (m : Mov) : Prop where
 takes : m.take.length ≤ 1048576
 names : ∀ s ∈ m.take, s.length ≤ 1048576
 gives : OkCols m.give
 gives2 : m.give.length ≤ 1000000
 ahead : OkEs m.ahead
 back : OkEs m.back
structure OkMovs (l : List Mov) : Prop where
 len : l.length ≤ 1048576
 each : ∀ m ∈ l, OkMov m
def Cp (m : Mov) : Bool :=
 if ((m.ahead.length : Int) != (m.give.length : Int)) || ((m.back.length : Int) != (m.take.length : Int)) then false
 else if m.kind == 1 then ((m.take.length : Int) == 0) && ((m.give.length : Int) == 1)
 else if m.kind == 2 then ((m.take.length : Int) == 1) && ((m.give.length : Int) == 0)
 else if (m.kind == 3) || (m.kind == 6) then ((m.take.length : Int) == 1) && ((m.give.length : Int) == 1)
 else if m.kind == 4 then ((m.take.length : Int) == 1) && decide ((1 : Int) < (m.give.length : Int))
 else if m.kind == 5 then decide ((1 : Int) < (m.take.length : Int)) && ((m.give.length : Int) == 1)
 else false
def F9 (m : Mov) (c : Col) : Bool := Bd c.name && (((Ax c.kind == []) == (m.kind == 3)) && !((m.kind == 3) && (c.kind != 0)))
def Gl (m : Mov) : Bool :=
 if m.kind == 3 then eqE (m.ahead.getD 0 Ap) (Bw (m.take.getD 0 [])) && eqE (m.back.getD 0 Ap) (Bw (m.give.getD 0 ⟨[], 0⟩).name)
 else if m.kind == 6 then m.take.getD 0 [] == (m.give.getD 0 ⟨[], 0⟩).name else true
def Do (m : Mov) : Bool := (((((Cp m && m.give.all (F9 m)) && m.take.all Bd) && m.ahead.all Ao) && m.back.all Ao) && Gl m)
def Il (l : List Mov) : Bool := decide ((l.length : Int) ≤ 8) && l.all Do
/-! Columns behind moves. -/
def V2 (e : Expr) (c : List Col) (w : Int) : Bool := ((Cr e c).2 == 0) && (((Cr e c).1 == w) || ((Cr e c).1 == 0))
def Af (c : List Col) (m : Mov) : List Col :=
 if m.kind == 3 then (if Ar (m.take.getD 0 []) c < 0 then m.give else match m.give with
  | [] => []
  | y :: r => ⟨y.name, (c.getD (Ar (m.take.getD 0 []) c).toNat ⟨[], 0⟩).kind⟩ :: r)
 else m.give
def Jd (e : Expr) (c : List Col) (w : Int) : Int := if (Cr e c).2 != 0 then (Cr e c).2 else if !V2 e c w then 10 else 0
def Bn (over : List Col) : List Expr → List Col → Int
 | x :: r, w :: ws => if Jd x over w.kind != 0 then Jd x over w.kind else Bn over r ws
 | _, _ => 0
def Eh (c : List Col) (m : Mov) : List Col := m.take.map fun s => c.getD (Ar s c).toNat ⟨[], 0⟩
def Av (c : List Col) (m : Mov) : List Col × Int :=
 if (Bi c m.take (Af c m)).2 != 0 then ([], (Bi c m.take (Af c m)).2)
 else if Bn c m.ahead (Af c m) != 0 then ([], Bn c m.ahead (Af c m))
 else if Bn (Bi c m.take (Af c m)).1 m.back (Eh c m) != 0 then ([], Bn (Bi c m.take (Af c m)).1 m.back (Eh c m))
 else ((Bi c m.take (Af c m)).1, 0)
/-- The columns ahead of each move and behind the last one, till one is wrong; the error. -/
def Ai (c : List Col) : List Mov → List (List Col) × Int
 | [] => ([c], 0)
 | m :: r => if (Av c m).2 != 0 then ([c], (Av c m).2) else (c :: (Ai (Av c m).1 r).1, (Ai (Av c m).1 r).2)
def Fa (c : List Col) (l : List Mov) : Bool := Bb c && Il l
/-- ref19.Steps. -/
def Ay (c : List Col) (l : List Mov) : List (List Col) × Int := if Fa c l then Ai c l else ([], 1)
/-- sound.Steps. -/
def Au (c : List Col) (l : List Mov) : List (List Col) × Int := if (Ay c l).2 != 0 then ([], (Ay c l).2) else Ay c l
def Cx (c : List Col) (l : List Mov) : List Col × Int := if (Au c l).2 != 0 then ([], (Au c l).2) else ((Au c l).1.getLastD [], 0)
theorem ct {m : Mov} (h : Do m = true) : Cp m = true := by
 unfold Do at h
 simp only [Bool.and_eq_true] at h
 exact h.1.1.1.1.1
theorem Gm {m : Mov} (h : Cp m = true) : m.ahead.length = m.give.length ∧ m.back.length = m.take.length := by
 unfold Cp at h
 split at h
 ·cases h
 rename_i h1
 simp only [Bool.or_eq_true, bne_iff_ne, ne_eq, not_or, Classical.not_not] at h1
 omega
theorem Im {m : Mov} (h : Cp m = true) (h3 : ((m.kind == 3) || (m.kind == 6)) = true) : m.take.length = 1 ∧ m.give.length = 1 := by
 unfold Cp at h
 split at h
 ·cases h
 have h1 : (m.kind == 1) = false := by simp at h3 ⊢; omega
 have h2 : (m.kind == 2) = false := by simp at h3 ⊢; omega
 simp only [h1, h2, h3, if_true, if_false, Bool.false_eq_true, Bool.and_eq_true, beq_iff_eq] at h
 omega
theorem G7 (c : List Col) (m : Mov) : (Af c m).length = m.give.length := by
 unfold Af
 split
 ·split
  ·rfl
  split <;> simp_all
 rfl
set_option maxRecDepth 4000
abbrev Mr (s : Sign) : AV := .agg [.slice false 1 (s.kids.map A2), A2 s.own]
theorem Fm {n : Nat} (s : Sign) : Low n (Mr s) := by simp [or_imp, forall_and]
theorem r7 {m : Sign} {a o : Int} (h : m = ⟨[a], o⟩) : AV.agg [.slice false 1 [A2 a], A2 o] = Mr m := by rw [h]; rfl
theorem ji {m : Sign} {a b o : Int} (h : m = ⟨[a, b], o⟩) : AV.agg [.slice false 1 [A2 a, A2 b], A2 o] = Mr m := by rw [h]; rfl
theorem r8 {m : Sign} {a b c o : Int} (h : m = ⟨[a, b, c], o⟩) : AV.agg [.slice false 1 [A2 a, A2 b, A2 c], A2 o] = Mr m := by rw [h]; rfl
theorem xv (s : Str) (Hp : List AObj) : AFun Tryz.prog 147 [A6 s] Hp (Mr (D7 s)) := by
 refine ACall.body [.cell 2 148] [0] Tryz.func147 Tryz.ntmps147 (fun d => ?_)
 refine Z60 ?_;refine Z32 ?_;refine Fl ?_;refine az ?_;refine R.fin [2, 3, 4] ?_
 refine W.cond (fun ht4 => ?_) (fun ht4 => ?_)
 ·refine Z5 ?_
  refine W.cond (fun ht4 => ?_) (fun ht4 => ?_)
  ·exact Z58
  refine Z8 ?_;refine R.fin [2, 3, 9] ?_
  refine W.cond (fun ht9 => ?_) (fun ht9 => ?_)
  ·refine Z5 ?_
   refine W.cond (fun ht9 => ?_) (fun ht9 => ?_)
   ·exact Z58
   refine Z84 ?_
   refine W.cond (fun ht18 => ?_) (fun ht18 => ?_)
   ·exact Z58
   exact N3
  refine Z97 ?_
  refine W.cond (fun ht9 => ?_) (fun ht9 => ?_)
  ·refine Z5 ?_
   refine W.cond (fun ht9 => ?_) (fun ht9 => ?_)
   ·exact Z58
   refine Z84 ?_
   refine W.cond (fun ht18 => ?_) (fun ht18 => ?_)
   ·exact Z58
   exact N3
  refine Z97 ?_
  refine W.cond (fun ht9 => ?_) (fun ht9 => ?_)
  ·refine Z5 ?_
   refine W.cond (fun ht9 => ?_) (fun ht9 => ?_)
   ·exact Z58
   refine Z84 ?_
   refine W.cond (fun ht18 => ?_) (fun ht18 => ?_)
   ·exact Z58
   exact N3
  refine Z97 ?_
  refine W.cond (fun ht9 => ?_) (fun ht9 => ?_)
  ·refine Z5 ?_
   refine W.cond (fun ht9 => ?_) (fun ht9 => ?_)
   ·exact Z58
   refine Z84 ?_
   refine W.cond (fun ht18 => ?_) (fun ht18 => ?_)
   ·exact Z58
   exact N3
  refine Z97 ?_
  refine W.cond (fun ht9 => ?_) (fun ht9 => ?_)
  ·refine Z5 ?_
   refine W.cond (fun ht9 => ?_) (fun ht9 => ?_)
   ·exact Z58
   refine Z84 ?_
   refine W.cond (fun ht18 => ?_) (fun ht18 => ?_)
   ·exact Z58
   exact N3
  refine Z12 ?_;refine R.fin [2, 3, 9] ?_;refine K.thN ?_
  refine W.cond (fun ht9 => ?_) (fun ht9 => ?_)
  ·exact Z58
  refine Z84 ?_
  refine W.cond (fun ht18 => ?_) (fun ht18 => ?_)
  ·exact Z58
  exact N3
 refine Z12 ?_;refine R.fin [2, 3, 4] ?_;refine K.thN ?_
 refine W.cond (fun ht4 => ?_) (fun ht4 => ?_)
 ·exact Z58
 refine Z8 ?_;refine R.fin [2, 3, 9] ?_
 refine W.cond (fun ht9 => ?_) (fun ht9 => ?_)
 ·refine Z5 ?_
  refine W.cond (fun ht9 => ?_) (fun ht9 => ?_)
  ·exact Z58
  refine Z84 ?_
  refine W.cond (fun ht18 => ?_) (fun ht18 => ?_)
  ·exact Z58
  exact N3
 refine Z97 ?_
 refine W.cond (fun ht9 => ?_) (fun ht9 => ?_)
 ·refine Z5 ?_
  refine W.cond (fun ht9 => ?_) (fun ht9 => ?_)
  ·exact Z58
  refine Z84 ?_
  refine W.cond (fun ht18 => ?_) (fun ht18 => ?_)
  ·exact Z58
  exact N3
 refine Z97 ?_
 refine W.cond (fun ht9 => ?_) (fun ht9 => ?_)
 ·refine Z5 ?_
  refine W.cond (fun ht9 => ?_) (fun ht9 => ?_)
  ·exact Z58
  refine Z84 ?_
  refine W.cond (fun ht18 => ?_) (fun ht18 => ?_)
  ·exact Z58
  exact N3
 refine Z97 ?_
 refine W.cond (fun ht9 => ?_) (fun ht9 => ?_)
 ·refine Z5 ?_
  refine W.cond (fun ht9 => ?_) (fun ht9 => ?_)
  ·exact Z58
  refine Z84 ?_
  refine W.cond (fun ht18 => ?_) (fun ht18 => ?_)
  ·exact Z58
  exact N3
 refine Z97 ?_
 refine W.cond (fun ht9 => ?_) (fun ht9 => ?_)
 ·refine Z5 ?_
  refine W.cond (fun ht9 => ?_) (fun ht9 => ?_)
  ·exact Z58
  refine Z84 ?_
  refine W.cond (fun ht18 => ?_) (fun ht18 => ?_)
  ·exact Z58
  exact N3
 refine Z12 ?_;refine R.fin [2, 3, 9] ?_;refine K.thN ?_
 refine W.cond (fun ht9 => ?_) (fun ht9 => ?_)
 ·exact Z58
 refine Z84 ?_
 refine W.cond (fun ht18 => ?_) (fun ht18 => ?_)
 ·exact Z58
 exact N3

theorem xw (s : Str) (Hp : List AObj) : AFun Tryz.prog 148 [A6 s] Hp (Mr (C8 s)) := by
 refine ACall.body [.cell 2 148] [0] Tryz.func148 Tryz.ntmps148 (fun d => ?_)
 refine Z60 ?_;refine Z32 ?_;refine Fl ?_;refine az ?_;refine R.fin [2, 3, 4] ?_
 refine W.cond (fun ht4 => ?_) (fun ht4 => ?_)
 ·refine Z5 ?_
  refine W.cond (fun ht4 => ?_) (fun ht4 => ?_)
  ·exact Z86
  refine Z97 ?_
  refine W.cond (fun ht9 => ?_) (fun ht9 => ?_)
  ·exact Z86
  refine Z8 ?_;refine R.fin [2, 3, 13] ?_
  refine W.cond (fun ht13 => ?_) (fun ht13 => ?_)
  ·refine Z5 ?_
   refine W.cond (fun ht13 => ?_) (fun ht13 => ?_)
   ·exact Z86
   refine l3 ?_
   refine W.cond (fun ht18 => ?_) (fun ht18 => ?_)
   ·exact Z86
   refine Z1 ?_;refine R.fin [2, 22] ?_
   refine W.cond (fun ht22 => ?_) (fun ht22 => ?_)
   ·exact Z86
   exact l5
  refine Z12 ?_;refine R.fin [2, 3, 13] ?_;refine K.thN ?_
  refine W.cond (fun ht13 => ?_) (fun ht13 => ?_)
  ·exact Z86
  refine l3 ?_
  refine W.cond (fun ht18 => ?_) (fun ht18 => ?_)
  ·exact Z86
  refine Z1 ?_;refine R.fin [2, 22] ?_
  refine W.cond (fun ht22 => ?_) (fun ht22 => ?_)
  ·exact Z86
  exact l5
 refine Z12 ?_;refine R.fin [2, 3, 4] ?_;refine K.thN ?_
 refine W.cond (fun ht4 => ?_) (fun ht4 => ?_)
 ·exact Z86
 refine Z97 ?_
 refine W.cond (fun ht9 => ?_) (fun ht9 => ?_)
 ·exact Z86
 refine Z8 ?_;refine R.fin [2, 3, 13] ?_
 refine W.cond (fun ht13 => ?_) (fun ht13 => ?_)
 ·refine Z5 ?_
  refine W.cond (fun ht13 => ?_) (fun ht13 => ?_)
  ·exact Z86
  refine l3 ?_
  refine W.cond (fun ht18 => ?_) (fun ht18 => ?_)
  ·exact Z86
  refine Z1 ?_;refine R.fin [2, 22] ?_
  refine W.cond (fun ht22 => ?_) (fun ht22 => ?_)
  ·exact Z86
  exact l5
 refine Z12 ?_;refine R.fin [2, 3, 13] ?_;refine K.thN ?_
 refine W.cond (fun ht13 => ?_) (fun ht13 => ?_)
 ·exact Z86
 refine l3 ?_
 refine W.cond (fun ht18 => ?_) (fun ht18 => ?_)
 ·exact Z86
 refine Z1 ?_;refine R.fin [2, 22] ?_
 refine W.cond (fun ht22 => ?_) (fun ht22 => ?_)
 ·exact Z86
 exact l5

theorem xy (e : Expr) (Hp : List AObj) : AFun Tryz.prog 116 [A4 e] Hp (Mr (Bo e.op e.text)) := by
 refine ACall.body [.cell 2 148] [0] Tryz.func116 Tryz.ntmps116 (fun d => ?_)
 refine Z2 ?_;refine Ju ?_;refine R.fin [1, 2] ?_;refine Z8 ?_;refine R.fin [1, 2, 4] ?_;refine Ns ?_;refine R.fin [1, 2, 4, 5] ?_
 refine W.cond (fun ht5 => ?_) (fun ht5 => ?_)
 ·refine Z34 ?_;refine Z6 ?_
  first | (by_cases e0 : Bo e.op e.text = ⟨[1], 1⟩; exact K.fin (V.one (V.cellN Tryz.isAgg148 Tryz.sizeOf148)) ⟨by rw [e0]; rfl, rfl⟩; exfalso; apply e0; simp_all [Bo]; done) | (by_cases e0 : Bo e.op e.text = ⟨[3], 3⟩; exact K.fin (V.one (V.cellN Tryz.isAgg148 Tryz.sizeOf148)) ⟨by rw [e0]; rfl, rfl⟩; exfalso; apply e0; simp_all [Bo]; done) | (by_cases e0 : Bo e.op e.text = D7 e.text; exact K.fin (V.one (V.cellN Tryz.isAgg148 Tryz.sizeOf148)) ⟨by rw [e0], rfl⟩ (hlow := Fm _); exfalso; apply e0; simp_all [Bo]; done) | (by_cases e0 : Bo e.op e.text = C8 e.text; exact K.fin (V.one (V.cellN Tryz.isAgg148 Tryz.sizeOf148)) ⟨by rw [e0], rfl⟩ (hlow := Fm _); exfalso; apply e0; simp_all [Bo]; done)
 refine Z1 ?_;refine R.fin [1, 2, 4, 9] ?_
 refine W.cond (fun ht9 => ?_) (fun ht9 => ?_)
 ·refine Z34 ?_;refine Z6 ?_
  first | (by_cases e0 : Bo e.op e.text = ⟨[1], 1⟩; exact K.fin (V.one (V.cellN Tryz.isAgg148 Tryz.sizeOf148)) ⟨by rw [e0]; rfl, rfl⟩; exfalso; apply e0; simp_all [Bo]; done) | (by_cases e0 : Bo e.op e.text = ⟨[3], 3⟩; exact K.fin (V.one (V.cellN Tryz.isAgg148 Tryz.sizeOf148)) ⟨by rw [e0]; rfl, rfl⟩; exfalso; apply e0; simp_all [Bo]; done) | (by_cases e0 : Bo e.op e.text = D7 e.text; exact K.fin (V.one (V.cellN Tryz.isAgg148 Tryz.sizeOf148)) ⟨by rw [e0], rfl⟩ (hlow := Fm _); exfalso; apply e0; simp_all [Bo]; done) | (by_cases e0 : Bo e.op e.text = C8 e.text; exact K.fin (V.one (V.cellN Tryz.isAgg148 Tryz.sizeOf148)) ⟨by rw [e0], rfl⟩ (hlow := Fm _); exfalso; apply e0; simp_all [Bo]; done)
 refine Z1 ?_;refine R.fin [1, 2, 13] ?_
 refine W.cond (fun ht13 => ?_) (fun ht13 => ?_)
 ·refine Z1 ?_;refine R.call Tryz.call147 (xv e.text _) ?_;refine Z13 ?_;refine Z6 ?_
  first | (by_cases e0 : Bo e.op e.text = ⟨[1], 1⟩; exact K.fin (V.one (V.cellN Tryz.isAgg148 Tryz.sizeOf148)) ⟨by rw [e0]; rfl, rfl⟩; exfalso; apply e0; simp_all [Bo]; done) | (by_cases e0 : Bo e.op e.text = ⟨[3], 3⟩; exact K.fin (V.one (V.cellN Tryz.isAgg148 Tryz.sizeOf148)) ⟨by rw [e0]; rfl, rfl⟩; exfalso; apply e0; simp_all [Bo]; done) | (by_cases e0 : Bo e.op e.text = D7 e.text; exact K.fin (V.one (V.cellN Tryz.isAgg148 Tryz.sizeOf148)) ⟨by rw [e0], rfl⟩ (hlow := Fm _); exfalso; apply e0; simp_all [Bo]; done) | (by_cases e0 : Bo e.op e.text = C8 e.text; exact K.fin (V.one (V.cellN Tryz.isAgg148 Tryz.sizeOf148)) ⟨by rw [e0], rfl⟩ (hlow := Fm _); exfalso; apply e0; simp_all [Bo]; done)
 refine Z15 ?_;refine Z1 ?_;refine R.call Tryz.call148 (xw e.text _) ?_;refine Z13 ?_
 first | (by_cases e0 : Bo e.op e.text = ⟨[1], 1⟩; exact K.fin (V.one (V.cellN Tryz.isAgg148 Tryz.sizeOf148)) ⟨by rw [e0]; rfl, rfl⟩; exfalso; apply e0; simp_all [Bo]; done) | (by_cases e0 : Bo e.op e.text = ⟨[3], 3⟩; exact K.fin (V.one (V.cellN Tryz.isAgg148 Tryz.sizeOf148)) ⟨by rw [e0]; rfl, rfl⟩; exfalso; apply e0; simp_all [Bo]; done) | (by_cases e0 : Bo e.op e.text = D7 e.text; exact K.fin (V.one (V.cellN Tryz.isAgg148 Tryz.sizeOf148)) ⟨by rw [e0], rfl⟩ (hlow := Fm _); exfalso; apply e0; simp_all [Bo]; done) | (by_cases e0 : Bo e.op e.text = C8 e.text; exact K.fin (V.one (V.cellN Tryz.isAgg148 Tryz.sizeOf148)) ⟨by rw [e0], rfl⟩ (hlow := Fm _); exfalso; apply e0; simp_all [Bo]; done)

theorem vd (a b : Int) (Hp : List AObj) : AFun Tryz.prog 149 [A2 a, A2 b] Hp (.tup [A2 (Bp a b).1, Aj (Bp a b).2]) := by
 refine ACall.body [.tmp 4, .tmp 5] [0, 1] Tryz.func149 Tryz.ntmps149 (fun d => ?_)
 refine Z1 ?_;refine R.fin [0, 1] ?_;refine Z18 ?_;refine Z20 ?_;refine R.fin [0, 1, 6] ?_
 refine W.cond (fun ht6 => ?_) (fun ht6 => ?_)
 ·refine Z20 ?_;refine Z17 ?_;refine Z6 ?_
  first | (by_cases e0 : Bp a b = (b, true); exact K.fin (V.two V.tmp V.tmp) ⟨by rw [e0], rfl⟩; exfalso; apply e0; simp_all [Bp]; done) | (by_cases e0 : Bp a b = (a, true); exact K.fin (V.two V.tmp V.tmp) ⟨by rw [e0], rfl⟩; exfalso; apply e0; simp_all [Bp]; done) | (by_cases e0 : Bp a b = (0, false); exact K.fin (V.two V.tmp V.tmp) ⟨by rw [e0], rfl⟩; exfalso; apply e0; simp_all [Bp]; done)
 refine Z20 ?_;refine Kj ?_;refine Z0 ?_;refine R.fin [0, 10] ?_
 refine W.cond (fun ht10 => ?_) (fun ht10 => ?_)
 ·refine Z20 ?_;refine Z17 ?_;refine Z6 ?_
  first | (by_cases e0 : Bp a b = (b, true); exact K.fin (V.two V.tmp V.tmp) ⟨by rw [e0], rfl⟩; exfalso; apply e0; simp_all [Bp]; done) | (by_cases e0 : Bp a b = (a, true); exact K.fin (V.two V.tmp V.tmp) ⟨by rw [e0], rfl⟩; exfalso; apply e0; simp_all [Bp]; done) | (by_cases e0 : Bp a b = (0, false); exact K.fin (V.two V.tmp V.tmp) ⟨by rw [e0], rfl⟩; exfalso; apply e0; simp_all [Bp]; done)
 refine Z15 ?_;refine Z1 ?_;refine Z17 ?_
 first | (by_cases e0 : Bp a b = (b, true); exact K.fin (V.two V.tmp V.tmp) ⟨by rw [e0], rfl⟩; exfalso; apply e0; simp_all [Bp]; done) | (by_cases e0 : Bp a b = (a, true); exact K.fin (V.two V.tmp V.tmp) ⟨by rw [e0], rfl⟩; exfalso; apply e0; simp_all [Bp]; done) | (by_cases e0 : Bp a b = (0, false); exact K.fin (V.two V.tmp V.tmp) ⟨by rw [e0], rfl⟩; exfalso; apply e0; simp_all [Bp]; done)

structure FitAt (s : Sign) (ks : List Int) (x : Nat × Int) : Prop where
 le : x.1 ≤ ks.length
 eq : Jb s.kids ks 0 = Jb (s.kids.drop x.1) (ks.drop x.1) x.2
theorem FitAt.step {s : Sign} {ks : List Int} {x : Nat × Int} (h : FitAt s ks x) (hk : x.1 < ks.length) (hs : x.1 < s.kids.length) : Jb s.kids ks 0 = (if s.kids[x.1] == -2 then Jb (s.kids.drop (x.1 + 1)) (ks.drop (x.1 + 1)) x.2 else if s.kids[x.1] == -1 then (if (Bp x.2 ks[x.1]).2 then Jb (s.kids.drop (x.1 + 1)) (ks.drop (x.1 + 1)) (Bp x.2 ks[x.1]).1 else none) else if (Bp s.kids[x.1] ks[x.1]).2 then Jb (s.kids.drop (x.1 + 1)) (ks.drop (x.1 + 1)) x.2 else none) := by
 rw [h.eq, List.drop_eq_getElem_cons hk, List.drop_eq_getElem_cons hs, Jb]
theorem FitAt.skip {s : Sign} {ks : List Int} {x : Nat × Int} (h : FitAt s ks x) (hk : x.1 < ks.length) (hs : x.1 < s.kids.length) (h2 : (s.kids[x.1] == -2) = true) : FitAt s ks (x.1 + 1, x.2) := ⟨hk, by rw [h.step hk hs, if_pos h2]⟩
theorem FitAt.same {s : Sign} {ks : List Int} {x : Nat × Int} (h : FitAt s ks x) (hk : x.1 < ks.length) (hs : x.1 < s.kids.length) (h2 : (s.kids[x.1] == -2) = false) (h1 : (s.kids[x.1] == -1) = true) (hm : (Bp x.2 ks[x.1]).2 = true) : FitAt s ks (x.1 + 1, (Bp x.2 ks[x.1]).1) := ⟨hk, by rw [h.step hk hs, if_neg (by rw [h2]; simp), if_pos h1, if_pos hm]⟩
theorem FitAt.want {s : Sign} {ks : List Int} {x : Nat × Int} (h : FitAt s ks x) (hk : x.1 < ks.length) (hs : x.1 < s.kids.length) (h2 : (s.kids[x.1] == -2) = false) (h1 : (s.kids[x.1] == -1) = false) (hm : (Bp s.kids[x.1] ks[x.1]).2 = true) : FitAt s ks (x.1 + 1, x.2) := ⟨hk, by rw [h.step hk hs, if_neg (by rw [h2]; simp), if_neg (by rw [h1]; simp), if_pos hm]⟩
theorem FitAt.bad {s : Sign} {ks : List Int} {x : Nat × Int} (h : FitAt s ks x) (hk : x.1 < ks.length) (hs : x.1 < s.kids.length) (h2 : (s.kids[x.1] == -2) = false) (hm : (if s.kids[x.1] == -1 then (Bp x.2 ks[x.1]).2 else (Bp s.kids[x.1] ks[x.1]).2) = false) : Gw s ks = (0, 10) := by
 unfold Gw
 rw [h.step hk hs, if_neg (by rw [h2]; simp)]
 split at hm
 ·rename_i h1
  rw [if_pos h1, if_neg (by rw [hm]; simp)]
 rename_i h1
 rw [if_neg h1, if_neg (by rw [hm]; simp)]
theorem FitAt.out {s : Sign} {ks : List Int} {x : Nat × Int} (h : FitAt s ks x) (hk : ks.length ≤ x.1) : Gw s ks = if s.own == -1 then (x.2, 0) else (s.own, 0) := by
 unfold Gw
 rw [h.eq, List.drop_of_length_le hk]
 cases s.kids.drop x.1 <;> rfl
theorem xz (s : Sign) (ks : List Int) (hks : ks.length ≤ s.kids.length) (hk2 : ks.length ≤ 1048576) (Hp : List AObj) : AFun Tryz.prog 117 [Mr s, .slice false 1 (ks.map A2)] Hp (.tup [A2 (Gw s ks).1, A2 (Gw s ks).2]) := by
 refine ACall.body [.tmp 4, .tmp 5] [0, 1] Tryz.func117 Tryz.ntmps117 (fun d => ?_)
 refine fm ?_;refine b6 ?_;refine R.fin [1, 2, 6] ?_;refine Z36 ?_;refine bh ?_
 refine AW.loopC (α := Nat × Int) (fun x => ⟨49, A3 2 (.ro [.slice false 1 (s.kids.map A2), A2 s.own]) (A3 6 (.ptr (oid Hp.length 0) 0) (A3 13 (.slice false 1 (ks.map A2)) (A3 14 (A2 (ks.length : Nat)) (A3 15 (A2 (x.1 : Nat)) (fun _ => .any))))), Hp, [.cells 3 [A2 x.2]], [], none⟩) (fun x => FitAt s ks x) (fun x => ks.length - x.1) ((0, 0)) ⟨Nat.zero_le _, rfl⟩ (StLe.of_eq (by simp)) rfl (fun x hx => ?_)
 refine Z2 ?_;refine R.fin [2, 6, 13, 14, 15, 16] ?_
 refine W.condX (fun ht16 => ?_) (fun ht16 => ?_)
 ·have hlt : x.1 < ks.length := by simpa using ht16
  have hls : x.1 < s.kids.length := by omega
  refine S7 ?_
  refine R.gw (h := Q.indexAddr (x.1) (A2 ks[x.1]) (fun _ => Ac hlt)) (hr := ?_)
  refine Z24 ?_;refine R.fin [2, 6, 7, 8, 13, 14, 15] ?_;refine Z20 ?_
  refine R.gw (h := Q.indexAddr (x.1) (A2 s.kids[x.1]) (fun _ => Ac hls)) (hr := ?_)
  refine Nt ?_;refine R.fin [2, 6, 8, 9, 13, 14, 15] ?_;refine Z8 ?_;refine R.fin [2, 6, 8, 9, 13, 14, 15, 26] ?_
  refine W.cond (fun ht26 => ?_) (fun ht26 => ?_)
  ·refine W.keep [2, 6, 13, 14, 15] ?_;refine Z31 ?_;refine K.blE ?_;refine K.thN ?_;refine Z12 ?_;refine bh ?_
   first | (refine K.lpN (x.1 + 1, x.2) (hx.skip hlt hls ht26) (by show ks.length - (x.1 + 1) < ks.length - x.1; omega) ?_; exact StCut.take (own := [.cells 3 [A2 x.2]]) (fun _ => .refl _) (by repeat (first | exact At | refine As (by first | (simp [or_imp, forall_and]; done) | (simp [oid] <;> omega)) ?_)) (by intro y hy; rw [List.mem_singleton.1 hy]; intro z hz; rw [List.mem_singleton.1 hz]; simp) (by simp)) | (refine K.lpN (x.1 + 1, (Bp x.2 ks[x.1]).1) (hx.same hlt hls ht26 ht28 (by simpa using ht38)) (by show ks.length - (x.1 + 1) < ks.length - x.1; omega) ?_; exact StCut.take (own := [.cells 3 [A2 (Bp x.2 ks[x.1]).1]]) (fun _ => .refl _) (by repeat (first | exact At | refine As (by first | (simp [or_imp, forall_and]; done) | (simp [oid] <;> omega)) ?_)) (by intro y hy; rw [List.mem_singleton.1 hy]; intro z hz; rw [List.mem_singleton.1 hz]; simp) (by simp)) | (refine K.lpN (x.1 + 1, x.2) (hx.want hlt hls ht26 ht28 (by simpa using ht38)) (by show ks.length - (x.1 + 1) < ks.length - x.1; omega) ?_; exact StCut.take (own := [.cells 3 [A2 x.2]]) (fun _ => .refl _) (by repeat (first | exact At | refine As (by first | (simp [or_imp, forall_and]; done) | (simp [oid] <;> omega)) ?_)) (by intro y hy; rw [List.mem_singleton.1 hy]; intro z hz; rw [List.mem_singleton.1 hz]; simp) (by simp))
  refine Kl ?_;refine R.fin [2, 6, 8, 9, 10, 13, 14, 15] ?_;refine Z8 ?_;refine R.fin [2, 6, 8, 10, 13, 14, 15, 28] ?_
  refine W.cond (fun ht28 => ?_) (fun ht28 => ?_)
  ·refine Z59 ?_;refine R.fin [2, 6, 8, 10, 13, 14, 15] ?_;refine K.thN ?_;refine Z45 ?_;refine R.call Tryz.call149 (vd _ _ _) ?_;refine Z77 ?_;refine R.fin [2, 6, 10, 11, 12, 13, 14, 15] ?_;refine Z8 ?_;refine R.fin [2, 6, 10, 11, 13, 14, 15, 38] ?_
   refine W.cond (fun ht38 => ?_) (fun ht38 => ?_)
   ·have hbad := hx.bad hlt hls ht26 (by first | (rw [if_pos ht28]; simpa using ht38) | (rw [if_neg (by rw [ht28]; simp)]; simpa using ht38))
    refine Z87 ?_;exact sm
   refine Z5 ?_;refine Z30 ?_;refine En ?_;refine bh ?_;refine Pn ?_;refine bh ?_
   first | (refine K.lpN (x.1 + 1, x.2) (hx.skip hlt hls ht26) (by show ks.length - (x.1 + 1) < ks.length - x.1; omega) ?_; exact StCut.take (own := [.cells 3 [A2 x.2]]) (fun _ => .refl _) (by repeat (first | exact At | refine As (by first | (simp [or_imp, forall_and]; done) | (simp [oid] <;> omega)) ?_)) (by intro y hy; rw [List.mem_singleton.1 hy]; intro z hz; rw [List.mem_singleton.1 hz]; simp) (by simp)) | (refine K.lpN (x.1 + 1, (Bp x.2 ks[x.1]).1) (hx.same hlt hls ht26 ht28 (by simpa using ht38)) (by show ks.length - (x.1 + 1) < ks.length - x.1; omega) ?_; exact StCut.take (own := [.cells 3 [A2 (Bp x.2 ks[x.1]).1]]) (fun _ => .refl _) (by repeat (first | exact At | refine As (by first | (simp [or_imp, forall_and]; done) | (simp [oid] <;> omega)) ?_)) (by intro y hy; rw [List.mem_singleton.1 hy]; intro z hz; rw [List.mem_singleton.1 hz]; simp) (by simp)) | (refine K.lpN (x.1 + 1, x.2) (hx.want hlt hls ht26 ht28 (by simpa using ht38)) (by show ks.length - (x.1 + 1) < ks.length - x.1; omega) ?_; exact StCut.take (own := [.cells 3 [A2 x.2]]) (fun _ => .refl _) (by repeat (first | exact At | refine As (by first | (simp [or_imp, forall_and]; done) | (simp [oid] <;> omega)) ?_)) (by intro y hy; rw [List.mem_singleton.1 hy]; intro z hz; rw [List.mem_singleton.1 hz]; simp) (by simp))
  refine Z5 ?_;refine Z45 ?_;refine R.call Tryz.call149 (vd _ _ _) ?_;refine Z77 ?_;refine R.fin [2, 6, 10, 11, 12, 13, 14, 15] ?_;refine Z8 ?_;refine R.fin [2, 6, 10, 11, 13, 14, 15, 38] ?_
  refine W.cond (fun ht38 => ?_) (fun ht38 => ?_)
  ·have hbad := hx.bad hlt hls ht26 (by first | (rw [if_pos ht28]; simpa using ht38) | (rw [if_neg (by rw [ht28]; simp)]; simpa using ht38))
   refine Z87 ?_;exact sm
  refine Z5 ?_;refine Z30 ?_;refine En ?_;refine bh ?_;refine Pn ?_;refine bh ?_
  first | (refine K.lpN (x.1 + 1, x.2) (hx.skip hlt hls ht26) (by show ks.length - (x.1 + 1) < ks.length - x.1; omega) ?_; exact StCut.take (own := [.cells 3 [A2 x.2]]) (fun _ => .refl _) (by repeat (first | exact At | refine As (by first | (simp [or_imp, forall_and]; done) | (simp [oid] <;> omega)) ?_)) (by intro y hy; rw [List.mem_singleton.1 hy]; intro z hz; rw [List.mem_singleton.1 hz]; simp) (by simp)) | (refine K.lpN (x.1 + 1, (Bp x.2 ks[x.1]).1) (hx.same hlt hls ht26 ht28 (by simpa using ht38)) (by show ks.length - (x.1 + 1) < ks.length - x.1; omega) ?_; exact StCut.take (own := [.cells 3 [A2 (Bp x.2 ks[x.1]).1]]) (fun _ => .refl _) (by repeat (first | exact At | refine As (by first | (simp [or_imp, forall_and]; done) | (simp [oid] <;> omega)) ?_)) (by intro y hy; rw [List.mem_singleton.1 hy]; intro z hz; rw [List.mem_singleton.1 hz]; simp) (by simp)) | (refine K.lpN (x.1 + 1, x.2) (hx.want hlt hls ht26 ht28 (by simpa using ht38)) (by show ks.length - (x.1 + 1) < ks.length - x.1; omega) ?_; exact StCut.take (own := [.cells 3 [A2 x.2]]) (fun _ => .refl _) (by repeat (first | exact At | refine As (by first | (simp [or_imp, forall_and]; done) | (simp [oid] <;> omega)) ?_)) (by intro y hy; rw [List.mem_singleton.1 hy]; intro z hz; rw [List.mem_singleton.1 hz]; simp) (by simp))
 have hxe : ks.length ≤ x.1 := by simpa using ht16
 have hout := hx.out hxe
 refine Z28 ?_;refine Z36 ?_;refine R.fin [2, 6, 45] ?_
 refine W.cond (fun ht45 => ?_) (fun ht45 => ?_)
 ·refine Z20 ?_;refine Z41 ?_;exact K.fin (V.two V.tmp V.tmp) ⟨by rw [hout, if_pos ht45], rfl⟩
 refine Z5 ?_;refine Z45 ?_;refine Z17 ?_;exact K.fin (V.two V.tmp V.tmp) ⟨by rw [hout, if_neg (by rw [ht45]; simp)], rfl⟩

theorem jk {n k : Nat} {own : Bool} {l : List Int} : Low n (.slice own k (l.map A2)) := low_slice.2 fun y hy => by
 obtain ⟨z, _, rfl⟩ := List.mem_map.1 hy
 simp
theorem mx {n : Nat} {e : Expr} : Low n (.ro (C0 e)) := by have := Ad n e; rw [Ab] at this; simpa using this
theorem Gn {c : List Col} {t : Str} (h : ¬ (Ar t c < 0)) : ∃ (j : Nat), Ar t c = (j : Int) ∧ j < c.length := by
 obtain ⟨j, y, h2, _, h3⟩ := find_mem.1 h
 exact ⟨j, h3, (List.getElem?_eq_some_iff.1 h2).1⟩
theorem V3 {c : List Col} {e : Expr} (h : (e.op == 1) = true) : Cf c e = (e.val.kind, 0) := by rw [Kz]; unfold Qt; rw [if_pos h]
theorem R3 {c : List Col} {e : Expr} (h1 : (e.op == 1) = false) (h : (e.op == 2) = true) : Cf c e = Mp c e.text := by rw [Kz]; unfold Qt; rw [h1, if_pos h]; rfl
theorem V4 {c : List Col} {e : Expr} (h1 : (e.op == 1) = false) (h2 : (e.op == 2) = false) {x : Nat} (hx : x < e.kids.length) (h0 : ∀ (j : Nat) (y : Expr), j < x → e.kids[j]? = some y → ((Cf c y).2 != 0) = false) (hb : ((Cf c e.kids[x]).2 != 0) = true) : Cf c e = (0, (Cf c e.kids[x]).2) := by
 rw [Kz]
 unfold Qt
 rw [h1, h2]
 have : (e.kids.map (Cf c)).find? (fun q => q.2 != 0) = some ((e.kids.map (Cf c))[x]'(by simpa using hx)) := Yc (by simpa using hx) (by simpa using hb) (fun j y hj hy => by
  rw [List.getElem?_map, Option.map_eq_some_iff] at hy
  obtain ⟨z, hz, rfl⟩ := hy
  exact h0 j z hj hz)
 rw [this]
 simp
theorem V5 {c : List Col} {e : Expr} (h1 : (e.op == 1) = false) (h2 : (e.op == 2) = false) (h0 : ∀ (j : Nat) (y : Expr), j < e.kids.length → e.kids[j]? = some y → ((Cf c y).2 != 0) = false) : Cf c e = Gw (Bo e.op e.text) (e.kids.map fun y => (Cf c y).1) := by
 rw [Kz]
 unfold Qt
 rw [h1, h2]
 have : (e.kids.map (Cf c)).find? (fun q => q.2 != 0) = none := Qd (fun j y hy => by
  rw [List.getElem?_map, Option.map_eq_some_iff] at hy
  obtain ⟨z, hz, rfl⟩ := hy
  exact h0 j z (List.getElem?_eq_some_iff.1 hz).1 hz)
 rw [this]
 simp only [List.map_map]
 rfl
theorem R4 (f : Expr → Int) (l : List Expr) {x : Nat} (h : x < l.length) : ((l.take x).map f).map A2 ++ [A2 (f l[x])] = ((l.take (x + 1)).map f).map A2 := by rw [List.take_succ_eq_append_getElem h, List.map_append, List.map_append]; rfl
theorem c85 (c : List Col) (hc : OkCols c) : ∀ (n : Nat) (e : Expr), okE n e → Fu Da e = true → ∀ Hp : List AObj, AFun Tryz.prog 85 [A4 e, A8 c] Hp (.tup [A2 (Cf c e).1, A2 (Cf c e).2]) := by
 intro n
 induction n with
 | zero => exact fun e h => h.elim
 | succ n ih =>
 intro e hok hnd Hp
 have hnd0 := hnd
 rw [J3, Bool.and_eq_true] at hnd0
 refine ACall.body [.tmp 4, .tmp 5] [0, 1] Tryz.func85 Tryz.ntmps85 (fun d => ?_)
 refine fm ?_;refine Z8 ?_;refine R.fin [1, 2, 13] ?_;refine Ns ?_;refine R.fin [1, 2, 13, 14] ?_
 refine W.cond (fun ht14 => ?_) (fun ht14 => ?_)
 ·have hk := V3 (c := c) ht14
  refine Z1 ?_;refine Z24 ?_;refine Z17 ?_;refine Z6 ?_;exact lb
 refine Z1 ?_;refine R.fin [1, 2, 19] ?_
 refine W.cond (fun ht19 => ?_) (fun ht19 => ?_)
 ·have hk := R3 (c := c) ht14 ht19
  refine Z20 ?_;refine R.call Tryz.call59 (c59 c hc e.text _) ?_;refine R.go ?_;refine R.fin [1, 6] ?_;refine Z8 ?_;refine R.fin [1, 6, 26] ?_
  refine W.cond (fun ht26 => ?_) (fun ht26 => ?_)
  ·have hk2 : Mp c e.text = (0, 9) := if_pos (by simpa using ht26)
   refine Z87 ?_;exact so
  have hneg : ¬ (Ar e.text c < 0) := by simpa using ht26
  obtain ⟨j, hj, hjl⟩ := Gn hneg
  have hk2 : Mp c e.text = (c[j].kind, 0) := by
   unfold Mp
   rw [if_neg hneg, hj, Int.toNat_natCast, List.getD_eq_getElem?_getD, List.getElem?_eq_getElem hjl]
   rfl
  rw [hj]
  refine Lk ?_
  refine R.gw (h := Q.indexAddr (j) (Ag c[j]) (fun _ => Ac hjl)) (hr := ?_)
  refine Z67 ?_;refine Z17 ?_;exact so
 refine Z15 ?_;refine Z2 ?_;refine R.fin [1, 2, 7] ?_;refine Z69 ?_;refine R.nilSl 7 1 ?_;refine Z67 ?_;refine R.fin [1, 2, 7, 33, 34, 35] ?_
 refine AW.loopC (α := Nat) (fun x => ⟨59, A3 1 (A8 c) (A3 2 (.ro (C0 e)) (A3 7 (.slice true 1 (((e.kids.take x).map fun y => (Cf c y).1).map A2)) (A3 33 (.slice false 6 (e.kids.map A4)) (A3 34 (A2 (e.kids.length : Nat)) (A3 35 (A2 (x : Nat)) (fun _ => .any)))))), Hp, [], [], none⟩) (fun x => x ≤ e.kids.length ∧ ∀ (j : Nat) (y : Expr), j < x → e.kids[j]? = some y → ((Cf c y).2 != 0) = false) (fun x => e.kids.length - x) (0) ⟨Nat.zero_le _, fun j y h => by omega⟩ (StLe.of_eq (by simp)) rfl (fun x hx => ?_)
 refine Z2 ?_;refine R.fin [1, 2, 7, 33, 34, 35, 36] ?_
 refine W.condX (fun ht36 => ?_) (fun ht36 => ?_)
 ·have hlt : x < e.kids.length := by simpa using ht36
  have hkl := hok.2.1
  refine N1 ?_
  refine R.gw (h := Q.indexAddr (x) (A4 e.kids[x]) (fun _ => Ac hlt)) (hr := ?_)
  refine Nt ?_;refine R.fin [1, 2, 7, 9, 33, 34, 35] ?_;refine Z1 ?_;refine R.call Tryz.call85 (ih e.kids[x] (hok.2.2 _ (List.getElem_mem hlt)) ((Hb _ _).1 hnd0.2 _ (List.getElem_mem hlt)) _) ?_;refine Z77 ?_;refine R.fin [1, 2, 7, 10, 11, 33, 34, 35] ?_;refine Z8 ?_;refine R.fin [1, 2, 7, 10, 11, 33, 34, 35, 46] ?_
  refine W.cond (fun ht46 => ?_) (fun ht46 => ?_)
  ·have hkb := V4 (c := c) ht14 ht19 hlt hx.2 ht46
   refine Z20 ?_;refine Z41 ?_;exact sr
  refine Z5 ?_;refine bc ?_
  refine R.append jU Tryz.type3 ?_ ?_ ?_
  ·simp only [List.length_map, List.length_take, List.length_cons, List.length_nil, Tryz.t3]; omega
  ·simp only [List.length_map, List.length_take, List.length_cons, List.length_nil, Tryz.t3]; omega
  refine Hy ?_;refine R.fin [1, 2, 7, 33, 34, 35] ?_;refine Pn ?_;refine R.fin [1, 2, 7, 33, 34, 35] ?_;refine K.lpN (x + 1) ⟨hlt, Aw hlt hx.2 ht46⟩ (by omega) ?_
  simp only [show Tryz.t3.size = 1 from rfl, R4]
  exact StCut.take (own := []) (fun _ => .refl _) (by repeat (first | exact At | refine As (by first | exact jk | exact mx | exact Cu | (simp [or_imp, forall_and]; done)) ?_)) (by simp) (by simp)
 have hxe : e.kids.take x = e.kids := List.take_of_length_le (by simp at ht36; omega)
 have hxl : e.kids.length ≤ x := by simp at ht36; omega
 have hka := V5 (c := c) ht14 ht19 (fun j y hj hy => hx.2 j y (by omega) hy)
 rw [hxe]
 refine Z28 ?_;refine Z2 ?_;refine R.call Tryz.call116 (xy e _) ?_;refine R.go ?_
 refine R.call Tryz.call117 (xz (Bo e.op e.text) (e.kids.map fun y => (Cf c y).1) (by rw [Hd hnd0.1 ht14 ht19]; simp) (by simpa using hok.2.1) _) ?_
 refine Z67 ?_;refine Z17 ?_;exact K.fin (V.two V.tmp V.tmp) ⟨by rw [hka], rfl⟩

theorem Ms {e : Expr} (h : Ao e = true) : Fu Da e = true := by
 rw [Ep] at h
 unfold C7 at h
 rw [Bool.and_eq_true] at h
 exact h.2
theorem c60 (n : Nat) (e : Expr) (hok : okE n e) (hn : n ≤ 1048576) (c : List Col) (hc : OkCols c) (Hp : List AObj) : AFun Tryz.prog 60 [A4 e, A8 c] Hp (.tup [A2 (Cr e c).1, A2 (Cr e c).2]) := by
 refine ACall.body [.tmp 4, .tmp 5] [0, 1] Tryz.func60 Tryz.ntmps60 (fun d => ?_)
 refine fm ?_;refine Z32 ?_;refine R.call Tryz.call44 (c44 n e hok hn _) ?_;refine Jt ?_;refine G.call Tryz.call41 (fun hB => c41 c hc _) ?_;refine Z68 ?_;refine R.fin [1, 2, 13] ?_
 refine W.cond (fun ht13 => ?_) (fun ht13 => ?_)
 ·have hk : Cr e c = (0, 1) := if_pos ht13
  exact su
 have hk : Cr e c = Cf c e := if_neg (by rw [ht13]; simp)
 have hr : Ao e = true := by simp only [Bool.or_eq_false_iff, Bool.not_eq_false'] at ht13; exact ht13.1
 refine Lk ?_;refine R.call Tryz.call85 (c85 c hc n e hok (Ms hr) _) ?_;refine Z67 ?_;exact t6

theorem El {n k : Nat} {o : Bool} {l : List Col} : Low n (.slice o k (l.map Ag)) := by simp [or_imp, forall_and]
theorem c95 (c : List Col) (hc : OkCols c) (take : List Str) (ht : take.length ≤ 1048576) (give : List Col) (hg : OkCols give) (hg2 : give.length ≤ 1000000) (Hp : List AObj) : AFun Tryz.prog 95 [A8 c, C4 take, A8 give] Hp (.tup [A8 (Bi c take give).1, A2 (Bi c take give).2]) := by
 refine ACall.body [.tmp 6, .tmp 7] [0, 1, 2, 9] Tryz.func95 Tryz.ntmps95 (fun d => ?_)
 refine Z1 ?_;refine R.fin [0, 1, 2, 9] ?_;refine Z32 ?_;refine R.call Tryz.call19 (c19 c hc _) ?_;refine R.go ?_;refine R.fin [0, 1, 2, 9, 12] ?_
 refine W.cond (fun ht12 => ?_) (fun ht12 => ?_)
 ·have hr : Bb c = false := by rw [Kv] at ht12; simpa using ht12
  refine Nw ?_;exact sa
 have hr : Bb c = true := by rw [Kv] at ht12; simpa using ht12
 refine Z5 ?_;refine Z8 ?_;refine R.call Tryz.call131 (xb c hc take ht _) ?_;refine R.go ?_;refine R.fin [0, 1, 2, 9, 16] ?_
 refine W.cond (fun ht16 => ?_) (fun ht16 => ?_)
 ·have hk : Dj c take = false := by simpa using ht16
  refine Nw ?_;refine Z43 ?_;exact K.fin (V.two V.tmp V.tmp) ⟨by rw [Xd hr hk]; try rfl, rfl⟩
 have hk : Dj c take = true := by simpa using ht16
 refine Z5 ?_;refine Z33 ?_;refine R.fin [0, 1, 2, 8, 9] ?_;refine Z69 ?_;refine R.nilOwn 0 2 ?_
 refine R.assumeLow (fun hlow => ?_)
 refine Z0 ?_;refine R.call Tryz.call132 (xd c take _) ?_;refine R.fin [2, 8, 9, 19] ?_;refine AW.block ?_
 refine W.rangeV (m := 1) Tryz.call165 (fun FR as' bd' hFR has hbd => ?_)
 have hFRl : ∀ s, Low (Hp.length + 3) (FR s) := by
  intro s
  rw [hFR]
  refine Low.strip ?_
  revert s
  repeat (first | exact At | refine As (by simp [oid, or_imp, forall_and] <;> try omega) ?_)
 have hOl : ∀ {k : Nat}, ∀ x ∈ [AObj.cells 22 [.slice true 2 ((Bu (c.take k) take).map Ag)], AObj.defs, AObj.loop LoopState.ready none FR 41 #[20] as' bd' (oid Hp.length 1)], ObjLow (Hp.length + 3) x := by
  intro k x hx
  simp only [List.mem_cons, List.mem_nil_iff, or_false] at hx
  rcases hx with rfl | rfl | rfl
  ·intro y hy
   rw [List.mem_singleton.1 hy]
   exact El
  ·trivial
  exact g8
 refine ⟨_, xe (oid Hp.length 2) c take hc.len ht (fun k => Hp ++ [AObj.cells 22 [.slice true 2 ((Bu (c.take k) take).map Ag)], AObj.defs, AObj.loop LoopState.ready none FR 41 #[20] as' bd' (oid Hp.length 1)]) (fun k => by simp) (by simp [oid]) (fun k x hx => ?_) (fun k y hk hcn => by simp only [Qs hk hcn]) (fun k y X hk hcn => ?_), ?_⟩
 ·have := Hn (fun x hx => ObjLow.le (by omega) (hlow x hx)) hOl x hx
  simpa using this
 ·generalize hV : Hp ++ [AObj.cells 22 [.slice true 2 ((Bu (c.take k) take).map Ag)], AObj.defs, AObj.loop LoopState.ready none FR 41 #[20] as' bd' (oid Hp.length 1)] ++ X = V
  have hL : V[oid Hp.length 2]? = some (AObj.loop LoopState.ready none FR 41 #[20] as' bd' (oid Hp.length 1)) := by rw [← hV, List.append_assoc, Al]; rfl
  have hA0 : V[oid Hp.length 0]? = some (AObj.cells 22 [.slice true 2 ((Bu (c.take k) take).map Ag)]) := by rw [← hV, List.append_assoc, Al]; rfl
  refine AYield.ofRound (pd := none) (fr := FR) (sz := 41) (ps := #[20]) (df := oid Hp.length 1) (asg := as') (bd := bd') hL rfl (by decide) (fun d => ?_)
  subst hFR has hbd
  refine W.keep [8, 20] ?_;refine AW.region ?_;refine Z21 ?_;refine R.fin [8, 9] ?_
  refine ⟨rfl, none, hL, ?_⟩
  generalize hbz : (AObj.loop LoopState.busy _ _ _ _ _ _ _) = bz
  have hA : (V.set (oid Hp.length 2) bz)[oid Hp.length 0]? = some (AObj.cells 22 [.slice true 2 ((Bu (c.take k) take).map Ag)]) := by rw [List.getElem?_set_ne (oid_ne (by decide))]; exact hA0
  refine AW.block ?_;refine AW.region ?_;refine R.loadUpT jA hA ?_;refine Z70 ?_
  refine R.append jU Tryz.type58 ?_ ?_ ?_
  ·have h1 := Et (c.take k) take; have h2 := hc.len; simp only [List.length_take] at h1; simp [Tryz.t58]; omega
  ·have h1 := Et (c.take k) take; have h2 := hc.len; simp only [List.length_take] at h1; simp [Tryz.t58]; omega
  refine R.storeUpT jS (getset hA) ?_ ?_
  ·exact cg
  refine Z93 ?_
  subst hbz
  refine px ?_
  refine ⟨rfl, ?_⟩
  subst hV
  simp only [List.append_assoc, D4, List.cons_append, List.nil_append, List.set_cons_succ, List.set_cons_zero]
  rw [Yq hk hcn, List.map_append]
  rfl
 rintro r H' rfl
 simp only [List.take_length]
 refine ⟨Hp, _, _, _, rfl, rfl, fun h => h, ?_, rfl, by simp, ?_⟩
 ·intro o ho
  have : o = oid Hp.length 1 := by simpa using ho
  subst this
  rw [Al]
  rfl
 refine Z10 ?_;refine Cs ?_;refine R.loadOwnT jA ?_;refine R.go ?_
 refine R.append jU Tryz.type58 ?_ ?_ ?_
 ·have h1 := Et c take; have h2 := Hc hr; simp [Tryz.t58]; omega
 ·have h1 := Et c take; have h2 := Hc hr; simp [Tryz.t58]; omega
 refine R.storeOwnT jS ?_;refine R.fin [8] ?_;refine N1 ?_
 have e10 : (Bu c take).map Ag ++ give.map Ag = (Bu c take ++ give).map Ag := (List.map_append ..).symm
 rw [e10]
 generalize hout : Bu c take ++ give = out
 have ho : OkCols out := Xi hc hr hg hg2 hout
 refine R.go ?_;refine R.call Tryz.call133 (xc out ho _) ?_;refine Z0 ?_;refine R.fin [8, 28] ?_
 refine W.cond (fun ht28 => ?_) (fun ht28 => ?_)
 ·have hn : Ef out = false := by simpa using ht28
  refine Nw ?_;refine Z80 ?_;exact K.fin (V.two V.tmp V.tmp) ⟨by rw [Xe hr hk hout hn]; try rfl, rfl⟩
 have hn : Ef out = true := by simpa using ht28
 refine Z2 ?_;refine R.call Tryz.call41 (c41 out ho _) ?_;refine Z0 ?_;refine R.fin [8, 32] ?_
 refine W.cond (fun ht32 => ?_) (fun ht32 => ?_)
 ·have hq : Ek out = false := by rw [Ku] at ht32; simpa using ht32
  refine Nw ?_;refine Z80 ?_;exact K.fin (V.two V.tmp V.tmp) ⟨by rw [Xf hr hk hout hn hq]; try rfl, rfl⟩
 have hq : Ek out = true := by rw [Ku] at ht32; simpa using ht32
 refine Z45 ?_;refine R.fin [8, 36] ?_
 refine W.cond (fun ht36 => ?_) (fun ht36 => ?_)
 ·have h12 : 12 < out.length := by simp at ht36; omega
  refine Nw ?_;refine Z80 ?_;exact K.fin (V.two V.tmp V.tmp) ⟨by rw [Xg hr hk hout hn hq h12]; try rfl, rfl⟩
 have h12 : ¬ 12 < out.length := by simp at ht36; omega
 refine Z15 ?_;refine Z20 ?_;refine R.fin [6, 7] ?_;refine AW.ret ?_;exact K.fin (V.two V.tmp V.tmp) ⟨by rw [Xh hr hk hout hn hq h12]; try rfl, rfl⟩

theorem c6u (c : List Col) (Hp : List AObj) : AFun Tryz.prog 9 [A8 c] Hp (Aj (E4 c)) := by
 refine ACall.body [.tmp 2] [0] Tryz.func9 Tryz.ntmps9 (fun d => ?_)
 refine Tv ?_;refine R.fin [0, 6] ?_
 refine W.cond (fun ht6 => ?_) (fun ht6 => ?_)
 ·rw [List.length_map] at ht6
  have hm : E4 c = true := by unfold E4; rw [ht6]; rfl
  exact kz
 rw [List.length_map] at ht6
 have hl50 : c.length ≤ 50 := by simp at ht6; omega
 refine fl ?_
 refine AW.loopC (α := Nat) (fun x => ⟨20, A3 0 (A8 c) (A3 3 (A2 (x : Nat)) (fun _ => .any)), Hp, [], [], none⟩) (fun x => x ≤ c.length ∧ ∀ (j : Nat) (v : Col), j < x → c[j]? = some v → decide ((100 : Int) < (v.name.length : Int)) = false) (fun x => c.length - x) (0) ⟨Nat.zero_le _, fun j v h => by omega⟩ (StLe.of_eq (by simp)) rfl (fun x hx => ?_)
 refine Z54 ?_;refine R.fin [0, 3, 10] ?_
 refine W.cond (fun ht10 => ?_) (fun ht10 => ?_)
 ·have hlt : x < c.length := by simpa using ht10
  refine Lj ?_
  refine R.gw (h := Q.indexAddr (x) (Ag c[x]) (fun _ => Ac hlt)) (hr := ?_)
  refine Z67 ?_;refine R.fin [0, 3, 19] ?_
  refine W.cond (fun ht19 => ?_) (fun ht19 => ?_)
  ·have hm : E4 c = true := by unfold E4; rw [Bool.or_eq_true]; exact .inr (List.any_eq_true.2 ⟨c[x], List.getElem_mem hlt, ht19⟩)
   refine Z22 ?_;exact Z57
  refine Z15 ?_;refine Z59 ?_
  refine R.gw (h := Q.add64 (h1 := fun _ => by omega) (h2 := fun _ => by omega)) (hr := ?_)
  refine R.go ?_;refine Ib ?_;refine K.lpN (x + 1) ⟨hlt, Aw hlt hx.2 ht19⟩ (by omega) ?_;exact StCut.of_eq (by simp)
 have hxe : c.length ≤ x := by simpa using ht10
 have hm : E4 c = false := by
  unfold E4
  rw [ht6, Bool.false_or, List.any_eq_false]
  intro v hv
  obtain ⟨j, hj⟩ := List.getElem?_of_mem hv
  have := hx.2 j v (by have := (List.getElem?_eq_some_iff.1 hj).1; omega) hj
  rw [this]
  simp
 exact l6

/-- law18.Wide. -/
def Fb (m : Mov) : Bool := (((((E4 m.give || decide ((20 : Int) < (m.take.length : Int))) || decide ((20 : Int) < (m.ahead.length : Int))) || decide ((20 : Int) < (m.back.length : Int))) || m.take.any fun s => decide ((100 : Int) < (s.length : Int))) || m.ahead.any Ou) || m.back.any Ou
def Dk (l : List Mov) : Bool := decide ((12 : Int) < (l.length : Int)) || l.any Fb
theorem E6 {α : Type} {p : α → Bool} {l : List α} {x : Nat} (h : l.length ≤ x) (hp : ∀ (j : Nat) (v : α), j < x → l[j]? = some v → p v = false) : l.any p = false := by
 rw [List.any_eq_false]
 intro v hv
 obtain ⟨j, hj⟩ := List.getElem?_of_mem hv
 rw [hp j v (by have := (List.getElem?_eq_some_iff.1 hj).1; omega) hj]
 simp
theorem Sr {n : Nat} {m : Mov} : ∀ y ∈ Jc m, Low n y := by
 intro y hy
 simp only [Jc, List.mem_cons, List.mem_nil_iff, or_false] at hy
 rcases hy with rfl | rfl | rfl | rfl | rfl <;> simp [or_imp, forall_and, Ad]
theorem V6 {n : Nat} {m : Mov} : Low n (Cv m) := Go.SX.low_agg.2 Sr
theorem Fo {n k : Nat} {o : Bool} {l : List Mov} : Low n (.slice o k (l.map Cv)) := low_slice.2 fun y hy => by
 obtain ⟨m, _, rfl⟩ := List.mem_map.1 hy
 exact V6
theorem Ea {α : Type} {p : α → Bool} (l : List α) : (l.any fun s => !(p s)) = !(l.all p) := by
 induction l with
 | nil => rfl
 | cons a r ih => rw [List.any_cons, List.all_cons, ih]; cases p a <;> simp
theorem c10 (l : List Mov) (Hp : List AObj) : AFun Tryz.prog 10 [C5 l] Hp (Aj (Dk l)) := by
 refine ACall.body [.tmp 2] [0] Tryz.func10 Tryz.ntmps10 (fun d => ?_)
 refine Tv ?_;refine R.fin [0, 10] ?_
 refine W.cond (fun ht10 => ?_) (fun ht10 => ?_)
 ·rw [List.length_map] at ht10
  have hm : Dk l = true := by unfold Dk; rw [ht10]; rfl
  exact kz
 rw [List.length_map] at ht10
 have hl12 : l.length ≤ 12 := by simp at ht10; omega
 refine fl ?_
 refine AW.loopC (α := Nat) (fun x => ⟨82, A3 0 (C5 l) (A3 3 (A2 (x : Nat)) (fun _ => .any)), Hp, [], [], none⟩) (fun x => x ≤ l.length ∧ ∀ (j : Nat) (v : Mov), j < x → l[j]? = some v → Fb v = false) (fun x => l.length - x) (0) ⟨Nat.zero_le _, fun j v h => by omega⟩ (StLe.of_eq (by simp)) rfl (fun x hx => ?_)
 refine Z54 ?_;refine R.fin [0, 3, 14] ?_
 refine W.cond (fun ht14 => ?_) (fun ht14 => ?_)
 ·have hlt : x < l.length := by simpa using ht14
  have hbad : Fb l[x] = true → Dk l = true := fun h => by unfold Dk; rw [Bool.or_eq_true]; exact .inr (List.any_eq_true.2 ⟨l[x], List.getElem_mem hlt, h⟩)
  refine Lj ?_
  refine R.gw (h := Q.indexAddr (x) (Cv l[x]) (fun _ => Ac hlt)) (hr := ?_)
  refine Nt ?_;refine R.fin [0, 3, 4] ?_;refine Z8 ?_;refine R.call Tryz.call9 (c6u l[x].give _) ?_;refine R.go ?_;refine S8 ?_;refine Z62 ?_;refine Z62 ?_;refine R.go ?_;refine R.fin [0, 3, 4, 41] ?_
  refine W.cond (fun ht41 => ?_) (fun ht41 => ?_)
  ·simp only [List.length_map] at ht41
   have hm : Dk l = true := hbad (by unfold Fb; rw [ht41]; rfl)
   refine Z22 ?_;refine K.thR ?_;exact Z57
  simp only [List.length_map] at ht41
  have hk : l[x].take.length ≤ 20 ∧ l[x].ahead.length ≤ 20 ∧ l[x].back.length ≤ 20 := by simp only [Bool.or_eq_false_iff, decide_eq_false_iff_not] at ht41; omega
  refine Z99 ?_;refine R.fin [0, 3, 4, 5] ?_
  refine AW.loopC (α := Nat) (fun a => ⟨82, A3 0 (C5 l) (A3 3 (A2 (x : Nat)) (A3 4 (.ptr (oid Hp.length 0) 0) (A3 5 (A2 (a : Nat)) (fun _ => .any)))), Hp, [.cells 64 (Jc l[x])], [], none⟩) (fun a => a ≤ l[x].take.length ∧ ∀ (j : Nat) v, j < a → l[x].take[j]? = some v → (fun s : Str => decide ((100 : Int) < (s.length : Int))) v = false) (fun a => l[x].take.length - a) (0) ⟨Nat.zero_le _, fun j v h => by omega⟩ (StLe.of_eq (by simp)) rfl (fun a ha => ?_)
  refine Kk ?_;refine R.fin [0, 3, 4, 5, 46] ?_
  refine W.cond (fun ht46 => ?_) (fun ht46 => ?_)
  ·have ha1 : a < l[x].take.length := by simpa using ht46
   refine S5 ?_
   refine R.gw (h := Q.indexAddr (a) (A6 l[x].take[a]) (fun _ => Ac ha1)) (hr := ?_)
   refine Z24 ?_;refine R.fin [0, 3, 4, 5, 55] ?_
   refine W.cond (fun ht55 => ?_) (fun ht55 => ?_)
   ·have hm : Dk l = true := hbad (by unfold Fb; rw [ht41, List.any_eq_true.2 ⟨_, List.getElem_mem ha1, ht55⟩]; rfl)
    refine Pm ?_;exact Z57
   refine Z61 ?_;refine R.fin [0, 3, 4, 5] ?_;exact K.lpN (a + 1) ⟨ha1, Aw ha1 ha.2 ht55⟩ (by omega) (StCut.of_eq rfl)
  have hae : l[x].take.length ≤ a := by simpa using ht46
  have e1 := E6 hae ha.2
  refine Z42 ?_;refine Z32 ?_;refine R.fin [0, 3, 4, 6] ?_
  refine AW.loopC (α := Nat) (fun b => ⟨82, A3 0 (C5 l) (A3 3 (A2 (x : Nat)) (A3 4 (.ptr (oid Hp.length 0) 0) (A3 6 (A2 (b : Nat)) (fun _ => .any)))), Hp, [.cells 64 (Jc l[x])], [], none⟩) (fun b => b ≤ l[x].ahead.length ∧ ∀ (j : Nat) v, j < b → l[x].ahead[j]? = some v → Ou v = false) (fun b => l[x].ahead.length - b) (0) ⟨Nat.zero_le _, fun j v h => by omega⟩ (StLe.of_eq (by simp)) rfl (fun b hb => ?_)
  refine Kk ?_;refine R.fin [0, 3, 4, 6, 60] ?_
  refine W.cond (fun ht60 => ?_) (fun ht60 => ?_)
  ·have hb1 : b < l[x].ahead.length := by simpa using ht60
   refine S5 ?_
   refine R.gw (h := Q.indexAddr (b) (A4 l[x].ahead[b]) (fun _ => Ac hb1)) (hr := ?_)
   refine R.go ?_;refine R.call Tryz.call21 (c21 l[x].ahead[b] _) ?_;refine R.fin [0, 3, 4, 6, 68] ?_
   refine W.cond (fun ht68 => ?_) (fun ht68 => ?_)
   ·have hm : Dk l = true := hbad (by unfold Fb; rw [List.any_eq_true.2 ⟨_, List.getElem_mem hb1, ht68⟩]; simp)
    refine Pm ?_;exact Z57
   refine Z61 ?_;refine R.fin [0, 3, 4, 6] ?_;exact K.lpN (b + 1) ⟨hb1, Aw hb1 hb.2 ht68⟩ (by omega) (StCut.of_eq rfl)
  have hbe : l[x].ahead.length ≤ b := by simpa using ht60
  have e2 := E6 hbe hb.2
  refine Z42 ?_;refine Z2 ?_;refine R.fin [0, 3, 4, 7] ?_
  refine AW.loopC (α := Nat) (fun e => ⟨82, A3 0 (C5 l) (A3 3 (A2 (x : Nat)) (A3 4 (.ptr (oid Hp.length 0) 0) (A3 7 (A2 (e : Nat)) (fun _ => .any)))), Hp, [.cells 64 (Jc l[x])], [], none⟩) (fun e => e ≤ l[x].back.length ∧ ∀ (j : Nat) v, j < e → l[x].back[j]? = some v → Ou v = false) (fun e => l[x].back.length - e) (0) ⟨Nat.zero_le _, fun j v h => by omega⟩ (StLe.of_eq (by simp)) rfl (fun e he => ?_)
  refine Kk ?_;refine R.fin [0, 3, 4, 7, 73] ?_
  refine W.cond (fun ht73 => ?_) (fun ht73 => ?_)
  ·have he1 : e < l[x].back.length := by simpa using ht73
   refine S5 ?_
   refine R.gw (h := Q.indexAddr (e) (A4 l[x].back[e]) (fun _ => Ac he1)) (hr := ?_)
   refine R.go ?_;refine R.call Tryz.call21 (c21 l[x].back[e] _) ?_;refine R.fin [0, 3, 4, 7, 81] ?_
   refine W.cond (fun ht81 => ?_) (fun ht81 => ?_)
   ·have hm : Dk l = true := hbad (by unfold Fb; rw [List.any_eq_true.2 ⟨_, List.getElem_mem he1, ht81⟩]; simp)
    refine Z22 ?_;refine Z6 ?_;refine K.lpR ?_;exact Z57
   refine Z61 ?_;refine R.fin [0, 3, 4, 7] ?_;exact K.lpN (e + 1) ⟨he1, Aw he1 he.2 ht81⟩ (by omega) (StCut.of_eq rfl)
  have hee : l[x].back.length ≤ e := by simpa using ht73
  have e3 := E6 hee he.2
  have e4 : Fb l[x] = false := by unfold Fb; rw [ht41, e1, e2, e3]; rfl
  refine Z31 ?_;refine b7 ?_;refine Ib ?_;refine K.lpN (x + 1) ⟨hlt, Aw hlt hx.2 e4⟩ (by omega) ?_
  exact StCut.take (own := []) (fun _ => .refl _) (by repeat (first | exact At | refine As (by first | (simp [or_imp, forall_and]; done) | exact Fo | (simp [oid] <;> omega)) ?_)) (by simp) (by simp)
 have hxe : l.length ≤ x := by simpa using ht14
 have hm : Dk l = false := by unfold Dk; rw [ht10, E6 hxe hx.2]; rfl
 exact l6

theorem c98 (l : List Expr) (h : OkEs l) (Hp : List AObj) : AFun Tryz.prog 98 [Gy l] Hp (Aj (l.all C7)) := by
 refine ACall.body [.tmp 2] [0] Tryz.func98 Tryz.ntmps98 (fun d => ?_)
 refine Z40 ?_;refine Z32 ?_;refine Ib ?_
 refine AW.loopC (α := Nat) (fun x => ⟨16, A3 0 (Gy l) (A3 3 (A2 (x : Nat)) (fun _ => .any)), Hp, [], [], none⟩) (fun x => x ≤ l.length ∧ ∀ (j : Nat) (v : Expr), j < x → l[j]? = some v → (!C7 v) = false) (fun x => l.length - x) (0) ⟨Nat.zero_le _, fun j v h => by omega⟩ (StLe.of_eq (by simp)) rfl (fun x hx => ?_)
 refine Z54 ?_;refine R.fin [0, 3, 7] ?_
 refine W.cond (fun ht7 => ?_) (fun ht7 => ?_)
 ·have hlt : x < l.length := by simpa using ht7
  have hlen := h.len
  refine Lj ?_
  refine R.gw (h := Q.indexAddr (x) (A4 l[x]) (fun _ => Ac hlt)) (hr := ?_)
  refine R.go ?_;refine R.call Tryz.call47 (c47 61 l[x] (h.ok _ (List.getElem_mem hlt)) (by decide) (h.size _ (List.getElem_mem hlt)) _) ?_;refine R.go ?_;refine R.fin [0, 3, 15] ?_
  refine W.cond (fun ht15 => ?_) (fun ht15 => ?_)
  ·have hm : l.all C7 = false := by rw [List.all_eq_false]; exact ⟨_, List.getElem_mem hlt, by simpa using ht15⟩
   refine Z22 ?_;exact Z57
  refine Wd ?_;exact K.lpN (x + 1) ⟨hlt, Aw hlt hx.2 ht15⟩ (by omega) (StCut.of_eq rfl)
 have hxe : l.length ≤ x := by simpa using ht7
 have hm : l.all C7 = true := by have := E6 hxe hx.2; rw [Ea] at this; simpa using this
 exact l6

theorem P4 (k w : Int) (Hp : List AObj) : AFun Tryz.prog 166 [A2 k, A2 w] Hp (Aj (Ck k w)) := by
 refine ACall.body [.tmp 4] [0, 1] Tryz.func166 Tryz.ntmps166 (fun d => ?_)
 refine Z52 ?_;refine Z20 ?_;refine Kj ?_;exact fp

theorem c32 (n : Nat) (e : Expr) (hok : okE n e) (hn : n ≤ 1048576) (c : List Col) (hc : OkCols c) (w : Int) (Hp : List AObj) : AFun Tryz.prog 32 [A4 e, A8 c, A2 w] Hp (Aj (V2 e c w)) := by
 refine ACall.body [.tmp 6] [0, 1, 2] Tryz.func32 Tryz.ntmps32 (fun d => ?_)
 refine Z1 ?_;refine R.fin [1, 2, 3] ?_;refine Z1 ?_;refine R.call Tryz.call60 (c60 n e hok hn c hc _) ?_;refine Z77 ?_;refine R.fin [2, 7, 8] ?_;refine Nx ?_;refine Z7 ?_;refine Kj ?_;refine Z0 ?_;refine Z88 ?_;exact K.fin (V.one V.tmp) ⟨by unfold V2; rfl, rfl⟩

end Go.SX.Nb
