/- Texts on the way to this: SoundJoins answers true for whatever it is handed: moves that are sound over columns, and others that are sound over what is behind those, are sound all together and lead to the same columns, unless they are too many. (part 5) -/
import Derived.ReadAgain
import Derived.ChangeSame
import Derived.ChangeArms
import Derived.ChangeOld
import Derived.ChangeFn
import Derived.MapPlaces
import Derived.DataReads
import Derived.OpenShut
import Derived.RowKit
import Derived.Deep.DeepHandedRow
import Derived.Test.YtepoiomaocjhfaaGreatDoorCards
import Derived.Test.YtepoiomaocjhfaaGreatDoorTie
import Derived.Lay
import Derived.Lib.LaidTab
import Derived.Stop.LaidErr
import Derived.Shelf.Vars
import Derived.ChangeBears
import Derived.Test.YtepoiomaocjhfaaGreatDoorSoundJoinsCardSaidPart4
set_option linter.all false
namespace Go.SX
variable [GI : GlobInv]
open Classical Go.RowKit Go.ChangeShapes
section
variable {P : Program} {H : Type} {enc : TypeId × Value → H}

/-- The first ghost: whatever lies there is read for good. -/
noncomputable def G0 (W : World) : Gh := ⟨fun b o => if (W.cell? ⟨b, o, none⟩).isSome then .fix else .free, fun _ => 0, 0⟩
theorem lq {W : World} {b o : Nat} {u : Value} (h : W.cell? ⟨b, o, none⟩ = some u) : (G0 W).tag b o = .fix := by simp [G0, h]
theorem Kl {W : World} {b : Nat} (h : b < W.heap.size) : Gd (G0 W) W b := ⟨h, fun o => by simp only [G0]; split <;> simp, fun i hi => absurd hi (Nat.not_lt_zero _)⟩
theorem gc (W : World) : HeapRel (G0 W) [] W := ⟨fun i x h => by simp at h, rfl, fun i j hi => absurd hi (Nat.not_lt_zero _)⟩
theorem ge {W : World} (h : Fv W) : TagOK (G0 W) W := by
 refine ⟨fun b o hb => ?_, fun b o i hb => ?_, fun b o L hb => ?_, fun x hx => ?_⟩
 ·simp only [G0] at hb
  split at hb
  ·rename_i hs; exact Option.isSome_iff_exists.1 hs
  exact absurd rfl hb
 ·simp only [G0] at hb; split at hb <;> cases hb
 ·simp only [G0] at hb; split at hb <;> cases hb
 obtain ⟨v, h1, h2⟩ := h x hx
 exact ⟨Kl (Array.getElem?_eq_some_iff.1 h1).1, v, h1, h2⟩

/-- What a datum of a pt type pu as. -/
inductive DRep (P : Program) : TypeId → DataW H → AV → Prop
 | int {t : TypeId} {k : IntKind} {n : Int} (hu : P.underlying t = some (.int k)) (wf : (Lit.int k n).wf = true) : DRep P t (.lit (.int k n)) (.v (.int k n))
 | bool {t : TypeId} {b : Bool} (hu : P.underlying t = some .bool) : DRep P t (.lit (.bool b)) (.v (.bool b))
 | str {t : TypeId} {bs : List UInt8} (hu : P.underlying t = some .string) : DRep P t (.lit (.string bs)) (.v (sv bs))
 | nil {t e : TypeId} (hu : P.underlying t = some (.slice e)) : DRep P t .nil (.slice false (P.cellsOf e) [])
 | slice {t e : TypeId} {elems spare : List (DataW H)} {ys : List AV} (hu : P.underlying t = some (.slice e)) (hn : ys.length = elems.length)
   (h : ∀ (i : Nat) (d : DataW H) (y : AV), elems[i]? = some d → ys[i]? = some y → DRep P e d y) : DRep P t (.slice elems spare) (.slice false (P.cellsOf e) ys)
 | struct {t : TypeId} {fs : Array Field} {parts : List (DataW H)} {ys : List AV} (hu : P.underlying t = some (.struct fs)) (hn : parts.length = fs.size) (hn' : ys.length = fs.size)
   (h : ∀ (i : Nat) (f : Field) (d : DataW H) (y : AV), fs[i]? = some f → parts[i]? = some d → ys[i]? = some y → DRep P f.type d y) : DRep P t (.agg parts) (.agg (ys.flatMap AV.cells))

/-- Types that are made of numbers, texts, bools, slices and structs alone. -/
structure PlainT (P : Program) (T : TypeId → Prop) : Prop where
 look : ∀ t, T t → (P.cellsOf t = 1 ∧ ((∃ k, P.underlying t = some (.int k)) ∨ P.underlying t = some .bool ∨ P.underlying t = some .string ∨ (∃ e, P.underlying t = some (.slice e) ∧ T e ∧ 0 < P.cellsOf e))) ∨
  (∃ fs, P.underlying t = some (.struct fs) ∧ (∀ f ∈ fs.toList, T f.type) ∧ P.cellsOf t = (fs.toList.map fun f => P.cellsOf f.type).sum ∧
   ∀ (j : Nat) (f : Field), fs.toList[j]? = some f → f.offset = ((fs.toList.take j).map fun f => P.cellsOf f.type).sum)

/-- The reading of a row of cells. -/
def CRep (W : World) (y : AV) (cs : List Value) : Prop :=
 y.cells.length = cs.length ∧ (∀ c ∈ y.cells, c.one = true) ∧ ∀ (j : Nat) (c : AV) (v : Value), y.cells[j]? = some c → cs[j]? = some v → Rep (G0 W) W none c v

theorem CRep.v1 {W : World} {x : Value} (h : x.oneCell' = true) : CRep W (.v x) [x] :=
 ⟨rfl, by simp [AV.cells, AV.one, h], fun j c v h1 h2 => by
  match j with
  | 0 => simp [AV.cells] at h1 h2; subst h1; subst h2; exact .v _ _
  | j + 1 => simp [AV.cells] at h1⟩

theorem S6 {f : AV → List AV} : ∀ (ys : List AV) (j : Nat) (c : AV), (ys.flatMap f)[j]? = some c → ∃ (i : Nat) (y : AV) (q : Nat), ys[i]? = some y ∧ (f y)[q]? = some c ∧ j = ((ys.take i).map fun y => (f y).length).sum + q
 | [], j, c, h => by simp at h
 | y :: r, j, c, h => by
  rw [List.flatMap_cons] at h
  rcases Nat.lt_or_ge j (f y).length with h' | h'
  ·rw [List.getElem?_append_left h'] at h
   exact ⟨0, y, j, rfl, h, by simp⟩
  rw [List.getElem?_append_right h'] at h
  obtain ⟨i, z, q, h1, h2, h3⟩ := S6 r _ c h
  exact ⟨i + 1, z, q, h1, h2, by simp only [List.take_succ_cons, List.map_cons, List.sum_cons]; omega⟩
theorem Hz {α : Type} {R : Nat → α → Prop} : ∀ (n : Nat), (∀ i, i < n → ∃ y, R i y) → ∃ ys : List α, ys.length = n ∧ ∀ (i : Nat) (y : α), ys[i]? = some y → R i y
 | 0, _ => ⟨[], rfl, fun i y h => by simp at h⟩
 | n + 1, h => by
  obtain ⟨ys, h1, h2⟩ := Hz n (fun i hi => h i (by omega))
  obtain ⟨y, hy⟩ := h n (by omega)
  refine ⟨ys ++ [y], by simp [h1], fun i z hz => ?_⟩
  rcases Nat.lt_or_ge i n with h' | h'
  ·rw [List.getElem?_append_left (by omega)] at hz; exact h2 i z hz
  rw [List.getElem?_append_right (by omega)] at hz
  have : i = n := by
   have := (List.getElem?_eq_some_iff.1 hz).1
   simp at this; omega
  subst this
  rw [h1] at hz
  simp at hz
  exact hz ▸ hy
theorem J4 {α β : Type} {f : α → Nat} {g : β → Nat} : ∀ (l : List α) (m : List β), l.length = m.length → (∀ (i : Nat) (a : α) (b : β), l[i]? = some a → m[i]? = some b → f a = g b) → (l.map f).sum = (m.map g).sum
 | [], [], _, _ => rfl
 | [], b :: m, h, _ => by simp at h
 | a :: l, [], h, _ => by simp at h
 | a :: l, b :: m, h, hh => by
  simp only [List.map_cons, List.sum_cons]
  rw [hh 0 a b rfl rfl, J4 l m (by simpa using h) (fun i a b h1 h2 => hh (i + 1) a b h1 h2)]

theorem c7 {T : TypeId → Prop} (PT : PlainT P T) {W : World} : ∀ (n : Nat) (t : TypeId) (cs : List Value) (x : DataW H × List MemPlace), T t → DataW.trod enc P W 0 (fun _ => true) true n t cs = some x →
  ∃ y, DRep P t x.1 y ∧ CRep W y cs ∧ cs.length = P.cellsOf t := by
 intro n
 induction n with
 | zero => intro t cs x _ h; simp [DataW.trod] at h
 | succ n ih =>
  intro t cs x hT h
  rcases PT.look t hT with ⟨hc1, ⟨k, hu⟩ | hu | hu | ⟨e, hu, he, hz⟩⟩ | ⟨fs, hu, hf, hsum, hoff⟩
  ·obtain ⟨m, rfl, rfl, hw⟩ := DataW.trod_int hu h
   exact ⟨_, .int hu hw, .v1 rfl, hc1.symm⟩
  ·obtain ⟨b, rfl, rfl⟩ := DataW.trod_bool hu h
   exact ⟨_, .bool hu, .v1 rfl, hc1.symm⟩
  ·obtain ⟨s, rfl, rfl, _⟩ := DataW.trod_string hu h
   exact ⟨_, .str hu, .v1 rfl, hc1.symm⟩
  ·rcases DataW.trod_slice hu h with ⟨rfl, rfl⟩ | ⟨a, len, cap, elems, rest, m, hm, rfl, rfl, hb, hlc, hcm, hel, hE, _, _⟩
   ·refine ⟨_, .nil hu, ⟨rfl, by simp [AV.cells, AV.one], fun j c v h1 h2 => ?_⟩, hc1.symm⟩
    match j with
    | 0 => simp [AV.cells] at h1 h2; subst h1; subst h2; exact .slice0 _ _ _
    | j + 1 => simp [AV.cells] at h1
   injection hm with hm
   subst hm
   subst hel
   have hEi : ∀ i, i < elems.length → ∃ y, (∀ d, elems[i]? = some d → DRep P e d.1 y) ∧ ∃ ci, W.cells? 0 (a.add (i * P.cellsOf e)) (P.cellsOf e) = some ci ∧ CRep W y ci := fun i hi => by
    have h1 := hE i hi
    rw [List.getElem?_eq_getElem hi, Option.bind_eq_some_iff] at h1
    obtain ⟨ci, h2, h3⟩ := h1
    obtain ⟨y, h4, h5, _⟩ := ih e ci _ he h3
    exact ⟨y, fun d hd => by rw [List.getElem?_eq_getElem hi] at hd; injection hd with hd; subst hd; exact h4, ci, h2, h5⟩
   obtain ⟨ys, hyl, hys⟩ := Hz elems.length hEi
   refine ⟨.slice false (P.cellsOf e) ys, .slice hu (by simp [hyl]) (fun i d y hd hy => ?_), ⟨rfl, by simp [AV.cells, AV.one], fun j c v h1 h2 => ?_⟩, hc1.symm⟩
   ·rw [List.getElem?_map, Option.map_eq_some_iff] at hd
    obtain ⟨d', hd', rfl⟩ := hd
    exact (hys i y hy).1 d' hd'
   match j with
   | j + 1 => simp [AV.cells] at h1
   | 0 =>
    simp [AV.cells] at h1 h2
    subst h1; subst h2
    by_cases h0 : elems.length = 0
    ·have : ys = [] := List.eq_nil_of_length_eq_zero (by omega)
     subst this
     rw [h0]
     exact .sliceE _ _ _ _
    have hspot : a.spot = none := by
     obtain ⟨ci, hci, _⟩ := (hys 0 ys[0] (List.getElem?_eq_getElem (by omega))).2
     obtain ⟨_, g1, g2⟩ := World.cells?_some hci
     have g3 := g2 0 hz
     rw [List.getElem?_eq_getElem (by omega)] at g3
     simp only [Nat.zero_mul, Addr.add, if_true] at g3
     unfold World.cell? at g3
     split at g3
     ·split at g3
      ·cases g3
      rename_i hs; simpa using hs
     cases g3
    refine .slice _ false _ ys a _ cap (fun i j => (W.cell? ⟨a.block, a.off + i * P.cellsOf e + j, none⟩).getD undef) hspot hyl.symm hlc (fun x hx => ?_) (fun x hx => ?_) (fun i x j y hx hy => ?_) (fun i x j y hx hy => ?_) (fun h => by cases h)
    ·obtain ⟨i, hi⟩ := List.getElem?_of_mem hx
     obtain ⟨ci, hci, hcr⟩ := (hys i x hi).2
     rw [hcr.1]
     exact (World.cells?_some hci).2.1
    ·obtain ⟨i, hi⟩ := List.getElem?_of_mem hx
     obtain ⟨ci, hci, hcr⟩ := (hys i x hi).2
     exact hcr.2.1
    ·obtain ⟨ci, hci, hcr⟩ := (hys i x hx).2
     obtain ⟨_, g1, g2⟩ := World.cells?_some hci
     have hj : j < P.cellsOf e := by
      have := (List.getElem?_eq_some_iff.1 hy).1
      rw [hcr.1] at this; omega
     have g3 := g2 j hj
     rw [List.getElem?_eq_getElem (by omega), Ao hspot, Ao rfl] at g3
     exact ⟨lq g3, by rw [g3]; rfl⟩
    obtain ⟨ci, hci, hcr⟩ := (hys i x hx).2
    obtain ⟨_, g1, g2⟩ := World.cells?_some hci
    have hj : j < P.cellsOf e := by
     have := (List.getElem?_eq_some_iff.1 hy).1
     rw [hcr.1] at this; omega
    have g3 := g2 j hj
    rw [List.getElem?_eq_getElem (by omega), Ao hspot, Ao rfl] at g3
    simp only at g3
    rw [g3]
    exact hcr.2.2 j y _ hy (List.getElem?_eq_getElem (by omega))
  obtain ⟨xs, m, hm, rfl, hcl, hxl, hX⟩ := DataW.trod_struct hu h
  injection hm with hm
  subst hm
  have hXi : ∀ i, i < fs.size → ∃ y, ∀ (f : Field), fs[i]? = some f → (∀ d, xs[i]? = some d → DRep P f.type d.1 y) ∧ CRep W y ((cs.drop f.offset).take (P.cellsOf f.type)) ∧ y.cells.length = P.cellsOf f.type := fun i hi => by
   have h1 := hX i fs[i] (Array.getElem?_eq_getElem hi)
   rw [List.getElem?_eq_getElem (by omega)] at h1
   obtain ⟨y, h2, h3, h4⟩ := ih _ _ _ (hf _ (by simp)) h1
   refine ⟨y, fun f hf' => ?_⟩
   rw [Array.getElem?_eq_getElem hi] at hf'
   injection hf' with hf'
   subst hf'
   exact ⟨fun d hd => by rw [List.getElem?_eq_getElem (by omega)] at hd; injection hd with hd; subst hd; exact h2, h3, by rw [h3.1, h4]⟩
  obtain ⟨ys, hyl, hys⟩ := Hz fs.size hXi
  have hlenI : ∀ (i : Nat), ((ys.take i).map fun y => y.cells.length).sum = ((fs.toList.take i).map fun f => P.cellsOf f.type).sum := fun i => by
   refine J4 _ _ (by simp [hyl]) (fun j y f h1 h2 => ?_)
   rw [List.getElem?_take] at h1 h2
   split at h1
   ·rename_i hj
    rw [if_pos hj] at h2
    exact (hys j y h1 f (by simpa using h2)).2.2
   cases h1
  have htot : (ys.flatMap AV.cells).length = cs.length := by
   rw [List.length_flatMap, hcl, hsum]
   refine J4 _ _ (by simp [hyl]) (fun j y f h1 h2 => (hys j y h1 f (by simpa using h2)).2.2)
  refine ⟨.agg (ys.flatMap AV.cells), .struct hu (by simp [hxl]) hyl (fun i f d y hf' hd hy => ?_), ⟨htot, fun c hc => ?_, fun j c v h1 h2 => ?_⟩, hcl⟩
  ·rw [List.getElem?_map, Option.map_eq_some_iff] at hd
   obtain ⟨d', hd', rfl⟩ := hd
   exact (hys i y hy f hf').1 d' hd'
  ·obtain ⟨y, hy, hcy⟩ := List.mem_flatMap.1 hc
   obtain ⟨i, hi⟩ := List.getElem?_of_mem hy
   have hlt : i < fs.size := by rw [← hyl]; exact (List.getElem?_eq_some_iff.1 hi).1
   exact ((hys i y hi fs[i] (Array.getElem?_eq_getElem hlt)).2.1).2.1 c hcy
  obtain ⟨i, y, q, g1, g2, rfl⟩ := S6 ys j c h1
  have hlt : i < fs.size := by rw [← hyl]; exact (List.getElem?_eq_some_iff.1 g1).1
  obtain ⟨_, k2, k3⟩ := hys i y g1 fs[i] (Array.getElem?_eq_getElem hlt)
  have hq : q < P.cellsOf (fs[i]).type := by have := (List.getElem?_eq_some_iff.1 g2).1; omega
  refine k2.2.2 q c v g2 ?_
  rw [List.getElem?_take, if_pos hq, List.getElem?_drop, hoff i fs[i] (by simp [hlt]), ← hlenI i]
  exact h2

/-- A measure of data. -/
structure Bulk (B : DataW H → Nat) : Prop where
 str : ∀ bs, bs.length ≤ B (.lit (.string bs))
 slice : ∀ elems spare, elems.length ≤ B (.slice elems spare) ∧ ∀ d ∈ elems, B d ≤ B (.slice elems spare)
 agg : ∀ parts, ∀ d ∈ parts, B d ≤ B (.agg parts)
theorem DRep.int' {t : TypeId} {k : IntKind} {d : DataW H} {y : AV} (hu : P.underlying t = some (.int k)) (h : DRep P t d y) : ∃ n, d = .lit (.int k n) ∧ y = .v (.int k n) ∧ k.min ≤ n ∧ n ≤ k.max := by
 cases h with
 | int hu' wf => rw [hu] at hu'; injection hu' with e; injection e with e; subst e; exact ⟨_, rfl, rfl, by simpa [Lit.wf] using wf⟩
 | _ hu' => rw [hu] at hu'; cases hu'
theorem DRep.str' {t : TypeId} {d : DataW H} {y : AV} (hu : P.underlying t = some .string) (h : DRep P t d y) : ∃ s, d = .lit (.string s) ∧ y = .v (sv s) := by
 cases h with
 | str hu' => exact ⟨_, rfl, rfl⟩
 | _ hu' => rw [hu] at hu'; cases hu'
theorem DRep.slice' {t e : TypeId} {d : DataW H} {y : AV} {B : DataW H → Nat} (hB : Bulk B) {α : Type} (A : α → AV) (R : α → Prop) {b : Nat} (hu : P.underlying t = some (.slice e)) (h : DRep P t d y) (hb : B d ≤ b)
  (hE : ∀ d y, B d ≤ b → DRep P e d y → ∃ x, y = A x ∧ R x) : ∃ l : List α, y = .slice false (P.cellsOf e) (l.map A) ∧ l.length ≤ b ∧ ∀ x ∈ l, R x := by
 cases h with
 | nil hu' => rw [hu] at hu'; injection hu' with e'; injection e' with e'; subst e'; exact ⟨[], rfl, Nat.zero_le _, fun x hx => by cases hx⟩
 | slice hu' hn hh =>
  rw [hu] at hu'; injection hu' with e'; injection e' with e'; subst e'
  rename_i elems spare ys
  obtain ⟨h1, h2⟩ := hB.slice elems spare
  have key : ∀ (ys : List AV) (es : List (DataW H)), ys.length = es.length → (∀ d ∈ es, B d ≤ b) → (∀ (i : Nat) (d : DataW H) (y : AV), es[i]? = some d → ys[i]? = some y → DRep P e d y) → ∃ l : List α, ys = l.map A ∧ ∀ x ∈ l, R x := by
   intro ys
   induction ys with
   | nil => exact fun es _ _ _ => ⟨[], rfl, fun x hx => by cases hx⟩
   | cons y ys ih =>
    intro es hl hb2 hr
    cases es with
    | nil => simp at hl
    | cons d es =>
     obtain ⟨x, rfl, hx⟩ := hE d y (hb2 d (by simp)) (hr 0 d y rfl rfl)
     obtain ⟨l, rfl, hR⟩ := ih es (by simpa using hl) (fun d hd => hb2 d (by simp [hd])) (fun i d y a c => hr (i + 1) d y a c)
     exact ⟨x :: l, rfl, fun z hz => by
      rcases List.mem_cons.1 hz with rfl | hz
      ·exact hx
      exact hR z hz⟩
  obtain ⟨l, rfl, hR⟩ := key ys elems hn (fun d hd => Nat.le_trans (h2 d hd) hb) hh
  exact ⟨l, rfl, by simp at hn; omega, hR⟩
 | _ hu' => rw [hu] at hu'; cases hu'
theorem DRep.struct' {t : TypeId} {fs : Array Field} {d : DataW H} {y : AV} {B : DataW H → Nat} (hB : Bulk B) (hu : P.underlying t = some (.struct fs)) (h : DRep P t d y) :
  ∃ ys : List AV, ys.length = fs.size ∧ y = .agg (ys.flatMap AV.cells) ∧ ∀ (i : Nat) (f : Field) (z : AV), fs[i]? = some f → ys[i]? = some z → ∃ d', B d' ≤ B d ∧ DRep P f.type d' z := by
 cases h with
 | struct hu' hn hn' hh =>
  rw [hu] at hu'; injection hu' with e'; injection e' with e'; subst e'
  rename_i parts ys
  refine ⟨ys, hn', rfl, fun i f z h1 h2 => ?_⟩
  have hlt : i < parts.length := by rw [hn]; exact (Array.getElem?_eq_some_iff.1 h1).1
  exact ⟨parts[i], hB.agg parts _ (List.getElem_mem hlt), hh i f parts[i] z h1 (List.getElem?_eq_getElem hlt) h2⟩
 | _ hu' => rw [hu] at hu'; cases hu'

/-- An argument's reading. -/
theorem gg {T : TypeId → Prop} (PT : PlainT P T) {W : World} {t : TypeId} {v : Value} {d : DataW H} {ps : List MemPlace} {b0 : Nat} (hT : T t) (hok : Value.okWide P W .any b0 t v) (h : DataW.Trod enc P W 0 (fun _ => true) true t v d ps) :
  ∃ y, DRep P t d y ∧ Rep (G0 W) W none y v := by
 obtain ⟨n, hn⟩ := h
 obtain ⟨y, h1, h2, h3⟩ := c7 PT n t _ _ hT hn
 refine ⟨y, h1, ?_⟩
 rcases PT.look t hT with ⟨hc1, hone⟩ | ⟨fs, hu, _⟩
 ·have hva : ∀ cs, v ≠ .agg cs := fun cs e => by
   subst e
   rcases hone with ⟨k, hu⟩ | hu | hu | ⟨e, hu, he, hz⟩ <;> simp [Value.okWide, hu, Cell.okWide, Cell.ok] at hok
  have hvc : v.cells = #[v] := by cases v <;> first | rfl | exact absurd rfl (hva _)
  have hyc : y.cells = [y] := by
   cases h1 with
   | struct hu => rcases hone with ⟨k, hu'⟩ | hu' | hu' | ⟨e, hu', he, hz⟩ <;> rw [hu] at hu' <;> cases hu'
   | _ => rfl
  have := h2.2.2 0 y v (by rw [hyc]; rfl) (by rw [hvc]; rfl)
  exact this
 obtain ⟨cs, rfl, hsz, _⟩ : ∃ cs, v = .agg cs ∧ cs.size = P.cellsOf t ∧ Row.okWide P W .any b0 t cs := by
  simp only [Value.okWide, hu] at hok
  exact hok
 cases h1 with
 | struct hu' hn1 hn2 hh =>
  refine .agg _ _ _ (by have := h2.1; simp only [AV.cells, Value.cells, Array.length_toList] at this; exact this.symm) h2.2.1 (fun i c u a b => h2.2.2 i c u a (by simpa [Value.cells] using b))
 | int hu' => rw [hu] at hu'; cases hu'
 | bool hu' => rw [hu] at hu'; cases hu'
 | str hu' => rw [hu] at hu'; cases hu'
 | nil hu' => rw [hu] at hu'; cases hu'
 | slice hu' => rw [hu] at hu'; cases hu'

def DReps (P : Program) : List TypeId → List (DataW H) → List AV → Prop
 | [], [], [] => True
 | t :: ts, d :: ds, y :: ys => DRep P t d y ∧ DReps P ts ds ys
 | _, _, _ => False

theorem DReps.cons' {t : TypeId} {ts : List TypeId} {ds : List (DataW H)} {ys : List AV} (h : DReps P (t :: ts) ds ys) : ∃ d ds' y ys', ds = d :: ds' ∧ ys = y :: ys' ∧ DRep P t d y ∧ DReps P ts ds' ys' := by
 match ds, ys, h with
 | d :: ds', y :: ys', ⟨h1, h2⟩ => exact ⟨d, ds', y, ys', rfl, rfl, h1, h2⟩
 | [], _, h => simp [DReps] at h
 | _ :: _, [], h => simp [DReps] at h
theorem DReps.nil' {ds : List (DataW H)} {ys : List AV} (h : DReps P [] ds ys) : ds = [] ∧ ys = [] := by
 match ds, ys, h with
 | [], [], _ => exact ⟨rfl, rfl⟩
 | [], _ :: _, h => simp [DReps] at h
 | _ :: _, _, h => simp [DReps] at h
theorem Oz {T : TypeId → Prop} (PT : PlainT P T) {W : World} {b0 : Nat} : ∀ (ts : List TypeId) (vs : List Value) (ds : List (DataW H)) (ps : List MemPlace), (∀ t ∈ ts, T t) →
  (∀ (j : Nat) t v, ts[j]? = some t → vs[j]? = some v → Value.okWide P W .any b0 t v) → DataW.TrodAll enc P W 0 (fun _ => true) true ts vs ds ps →
  ∃ ys, DReps P ts ds ys ∧ ys.length = vs.length ∧ ∀ (i : Nat) (y : AV) (u : Value), ys[i]? = some y → vs[i]? = some u → Rep (G0 W) W none y u
 | [], [], [], _, _, _, _ => ⟨[], trivial, rfl, fun i y u h => by simp at h⟩
 | t :: ts, v :: vs, d :: ds, ps, hT, hok, ⟨p, q, h1, h2, _⟩ => by
  obtain ⟨y, k1, k2⟩ := gg PT (hT t (by simp)) (hok 0 t v rfl rfl) h1
  obtain ⟨ys, k3, k4, k5⟩ := Oz PT ts vs ds q (fun t ht => hT t (by simp [ht])) (fun j t v a b => hok (j + 1) t v a b) h2
  refine ⟨y :: ys, ⟨k1, k3⟩, by simp [k4], fun i z u a b => ?_⟩
  match i with
  | 0 => simp at a b; subst a; subst b; exact k2
  | i + 1 => exact k5 i z u a b
 | [], _ :: _, _, _, _, _, h => by simp [DataW.TrodAll] at h
 | [], [], _ :: _, _, _, _, h => by simp [DataW.TrodAll] at h
 | _ :: _, [], _, _, _, _, h => by simp [DataW.TrodAll] at h
 | _ :: _, _ :: _, [], _, _, _, h => by simp [DataW.TrodAll] at h

theorem La {W : World} {sp : Nat → Bool} {hd : Bool} : ∀ {ts : List TypeId} {vs : List Value} {ds : List (DataW H)} {ps : List MemPlace}, DataW.TrodAll enc P W 0 sp hd ts vs ds ps → ds.length = ts.length
 | [], [], [], _, _ => rfl
 | _ :: _, _ :: _, _ :: _, _, ⟨_, _, _, h, _⟩ => by rw [List.length_cons, List.length_cons, La h]
 | [], _ :: _, _, _, h => by simp [DataW.TrodAll] at h
 | [], [], _ :: _, _, h => by simp [DataW.TrodAll] at h
 | _ :: _, [], _, _, h => by simp [DataW.TrodAll] at h
 | _ :: _, _ :: _, [], _, h => by simp [DataW.TrodAll] at h
theorem I0 {W W' : World} {sp : Nat → Bool} : ∀ {ts : List TypeId} {vs : List Value} {ds : List (DataW H)} {ps : List MemPlace}, DataW.TrodAll enc P W 0 sp true ts vs ds ps → (∀ p ∈ ps, W.sameAt W' p) → DataW.TrodAll enc P W' 0 sp true ts vs ds ps
 | [], [], [], _, h, _ => h
 | _ :: _, _ :: _, _ :: _, _, ⟨p, q, ⟨n, hn⟩, h2, e⟩, hs => ⟨p, q, ⟨n, DataW.trod_carry n _ _ _ hn (fun x hx => hs x (by rw [e]; exact List.mem_append_left _ hx))⟩, I0 h2 (fun x hx => hs x (by rw [e]; exact List.mem_append_right _ hx)), e⟩
 | [], _ :: _, _, _, h, _ => by simp [DataW.TrodAll] at h
 | [], [], _ :: _, _, h, _ => by simp [DataW.TrodAll] at h
 | _ :: _, [], _, _, h, _ => by simp [DataW.TrodAll] at h
 | _ :: _, _ :: _, [], _, h, _ => by simp [DataW.TrodAll] at h

/-- **A law that answers true, for whatever can be read.** -/
theorem Y8 {f : FuncId} {fn : Func} {s : ChangeSpec} {T : TypeId → Prop} {tb : TypeId} {W : World} {base : Nat} {args : Array Value} {ds gs : List (DataW H)} {before : List MemPlace} (K : Kids P (· < P.types.size)) (hz : ∀ t e, t < P.types.size → P.underlying t = some (.slice e) → 0 < P.cellsOf e)
  (PT : PlainT P T) (hT : ∀ t ∈ fn.params.toList, T t ∧ t < P.types.size) (hb : P.underlying tb = some .bool) (hres : fn.resultTypes = #[tb]) (hvars : s.vars = [])
  (hspec : ∀ ds : List (DataW H), ds.length = fn.params.size → s.fn H ds = { results := [.lit (.bool true)], args := ds })
  (hval : ∀ (j : Nat) t v, fn.params[j]? = some t → args[j]? = some v → Value.okWide P W .any base t v) (hW : DataW.Whole enc P fn.params.toList s.vars false W args.toList ds gs before)
  (hglob : Fv W)
  (main : ∀ ys : List AV, DReps P fn.params.toList ds ys → AFun P f ys [] (.v (.bool true))) (hbd : GI.bd ≤ 0 := by exact Nat.le_refl 0) :
  Calls P f args W (fun e W' => ∃ v, e = .returned v ∧ s.post enc P fn false true false false W args v W') := by
 have hW0 := hW
 obtain ⟨p, q, hA, hV, hpq, hfz, hnd⟩ := hW
 rw [hvars] at hV
 obtain ⟨rfl, rfl⟩ := trodVars_none hV
 rw [List.append_nil] at hpq
 subst hpq
 obtain ⟨ys, h1, h2, h3⟩ := Oz PT _ _ _ _ (fun t ht => (hT t ht).1) (fun j t v a b => hval j t v (by simpa using a) (by simpa using b)) hA
 have hlen := La hA
 have hc := main ys h1 0 (G0 W) W args (by simpa using h2.symm) (fun i y u a b => (h3 i y u a (by simpa using b)).lift) (gc W) (ge hglob)
 refine (callsIn_wide.1 (hc hbd)).mono ?_
 rintro e W' ⟨v, G', r, H', rfl, hr, hH, hTg, hk, hl, rfl, rfl⟩
 have hv := Ja hr
 subst hv
 refine ⟨_, rfl, ds, [], before, [], before, [], hW0, ?_, ?_, ?_, ?_, fun h => by cases h⟩
 ·rw [hres, List.append_nil, hspec ds (by simpa using hlen)]
  exact trodAll_cons_mk (p := []) (shut_bool hb true) trodAll_mk0
 ·rw [List.append_nil, hspec ds (by simpa using hlen)]
  refine I0 (DataW.TrodAll.respare K hz (fun t ht => (hT t ht).2) hA (fun p hp => by simpa using hW0.lt p hp)) (fun p hp => ?_)
  have hlt := hW0.lt p hp
  have hb := (hk.old _ (Kl hlt)).1
  cases p with
  | cell b o => exact F3 hb
  | map b => exact hb
 ·rw [hvars, List.append_nil, hspec ds (by simpa using hlen)]
  rfl
 refine ⟨hk.os, hk.output, fun i hi => ?_⟩
 have hb := (hk.old i (Kl hi)).1
 rw [hb]
 cases ho : W.heap[i]? with
 | none => simp
 | some o => cases o <;> simp
end
end Go.SX
namespace Go.Proofs.YtepoiomaocjhfaaGreatDoor
open Go Go.SX Go.SX.Nb Go.ChangeShapes Go.RowKit
set_option maxRecDepth 100000

theorem own : ownKnob Tryz.prog.godebug = none := by kernel_rfl
theorem kids : Kids Tryz.prog (· < Tryz.prog.types.size) := kids_rows (by kernel_rfl) (by kernel_rfl)
theorem full : ∀ t e, t < Tryz.prog.types.size → Tryz.prog.underlying t = some (.slice e) → 0 < Tryz.prog.cellsOf e := slices_full_of Tryz.prog (by kernel_rfl)
theorem ca {H : Type} : ∀ d : DataW H, 1 ≤ Rows.uptoBulk d
 | .lit (.string b) => by rw [Rows.uptoBulk]; omega
 | .lit (.bool _) => by simp [Rows.uptoBulk]
 | .lit (.int _ _) => by simp [Rows.uptoBulk]
 | .lit (.float _ _) => by simp [Rows.uptoBulk]
 | .lit .nil => by simp [Rows.uptoBulk]
 | .nil => by simp [Rows.uptoBulk]
 | .ptr d => by rw [Rows.uptoBulk]; omega
 | .slice a b => by rw [Rows.uptoBulk]; omega
 | .agg a => by rw [Rows.uptoBulk]; omega
 | .iface _ d => by rw [Rows.uptoBulk]; omega
 | .map a => by rw [Rows.uptoBulk]; omega
 | .held _ => by simp [Rows.uptoBulk]
theorem Ms {H : Type} : ∀ l : List (DataW H), l.length ≤ Rows.uptoBulkAll l ∧ ∀ d ∈ l, Rows.uptoBulk d ≤ Rows.uptoBulkAll l
 | [] => ⟨Nat.zero_le _, fun d h => by cases h⟩
 | d :: r => by
  obtain ⟨h1, h2⟩ := Ms r
  have := ca d
  rw [Rows.uptoBulkAll, List.length_cons]
  refine ⟨by omega, fun x hx => ?_⟩
  rcases List.mem_cons.1 hx with rfl | hx
  ·omega
  have := h2 x hx; omega
theorem Y9 {H : Type} : Bulk (Rows.uptoBulk (H := H)) where
 str := fun bs => by rw [Rows.uptoBulk]; omega
 slice := fun elems spare => by
  obtain ⟨h1, h2⟩ := Ms elems
  rw [Rows.uptoBulk]
  exact ⟨by omega, fun d hd => by have := h2 d hd; omega⟩
 agg := fun parts d hd => by
  have := (Ms parts).2 d hd
  rw [Rows.uptoBulk]
  omega

/-- What the rows of this seat list. -/
def cb : List (String × DataW Unit) := Rows.soundJoinsUptoRow.laid
theorem Ya : ∀ u, Tryz.prog.typeName? 3 u = some "*errors.errorString" → u = 271 := by
 intro u hu
 exact typeName_ptr_named (nm := "errors.errorString") (by kernel_rfl) (by kernel_rfl) (by decide) u hu
theorem gh {W : World} (h : laidMet Tryz.prog cb W) : ∃ a : Addr, W.var? Tryz.prog "strconv.ErrRange" = some #[.iface 271 (.pointer (some a))] := by
 have h' := h.tail.tail.tail.tail
 obtain ⟨a, s, h1, _⟩ := laid_sentinel (g := 1) (ti := 133) (tp := 271) (te := 273) (ts := 9) h' (by kernel_rfl) (by kernel_rfl) Tryz.underlying133 Ya Tryz.underlying271 Tryz.underlying273 rfl rfl Tryz.underlying9 (by kernel_rfl) (by kernel_rfl)
 exact ⟨a, h1⟩
theorem gi {W : World} (h : laidMet Tryz.prog cb W) : Lib.TabIs Tryz.prog W "internal/strconv.uint64pow10" .u64 Lib.pow10Tab :=
 Lib.tabIs_of_head (g := 4) (t := 232) (e := 210) (n := 20) (by kernel_rfl) (by kernel_rfl) (by kernel_rfl) (by kernel_rfl) (by kernel_rfl) (by kernel_rfl) h.tail.tail
theorem P0 {P : Program} {W : World} {n : String} {g : Nat} {cs : Array Value} (hg : P.globalNamed n = some g) (h : W.var? P n = some cs) : ∃ t f, W.heap[g]? = some (.cells cs t f) := by
 unfold World.var? at h
 rw [hg] at h
 simp only [Option.bind_some] at h
 split at h
 ·rename_i cs' t f e
  injection h with h
  subst h
  exact ⟨t, f, e⟩
 cases h
theorem glob {W : World} [E : ErrAt] (h : W.ShapedOpen Tryz.prog) (hl : laidMet Tryz.prog cb W) (he : W.var? Tryz.prog "strconv.ErrRange" = some #[.iface 271 (.pointer (some E.b))]) : Fv W := by
 intro x hx
 have hx' : x ∈ Oh := hx
 unfold Oh at hx'
 simp only [List.mem_cons, List.mem_nil_iff, or_false] at hx'
 rcases hx' with rfl | rfl | rfl
 ·obtain ⟨m, hm⟩ := cell_of_shapedOpen_int (g := 0) (t := 3) (zero := #[.int .i64 0]) (k := .i64) h (of_decide_eq_true (by kernel_rfl)) (by kernel_rfl) rfl (by kernel_rfl) (by kernel_rfl) Tryz.underlying3
  obtain ⟨cs, hh, hs, _⟩ := h.1 0 #[.int .i64 0] 3 (of_decide_eq_true (by kernel_rfl)) (by kernel_rfl)
  have hs' : cs.size = 1 := hs
  have h1 : 0 < cs.size := by omega
  have hc : cs[0] = .int .i64 m := by
   simp [World.cell?, hh, h1] at hm
   exact hm
  have : cs = #[.int .i64 m] := by
   apply Array.ext
   ·simpa using hs'
   intro i h1 h2
   have : i = 0 := by omega
   subst this
   simpa using hc
  rw [this] at hh
  exact ⟨_, hh, m, 3, _, rfl⟩
 ·obtain ⟨t, f, e⟩ := P0 (g := 1) (by kernel_rfl) he
  exact ⟨_, e, t, f, rfl⟩
 obtain ⟨t, f, e⟩ := P0 (g := 4) (by kernel_rfl) (gi hl)
 exact ⟨_, e, t, f, rfl⟩
end Go.Proofs.YtepoiomaocjhfaaGreatDoor
namespace Go.SX.Nb
open Go Go.SX Go.Proofs
variable [ErrAt]
set_option maxRecDepth 4000
mutual
def depthE : Expr → Nat
 | .mk _ _ _ k => Mt k + 1
def Mt : List Expr → Nat
  | [] => 0
  | e :: r => max (depthE e) (Mt r)
 end
mutual
def Gw (p : Expr → Bool) : Expr → Bool
 | .mk o t v k => p (.mk o t v k) && Mu p k
def Mu (p : Expr → Bool) : List Expr → Bool
  | [] => true
  | e :: r => Gw p e && Mu p r
 end
mutual
def Mv : Expr → List Expr
 | .mk o t v k => .mk o t v k :: Km k
def Km : List Expr → List Expr
  | [] => []
  | e :: r => Mv e ++ Km r
 end
theorem Vs (p : Expr → Bool) (e : Expr) : Gw p e = (p e && Mu p e.kids) := by cases e; rfl
theorem Jk : ∀ a b, C5 (a ++ b) = C5 a + C5 b
 | [], b => by rw [List.nil_append, C5, Nat.zero_add]
 | e :: r, b => by rw [List.cons_append, C5, C5, Jk r b, Nat.add_assoc]
theorem Jl (p : Expr → Bool) : ∀ l : List Expr, Mu p l = true ↔ ∀ y ∈ l, Gw p y = true
 | [] => by simp [Mu]
 | e :: r => by rw [Mu, Bool.and_eq_true, Jl p r]; simp
mutual
theorem Dm : ∀ (d : Int) (e : Expr), (Am d e).length = sizeE e
 | d, .mk o t v k => by rw [Am, sizeE, List.length_cons, Mw (d + 1) k, Nat.add_comm]
theorem Mw : ∀ (d : Int) (l : List Expr), (Aj d l).length = C5 l
  | d, [] => rfl
  | d, e :: r => by rw [Aj, C5, List.length_append, Dm d e, Mw d r]
 end
mutual
theorem Mx : ∀ (d : Int) (e : Expr), (Am d e).map (·.2) = Mv e
 | d, .mk o t v k => by rw [Am, Mv, List.map_cons, My (d + 1) k]
theorem My : ∀ (d : Int) (l : List Expr), (Aj d l).map (·.2) = Km l
  | d, [] => rfl
  | d, e :: r => by rw [Aj, Km, List.map_append, Mx d e, My d r]
 end
mutual
theorem P1 (p : Expr → Bool) : ∀ e : Expr, (Mv e).all p = Gw p e
 | .mk o t v k => by rw [Mv, Gw, List.all_cons, Mz p k]
theorem Mz (p : Expr → Bool) : ∀ l : List Expr, (Km l).all p = Mu p l
  | [] => rfl
  | e :: r => by rw [Km, Mu, List.all_append, P1 p e, Mz p r]
 end
theorem Yb (p : Expr → Bool) (d : Int) (e : Expr) : ((Am d e).all fun it => p it.2) = Gw p e := by
 rw [← P1 p e, ← Mx d e, List.all_map]
 rfl
def Cu (m : Int) (L : List (Int × Expr)) : Int := L.foldl (fun m it => max m it.1) m
mutual
theorem N0 : ∀ (d m : Int) (e : Expr), Cu m (Am d e) = max m (d - 1 + depthE e)
 | d, m, .mk o t v k => by
  rw [Am, depthE]
  show Cu (max m d) (Aj (d + 1) k) = _
  rw [N1 (d + 1) (max m d) k (by omega)]
  omega
theorem N1 : ∀ (d m : Int) (l : List Expr), d - 1 ≤ m → Cu m (Aj d l) = max m (d - 1 + Mt l)
  | d, m, [], h => by
    rw [Aj, Mt]
    show m = _
    omega
  | d, m, e :: r, h => by
    rw [Aj, Mt]
    unfold Cu
    rw [List.foldl_append]
    show Cu (Cu m (Am d e)) (Aj d r) = _
    rw [N0 d m e, N1 d _ r (by omega)]
    omega
 end
theorem Lc (e : Expr) : Cu 0 (Am 1 e) = depthE e := by rw [N0]; omega
theorem S7 : ∀ (L : List (Int × Expr)) (m b : Int), m ≤ b → (Cu m L ≤ b ↔ ∀ it ∈ L, it.1 ≤ b)
 | [], m, b, h => by simp [Cu, h]
 | it :: r, m, b, h => by
  show Cu (max m it.1) r ≤ b ↔ _
  rcases Decidable.em (it.1 ≤ b) with h1 | h1
  ·rw [S7 r (max m it.1) b (by omega)]
   simp [h1]
  constructor
  ·intro h2
   have : ∀ (r : List (Int × Expr)) (m : Int), m ≤ Cu m r := by
    intro r
    induction r with
    | nil => intro m; exact Int.le_refl _
    | cons a r ih => intro m; have := ih (max m a.1); show m ≤ Cu (max m a.1) r; omega
   have := this r (max m it.1)
   omega
  intro h2
  exact absurd (h2 it (by simp)) h1
theorem gj (e : Expr) {b : Nat} : (∀ it ∈ Am 1 e, it.1 ≤ (b : Int)) ↔ depthE e ≤ b := by
 rw [← S7 (Am 1 e) 0 b (by omega), Lc]
 omega
def Kn (e : Expr) : Bool := (decide (depthE e ≤ 30) && decide (sizeE e ≤ 300)) && Gw Gb e
theorem Qo (e : Expr) : Ay e = Kn e := by
 have hpos : 1 ≤ sizeE e := by rw [Rx]; omega
 rw [Bool.eq_iff_iff]
 unfold Ay Kn
 rw [List.all_eq_true]
 simp only [Bool.and_eq_true, decide_eq_true_eq, List.mem_range, Dm]
 rw [← gj e, ← Yb Gb 1 e, List.all_eq_true]
 constructor
 ·intro h
  have key : ∀ (k : Nat) (hk : k < (Am 1 e).length), Gb (Am 1 e)[k].2 = true ∧ (Am 1 e)[k].1 ≤ 30 ∧ (k : Int) + 1 ≤ 300 := fun k hk => by
   have := h k (by rw [Dm] at hk; exact hk)
   rw [Qi (List.getElem?_eq_getElem hk)] at this
   simp only [Bool.not_eq_true', Bool.or_eq_false_iff, Bool.not_eq_false', decide_eq_false_iff_not] at this
   exact ⟨this.1.1, by have := this.1.2; omega, by have := this.2; omega⟩
  refine ⟨⟨fun it hit => ?_, ?_⟩, fun it hit => ?_⟩
  ·obtain ⟨k, hk, rfl⟩ := List.getElem_of_mem hit
   exact (key k hk).2.1
  ·have := (key (sizeE e - 1) (by rw [Dm]; omega)).2.2
   omega
  obtain ⟨k, hk, rfl⟩ := List.getElem_of_mem hit
  exact (key k hk).1
 rintro ⟨⟨h1, h2⟩, h3⟩ k hk
 have hk' : k < (Am 1 e).length := by rw [Dm]; exact hk
 rw [Qi (List.getElem?_eq_getElem hk')]
 have a1 := h1 _ (List.getElem_mem hk')
 have a3 := h3 _ (List.getElem_mem hk')
 have a3' : Gb (Am 1 e)[k].2 = true := a3
 rw [a3']
 simp only [Bool.not_eq_true', Bool.or_eq_false_iff, Bool.not_true, decide_eq_false_iff_not]
 exact ⟨⟨trivial, by have : (Am 1 e)[k].1 ≤ (30 : Int) := a1; omega⟩, by omega⟩
/-- Its number is one of 64 bits. -/
def Qp (e : Expr) : Bool := decide (-9223372036854775808 ≤ e.val.n) && decide (e.val.n ≤ 9223372036854775807)
/-! Names. -/
mutual
def lr (s : Str) (y : Expr) : Expr → Expr
 | .mk o t v k => if (o == 2) && (t == s) then y else .mk o t v (gk s y k)
def gk (s : Str) (y : Expr) : List Expr → List Expr
  | [] => []
  | e :: r => lr s y e :: gk s y r
 end
mutual
def eqE : Expr → Expr → Bool
 | .mk o t v k, .mk o' t' v' k' => ((((o == o') && (t == t')) && ((v.kind == v'.kind && v.n == v'.n) && v.s == v'.s))) && eqL k k'
def eqL : List Expr → List Expr → Bool
  | [], [] => true
  | e :: r, e' :: r' => eqE e e' && eqL r r'
  | _, _ => false
 end
theorem ls (x y : Expr) : eqE x y = ((((x.op == y.op) && (x.text == y.text)) && ((x.val.kind == y.val.kind && x.val.n == y.val.n) && x.val.s == y.val.s)) && eqL x.kids y.kids) := by
 cases x; cases y; rw [eqE]; rfl
mutual
theorem Qq : ∀ x y : Expr, eqE x y = true ↔ x = y
 | .mk o t v k, .mk o' t' v' k' => by
  rw [eqE]
  simp only [Bool.and_eq_true, beq_iff_eq, Jm k k', Expr.mk.injEq]
  constructor
  ·rintro ⟨⟨⟨rfl, rfl⟩, ⟨h1, h2⟩, h3⟩, rfl⟩
   refine ⟨rfl, rfl, ?_, rfl⟩
   cases v; cases v'
   simp_all
  rintro ⟨rfl, rfl, rfl, rfl⟩
  exact ⟨⟨⟨rfl, rfl⟩, ⟨rfl, rfl⟩, rfl⟩, rfl⟩
theorem Jm : ∀ x y : List Expr, eqL x y = true ↔ x = y
  | [], [] => by simp [eqL]
  | [], e :: r => by simp [eqL]
  | e :: r, [] => by simp [eqL]
  | e :: r, e' :: r' => by rw [eqL, Bool.and_eq_true, Qq e e', Jm r r', List.cons.injEq]
 end
theorem gm : ∀ {x y : List Expr}, eqL x y = true → x.length = y.length := fun h => by rw [(Jm _ _).1 h]
theorem cd (x : Expr) : eqE x x = true := (Qq x x).2 rfl
/-! A node by itself, and marks. -/
def levels : List (List Str) := [[[111, 114]], [[97, 110, 100]], [], [[61], [33, 61], [60], [60, 61], [62], [62, 61]], [[43], [45], [38]], [[42], [47], [37]]]
def Ko (s : Str) : Int := match levels.findIdx? (fun l => l.contains s) with | some i => i | none => -1
/-! What is wide. -/
def Kp (e : Expr) : Bool := ((decide ((100 : Int) < e.text.length) || decide ((400 : Int) < e.val.s.length)) || decide ((100 : Int) < e.kids.length))
/-- Among trees, when n have been seen: is one too much? -/
def Ip (l : List Expr) (n : Nat) : Bool := decide (500 < n + l.length) || l.any Kp
def Ds : Nat → List Expr → Nat → Bool
 | 0, l, n => !l.isEmpty
 | f + 1, l, n => if l.isEmpty then false else if Ip l n then true else if decide ((500 : Int) < (l.flatMap Expr.kids).length) then true else Ds f (l.flatMap Expr.kids) (n + l.length)
theorem N2 : ∀ l : List Expr, C5 l = l.length + C5 (l.flatMap Expr.kids)
 | [] => rfl
 | e :: r => by
  rw [C5, Rx, List.flatMap_cons, Jk, N2 r, List.length_cons]
  omega
theorem N3 {l : List Expr} {n : Nat} (h : Ip l n = false) : n + l.length ≤ 500 ∧ ∀ e ∈ l, Kp e = false := by
 unfold Ip at h
 simp only [Bool.or_eq_false_iff, decide_eq_false_iff_not, List.any_eq_false, Bool.not_eq_true] at h
 exact ⟨by omega, h.2⟩
theorem Qr {e : Expr} (h : Kp e = false) : e.text.length ≤ 100 ∧ e.val.s.length ≤ 400 ∧ e.kids.length ≤ 100 := by
 unfold Kp at h
 simp only [Bool.or_eq_false_iff, decide_eq_false_iff_not] at h
 omega
theorem P2 {f : Nat} {l : List Expr} {n : Nat} (h : Ds (f + 1) l n = false) (hl : l.isEmpty = false) : Ip l n = false ∧ (l.flatMap Expr.kids).length ≤ 500 ∧ Ds f (l.flatMap Expr.kids) (n + l.length) = false := by
 rw [Ds, if_neg (by rw [hl]; simp)] at h
 split at h
 ·cases h
 rename_i h1
 split at h
 ·cases h
 rename_i h2
 simp only [decide_eq_true_eq] at h2
 exact ⟨by simpa using h1, by omega, h⟩
theorem Vt : ∀ (f : Nat) (l : List Expr) (n : Nat), Ds f l n = false → ∀ e ∈ l, okE f e ∧ Gw (fun y => !Kp y) e = true
 | 0, l, n, h, e, he => by
  have : l = [] := by simpa [Ds] using h
  subst this
  cases he
 | f + 1, l, n, h, e, he => by
  have hl : l.isEmpty = false := by cases l <;> simp_all
  obtain ⟨h1, h2, h3⟩ := P2 h hl
  have h4 := Qr ((N3 h1).2 e he)
  have ih := Vt f _ _ h3
  have hk : ∀ y ∈ e.kids, okE f y ∧ Gw (fun y => !Kp y) y = true := fun y hy => ih y (List.mem_flatMap.2 ⟨e, he, hy⟩)
  refine ⟨⟨by omega, by omega, fun y hy => (hk y hy).1⟩, ?_⟩
  rw [Vs, (N3 h1).2 e he, (Jl _ _).2 fun y hy => (hk y hy).2]
  rfl
theorem P3 : ∀ (f : Nat) (l : List Expr) (n : Nat), n ≤ 500 → Ds f l n = false → n + C5 l ≤ 500
 | 0, l, n, hn, h => by
  have : l = [] := by simpa [Ds] using h
  subst this
  simpa [C5] using hn
 | f + 1, l, n, hn, h => by
  by_cases hl : l.isEmpty = true
  ·have : l = [] := by simpa using hl
   subst this
   simpa [C5] using hn
  have hl' : l.isEmpty = false := by simpa using hl
  obtain ⟨h1, h2, h3⟩ := P2 h hl'
  have := P3 f _ _ (N3 h1).1 h3
  rw [N2 l]
  omega
def N4 (e : Expr) : Bool := Ds 61 [e] 0
/-- A tree that is gone through. -/
structure Slim (e : Expr) : Prop where
 ok : okE 61 e
 size : sizeE e ≤ 500
 slim : Gw (fun y => !Kp y) e = true
theorem gn {e : Expr} (h : N4 e = false) : Slim e := by
 obtain ⟨h1, h2⟩ := Vt _ _ _ h e (by simp)
 have := P3 _ _ _ (by decide) h
 exact ⟨h1, by simpa [C5] using this, h2⟩
end Go.SX.Nb
namespace Go.Proofs.YtepoiomaocjhfaaGreatDoor
open Go Go.SX Go.SX.Nb Go.ChangeShapes Go.RowKit
set_option maxRecDepth 100000
theorem Uu {ys : List AV} (h : ∀ (i : Nat) (y : AV), ys[i]? = some y → ∃ e : Nb.Expr, y = A7 e ∧ Gw Qp e = true) : ∃ l : List Nb.Expr, ys = l.map A7 ∧ Mu Qp l = true := by
 induction ys with
 | nil => exact ⟨[], rfl, rfl⟩
 | cons y ys ih =>
  obtain ⟨e, rfl, he⟩ := h 0 y rfl
  obtain ⟨l, rfl, hl⟩ := ih (fun i z hz => h (i + 1) z hz)
  exact ⟨e :: l, rfl, by rw [Mu, he, hl]; rfl⟩
theorem gq {H : Type} [ErrAt] (d : DataW H) (y : AV) (h : DRep Tryz.prog 42 d y) : ∃ v : Val, y = O1 v ∧ -9223372036854775808 ≤ v.n ∧ v.n ≤ 9223372036854775807 := by
 obtain ⟨ys, hn, rfl, hh⟩ := h.struct' Y9 Tryz.underlying42
 match ys, hn with
 | [y0, y1, y2], _ =>
  obtain ⟨d0, b0, h0⟩ := hh 0 _ y0 rfl rfl
  obtain ⟨d1, b1, h1⟩ := hh 1 _ y1 rfl rfl
  obtain ⟨d2, b2, h2⟩ := hh 2 _ y2 rfl rfl
  obtain ⟨k, rfl, rfl, _⟩ := h0.int' Tryz.underlying3
  obtain ⟨n, rfl, rfl, hn1, hn2⟩ := h1.int' Tryz.underlying2
  obtain ⟨s, rfl, rfl⟩ := h2.str' Tryz.underlying9
  exact ⟨⟨k, n, s⟩, rfl, hn1, hn2⟩
theorem ce {H : Type} [ErrAt] {t : TypeId} {d : DataW H} {y : AV} (h : DRep Tryz.prog t d y) : (t = 45 → ∃ e : Nb.Expr, y = A7 e ∧ Gw Qp e = true) ∧ (t = 43 → ∃ l : List Nb.Expr, y = .slice false 6 (l.map A7) ∧ Mu Qp l = true) := by
 induction h with
 | int hu _ => exact ⟨fun e => (by subst e; rw [Tryz.underlying45] at hu; cases hu), fun e => by subst e; rw [Tryz.underlying43] at hu; cases hu⟩
 | bool hu => exact ⟨fun e => (by subst e; rw [Tryz.underlying45] at hu; cases hu), fun e => by subst e; rw [Tryz.underlying43] at hu; cases hu⟩
 | str hu => exact ⟨fun e => (by subst e; rw [Tryz.underlying45] at hu; cases hu), fun e => by subst e; rw [Tryz.underlying43] at hu; cases hu⟩
 | nil hu =>
  refine ⟨fun e => (by subst e; rw [Tryz.underlying45] at hu; cases hu), fun e => ?_⟩
  subst e
  rw [Tryz.underlying43] at hu
  injection hu with hu
  injection hu with hu
  subst hu
  exact ⟨[], by rw [show Tryz.prog.cellsOf 45 = 6 by kernel_rfl]; rfl, rfl⟩
 | slice hu hn hh ih =>
  refine ⟨fun e => (by subst e; rw [Tryz.underlying45] at hu; cases hu), fun e => ?_⟩
  subst e
  rw [Tryz.underlying43] at hu
  injection hu with hu
  injection hu with hu
  subst hu
  rename_i elems spare ys
  obtain ⟨l, rfl, hl⟩ := Uu (ys := ys) (fun i y hy => by
   have hlt : i < elems.length := by rw [← hn]; exact (List.getElem?_eq_some_iff.1 hy).1
   exact (ih i elems[i] y (List.getElem?_eq_getElem hlt) hy).1 rfl)
  exact ⟨l, by rw [show Tryz.prog.cellsOf 45 = 6 by kernel_rfl], hl⟩
 | struct hu hn hn' hh ih =>
  refine ⟨fun e => ?_, fun e => by subst e; rw [Tryz.underlying43] at hu; cases hu⟩
  subst e
  rw [Tryz.underlying45] at hu
  injection hu with hu
  injection hu with hu
  subst hu
  rename_i parts ys
  match parts, hn, ys, hn' with
  | [p0, p1, p2, p3], _, [y0, y1, y2, y3], _ =>
   obtain ⟨o, rfl, rfl, _⟩ := (hh 0 _ p0 y0 rfl rfl rfl).int' Tryz.underlying3
   obtain ⟨s, rfl, rfl⟩ := (hh 1 _ p1 y1 rfl rfl rfl).str' Tryz.underlying9
   obtain ⟨v, rfl, hv1, hv2⟩ := gq p2 y2 (hh 2 _ p2 y2 rfl rfl rfl)
   obtain ⟨l, rfl, hl⟩ := (ih 3 _ p3 y3 rfl rfl rfl).2 rfl
   refine ⟨.mk o s v l, ?_, ?_⟩
   ·rw [Ac]; rfl
   rw [Gw, hl, Bool.and_true]
   show (decide (-9223372036854775808 ≤ v.n) && decide (v.n ≤ 9223372036854775807)) = true
   simp [hv1, hv2]
end Go.Proofs.YtepoiomaocjhfaaGreatDoor
namespace Go.SX.Nb
open Go Go.SX Go.Proofs
variable [ErrAt]
set_option maxRecDepth 4000
/-- The lexer from a place between two words on. -/
def r6 (f q : Nat) (s : Str) : List (Tok × Int) := Eo f (q + gapM s) (s.drop (gapM s))
theorem S8 {f q : Nat} {s : Str} (h : s ≠ []) : ∃ (n : Nat), Eo (f + 1) q s = (⟨(B6 s).1, (B6 s).2.1, q⟩, (B6 s).2.2.2) :: (if (B6 s).2.2.2 = 0 then r6 f (q + n) (s.drop n) else []) ∧ ((B6 s).2.2.2 = 0 → (B6 s).2.2.1 = (n : Int) ∧ 1 ≤ n ∧ n ≤ s.length) := by
 refine ⟨(B6 s).2.2.1.toNat, ?_, fun he => ?_⟩
 ·rw [Hw h]
  simp only [beq_iff_eq]
  rfl
 obtain ⟨n, h1, h2, h3⟩ := Vq (s := s) (by cases s with | nil => exact absurd rfl h | cons c r => simp) he
 rw [h1]
 exact ⟨rfl, by simpa using h2, by simpa using h3⟩
/-! ### Gaps -/
/-! ### Words -/
theorem gr {s : Str} (h : (Dl s).2.1 = 0) : s.length ≤ 4000 ∧ (∀ it ∈ B0 s, it.2 = 0) ∧ Dl s = ((B0 s).map (·.1) ++ [⟨0, [], s.length⟩], 0, 0) := by
 unfold Dl at h ⊢
 split at h
 ·exact absurd h (show ¬ (3 : Int) = 0 by decide)
 rename_i hl
 rw [if_neg hl]
 cases hf : (B0 s).find? (fun it => it.2 != 0) with
 | some it =>
  rw [hf] at h
  have := List.find?_some hf
  simp at this
  exact absurd h this
 | none =>
  rw [List.find?_eq_none] at hf
  refine ⟨by omega, fun it hit => by simpa using hf it hit, rfl⟩
theorem r7 : Tryz.prog.eqGuardType Tryz.prog.depth 58 = false := by kernel_rfl
theorem gt (k k' : Int) (s s' : List UInt8) (w : World) : (Op.equal 58 (.agg #[.string ⟨s.toArray⟩, .int .i64 k]) (.agg #[.string ⟨s'.toArray⟩, .int .i64 k'])).run Tryz.prog w = .ok (s == s' && k == k') w := by
 have h1 : Tryz.prog.stoodInHeld 58 = false := by kernel_rfl
 show (Op.equalIn (9999 + 1) _ _ _).run _ _ = _
 rw [Op.equalIn]
 generalize hd : (9999 : Nat) = d
 obtain ⟨d, rfl⟩ : ∃ e, d = e + 1 := ⟨9998, hd.symm⟩
 clear hd
 simp [run_underlying Tryz.underlying58, h1, part, Zx _ _ _ _ _ _ Tryz.underlying3, jn _ _ _ _ _ Tryz.underlying9, Tryz.isAgg3, Tryz.isAgg9]
 by_cases e1 : k = k' <;> by_cases e3 : s = s' <;> simp [e1, e3]
theorem Vu {a b : Col} : (a.name == b.name && a.kind == b.kind) = decide (a = b) := by
 rw [Bool.eq_iff_iff]
 cases a; cases b
 simp
theorem c12 (a b : List Col) (ha : a.length ≤ 1048576) (Hp : List AObj) : AFun Tryz.prog 12 [Af a, Af b] Hp (Ar (decide (a = b))) := by
 refine ACall.body [.tmp 4] [0, 1] Tryz.func12 Tryz.ntmps12 (fun d => ?_)
 refine Z56 ?_;refine Q8 ?_;refine R.len jU ?_;refine R.neq ?_;refine R.fin [0, 1, 10] ?_
 refine W.cond (fun ht10 => ?_) (fun ht10 => ?_)
 ·refine O0 ?_;refine K.thR ?_;exact K.fin (V.one V.tmp) ⟨by rw [o7 (by simpa using ht10)], rfl⟩
 refine Z6 ?_;refine ai ?_;refine R.fin [0, 1, 5] ?_
 refine AW.loopC (α := Nat) (fun x => ⟨26, A5 0 (Af a) (A5 1 (Af b) (A5 5 (A4 (x : Nat)) (fun _ => .any))), Hp, [], [], none⟩) (fun x => x ≤ a.length ∧ ∀ (j : Nat) (y : Col), j < x → a[j]? = some y → b[j]? = some y) (fun x => a.length - x) (0) (by simp) (StLe.refl _) rfl (fun x hx => ?_)
 refine Z96 ?_;refine Ri ?_;refine R.fin [0, 1, 5, 14] ?_
 refine W.cond (fun ht14 => ?_) (fun ht14 => ?_)
 ·have hlt : x < a.length := by simpa using ht14
  have hlb : x < b.length := by have := lf ht10; omega
  refine Z6 ?_;refine Z22 ?_;refine W.draw [0, 0, 3, 7, 0, 0, 48, 112, 255] 8 Ad (by kernel_rfl) ?_;refine D.move ?_;refine D.move ?_;refine D.indexAddr (x) (Aq a[x]) jU jS (By hlt) ?_;refine D.loadRoN jA jS ?_;refine D.move ?_;refine D.move ?_;refine D.indexAddr (x) (Aq b[x]) jU jS (By hlb) ?_;refine D.loadRoN jA jS ?_;refine D.tail ?_;refine R.neqAgg r7 (gt a[x].kind b[x].kind a[x].name b[x].name) ?_;refine R.fin [0, 1, 5, 25] ?_
  refine W.cond (fun ht25 => ?_) (fun ht25 => ?_)
  ·rw [Vu] at ht25
   refine O0 ?_;refine Z46 ?_;exact K.fin (V.one V.tmp) ⟨by rw [qd hlt hlb (by simpa using ht25)], rfl⟩
  rw [Vu] at ht25
  refine Tw ?_;refine R.fin [0, 1, 5] ?_
  exact K.lpN (x + 1) ⟨hlt, H5 (p := fun j y => b[j]? = some y) hlt hx.2 (by rw [List.getElem?_eq_getElem hlb]; simpa using (Eq.symm (by simpa using ht25) : b[x] = a[x]))⟩ (by omega) (StCut.of_eq rfl)
 refine K9 ?_;refine O0 ?_;exact K.fin (V.one V.tmp) ⟨by rw [o9 (by simpa using ht10) (Ih (by simp at ht14; omega) hx.2)], rfl⟩

def Yc (c : UInt8) : Str := if c = 39 then [39, 39] else [c]
def Jn (t : Str) : Str := t.flatMap Yc
theorem Kq (c : UInt8) (r : Str) : Jn (c :: r) = Yc c ++ Jn r := by unfold Jn; rw [List.flatMap_cons]
theorem Vw : ∀ s : Str, (Lib.index s [39] = -1 ∧ Jn s = s) ∨ ∃ i : Nat, Lib.index s [39] = (i : Int) ∧ i < s.length ∧ Jn s = s.take i ++ [39, 39] ++ Jn (s.drop (i + 1))
 | [] => .inl ⟨rfl, rfl⟩
 | b :: l => by
  by_cases hb : b = 39
  ·subst hb
   refine .inr ⟨0, by simp [Lib.index, List.isPrefixOf], by simp, ?_⟩
   rw [Kq]
   simp [Yc]
  have hp : ([39] : Str).isPrefixOf (b :: l) = false := by
   simp [List.isPrefixOf, Ne.symm hb]
  have hd : Jn (b :: l) = b :: Jn l := by
   rw [Kq, Yc, if_neg hb]
   rfl
  rcases Vw l with ⟨h1, h2⟩ | ⟨i, h1, h2, h3⟩
  ·refine .inl ⟨?_, by rw [hd, h2]⟩
   rw [Lib.index, hp, h1]; rfl
  refine .inr ⟨i + 1, ?_, by simp; omega, ?_⟩
  ·rw [Lib.index, hp, h1, if_neg (by simp), if_neg (by simp)]
   rfl
  rw [hd, h3]
  simp
theorem Jo : ∀ (n : Nat) (s : Str), s.length ≤ n → Lib.replaceK [39] [39, 39] (Lib.count s [39]) s = Jn s
 | n, s, hn => by
  rcases Vw s with ⟨h1, h2⟩ | ⟨i, h1, h2, h3⟩
  ·rw [Lib.count_miss h1, h2]; rfl
  cases n with
  | zero => omega
  | succ n =>
   rw [Lib.count_hit (by decide) h1, Nat.add_comm, Lib.replaceK_hit _ _ _ _ i h1]
   have e : i + ([39] : Str).length = i + 1 := rfl
   rw [e, Jo n (s.drop (i + 1)) (by rw [List.length_drop]; omega), h3]
theorem S9 (s : Str) : Lib.replaceAll s [39] [39, 39] = Jn s := by
 unfold Lib.replaceAll Lib.replace
 rw [if_neg (by decide)]
 have e : Lib.replaceNum s [39] (-1) = Lib.count s [39] := by unfold Lib.replaceNum; rw [if_pos (.inl (by decide))]
 rw [e]
 exact Jo _ s (Nat.le_refl _)
def Vx (t : Tok) : Str := if t.kind = 4 then [39] ++ Jn t.text ++ [39] else t.text
theorem Uv {q : Str} (h0 : q.headD 0 = 39) (h1 : 1 ≤ q.length) (h : (Ea q).2 = 0) : [39] ++ Jn (Ea q).1.s ++ [39] = q := by
 cases q with
 | nil => simp at h1
 | cons c r =>
  have hc : c = 39 := h0
  subst hc
  unfold Ea at h ⊢
  have n1 : ((39 :: r : Str) == [110, 117, 108, 108]) = false := by rw [beq_eq_false_iff_ne]; intro e; injection e with e; exact absurd e (by decide)
  have n2 : ((39 :: r : Str) == [116, 114, 117, 101]) = false := by rw [beq_eq_false_iff_ne]; intro e; injection e with e; exact absurd e (by decide)
  have n3 : ((39 :: r : Str) == [102, 97, 108, 115, 101]) = false := by rw [beq_eq_false_iff_ne]; intro e; injection e with e; exact absurd e (by decide)
  rw [n1, n2, n3] at h ⊢
  simp only [Bool.false_eq_true, if_false, Bool.or_self] at h ⊢
  by_cases hq : On (39 :: r) = true
  ·rw [if_pos hq] at h ⊢
   unfold Rt at h ⊢
   split at h
   ·exact absurd h (show ¬ (7 : Int) = 0 by decide)
   rename_i hp
   rw [if_neg hp]
   have hp' : Fd (Mc (39 :: r)) = 39 :: r := by simpa using hp
   have hk : (Mc (39 :: r)).kind = 2 := rfl
   show [39] ++ Jn (Mc (39 :: r)).s ++ [39] = 39 :: r
   generalize Mc (39 :: r) = v at hp' hk
   have hne : Fd v ≠ [] := by rw [hp']; simp
   rw [← hp']
   unfold Fd at hne ⊢
   split at hne
   ·exact absurd rfl hne
   rename_i hpl
   rw [if_neg hpl, hk, if_neg (by decide), if_pos (by decide), S9]
  rw [if_neg hq] at h
  have hd : Fx (39 :: r) = true := by
   unfold Fx
   have e : L4 (39 :: r) = 39 :: r := by
    rcases L5 (39 :: r) with ⟨_, h4⟩ | ⟨r', h3, _⟩
    ·exact h4
    injection h3 with h3; exact absurd h3 (by decide)
   rw [e]
   have : (Lib.trimS (39 :: r) digs == []) = false := by
    rw [beq_eq_false_iff_ne]
    intro e
    rw [Oi] at e
    exact absurd (e 39 (by simp)) (by decide)
   rw [this]
   simp
  have hn : Co (39 :: r) = (0, 6) := by unfold Co; rw [if_pos hd]
  rw [hn] at h
  simp at h
theorem O8 (s : Str) (m : Nat) : s.take (s.take m).length = s.take m := by
 rw [List.length_take]
 rcases Nat.le_total m s.length with h | h
 ·rw [Nat.min_eq_left h]
 rw [Nat.min_eq_right h, List.take_of_length_le (Nat.le_refl _), List.take_of_length_le h]
theorem I1 (s of : Str) : s.take (Bz s of).length = Bz s of := by
 unfold Bz
 exact O8 s _
/-- What a word's print spells is what was read. -/
theorem Uw {s : Str} {n p : Nat} (h0 : 1 ≤ s.length) (he : (B6 s).2.2.2 = 0) (hn : (B6 s).2.2.1 = (n : Int)) : Vx ⟨(B6 s).1, (B6 s).2.1, p⟩ = s.take n := by
 cases s with
 | nil => simp at h0
 | cons c r =>
  unfold B6 at he hn ⊢
  by_cases c1 : decide (0 < Jg ((c :: r).take 1) letters) = true
  ·rw [if_pos c1] at he hn
   simp only [if_pos c1]
   unfold J1 at he hn ⊢
   by_cases r1 : Do (Bz (c :: r) tails) = true
   ·rw [if_pos r1] at hn
    simp only [if_pos r1]
    have hn' : (((Bz (c :: r) tails).length : Nat) : Int) = n := hn
    have e : n = (Bz (c :: r) tails).length := by omega
    rw [e, I1]
    rfl
   rw [if_neg r1] at he hn
   simp only [if_neg r1]
   by_cases r2 : (!Cf (Bz (c :: r) tails)) = true
   ·rw [if_pos r2] at he; exact absurd he (show ¬ (3 : Int) = 0 by decide)
   rw [if_neg r2] at hn
   simp only [if_neg r2]
   have hn' : (((Bz (c :: r) tails).length : Nat) : Int) = n := hn
   have e : n = (Bz (c :: r) tails).length := by omega
   rw [e, I1]
   rfl
  rw [if_neg c1] at he hn
  simp only [if_neg c1]
  by_cases c2 : decide (0 < Jg ((c :: r).take 1) digs) = true
  ·rw [if_pos c2] at he hn
   simp only [if_pos c2]
   have hn' : (((Bz (c :: r) digs).length : Nat) : Int) = n := hn
   have e : n = (Bz (c :: r) digs).length := by omega
   rw [e, I1]
   rfl
  rw [if_neg c2] at he hn
  simp only [if_neg c2]
  by_cases c3 : (((((c :: r)).getD 0 0).toNat : Int) == 39) = true
  ·rw [if_pos c3] at he hn
   simp only [if_pos c3]
   have hc : c = 39 := by
    have c3' : ((c.toNat : Int) == 39) = true := c3
    exact UInt8.toNat_inj.1 (by have : (39 : UInt8).toNat = 39 := rfl; simp at c3'; omega)
   unfold Ga at he hn ⊢
   cases hq : Bn ((c :: r).drop 1) with
   | none => rw [hq] at he; exact absurd he (show ¬ (7 : Int) = 0 by decide)
   | some m =>
    rw [hq] at he hn
    simp only at he hn ⊢
    split at he
    ·exact absurd he (show ¬ (3 : Int) = 0 by decide)
    rename_i hr
    rw [if_neg hr] at hn
    simp only [if_neg hr]
    have hm' : (((m + 1 : Nat)) : Int) = n := hn
    have hm : n = m + 1 := by omega
    subst hm
    have hr' : (Ea ((c :: r).take (m + 1))).2 = 0 := by simpa using hr
    have := Uv (q := (c :: r).take (m + 1)) (by rw [hc]; rfl) (by simp) hr'
    unfold Vx
    rw [if_pos rfl]
    exact this
  rw [if_neg c3] at he hn
  simp only [if_neg c3]
  unfold Mg at he hn ⊢
  split at hn
  ·rename_i h2
   simp only [if_pos h2]
   have hn' : (2 : Int) = n := hn
   have : n = 2 := by omega
   subst this
   rfl
  rename_i h2
  rw [if_neg h2] at he
  simp only [if_neg h2]
  split at hn
  ·rename_i h3
   simp only [if_pos h3]
   have hn' : (1 : Int) = n := hn
   have : n = 1 := by omega
   subst this
   rfl
  rename_i h3
  rw [if_neg h3] at he
  exact absurd he (show ¬ (7 : Int) = 0 by decide)
/-! What is printed of columns, word by word. -/
def ktT (t : Tok) : Int × Str := (t.kind, t.text)
def Ld (s : Str) : Int := if Bb 1 == s then 1 else if Bb 2 == s then 2 else if Bb 3 == s then 3 else 0
structure KindUpto (s : Str) (x : Nat) : Prop where
 le : x ≤ 3
 a : 1 ≤ x → (Bb 1 == s) = false
 b : 2 ≤ x → (Bb 2 == s) = false
 c : 3 ≤ x → (Bb 3 == s) = false
theorem gu {s : Str} {x : Nat} (h : KindUpto s x) (hx : x < 3) (e : (Bb ((x : Int) + 1) == s) = true) : Ld s = (x : Int) + 1 := by
 have h3 : x = 0 ∨ x = 1 ∨ x = 2 := by omega
 unfold Ld
 rcases h3 with rfl | rfl | rfl
 ·have e : (Bb 1 == s) = true := e
  rw [if_pos e]; rfl
 ·have e : (Bb 2 == s) = true := e
  rw [if_neg (by rw [h.a (by omega)]; simp), if_pos e]; rfl
 have e : (Bb 3 == s) = true := e
 rw [if_neg (by rw [h.a (by omega)]; simp), if_neg (by rw [h.b (by omega)]; simp), if_pos e]; rfl
theorem gw {s : Str} {x : Nat} (h : KindUpto s x) (hx : x < 3) (e : (Bb ((x : Int) + 1) == s) = false) : KindUpto s (x + 1) := by
 have h3 : x = 0 ∨ x = 1 ∨ x = 2 := by omega
 rcases h3 with rfl | rfl | rfl
 ·exact ⟨by omega, fun _ => e, fun h => by omega, fun h => by omega⟩
 ·exact ⟨by omega, fun _ => h.a (by omega), fun _ => e, fun h => by omega⟩
 exact ⟨by omega, fun _ => h.a (by omega), fun _ => h.b (by omega), fun _ => e⟩
theorem gx {s : Str} {x : Nat} (h : KindUpto s x) (hx : 3 ≤ x) : Ld s = 0 := by
 unfold Ld
 rw [if_neg (by rw [h.a (by omega)]; simp), if_neg (by rw [h.b (by omega)]; simp), if_neg (by rw [h.c (by omega)]; simp)]
theorem r8 (s : Str) (Hp : List AObj) : AFun Tryz.prog 198 [Aa s] Hp (A4 (Ld s)) := by
 refine ACall.body [.tmp 2] [0] Tryz.func198 Tryz.ntmps198 (fun d => ?_)
 refine Z54 ?_;refine ap ?_
 refine AW.loopC (α := Nat) (fun x => ⟨13, A5 0 (Aa s) (A5 3 (A4 ((x : Nat) + 1)) (fun _ => .any)), Hp, [], [], none⟩) (fun x => KindUpto s x) (fun x => 3 - x) (0) ⟨by omega, fun h => by omega, fun h => by omega, fun h => by omega⟩ (StLe.refl _) rfl (fun x hx => ?_)
 refine Z11 ?_;refine R.leq ?_;refine R.fin [0, 3, 5] ?_
 refine W.cond (fun ht5 => ?_) (fun ht5 => ?_)
 ·have hx3 : x < 3 := by simp at ht5; omega
  refine Z6 ?_;refine Z75 ?_;refine R.call Tryz.call70 (c70 _ _) ?_;refine Av ?_;refine R.seql ?_;refine R.fin [0, 3, 11] ?_
  refine W.cond (fun ht11 => ?_) (fun ht11 => ?_)
  ·refine Z0 ?_;refine Z23 ?_;refine Z46 ?_;exact K.fin (V.one V.tmp) ⟨by rw [gu hx hx3 (by simpa using ht11)], rfl⟩
  refine Tw ?_;refine Kb ?_;exact K.lpN (x + 1) (gw hx hx3 (by simpa using ht11)) (by omega) (StCut.of_eq (by simp))
 have hx3 : 3 ≤ x := by simp at ht5; omega
 refine K9 ?_;refine Z44 ?_;exact K.fin (V.one V.tmp) ⟨by rw [gx hx hx3], rfl⟩

theorem Vy : ∀ t : Str, t.length ≤ (Jn t).length
 | [] => Nat.le_refl _
 | c :: r => by
  have := Vy r
  rw [Kq, List.length_append, List.length_cons]
  have h : 1 ≤ (Yc c).length := by unfold Yc; split <;> simp
  omega
theorem gy (t : Tok) : t.text.length ≤ (Vx t).length := by
 unfold Vx
 split
 ·have := Vy t.text
  simp only [List.length_append, List.length_cons, List.length_nil]
  omega
 exact Nat.le_refl _
/-- Words with an end. -/
structure TokEnd (l : List Tok) : Prop where
 split : ∃ L z, l = L ++ [z] ∧ z.kind = 0 ∧ ∀ t ∈ L, t.kind ≠ 0
 texts : ∀ t ∈ l, t.text.length ≤ 1048576
theorem TokEnd.pos {l : List Tok} (h : TokEnd l) : 1 ≤ l.length := by
 obtain ⟨L, z, rfl, _, _⟩ := h.split
 simp
theorem TokEnd.text {l : List Tok} (h : TokEnd l) (i : Nat) : (A9 l i).text.length ≤ 1048576 := by
 unfold A9
 rcases Nat.lt_or_ge i l.length with hi | hi
 ·rw [List.getD_eq_getElem?_getD, List.getElem?_eq_getElem hi]
  exact h.texts _ (List.getElem_mem hi)
 rw [List.getD_eq_getElem?_getD, List.getElem?_eq_none hi]
 exact Nat.zero_le _
theorem gz (s : Str) (he : (B6 s).2.2.2 = 0) : (B6 s).1 ≠ 0 := by
 revert he
 unfold B6 J1 Qh Ga Mg
 repeat' split
 all_goals simp
theorem Sa : ∀ (f q : Nat) (s : Str), (∀ it ∈ Eo f q s, it.2 = 0) → ∀ it ∈ Eo f q s, it.1.kind ≠ 0 ∧ it.1.text.length ≤ s.length
 | 0, _, _, _, it, hm => by cases hm
 | f + 1, q, s, h, it, hm => by
  by_cases hs : s = []
  ·subst hs; cases hm
  obtain ⟨n, h1, h2⟩ := S8 (f := f) (q := q) hs
  rw [h1] at hm h
  have h0 : (B6 s).2.2.2 = 0 := h (⟨(B6 s).1, (B6 s).2.1, q⟩, (B6 s).2.2.2) (List.mem_cons_self ..)
  obtain ⟨hn, hn1, hn2⟩ := h2 h0
  rw [if_pos h0] at hm h
  rcases List.mem_cons.1 hm with rfl | hm
  ·refine ⟨gz s h0, ?_⟩
   have hs1 : 1 ≤ s.length := by cases s with | nil => exact absurd rfl hs | cons c r => simp
   have := Uw (p := q) hs1 h0 hn
   have h3 := gy ⟨(B6 s).1, (B6 s).2.1, q⟩
   rw [this] at h3
   simp only [List.length_take] at h3
   show (B6 s).2.1.length ≤ s.length
   omega
  have := Sa f _ _ (fun it hit => h it (List.mem_cons_of_mem _ hit)) it hm
  simp only [List.length_drop] at this
  exact ⟨this.1, by omega⟩
theorem i6 {s : Str} (h : (Dl s).2.1 = 0) : TokEnd (Dl s).1 := by
 by_cases h4 : 4000 < s.length
 ·unfold Dl at h
  rw [if_pos h4] at h
  exact ax
 have e : Dl s = ((B0 s).map (·.1) ++ [⟨0, [], s.length⟩], 0, 0) ∧ ∀ it ∈ B0 s, it.2 = 0 := by
  unfold Dl at h ⊢
  rw [if_neg h4] at h ⊢
  cases hf : (B0 s).find? (fun it => it.2 != 0) with
  | none =>
   rw [List.find?_eq_none] at hf
   exact ⟨rfl, fun it hit => by simpa using hf it hit⟩
  | some it =>
   rw [hf] at h
   have := List.find?_some hf
   simp only [bne_iff_ne] at this
   exact absurd h this
 obtain ⟨e, hz⟩ := e
 have hnz := Sa _ _ _ hz
 rw [e]
 refine ⟨⟨_, _, rfl, rfl, fun t ht => ?_⟩, fun t ht => ?_⟩
 ·obtain ⟨it, hit, rfl⟩ := List.mem_map.1 ht
  exact (hnz it hit).1
 rcases List.mem_append.1 ht with ht | ht
 ·obtain ⟨it, hit, rfl⟩ := List.mem_map.1 ht
  have := (hnz it hit).2
  simp only [List.length_drop] at this
  omega
 have e : t = ⟨0, [], s.length⟩ := by simpa using ht
 subst e
 exact Nat.zero_le _
/-! What is printed of a schema is read. -/
theorem r9 (c : List Col) (Hp : List AObj) : AFun Tryz.prog 9 [Af c] Hp (Ar (E1 c)) := by
 refine ACall.body [.tmp 2] [0] Tryz.func9 Tryz.ntmps9 (fun d => ?_)
 refine Z54 ?_;refine Xq ?_;refine R.fin [0, 6] ?_
 refine W.cond (fun ht6 => ?_) (fun ht6 => ?_)
 ·refine Z44 ?_;refine K.thR ?_;exact K.fin (V.one V.tmp) ⟨by simp [E1] at ht6 ⊢; omega, rfl⟩
 refine Z6 ?_;refine ap ?_
 refine AW.loopC (α := Nat) (fun x => ⟨20, A5 0 (Af c) (A5 3 (A4 (x : Nat)) (fun _ => .any)), Hp, [], [], none⟩) (fun x => x ≤ c.length ∧ ∀ (j : Nat) (y : Col), j < x → c[j]? = some y → decide ((100 : Int) < y.name.length) = false) (fun x => c.length - x) (0) (by simp) (StLe.refl _) rfl (fun x hx => ?_)
 refine Z96 ?_;refine Ri ?_;refine R.fin [0, 3, 10] ?_
 refine W.cond (fun ht10 => ?_) (fun ht10 => ?_)
 ·have hlt : x < c.length := by simpa using ht10
  have hcl : c.length ≤ 50 := by simp at ht6; omega
  refine Z6 ?_;refine Z22 ?_;refine Z27 ?_;refine l5 ?_;refine kn ?_;refine Xh ?_;refine R.fin [0, 3, 19] ?_
  refine W.cond (fun ht19 => ?_) (fun ht19 => ?_)
  ·refine Xo ?_;exact K.fin (V.one V.tmp) ⟨by rw [show E1 c = true from by unfold E1; rw [lb (p := fun y : Col => decide ((100 : Int) < y.name.length)) hlt ht19, Bool.or_true]], rfl⟩
  refine Tw ?_;refine Kb ?_;exact K.lpN (x + 1) ⟨hlt, Ce hlt hx.2 ht19⟩ (by omega) (StCut.of_eq rfl)
 refine K9 ?_;refine Z44 ?_;exact K.fin (V.one V.tmp) ⟨by rw [show E1 c = false from by unfold E1; rw [bb (Jf (by simp at ht10; omega) hx.2)]; simpa using ht6], rfl⟩
theorem Vz {c : List Col} (h : E1 c = false) : OkCols c := by
 unfold E1 at h
 simp only [Bool.or_eq_false_iff, decide_eq_false_iff_not, List.any_eq_false, decide_eq_true_eq] at h
 refine ⟨by omega, fun y hy => ?_⟩
 have := h.2 y hy
 omega
def Sb {α : Type} [BEq α] (v : α) (l : List α) : Int := match l.findIdx? (· == v) with | some i => i | none => -1
theorem lu {α : Type} [BEq α] [LawfulBEq α] {v : α} {l : List α} {x : Nat} (h : x < l.length) (h1 : l[x] = v) (h2 : ∀ (j : Nat) (y : α), j < x → l[j]? = some y → ¬ (y = v)) : Sb v l = x := by
 have : l.findIdx? (· == v) = some x := by
  rw [List.findIdx?_eq_some_iff_getElem]
  exact ⟨h, by simpa using h1, fun j hj => by simpa using h2 j l[j] hj (List.getElem?_eq_getElem _)⟩
 simp [Sb, this]
theorem cf {α : Type} [BEq α] [LawfulBEq α] {v : α} {l : List α} (h : ∀ (j : Nat) (y : α), l[j]? = some y → ¬ (y = v)) : Sb v l = -1 := by
 have : l.findIdx? (· == v) = none := by
  rw [List.findIdx?_eq_none_iff]
  intro y hy
  obtain ⟨j, hj⟩ := List.getElem?_of_mem hy
  simpa using h j y hj
 simp [Sb, this]
theorem i7 {α : Type} [BEq α] [LawfulBEq α] (v : α) (l : List α) : decide (0 ≤ Sb v l) = l.contains v := by
 unfold Sb
 cases h : l.findIdx? (· == v) with
 | none =>
  rw [List.findIdx?_eq_none_iff] at h
  have : l.contains v = false := by
   rw [Bool.eq_false_iff]
   intro hc
   have := h v (by simpa using hc)
   simp at this
  rw [this]; rfl
 | some i =>
  rw [List.findIdx?_eq_some_iff_getElem] at h
  obtain ⟨hi, e, _⟩ := h
  have : l.contains v = true := by
   have : l[i] = v := by simpa using e
   rw [← this]
   simp
  rw [this]
  simp only [decide_eq_true_eq]
  omega
theorem c58 (l : List Str) (v : Str) (hl : l.length ≤ 1048576) (Hp : List AObj) : AFun Tryz.prog 58 [E8 l, Aa v] Hp (A4 (Sb v l)) := by
 refine ACall.body [.tmp 4] [0, 1] Tryz.func58 Tryz.ntmps58 (fun d => ?_)
 refine Z56 ?_;refine aj ?_
 refine AW.loopC (α := Nat) (fun x => ⟨19, A5 0 (E8 l) (A5 1 (Aa v) (A5 7 (A4 l.length) (A5 8 (A4 (x : Nat)) (fun _ => .any)))), Hp, [], [], none⟩) (fun x => x ≤ l.length ∧ ∀ (j : Nat) (y : Str), j < x → l[j]? = some y → ¬ (y = v)) (fun x => l.length - x) (0) (by simp) (StLe.of_eq (by simp)) rfl (fun x hx => ?_)
 refine ag ?_
 refine W.condX (fun ht9 => ?_) (fun ht9 => ?_)
 ·have hlt : x < l.length := by simpa using ht9
  refine Z75 ?_;refine ae ?_;refine Z27 ?_;refine Av ?_;refine R.indexAddr (x) (Aa l[x]) jU jS (By hlt) ?_;refine Di ?_;refine R.seql ?_;refine aw ?_
  refine W.cond (fun ht16 => ?_) (fun ht16 => ?_)
  ·refine Xr ?_;refine Z46 ?_;exact K.fin (V.one V.tmp) ⟨by rw [lu hlt (by simpa using (Eq.symm (by simpa using ht16) : l[x] = v)) hx.2], rfl⟩
  refine Z91 ?_;refine R.fin [0, 1, 7, 8] ?_;exact K.lpN (x + 1) ⟨hlt, Ce hlt hx.2 (fun e => by rw [e] at ht16; simp at ht16)⟩ (by omega) (StCut.of_eq rfl)
 refine Z36 ?_;refine O0 ?_;exact K.fin (V.one V.tmp) ⟨by rw [cf (Jf (by simp at ht9; omega) hx.2)], rfl⟩

theorem c40 (l : List Str) (v : Str) (hl : l.length ≤ 1048576) (Hp : List AObj) : AFun Tryz.prog 40 [E8 l, Aa v] Hp (Ar (l.contains v)) := by
 refine ACall.body [.tmp 4] [0, 1] Tryz.func40 Tryz.ntmps40 (fun d => ?_)
 refine Z56 ?_;refine Z27 ?_;refine R.call Tryz.call58 (c58 l v hl _) ?_;refine R.geq ?_;refine Z51 ?_;exact K.fin (V.one V.tmp) ⟨by rw [i7], rfl⟩

theorem Yd {n k : Nat} {o : Bool} {l : List Col} {z : Col} : Low n (.slice o k (l.map Aq ++ [Aq z])) := by
 refine .slice _ _ _ (fun y hy => ?_)
 have key : ∀ c : Col, ∀ w ∈ (Aq c).cells, Low n w := by
  intro c w hw
  have hw' : w ∈ [AV.v (sv c.name), AV.v (.int .i64 c.kind)] := hw
  simp only [List.mem_cons, List.not_mem_nil, or_false] at hw'
  rcases hw' with rfl | rfl
  ·exact .v _
  exact .v _
 rcases List.mem_append.1 hy with hy | hy
 ·obtain ⟨a, _, rfl⟩ := List.mem_map.1 hy
  exact key a
 rw [List.mem_singleton.1 hy]
 exact key z
def Ii (c : List Col) (take : List Str) (j : Nat) (nm : Str) : Bool := !(decide (Be nm c < 0) || (Sb nm take != (j : Int)))
def Eb (c : List Col) (take : List Str) : Bool := take.zipIdx.all fun x => Ii c take x.2 x.1
theorem takenM_true {c : List Col} {take : List Str} : Eb c take = true ↔ ∀ (j : Nat) (y : Str), take[j]? = some y → Ii c take j y = true := Iz
def Jp (c : List Col) (x : Nat) (y : Col) : Bool := !((!Ro y.name) || (Be y.name c != (x : Int)))
def Fz (c : List Col) : Bool := c.zipIdx.all fun x => Jp c x.2 x.1
theorem namedC_true {c : List Col} : Fz c = true ↔ ∀ (j : Nat) (y : Col), c[j]? = some y → Jp c j y = true := Iz
def Cb (c : List Col) (take : List Str) : List Col := c.filter fun y => !take.contains y.name
theorem i8 {c : List Col} {take : List Str} {k : Nat} {y : Col} (h : c[k]? = some y) (hn : take.contains y.name = false) : Cb (c.take (k + 1)) take = Cb (c.take k) take ++ [y] := by
 unfold Cb
 have e : c.take (k + 1) = c.take k ++ [y] := by rw [List.take_succ, h]; rfl
 have hm : ¬ y.name ∈ take := by simpa using hn
 rw [e, List.filter_append]
 simp [List.filter_cons, hm]
theorem Ye {c : List Col} {take : List Str} {k : Nat} {y : Col} (h : c[k]? = some y) (hn : take.contains y.name = true) : Cb (c.take (k + 1)) take = Cb (c.take k) take := by
 unfold Cb
 have e : c.take (k + 1) = c.take k ++ [y] := by rw [List.take_succ, h]; rfl
 have hm : y.name ∈ take := by simpa using hn
 rw [e, List.filter_append]
 simp [List.filter_cons, hm]
theorem I2 (c : List Col) (take : List Str) : (Cb c take).length ≤ c.length := List.length_filter_le _ _
def C1 (c : List Col) (take : List Str) (give : List Col) : List Col × Int :=
 if C4 c = false then ([], 1) else if Eb c take = false then ([], 9) else if Fz (Cb c take ++ give) = false then ([], 9)
 else if Hv (Cb c take ++ give) = false then ([], 10) else if 12 < (Cb c take ++ give).length then ([], 3) else (Cb c take ++ give, 0)
theorem cg {c : List Col} {take : List Str} {give : List Col} (h : C4 c = false) : C1 c take give = ([], 1) := by unfold C1; rw [if_pos h]
theorem cj {c : List Col} {take : List Str} {give : List Col} (h : C4 c = true) (h2 : Eb c take = false) : C1 c take give = ([], 9) := by unfold C1; rw [if_neg (by rw [h]; simp), if_pos h2]
theorem ck {c : List Col} {take : List Str} {give out : List Col} (h : C4 c = true) (h2 : Eb c take = true) (ho : Cb c take ++ give = out) (h3 : Fz out = false) : C1 c take give = ([], 9) := by
 unfold C1; rw [ho, if_neg (by rw [h]; simp), if_neg (by rw [h2]; simp), if_pos h3]
theorem cl {c : List Col} {take : List Str} {give out : List Col} (h : C4 c = true) (h2 : Eb c take = true) (ho : Cb c take ++ give = out) (h3 : Fz out = true) (h4 : Hv out = false) : C1 c take give = ([], 10) := by
 unfold C1; rw [ho, if_neg (by rw [h]; simp), if_neg (by rw [h2]; simp), if_neg (by rw [h3]; simp), if_pos h4]
theorem cm {c : List Col} {take : List Str} {give out : List Col} (h : C4 c = true) (h2 : Eb c take = true) (ho : Cb c take ++ give = out) (h3 : Fz out = true) (h4 : Hv out = true) (h5 : 12 < out.length) : C1 c take give = ([], 3) := by
 unfold C1; rw [ho, if_neg (by rw [h]; simp), if_neg (by rw [h2]; simp), if_neg (by rw [h3]; simp), if_neg (by rw [h4]; simp), if_pos h5]
theorem cn {c : List Col} {take : List Str} {give out : List Col} (h : C4 c = true) (h2 : Eb c take = true) (ho : Cb c take ++ give = out) (h3 : Fz out = true) (h4 : Hv out = true) (h5 : ¬ 12 < out.length) : C1 c take give = (out, 0) := by
 unfold C1; rw [ho, if_neg (by rw [h]; simp), if_neg (by rw [h2]; simp), if_neg (by rw [h3]; simp), if_neg (by rw [h4]; simp), if_neg h5]
theorem Kr {c : List Col} (h : C4 c = true) : c.length ≤ 12 := by
 unfold C4 at h
 simp at h
 omega
theorem co {c give : List Col} {take : List Str} {out : List Col} (hc : OkCols c) (h : C4 c = true) (hg : OkCols give) (hg2 : give.length ≤ 1000000) (ho : Cb c take ++ give = out) : OkCols out := by
 subst ho
 have h1 := I2 c take
 have h2 := Kr h
 refine ⟨by simp only [List.length_append]; omega, fun y hy => ?_⟩
 rcases List.mem_append.1 hy with hy | hy
 ·exact hc.2 y ((List.mem_filter.1 hy).1)
 exact hg.2 y hy
theorem ra (c : List Col) (hc : OkCols c) (take : List Str) (ht : take.length ≤ 1048576) (Hp : List AObj) : AFun Tryz.prog 131 [Af c, E8 take] Hp (Ar (Eb c take)) := by
 refine ACall.body [.tmp 4] [0, 1] Tryz.func131 Tryz.ntmps131 (fun d => ?_)
 refine Z56 ?_;refine Q8 ?_;refine R.fin [0, 1, 7, 8, 9] ?_
 refine AW.loopC (α := Nat) (fun x => ⟨26, A5 0 (Af c) (A5 1 (E8 take) (A5 7 (E8 take) (A5 8 (A4 take.length) (A5 9 (A4 (x : Nat)) (fun _ => .any))))), Hp, [], [], none⟩) (fun x => x ≤ take.length ∧ ∀ (j : Nat) (y : Str), j < x → take[j]? = some y → Ii c take j y = true) (fun x => take.length - x) (0) (by simp) (StLe.of_eq (by simp)) rfl (fun x hx => ?_)
 refine Z59 ?_;refine R.fin [0, 1, 7, 8, 9, 10] ?_
 refine W.condX (fun ht10 => ?_) (fun ht10 => ?_)
 ·have hlt : x < take.length := by simpa using ht10
  refine Z75 ?_;refine R.indexAddr (x) (Aa take[x]) jU jS (By hlt) ?_;refine Di ?_;refine Z7 ?_;refine R.fin [0, 1, 5, 6, 7, 8, 9] ?_;refine Z27 ?_;refine R.call Tryz.call59 (c59 c hc _ _) ?_;refine R.lss ?_;refine Z93 ?_;refine G.call Tryz.call58 (fun hB => c58 take _ ht _) ?_;refine G.move ?_;refine Rh ?_;refine R.fin [0, 1, 7, 8, 9, 24] ?_
  refine W.cond (fun ht24 => ?_) (fun ht24 => ?_)
  ·refine O0 ?_;refine Z46 ?_
   exact K.fin (V.one V.tmp) ⟨by rw [show Eb c take = false from Bool.eq_false_iff.2 fun h => by have := takenM_true.1 h x take[x] (List.getElem?_eq_getElem hlt); unfold Ii at this; rw [ht24] at this; cases this], rfl⟩
  refine Z91 ?_;refine R.fin [0, 1, 7, 8, 9] ?_;exact K.lpN (x + 1) ⟨hlt, H5 hlt hx.2 (by unfold Ii; rw [ht24]; rfl)⟩ (by omega) (StCut.of_eq rfl)
 refine Z36 ?_;refine O0 ?_;exact K.fin (V.one V.tmp) ⟨by rw [takenM_true.2 (Ih (by simp at ht10; omega) hx.2)], rfl⟩

theorem rb (c : List Col) (hc : OkCols c) (Hp : List AObj) : AFun Tryz.prog 133 [Af c] Hp (Ar (Fz c)) := by
 refine ACall.body [.tmp 2] [0] Tryz.func133 Tryz.ntmps133 (fun d => ?_)
 refine Z54 ?_;refine Q8 ?_;refine R.fin [0, 5, 6, 7] ?_
 refine AW.loopC (α := Nat) (fun x => ⟨25, A5 0 (Af c) (A5 5 (Af c) (A5 6 (A4 c.length) (A5 7 (A4 (x : Nat)) (fun _ => .any)))), Hp, [], [], none⟩) (fun x => x ≤ c.length ∧ ∀ (j : Nat) (y : Col), j < x → c[j]? = some y → Jp c j y = true) (fun x => c.length - x) (0) (by simp) (StLe.of_eq (by simp)) rfl (fun x hx => ?_)
 refine Z59 ?_;refine R.fin [0, 5, 6, 7, 8] ?_
 refine W.condX (fun ht8 => ?_) (fun ht8 => ?_)
 ·have hlt : x < c.length := by simpa using ht8
  have hcl := hc.len
  refine Z75 ?_;refine Z88 ?_;refine Xi ?_;refine R.fin [0, 3, 4, 5, 6, 7] ?_;refine B8 ?_;refine ki ?_;refine R.call Tryz.call108 (be _ (hc.names _ (List.getElem_mem hlt)) _) ?_;refine Xn ?_;refine G.fieldAddrPtr (fo := 0) jU Tryz.sizeOf9 ?_;refine G.loadOwn jA ?_;refine G.call Tryz.call59 (fun hB => c59 c hc _ _) ?_;refine G.move ?_;refine Rh ?_;refine R.fin [0, 5, 6, 7, 23] ?_
  refine W.cond (fun ht23 => ?_) (fun ht23 => ?_)
  ·rw [J3] at ht23
   refine Xo ?_
   exact K.fin (V.one V.tmp) ⟨by rw [show Fz c = false from Bool.eq_false_iff.2 fun h => by have := namedC_true.1 h x c[x] (List.getElem?_eq_getElem hlt); unfold Jp at this; rw [ht23] at this; cases this], rfl⟩
  rw [J3] at ht23
  refine Z91 ?_;refine R.fin [0, 5, 6, 7] ?_
  refine K.lpN (x + 1) ⟨hlt, H5 hlt hx.2 (by unfold Jp; rw [ht23]; rfl)⟩ (by omega) ?_
  exact StCut.take (own := []) (fun _ => .refl _) (by repeat (first | exact B5 | refine B4 (by simp [or_imp, forall_and]) ?_)) (by simp) (by simp)
 refine Z36 ?_;refine Z44 ?_;exact K.fin (V.one V.tmp) ⟨by rw [namedC_true.2 (Ih (by simp at ht8; omega) hx.2)], rfl⟩

theorem rc (c : List Col) (take : List Str) (Hp : List AObj) : AFun Tryz.prog 132 [Af c, E8 take] Hp (.fn (.func 165) [] [.ro [Af c], .ro [E8 take]]) := by
 refine ACall.body [.tmp 4] [0, 1] Tryz.func132 Tryz.ntmps132 (fun d => ?_)
 refine Z32 ?_;refine R.boxRo ?_;refine Z61 ?_;refine B8 ?_;refine Ik ?_;exact Xb

theorem rd (l : Nat) (c : List Col) (take : List Str) (hc : c.length ≤ 1048576) (ht : take.length ≤ 1048576) (U : Nat → List AObj) (hlen : ∀ k, (U k).length = (U 0).length) (hll : l < (U 0).length)
  (hlw : ∀ k, ∀ x ∈ U k, ObjLow (U 0).length x) (hn : ∀ k y, c[k]? = some y → take.contains y.name = true → U (k + 1) = U k)
  (hy : ∀ k y X, c[k]? = some y → take.contains y.name = false → AYield Tryz.prog l [Aq y] (U k ++ X) (fun b H' => b = true ∧ H' = U (k + 1) ++ X)) : ACall Tryz.prog 165 [.yield l, .ro [Af c], .ro [E8 take]] (U 0) (fun _ H' => H' = U c.length) := by
 refine ACall.body [] [0, 1, 2] Tryz.func165 Tryz.ntmps165 (fun d => ?_)
 refine Z85 ?_;refine Z45 ?_;refine R.fin [0, 2, 6, 7, 8] ?_
 refine AW.loopC (α := Nat) (fun x => ⟨24, A5 0 (.yield l) (A5 2 (.ro [E8 take]) (A5 6 (Af c) (A5 7 (A4 c.length) (A5 8 (A4 (x : Nat)) (fun _ => .any))))), U x, [], [], none⟩) (fun x => x ≤ c.length) (fun x => c.length - x) (0) (Nat.zero_le _) (StLe.of_eq (by simp)) rfl (fun x hx => ?_)
 refine Z59 ?_;refine R.fin [0, 2, 6, 7, 8, 9] ?_
 refine W.condX (fun ht9 => ?_) (fun ht9 => ?_)
 ·have hlt : x < c.length := by simpa using ht9
  refine Z73 ?_;refine Z88 ?_;refine Z10 ?_;refine R.fin [0, 2, 5, 6, 7, 8] ?_;refine Z85 ?_;refine ki ?_;refine R.call Tryz.call40 (c40 take _ ht _) ?_;refine Xn ?_;refine G.loadOwnN jA jS ?_
  refine G.yield (l := l) (C := ((!take.contains c[x].name) == true)) (args := [Aq c[x]]) (fun hC => hy x c[x] _ (List.getElem?_eq_getElem hlt) (by simpa using hC)) ?_
  intro b V O hV hb hb0
  have hVO : V = U (x + 1) ∧ O = [AObj.cells 58 [Aa c[x].name, A4 c[x].kind]] ∧ (take.contains c[x].name = false → b = true) := by
   cases hcn : take.contains c[x].name with
   | true =>
    obtain ⟨h1, h2⟩ := hb0 (by rw [hcn]; rfl)
    exact ⟨h1.trans (hn x c[x] (List.getElem?_eq_getElem hlt) hcn).symm, h2, fun e => by cases e⟩
   | false =>
    obtain ⟨h1, h2⟩ := hb (by rw [hcn]; rfl)
    have h3 := List.append_inj h2 (by rw [hV, hlen x, hlen (x + 1)])
    exact ⟨h3.1, h3.2, fun _ => h1⟩
  obtain ⟨rfl, rfl, hbt⟩ := hVO
  refine ⟨fun _ => by rw [hlen (x + 1)]; exact hlw (x + 1), fun o ho => (by cases ho), ?_⟩
  refine G.not ?_;refine G8 ?_;refine R.fin [0, 2, 6, 7, 8, 22] ?_
  refine W.cond (fun ht22 => ?_) (fun ht22 => ?_)
  ·exfalso
   have hcf : take.contains c[x].name = false := by simp at ht22 ⊢; exact ht22.1
   rw [hbt hcf] at ht22
   simp at ht22
  refine Z91 ?_;refine R.fin [0, 2, 6, 7, 8] ?_;refine K.lpN (x + 1) hlt (by omega) ?_
  exact StCut.take (own := []) (fun _ => .refl _) (by repeat (first | exact B5 | refine B4 (by first | (simp [or_imp, forall_and]; done) | (have := hlen (x + 1); simp; omega)) ?_)) (by simp) (by simp)
 have hxe : x = c.length := by simp at ht9; omega
 refine K.lpE ?_;exact K.finN .nores (hp := by rw [hxe])

/-! What went and came, taken back: the same columns. -/
theorem find_mem {nm : Str} {c : List Col} : ¬ (Be nm c < 0) ↔ ∃ (j : Nat) (y : Col), c[j]? = some y ∧ y.name = nm ∧ Be nm c = (j : Int) := by
 unfold Be
 cases h : c.findIdx? (fun y => y.name == nm) with
 | none =>
  constructor
  ·intro h'; exact absurd (by decide) h'
  rintro ⟨j, y, _, _, e⟩
  exact absurd (show (-1 : Int) = (j : Int) from e) (by omega)
 | some i =>
  rw [List.findIdx?_eq_some_iff_getElem] at h
  obtain ⟨hi, e, _⟩ := h
  constructor
  ·intro _; exact ⟨i, c[i], List.getElem?_eq_getElem hi, by simpa using e, rfl⟩
  intro _ h'
  have : (i : Int) < 0 := h'
  omega
theorem ia {c : List Col} {take : List Str} {give : List Col} (h : (C1 c take give).2 = 0) : C4 c = true ∧ Eb c take = true ∧ Hv (Cb c take ++ give) = true ∧ (Cb c take ++ give).length ≤ 12 ∧ C1 c take give = (Cb c take ++ give, 0) := by
 cases h1 : C4 c with
 | false => rw [cg h1] at h; exact absurd (show (1 : Int) = 0 from h) (by decide)
 | true =>
  cases h2 : Eb c take with
  | false => rw [cj h1 h2] at h; exact absurd (show (9 : Int) = 0 from h) (by decide)
  | true =>
   cases h3 : Fz (Cb c take ++ give) with
   | false => rw [ck h1 h2 rfl h3] at h; exact absurd (show (9 : Int) = 0 from h) (by decide)
   | true =>
    cases h4 : Hv (Cb c take ++ give) with
    | false => rw [cl h1 h2 rfl h3 h4] at h; exact absurd (show (10 : Int) = 0 from h) (by decide)
    | true =>
     by_cases h5 : 12 < (Cb c take ++ give).length
     ·rw [cm h1 h2 rfl h3 h4 h5] at h; exact absurd (show (3 : Int) = 0 from h) (by decide)
     exact ⟨rfl, rfl, rfl, by omega, cn h1 h2 rfl h3 h4 h5⟩
set_option maxRecDepth 8000
/-- What a node asks of its kids, and what it is. -/
structure Sign where
 kids : List Int
 own : Int
def A2 (s : Str) : Sign := if (s == [111, 114]) || (s == [97, 110, 100]) then ⟨[3, 3], 3⟩ else if (((((s == [61]) || (s == [33, 61])) || (s == [60])) || (s == [60, 61])) || (s == [62])) || (s == [62, 61]) then ⟨[-1, -1], 3⟩ else if s == [38] then ⟨[2, 2], 2⟩ else ⟨[1, 1], 1⟩
def A3 (s : Str) : Sign := if (s == [108, 101, 110]) || (s == [110, 117, 109]) then ⟨[2], 1⟩ else if s == [115, 116, 114] then ⟨[1], 2⟩ else if (s == [108, 101, 102, 116]) || (s == [114, 105, 103, 104, 116]) then ⟨[2, 1], 2⟩ else if s == [105, 115, 110, 117, 108, 108] then ⟨[-2], 3⟩ else if s == [110, 118, 108] then ⟨[-1, -1], -1⟩ else ⟨[3, -1, -1], -1⟩
def Bt (o : Int) (t : Str) : Sign := if o == 3 then ⟨[1], 1⟩ else if o == 4 then ⟨[3], 3⟩ else if o == 5 then A2 t else A3 t
def Bx (a b : Int) : Int × Bool := if a == 0 then (b, true) else if (b == 0) || (a == b) then (a, true) else (0, false)
def N5 : List Int → List Int → Int → Option Int
 | _, [], c => some c
 | [], _ :: _, _ => none
 | w :: ws, k :: ks, c => if w == -2 then N5 ws ks c else if w == -1 then (if (Bx c k).2 then N5 ws ks (Bx c k).1 else none) else if (Bx w k).2 then N5 ws ks c else none
def Sc (s : Sign) (ks : List Int) : Int × Int := match N5 s.kids ks 0 with | none => (0, 10) | some c => if s.own == -1 then (c, 0) else (s.own, 0)
def Sd (c : List Col) (t : Str) : Int × Int := if Be t c < 0 then (0, 9) else ((c.getD (Be t c).toNat ⟨[], 0⟩).kind, 0)
def P4 (c : List Col) (o : Int) (t : Str) (v : Val) (ks : List (Int × Int)) : Int × Int :=
 if o == 1 then (v.kind, 0) else if o == 2 then Sd c t else match ks.find? (fun q => q.2 != 0) with | some q => (0, q.2) | none => Sc (Bt o t) (ks.map (·.1))
mutual
def Dc (c : List Col) : Expr → Int × Int
 | .mk o t v k => P4 c o t v (W0 c k)
def W0 (c : List Col) : List Expr → List (Int × Int)
  | [] => []
  | e :: r => Dc c e :: W0 c r
 end
theorem P5 (c : List Col) : ∀ l, W0 c l = l.map (Dc c)
 | [] => rfl
 | e :: r => by rw [W0, P5 c r]; rfl
theorem Jq (c : List Col) (e : Expr) : Dc c e = P4 c e.op e.text e.val (e.kids.map (Dc c)) := by cases e; rw [Dc, P5]; rfl
/-- infer.Kind. -/
def I3 (e : Expr) (c : List Col) : Int × Int := if (!(Ay e)) || !(Mp c) then (0, 1) else Dc c e
/-! The signs have as many as the nodes have kids. -/
theorem Ux (s : Str) : (A2 s).kids.length = 2 := by
 unfold A2; repeat' split
 all_goals rfl
theorem Uy {t : Str} {n : Nat} (h : E9 t = (n : Int)) : (A3 t).kids.length = n := by
 rw [show E9 t = E9 t from rfl] at h
 by_cases hm : t ∈ arityList.map (·.1)
 ·have : ((arityList.map (·.1)).all fun s => decide (((A3 s).kids.length : Int) = E9 s)) = true := by kernel_rfl
  have := of_decide_eq_true (List.all_eq_true.1 this t hm)
  omega
 have h1 : E9 t = -1 := by
  unfold E9
  rw [List.find?_eq_none.2 fun p hp => by
   simp only [beq_iff_eq]
   rintro rfl
   exact hm (List.mem_map.2 ⟨p, hp, rfl⟩)]
 omega
theorem cp {e : Expr} (h : Gb e = true) (h1 : (e.op == 1) = false) (h2 : (e.op == 2) = false) : (Bt e.op e.text).kids.length = e.kids.length := by
 unfold Gb at h
 rw [h1, h2] at h
 simp only [Bool.false_eq_true, if_false] at h
 unfold Bt
 by_cases h3 : (e.op == 3) = true
 ·rw [h3] at h
  simp only [Bool.true_or, if_true, Bool.and_eq_true, beq_iff_eq] at h
  rw [if_pos h3]
  show 1 = _
  omega
 have h3' : (e.op == 3) = false := by simpa using h3
 rw [if_neg h3]
 rw [h3'] at h
 by_cases h4 : (e.op == 4) = true
 ·rw [h4] at h
  simp only [Bool.false_or, if_true, Bool.and_eq_true, beq_iff_eq] at h
  rw [if_pos h4]
  show 1 = _
  omega
 have h4' : (e.op == 4) = false := by simpa using h4
 rw [if_neg h4]
 rw [h4'] at h
 simp only [Bool.or_false, Bool.false_eq_true, if_false] at h
 by_cases h5 : (e.op == 5) = true
 ·rw [h5] at h
  simp only [if_true, Bool.and_eq_true, beq_iff_eq] at h
  rw [if_pos h5, Ux]
  omega
 have h5' : (e.op == 5) = false := by simpa using h5
 rw [if_neg h5]
 rw [h5'] at h
 simp only [Bool.false_eq_true, if_false] at h
 by_cases h6 : (e.op == 6) = true
 ·rw [h6] at h
  simp only [if_true, Bool.and_eq_true, beq_iff_eq] at h
  exact Uy h.2
 have h6' : (e.op == 6) = false := by simpa using h6
 rw [h6'] at h
 cases h
/-! More columns. -/
/-! A tree in a column's place. -/
set_option maxRecDepth 4000
/-- Where a parser of expressions stands: its word, its nest, its fault. -/
structure PS where
 i : Nat
 nest : Nat
 code : Int
 at_ : Int
def noV : Val := ⟨0, 0, []⟩
def Az : Expr := .mk 0 [] noV []
def Cc (e a : Int) (S : PS) : PS := if S.code == 0 then ⟨S.i, S.nest, e, a⟩ else S
def isM (l : List Tok) (of : Str) (S : PS) : Bool := (((A9 l S.i).kind == 5) || ((A9 l S.i).kind == 2)) && Qd (A9 l S.i).text of
def Ab (S : PS) : PS := ⟨S.i + 1, S.nest, S.code, S.at_⟩
def Bo (S : PS) : PS := ⟨S.i, S.nest + 1, S.code, S.at_⟩
def P6 (S : PS) : PS := ⟨S.i, S.nest - 1, S.code, S.at_⟩
def D6 (l : List Tok) (s : Str) (S : PS) : PS := if S.code != 0 then S else if ((A9 l S.i).kind != 5) || !((A9 l S.i).text == s) then Cc 8 (A9 l S.i).at_ S else Ab S
/-- What stands one nest deeper. -/
structure Fam where
 ei : PS → Expr × PS
 no : PS → Expr × PS
 ne : PS → Expr × PS
def Ba (a : Int) (f : PS → Expr × PS) (S : PS) : Expr × PS := if (S.nest : Int) == 30 then (Az, Cc 18 a S) else ((f (Bo S)).1, P6 (f (Bo S)).2)
def J5 (t : Str) (x y : Expr) : Expr := .mk 5 t noV [x, y]
def P7 (l : List Tok) (of : Str) (f : PS → Expr × PS) : Nat → Expr × PS → Expr × PS
 | 0, r => r
 | n + 1, r => if (r.2.code == 0) && isM l of r.2 then P7 l of f n (J5 (A9 l r.2.i).text r.1 (f (Ab r.2)).1, (f (Ab r.2)).2) else r
def Dd (l : List Tok) (of : Str) (f : PS → Expr × PS) (S : PS) : Expr × PS := P7 l of f l.length (f S)
def N6 : Str := [32, 44, 32]
def argsF (l : List Tok) (f : PS → Expr × PS) : Nat → List Expr × PS → List Expr × PS
 | 0, r => r
 | n + 1, r => if (r.2.code == 0) && isM l N6 r.2 then argsF l f n (r.1 ++ [(f (Ab r.2)).1], (f (Ab r.2)).2) else r
def Eh (l : List Tok) (f : PS → Expr × PS) (S : PS) : List Expr × PS := argsF l f l.length ([(f S).1], (f S).2)
def Lf (l : List Tok) (a : Int) (f : PS → Expr × PS) (S : PS) : List Expr × PS := if (S.nest : Int) == 30 then ([], Cc 18 a S) else ((Eh l f (Bo S)).1, P6 (Eh l f (Bo S)).2)
def D3 : Str := [41]
def C0 (l : List Tok) (D : Fam) (S : PS) : List Expr × PS := Lf l (A9 l S.i).at_ D.ei (Ab S)
def Ei (l : List Tok) (D : Fam) (t : Tok) (S : PS) : Expr × PS :=
 if E9 t.text < 0 then (Az, Cc 9 t.at_ S)
 else if ((D6 l D3 (C0 l D S).2).code == 0) && !(((C0 l D S).1.length : Int) == E9 t.text) then (Az, Cc 8 t.at_ (D6 l D3 (C0 l D S).2))
 else (.mk 6 t.text noV (C0 l D S).1, D6 l D3 (C0 l D S).2)
def orT : Str := [32, 111, 114, 32]
def Yf : Str := [32, 97, 110, 100, 32]
def lv : Str := [32, 110, 111, 116, 32]
def ib : Str := [32, 61, 32, 33, 61, 32, 60, 32, 60, 61, 32, 62, 32, 62, 61, 32]
def Yg : Str := [32, 43, 32, 45, 32, 38, 32]
def P8 : Str := [32, 42, 32, 47, 32, 37, 32]
def lw : Str := [32, 45, 32]
def opT : Str := [32, 40, 32]
def lx : Str := [32, 116, 114, 117, 101, 32, 102, 97, 108, 115, 101, 32, 110, 117, 108, 108, 32]
def N7 (v : Val) : Expr := .mk 1 [] v []
def Dq (l : List Tok) (D : Fam) (S : PS) : Expr × PS :=
 if S.code != 0 then (Az, S)
 else if ((A9 l S.i).kind == 3) || isM l lx S then (N7 (Ea (A9 l S.i).text).1, Ab S)
 else if (A9 l S.i).kind == 4 then (N7 ⟨2, 0, (A9 l S.i).text.take 200⟩, Ab S)
 else if (A9 l S.i).kind == 1 then (if isM l opT (Ab S) then Ei l D (A9 l S.i) (Ab S) else (Cr (A9 l S.i).text, Ab S))
 else if isM l opT S then ((Ba (A9 l S.i).at_ D.ei (Ab S)).1, D6 l D3 (Ba (A9 l S.i).at_ D.ei (Ab S)).2)
 else (Az, Cc 8 (A9 l S.i).at_ S)
def Jr (op : Int) (x : Expr) : Expr := .mk op [] noV [x]
def Ln (l : List Tok) (D : Fam) (S : PS) : Expr × PS := if !isM l lw S then Dq l D S else (Jr 3 (Ba (A9 l S.i).at_ D.ne (Ab S)).1, (Ba (A9 l S.i).at_ D.ne (Ab S)).2)
def Se (l : List Tok) (D : Fam) : PS → Expr × PS := Dd l P8 (Ln l D)
def Cl (l : List Tok) (D : Fam) : PS → Expr × PS := Dd l Yg (Se l D)
def D7 (l : List Tok) (D : Fam) (S : PS) : Expr × PS :=
 if ((Cl l D S).2.code != 0) || !isM l ib (Cl l D S).2 then Cl l D S
 else (J5 (A9 l (Cl l D S).2.i).text (Cl l D S).1 (Cl l D (Ab (Cl l D S).2)).1, (Cl l D (Ab (Cl l D S).2)).2)
def Lo (l : List Tok) (D : Fam) (S : PS) : Expr × PS := if !isM l lv S then D7 l D S else (Jr 4 (Ba (A9 l S.i).at_ D.no (Ab S)).1, (Ba (A9 l S.i).at_ D.no (Ab S)).2)
def Sf (l : List Tok) (D : Fam) : PS → Expr × PS := Dd l Yf (Lo l D)
def Lt (l : List Tok) (D : Fam) : PS → Expr × PS := Dd l orT (Sf l D)
def D4 (l : List Tok) : Nat → Fam
 | 0 => ⟨fun S => (Az, S), fun S => (Az, S), fun S => (Az, S)⟩
 | d + 1 => ⟨Lt l (D4 l d), Lo l (D4 l d), Ln l (D4 l d)⟩

/-! What is so of them. -/
theorem Er : ∀ {n m : Nat}, n ≤ m → ∀ {e : Expr}, okE n e → okE m e
 | 0, _, _, _, h => h.elim
 | n + 1, 0, h, _, _ => by omega
 | n + 1, m + 1, h, _, ho => ⟨ho.1, ho.2.1, fun y hy => Er (by omega) (ho.2.2 y hy)⟩
theorem N8 : sizeE Az = 1 := rfl
theorem Yh (t : Str) (a b : Expr) : sizeE (J5 t a b) = 1 + (sizeE a + (sizeE b + 0)) := by rw [J5, sizeE, C5, C5, C5]
theorem Yi (o : Int) (a : Expr) : sizeE (Jr o a) = 1 + (sizeE a + 0) := by rw [Jr, sizeE, C5, C5]
theorem P9 : ∀ a b : List Expr, C5 (a ++ b) = C5 a + C5 b
 | [], b => by rw [List.nil_append, C5, Nat.zero_add]
 | e :: r, b => by rw [List.cons_append, C5, C5, P9 r b, Nat.add_assoc]
theorem Sg {n : Nat} (h : 1 ≤ n) : okE n Az := Er h ⟨by decide, by decide, fun y hy => by cases hy⟩
theorem W3 {n : Nat} (h : 1 ≤ n) (v : Val) : okE n (N7 v) := Er h ⟨by simp [N7, Expr.text], by simp [N7, Expr.kids], fun y hy => by cases hy⟩
structure Fact (l : List Tok) (S : PS) (r : Expr × PS) : Prop where
 le : S.i ≤ r.2.i
 lt : r.2.i < l.length
 nest : r.2.nest = S.nest
 ok : okE (2 * (r.2.i - S.i) + 1) r.1
 sz : sizeE r.1 ≤ 2 * (r.2.i - S.i) + 1
def Cm (l : List Tok) (n : Nat) (f : PS → Expr × PS) : Prop := ∀ S, S.i < l.length → S.nest = n → Fact l S (f S)
theorem TokEnd.step {l : List Tok} (h : TokEnd l) {i : Nat} (hi : i < l.length) (hk : (A9 l i).kind ≠ 0) : i + 1 < l.length := by
 obtain ⟨L, z, rfl, hz, _⟩ := h.split
 rcases Nat.lt_or_ge i L.length with h1 | h1
 ·simp only [List.length_append, List.length_cons, List.length_nil]; omega
 have : i = L.length := by simp only [List.length_append, List.length_cons, List.length_nil] at hi; omega
 subst this
 exact absurd (by unfold A9; simpa using hz) hk
theorem cq {l : List Tok} {of : Str} {S : PS} (h : isM l of S = true) : (A9 l S.i).kind ≠ 0 := by
 unfold isM at h
 simp only [Bool.and_eq_true, Bool.or_eq_true, beq_iff_eq] at h
 omega
theorem TokEnd.stepIs {l : List Tok} (h : TokEnd l) {of : Str} {S : PS} (hi : S.i < l.length) (hk : isM l of S = true) : (Ab S).i < l.length := h.step hi (cq hk)
theorem failM_i {e a : Int} {S : PS} : (Cc e a S).i = S.i ∧ (Cc e a S).nest = S.nest := by unfold Cc; split <;> exact ⟨rfl, rfl⟩
theorem W4 {l : List Tok} (hl : TokEnd l) {s : Str} {S : PS} (hi : S.i < l.length) : S.i ≤ (D6 l s S).i ∧ (D6 l s S).i < l.length ∧ (D6 l s S).nest = S.nest := by
 unfold D6
 split
 ·exact ⟨Nat.le_refl _, hi, rfl⟩
 split
 ·rw [failM_i.1, failM_i.2]; exact ⟨Nat.le_refl _, hi, rfl⟩
 rename_i h
 simp only [Bool.or_eq_true, bne_iff_ne, ne_eq, not_or, Classical.not_not] at h
 have := hl.step hi (by rw [h.1]; decide)
 exact ⟨Nat.le_succ _, this, rfl⟩
theorem Js {l : List Tok} {S S0 : PS} (h0 : S0.i ≤ S.i) (h1 : S.i < l.length) (h2 : S.nest = S0.nest) (e a : Int) : Fact l S0 (Az, Cc e a S) := by
 refine ⟨?_, ?_, ?_, Sg (by omega), by rw [N8]; omega⟩
 ·show _ ≤ (Cc e a S).i; rw [failM_i.1]; exact h0
 ·show (Cc e a S).i < _; rw [failM_i.1]; exact h1
 show (Cc e a S).nest = _; rw [failM_i.2]; exact h2
/-- A state of a loop of marks. -/
structure LeftAt (l : List Tok) (of : Str) (f : PS → Expr × PS) (S : PS) (r : Expr × PS) : Prop where
 fact : Fact l S r
 eq : ∃ n, l.length ≤ r.2.i + n ∧ Dd l of f S = P7 l of f n r
theorem LeftAt.start {l : List Tok} {of : Str} {f : PS → Expr × PS} {S : PS} (h : Fact l S (f S)) : LeftAt l of f S (f S) := ⟨h, l.length, by omega, rfl⟩
theorem W5 {l : List Tok} {S : PS} {r q : Expr × PS} (h : Fact l S r) (hq : Fact l (Ab r.2) q) (hl : TokEnd l) : Fact l S (J5 (A9 l r.2.i).text r.1 q.1, q.2) := by
 have h1 := h.le
 have h2 : r.2.i + 1 ≤ q.2.i := hq.le
 refine ⟨by show S.i ≤ q.2.i; omega, hq.lt, by show q.2.nest = S.nest; rw [hq.nest]; exact h.nest, ?_, ?_⟩
 rotate_left
 ·have s1 := h.sz
  have s2 : sizeE q.1 ≤ 2 * (q.2.i - (r.2.i + 1)) + 1 := hq.sz
  show sizeE (J5 _ r.1 q.1) ≤ 2 * (q.2.i - S.i) + 1
  rw [Yh]
  omega
 show okE (2 * (q.2.i - S.i) + 1) _
 refine ⟨hl.text _, by simp [J5, Expr.kids], fun y hy => ?_⟩
 have hy' : y = r.1 ∨ y = q.1 := by simpa [J5, Expr.kids] using hy
 rcases hy' with rfl | rfl
 ·exact Er (by omega) h.ok
 exact Er (by show 2 * (q.2.i - (r.2.i + 1)) + 1 ≤ _; omega) hq.ok
theorem LeftAt.on {l : List Tok} {of : Str} {f : PS → Expr × PS} {S : PS} {r : Expr × PS} (hl : TokEnd l) (h : LeftAt l of f S r) (hc : ((r.2.code == 0) && isM l of r.2) = true) (hf : Cm l S.nest f) : (Ab r.2).i < l.length ∧ Fact l (Ab r.2) (f (Ab r.2)) ∧ LeftAt l of f S (J5 (A9 l r.2.i).text r.1 (f (Ab r.2)).1, (f (Ab r.2)).2) := by
 have hi := hl.stepIs h.fact.lt (Bool.and_eq_true_iff.1 hc).2
 have hq := hf (Ab r.2) hi h.fact.nest
 obtain ⟨n, hn, e⟩ := h.eq
 have h1 := h.fact.lt
 have h2 : r.2.i + 1 ≤ (f (Ab r.2)).2.i := hq.le
 obtain ⟨m, rfl⟩ : ∃ m, n = m + 1 := ⟨n - 1, by omega⟩
 refine ⟨hi, hq, W5 h.fact hq hl, m, by show l.length ≤ (f (Ab r.2)).2.i + m; omega, ?_⟩
 rw [e, P7, if_pos hc]
theorem LeftAt.out {l : List Tok} {of : Str} {f : PS → Expr × PS} {S : PS} {r : Expr × PS} (h : LeftAt l of f S r) (hc : ¬ ((r.2.code == 0) && isM l of r.2) = true) : Dd l of f S = r := by
 obtain ⟨n, hn, e⟩ := h.eq
 have h1 := h.fact.lt
 obtain ⟨m, rfl⟩ : ∃ m, n = m + 1 := ⟨n - 1, by omega⟩
 rw [e, P7, if_neg hc]
theorem Sh {l : List Tok} {of : Str} {f : PS → Expr × PS} {S : PS} (hl : TokEnd l) (hf : Cm l S.nest f) : ∀ (k : Nat) (r : Expr × PS), l.length - r.2.i ≤ k → LeftAt l of f S r → Fact l S (Dd l of f S)
 | 0, r, hk, h => by have := h.fact.lt; omega
 | k + 1, r, hk, h => by
  by_cases hc : ((r.2.code == 0) && isM l of r.2) = true
  ·obtain ⟨h1, h2, h3⟩ := h.on hl hc hf
   have h4 : r.2.i + 1 ≤ (f (Ab r.2)).2.i := h2.le
   exact Sh hl hf k _ (by show l.length - (f (Ab r.2)).2.i ≤ k; have := h.fact.lt; omega) h3
  rw [h.out hc]; exact h.fact
theorem Dx {l : List Tok} {of : Str} {f : PS → Expr × PS} {n : Nat} (hl : TokEnd l) (hf : Cm l n f) : Cm l n (Dd l of f) := fun S hi hn => Sh hl (hn ▸ hf) l.length (f S) (by omega) (.start (hf S hi hn))
theorem Fg {l : List Tok} {f : PS → Expr × PS} {S : PS} (a : Int) (hi : S.i < l.length) (hf : S.nest ≠ 30 → Cm l (S.nest + 1) f) : Fact l S (Ba a f S) := by
 unfold Ba
 split
 ·exact Js (Nat.le_refl _) hi rfl _ _
 rename_i h
 have h30 : S.nest ≠ 30 := fun e => h (by rw [e]; rfl)
 have := hf h30 (Bo S) hi rfl
 refine ⟨this.le, this.lt, ?_, this.ok, this.sz⟩
 show (f (Bo S)).2.nest - 1 = S.nest
 rw [this.nest]
 rfl
/-- What is so of some kids. -/
structure KFact (l : List Tok) (S : PS) (r : List Expr × PS) : Prop where
 le : S.i ≤ r.2.i
 lt : r.2.i < l.length
 nest : r.2.nest = S.nest
 len : r.1.length ≤ r.2.i - S.i + 1
 ok : ∀ y ∈ r.1, okE (2 * (r.2.i - S.i) + 1) y
 sz : C5 r.1 ≤ 2 * (r.2.i - S.i) + 1
structure ArgsAt (l : List Tok) (f : PS → Expr × PS) (S : PS) (r : List Expr × PS) : Prop where
 fact : KFact l S r
 eq : ∃ n, l.length ≤ r.2.i + n ∧ Eh l f S = argsF l f n r
theorem ArgsAt.start {l : List Tok} {f : PS → Expr × PS} {S : PS} (h : Fact l S (f S)) : ArgsAt l f S ([(f S).1], (f S).2) := ⟨⟨h.le, h.lt, h.nest, by simp, fun y hy => by rw [List.mem_singleton.1 hy]; exact h.ok, by have := h.sz; show sizeE (f S).1 + 0 ≤ _; exact this⟩, l.length, by omega, rfl⟩
theorem ArgsAt.on {l : List Tok} {f : PS → Expr × PS} {S : PS} {r : List Expr × PS} (hl : TokEnd l) (h : ArgsAt l f S r) (hc : ((r.2.code == 0) && isM l N6 r.2) = true) (hf : Cm l S.nest f) : (Ab r.2).i < l.length ∧ Fact l (Ab r.2) (f (Ab r.2)) ∧ ArgsAt l f S (r.1 ++ [(f (Ab r.2)).1], (f (Ab r.2)).2) := by
 have hi := hl.stepIs h.fact.lt (Bool.and_eq_true_iff.1 hc).2
 have hq := hf (Ab r.2) hi h.fact.nest
 obtain ⟨n, hn, e⟩ := h.eq
 have h1 := h.fact.lt
 have h0 := h.fact.le
 have h2 : r.2.i + 1 ≤ (f (Ab r.2)).2.i := hq.le
 obtain ⟨m, rfl⟩ : ∃ m, n = m + 1 := ⟨n - 1, by omega⟩
 refine ⟨hi, hq, ⟨by show S.i ≤ (f (Ab r.2)).2.i; omega, hq.lt, by show (f (Ab r.2)).2.nest = _; rw [hq.nest]; exact h.fact.nest, ?_, fun y hy => ?_, ?_⟩, m, by show l.length ≤ (f (Ab r.2)).2.i + m; omega, ?_⟩
 ·have := h.fact.len
  show (r.1 ++ _).length ≤ (f (Ab r.2)).2.i - S.i + 1
  simp only [List.length_append, List.length_cons, List.length_nil]
  omega
 ·show okE (2 * ((f (Ab r.2)).2.i - S.i) + 1) y
  rcases List.mem_append.1 hy with hy | hy
  ·exact Er (by omega) (h.fact.ok y hy)
  rw [List.mem_singleton.1 hy]
  exact Er (by show 2 * ((f (Ab r.2)).2.i - (r.2.i + 1)) + 1 ≤ _; omega) hq.ok
 ·have s1 := h.fact.sz
  have s2 : sizeE (f (Ab r.2)).1 ≤ 2 * ((f (Ab r.2)).2.i - (r.2.i + 1)) + 1 := hq.sz
  show C5 (r.1 ++ [(f (Ab r.2)).1]) ≤ 2 * ((f (Ab r.2)).2.i - S.i) + 1
  rw [P9, C5, C5]
  omega
 rw [e, argsF, if_pos hc]
theorem ArgsAt.out {l : List Tok} {f : PS → Expr × PS} {S : PS} {r : List Expr × PS} (h : ArgsAt l f S r) (hc : ¬ ((r.2.code == 0) && isM l N6 r.2) = true) : Eh l f S = r := by
 obtain ⟨n, hn, e⟩ := h.eq
 have h1 := h.fact.lt
 obtain ⟨m, rfl⟩ : ∃ m, n = m + 1 := ⟨n - 1, by omega⟩
 rw [e, argsF, if_neg hc]
theorem Si {l : List Tok} {f : PS → Expr × PS} {S : PS} (hl : TokEnd l) (hf : Cm l S.nest f) : ∀ (k : Nat) (r : List Expr × PS), l.length - r.2.i ≤ k → ArgsAt l f S r → KFact l S (Eh l f S)
 | 0, r, hk, h => by have := h.fact.lt; omega
 | k + 1, r, hk, h => by
  by_cases hc : ((r.2.code == 0) && isM l N6 r.2) = true
  ·obtain ⟨h1, h2, h3⟩ := h.on hl hc hf
   have h4 : r.2.i + 1 ≤ (f (Ab r.2)).2.i := h2.le
   exact Si hl hf k _ (by show l.length - (f (Ab r.2)).2.i ≤ k; have := h.fact.lt; omega) h3
  rw [h.out hc]; exact h.fact
theorem N9 {l : List Tok} {f : PS → Expr × PS} {S : PS} (hl : TokEnd l) (hi : S.i < l.length) (hf : Cm l S.nest f) : KFact l S (Eh l f S) := Si hl hf l.length _ (by show l.length - (f S).2.i ≤ _; omega) (.start (hf S hi rfl))
theorem Na {l : List Tok} {f : PS → Expr × PS} {S : PS} (hl : TokEnd l) (a : Int) (hi : S.i < l.length) (hf : S.nest ≠ 30 → Cm l (S.nest + 1) f) : KFact l S (Lf l a f S) := by
 unfold Lf
 split
 ·refine ⟨?_, ?_, ?_, by simp, fun y hy => (by cases hy), by simp [C5]⟩
  ·show _ ≤ (Cc _ _ S).i; rw [failM_i.1]; exact Nat.le_refl _
  ·show (Cc _ _ S).i < _; rw [failM_i.1]; exact hi
  show (Cc _ _ S).nest = _; rw [failM_i.2]
 rename_i h
 have h30 : S.nest ≠ 30 := fun e => h (by rw [e]; rfl)
 have := N9 (S := Bo S) hl hi (hf h30)
 refine ⟨this.le, this.lt, ?_, this.len, this.ok, this.sz⟩
 show (Eh l f (Bo S)).2.nest - 1 = S.nest
 rw [this.nest]
 rfl
theorem Uz {l : List Tok} {D : Fam} {S : PS} (hl : TokEnd l) (hll : l.length ≤ 1048576) {t : Tok} (ht : t.text.length ≤ 1048576) (hi : (Ab S).i < l.length) (hf : S.nest ≠ 30 → Cm l (S.nest + 1) D.ei) : Fact l S (Ei l D t S) := by
 have hk : KFact l (Ab S) (C0 l D S) := Na hl _ hi hf
 have h1 : S.i + 1 ≤ (C0 l D S).2.i := hk.le
 obtain ⟨w1, w2, w3⟩ := W4 (s := D3) hl hk.lt
 unfold Ei
 split
 ·exact Js (Nat.le_refl _) (by show S.i < _; have : S.i + 1 < l.length := hi; omega) rfl _ _
 split
 ·exact Js (show S.i ≤ (D6 l D3 (C0 l D S).2).i by omega) w2 (w3.trans hk.nest) 8 t.at_
 refine ⟨by show S.i ≤ (D6 l D3 (C0 l D S).2).i; omega, w2, w3.trans hk.nest, ?_, ?_⟩
 rotate_left
 ·have s1 : C5 (C0 l D S).1 ≤ 2 * ((C0 l D S).2.i - (S.i + 1)) + 1 := hk.sz
  show sizeE (.mk 6 t.text noV (C0 l D S).1) ≤ 2 * ((D6 l D3 (C0 l D S).2).i - S.i) + 1
  rw [sizeE]
  omega
 show okE (2 * ((D6 l D3 (C0 l D S).2).i - S.i) + 1) _
 refine ⟨ht, ?_, fun y hy => ?_⟩
 ·have h5 : (C0 l D S).1.length ≤ (C0 l D S).2.i - (Ab S).i + 1 := hk.len
  have h6 := hk.lt
  show (C0 l D S).1.length ≤ 1048576
  omega
 exact Er (by show 2 * ((C0 l D S).2.i - (S.i + 1)) + 1 ≤ _; omega) (hk.ok y hy)
theorem V0 {l : List Tok} {D : Fam} {n : Nat} (hl : TokEnd l) (hll : l.length ≤ 1048576) (hf : n ≠ 30 → Cm l (n + 1) D.ei) : Cm l n (Dq l D) := by
 intro S hi hn
 subst hn
 unfold Dq
 have leaf : ∀ e : Expr, okE 1 e → sizeE e = 1 → (A9 l S.i).kind ≠ 0 → Fact l S (e, Ab S) := fun e he hs hk => ⟨Nat.le_succ _, hl.step hi hk, rfl, Er (by omega) he, by show sizeE e ≤ _; omega⟩
 split
 ·exact ⟨Nat.le_refl _, hi, rfl, Sg (by omega), by show sizeE Az ≤ _; rw [N8]; omega⟩
 split
 ·rename_i h
  refine leaf _ (W3 (Nat.le_refl _) _) rfl ?_
  rcases Bool.or_eq_true_iff.1 h with h | h
  ·rw [beq_iff_eq] at h; rw [h]; decide
  exact cq h
 split
 ·rename_i h
  rw [beq_iff_eq] at h
  exact leaf _ (W3 (Nat.le_refl _) _) rfl (by rw [h]; decide)
 split
 ·rename_i h
  rw [beq_iff_eq] at h
  have hk : (A9 l S.i).kind ≠ 0 := by rw [h]; decide
  split
  ·rename_i h2
   have hi1 : (Ab S).i < l.length := hl.step hi hk
   have := Uz (S := Ab S) (D := D) hl hll (hl.text S.i) (hl.stepIs hi1 h2) hf
   have h3 : S.i + 1 ≤ (Ei l D (A9 l S.i) (Ab S)).2.i := this.le
   have h4 : sizeE (Ei l D (A9 l S.i) (Ab S)).1 ≤ 2 * ((Ei l D (A9 l S.i) (Ab S)).2.i - (S.i + 1)) + 1 := this.sz
   exact ⟨by omega, this.lt, this.nest, Er (by show 2 * ((Ei l D (A9 l S.i) (Ab S)).2.i - (S.i + 1)) + 1 ≤ _; omega) this.ok, by omega⟩
  exact leaf _ (S3 _ (hl.text _)) rfl hk
 split
 ·rename_i h
  have hi1 : (Ab S).i < l.length := hl.stepIs hi h
  have := Fg (S := Ab S) (l := l) (f := D.ei) (A9 l S.i).at_ hi1 hf
  obtain ⟨w1, w2, w3⟩ := W4 (s := D3) hl this.lt
  have h3 : S.i + 1 ≤ (Ba (A9 l S.i).at_ D.ei (Ab S)).2.i := this.le
  have h4 : sizeE (Ba (A9 l S.i).at_ D.ei (Ab S)).1 ≤ 2 * ((Ba (A9 l S.i).at_ D.ei (Ab S)).2.i - (S.i + 1)) + 1 := this.sz
  refine ⟨by show S.i ≤ (D6 l D3 _).i; omega, w2, w3.trans this.nest, Er ?_ this.ok, by show sizeE (Ba (A9 l S.i).at_ D.ei (Ab S)).1 ≤ 2 * ((D6 l D3 (Ba (A9 l S.i).at_ D.ei (Ab S)).2).i - S.i) + 1; omega⟩
  show 2 * ((Ba (A9 l S.i).at_ D.ei (Ab S)).2.i - (S.i + 1)) + 1 ≤ 2 * ((D6 l D3 (Ba (A9 l S.i).at_ D.ei (Ab S)).2).i - S.i) + 1
  omega
 exact Js (Nat.le_refl _) hi rfl _ _
theorem W6 {l : List Tok} {S : PS} {r : Expr × PS} (h : Fact l (Ab S) r) (op : Int) : Fact l S (Jr op r.1, r.2) := by
 have h1 : S.i + 1 ≤ r.2.i := h.le
 refine ⟨by show S.i ≤ r.2.i; omega, h.lt, h.nest, ?_, ?_⟩
 rotate_left
 ·have s1 : sizeE r.1 ≤ 2 * (r.2.i - (S.i + 1)) + 1 := h.sz
  show sizeE (Jr op r.1) ≤ 2 * (r.2.i - S.i) + 1
  rw [Yi]
  omega
 show okE (2 * (r.2.i - S.i) + 1) _
 refine ⟨by simp [Jr, Expr.text], by simp [Jr, Expr.kids], fun y hy => ?_⟩
 have hy' : y = r.1 := by simpa [Jr, Expr.kids] using hy
 subst hy'
 exact Er (by show 2 * (r.2.i - (S.i + 1)) + 1 ≤ _; omega) h.ok
theorem Ks {l : List Tok} {D : Fam} {n : Nat} (hl : TokEnd l) (hll : l.length ≤ 1048576) (hf : n ≠ 30 → Cm l (n + 1) D.ei) (hg : n ≠ 30 → Cm l (n + 1) D.ne) : Cm l n (Ln l D) := by
 intro S hi hn
 unfold Ln
 split
 ·exact V0 hl hll hf S hi hn
 rename_i h
 subst hn
 exact W6 (Fg (S := Ab S) _ (hl.stepIs hi (by simpa using h)) hg) 3
theorem Pa {l : List Tok} {D : Fam} {n : Nat} (hl : TokEnd l) (hll : l.length ≤ 1048576) (hf : n ≠ 30 → Cm l (n + 1) D.ei) (hg : n ≠ 30 → Cm l (n + 1) D.ne) : Cm l n (Cl l D) := Dx hl (Dx hl (Ks hl hll hf hg))
theorem Iq {l : List Tok} {D : Fam} {n : Nat} (hl : TokEnd l) (hll : l.length ≤ 1048576) (hf : n ≠ 30 → Cm l (n + 1) D.ei) (hg : n ≠ 30 → Cm l (n + 1) D.ne) : Cm l n (D7 l D) := by
 intro S hi hn
 have h1 := Pa hl hll hf hg S hi hn
 unfold D7
 split
 ·exact h1
 rename_i h
 simp only [Bool.or_eq_true, not_or, Bool.not_eq_true, Bool.not_eq_false'] at h
 exact W5 h1 (Pa hl hll hf hg _ (hl.stepIs h1.lt h.2) (h1.nest.trans hn)) hl
theorem Pb {l : List Tok} {D : Fam} {n : Nat} (hl : TokEnd l) (hll : l.length ≤ 1048576) (hf : n ≠ 30 → Cm l (n + 1) D.ei) (hg : n ≠ 30 → Cm l (n + 1) D.ne) (hh : n ≠ 30 → Cm l (n + 1) D.no) : Cm l n (Lo l D) := by
 intro S hi hn
 unfold Lo
 split
 ·exact Iq hl hll hf hg S hi hn
 rename_i h
 subst hn
 exact W6 (Fg (S := Ab S) _ (hl.stepIs hi (by simpa using h)) hh) 4
theorem Kt {l : List Tok} (hl : TokEnd l) (hll : l.length ≤ 1048576) : ∀ (d n : Nat), n + d = 31 → n ≠ 31 → Cm l n (D4 l d).ei ∧ Cm l n (D4 l d).no ∧ Cm l n (D4 l d).ne
 | 0, n, h, h2 => by omega
 | d + 1, n, h, _ => by
  have ih : n ≠ 30 → _ := fun h30 => Kt hl hll d (n + 1) (by omega) (by omega)
  have hn := Pb (D := D4 l d) (n := n) hl hll (fun h => (ih h).1) (fun h => (ih h).2.2) (fun h => (ih h).2.1)
  exact ⟨Dx hl (Dx hl hn), hn, Ks hl hll (fun h => (ih h).1) (fun h => (ih h).2.2)⟩
abbrev pr (l : List Tok) (S : PS) : AObj := .cells 222 [.slice false 3 (l.map Ff), A4 (S.i : Int), A4 (S.nest : Int), A4 S.code, A4 S.at_]
theorem Bj {n : Nat} {l : List Tok} {S : PS} : ObjLow n (pr l S) := by
 show ∀ y ∈ [AV.slice false 3 (l.map Ff), A4 (S.i : Int), A4 (S.nest : Int), A4 S.code, A4 S.at_], Low n y
 intro y hy
 simp only [List.mem_cons, List.not_mem_nil, or_false] at hy
 rcases hy with rfl | rfl | rfl | rfl | rfl
 ·simp [or_imp, forall_and]
 all_goals simp
theorem Sj (o : Int) (t : Str) (v : Val) : Le (.agg [A4 o, Aa t, A4 v.kind, A4 v.n, Aa v.s, .nil]) (A7 (.mk o t v [])) := by
 rw [Ac]
 refine .agg _ _ rfl (by simp [AV.one, Value.oneCell', sv]) fun i y y' h1 h2 => ?_
 match i with
 | 0 => simp at h1 h2; subst h1; subst h2; exact .inl rfl
 | 1 => simp at h1 h2; subst h1; subst h2; exact .inl rfl
 | 2 => simp at h1 h2; subst h1; subst h2; exact .inl rfl
 | 3 => simp at h1 h2; subst h1; subst h2; exact .inl rfl
 | 4 => simp at h1 h2; subst h1; subst h2; exact .inl rfl
 | 5 => simp at h1 h2; subst h1; subst h2; exact .inr ⟨rfl, 6, rfl⟩
 | i + 6 => simp at h1
theorem Nc : Le (.agg [A4 0, Aa [], A4 0, A4 0, Aa [], .nil]) (A7 Az) := Sj 0 [] noV
theorem oh (l : List Tok) (S : PS) (o : Nat) (Hp : List AObj) (ho : Hp[o]? = some (pr l S)) (hi : S.i < l.length) : AFun Tryz.prog 258 [.ptr o 0] Hp (Ff (A9 l S.i)) := by
 refine ACall.body [.cell 2 125] [0] Tryz.func258 Tryz.ntmps258 (fun d => ?_)
 refine ni ?_;refine Z66 ?_;refine Z99 ?_;refine fl ?_;refine D.tail ?_;refine R.indexAddr (S.i) (Ff (A9 l S.i)) jU jS (Kk hi) ?_;refine Gf ?_;exact f6

theorem Sk (l : List Tok) (S : PS) (of : Str) (o : Nat) (Hp : List AObj) (ho : Hp[o]? = some (pr l S)) (hi : S.i < l.length) (hl : TokEnd l) (hof : of.length ≤ 1048576) : AFun Tryz.prog 249 [.ptr o 0, Aa of] Hp (Ar (isM l of S)) := by
 refine ACall.body [.tmp 4] [0, 1] Tryz.func249 Tryz.ntmps249 (fun d => ?_)
 refine Z56 ?_;refine kq ?_;refine Z10 ?_;refine R.fin [1, 5] ?_;refine Xm ?_;refine R.eql ?_;refine kv ?_;refine Xg ?_;refine Fw ?_;refine Av ?_;refine ko ?_;refine G.move ?_;refine G.call Tryz.call109 (fun hB => ob (A9 l S.i).text of (hl.text _) hof _) ?_;refine G8 ?_;exact Xb

theorem cr (l : List Tok) (S : PS) (o : Nat) (Hp : List AObj) (ho : Hp[o]? = some (pr l S)) (hi : S.i < l.length) (hll : l.length ≤ 1048576) : ACall Tryz.prog 250 [.ptr o 0] Hp (fun r H' => r = Ff (A9 l S.i) ∧ H' = Hp.set o (pr l (Ab S))) := by
 refine ACall.body [.cell 2 125] [0] Tryz.func250 Tryz.ntmps250 (fun d => ?_)
 refine Z48 ?_;refine kq ?_;refine Rf ?_;refine Z0 ?_;refine Z29 ?_;refine Xd ?_;refine Z29 ?_
 refine R.storeUp jS ho ?_ ?_
 ·simp
 refine Ge ?_;refine Z34 ?_;exact f6

theorem Yj (l : List Tok) (S : PS) (e a : Int) (o : Nat) (Hp : List AObj) (ho : Hp[o]? = some (pr l S)) : ACall Tryz.prog 221 [.ptr o 0, A4 e, A4 a] Hp (fun r H' => r = A7 Az ∧ H' = Hp.set o (pr l (Cc e a S))) := by
 refine ACall.body [.cell 6 45] [0, 1, 2] Tryz.func221 Tryz.ntmps221 (fun d => ?_)
 refine Z21 ?_;refine U6 ?_;refine Xs ?_;refine R.loadUp jA ho ?_;refine R.eql ?_;refine R.fin [0, 1, 2, 6, 12] ?_
 refine W.cond (fun ht12 => ?_) (fun ht12 => ?_)
 ·have e : Cc e a S = ⟨S.i, S.nest, e, a⟩ := if_pos ht12
  refine Z31 ?_;refine Z53 ?_;refine Rm ?_;refine R.nilPtr ?_;refine R.fieldAddrPtr (fo := 3) jU Tryz.sizeOf60 ?_
  refine R.storeUp jS ho ?_ ?_
  ·simp
  refine R.fin [6] ?_;refine K.thN ?_;refine jz ?_;refine R.wk 19 _ Nc ?_;refine E3 ?_;refine Z71 ?_;exact K.fin (V.one (V.cellN jA jS)) ⟨rfl, by rw [e]⟩ (hlow := Ae _ Az)
 have e : Cc e a S = S := if_neg (by rw [ht12]; simp)
 refine Z6 ?_;refine jz ?_;refine R.wk 19 _ Nc ?_;refine E3 ?_;refine Z71 ?_;exact K.fin (V.one (V.cellN jA jS)) ⟨rfl, by rw [e]; exact (Dr ho).symm⟩ (hlow := Ae _ Az)

theorem oi (v : Val) (Hp : List AObj) : AFun Tryz.prog 266 [O1 v] Hp (A7 (N7 v)) := by
 refine ACall.body [.cell 2 45] [0] Tryz.func266 Tryz.ntmps266 (fun d => ?_)
 refine Z32 ?_;refine Iy ?_;refine R.fin [1, 2] ?_;refine Z86 ?_;refine U5 ?_;refine R.wk 4 _ (Sj 1 [] v) ?_;refine Z5 ?_;exact K.fin (V.one (V.cellN jA jS)) ⟨rfl, rfl⟩ (hlow := Ae _ (N7 v))

theorem ol (l : List Tok) (S : PS) (s : Str) (o : Nat) (Hp : List AObj) (ho : Hp[o]? = some (pr l S)) (hi : S.i < l.length) (hll : l.length ≤ 1048576) : ACall Tryz.prog 268 [.ptr o 0, Aa s] Hp (fun r H' => r = .v (.tuple #[]) ∧ H' = Hp.set o (pr l (D6 l s S))) := by
 refine ACall.body [] [0, 1] Tryz.func268 Tryz.ntmps268 (fun d => ?_)
 refine Xs ?_;refine R.loadUp jA ho ?_;refine R.neq ?_;refine R.fin [0, 1, 10] ?_
 refine W.cond (fun ht10 => ?_) (fun ht10 => ?_)
 ·have e : D6 l s S = S := if_pos ht10
  refine Z24 ?_;exact K.fin .nores (hp := ⟨rfl, by rw [e]; exact (Dr ho).symm⟩)
 have e0 : ¬ (S.code != 0) = true := by rw [ht10]; simp
 refine Z6 ?_;refine Z11 ?_;refine R.call Tryz.call258 (oh l S o _ (A6 ho) hi) ?_;refine Z10 ?_;refine R.fin [0, 1, 4] ?_;refine Xm ?_;refine R.neq ?_;refine Av ?_;refine ko ?_;refine G.move ?_;refine G.sneq ?_;refine Fw ?_;refine R.fin [0, 4, 21] ?_
 refine W.cond (fun ht21 => ?_) (fun ht21 => ?_)
 ·have e : D6 l s S = Cc 8 (A9 l S.i).at_ S := by unfold D6; rw [if_neg e0, if_pos ht21]
  refine Z0 ?_;refine n7 ?_;refine R.fin [] ?_;refine Z24 ?_;exact K.fin .nores (hp := ⟨rfl, by rw [e]⟩)
 have e : D6 l s S = Ab S := by unfold D6; rw [if_neg e0, if_neg (by rw [ht21]; simp)]
 refine Ty ?_;refine Z29 ?_;refine Xd ?_;refine Z29 ?_
 refine R.storeUp jS ho ?_ ?_
 ·simp
 refine R.fin [] ?_;exact K.finN .nores (hp := ⟨rfl, by rw [e]; rfl⟩)

/-- The contract of one of the parser's functions. -/
def PC (g : FuncId) (l : List Tok) (f : PS → Expr × PS) (n : Nat) : Prop := ∀ (o : Nat) (Hp : List AObj) (S : PS), Hp[o]? = some (pr l S) → S.i < l.length → S.nest = n → ACall Tryz.prog g [.ptr o 0] Hp (fun r H' => r = A7 (f S).1 ∧ H' = Hp.set o (pr l (f S).2))
abbrev Gi : AObj := .cells 45 [A4 0, Aa [], A4 0, A4 0, Aa [], .nil]
theorem W7 {n : Nat} : ObjLow n Gi := by
 show ∀ y ∈ [A4 0, Aa [], A4 0, A4 0, Aa [], AV.nil], Low n y
 simp
theorem ic {n : Nat} (e : Expr) : ObjLow n (.cells 45 (Db e)) := by
 have h := Ae n e
 rw [Ac] at h
 show ∀ y ∈ Db e, Low n y
 intro y hy
 cases h with
 | agg _ h => exact h y hy
theorem ie (l : List Tok) (S : PS) (a : Int) (g : FuncId) (first caps : List AV) (x : Expr) (S2 : PS) (o : Nat) (Hp Hx : List AObj) (ho : Hp[o]? = some (pr l S)) (hnl : S.nest ≤ 1048576) (hgc : ∀ args w, (callFunc g args).run Tryz.prog w = .ok (.enter g args) w) (hxl : Hx.length = Hp.length) (hxo : Hx[o]? = some (pr l S2)) (hn2 : S2.nest = S.nest + 1) (hlow : (∀ y ∈ Hp.set o (pr l (Bo S)), ObjLow Hp.length y) → ∀ y ∈ Hx, ObjLow Hp.length y) (hcf : S.nest ≠ 30 → ∀ own, ACall Tryz.prog g (first ++ caps) (Hp.set o (pr l (Bo S)) ++ own) (fun y H' => y = A7 x ∧ H' = Hx ++ own)) : ACall Tryz.prog 260 [.ptr o 0, A4 a, .fn (.func g) first caps] Hp (fun r H' => (S.nest = 30 → r = A7 Az ∧ H' = Hp.set o (pr l (Cc 18 a S))) ∧ (S.nest ≠ 30 → r = A7 x ∧ H' = Hx.set o (pr l (P6 S2)))) := by
 refine ACall.body [.cell 6 45] [0, 1, 2] Tryz.func260 Tryz.ntmps260 (fun d => ?_)
 refine Z21 ?_;refine U6 ?_;refine Z11 ?_;refine Z84 ?_;refine R.loadUp jA ho ?_;refine R.eql ?_;refine R.fin [0, 1, 2, 6, 12] ?_
 refine W.cond (fun ht12 => ?_) (fun ht12 => ?_)
 ·have hn30 : S.nest = 30 := by have := ht12; simp at this; omega
  refine Z27 ?_;refine R.callUp Tryz.call221 ho (by simp) Bj (Yj l S 18 a o _ (A6 ho)) ?_;refine E3 ?_;refine Tu ?_;exact K.fin (V.one (V.cellN jA jS)) ⟨fun _ => ⟨by rw [Ac], rfl⟩, fun h => absurd hn30 h⟩ (hlow := by have := Ae Hp.length Az; rw [Ac] at this; simpa using this)
 have hn30 : S.nest ≠ 30 := by have := ht12; simp at this; omega
 refine Ka ?_;refine Z84 ?_;refine Xd ?_;refine Z84 ?_
 refine R.storeUp jS ho ?_ ?_
 ·simp
 refine R.fin [0, 2, 6] ?_;refine Z0 ?_
 refine R.callVX (up' := Hx) (own' := [Gi]) hgc (hcf hn30 [Gi]) (by simpa using hxl) (by rw [List.length_set]; exact hlow) ?_
 rw [← hxl]
 refine Z10 ?_;refine R.fin [0, 6, 7] ?_;refine Z0 ?_;refine Z84 ?_;refine R.loadUp jA hxo ?_;refine R.sub64 ?_;refine Z84 ?_
 refine R.storeUp jS hxo ?_ ?_
 ·simp
 refine R.fin [6, 7] ?_;refine Z34 ?_;refine E3 ?_;refine Z71 ?_;exact K.fin (V.one (V.cellN jA jS)) ⟨fun h => absurd h hn30, fun _ => ⟨by rw [Ac], by rw [show ((S2.nest : Int) - 1) = ((P6 S2).nest : Int) by show _ = ((S2.nest - 1 : Nat) : Int); omega]; rfl⟩⟩ (hlow := by have := Ae Hx.length x; rw [Ac] at this; simpa using this)

theorem Yk (t : Str) (a b : Expr) : Db (J5 t a b) = [A4 5, .v (sv t), A4 0, A4 0, Aa [], .slice false 6 [A7 a, A7 b]] := rfl
theorem ig {n : Nat} (t : Str) (a b : Expr) : ObjLow n (.cells 45 [A4 5, .v (sv t), A4 0, A4 0, Aa [], .slice false 6 [A7 a, A7 b]]) := ic (J5 t a b)
theorem ii {n : Nat} {U : List AObj} {i : Nat} {x : AObj} (h : ∀ y ∈ U, ObjLow n y) (hx : ObjLow n x) : ∀ y ∈ U.set i x, ObjLow n y := by
 intro y hy
 rcases List.mem_or_eq_of_mem_set hy with h1 | h1
 ·exact h y h1
 rw [h1]; exact hx
/-- within, with a method's value. -/
theorem ct {g : FuncId} (hgc : ∀ args w, (callFunc g args).run Tryz.prog w = .ok (.enter g args) w) (l : List Tok) (S : PS) (a : Int) (f : PS → Expr × PS) (o : Nat) (Hp : List AObj) (ho : Hp[o]? = some (pr l S)) (hi : S.i < l.length) (hnl : S.nest ≤ 30) (hf : S.nest ≠ 30 → Cm l (S.nest + 1) f) (hcf : S.nest ≠ 30 → PC g l f (S.nest + 1)) :
  ACall Tryz.prog 260 [.ptr o 0, A4 a, .fn (.func g) [.ptr o 0] []] Hp (fun r H' => r = A7 (Ba a f S).1 ∧ H' = Hp.set o (pr l (Ba a f S).2)) := by
 have hlt := (List.getElem?_eq_some_iff.1 ho).1
 by_cases h30 : S.nest = 30
 ·refine (ie l S a g [.ptr o 0] [] Az (Bo S) o Hp (Hp.set o (pr l (Bo S))) ho (by omega) hgc (by simp) (by simp [hlt]) rfl (fun h => h) (fun h => absurd h30 h)).mono fun r H' h => ?_
  have e : Ba a f S = (Az, Cc 18 a S) := if_pos (by rw [h30]; rfl)
  rw [e]
  exact h.1 h30
 have hq := hf h30 (Bo S) hi rfl
 refine (ie l S a g [.ptr o 0] [] (f (Bo S)).1 (f (Bo S)).2 o Hp (Hp.set o (pr l (f (Bo S)).2)) ho (by omega) hgc (by simp) (by simp [hlt]) hq.nest (fun h y hy => ?_) (fun _ own => ?_)).mono fun r H' h => ?_
 ·rcases List.mem_or_eq_of_mem_set hy with h1 | h1
  ·obtain ⟨i, hi', rfl⟩ := List.getElem_of_mem h1
   by_cases hio : i = o
   ·subst hio
    have : Hp[i] = pr l S := by rw [List.getElem?_eq_getElem hi'] at ho; injection ho
    rw [this]; exact Bj
   refine h _ ?_
   rw [List.mem_iff_getElem?]
   exact ⟨i, by rw [List.getElem?_set_ne (Ne.symm hio), List.getElem?_eq_getElem hi']⟩
  rw [h1]; exact Bj
 ·have hg : (Hp.set o (pr l (Bo S)) ++ own)[o]? = some (pr l (Bo S)) := A6 (by simp [hlt])
  refine (hcf h30 o (Hp.set o (pr l (Bo S)) ++ own) (Bo S) hg hi rfl).mono fun r H' h => ⟨h.1, h.2.trans ?_⟩
  rw [List.set_append_left _ _ (by simpa using hlt), List.set_set]
 have e : Ba a f S = ((f (Bo S)).1, P6 (f (Bo S)).2) := if_neg (by
  show ¬ (((S.nest : Int) == 30) = true)
  simp
  omega)
 rw [e]
 obtain ⟨h1, h2⟩ := h.2 h30
 exact ⟨h1, by rw [h2, List.set_set]⟩
theorem ij {g : FuncId} (hgc : ∀ args w, (callFunc g args).run Tryz.prog w = .ok (.enter g args) w) (l : List Tok) (S : PS) (of : Str) (hof : of.length ≤ 1048576) (f : PS → Expr × PS) (o : Nat) (Hp : List AObj) (ho : Hp[o]? = some (pr l S)) (hi : S.i < l.length) (hl : TokEnd l) (hll : l.length ≤ 1048576) (hf : Cm l S.nest f) (hcf : PC g l f S.nest) : ACall Tryz.prog 238 [.ptr o 0, Aa of, .fn (.func g) [.ptr o 0] []] Hp (fun r H' => r = A7 (Dd l of f S).1 ∧ H' = Hp.set o (pr l (Dd l of f S).2)) := by
 have holt := (List.getElem?_eq_some_iff.1 ho).1
 refine ACall.body [.cell 6 45] [0, 1, 2] Tryz.func238 Tryz.ntmps238 (fun d => ?_)
 refine Z21 ?_;refine U6 ?_;refine Z0 ?_;refine R.callVUp hgc ho (by simp) Bj (hcf o _ S (A6 ho) hi rfl) ?_;refine Z10 ?_;refine R.fin [0, 1, 2, 6, 7] ?_;refine W.seq ?_
 refine AW.loopC (α := Expr × PS) (fun r => ⟨32, A5 0 (.ptr o 0) (A5 1 (Aa of) (A5 2 (.fn (.func g) [.ptr o 0] []) (A5 6 (.ptr (oid Hp.length 0) 0) (A5 7 (.ptr (oid Hp.length 1) 0) (fun _ => .any))))), Hp.set o (pr l r.2), [.cells 45 [A4 0, Aa [], A4 0, A4 0, Aa [], .nil], .cells 45 (Db r.1)], [], none⟩) (fun r => LeftAt l of f S r) (fun r => l.length - r.2.i) (f S) (.start (hf S hi rfl)) (StLe.of_eq (by simp)) rfl (fun r hx => ?_)
 refine Xs ?_;refine R.loadUp jA (getset ho) ?_;refine R.eql ?_;refine Z93 ?_;refine G.call Tryz.call249 (fun hB => Sk l r.2 of o _ (A6 (getset ho)) hx.fact.lt hl hof) ?_;refine G8 ?_;refine R.fin [0, 1, 2, 6, 7, 21] ?_
 refine W.cond (fun ht21 => ?_) (fun ht21 => ?_)
 ·have hon := hx.on hl ht21 hf
  have hle := hon.2.1.le
  have hlt0 := hx.fact.lt
  have hU1 : (Hp.set o (pr l r.2)).set o (pr l (Ab r.2)) = Hp.set o (pr l (Ab r.2)) := List.set_set ..
  refine Z6 ?_;refine Fc ?_;refine Z0 ?_;refine R.callUp Tryz.call250 (getset ho) (by simp) Bj (cr l r.2 o _ (A6 (getset ho)) hx.fact.lt hll) ?_;refine Z10 ?_;refine R.fin [0, 1, 2, 6, 7, 8] ?_;refine W.drawY0 [0, 1, 0, 0, 8, 28, 63, 127] [4] [.q 4 [] [], .s [28] (some 0) [] [], .q 1 [0] []] (fun B => Hp.set o (if B 0 = true then pr l (f (Ab r.2)).2 else pr l (Ab r.2))) (fun _ => [.cells 45 [A4 0, Aa [], A4 0, A4 0, Aa [], .nil], .cells 45 (Db r.1), .cells 125 [A4 (A9 l r.2.i).kind, Aa (A9 l r.2.i).text, A4 (A9 l r.2.i).at_]]) Ad (by kernel_rfl) (by simp [List.set_set]) rfl (fun B => by simp) ?_
  apply Y.q
  case h1 =>
   intro B hT hF
   refine D.fieldAddrPtr (fo := 1) jU Tryz.sizeOf9 ?_;refine D.loadOwn jA ?_;refine D.loadOwnN jA jS ?_;exact Z80
  case hTF => decide
  refine Y.callVUp (r := A7 (f (Ab r.2)).1) (o := o) (x0 := pr l (Ab r.2)) (x := pr l (f (Ab r.2)).2) hgc (fun B hT hF hB => ⟨by simp only [hB]; exact getset ho, by simp [upd], rfl, Bj, ?_⟩) ?_
  ·simp only [hB]
   exact hcf o _ (Ab r.2) (A6 (getset ho)) hon.1 hx.fact.nest
  apply Y.q
  case h1 =>
   intro B hT hF
   exact Z39
  case hTF => decide
  refine Y.tail (tn := [4]) (U := Hp.set o (pr l (f (Ab r.2)).2)) ?_;refine n8 ?_;refine R.fin [0, 1, 2, 6, 7] ?_;refine K.blN ?_
  refine K.lpN (J5 (A9 l r.2.i).text r.1 (f (Ab r.2)).1, (f (Ab r.2)).2) hon.2.2 (by show l.length - (f (Ab r.2)).2.i < l.length - r.2.i; have : r.2.i + 1 ≤ (f (Ab r.2)).2.i := hle; omega) ?_
  simp only [Yk]
  have hlow2 := fun n => ig (n := n) (A9 l r.2.i).text r.1 (f (Ab r.2)).1
  simp only [Ac] at hlow2 ⊢
  exact StCut.take (fun _ => .refl _) (by repeat (first | exact B5 | refine B4 (by simp [oid] <;> omega) ?_)) (by intro y hy; rcases List.mem_cons.1 hy with rfl | hy; exact W7; rw [List.mem_singleton.1 hy]; exact hlow2 _) (by simp)
 have hout := hx.out (by rw [ht21]; simp)
 refine K9 ?_;refine Z34 ?_;refine E3 ?_;refine Z71 ?_;exact K.fin (V.one (V.cellN jA jS)) ⟨by rw [hout, Ac], by rw [hout]⟩ (hlow := by have := Ae (Hp.set o (pr l r.2)).length r.1; rw [Ac] at this; simpa using this)

theorem re (l : List Tok) (S : PS) (f : PS → Expr × PS) (o : Nat) (Hp : List AObj) (ho : Hp[o]? = some (pr l S)) (hi : S.i < l.length) (hl : TokEnd l) (hll : l.length ≤ 1048576) (hf : Cm l S.nest f) (hcf : PC 239 l f S.nest) : ACall Tryz.prog 219 [.ptr o 0] Hp (fun r H' => r = A7 (Dd l orT f S).1 ∧ H' = Hp.set o (pr l (Dd l orT f S).2)) := by
 refine ACall.body [.cell 2 45] [0] Tryz.func219 Tryz.ntmps219 (fun d => ?_)
 refine Z48 ?_;refine Z27 ?_;refine Ik ?_;refine R.callUp Tryz.call238 ho (by simp) Bj (ij Tryz.call239 l S orT (by decide) f o _ (A6 ho) hi hl hll hf hcf) ?_;refine Z5 ?_;exact K.fin (V.one (V.cellN jA jS)) ⟨by rw [Ac], rfl⟩ (hlow := by have := Ae Hp.length (Dd l orT f S).1; rw [Ac] at this; simpa using this)

theorem rf (l : List Tok) (S : PS) (f : PS → Expr × PS) (o : Nat) (Hp : List AObj) (ho : Hp[o]? = some (pr l S)) (hi : S.i < l.length) (hl : TokEnd l) (hll : l.length ≤ 1048576) (hf : Cm l S.nest f) (hcf : PC 251 l f S.nest) : ACall Tryz.prog 239 [.ptr o 0] Hp (fun r H' => r = A7 (Dd l Yf f S).1 ∧ H' = Hp.set o (pr l (Dd l Yf f S).2)) := by
 refine ACall.body [.cell 2 45] [0] Tryz.func239 Tryz.ntmps239 (fun d => ?_)
 refine Z48 ?_;refine Z27 ?_;refine Ik ?_;refine R.callUp Tryz.call238 ho (by simp) Bj (ij Tryz.call251 l S Yf (by decide) f o _ (A6 ho) hi hl hll hf hcf) ?_;refine Z5 ?_;exact K.fin (V.one (V.cellN jA jS)) ⟨by rw [Ac], rfl⟩ (hlow := by have := Ae Hp.length (Dd l Yf f S).1; rw [Ac] at this; simpa using this)

theorem rg (l : List Tok) (S : PS) (f : PS → Expr × PS) (o : Nat) (Hp : List AObj) (ho : Hp[o]? = some (pr l S)) (hi : S.i < l.length) (hl : TokEnd l) (hll : l.length ≤ 1048576) (hf : Cm l S.nest f) (hcf : PC 263 l f S.nest) : ACall Tryz.prog 262 [.ptr o 0] Hp (fun r H' => r = A7 (Dd l Yg f S).1 ∧ H' = Hp.set o (pr l (Dd l Yg f S).2)) := by
 refine ACall.body [.cell 2 45] [0] Tryz.func262 Tryz.ntmps262 (fun d => ?_)
 refine Z48 ?_;refine Z27 ?_;refine Ik ?_;refine R.callUp Tryz.call238 ho (by simp) Bj (ij Tryz.call263 l S Yg (by decide) f o _ (A6 ho) hi hl hll hf hcf) ?_;refine Z5 ?_;exact K.fin (V.one (V.cellN jA jS)) ⟨by rw [Ac], rfl⟩ (hlow := by have := Ae Hp.length (Dd l Yg f S).1; rw [Ac] at this; simpa using this)

theorem rh (l : List Tok) (S : PS) (f : PS → Expr × PS) (o : Nat) (Hp : List AObj) (ho : Hp[o]? = some (pr l S)) (hi : S.i < l.length) (hl : TokEnd l) (hll : l.length ≤ 1048576) (hf : Cm l S.nest f) (hcf : PC 264 l f S.nest) : ACall Tryz.prog 263 [.ptr o 0] Hp (fun r H' => r = A7 (Dd l P8 f S).1 ∧ H' = Hp.set o (pr l (Dd l P8 f S).2)) := by
 refine ACall.body [.cell 2 45] [0] Tryz.func263 Tryz.ntmps263 (fun d => ?_)
 refine Z48 ?_;refine Z27 ?_;refine Ik ?_;refine R.callUp Tryz.call238 ho (by simp) Bj (ij Tryz.call264 l S P8 (by decide) f o _ (A6 ho) hi hl hll hf hcf) ?_;refine Z5 ?_;exact K.fin (V.one (V.cellN jA jS)) ⟨by rw [Ac], rfl⟩ (hlow := by have := Ae Hp.length (Dd l P8 f S).1; rw [Ac] at this; simpa using this)

/-- What is so of the functions one nest deeper. -/
structure DeepC (l : List Tok) (Dv : Fam) (n : Nat) : Prop where
 ei : n ≠ 30 → Cm l (n + 1) Dv.ei ∧ PC 219 l Dv.ei (n + 1)
 no : n ≠ 30 → Cm l (n + 1) Dv.no ∧ PC 251 l Dv.no (n + 1)
 ne : n ≠ 30 → Cm l (n + 1) Dv.ne ∧ PC 264 l Dv.ne (n + 1)
theorem Lu (op : Int) (x : Expr) : A7 (Jr op x) = .agg [A4 op, Aa [], A4 0, A4 0, Aa [], .slice false 6 [A7 x]] := by rw [Ac]; rfl
theorem W8 (t : Str) (a b : Expr) : A7 (J5 t a b) = .agg [A4 5, .v (sv t), A4 0, A4 0, Aa [], .slice false 6 [A7 a, A7 b]] := by rw [Ac]; rfl
theorem low_agg {n : Nat} (e : Expr) : Low n (.agg [.v (.int .i64 e.op), .v (sv e.text), .v (.int .i64 e.val.kind), .v (.int .i64 e.val.n), .v (sv e.val.s), .slice false 6 (e.kids.map A7)]) := by
 have := Ae n e
 rwa [Ac] at this
theorem ri (l : List Tok) (S : PS) (Dv : Fam) (o : Nat) (Hp : List AObj) (ho : Hp[o]? = some (pr l S)) (hi : S.i < l.length) (hl : TokEnd l) (hll : l.length ≤ 1048576) (hnl : S.nest ≤ 30) (hd : DeepC l Dv S.nest) (hc : PC 265 l (Dq l Dv) S.nest) : ACall Tryz.prog 264 [.ptr o 0] Hp (fun r H' => r = A7 (Ln l Dv S).1 ∧ H' = Hp.set o (pr l (Ln l Dv S).2)) := by
 refine ACall.body [.cell 2 45] [0] Tryz.func264 Tryz.ntmps264 (fun d => ?_)
 refine Z48 ?_;refine Z11 ?_;refine R.call Tryz.call249 (Sk l S lw o _ (A6 ho) hi hl (by decide)) ?_;refine R.not ?_;refine R.fin [0, 2, 6] ?_
 refine W.cond (fun ht6 => ?_) (fun ht6 => ?_)
 ·have e : Ln l Dv S = Dq l Dv S := if_pos ht6
  refine Z0 ?_;refine R.callUp Tryz.call265 ho (by simp) Bj (hc o _ S (A6 ho) hi rfl) ?_;refine Z5 ?_;exact Z65
 have his : isM l lw S = true := by simpa using ht6
 have hi1 : (Ab S).i < l.length := hl.stepIs hi his
 have e : Ln l Dv S = (Jr 3 (Ba (A9 l S.i).at_ Dv.ne (Ab S)).1, (Ba (A9 l S.i).at_ Dv.ne (Ab S)).2) := if_neg (by rw [ht6]; simp)
 refine Z6 ?_;refine Z50 ?_;refine Rf ?_;refine Z0 ?_;refine Z67 ?_;refine Av ?_;refine Ik ?_;refine R.callUp Tryz.call260 (getset ho) (by simp) Bj (ct Tryz.call264 l (Ab S) (A9 l S.i).at_ Dv.ne o _ (A6 (getset ho)) hi1 hnl (fun h => (hd.ne h).1) (fun h => (hd.ne h).2)) ?_;refine Hi ?_;refine k8 ?_;exact K.fin (V.one (V.cellN jA jS)) ⟨by rw [e, Lu]; simp only [Ac], by rw [e, List.set_set]⟩ (hlow := by have := Ae Hp.length (Jr 3 (Ba (A9 l S.i).at_ Dv.ne (Ab S)).1); rw [Lu] at this; simp only [Ac] at this; simpa only [List.length_set] using this)

theorem rj (l : List Tok) (S : PS) (Dv : Fam) (o : Nat) (Hp : List AObj) (ho : Hp[o]? = some (pr l S)) (hi : S.i < l.length) (hl : TokEnd l) (hll : l.length ≤ 1048576) (hnl : S.nest ≤ 30) (hd : DeepC l Dv S.nest) (hc : PC 259 l (D7 l Dv) S.nest) : ACall Tryz.prog 251 [.ptr o 0] Hp (fun r H' => r = A7 (Lo l Dv S).1 ∧ H' = Hp.set o (pr l (Lo l Dv S).2)) := by
 refine ACall.body [.cell 2 45] [0] Tryz.func251 Tryz.ntmps251 (fun d => ?_)
 refine Z48 ?_;refine Z11 ?_;refine R.call Tryz.call249 (Sk l S lv o _ (A6 ho) hi hl (by decide)) ?_;refine R.not ?_;refine R.fin [0, 2, 6] ?_
 refine W.cond (fun ht6 => ?_) (fun ht6 => ?_)
 ·have e : Lo l Dv S = D7 l Dv S := if_pos ht6
  refine Z0 ?_;refine R.callUp Tryz.call259 ho (by simp) Bj (hc o _ S (A6 ho) hi rfl) ?_;refine Z5 ?_;exact Z65
 have his : isM l lv S = true := by simpa using ht6
 have hi1 : (Ab S).i < l.length := hl.stepIs hi his
 have e : Lo l Dv S = (Jr 4 (Ba (A9 l S.i).at_ Dv.no (Ab S)).1, (Ba (A9 l S.i).at_ Dv.no (Ab S)).2) := if_neg (by rw [ht6]; simp)
 refine Z6 ?_;refine Z50 ?_;refine Rf ?_;refine Z0 ?_;refine Z67 ?_;refine Av ?_;refine Ik ?_;refine R.callUp Tryz.call260 (getset ho) (by simp) Bj (ct Tryz.call251 l (Ab S) (A9 l S.i).at_ Dv.no o _ (A6 (getset ho)) hi1 hnl (fun h => (hd.no h).1) (fun h => (hd.no h).2)) ?_;refine Hi ?_;refine k8 ?_;exact K.fin (V.one (V.cellN jA jS)) ⟨by rw [e, Lu]; simp only [Ac], by rw [e, List.set_set]⟩ (hlow := by have := Ae Hp.length (Jr 4 (Ba (A9 l S.i).at_ Dv.no (Ab S)).1); rw [Lu] at this; simp only [Ac] at this; simpa only [List.length_set] using this)

theorem rk (l : List Tok) (S : PS) (Dv : Fam) (o : Nat) (Hp : List AObj) (ho : Hp[o]? = some (pr l S)) (hi : S.i < l.length) (hl : TokEnd l) (hll : l.length ≤ 1048576) (hnl : S.nest ≤ 30) (hd : DeepC l Dv S.nest) (hg : Cm l S.nest (Cl l Dv)) (hc : PC 262 l (Cl l Dv) S.nest) : ACall Tryz.prog 259 [.ptr o 0] Hp (fun r H' => r = A7 (D7 l Dv S).1 ∧ H' = Hp.set o (pr l (D7 l Dv S).2)) := by
 have hq := hg S hi rfl
 refine ACall.body [.cell 2 45] [0] Tryz.func259 Tryz.ntmps259 (fun d => ?_)
 refine Z48 ?_;refine Z0 ?_;refine R.callUp Tryz.call262 ho (by simp) Bj (hc o _ S (A6 ho) hi rfl) ?_;refine Rf ?_;refine Xs ?_;refine R.loadUp jA (getset ho) ?_;refine R.neq ?_;refine Z13 ?_;refine G.call Tryz.call249 (fun hB => Sk l (Cl l Dv S).2 ib o _ (A6 (getset ho)) hq.lt hl (by decide)) ?_;refine G.not ?_;refine Fw ?_;refine R.fin [0, 2, 3, 17] ?_
 refine W.cond (fun ht17 => ?_) (fun ht17 => ?_)
 ·have e : D7 l Dv S = Cl l Dv S := if_pos ht17
  refine Z34 ?_;refine Z5 ?_;exact Z65
 have his : isM l ib (Cl l Dv S).2 = true := by
  have := ht17
  simp only [Bool.or_eq_false_iff, Bool.not_eq_false'] at this
  exact this.2
 have hi1 : (Ab (Cl l Dv S).2).i < l.length := hl.stepIs hq.lt his
 have e : D7 l Dv S = (J5 (A9 l (Cl l Dv S).2.i).text (Cl l Dv S).1 (Cl l Dv (Ab (Cl l Dv S).2)).1, (Cl l Dv (Ab (Cl l Dv S).2)).2) := if_neg (by rw [ht17]; simp)
 refine Ka ?_;refine R.callUp Tryz.call250 (getset ho) (by simp) Bj (cr l (Cl l Dv S).2 o _ (A6 (getset ho)) hq.lt hll) ?_;refine Z10 ?_;refine R.fin [0, 2, 3, 4] ?_;refine W.drawY [0, 1, 0, 0, 8, 28, 63, 127] [4] [.q 4 [] [], .s [25] (some 0) [] [], .q 1 [0] []] (fun B => Hp.set o (if B 0 = true then pr l (Cl l Dv (Ab (Cl l Dv S).2)).2 else pr l (Ab (Cl l Dv S).2))) (fun _ => [.cells 45 [A4 0, Aa [], A4 0, A4 0, Aa [], .nil], .cells 45 (Db (Cl l Dv S).1), .cells 125 [A4 (A9 l (Cl l Dv S).2.i).kind, Aa (A9 l (Cl l Dv S).2.i).text, A4 (A9 l (Cl l Dv S).2.i).at_]]) Ad (by kernel_rfl) (by simp [List.set_set]) rfl (fun B => by simp) ?_
 apply Y.q
 case h1 =>
  intro B hT hF
  refine D.fieldAddrPtr (fo := 1) jU Tryz.sizeOf9 ?_;refine D.loadOwn jA ?_;refine D.loadOwnN jA jS ?_;exact Z80
 case hTF => decide
 refine Y.callUp (r := A7 (Cl l Dv (Ab (Cl l Dv S).2)).1) (o := o) (x0 := pr l (Ab (Cl l Dv S).2)) (x := pr l (Cl l Dv (Ab (Cl l Dv S).2)).2) Tryz.call262 (fun B hT hF hB => ⟨by simp only [hB]; exact getset ho, by simp [upd], rfl, Bj, ?_⟩) ?_
 ·simp only [hB]
  exact hc o _ (Ab (Cl l Dv S).2) (A6 (getset ho)) hi1 hq.nest
 apply Y.q
 case h1 =>
  intro B hT hF
  exact Z39
 case hTF => decide
 refine Y.tail (tn := [4]) (U := Hp.set o (pr l (Cl l Dv (Ab (Cl l Dv S).2)).2)) ?_;refine k8 ?_;exact K.fin (V.one (V.cellN jA jS)) ⟨by rw [e, W8]; simp only [Ac], by rw [e]⟩ (hlow := by have := Ae Hp.length (J5 (A9 l (Cl l Dv S).2.i).text (Cl l Dv S).1 (Cl l Dv (Ab (Cl l Dv S).2)).1); rw [W8] at this; simp only [Ac] at this; simpa only [List.length_set] using this)

/-- The contract of the parser of calls. -/
def Sl (l : List Tok) (Dv : Fam) (n : Nat) : Prop := ∀ (o : Nat) (Hp : List AObj) (S : PS) (t : Tok), Hp[o]? = some (pr l S) → (Ab S).i < l.length → S.nest = n → t.text.length ≤ 1048576 → isM l opT S = true → ACall Tryz.prog 267 [.ptr o 0, Ff t] Hp (fun r H' => r = A7 (Ei l Dv t S).1 ∧ H' = Hp.set o (pr l (Ei l Dv t S).2))
theorem cu : A7 Az = .agg [A4 0, Aa [], A4 0, A4 0, Aa [], .slice false 6 []] := by rw [Ac]; rfl
theorem rl (l : List Tok) (S : PS) (Dv : Fam) (o : Nat) (Hp : List AObj) (ho : Hp[o]? = some (pr l S)) (hi : S.i < l.length) (hl : TokEnd l) (hll : l.length ≤ 1048576) (hnl : S.nest ≤ 30) (hd : DeepC l Dv S.nest) (hcl : Sl l Dv S.nest) : ACall Tryz.prog 265 [.ptr o 0] Hp (fun r H' => r = A7 (Dq l Dv S).1 ∧ H' = Hp.set o (pr l (Dq l Dv S).2)) := by
 refine ACall.body [.cell 2 45] [0] Tryz.func265 Tryz.ntmps265 (fun d => ?_)
 refine Z48 ?_;refine kq ?_;refine Rf ?_;refine Xs ?_;refine R.loadUp jA ho ?_;refine R.neq ?_;refine R.fin [0, 2, 3, 14] ?_
 refine W.cond (fun ht14 => ?_) (fun ht14 => ?_)
 ·have e : Dq l Dv S = (Az, S) := if_pos ht14
  refine jz ?_;refine R.wk 15 _ Nc ?_;refine Z5 ?_;refine K.thR ?_;exact K.fin (V.one (V.cellN jA jS)) ⟨by rw [e, Ac], by rw [e]; exact (Dr ho).symm⟩ (hlow := by have := Ae Hp.length (Az); simpa only [Ac, List.length_set] using this)
 have e0 : ¬ (S.code != 0) = true := by rw [ht14]; simp
 refine Z6 ?_;refine Z73 ?_;refine Z35 ?_;refine Tv ?_;refine G.call Tryz.call249 (fun hB => Sk l S lx o _ (A6 ho) hi hl (by decide)) ?_;refine Fw ?_;refine Bg ?_;refine R.fin [0, 2, 3, 16] ?_
 refine W.cond (fun ht16 => ?_) (fun ht16 => ?_)
 ·have e : Dq l Dv S = (N7 (Ea (A9 l S.i).text).1, Ab S) := by unfold Dq; rw [if_neg e0, if_pos ht16]
  refine Z50 ?_;refine R.field1 jU Tryz.isAgg9 ?_;refine R.call Tryz.call175 (c175 (A9 l S.i).text (hl.text _) _) ?_;refine Z52 ?_;refine Z10 ?_;refine Bg ?_;refine R.fin [2, 4] ?_;refine Z34 ?_;refine R.call Tryz.call266 (oi (Ea (A9 l S.i).text).1 _) ?_;refine Z5 ?_;refine Z4 ?_;exact K.fin (V.one (V.cellN jA jS)) ⟨by rw [e, Ac], by rw [e]⟩ (hlow := by have := Ae Hp.length (N7 (Ea (A9 l S.i).text).1); simpa only [Ac, List.length_set] using this)
 have e1 : ¬ (((A9 l S.i).kind == 3) || isM l lx S) = true := by rw [ht16]; simp
 refine Xm ?_;refine Z20 ?_;refine R.fin [0, 2, 3, 33] ?_
 refine W.cond (fun ht33 => ?_) (fun ht33 => ?_)
 ·have e : Dq l Dv S = (N7 ⟨2, 0, (A9 l S.i).text.take 200⟩, Ab S) := by unfold Dq; rw [if_neg e0, if_neg e1, if_pos ht33]
  refine Z50 ?_;refine R.field1 jU Tryz.isAgg9 ?_;refine R.call Tryz.call213 (c213 (A9 l S.i).text _) ?_;refine R.call Tryz.call266 (oi ⟨2, 0, (A9 l S.i).text.take 200⟩ _) ?_;refine Z5 ?_;refine Z4 ?_;exact K.fin (V.one (V.cellN jA jS)) ⟨by rw [e, Ac], by rw [e]⟩ (hlow := by have := Ae Hp.length (N7 ⟨2, 0, (A9 l S.i).text.take 200⟩); simpa only [Ac, List.length_set] using this)
 have e2 : ¬ ((A9 l S.i).kind == 4) = true := by rw [ht33]; simp
 refine Xm ?_;refine Z20 ?_;refine R.fin [0, 2, 3, 42] ?_
 refine W.cond (fun ht42 => ?_) (fun ht42 => ?_)
 ·have hi1 : (Ab S).i < l.length := hl.step hi (by rw [beq_iff_eq] at ht42; rw [ht42]; decide)
  refine Z50 ?_;refine R.fin [0, 2, 3] ?_;refine Z11 ?_;refine R.call Tryz.call249 (Sk l (Ab S) opT o _ (A6 (getset ho)) hi1 hl (by decide)) ?_;refine R.fin [0, 2, 3, 49] ?_
  refine W.cond (fun ht49 => ?_) (fun ht49 => ?_)
  ·have e : Dq l Dv S = Ei l Dv (A9 l S.i) (Ab S) := by unfold Dq; rw [if_neg e0, if_neg e1, if_neg e2, if_pos ht42, if_pos ht49]
   have hi2 : (Ab (Ab S)).i < l.length := hl.stepIs hi1 ht49
   refine Z0 ?_;refine Qb ?_;refine R.callUp Tryz.call267 (getset ho) (by simp) Bj (hcl o _ (Ab S) (A9 l S.i) (A6 (getset ho)) hi2 rfl (hl.text _) ht49) ?_;refine Z5 ?_;refine K.thR ?_;refine Z4 ?_;exact K.fin (V.one (V.cellN jA jS)) ⟨by rw [e, Ac], by rw [e, List.set_set]⟩ (hlow := by have := Ae Hp.length ((Ei l Dv (A9 l S.i) (Ab S)).1); simpa only [Ac, List.length_set] using this)
  have e : Dq l Dv S = (Cr (A9 l S.i).text, Ab S) := by unfold Dq; rw [if_neg e0, if_neg e1, if_neg e2, if_pos ht42, if_neg (by rw [ht49]; simp)]
  refine Qa ?_;refine er ?_;refine U5 ?_;refine R.wk 55 _ (S1 _) ?_;refine Z5 ?_;refine Z4 ?_;exact K.fin (V.one (V.cellN jA jS)) ⟨by rw [e, Ac], by rw [e]⟩ (hlow := by have := Ae Hp.length (Cr (A9 l S.i).text); simpa only [Ac, List.length_set] using this)
 have e3 : ¬ ((A9 l S.i).kind == 1) = true := by rw [ht42]; simp
 refine Z0 ?_;refine R.call Tryz.call249 (Sk l S opT o _ (A6 ho) hi hl (by decide)) ?_;refine Bg ?_;refine R.fin [0, 2, 3, 56] ?_
 refine W.cond (fun ht56 => ?_) (fun ht56 => ?_)
 ·have e : Dq l Dv S = ((Ba (A9 l S.i).at_ Dv.ei (Ab S)).1, D6 l D3 (Ba (A9 l S.i).at_ Dv.ei (Ab S)).2) := by unfold Dq; rw [if_neg e0, if_neg e1, if_neg e2, if_neg e3, if_pos ht56]
  have hi1 : (Ab S).i < l.length := hl.stepIs hi ht56
  have hwf := Fg (S := Ab S) (l := l) (f := Dv.ei) (A9 l S.i).at_ hi1 (fun h => (hd.ei h).1)
  refine Z50 ?_;refine R.fin [0, 2, 3] ?_;refine Z0 ?_;refine Z67 ?_;refine Av ?_;refine Ik ?_;refine R.callUp Tryz.call260 (getset ho) (by simp) Bj (ct Tryz.call219 l (Ab S) (A9 l S.i).at_ Dv.ei o _ (A6 (getset ho)) hi1 hnl (fun h => (hd.ei h).1) (fun h => (hd.ei h).2)) ?_;refine Z10 ?_;refine R.fin [0, 2, 6] ?_;refine Z0 ?_;refine R.callUp Tryz.call268 (getset (getset ho)) (by simp) Bj (ol l (Ba (A9 l S.i).at_ Dv.ei (Ab S)).2 D3 o _ (A6 (getset (getset ho))) hwf.lt hll) ?_;refine R.fin [2, 6] ?_;refine Z34 ?_;refine Z5 ?_;refine Z4 ?_;exact K.fin (V.one (V.cellN jA jS)) ⟨by rw [e, Ac], by rw [e, List.set_set, List.set_set]⟩ (hlow := by have := Ae Hp.length ((Ba (A9 l S.i).at_ Dv.ei (Ab S)).1); simpa only [Ac, List.length_set] using this)
 have e : Dq l Dv S = (Az, Cc 8 (A9 l S.i).at_ S) := by unfold Dq; rw [if_neg e0, if_neg e1, if_neg e2, if_neg e3, if_neg (by rw [ht56]; simp)]
 refine Z16 ?_;refine Z0 ?_;refine n7 ?_;refine Z5 ?_;exact K.fin (V.one (V.cellN jA jS)) ⟨by rw [e, Ac], by rw [e]⟩ (hlow := by have := Ae Hp.length (Az); simpa only [Ac, List.length_set] using this)

theorem ik {l : List Tok} (hl : TokEnd l) (hll : l.length ≤ 1048576) {d n : Nat} (h : n + (d + 1) = 31) (hp : n ≠ 30 → PC 219 l (D4 l d).ei (n + 1) ∧ PC 251 l (D4 l d).no (n + 1) ∧ PC 264 l (D4 l d).ne (n + 1)) : DeepC l (D4 l d) n := by
 have g : n ≠ 30 → _ := fun h30 => Kt hl hll d (n + 1) (by omega) (by omega)
 exact ⟨fun h => ⟨(g h).1, (hp h).1⟩, fun h => ⟨(g h).2.1, (hp h).2.1⟩, fun h => ⟨(g h).2.2, (hp h).2.2⟩⟩
/-- All functions of the parser. -/
theorem Sm {l : List Tok} (hl : TokEnd l) (hll : l.length ≤ 1048576) (hcl : ∀ n Dv, n ≤ 30 → DeepC l Dv n → Sl l Dv n) : ∀ (d n : Nat), n + d = 31 → n ≤ 30 → PC 219 l (D4 l d).ei n ∧ PC 251 l (D4 l d).no n ∧ PC 264 l (D4 l d).ne n
 | 0, n, h, hn => by omega
 | d + 1, n, h, hn => by
  have hd : DeepC l (D4 l d) n := ik hl hll h (fun h30 => Sm hl hll hcl d (n + 1) (by omega) (by omega))
  have g1 : Cm l n (Ln l (D4 l d)) := Ks hl hll (fun h => (hd.ei h).1) (fun h => (hd.ne h).1)
  have g2 : Cm l n (Se l (D4 l d)) := Dx hl g1
  have g3 : Cm l n (Cl l (D4 l d)) := Dx hl g2
  have g4 : Cm l n (D7 l (D4 l d)) := Iq hl hll (fun h => (hd.ei h).1) (fun h => (hd.ne h).1)
  have g5 : Cm l n (Lo l (D4 l d)) := Pb hl hll (fun h => (hd.ei h).1) (fun h => (hd.ne h).1) (fun h => (hd.no h).1)
  have g6 : Cm l n (Sf l (D4 l d)) := Dx hl g5
  have p0 : PC 265 l (Dq l (D4 l d)) n := fun o Hp S ho hi hS => by
   subst hS
   exact rl l S (D4 l d) o Hp ho hi hl hll hn hd (hcl _ _ hn hd)
  have p1 : PC 264 l (Ln l (D4 l d)) n := fun o Hp S ho hi hS => by
   subst hS
   exact ri l S (D4 l d) o Hp ho hi hl hll hn hd p0
  have p2 : PC 263 l (Se l (D4 l d)) n := fun o Hp S ho hi hS => by
   subst hS
   exact rh l S (Ln l (D4 l d)) o Hp ho hi hl hll g1 p1
  have p3 : PC 262 l (Cl l (D4 l d)) n := fun o Hp S ho hi hS => by
   subst hS
   exact rg l S (Se l (D4 l d)) o Hp ho hi hl hll g2 p2
  have p4 : PC 259 l (D7 l (D4 l d)) n := fun o Hp S ho hi hS => by
   subst hS
   exact rk l S (D4 l d) o Hp ho hi hl hll hn hd g3 p3
  have p5 : PC 251 l (Lo l (D4 l d)) n := fun o Hp S ho hi hS => by
   subst hS
   exact rj l S (D4 l d) o Hp ho hi hl hll hn hd p4
  have p6 : PC 239 l (Sf l (D4 l d)) n := fun o Hp S ho hi hS => by
   subst hS
   exact rf l S (Lo l (D4 l d)) o Hp ho hi hl hll g5 p5
  have p7 : PC 219 l (Lt l (D4 l d)) n := fun o Hp S ho hi hS => by
   subst hS
   exact re l S (Sf l (D4 l d)) o Hp ho hi hl hll g6 p6
  exact ⟨p7, p5, p1⟩
set_option maxRecDepth 8000
/-! The document's kinds of trees are infer's. -/
set_option maxRecDepth 4000
theorem W9 {n : Nat} {U F : Nat → List AObj} {H' : List AObj} (h : Gv (fun _ => true) U F n H') : H' = U n := by
 rcases h with ⟨_, h⟩ | ⟨j, _, _, h, _⟩
 ·exact h
 cases h
theorem Yl {α : Type} {l : List α} {k : Nat} {y : α} (h : l[k]? = some y) : l.take (k + 1) = l.take k ++ [y] := by rw [List.take_add_one, h]; rfl
theorem cv {L : List (Int × Expr)} {k : Nat} {it : Int × Expr} (h : L[k]? = some it) : Cu 0 (L.take (k + 1)) = if Cu 0 (L.take k) < it.1 then it.1 else Cu 0 (L.take k) := by
 have e : Cu 0 (L.take (k + 1)) = max (Cu 0 (L.take k)) it.1 := by
  unfold Cu
  rw [Yl h, List.foldl_append]
  rfl
 rw [e]
 split <;> omega
theorem Pc {n k : Nat} {o : Bool} {l : List Str} : Low n (.slice o k (l.map Aa)) := by simp [or_imp, forall_and]
theorem rm (n : Nat) (e : Expr) (hok : okE n e) (hn : n ≤ 1048576) (hs : sizeE e ≤ 1048576) (Hp : List AObj) : AFun Tryz.prog 220 [A7 e] Hp (A4 (depthE e : Nat)) := by
 refine ACall.body [.tmp 2] [0, 4] Tryz.func220 Tryz.ntmps220 (fun d => ?_)
 refine Z64 ?_;refine R.fin [1, 4] ?_;refine B8 ?_;refine Z10 ?_;refine R.fin [1, 3, 4] ?_;refine Z15 ?_
 refine R.assumeLow (fun hlow => ?_)
 refine kx ?_;refine R.fin [3, 4, 6] ?_;refine Fc ?_
 refine W.rangeV (m := 1) Tryz.call105 (fun FR as' bd' hFR has hbd => ?_)
 have hFRl : ∀ s, Low (Hp.length + 3) (FR s) := by
  intro s
  rw [hFR]
  refine Low.strip ?_
  revert s
  repeat (first | exact B5 | refine B4 (by simp [oid, Ae] <;> try omega) ?_)
 have hOl : ∀ {k : Nat}, ∀ x ∈ [AObj.cells 3 [A4 (Cu 0 ((Am 1 e).take k))], AObj.defs, AObj.loop LoopState.ready none FR 13 #[7, 8] as' bd' (oid Hp.length 1)], ObjLow (Hp.length + 3) x := by
  intro k x hx
  simp only [List.mem_cons, List.mem_nil_iff, or_false] at hx
  rcases hx with rfl | rfl | rfl
  ·intro y hy
   rw [List.mem_singleton.1 hy]
   first | exact Pc | simp
  ·trivial
  exact ay
 refine ⟨fun _ H' => Gv (fun _ => true) (fun k => Hp ++ [AObj.cells 3 [A4 (Cu 0 ((Am 1 e).take k))], AObj.defs, AObj.loop LoopState.ready none FR 13 #[7, 8] as' bd' (oid Hp.length 1)]) (fun k => Hp ++ [AObj.cells 3 [A4 (Cu 0 ((Am 1 e).take k))], AObj.defs, AObj.loop LoopState.ready none FR 13 #[7, 8] as' bd' (oid Hp.length 1)]) (Am 1 e).length H', lm (l := oid Hp.length 2) (go := fun _ => true) (U := fun k => Hp ++ [AObj.cells 3 [A4 (Cu 0 ((Am 1 e).take k))], AObj.defs, AObj.loop LoopState.ready none FR 13 #[7, 8] as' bd' (oid Hp.length 1)]) (F := fun k => Hp ++ [AObj.cells 3 [A4 (Cu 0 ((Am 1 e).take k))], AObj.defs, AObj.loop LoopState.ready none FR 13 #[7, 8] as' bd' (oid Hp.length 1)]) (n0 := Hp.length + 3) ⟨fun k => by simp, fun k => by simp, fun k x hx => ?_, fun k x hx => ?_, by simp [oid], fun X k it hit hgo => ?_⟩ n hok hn, ?_⟩
 ·exact az
 ·exact az
 ·have hklt : k < sizeE e := by rw [← Dm 1 e]; exact (List.getElem?_eq_some_iff.1 hit).1
  generalize hV : (Hp ++ [AObj.cells 3 [A4 (Cu 0 ((Am 1 e).take k))], AObj.defs, AObj.loop LoopState.ready none FR 13 #[7, 8] as' bd' (oid Hp.length 1)] ++ X) = V
  have hL : V[oid Hp.length 2]? = some (AObj.loop LoopState.ready none FR 13 #[7, 8] as' bd' (oid Hp.length 1)) := by rw [← hV, List.append_assoc, Ak]; rfl
  have hA0 : V[oid Hp.length 0]? = some (AObj.cells 3 [A4 (Cu 0 ((Am 1 e).take k))]) := by rw [← hV, List.append_assoc, Ak]; rfl
  refine AYield.ofRound (pd := none) (fr := FR) (sz := 13) (ps := #[7, 8]) (df := oid Hp.length 1) (asg := as') (bd := bd') hL rfl (by decide) (fun d => ?_)
  subst hFR has hbd
  refine W.keep [3, 7, 8] ?_;refine am ?_;refine R.fin [3, 4] ?_
  refine ⟨rfl, none, hL, ?_⟩
  generalize hbz : (AObj.loop LoopState.busy _ _ _ _ _ _ _) = bz
  have hA : (V.set (oid Hp.length 2) bz)[oid Hp.length 0]? = some (AObj.cells 3 [A4 (Cu 0 ((Am 1 e).take k))]) := by rw [List.getElem?_set_ne (oid_ne (by decide))]; exact hA0
  refine Fc ?_;refine Hh ?_;refine R.loadUp jA hA ?_;refine Av ?_;refine R.maxI ?_
  refine R.storeUp jS hA ?_ ?_
  ·simp
  refine Z74 ?_
  subst hbz
  refine fu ?_
  refine ⟨rfl, ?_⟩
  rw [if_pos rfl]
  subst hV
  simp only [List.append_assoc, D0, List.cons_append, List.nil_append, List.set_cons_succ, List.set_cons_zero]
  rw [cv hit]
 intro r H' hq
 obtain rfl := W9 hq
 refine ⟨Hp, _, _, _, rfl, rfl, fun h => h, ?_, rfl, by simp, ?_⟩
 ·intro o ho
  have : o = oid Hp.length 1 := by simpa using ho
  subst this
  rw [Ak]
  rfl
 refine Z9 ?_;refine Z47 ?_;refine Z23 ?_;exact K.fin (V.one V.tmp) ⟨by rw [List.take_length, Lc], rfl⟩

theorem c53 (n : Nat) (e : Expr) (hok : okE n e) (hn : n ≤ 1048576) (hs : sizeE e ≤ 1048576) (Hp : List AObj) : AFun Tryz.prog 53 [A7 e] Hp (A4 (sizeE e : Nat)) := by
 refine ACall.body [.tmp 2] [0] Tryz.func53 Tryz.ntmps53 (fun d => ?_)
 refine Nz ?_;refine B8 ?_;refine Z10 ?_;refine R.fin [1, 3] ?_;refine Z15 ?_
 refine R.assumeLow (fun hlow => ?_)
 refine kx ?_;refine R.fin [3, 5] ?_;refine Fc ?_
 refine W.rangeV (m := 1) Tryz.call105 (fun FR as' bd' hFR has hbd => ?_)
 have hFRl : ∀ s, Low (Hp.length + 3) (FR s) := by
  intro s
  rw [hFR]
  refine Low.strip ?_
  revert s
  repeat (first | exact B5 | refine B4 (by simp [oid, Ae] <;> try omega) ?_)
 have hOl : ∀ {k : Nat}, ∀ x ∈ [AObj.cells 3 [A4 ((k : Nat))], AObj.defs, AObj.loop LoopState.ready none FR 11 #[6, 7] as' bd' (oid Hp.length 1)], ObjLow (Hp.length + 3) x := by
  intro k x hx
  simp only [List.mem_cons, List.mem_nil_iff, or_false] at hx
  rcases hx with rfl | rfl | rfl
  ·intro y hy
   rw [List.mem_singleton.1 hy]
   first | exact Pc | simp
  ·trivial
  exact ay
 refine ⟨fun _ H' => Gv (fun _ => true) (fun k => Hp ++ [AObj.cells 3 [A4 ((k : Nat))], AObj.defs, AObj.loop LoopState.ready none FR 11 #[6, 7] as' bd' (oid Hp.length 1)]) (fun k => Hp ++ [AObj.cells 3 [A4 ((k : Nat))], AObj.defs, AObj.loop LoopState.ready none FR 11 #[6, 7] as' bd' (oid Hp.length 1)]) (Am 1 e).length H', lm (l := oid Hp.length 2) (go := fun _ => true) (U := fun k => Hp ++ [AObj.cells 3 [A4 ((k : Nat))], AObj.defs, AObj.loop LoopState.ready none FR 11 #[6, 7] as' bd' (oid Hp.length 1)]) (F := fun k => Hp ++ [AObj.cells 3 [A4 ((k : Nat))], AObj.defs, AObj.loop LoopState.ready none FR 11 #[6, 7] as' bd' (oid Hp.length 1)]) (n0 := Hp.length + 3) ⟨fun k => by simp, fun k => by simp, fun k x hx => ?_, fun k x hx => ?_, by simp [oid], fun X k it hit hgo => ?_⟩ n hok hn, ?_⟩
 ·exact az
 ·exact az
 ·have hklt : k < sizeE e := by rw [← Dm 1 e]; exact (List.getElem?_eq_some_iff.1 hit).1
  generalize hV : (Hp ++ [AObj.cells 3 [A4 ((k : Nat))], AObj.defs, AObj.loop LoopState.ready none FR 11 #[6, 7] as' bd' (oid Hp.length 1)] ++ X) = V
  have hL : V[oid Hp.length 2]? = some (AObj.loop LoopState.ready none FR 11 #[6, 7] as' bd' (oid Hp.length 1)) := by rw [← hV, List.append_assoc, Ak]; rfl
  have hA0 : V[oid Hp.length 0]? = some (AObj.cells 3 [A4 ((k : Nat))]) := by rw [← hV, List.append_assoc, Ak]; rfl
  refine AYield.ofRound (pd := none) (fr := FR) (sz := 11) (ps := #[6, 7]) (df := oid Hp.length 1) (asg := as') (bd := bd') hL rfl (by decide) (fun d => ?_)
  subst hFR has hbd
  refine W.keep [3, 6, 7] ?_;refine AW.skip ?_
  refine ⟨rfl, none, hL, ?_⟩
  generalize hbz : (AObj.loop LoopState.busy _ _ _ _ _ _ _) = bz
  have hA : (V.set (oid Hp.length 2) bz)[oid Hp.length 0]? = some (AObj.cells 3 [A4 ((k : Nat))]) := by rw [List.getElem?_set_ne (oid_ne (by decide))]; exact hA0
  refine Fc ?_;refine Hh ?_;refine R.loadUp jA hA ?_;refine R.add64 ?_
  refine R.storeUp jS hA ?_ ?_
  ·simp
  refine Z74 ?_
  subst hbz
  refine fu ?_
  refine ⟨rfl, ?_⟩
  rw [if_pos rfl]
  subst hV
  simp only [List.append_assoc, D0, List.cons_append, List.nil_append, List.set_cons_succ, List.set_cons_zero]
  rfl
 intro r H' hq
 obtain rfl := W9 hq
 refine ⟨Hp, _, _, _, rfl, rfl, fun h => h, ?_, rfl, by simp, ?_⟩
 ·intro o ho
  have : o = oid Hp.length 1 := by simpa using ho
  subst this
  rw [Ak]
  rfl
 refine Z9 ?_;refine Z47 ?_;refine Z23 ?_;exact K.fin (V.one V.tmp) ⟨by rw [Dm], rfl⟩

set_option maxRecDepth 8000
abbrev TK := Int × Str
/-- What stands from word i on. -/
def seg (l : List Tok) (i : Nat) : List TK := (l.drop i).map ktT
/-- The texts of levels of marks. -/
def ofL (k : Nat) : Str := if k = 0 then orT else if k = 1 then Yf else if k = 3 then ib else if k = 4 then Yg else P8
/-- A row of words behind which no mark of a level, or of a tighter one, stands. -/
def Wa (k : Nat) (rest : List TK) : Prop := ∀ h r, rest = h :: r → ((h.1 == 5) || (h.1 == 2)) = true → Ko h.2 < (k : Int) ∧ h.2 ≠ [40]
def rn : Str := [110, 111, 116]
def Ym (e : Expr) : Nat := if e.op == 4 then 2 else if e.op == 3 then 6 else if e.op == 5 then (Ko e.text).toNat else 7
def il (least : Nat) (x : Expr) (T : List TK) : List TK := if least ≤ Ym x then T else (5, [40]) :: (T ++ [(5, [41])])
def im (least : Nat) (x : Expr) (n : Nat) : Nat := if least ≤ Ym x then n else n + 1
def cw (own : Nat) : Nat := if own = 3 then 4 else own
def ly (v : Val) : TK := if v.kind == 1 then (3, Fd v) else if v.kind == 2 then (4, v.s) else (2, Fd v)
def oo (t : Str) : TK := (if H4 (t.headD 0) then 2 else 5, t)
def ot : List (List TK) → List TK
 | [] => []
 | T :: r => (5, [44]) :: (T ++ ot r)
def ou (o : Int) (t : Str) (v : Val) (k : List Expr) (ts : List (List TK)) : List TK :=
 if o == 1 then [ly v] else if o == 2 then [(1, t)]
 else if o == 3 then (5, [45]) :: il 6 (k.getD 0 Az) (ts.getD 0 [])
 else if o == 4 then (2, rn) :: il 2 (k.getD 0 Az) (ts.getD 0 [])
 else if o == 5 then il (cw (Ko t).toNat) (k.getD 0 Az) (ts.getD 0 []) ++ oo t :: il ((Ko t).toNat + 1) (k.getD 1 Az) (ts.getD 1 [])
 else (1, t) :: (5, [40]) :: ((ot ts).drop 1 ++ [(5, [41])])
mutual
def Lg : Expr → List TK
 | .mk o t v k => ou o t v k (jr k)
def jr : List Expr → List (List TK)
  | [] => []
  | e :: r => Lg e :: jr r
 end
def ov : List Nat → Nat
 | [] => 0
 | n :: r => max n (ov r)
def ow (o : Int) (t : Str) (k : List Expr) (ns : List Nat) : Nat :=
 if o == 1 then 0 else if o == 2 then 0
 else if o == 3 then 1 + im 6 (k.getD 0 Az) (ns.getD 0 0)
 else if o == 4 then 1 + im 2 (k.getD 0 Az) (ns.getD 0 0)
 else if o == 5 then max (im (cw (Ko t).toNat) (k.getD 0 Az) (ns.getD 0 0)) (im ((Ko t).toNat + 1) (k.getD 1 Az) (ns.getD 1 0))
 else 1 + ov ns
mutual
def Sn : Expr → Nat
 | .mk o t v k => ow o t k (js k)
def js : List Expr → List Nat
  | [] => []
  | e :: r => Sn e :: js r
 end
/-- The functions of the levels. -/
def pf (l : List Tok) (D : Fam) : Nat → PS → Expr × PS
 | 0 => Lt l D
 | 1 => Sf l D
 | 2 => Lo l D
 | 3 => D7 l D
 | 4 => Cl l D
 | 5 => Se l D
 | 6 => Ln l D
 | _ => Dq l D
abbrev fam (l : List Tok) (n : Nat) : Fam := D4 l (30 - n)
def adv (S : PS) (n : Nat) : PS := ⟨S.i + n, S.nest, S.code, S.at_⟩
def T1 (l : List Tok) (x : Expr) : Prop := ∀ (k : Nat) (S : PS) (rest : List TK), k ≤ Ym x → S.code = 0 → S.nest + Sn x ≤ 30 → seg l S.i = Lg x ++ rest → Wa k rest → pf l (fam l S.nest) k S = (x, adv S (Lg x).length)
def T2 (l : List Tok) (x : Expr) : Prop := ∀ (k : Nat) (S : PS) (rest : List TK), (k = 0 ∨ k = 1 ∨ k = 4 ∨ k = 5) → k ≤ Ym x → S.code = 0 → S.nest + Sn x ≤ 30 → seg l S.i = Lg x ++ rest → Wa (k + 1) rest →
 ∃ n, l.length ≤ S.i + (Lg x).length + n ∧ Dd l (ofL k) (pf l (fam l S.nest) (k + 1)) S = P7 l (ofL k) (pf l (fam l S.nest) (k + 1)) n (x, adv S (Lg x).length)
/-! The parser from a word on, and of a source. -/
def atS (l : List Tok) (i : Nat) (r : Expr × PS) : PS := if r.2.code != 0 then r.2 else if decide ((30 : Int) < depthE r.1) then Cc 18 (A9 l i).at_ r.2 else if decide ((300 : Int) < sizeE r.1) then Cc 3 (A9 l i).at_ r.2 else r.2
def atR (l : List Tok) (i : Nat) : Expr × PS := Lt l (D4 l 30) ⟨i, 0, 0, 0⟩
/-- The tree, the word behind it, the fault. -/
def atM (l : List Tok) (i : Nat) : Expr × Int × Int × Int := if (atS l i (atR l i)).code != 0 then (Az, 0, (atS l i (atR l i)).code, (atS l i (atR l i)).at_) else ((atR l i).1, ((atS l i (atR l i)).i : Int), 0, 0)
set_option maxRecDepth 4000
theorem Nd {l : List Tok} (hl : TokEnd l) (hll : l.length ≤ 1048576) {i : Nat} (hi : i < l.length) : Fact l ⟨i, 0, 0, 0⟩ (atR l i) := (Kt hl hll 31 0 rfl (by decide)).1 ⟨i, 0, 0, 0⟩ hi rfl
theorem lz {l : List Tok} {i : Nat} (hi : i < l.length) (hl : TokEnd l) (hll : l.length ≤ 1048576) (hcl : ∀ n Dv, n ≤ 30 → DeepC l Dv n → Sl l Dv n) (o : Nat) (Hp : List AObj) (ho : Hp[o]? = some (pr l ⟨i, 0, 0, 0⟩)) : ACall Tryz.prog 219 [.ptr o 0] Hp (fun r H' => r = A7 (atR l i).1 ∧ H' = Hp.set o (pr l (atR l i).2)) := (Sm hl hll hcl 31 0 rfl (by decide)).1 o Hp ⟨i, 0, 0, 0⟩ ho hi rfl
theorem So {l : List Tok} (hl : TokEnd l) : (A9 l (l.length - 1)).kind = 0 := by
 obtain ⟨L, z, rfl, hz, _⟩ := hl.split
 unfold A9
 simp [hz]
theorem rp (l : List Tok) (i : Nat) (hi : i < l.length) (hl : TokEnd l) (hll : l.length ≤ 500000) (hcl : ∀ n Dv, n ≤ 30 → DeepC l Dv n → Sl l Dv n) (Hp : List AObj) : AFun Tryz.prog 199 [Vo l, A4 (i : Int)] Hp (.tup [A7 (atM l i).1, A4 (atM l i).2.1, .agg [A4 (atM l i).2.2.1, A4 (atM l i).2.2.2]]) := by
 have hmap : (l.map Ff).length = l.length := List.length_map ..
 have hll1 : l.length ≤ 1048576 := by omega
 have hq := Nd hl hll1 hi
 have hlast := So hl
 have hpos := hl.pos
 have hqlt := hq.lt
 have hqs := hq.sz
 have hok0 : okE 1048576 (atR l i).1 := Er (by have := hq.lt; omega) hq.ok
 have hsz0 : sizeE (atR l i).1 ≤ 1048576 := by have := hq.sz; have := hq.lt; omega
 refine ACall.body [.cell 4 45, .tmp 5, .cell 6 60] [0, 1] Tryz.func199 Tryz.ntmps199 (fun d => ?_)
 refine Z21 ?_;refine Bg ?_;refine Iy ?_;refine R.fin [0, 1, 4, 6] ?_;refine Xp ?_;refine Z93 ?_;refine G.len jU ?_;refine G.geq ?_;refine Fw ?_;refine Z93 ?_;refine G.len jU ?_;refine G.sub64 ?_;refine G.indexAddr ((l.length - 1)) (Ff (A9 l (l.length - 1))) jU jS (fun _ => Kk (by omega)) ?_;refine G.fieldAddrRo (off := 0) jU Tryz.sizeOf3 ?_;refine G.loadRo jA ?_;refine Rh ?_;refine R.fin [0, 1, 4, 6, 26] ?_
 refine W.cond (fun ht26 => ?_) (fun ht26 => ?_)
 ·simp only [Bool.or_eq_true, decide_eq_true_eq, bne_iff_ne, ne_eq] at ht26
  rcases ht26 with (h | h) | h
  ·omega
  ·simp at h; omega
  exact absurd hlast h
 refine U0 ?_;refine R.build (places := #[(0, 1), (1, 1), (2, 1), (3, 2)]) jU (fun w => by simp) jZ ?_;refine R.box ?_;refine Bg ?_;refine R.fin [0, 1, 4, 6, 7] ?_;refine Z0 ?_
 refine R.callOwn (n := 2) (x := pr l (atR l i).2) Tryz.call219 (lz hi hl hll1 hcl (oid Hp.length 2) _ (by rw [Ak]; rfl)) ?_
 refine Z10 ?_;refine R.fin [0, 1, 4, 6, 7, 8] ?_
 refine W.join ⟨81, A5 4 (.ptr (oid Hp.length 0) 0) (A5 6 (.ptr (oid Hp.length 1) 0) (A5 7 (.ptr (oid Hp.length 2) 0) (A5 8 (.ptr (oid Hp.length 3) 0) (fun _ => .any)))), Hp, [.cells 45 [A4 0, Aa [], A4 0, A4 0, Aa [], .nil], .cells 60 [A4 0, A4 0], pr l (atS l i (atR l i)), .cells 45 (Db (atR l i).1)], [], none⟩ ?_ ?_
 ·refine Fc ?_;refine Z0 ?_;refine f5 ?_;refine Fb ?_;refine R.neq ?_;refine Bg ?_;refine R.fin [0, 1, 4, 6, 7, 8, 35] ?_
  refine W.cond (fun ht35 => ?_) (fun ht35 => ?_)
  ·have e : atS l i (atR l i) = (atR l i).2 := if_pos ht35
   refine W.keep [4, 6, 7, 8] ?_;refine AW.skip ?_;exact f9
  have e0 : ¬ ((atR l i).2.code != 0) = true := by rw [ht35]; simp
  refine Z34 ?_;refine R.call Tryz.call220 (rm 1048576 _ hok0 (Nat.le_refl _) hsz0 _) ?_;refine R.gtr ?_;refine Bg ?_;refine R.fin [0, 1, 4, 6, 7, 8, 42] ?_
  refine W.cond (fun ht42 => ?_) (fun ht42 => ?_)
  ·have e : atS l i (atR l i) = Cc 18 (A9 l i).at_ (atR l i).2 := by unfold atS; rw [if_neg e0, if_pos ht42]
   refine Z31 ?_;refine Z53 ?_;refine R.indexAddr (i) (Ff (A9 l i)) jU jS (Kk hi) ?_;refine ep ?_
   refine R.callOwn (n := 2) (x := pr l (Cc 18 (A9 l i).at_ (atR l i).2)) Tryz.call221 (Yj l (atR l i).2 18 (A9 l i).at_ (oid Hp.length 2) _ (by rw [Ak]; rfl)) ?_
   refine R.fin [4, 6, 7, 8] ?_;exact f9
  have e1 : ¬ decide ((30 : Int) < depthE (atR l i).1) = true := by rw [ht42]; simp
  refine Z34 ?_;refine R.call Tryz.call53 (c53 1048576 _ hok0 (Nat.le_refl _) hsz0 _) ?_;refine R.gtr ?_;refine Bg ?_;refine R.fin [0, 1, 4, 6, 7, 8, 53] ?_
  refine W.cond (fun ht53 => ?_) (fun ht53 => ?_)
  ·have e : atS l i (atR l i) = Cc 3 (A9 l i).at_ (atR l i).2 := by unfold atS; rw [if_neg e0, if_neg e1, if_pos ht53]
   refine Z31 ?_;refine Z53 ?_;refine R.indexAddr (i) (Ff (A9 l i)) jU jS (Kk hi) ?_;refine ep ?_
   refine R.callOwn (n := 2) (x := pr l (Cc 3 (A9 l i).at_ (atR l i).2)) Tryz.call221 (Yj l (atR l i).2 3 (A9 l i).at_ (oid Hp.length 2) _ (by rw [Ak]; rfl)) ?_
   refine R.fin [4, 6, 7, 8] ?_;exact f9
  have e : atS l i (atR l i) = (atR l i).2 := by unfold atS; rw [if_neg e0, if_neg e1, if_neg (by rw [ht53]; simp)]
  refine W.keep [4, 6, 7, 8] ?_;refine AW.skip ?_;exact f9
 refine Xs ?_;refine Fb ?_;refine R.neq ?_;refine R.fin [4, 6, 7, 8, 69] ?_
 refine W.cond (fun ht69 => ?_) (fun ht69 => ?_)
 ·have e : atM l i = (Az, 0, (atS l i (atR l i)).code, (atS l i (atR l i)).at_) := if_pos ht69
  refine W.drawY [0, 0, 2, 6, 14, 1, 33, 127] [5] [.q 5 [] [], .s [] (some 0) [] [], .q 1 [0] []] (fun _ => Hp) (fun _ => [.cells 45 [A4 0, Aa [], A4 0, A4 0, Aa [], .nil], .cells 60 [A4 0, A4 0], pr l (atS l i (atR l i)), .cells 45 (Db (atR l i).1)]) Ad (by kernel_rfl) rfl rfl (fun _ => rfl) ?_
  apply Y.q
  case h1 =>
   intro B hT hF
   refine D.build (places := #[(0, 1), (1, 1), (2, 3), (5, 1)]) jU (fun w => by simp) jZ ?_;refine Z66 ?_;refine D.fieldAddrPtr (fo := 3) jU Tryz.sizeOf60 ?_;refine D.loadOwnN jA jS ?_;exact Gt
  case hTF => decide
  refine Y.storeOwn (u := Hp.length) (n := 0) (t' := 45) (cs := [A4 0, Aa [], A4 0, A4 0, Aa [], .nil]) (cs' := [A4 0, Aa [], A4 0, A4 0, Aa [], .nil]) Tryz.sizeOf45 (fun B hB => ⟨rfl, rfl, rfl, rfl⟩) ?_
  apply Y.q
  case h1 =>
   intro B hT hF
   exact ky
  case hTF => decide
  refine Y.tail (tn := [5])  ?_;refine R.nilCell 0 5 6 ?_;refine E3 ?_;refine R.fin [4, 5, 6] ?_;refine Z24 ?_;exact K.fin (V.three (V.cellN jA jS) V.tmp (V.cellN jA jS)) ⟨by rw [e, cu] <;> rfl, rfl⟩
 have e : atM l i = ((atR l i).1, ((atS l i (atR l i)).i : Int), 0, 0) := if_neg (by rw [ht69]; simp)
 refine Z6 ?_;refine W.drawY [0, 0, 2, 6, 14, 0, 1, 95, 255] [6] [.q 6 [] [], .s [] (some 0) [] [], .q 1 [0] []] (fun _ => Hp) (fun B => [.cells 45 (if B 0 = true then Db (atR l i).1 else [A4 0, Aa [], A4 0, A4 0, Aa [], .nil]), .cells 60 [A4 0, A4 0], pr l (atS l i (atR l i)), .cells 45 (Db (atR l i).1)]) Ad (by kernel_rfl) rfl rfl (fun _ => rfl) ?_
 apply Y.q
 case h1 =>
  intro B hT hF
  refine D.loadOwnN jA jS ?_;refine Z90 ?_;refine D.loadOwn jA ?_;exact mv
 case hTF => decide
 refine Y.storeOwn (u := Hp.length) (n := 0) (t' := 45) (cs := [A4 0, Aa [], A4 0, A4 0, Aa [], .nil]) (cs' := Db (atR l i).1) Tryz.sizeOf45 (fun B hB => ⟨rfl, by simp only [hB]; rfl, by simp [upd], rfl⟩) ?_
 apply Y.q
 case h1 =>
  intro B hT hF
  exact ky
 case hTF => decide
 refine Y.tail (tn := [6]) (O := [.cells 45 (Db (atR l i).1), .cells 60 [A4 0, A4 0], pr l (atS l i (atR l i)), .cells 45 (Db (atR l i).1)]) ?_;refine E3 ?_;refine R.fin [4, 5, 6] ?_;refine AW.ret ?_;exact K.fin (V.three (V.cellN jA jS) V.tmp (V.cellN jA jS)) ⟨by rw [e, Ac] <;> rfl, rfl⟩ (hlow := by have := low_agg (n := Hp.length) (atR l i).1; simp at this ⊢; exact this)

theorem io {s : Str} (h : (Dl s).2.1 = 0) : (Dl s).1.length ≤ 4002 := by
 obtain ⟨h1, _, h3⟩ := gr h
 have h2 := Mm s
 rw [h3]
 simp only [List.length_append, List.length_map, List.length_cons, List.length_nil]
 omega
theorem ip {l : List Tok} (hl : TokEnd l) (hll : l.length ≤ 1048576) {i : Nat} (hi : i < l.length) (h : (atM l i).2.2.1 = 0) : ∃ k : Nat, (atM l i).2.1 = (k : Int) ∧ k < l.length := by
 have hq := Nd hl hll hi
 unfold atM at h ⊢
 split at h
 ·rename_i h1
  have : (atS l i (atR l i)).code = 0 := h
  rw [this] at h1
  cases h1
 rename_i h1
 rw [if_neg h1]
 refine ⟨(atS l i (atR l i)).i, rfl, ?_⟩
 have e : (atS l i (atR l i)).i = (atR l i).2.i := by
  unfold atS
  repeat' split
  all_goals first | rfl | exact failM_i.1
 rw [e]
 exact hq.lt
theorem O9 {α : Type} {a b : List α} (hl : a.length = b.length) (h : ∀ (j : Nat) (y : α), j < a.length → a[j]? = some y → b[j]? = some y) : a = b := by
 apply List.ext_getElem hl
 intro j h1 h2
 have := h j a[j] h1 (List.getElem?_eq_getElem h1)
 rw [List.getElem?_eq_getElem h2] at this
 injection this with this
 exact this.symm
theorem Cs {n k : Nat} {o : Bool} {l : List Expr} : Low n (.slice o k (l.map A7)) := low_slice.2 fun y hy => by
 obtain ⟨a, _, rfl⟩ := List.mem_map.1 hy
 exact Ae _ a
theorem Yn {l : List Expr} {n f : Nat} (h0 : l.isEmpty = false) (h : Ip l n = true) : Ds f l n = true := by
 cases f with
 | zero => rw [Ds, h0]; rfl
 | succ f => rw [Ds, if_neg (by rw [h0]; simp), if_pos h]
theorem iq {l : List Expr} {n y : Nat} (hy : y < l.length) (h : 500 < n + y + 1 ∨ Kp l[y] = true) : Ip l n = true := by
 unfold Ip
 rcases h with h | h
 ·rw [decide_eq_true (by omega)]; rfl
 rw [List.any_eq_true.2 ⟨_, List.getElem_mem hy, h⟩, Bool.or_true]
theorem Nf {l : List Expr} : ∀ (y : Nat), y ≤ l.length → (∀ (j : Nat) (e : Expr), j < y → l[j]? = some e → Kp e = false) → ((l.take y).flatMap Expr.kids).length ≤ 100 * y
 | 0, _, _ => by simp
 | y + 1, hy, h => by
  rw [List.take_succ_eq_append_getElem hy, List.flatMap_append, List.length_append]
  have h1 := Nf y (by omega) (fun j e hj he => h j e (by omega) he)
  have h2 := Qr (h y l[y] (by omega) (List.getElem?_eq_getElem _))
  simp only [List.flatMap_cons, List.flatMap_nil, List.append_nil]
  omega
structure WideAt (l0 : List Expr) (x : List Expr × Nat × Nat) : Prop where
 eq : Ds 61 l0 0 = Ds x.2.2 x.1 x.2.1
 f : x.2.2 ≤ 61
 n : x.2.1 ≤ 500
theorem c43 (l0 : List Expr) (Hp : List AObj) : AFun Tryz.prog 43 [.slice false 6 (l0.map A7), A4 0] Hp (Ar (Ds 61 l0 0)) := by
 refine ACall.body [.tmp 4] [0, 1] Tryz.func43 Tryz.ntmps43 (fun d => ?_)
 refine Z56 ?_;refine Z3 ?_;refine R.fin [0, 1, 5] ?_;refine W.seq ?_
 refine AW.loopC (α := List Expr × Nat × Nat) (fun x => ⟨67, A5 0 (.slice false 6 (x.1.map A7)) (A5 1 (A4 (61 - (x.2.2 : Int))) (A5 5 (A4 (x.2.1 : Nat)) (fun _ => .any))), Hp, [], [], none⟩) (fun x => WideAt l0 x) (fun x => x.2.2) ((l0, 0, 61)) ⟨rfl, Nat.le_refl _, Nat.zero_le _⟩ (StLe.of_eq (by simp)) rfl (fun x hx => ?_)
 refine Xq ?_;refine R.fin [0, 1, 5, 10] ?_
 refine W.cond (fun ht10 => ?_) (fun ht10 => ?_)
 ·have hpos : 0 < x.1.length := by simpa using ht10
  have hne : x.1.isEmpty = false := by cases hxx : x.1 with
   | nil => rw [hxx] at hpos; simp at hpos
   | cons a r => rfl
  have hxf := hx.f
  refine Z6 ?_;refine Fc ?_;refine B8 ?_;refine Hi ?_;refine R.assignT ?_;refine R.fin [0, 1, 5, 6] ?_;refine ai ?_;refine R.fin [0, 1, 5, 6, 7] ?_
  refine AW.loopC (α := Nat) (fun y => ⟨67, A5 0 (.slice false 6 (x.1.map A7)) (A5 1 (A4 (61 - (x.2.2 : Int))) (A5 5 (A4 ((x.2.1 + y : Nat) : Int)) (A5 6 (.slice true 6 (((x.1.take y).flatMap Expr.kids).map A7)) (A5 7 (A4 (y : Nat)) (fun _ => .any))))), Hp, [], [], none⟩) (fun y => y ≤ x.1.length ∧ x.2.1 + y ≤ 500 ∧ ∀ (j : Nat) (e : Expr), j < y → x.1[j]? = some e → Kp e = false) (fun y => x.1.length - y) (0) ⟨Nat.zero_le _, hx.n, fun j e h => by omega⟩ (StLe.of_eq (by simp)) rfl (fun y hy => ?_)
  refine Z96 ?_;refine Ri ?_;refine R.fin [0, 1, 5, 6, 7, 15] ?_
  refine W.cond (fun ht15 => ?_) (fun ht15 => ?_)
  ·have hlt : y < x.1.length := by simpa using ht15
   have hyn := hy.2.1
   refine Z6 ?_;refine Z75 ?_;refine Z62 ?_;refine R.fin [0, 1, 5, 6, 7] ?_;refine Z11 ?_;refine R.gtr ?_;refine kg ?_;refine Z43 ?_;refine G.slen jU ?_;refine Z83 ?_;refine kg ?_;refine fq ?_;refine G.fieldAddrRo (off := 2) jU Tryz.sizeOf9 ?_;refine G.loadRo jA ?_;refine G.slen jU ?_;refine Z83 ?_;refine kg ?_;refine Z41 ?_;refine G.len jU ?_;refine Z83 ?_;refine R.fin [0, 1, 5, 6, 7, 49] ?_
   refine W.cond (fun ht49 => ?_) (fun ht49 => ?_)
   ·have hm : Ip x.1 x.2.1 = true := iq hlt (by
     simp only [Bool.or_eq_true, decide_eq_true_eq, List.length_map] at ht49
     unfold Kp
     simp only [Bool.or_eq_true, decide_eq_true_eq]
     omega)
    have hw := Yn (f := x.2.2) hne hm
    refine O0 ?_;refine K.thR ?_;refine Z46 ?_;refine K.blR ?_;exact nd
   have hfat : Kp x.1[y] = false ∧ x.2.1 + y + 1 ≤ 500 := by
    simp only [Bool.or_eq_false_iff, decide_eq_false_iff_not, List.length_map] at ht49
    unfold Kp
    simp only [Bool.or_eq_false_iff, decide_eq_false_iff_not]
    omega
   have hkl := (Qr hfat.1).2.2
   have hfm : (x.1.take (y + 1)).flatMap Expr.kids = (x.1.take y).flatMap Expr.kids ++ x.1[y].kids := by rw [List.take_succ_eq_append_getElem hlt, List.flatMap_append]; simp
   refine ar ?_;refine R.moveT ?_;refine Z53 ?_;refine R.indexAddr (y) (A7 x.1[y]) jU jS (By hlt) ?_;refine kj ?_
   refine R.append jU Tryz.type45 ?_ ?_ ?_
   ·have h1 := Nf y hy.1 hy.2.2; have h2 := hkl; have h3 := hy.2.1; simp only [List.length_map, Tryz.t45]; omega
   ·have h1 := Nf y hy.1 hy.2.2; have h2 := hkl; have h3 := hy.2.1; simp only [List.length_map, Tryz.t45]; omega
   refine R.assignT ?_;refine R.fin [0, 1, 5, 6, 7] ?_;refine Z9 ?_;refine f7 ?_;refine R.fin [0, 1, 5, 6, 7] ?_
   refine K.lpN (y + 1) ⟨hlt, by omega, Ce hlt hy.2.2 hfat.1⟩ (by omega) (StCut.of_eq ?_)
   rw [hfm, List.map_append]
   rfl
  have hye : x.1.take y = x.1 := List.take_of_length_le (by simp at ht15; omega)
  have hyl : y = x.1.length := by have := hy.1; simp at ht15; omega
  have hmany : Ip x.1 x.2.1 = false := by
   unfold Ip
   rw [decide_eq_false (by have := hy.2.1; omega), Bool.false_or, List.any_eq_false]
   intro e he
   obtain ⟨j, hj⟩ := List.getElem?_of_mem he
   rw [hy.2.2 j e (by have := (List.getElem?_eq_some_iff.1 hj).1; omega) hj]
   simp
  refine K9 ?_;refine Xq ?_;refine Z13 ?_;refine Z83 ?_;refine R.fin [1, 5, 6, 63] ?_
  refine W.cond (fun ht63 => ?_) (fun ht63 => ?_)
  ·have hw : Ds x.2.2 x.1 x.2.1 = true := by
    have h9 := ht63
    rw [hye] at h9
    simp only [Bool.or_eq_true, decide_eq_true_eq, List.length_map] at h9
    cases hf : x.2.2 with
    | zero => rw [Ds, hne]; rfl
    | succ f =>
     rw [Ds, if_neg (by rw [hne]; simp), if_neg (by rw [hmany]; simp), if_pos (by rw [decide_eq_true_eq]; omega)]
   refine O0 ?_;refine K.thR ?_;refine K.blR ?_;exact nd
  have h9 := ht63
  rw [hye] at h9
  simp only [Bool.or_eq_false_iff, decide_eq_false_iff_not, List.length_map] at h9
  obtain ⟨f, hf⟩ : ∃ f, x.2.2 = f + 1 := ⟨x.2.2 - 1, by omega⟩
  have hw : Ds x.2.2 x.1 x.2.1 = Ds f (x.1.flatMap Expr.kids) (x.2.1 + x.1.length) := by
   rw [hf, Ds, if_neg (by rw [hne]; simp), if_neg (by rw [hmany]; simp), if_neg (by rw [decide_eq_true_eq]; omega)]
  refine Ka ?_;refine Bg ?_;refine R.fin [0, 1, 5] ?_;refine f7 ?_;refine R.fin [0, 1, 5] ?_;refine K.blN ?_
  refine K.lpN (x.1.flatMap Expr.kids, x.2.1 + x.1.length, f) ⟨hx.eq.trans hw, by show f ≤ 61; omega, by show x.2.1 + x.1.length ≤ 500; have := hy.2.1; omega⟩ (by show f < x.2.2; omega) (StCut.of_eq ?_)
  rw [hye, hyl]
  congr 4
  simp only [AV.v.injEq, Value.int.injEq, true_and]
  omega
 have hnil : x.1 = [] := by have := ht10; simp at this; exact this
 refine K9 ?_;refine O0 ?_;exact K.fin (V.one V.tmp) ⟨by rw [hx.eq, hnil]; cases x.2.2 <;> rfl, rfl⟩

theorem c21 (e : Expr) (Hp : List AObj) : AFun Tryz.prog 21 [A7 e] Hp (Ar (N4 e)) := by
 refine ACall.body [.tmp 2] [0] Tryz.func21 Tryz.ntmps21 (fun d => ?_)
 refine Nz ?_;refine Z86 ?_;refine Hi ?_;refine R.call Tryz.call43 (c43 [e] _) ?_;exact Z76

theorem cx {a b : List Expr} (hl : a.length = b.length) (h : ∀ (j : Nat) (y z : Expr), j < a.length → a[j]? = some y → b[j]? = some z → eqE y z = true) : eqL a b = true := by
 rw [Jm]
 refine O9 hl fun j y hj hy => ?_
 have hjb : j < b.length := by omega
 have := h j y b[j] hj hy (List.getElem?_eq_getElem hjb)
 rw [List.getElem?_eq_getElem hjb, (Qq _ _).1 this]
theorem m0 {a b : List Expr} (h : eqL a b = true) {j : Nat} (hj : j < a.length) (hb : j < b.length) : eqE a[j] b[j] = true := by
 have e := (Jm _ _).1 h
 subst e
 exact cd _
theorem m8 {a b : List Expr} {j : Nat} (hj : j < a.length) (hb : j < b.length) (h : eqE a[j] b[j] = false) : eqL a b = false := by
 rw [Bool.eq_false_iff]
 intro h2
 rw [m0 h2 hj hb] at h
 cases h
theorem ir {a b : List Expr} (h : a.length ≠ b.length) : eqL a b = false := by
 rw [Bool.eq_false_iff]
 exact fun h2 => h (gm h2)
theorem oy {a b : List Expr} {x : Nat} (hx : x < a.length) (hb : x < b.length) (h : ∀ (j : Nat) (y z : Expr), j < x → a[j]? = some y → b[j]? = some z → eqE y z = true) (he : eqE a[x] b[x] = true) : ∀ (j : Nat) (y z : Expr), j < x + 1 → a[j]? = some y → b[j]? = some z → eqE y z = true := by
 intro j y z hj h1 h2
 rcases Nat.lt_or_ge j x with h3 | h3
 ·exact h j y z h3 h1 h2
 have : j = x := by omega
 subst this
 rw [List.getElem?_eq_getElem hx] at h1
 rw [List.getElem?_eq_getElem hb] at h2
 injection h1 with h1
 injection h2 with h2
 rw [← h1, ← h2]
 exact he
theorem rq (n : Nat) (a b : List Expr) (ha : a.length ≤ 1048576) (hok : ∀ y ∈ a, okE n y) (ih : ∀ (x : Expr), okE n x → ∀ (y : Expr) (Hp : List AObj), AFun Tryz.prog 129 [A7 x, A7 y] Hp (Ar (eqE x y))) (Hp : List AObj) : AFun Tryz.prog 164 [.slice false 6 (a.map A7), .slice false 6 (b.map A7), .fn (.func 129) [] []] Hp (Ar (eqL a b)) := by
 refine ACall.body [.tmp 6] [0, 1, 2] Tryz.func164 Tryz.ntmps164 (fun d => ?_)
 refine Z3 ?_;refine R.fin [0, 1, 2] ?_;refine Q8 ?_;refine R.len jU ?_;refine R.neq ?_;refine R.fin [0, 1, 2, 14] ?_
 refine W.cond (fun ht14 => ?_) (fun ht14 => ?_)
 ·have hf : eqL a b = false := ir (by have := ht14; simp at this; omega)
  refine Z3 ?_;refine Tu ?_;exact K.fin (V.one V.tmp) ⟨by rw [hf], rfl⟩
 have hlen : a.length = b.length := by have := ht14; simp at this; omega
 refine Z6 ?_;refine Q8 ?_;refine R.fin [1, 2, 15, 16, 17] ?_
 refine AW.loopC (α := Nat) (fun i => ⟨32, A5 1 (.slice false 6 (b.map A7)) (A5 2 (.fn (.func 129) [] []) (A5 15 (.slice false 6 (a.map A7)) (A5 16 (A4 (a.length : Nat)) (A5 17 (A4 (i : Nat)) (fun _ => .any))))), Hp, [], [], none⟩) (fun i => i ≤ a.length ∧ ∀ (j : Nat) (y z : Expr), j < i → a[j]? = some y → b[j]? = some z → eqE y z = true) (fun i => a.length - i) (0) ⟨Nat.zero_le _, fun j y z h => by omega⟩ (StLe.of_eq (by simp)) rfl (fun i hi => ?_)
 refine Z59 ?_;refine R.fin [1, 2, 15, 16, 17, 18] ?_
 refine W.condX (fun ht18 => ?_) (fun ht18 => ?_)
 ·have hlt : i < a.length := by simpa using ht18
  have hlb : i < b.length := by omega
  refine Z75 ?_;refine R.indexAddr (i) (A7 a[i]) jU jS (By hlt) ?_;refine Gf ?_;refine Xi ?_;refine R.fin [1, 2, 7, 8, 15, 16, 17] ?_;refine Z27 ?_;refine R.indexAddr (i) (A7 b[i]) jU jS (By hlb) ?_;refine Xf ?_;refine R.fin [1, 2, 8, 9, 15, 16, 17] ?_;refine Z0 ?_;refine Qb ?_;refine Qb ?_;refine R.callV Tryz.call129 (ih a[i] (hok _ (List.getElem_mem hlt)) b[i] _) ?_;refine R.not ?_;refine R.fin [1, 2, 15, 16, 17, 30] ?_
  refine W.cond (fun ht30 => ?_) (fun ht30 => ?_)
  ·have hf : eqL a b = false := m8 hlt hlb (by simpa using ht30)
   refine Z3 ?_;refine Z71 ?_;refine Z46 ?_;exact K.fin (V.one V.tmp) ⟨by rw [hf], rfl⟩
  have he : eqE a[i] b[i] = true := by simpa using ht30
  refine Z91 ?_;refine R.fin [1, 2, 15, 16, 17] ?_;refine K.lpN (i + 1) ⟨hlt, oy hlt hlb hi.2 he⟩ (by omega) ?_
  exact StCut.take (own := []) (fun _ => .refl _) (by repeat (first | exact B5 | refine B4 (by first | exact Cs | (simp; done)) ?_)) (by simp) (by simp)
 have hxe : a.length ≤ i := by simpa using ht18
 refine U3 ?_;refine Z71 ?_;exact K.fin (V.one V.tmp) ⟨by rw [cx hlen (fun j y z hj => hi.2 j y z (by omega))], rfl⟩

theorem oz : ∀ (n : Nat) (x : Expr), okE n x → ∀ (y : Expr) (Hp : List AObj), AFun Tryz.prog 129 [A7 x, A7 y] Hp (Ar (eqE x y)) := by
 intro n
 induction n with
 | zero => exact fun x h => h.elim
 | succ n ih =>
 intro x hok y Hp
 refine ACall.body [.tmp 4] [0, 1] Tryz.func129 Tryz.ntmps129 (fun d => ?_)
 refine Z32 ?_;refine R.boxRo ?_;refine Z61 ?_;refine B8 ?_;refine Z26 ?_;refine Z26 ?_;refine R.eql ?_;refine Av ?_;refine Z43 ?_;refine Z43 ?_;refine G.seql ?_;refine Z95 ?_;refine fq ?_;refine G.loadRoN jA jS ?_;refine fq ?_;refine G.loadRoN jA jS ?_;refine G.eqlAgg l8 (fun w => Qc x.val.kind x.val.n y.val.kind y.val.n x.val.s y.val.s w) ?_;refine Z95 ?_;refine Z41 ?_;refine Z41 ?_;refine G.call Tryz.call164 (fun hB => rq n x.kids y.kids hok.2.1 hok.2.2 ih _) ?_;refine G8 ?_;refine Z51 ?_;exact K.fin (V.one V.tmp) ⟨by rw [ls], rfl⟩

set_option maxRecDepth 8000
/-! Moves: what mig.Right, sound.* and the document's layers 18, 19 answer. -/
structure Mov where
 kind : Int
 take : List Str
 give : List Col
 ahead : List Expr
 back : List Expr
abbrev I4 (l : List Expr) : AV := .slice false 6 (l.map A7)
abbrev Sp (m : Mov) : List AV := [A4 m.kind, E8 m.take, Af m.give, I4 m.ahead, I4 m.back]
abbrev F5 (m : Mov) : AV := .agg (Sp m)
abbrev De (l : List Mov) : AV := .slice false 5 (l.map F5)
/-- Trees that may be walked. -/
structure OkEs (l : List Expr) : Prop where
 len : l.length ≤ 1048576
 ok : ∀ e ∈ l, okE 61 e
 size : ∀ e ∈ l, sizeE e ≤ 1048576
 rng : ∀ e ∈ l, Gw Qp e = true
structure OkMov (m : Mov) : Prop where
 takes : m.take.length ≤ 1048576
 names : ∀ s ∈ m.take, s.length ≤ 1048576
 gives : OkCols m.give
 gives2 : m.give.length ≤ 1000000
 ahead : OkEs m.ahead
 back : OkEs m.back
structure OkMovs (l : List Mov) : Prop where
 len : l.length ≤ 1048576
 each : ∀ m ∈ l, OkMov m
def Df (m : Mov) : Bool :=
 if ((m.ahead.length : Int) != (m.give.length : Int)) || ((m.back.length : Int) != (m.take.length : Int)) then false
 else if m.kind == 1 then ((m.take.length : Int) == 0) && ((m.give.length : Int) == 1)
 else if m.kind == 2 then ((m.take.length : Int) == 1) && ((m.give.length : Int) == 0)
 else if (m.kind == 3) || (m.kind == 6) then ((m.take.length : Int) == 1) && ((m.give.length : Int) == 1)
 else if m.kind == 4 then ((m.take.length : Int) == 1) && decide ((1 : Int) < (m.give.length : Int))
 else if m.kind == 5 then decide ((1 : Int) < (m.take.length : Int)) && ((m.give.length : Int) == 1)
 else false
def I5 (m : Mov) (c : Col) : Bool := Cf c.name && (((Bb c.kind == []) == (m.kind == 3)) && !((m.kind == 3) && (c.kind != 0)))
def J6 (m : Mov) : Bool :=
 if m.kind == 3 then eqE (m.ahead.getD 0 Az) (Cr (m.take.getD 0 [])) && eqE (m.back.getD 0 Az) (Cr (m.give.getD 0 ⟨[], 0⟩).name)
 else if m.kind == 6 then m.take.getD 0 [] == (m.give.getD 0 ⟨[], 0⟩).name else true
def Ej (m : Mov) : Bool := (((((Df m && m.give.all (I5 m)) && m.take.all Cf) && m.ahead.all Ay) && m.back.all Ay) && J6 m)
def Ng (l : List Mov) : Bool := decide ((l.length : Int) ≤ 8) && l.all Ej
/-! Columns behind moves. -/
def cy (e : Expr) (c : List Col) (w : Int) : Bool := ((I3 e c).2 == 0) && (((I3 e c).1 == w) || ((I3 e c).1 == 0))
def B1 (c : List Col) (m : Mov) : List Col :=
 if m.kind == 3 then (if Be (m.take.getD 0 []) c < 0 then m.give else match m.give with
  | [] => []
  | y :: r => ⟨y.name, (c.getD (Be (m.take.getD 0 []) c).toNat ⟨[], 0⟩).kind⟩ :: r)
 else m.give
def Qs (e : Expr) (c : List Col) (w : Int) : Int := if (I3 e c).2 != 0 then (I3 e c).2 else if !cy e c w then 10 else 0
def Cg (over : List Col) : List Expr → List Col → Int
 | x :: r, w :: ws => if Qs x over w.kind != 0 then Qs x over w.kind else Cg over r ws
 | _, _ => 0
def H9 (c : List Col) (m : Mov) : List Col := m.take.map fun s => c.getD (Be s c).toNat ⟨[], 0⟩
def B7 (c : List Col) (m : Mov) : List Col × Int :=
 if (C1 c m.take (B1 c m)).2 != 0 then ([], (C1 c m.take (B1 c m)).2)
 else if Cg c m.ahead (B1 c m) != 0 then ([], Cg c m.ahead (B1 c m))
 else if Cg (C1 c m.take (B1 c m)).1 m.back (H9 c m) != 0 then ([], Cg (C1 c m.take (B1 c m)).1 m.back (H9 c m))
 else ((C1 c m.take (B1 c m)).1, 0)
/-- The columns ahead of each move and behind the last one, till one is wrong; the error. -/
def Ag (c : List Col) : List Mov → List (List Col) × Int
 | [] => ([c], 0)
 | m :: r => if (B7 c m).2 != 0 then ([c], (B7 c m).2) else (c :: (Ag (B7 c m).1 r).1, (Ag (B7 c m).1 r).2)
def Eg (c : List Col) (l : List Mov) : Bool := C4 c && Ng l
/-- ref19.Steps. -/
def Gj (c : List Col) (l : List Mov) : List (List Col) × Int := if Eg c l then Ag c l else ([], 1)
/-- sound.Steps. -/
def Bs (c : List Col) (l : List Mov) : List (List Col) × Int := if (Gj c l).2 != 0 then ([], (Gj c l).2) else Gj c l
def C2 (c : List Col) (l : List Mov) : List Col × Int := if (Bs c l).2 != 0 then ([], (Bs c l).2) else ((Bs c l).1.getLastD [], 0)
theorem Yo {m : Mov} (h : Ej m = true) : Df m = true := by
 unfold Ej at h
 simp only [Bool.and_eq_true] at h
 exact h.1.1.1.1.1
theorem Ha {m : Mov} (h : Df m = true) : m.ahead.length = m.give.length ∧ m.back.length = m.take.length := by
 unfold Df at h
 split at h
 ·cases h
 rename_i h1
 simp only [Bool.or_eq_true, bne_iff_ne, ne_eq, not_or, Classical.not_not] at h1
 omega
theorem Nh {m : Mov} (h : Df m = true) (h3 : ((m.kind == 3) || (m.kind == 6)) = true) : m.take.length = 1 ∧ m.give.length = 1 := by
 unfold Df at h
 split at h
 ·cases h
 have h1 : (m.kind == 1) = false := by simp at h3 ⊢; omega
 have h2 : (m.kind == 2) = false := by simp at h3 ⊢; omega
 simp only [h1, h2, h3, if_true, if_false, Bool.false_eq_true, Bool.and_eq_true, beq_iff_eq] at h
 omega
theorem Ij (c : List Col) (m : Mov) : (B1 c m).length = m.give.length := by
 unfold B1
 split
 ·split
  ·rfl
  split <;> simp_all
 rfl
set_option maxRecDepth 4000
abbrev Sq (s : Sign) : AV := .agg [.slice false 1 (s.kids.map A4), A4 s.own]
theorem F6 {n : Nat} (s : Sign) : Low n (Sq s) := by simp [or_imp, forall_and]
theorem rr (s : Str) (Hp : List AObj) : AFun Tryz.prog 147 [Aa s] Hp (Sq (A2 s)) := by
 refine ACall.body [.cell 2 148] [0] Tryz.func147 Tryz.ntmps147 (fun d => ?_)
 refine Z48 ?_;refine Z11 ?_;refine Ge ?_;refine Fc ?_;refine Z15 ?_;refine Z14 ?_;refine R.fin [2, 3, 4] ?_
 refine W.cond (fun ht4 => ?_) (fun ht4 => ?_)
 ·refine Z6 ?_
  refine W.cond (fun ht4 => ?_) (fun ht4 => ?_)
  ·refine Z28 ?_
   first | (by_cases e0 : A2 s = ⟨[3, 3], 3⟩; exact K.fin (V.one (V.cellN Tryz.isAgg148 Tryz.sizeOf148)) ⟨by rw [e0]; rfl, rfl⟩; exfalso; apply e0; simp_all [A2]; done) | (by_cases e0 : A2 s = ⟨[-1, -1], 3⟩; exact K.fin (V.one (V.cellN Tryz.isAgg148 Tryz.sizeOf148)) ⟨by rw [e0]; rfl, rfl⟩; exfalso; apply e0; simp_all [A2]; done) | (by_cases e0 : A2 s = ⟨[2, 2], 2⟩; exact K.fin (V.one (V.cellN Tryz.isAgg148 Tryz.sizeOf148)) ⟨by rw [e0]; rfl, rfl⟩; exfalso; apply e0; simp_all [A2]; done) | (by_cases e0 : A2 s = ⟨[1, 1], 1⟩; exact K.fin (V.one (V.cellN Tryz.isAgg148 Tryz.sizeOf148)) ⟨by rw [e0]; rfl, rfl⟩; exfalso; apply e0; simp_all [A2]; done)
  refine Z15 ?_;refine Z14 ?_;refine R.fin [2, 3, 9] ?_
  refine W.cond (fun ht9 => ?_) (fun ht9 => ?_)
  ·refine Z6 ?_
   refine W.cond (fun ht9 => ?_) (fun ht9 => ?_)
   ·refine Z28 ?_
    first | (by_cases e0 : A2 s = ⟨[3, 3], 3⟩; exact K.fin (V.one (V.cellN Tryz.isAgg148 Tryz.sizeOf148)) ⟨by rw [e0]; rfl, rfl⟩; exfalso; apply e0; simp_all [A2]; done) | (by_cases e0 : A2 s = ⟨[-1, -1], 3⟩; exact K.fin (V.one (V.cellN Tryz.isAgg148 Tryz.sizeOf148)) ⟨by rw [e0]; rfl, rfl⟩; exfalso; apply e0; simp_all [A2]; done) | (by_cases e0 : A2 s = ⟨[2, 2], 2⟩; exact K.fin (V.one (V.cellN Tryz.isAgg148 Tryz.sizeOf148)) ⟨by rw [e0]; rfl, rfl⟩; exfalso; apply e0; simp_all [A2]; done) | (by_cases e0 : A2 s = ⟨[1, 1], 1⟩; exact K.fin (V.one (V.cellN Tryz.isAgg148 Tryz.sizeOf148)) ⟨by rw [e0]; rfl, rfl⟩; exfalso; apply e0; simp_all [A2]; done)
   refine Z69 ?_
   refine W.cond (fun ht18 => ?_) (fun ht18 => ?_)
   ·refine Z28 ?_
    first | (by_cases e0 : A2 s = ⟨[3, 3], 3⟩; exact K.fin (V.one (V.cellN Tryz.isAgg148 Tryz.sizeOf148)) ⟨by rw [e0]; rfl, rfl⟩; exfalso; apply e0; simp_all [A2]; done) | (by_cases e0 : A2 s = ⟨[-1, -1], 3⟩; exact K.fin (V.one (V.cellN Tryz.isAgg148 Tryz.sizeOf148)) ⟨by rw [e0]; rfl, rfl⟩; exfalso; apply e0; simp_all [A2]; done) | (by_cases e0 : A2 s = ⟨[2, 2], 2⟩; exact K.fin (V.one (V.cellN Tryz.isAgg148 Tryz.sizeOf148)) ⟨by rw [e0]; rfl, rfl⟩; exfalso; apply e0; simp_all [A2]; done) | (by_cases e0 : A2 s = ⟨[1, 1], 1⟩; exact K.fin (V.one (V.cellN Tryz.isAgg148 Tryz.sizeOf148)) ⟨by rw [e0]; rfl, rfl⟩; exfalso; apply e0; simp_all [A2]; done)
   refine Z78 ?_
   first | (by_cases e0 : A2 s = ⟨[3, 3], 3⟩; exact K.fin (V.one (V.cellN Tryz.isAgg148 Tryz.sizeOf148)) ⟨by rw [e0]; rfl, rfl⟩; exfalso; apply e0; simp_all [A2]; done) | (by_cases e0 : A2 s = ⟨[-1, -1], 3⟩; exact K.fin (V.one (V.cellN Tryz.isAgg148 Tryz.sizeOf148)) ⟨by rw [e0]; rfl, rfl⟩; exfalso; apply e0; simp_all [A2]; done) | (by_cases e0 : A2 s = ⟨[2, 2], 2⟩; exact K.fin (V.one (V.cellN Tryz.isAgg148 Tryz.sizeOf148)) ⟨by rw [e0]; rfl, rfl⟩; exfalso; apply e0; simp_all [A2]; done) | (by_cases e0 : A2 s = ⟨[1, 1], 1⟩; exact K.fin (V.one (V.cellN Tryz.isAgg148 Tryz.sizeOf148)) ⟨by rw [e0]; rfl, rfl⟩; exfalso; apply e0; simp_all [A2]; done)
  refine Z77 ?_
  refine W.cond (fun ht9 => ?_) (fun ht9 => ?_)
  ·refine Z6 ?_
   refine W.cond (fun ht9 => ?_) (fun ht9 => ?_)
   ·refine Z28 ?_
    first | (by_cases e0 : A2 s = ⟨[3, 3], 3⟩; exact K.fin (V.one (V.cellN Tryz.isAgg148 Tryz.sizeOf148)) ⟨by rw [e0]; rfl, rfl⟩; exfalso; apply e0; simp_all [A2]; done) | (by_cases e0 : A2 s = ⟨[-1, -1], 3⟩; exact K.fin (V.one (V.cellN Tryz.isAgg148 Tryz.sizeOf148)) ⟨by rw [e0]; rfl, rfl⟩; exfalso; apply e0; simp_all [A2]; done) | (by_cases e0 : A2 s = ⟨[2, 2], 2⟩; exact K.fin (V.one (V.cellN Tryz.isAgg148 Tryz.sizeOf148)) ⟨by rw [e0]; rfl, rfl⟩; exfalso; apply e0; simp_all [A2]; done) | (by_cases e0 : A2 s = ⟨[1, 1], 1⟩; exact K.fin (V.one (V.cellN Tryz.isAgg148 Tryz.sizeOf148)) ⟨by rw [e0]; rfl, rfl⟩; exfalso; apply e0; simp_all [A2]; done)
   refine Z69 ?_
   refine W.cond (fun ht18 => ?_) (fun ht18 => ?_)
   ·refine Z28 ?_
    first | (by_cases e0 : A2 s = ⟨[3, 3], 3⟩; exact K.fin (V.one (V.cellN Tryz.isAgg148 Tryz.sizeOf148)) ⟨by rw [e0]; rfl, rfl⟩; exfalso; apply e0; simp_all [A2]; done) | (by_cases e0 : A2 s = ⟨[-1, -1], 3⟩; exact K.fin (V.one (V.cellN Tryz.isAgg148 Tryz.sizeOf148)) ⟨by rw [e0]; rfl, rfl⟩; exfalso; apply e0; simp_all [A2]; done) | (by_cases e0 : A2 s = ⟨[2, 2], 2⟩; exact K.fin (V.one (V.cellN Tryz.isAgg148 Tryz.sizeOf148)) ⟨by rw [e0]; rfl, rfl⟩; exfalso; apply e0; simp_all [A2]; done) | (by_cases e0 : A2 s = ⟨[1, 1], 1⟩; exact K.fin (V.one (V.cellN Tryz.isAgg148 Tryz.sizeOf148)) ⟨by rw [e0]; rfl, rfl⟩; exfalso; apply e0; simp_all [A2]; done)
   refine Z78 ?_
   first | (by_cases e0 : A2 s = ⟨[3, 3], 3⟩; exact K.fin (V.one (V.cellN Tryz.isAgg148 Tryz.sizeOf148)) ⟨by rw [e0]; rfl, rfl⟩; exfalso; apply e0; simp_all [A2]; done) | (by_cases e0 : A2 s = ⟨[-1, -1], 3⟩; exact K.fin (V.one (V.cellN Tryz.isAgg148 Tryz.sizeOf148)) ⟨by rw [e0]; rfl, rfl⟩; exfalso; apply e0; simp_all [A2]; done) | (by_cases e0 : A2 s = ⟨[2, 2], 2⟩; exact K.fin (V.one (V.cellN Tryz.isAgg148 Tryz.sizeOf148)) ⟨by rw [e0]; rfl, rfl⟩; exfalso; apply e0; simp_all [A2]; done) | (by_cases e0 : A2 s = ⟨[1, 1], 1⟩; exact K.fin (V.one (V.cellN Tryz.isAgg148 Tryz.sizeOf148)) ⟨by rw [e0]; rfl, rfl⟩; exfalso; apply e0; simp_all [A2]; done)
  refine Z77 ?_
  refine W.cond (fun ht9 => ?_) (fun ht9 => ?_)
  ·refine Z6 ?_
   refine W.cond (fun ht9 => ?_) (fun ht9 => ?_)
   ·refine Z28 ?_
    first | (by_cases e0 : A2 s = ⟨[3, 3], 3⟩; exact K.fin (V.one (V.cellN Tryz.isAgg148 Tryz.sizeOf148)) ⟨by rw [e0]; rfl, rfl⟩; exfalso; apply e0; simp_all [A2]; done) | (by_cases e0 : A2 s = ⟨[-1, -1], 3⟩; exact K.fin (V.one (V.cellN Tryz.isAgg148 Tryz.sizeOf148)) ⟨by rw [e0]; rfl, rfl⟩; exfalso; apply e0; simp_all [A2]; done) | (by_cases e0 : A2 s = ⟨[2, 2], 2⟩; exact K.fin (V.one (V.cellN Tryz.isAgg148 Tryz.sizeOf148)) ⟨by rw [e0]; rfl, rfl⟩; exfalso; apply e0; simp_all [A2]; done) | (by_cases e0 : A2 s = ⟨[1, 1], 1⟩; exact K.fin (V.one (V.cellN Tryz.isAgg148 Tryz.sizeOf148)) ⟨by rw [e0]; rfl, rfl⟩; exfalso; apply e0; simp_all [A2]; done)
   refine Z69 ?_
   refine W.cond (fun ht18 => ?_) (fun ht18 => ?_)
   ·refine Z28 ?_
    first | (by_cases e0 : A2 s = ⟨[3, 3], 3⟩; exact K.fin (V.one (V.cellN Tryz.isAgg148 Tryz.sizeOf148)) ⟨by rw [e0]; rfl, rfl⟩; exfalso; apply e0; simp_all [A2]; done) | (by_cases e0 : A2 s = ⟨[-1, -1], 3⟩; exact K.fin (V.one (V.cellN Tryz.isAgg148 Tryz.sizeOf148)) ⟨by rw [e0]; rfl, rfl⟩; exfalso; apply e0; simp_all [A2]; done) | (by_cases e0 : A2 s = ⟨[2, 2], 2⟩; exact K.fin (V.one (V.cellN Tryz.isAgg148 Tryz.sizeOf148)) ⟨by rw [e0]; rfl, rfl⟩; exfalso; apply e0; simp_all [A2]; done) | (by_cases e0 : A2 s = ⟨[1, 1], 1⟩; exact K.fin (V.one (V.cellN Tryz.isAgg148 Tryz.sizeOf148)) ⟨by rw [e0]; rfl, rfl⟩; exfalso; apply e0; simp_all [A2]; done)
   refine Z78 ?_
   first | (by_cases e0 : A2 s = ⟨[3, 3], 3⟩; exact K.fin (V.one (V.cellN Tryz.isAgg148 Tryz.sizeOf148)) ⟨by rw [e0]; rfl, rfl⟩; exfalso; apply e0; simp_all [A2]; done) | (by_cases e0 : A2 s = ⟨[-1, -1], 3⟩; exact K.fin (V.one (V.cellN Tryz.isAgg148 Tryz.sizeOf148)) ⟨by rw [e0]; rfl, rfl⟩; exfalso; apply e0; simp_all [A2]; done) | (by_cases e0 : A2 s = ⟨[2, 2], 2⟩; exact K.fin (V.one (V.cellN Tryz.isAgg148 Tryz.sizeOf148)) ⟨by rw [e0]; rfl, rfl⟩; exfalso; apply e0; simp_all [A2]; done) | (by_cases e0 : A2 s = ⟨[1, 1], 1⟩; exact K.fin (V.one (V.cellN Tryz.isAgg148 Tryz.sizeOf148)) ⟨by rw [e0]; rfl, rfl⟩; exfalso; apply e0; simp_all [A2]; done)
  refine Z77 ?_
  refine W.cond (fun ht9 => ?_) (fun ht9 => ?_)
  ·refine Z6 ?_
   refine W.cond (fun ht9 => ?_) (fun ht9 => ?_)
   ·refine Z28 ?_
    first | (by_cases e0 : A2 s = ⟨[3, 3], 3⟩; exact K.fin (V.one (V.cellN Tryz.isAgg148 Tryz.sizeOf148)) ⟨by rw [e0]; rfl, rfl⟩; exfalso; apply e0; simp_all [A2]; done) | (by_cases e0 : A2 s = ⟨[-1, -1], 3⟩; exact K.fin (V.one (V.cellN Tryz.isAgg148 Tryz.sizeOf148)) ⟨by rw [e0]; rfl, rfl⟩; exfalso; apply e0; simp_all [A2]; done) | (by_cases e0 : A2 s = ⟨[2, 2], 2⟩; exact K.fin (V.one (V.cellN Tryz.isAgg148 Tryz.sizeOf148)) ⟨by rw [e0]; rfl, rfl⟩; exfalso; apply e0; simp_all [A2]; done) | (by_cases e0 : A2 s = ⟨[1, 1], 1⟩; exact K.fin (V.one (V.cellN Tryz.isAgg148 Tryz.sizeOf148)) ⟨by rw [e0]; rfl, rfl⟩; exfalso; apply e0; simp_all [A2]; done)
   refine Z69 ?_
   refine W.cond (fun ht18 => ?_) (fun ht18 => ?_)
   ·refine Z28 ?_
    first | (by_cases e0 : A2 s = ⟨[3, 3], 3⟩; exact K.fin (V.one (V.cellN Tryz.isAgg148 Tryz.sizeOf148)) ⟨by rw [e0]; rfl, rfl⟩; exfalso; apply e0; simp_all [A2]; done) | (by_cases e0 : A2 s = ⟨[-1, -1], 3⟩; exact K.fin (V.one (V.cellN Tryz.isAgg148 Tryz.sizeOf148)) ⟨by rw [e0]; rfl, rfl⟩; exfalso; apply e0; simp_all [A2]; done) | (by_cases e0 : A2 s = ⟨[2, 2], 2⟩; exact K.fin (V.one (V.cellN Tryz.isAgg148 Tryz.sizeOf148)) ⟨by rw [e0]; rfl, rfl⟩; exfalso; apply e0; simp_all [A2]; done) | (by_cases e0 : A2 s = ⟨[1, 1], 1⟩; exact K.fin (V.one (V.cellN Tryz.isAgg148 Tryz.sizeOf148)) ⟨by rw [e0]; rfl, rfl⟩; exfalso; apply e0; simp_all [A2]; done)
   refine Z78 ?_
   first | (by_cases e0 : A2 s = ⟨[3, 3], 3⟩; exact K.fin (V.one (V.cellN Tryz.isAgg148 Tryz.sizeOf148)) ⟨by rw [e0]; rfl, rfl⟩; exfalso; apply e0; simp_all [A2]; done) | (by_cases e0 : A2 s = ⟨[-1, -1], 3⟩; exact K.fin (V.one (V.cellN Tryz.isAgg148 Tryz.sizeOf148)) ⟨by rw [e0]; rfl, rfl⟩; exfalso; apply e0; simp_all [A2]; done) | (by_cases e0 : A2 s = ⟨[2, 2], 2⟩; exact K.fin (V.one (V.cellN Tryz.isAgg148 Tryz.sizeOf148)) ⟨by rw [e0]; rfl, rfl⟩; exfalso; apply e0; simp_all [A2]; done) | (by_cases e0 : A2 s = ⟨[1, 1], 1⟩; exact K.fin (V.one (V.cellN Tryz.isAgg148 Tryz.sizeOf148)) ⟨by rw [e0]; rfl, rfl⟩; exfalso; apply e0; simp_all [A2]; done)
  refine Z77 ?_
  refine W.cond (fun ht9 => ?_) (fun ht9 => ?_)
  ·refine Z6 ?_
   refine W.cond (fun ht9 => ?_) (fun ht9 => ?_)
   ·refine Z28 ?_
    first | (by_cases e0 : A2 s = ⟨[3, 3], 3⟩; exact K.fin (V.one (V.cellN Tryz.isAgg148 Tryz.sizeOf148)) ⟨by rw [e0]; rfl, rfl⟩; exfalso; apply e0; simp_all [A2]; done) | (by_cases e0 : A2 s = ⟨[-1, -1], 3⟩; exact K.fin (V.one (V.cellN Tryz.isAgg148 Tryz.sizeOf148)) ⟨by rw [e0]; rfl, rfl⟩; exfalso; apply e0; simp_all [A2]; done) | (by_cases e0 : A2 s = ⟨[2, 2], 2⟩; exact K.fin (V.one (V.cellN Tryz.isAgg148 Tryz.sizeOf148)) ⟨by rw [e0]; rfl, rfl⟩; exfalso; apply e0; simp_all [A2]; done) | (by_cases e0 : A2 s = ⟨[1, 1], 1⟩; exact K.fin (V.one (V.cellN Tryz.isAgg148 Tryz.sizeOf148)) ⟨by rw [e0]; rfl, rfl⟩; exfalso; apply e0; simp_all [A2]; done)
   refine Z69 ?_
   refine W.cond (fun ht18 => ?_) (fun ht18 => ?_)
   ·refine Z28 ?_
    first | (by_cases e0 : A2 s = ⟨[3, 3], 3⟩; exact K.fin (V.one (V.cellN Tryz.isAgg148 Tryz.sizeOf148)) ⟨by rw [e0]; rfl, rfl⟩; exfalso; apply e0; simp_all [A2]; done) | (by_cases e0 : A2 s = ⟨[-1, -1], 3⟩; exact K.fin (V.one (V.cellN Tryz.isAgg148 Tryz.sizeOf148)) ⟨by rw [e0]; rfl, rfl⟩; exfalso; apply e0; simp_all [A2]; done) | (by_cases e0 : A2 s = ⟨[2, 2], 2⟩; exact K.fin (V.one (V.cellN Tryz.isAgg148 Tryz.sizeOf148)) ⟨by rw [e0]; rfl, rfl⟩; exfalso; apply e0; simp_all [A2]; done) | (by_cases e0 : A2 s = ⟨[1, 1], 1⟩; exact K.fin (V.one (V.cellN Tryz.isAgg148 Tryz.sizeOf148)) ⟨by rw [e0]; rfl, rfl⟩; exfalso; apply e0; simp_all [A2]; done)
   refine Z78 ?_
   first | (by_cases e0 : A2 s = ⟨[3, 3], 3⟩; exact K.fin (V.one (V.cellN Tryz.isAgg148 Tryz.sizeOf148)) ⟨by rw [e0]; rfl, rfl⟩; exfalso; apply e0; simp_all [A2]; done) | (by_cases e0 : A2 s = ⟨[-1, -1], 3⟩; exact K.fin (V.one (V.cellN Tryz.isAgg148 Tryz.sizeOf148)) ⟨by rw [e0]; rfl, rfl⟩; exfalso; apply e0; simp_all [A2]; done) | (by_cases e0 : A2 s = ⟨[2, 2], 2⟩; exact K.fin (V.one (V.cellN Tryz.isAgg148 Tryz.sizeOf148)) ⟨by rw [e0]; rfl, rfl⟩; exfalso; apply e0; simp_all [A2]; done) | (by_cases e0 : A2 s = ⟨[1, 1], 1⟩; exact K.fin (V.one (V.cellN Tryz.isAgg148 Tryz.sizeOf148)) ⟨by rw [e0]; rfl, rfl⟩; exfalso; apply e0; simp_all [A2]; done)
  refine Xl ?_;refine R.fin [2, 3, 9] ?_;refine K.thN ?_
  refine W.cond (fun ht9 => ?_) (fun ht9 => ?_)
  ·refine Z28 ?_
   first | (by_cases e0 : A2 s = ⟨[3, 3], 3⟩; exact K.fin (V.one (V.cellN Tryz.isAgg148 Tryz.sizeOf148)) ⟨by rw [e0]; rfl, rfl⟩; exfalso; apply e0; simp_all [A2]; done) | (by_cases e0 : A2 s = ⟨[-1, -1], 3⟩; exact K.fin (V.one (V.cellN Tryz.isAgg148 Tryz.sizeOf148)) ⟨by rw [e0]; rfl, rfl⟩; exfalso; apply e0; simp_all [A2]; done) | (by_cases e0 : A2 s = ⟨[2, 2], 2⟩; exact K.fin (V.one (V.cellN Tryz.isAgg148 Tryz.sizeOf148)) ⟨by rw [e0]; rfl, rfl⟩; exfalso; apply e0; simp_all [A2]; done) | (by_cases e0 : A2 s = ⟨[1, 1], 1⟩; exact K.fin (V.one (V.cellN Tryz.isAgg148 Tryz.sizeOf148)) ⟨by rw [e0]; rfl, rfl⟩; exfalso; apply e0; simp_all [A2]; done)
  refine Z69 ?_
  refine W.cond (fun ht18 => ?_) (fun ht18 => ?_)
  ·refine Z28 ?_
   first | (by_cases e0 : A2 s = ⟨[3, 3], 3⟩; exact K.fin (V.one (V.cellN Tryz.isAgg148 Tryz.sizeOf148)) ⟨by rw [e0]; rfl, rfl⟩; exfalso; apply e0; simp_all [A2]; done) | (by_cases e0 : A2 s = ⟨[-1, -1], 3⟩; exact K.fin (V.one (V.cellN Tryz.isAgg148 Tryz.sizeOf148)) ⟨by rw [e0]; rfl, rfl⟩; exfalso; apply e0; simp_all [A2]; done) | (by_cases e0 : A2 s = ⟨[2, 2], 2⟩; exact K.fin (V.one (V.cellN Tryz.isAgg148 Tryz.sizeOf148)) ⟨by rw [e0]; rfl, rfl⟩; exfalso; apply e0; simp_all [A2]; done) | (by_cases e0 : A2 s = ⟨[1, 1], 1⟩; exact K.fin (V.one (V.cellN Tryz.isAgg148 Tryz.sizeOf148)) ⟨by rw [e0]; rfl, rfl⟩; exfalso; apply e0; simp_all [A2]; done)
  refine Z78 ?_
  first | (by_cases e0 : A2 s = ⟨[3, 3], 3⟩; exact K.fin (V.one (V.cellN Tryz.isAgg148 Tryz.sizeOf148)) ⟨by rw [e0]; rfl, rfl⟩; exfalso; apply e0; simp_all [A2]; done) | (by_cases e0 : A2 s = ⟨[-1, -1], 3⟩; exact K.fin (V.one (V.cellN Tryz.isAgg148 Tryz.sizeOf148)) ⟨by rw [e0]; rfl, rfl⟩; exfalso; apply e0; simp_all [A2]; done) | (by_cases e0 : A2 s = ⟨[2, 2], 2⟩; exact K.fin (V.one (V.cellN Tryz.isAgg148 Tryz.sizeOf148)) ⟨by rw [e0]; rfl, rfl⟩; exfalso; apply e0; simp_all [A2]; done) | (by_cases e0 : A2 s = ⟨[1, 1], 1⟩; exact K.fin (V.one (V.cellN Tryz.isAgg148 Tryz.sizeOf148)) ⟨by rw [e0]; rfl, rfl⟩; exfalso; apply e0; simp_all [A2]; done)
 refine Xl ?_;refine R.fin [2, 3, 4] ?_;refine K.thN ?_
 refine W.cond (fun ht4 => ?_) (fun ht4 => ?_)
 ·refine Z28 ?_
  first | (by_cases e0 : A2 s = ⟨[3, 3], 3⟩; exact K.fin (V.one (V.cellN Tryz.isAgg148 Tryz.sizeOf148)) ⟨by rw [e0]; rfl, rfl⟩; exfalso; apply e0; simp_all [A2]; done) | (by_cases e0 : A2 s = ⟨[-1, -1], 3⟩; exact K.fin (V.one (V.cellN Tryz.isAgg148 Tryz.sizeOf148)) ⟨by rw [e0]; rfl, rfl⟩; exfalso; apply e0; simp_all [A2]; done) | (by_cases e0 : A2 s = ⟨[2, 2], 2⟩; exact K.fin (V.one (V.cellN Tryz.isAgg148 Tryz.sizeOf148)) ⟨by rw [e0]; rfl, rfl⟩; exfalso; apply e0; simp_all [A2]; done) | (by_cases e0 : A2 s = ⟨[1, 1], 1⟩; exact K.fin (V.one (V.cellN Tryz.isAgg148 Tryz.sizeOf148)) ⟨by rw [e0]; rfl, rfl⟩; exfalso; apply e0; simp_all [A2]; done)
 refine Z15 ?_;refine Z14 ?_;refine R.fin [2, 3, 9] ?_
 refine W.cond (fun ht9 => ?_) (fun ht9 => ?_)
 ·refine Z6 ?_
  refine W.cond (fun ht9 => ?_) (fun ht9 => ?_)
  ·refine Z28 ?_
   first | (by_cases e0 : A2 s = ⟨[3, 3], 3⟩; exact K.fin (V.one (V.cellN Tryz.isAgg148 Tryz.sizeOf148)) ⟨by rw [e0]; rfl, rfl⟩; exfalso; apply e0; simp_all [A2]; done) | (by_cases e0 : A2 s = ⟨[-1, -1], 3⟩; exact K.fin (V.one (V.cellN Tryz.isAgg148 Tryz.sizeOf148)) ⟨by rw [e0]; rfl, rfl⟩; exfalso; apply e0; simp_all [A2]; done) | (by_cases e0 : A2 s = ⟨[2, 2], 2⟩; exact K.fin (V.one (V.cellN Tryz.isAgg148 Tryz.sizeOf148)) ⟨by rw [e0]; rfl, rfl⟩; exfalso; apply e0; simp_all [A2]; done) | (by_cases e0 : A2 s = ⟨[1, 1], 1⟩; exact K.fin (V.one (V.cellN Tryz.isAgg148 Tryz.sizeOf148)) ⟨by rw [e0]; rfl, rfl⟩; exfalso; apply e0; simp_all [A2]; done)
  refine Z69 ?_
  refine W.cond (fun ht18 => ?_) (fun ht18 => ?_)
  ·refine Z28 ?_
   first | (by_cases e0 : A2 s = ⟨[3, 3], 3⟩; exact K.fin (V.one (V.cellN Tryz.isAgg148 Tryz.sizeOf148)) ⟨by rw [e0]; rfl, rfl⟩; exfalso; apply e0; simp_all [A2]; done) | (by_cases e0 : A2 s = ⟨[-1, -1], 3⟩; exact K.fin (V.one (V.cellN Tryz.isAgg148 Tryz.sizeOf148)) ⟨by rw [e0]; rfl, rfl⟩; exfalso; apply e0; simp_all [A2]; done) | (by_cases e0 : A2 s = ⟨[2, 2], 2⟩; exact K.fin (V.one (V.cellN Tryz.isAgg148 Tryz.sizeOf148)) ⟨by rw [e0]; rfl, rfl⟩; exfalso; apply e0; simp_all [A2]; done) | (by_cases e0 : A2 s = ⟨[1, 1], 1⟩; exact K.fin (V.one (V.cellN Tryz.isAgg148 Tryz.sizeOf148)) ⟨by rw [e0]; rfl, rfl⟩; exfalso; apply e0; simp_all [A2]; done)
  refine Z78 ?_
  first | (by_cases e0 : A2 s = ⟨[3, 3], 3⟩; exact K.fin (V.one (V.cellN Tryz.isAgg148 Tryz.sizeOf148)) ⟨by rw [e0]; rfl, rfl⟩; exfalso; apply e0; simp_all [A2]; done) | (by_cases e0 : A2 s = ⟨[-1, -1], 3⟩; exact K.fin (V.one (V.cellN Tryz.isAgg148 Tryz.sizeOf148)) ⟨by rw [e0]; rfl, rfl⟩; exfalso; apply e0; simp_all [A2]; done) | (by_cases e0 : A2 s = ⟨[2, 2], 2⟩; exact K.fin (V.one (V.cellN Tryz.isAgg148 Tryz.sizeOf148)) ⟨by rw [e0]; rfl, rfl⟩; exfalso; apply e0; simp_all [A2]; done) | (by_cases e0 : A2 s = ⟨[1, 1], 1⟩; exact K.fin (V.one (V.cellN Tryz.isAgg148 Tryz.sizeOf148)) ⟨by rw [e0]; rfl, rfl⟩; exfalso; apply e0; simp_all [A2]; done)
 refine Z77 ?_
 refine W.cond (fun ht9 => ?_) (fun ht9 => ?_)
 ·refine Z6 ?_
  refine W.cond (fun ht9 => ?_) (fun ht9 => ?_)
  ·refine Z28 ?_
   first | (by_cases e0 : A2 s = ⟨[3, 3], 3⟩; exact K.fin (V.one (V.cellN Tryz.isAgg148 Tryz.sizeOf148)) ⟨by rw [e0]; rfl, rfl⟩; exfalso; apply e0; simp_all [A2]; done) | (by_cases e0 : A2 s = ⟨[-1, -1], 3⟩; exact K.fin (V.one (V.cellN Tryz.isAgg148 Tryz.sizeOf148)) ⟨by rw [e0]; rfl, rfl⟩; exfalso; apply e0; simp_all [A2]; done) | (by_cases e0 : A2 s = ⟨[2, 2], 2⟩; exact K.fin (V.one (V.cellN Tryz.isAgg148 Tryz.sizeOf148)) ⟨by rw [e0]; rfl, rfl⟩; exfalso; apply e0; simp_all [A2]; done) | (by_cases e0 : A2 s = ⟨[1, 1], 1⟩; exact K.fin (V.one (V.cellN Tryz.isAgg148 Tryz.sizeOf148)) ⟨by rw [e0]; rfl, rfl⟩; exfalso; apply e0; simp_all [A2]; done)
  refine Z69 ?_
  refine W.cond (fun ht18 => ?_) (fun ht18 => ?_)
  ·refine Z28 ?_
   first | (by_cases e0 : A2 s = ⟨[3, 3], 3⟩; exact K.fin (V.one (V.cellN Tryz.isAgg148 Tryz.sizeOf148)) ⟨by rw [e0]; rfl, rfl⟩; exfalso; apply e0; simp_all [A2]; done) | (by_cases e0 : A2 s = ⟨[-1, -1], 3⟩; exact K.fin (V.one (V.cellN Tryz.isAgg148 Tryz.sizeOf148)) ⟨by rw [e0]; rfl, rfl⟩; exfalso; apply e0; simp_all [A2]; done) | (by_cases e0 : A2 s = ⟨[2, 2], 2⟩; exact K.fin (V.one (V.cellN Tryz.isAgg148 Tryz.sizeOf148)) ⟨by rw [e0]; rfl, rfl⟩; exfalso; apply e0; simp_all [A2]; done) | (by_cases e0 : A2 s = ⟨[1, 1], 1⟩; exact K.fin (V.one (V.cellN Tryz.isAgg148 Tryz.sizeOf148)) ⟨by rw [e0]; rfl, rfl⟩; exfalso; apply e0; simp_all [A2]; done)
  refine Z78 ?_
  first | (by_cases e0 : A2 s = ⟨[3, 3], 3⟩; exact K.fin (V.one (V.cellN Tryz.isAgg148 Tryz.sizeOf148)) ⟨by rw [e0]; rfl, rfl⟩; exfalso; apply e0; simp_all [A2]; done) | (by_cases e0 : A2 s = ⟨[-1, -1], 3⟩; exact K.fin (V.one (V.cellN Tryz.isAgg148 Tryz.sizeOf148)) ⟨by rw [e0]; rfl, rfl⟩; exfalso; apply e0; simp_all [A2]; done) | (by_cases e0 : A2 s = ⟨[2, 2], 2⟩; exact K.fin (V.one (V.cellN Tryz.isAgg148 Tryz.sizeOf148)) ⟨by rw [e0]; rfl, rfl⟩; exfalso; apply e0; simp_all [A2]; done) | (by_cases e0 : A2 s = ⟨[1, 1], 1⟩; exact K.fin (V.one (V.cellN Tryz.isAgg148 Tryz.sizeOf148)) ⟨by rw [e0]; rfl, rfl⟩; exfalso; apply e0; simp_all [A2]; done)
 refine Z77 ?_
 refine W.cond (fun ht9 => ?_) (fun ht9 => ?_)
 ·refine Z6 ?_
  refine W.cond (fun ht9 => ?_) (fun ht9 => ?_)
  ·refine Z28 ?_
   first | (by_cases e0 : A2 s = ⟨[3, 3], 3⟩; exact K.fin (V.one (V.cellN Tryz.isAgg148 Tryz.sizeOf148)) ⟨by rw [e0]; rfl, rfl⟩; exfalso; apply e0; simp_all [A2]; done) | (by_cases e0 : A2 s = ⟨[-1, -1], 3⟩; exact K.fin (V.one (V.cellN Tryz.isAgg148 Tryz.sizeOf148)) ⟨by rw [e0]; rfl, rfl⟩; exfalso; apply e0; simp_all [A2]; done) | (by_cases e0 : A2 s = ⟨[2, 2], 2⟩; exact K.fin (V.one (V.cellN Tryz.isAgg148 Tryz.sizeOf148)) ⟨by rw [e0]; rfl, rfl⟩; exfalso; apply e0; simp_all [A2]; done) | (by_cases e0 : A2 s = ⟨[1, 1], 1⟩; exact K.fin (V.one (V.cellN Tryz.isAgg148 Tryz.sizeOf148)) ⟨by rw [e0]; rfl, rfl⟩; exfalso; apply e0; simp_all [A2]; done)
  refine Z69 ?_
  refine W.cond (fun ht18 => ?_) (fun ht18 => ?_)
  ·refine Z28 ?_
   first | (by_cases e0 : A2 s = ⟨[3, 3], 3⟩; exact K.fin (V.one (V.cellN Tryz.isAgg148 Tryz.sizeOf148)) ⟨by rw [e0]; rfl, rfl⟩; exfalso; apply e0; simp_all [A2]; done) | (by_cases e0 : A2 s = ⟨[-1, -1], 3⟩; exact K.fin (V.one (V.cellN Tryz.isAgg148 Tryz.sizeOf148)) ⟨by rw [e0]; rfl, rfl⟩; exfalso; apply e0; simp_all [A2]; done) | (by_cases e0 : A2 s = ⟨[2, 2], 2⟩; exact K.fin (V.one (V.cellN Tryz.isAgg148 Tryz.sizeOf148)) ⟨by rw [e0]; rfl, rfl⟩; exfalso; apply e0; simp_all [A2]; done) | (by_cases e0 : A2 s = ⟨[1, 1], 1⟩; exact K.fin (V.one (V.cellN Tryz.isAgg148 Tryz.sizeOf148)) ⟨by rw [e0]; rfl, rfl⟩; exfalso; apply e0; simp_all [A2]; done)
  refine Z78 ?_
  first | (by_cases e0 : A2 s = ⟨[3, 3], 3⟩; exact K.fin (V.one (V.cellN Tryz.isAgg148 Tryz.sizeOf148)) ⟨by rw [e0]; rfl, rfl⟩; exfalso; apply e0; simp_all [A2]; done) | (by_cases e0 : A2 s = ⟨[-1, -1], 3⟩; exact K.fin (V.one (V.cellN Tryz.isAgg148 Tryz.sizeOf148)) ⟨by rw [e0]; rfl, rfl⟩; exfalso; apply e0; simp_all [A2]; done) | (by_cases e0 : A2 s = ⟨[2, 2], 2⟩; exact K.fin (V.one (V.cellN Tryz.isAgg148 Tryz.sizeOf148)) ⟨by rw [e0]; rfl, rfl⟩; exfalso; apply e0; simp_all [A2]; done) | (by_cases e0 : A2 s = ⟨[1, 1], 1⟩; exact K.fin (V.one (V.cellN Tryz.isAgg148 Tryz.sizeOf148)) ⟨by rw [e0]; rfl, rfl⟩; exfalso; apply e0; simp_all [A2]; done)
 refine Z77 ?_
 refine W.cond (fun ht9 => ?_) (fun ht9 => ?_)
 ·refine Z6 ?_
  refine W.cond (fun ht9 => ?_) (fun ht9 => ?_)
  ·refine Z28 ?_
   first | (by_cases e0 : A2 s = ⟨[3, 3], 3⟩; exact K.fin (V.one (V.cellN Tryz.isAgg148 Tryz.sizeOf148)) ⟨by rw [e0]; rfl, rfl⟩; exfalso; apply e0; simp_all [A2]; done) | (by_cases e0 : A2 s = ⟨[-1, -1], 3⟩; exact K.fin (V.one (V.cellN Tryz.isAgg148 Tryz.sizeOf148)) ⟨by rw [e0]; rfl, rfl⟩; exfalso; apply e0; simp_all [A2]; done) | (by_cases e0 : A2 s = ⟨[2, 2], 2⟩; exact K.fin (V.one (V.cellN Tryz.isAgg148 Tryz.sizeOf148)) ⟨by rw [e0]; rfl, rfl⟩; exfalso; apply e0; simp_all [A2]; done) | (by_cases e0 : A2 s = ⟨[1, 1], 1⟩; exact K.fin (V.one (V.cellN Tryz.isAgg148 Tryz.sizeOf148)) ⟨by rw [e0]; rfl, rfl⟩; exfalso; apply e0; simp_all [A2]; done)
  refine Z69 ?_
  refine W.cond (fun ht18 => ?_) (fun ht18 => ?_)
  ·refine Z28 ?_
   first | (by_cases e0 : A2 s = ⟨[3, 3], 3⟩; exact K.fin (V.one (V.cellN Tryz.isAgg148 Tryz.sizeOf148)) ⟨by rw [e0]; rfl, rfl⟩; exfalso; apply e0; simp_all [A2]; done) | (by_cases e0 : A2 s = ⟨[-1, -1], 3⟩; exact K.fin (V.one (V.cellN Tryz.isAgg148 Tryz.sizeOf148)) ⟨by rw [e0]; rfl, rfl⟩; exfalso; apply e0; simp_all [A2]; done) | (by_cases e0 : A2 s = ⟨[2, 2], 2⟩; exact K.fin (V.one (V.cellN Tryz.isAgg148 Tryz.sizeOf148)) ⟨by rw [e0]; rfl, rfl⟩; exfalso; apply e0; simp_all [A2]; done) | (by_cases e0 : A2 s = ⟨[1, 1], 1⟩; exact K.fin (V.one (V.cellN Tryz.isAgg148 Tryz.sizeOf148)) ⟨by rw [e0]; rfl, rfl⟩; exfalso; apply e0; simp_all [A2]; done)
  refine Z78 ?_
  first | (by_cases e0 : A2 s = ⟨[3, 3], 3⟩; exact K.fin (V.one (V.cellN Tryz.isAgg148 Tryz.sizeOf148)) ⟨by rw [e0]; rfl, rfl⟩; exfalso; apply e0; simp_all [A2]; done) | (by_cases e0 : A2 s = ⟨[-1, -1], 3⟩; exact K.fin (V.one (V.cellN Tryz.isAgg148 Tryz.sizeOf148)) ⟨by rw [e0]; rfl, rfl⟩; exfalso; apply e0; simp_all [A2]; done) | (by_cases e0 : A2 s = ⟨[2, 2], 2⟩; exact K.fin (V.one (V.cellN Tryz.isAgg148 Tryz.sizeOf148)) ⟨by rw [e0]; rfl, rfl⟩; exfalso; apply e0; simp_all [A2]; done) | (by_cases e0 : A2 s = ⟨[1, 1], 1⟩; exact K.fin (V.one (V.cellN Tryz.isAgg148 Tryz.sizeOf148)) ⟨by rw [e0]; rfl, rfl⟩; exfalso; apply e0; simp_all [A2]; done)
 refine Z77 ?_
 refine W.cond (fun ht9 => ?_) (fun ht9 => ?_)
 ·refine Z6 ?_
  refine W.cond (fun ht9 => ?_) (fun ht9 => ?_)
  ·refine Z28 ?_
   first | (by_cases e0 : A2 s = ⟨[3, 3], 3⟩; exact K.fin (V.one (V.cellN Tryz.isAgg148 Tryz.sizeOf148)) ⟨by rw [e0]; rfl, rfl⟩; exfalso; apply e0; simp_all [A2]; done) | (by_cases e0 : A2 s = ⟨[-1, -1], 3⟩; exact K.fin (V.one (V.cellN Tryz.isAgg148 Tryz.sizeOf148)) ⟨by rw [e0]; rfl, rfl⟩; exfalso; apply e0; simp_all [A2]; done) | (by_cases e0 : A2 s = ⟨[2, 2], 2⟩; exact K.fin (V.one (V.cellN Tryz.isAgg148 Tryz.sizeOf148)) ⟨by rw [e0]; rfl, rfl⟩; exfalso; apply e0; simp_all [A2]; done) | (by_cases e0 : A2 s = ⟨[1, 1], 1⟩; exact K.fin (V.one (V.cellN Tryz.isAgg148 Tryz.sizeOf148)) ⟨by rw [e0]; rfl, rfl⟩; exfalso; apply e0; simp_all [A2]; done)
  refine Z69 ?_
  refine W.cond (fun ht18 => ?_) (fun ht18 => ?_)
  ·refine Z28 ?_
   first | (by_cases e0 : A2 s = ⟨[3, 3], 3⟩; exact K.fin (V.one (V.cellN Tryz.isAgg148 Tryz.sizeOf148)) ⟨by rw [e0]; rfl, rfl⟩; exfalso; apply e0; simp_all [A2]; done) | (by_cases e0 : A2 s = ⟨[-1, -1], 3⟩; exact K.fin (V.one (V.cellN Tryz.isAgg148 Tryz.sizeOf148)) ⟨by rw [e0]; rfl, rfl⟩; exfalso; apply e0; simp_all [A2]; done) | (by_cases e0 : A2 s = ⟨[2, 2], 2⟩; exact K.fin (V.one (V.cellN Tryz.isAgg148 Tryz.sizeOf148)) ⟨by rw [e0]; rfl, rfl⟩; exfalso; apply e0; simp_all [A2]; done) | (by_cases e0 : A2 s = ⟨[1, 1], 1⟩; exact K.fin (V.one (V.cellN Tryz.isAgg148 Tryz.sizeOf148)) ⟨by rw [e0]; rfl, rfl⟩; exfalso; apply e0; simp_all [A2]; done)
  refine Z78 ?_
  first | (by_cases e0 : A2 s = ⟨[3, 3], 3⟩; exact K.fin (V.one (V.cellN Tryz.isAgg148 Tryz.sizeOf148)) ⟨by rw [e0]; rfl, rfl⟩; exfalso; apply e0; simp_all [A2]; done) | (by_cases e0 : A2 s = ⟨[-1, -1], 3⟩; exact K.fin (V.one (V.cellN Tryz.isAgg148 Tryz.sizeOf148)) ⟨by rw [e0]; rfl, rfl⟩; exfalso; apply e0; simp_all [A2]; done) | (by_cases e0 : A2 s = ⟨[2, 2], 2⟩; exact K.fin (V.one (V.cellN Tryz.isAgg148 Tryz.sizeOf148)) ⟨by rw [e0]; rfl, rfl⟩; exfalso; apply e0; simp_all [A2]; done) | (by_cases e0 : A2 s = ⟨[1, 1], 1⟩; exact K.fin (V.one (V.cellN Tryz.isAgg148 Tryz.sizeOf148)) ⟨by rw [e0]; rfl, rfl⟩; exfalso; apply e0; simp_all [A2]; done)
 refine Xl ?_;refine R.fin [2, 3, 9] ?_;refine K.thN ?_
 refine W.cond (fun ht9 => ?_) (fun ht9 => ?_)
 ·refine Z28 ?_
  first | (by_cases e0 : A2 s = ⟨[3, 3], 3⟩; exact K.fin (V.one (V.cellN Tryz.isAgg148 Tryz.sizeOf148)) ⟨by rw [e0]; rfl, rfl⟩; exfalso; apply e0; simp_all [A2]; done) | (by_cases e0 : A2 s = ⟨[-1, -1], 3⟩; exact K.fin (V.one (V.cellN Tryz.isAgg148 Tryz.sizeOf148)) ⟨by rw [e0]; rfl, rfl⟩; exfalso; apply e0; simp_all [A2]; done) | (by_cases e0 : A2 s = ⟨[2, 2], 2⟩; exact K.fin (V.one (V.cellN Tryz.isAgg148 Tryz.sizeOf148)) ⟨by rw [e0]; rfl, rfl⟩; exfalso; apply e0; simp_all [A2]; done) | (by_cases e0 : A2 s = ⟨[1, 1], 1⟩; exact K.fin (V.one (V.cellN Tryz.isAgg148 Tryz.sizeOf148)) ⟨by rw [e0]; rfl, rfl⟩; exfalso; apply e0; simp_all [A2]; done)
 refine Z69 ?_
 refine W.cond (fun ht18 => ?_) (fun ht18 => ?_)
 ·refine Z28 ?_
  first | (by_cases e0 : A2 s = ⟨[3, 3], 3⟩; exact K.fin (V.one (V.cellN Tryz.isAgg148 Tryz.sizeOf148)) ⟨by rw [e0]; rfl, rfl⟩; exfalso; apply e0; simp_all [A2]; done) | (by_cases e0 : A2 s = ⟨[-1, -1], 3⟩; exact K.fin (V.one (V.cellN Tryz.isAgg148 Tryz.sizeOf148)) ⟨by rw [e0]; rfl, rfl⟩; exfalso; apply e0; simp_all [A2]; done) | (by_cases e0 : A2 s = ⟨[2, 2], 2⟩; exact K.fin (V.one (V.cellN Tryz.isAgg148 Tryz.sizeOf148)) ⟨by rw [e0]; rfl, rfl⟩; exfalso; apply e0; simp_all [A2]; done) | (by_cases e0 : A2 s = ⟨[1, 1], 1⟩; exact K.fin (V.one (V.cellN Tryz.isAgg148 Tryz.sizeOf148)) ⟨by rw [e0]; rfl, rfl⟩; exfalso; apply e0; simp_all [A2]; done)
 refine Z78 ?_
 first | (by_cases e0 : A2 s = ⟨[3, 3], 3⟩; exact K.fin (V.one (V.cellN Tryz.isAgg148 Tryz.sizeOf148)) ⟨by rw [e0]; rfl, rfl⟩; exfalso; apply e0; simp_all [A2]; done) | (by_cases e0 : A2 s = ⟨[-1, -1], 3⟩; exact K.fin (V.one (V.cellN Tryz.isAgg148 Tryz.sizeOf148)) ⟨by rw [e0]; rfl, rfl⟩; exfalso; apply e0; simp_all [A2]; done) | (by_cases e0 : A2 s = ⟨[2, 2], 2⟩; exact K.fin (V.one (V.cellN Tryz.isAgg148 Tryz.sizeOf148)) ⟨by rw [e0]; rfl, rfl⟩; exfalso; apply e0; simp_all [A2]; done) | (by_cases e0 : A2 s = ⟨[1, 1], 1⟩; exact K.fin (V.one (V.cellN Tryz.isAgg148 Tryz.sizeOf148)) ⟨by rw [e0]; rfl, rfl⟩; exfalso; apply e0; simp_all [A2]; done)

theorem rt (s : Str) (Hp : List AObj) : AFun Tryz.prog 148 [Aa s] Hp (Sq (A3 s)) := by
 refine ACall.body [.cell 2 148] [0] Tryz.func148 Tryz.ntmps148 (fun d => ?_)
 refine Z48 ?_;refine Z11 ?_;refine Ge ?_;refine Fc ?_;refine Z15 ?_;refine Z14 ?_;refine R.fin [2, 3, 4] ?_
 refine W.cond (fun ht4 => ?_) (fun ht4 => ?_)
 ·refine Z6 ?_
  refine W.cond (fun ht4 => ?_) (fun ht4 => ?_)
  ·refine Z28 ?_
   first | (by_cases e0 : A3 s = ⟨[2], 1⟩; exact K.fin (V.one (V.cellN Tryz.isAgg148 Tryz.sizeOf148)) ⟨by rw [e0]; rfl, rfl⟩; exfalso; apply e0; simp_all [A3]; done) | (by_cases e0 : A3 s = ⟨[1], 2⟩; exact K.fin (V.one (V.cellN Tryz.isAgg148 Tryz.sizeOf148)) ⟨by rw [e0]; rfl, rfl⟩; exfalso; apply e0; simp_all [A3]; done) | (by_cases e0 : A3 s = ⟨[2, 1], 2⟩; exact K.fin (V.one (V.cellN Tryz.isAgg148 Tryz.sizeOf148)) ⟨by rw [e0]; rfl, rfl⟩; exfalso; apply e0; simp_all [A3]; done) | (by_cases e0 : A3 s = ⟨[-2], 3⟩; exact K.fin (V.one (V.cellN Tryz.isAgg148 Tryz.sizeOf148)) ⟨by rw [e0]; rfl, rfl⟩; exfalso; apply e0; simp_all [A3]; done) | (by_cases e0 : A3 s = ⟨[-1, -1], -1⟩; exact K.fin (V.one (V.cellN Tryz.isAgg148 Tryz.sizeOf148)) ⟨by rw [e0]; rfl, rfl⟩; exfalso; apply e0; simp_all [A3]; done) | (by_cases e0 : A3 s = ⟨[3, -1, -1], -1⟩; exact K.fin (V.one (V.cellN Tryz.isAgg148 Tryz.sizeOf148)) ⟨by rw [e0]; rfl, rfl⟩; exfalso; apply e0; simp_all [A3]; done)
  refine Z77 ?_
  refine W.cond (fun ht9 => ?_) (fun ht9 => ?_)
  ·refine Z28 ?_
   first | (by_cases e0 : A3 s = ⟨[2], 1⟩; exact K.fin (V.one (V.cellN Tryz.isAgg148 Tryz.sizeOf148)) ⟨by rw [e0]; rfl, rfl⟩; exfalso; apply e0; simp_all [A3]; done) | (by_cases e0 : A3 s = ⟨[1], 2⟩; exact K.fin (V.one (V.cellN Tryz.isAgg148 Tryz.sizeOf148)) ⟨by rw [e0]; rfl, rfl⟩; exfalso; apply e0; simp_all [A3]; done) | (by_cases e0 : A3 s = ⟨[2, 1], 2⟩; exact K.fin (V.one (V.cellN Tryz.isAgg148 Tryz.sizeOf148)) ⟨by rw [e0]; rfl, rfl⟩; exfalso; apply e0; simp_all [A3]; done) | (by_cases e0 : A3 s = ⟨[-2], 3⟩; exact K.fin (V.one (V.cellN Tryz.isAgg148 Tryz.sizeOf148)) ⟨by rw [e0]; rfl, rfl⟩; exfalso; apply e0; simp_all [A3]; done) | (by_cases e0 : A3 s = ⟨[-1, -1], -1⟩; exact K.fin (V.one (V.cellN Tryz.isAgg148 Tryz.sizeOf148)) ⟨by rw [e0]; rfl, rfl⟩; exfalso; apply e0; simp_all [A3]; done) | (by_cases e0 : A3 s = ⟨[3, -1, -1], -1⟩; exact K.fin (V.one (V.cellN Tryz.isAgg148 Tryz.sizeOf148)) ⟨by rw [e0]; rfl, rfl⟩; exfalso; apply e0; simp_all [A3]; done)
  refine Z15 ?_;refine Z14 ?_;refine R.fin [2, 3, 13] ?_
  refine W.cond (fun ht13 => ?_) (fun ht13 => ?_)
  ·refine Z6 ?_
   refine W.cond (fun ht13 => ?_) (fun ht13 => ?_)
   ·refine Z28 ?_
    first | (by_cases e0 : A3 s = ⟨[2], 1⟩; exact K.fin (V.one (V.cellN Tryz.isAgg148 Tryz.sizeOf148)) ⟨by rw [e0]; rfl, rfl⟩; exfalso; apply e0; simp_all [A3]; done) | (by_cases e0 : A3 s = ⟨[1], 2⟩; exact K.fin (V.one (V.cellN Tryz.isAgg148 Tryz.sizeOf148)) ⟨by rw [e0]; rfl, rfl⟩; exfalso; apply e0; simp_all [A3]; done) | (by_cases e0 : A3 s = ⟨[2, 1], 2⟩; exact K.fin (V.one (V.cellN Tryz.isAgg148 Tryz.sizeOf148)) ⟨by rw [e0]; rfl, rfl⟩; exfalso; apply e0; simp_all [A3]; done) | (by_cases e0 : A3 s = ⟨[-2], 3⟩; exact K.fin (V.one (V.cellN Tryz.isAgg148 Tryz.sizeOf148)) ⟨by rw [e0]; rfl, rfl⟩; exfalso; apply e0; simp_all [A3]; done) | (by_cases e0 : A3 s = ⟨[-1, -1], -1⟩; exact K.fin (V.one (V.cellN Tryz.isAgg148 Tryz.sizeOf148)) ⟨by rw [e0]; rfl, rfl⟩; exfalso; apply e0; simp_all [A3]; done) | (by_cases e0 : A3 s = ⟨[3, -1, -1], -1⟩; exact K.fin (V.one (V.cellN Tryz.isAgg148 Tryz.sizeOf148)) ⟨by rw [e0]; rfl, rfl⟩; exfalso; apply e0; simp_all [A3]; done)
   refine fg ?_
   refine W.cond (fun ht18 => ?_) (fun ht18 => ?_)
   ·refine Z28 ?_
    first | (by_cases e0 : A3 s = ⟨[2], 1⟩; exact K.fin (V.one (V.cellN Tryz.isAgg148 Tryz.sizeOf148)) ⟨by rw [e0]; rfl, rfl⟩; exfalso; apply e0; simp_all [A3]; done) | (by_cases e0 : A3 s = ⟨[1], 2⟩; exact K.fin (V.one (V.cellN Tryz.isAgg148 Tryz.sizeOf148)) ⟨by rw [e0]; rfl, rfl⟩; exfalso; apply e0; simp_all [A3]; done) | (by_cases e0 : A3 s = ⟨[2, 1], 2⟩; exact K.fin (V.one (V.cellN Tryz.isAgg148 Tryz.sizeOf148)) ⟨by rw [e0]; rfl, rfl⟩; exfalso; apply e0; simp_all [A3]; done) | (by_cases e0 : A3 s = ⟨[-2], 3⟩; exact K.fin (V.one (V.cellN Tryz.isAgg148 Tryz.sizeOf148)) ⟨by rw [e0]; rfl, rfl⟩; exfalso; apply e0; simp_all [A3]; done) | (by_cases e0 : A3 s = ⟨[-1, -1], -1⟩; exact K.fin (V.one (V.cellN Tryz.isAgg148 Tryz.sizeOf148)) ⟨by rw [e0]; rfl, rfl⟩; exfalso; apply e0; simp_all [A3]; done) | (by_cases e0 : A3 s = ⟨[3, -1, -1], -1⟩; exact K.fin (V.one (V.cellN Tryz.isAgg148 Tryz.sizeOf148)) ⟨by rw [e0]; rfl, rfl⟩; exfalso; apply e0; simp_all [A3]; done)
   refine fm ?_
   refine W.cond (fun ht22 => ?_) (fun ht22 => ?_)
   ·refine Z28 ?_
    first | (by_cases e0 : A3 s = ⟨[2], 1⟩; exact K.fin (V.one (V.cellN Tryz.isAgg148 Tryz.sizeOf148)) ⟨by rw [e0]; rfl, rfl⟩; exfalso; apply e0; simp_all [A3]; done) | (by_cases e0 : A3 s = ⟨[1], 2⟩; exact K.fin (V.one (V.cellN Tryz.isAgg148 Tryz.sizeOf148)) ⟨by rw [e0]; rfl, rfl⟩; exfalso; apply e0; simp_all [A3]; done) | (by_cases e0 : A3 s = ⟨[2, 1], 2⟩; exact K.fin (V.one (V.cellN Tryz.isAgg148 Tryz.sizeOf148)) ⟨by rw [e0]; rfl, rfl⟩; exfalso; apply e0; simp_all [A3]; done) | (by_cases e0 : A3 s = ⟨[-2], 3⟩; exact K.fin (V.one (V.cellN Tryz.isAgg148 Tryz.sizeOf148)) ⟨by rw [e0]; rfl, rfl⟩; exfalso; apply e0; simp_all [A3]; done) | (by_cases e0 : A3 s = ⟨[-1, -1], -1⟩; exact K.fin (V.one (V.cellN Tryz.isAgg148 Tryz.sizeOf148)) ⟨by rw [e0]; rfl, rfl⟩; exfalso; apply e0; simp_all [A3]; done) | (by_cases e0 : A3 s = ⟨[3, -1, -1], -1⟩; exact K.fin (V.one (V.cellN Tryz.isAgg148 Tryz.sizeOf148)) ⟨by rw [e0]; rfl, rfl⟩; exfalso; apply e0; simp_all [A3]; done)
   refine Z78 ?_
   first | (by_cases e0 : A3 s = ⟨[2], 1⟩; exact K.fin (V.one (V.cellN Tryz.isAgg148 Tryz.sizeOf148)) ⟨by rw [e0]; rfl, rfl⟩; exfalso; apply e0; simp_all [A3]; done) | (by_cases e0 : A3 s = ⟨[1], 2⟩; exact K.fin (V.one (V.cellN Tryz.isAgg148 Tryz.sizeOf148)) ⟨by rw [e0]; rfl, rfl⟩; exfalso; apply e0; simp_all [A3]; done) | (by_cases e0 : A3 s = ⟨[2, 1], 2⟩; exact K.fin (V.one (V.cellN Tryz.isAgg148 Tryz.sizeOf148)) ⟨by rw [e0]; rfl, rfl⟩; exfalso; apply e0; simp_all [A3]; done) | (by_cases e0 : A3 s = ⟨[-2], 3⟩; exact K.fin (V.one (V.cellN Tryz.isAgg148 Tryz.sizeOf148)) ⟨by rw [e0]; rfl, rfl⟩; exfalso; apply e0; simp_all [A3]; done) | (by_cases e0 : A3 s = ⟨[-1, -1], -1⟩; exact K.fin (V.one (V.cellN Tryz.isAgg148 Tryz.sizeOf148)) ⟨by rw [e0]; rfl, rfl⟩; exfalso; apply e0; simp_all [A3]; done) | (by_cases e0 : A3 s = ⟨[3, -1, -1], -1⟩; exact K.fin (V.one (V.cellN Tryz.isAgg148 Tryz.sizeOf148)) ⟨by rw [e0]; rfl, rfl⟩; exfalso; apply e0; simp_all [A3]; done)
  refine Xl ?_;refine R.fin [2, 3, 13] ?_;refine K.thN ?_
  refine W.cond (fun ht13 => ?_) (fun ht13 => ?_)
  ·refine Z28 ?_
   first | (by_cases e0 : A3 s = ⟨[2], 1⟩; exact K.fin (V.one (V.cellN Tryz.isAgg148 Tryz.sizeOf148)) ⟨by rw [e0]; rfl, rfl⟩; exfalso; apply e0; simp_all [A3]; done) | (by_cases e0 : A3 s = ⟨[1], 2⟩; exact K.fin (V.one (V.cellN Tryz.isAgg148 Tryz.sizeOf148)) ⟨by rw [e0]; rfl, rfl⟩; exfalso; apply e0; simp_all [A3]; done) | (by_cases e0 : A3 s = ⟨[2, 1], 2⟩; exact K.fin (V.one (V.cellN Tryz.isAgg148 Tryz.sizeOf148)) ⟨by rw [e0]; rfl, rfl⟩; exfalso; apply e0; simp_all [A3]; done) | (by_cases e0 : A3 s = ⟨[-2], 3⟩; exact K.fin (V.one (V.cellN Tryz.isAgg148 Tryz.sizeOf148)) ⟨by rw [e0]; rfl, rfl⟩; exfalso; apply e0; simp_all [A3]; done) | (by_cases e0 : A3 s = ⟨[-1, -1], -1⟩; exact K.fin (V.one (V.cellN Tryz.isAgg148 Tryz.sizeOf148)) ⟨by rw [e0]; rfl, rfl⟩; exfalso; apply e0; simp_all [A3]; done) | (by_cases e0 : A3 s = ⟨[3, -1, -1], -1⟩; exact K.fin (V.one (V.cellN Tryz.isAgg148 Tryz.sizeOf148)) ⟨by rw [e0]; rfl, rfl⟩; exfalso; apply e0; simp_all [A3]; done)
  refine fg ?_
  refine W.cond (fun ht18 => ?_) (fun ht18 => ?_)
  ·refine Z28 ?_
   first | (by_cases e0 : A3 s = ⟨[2], 1⟩; exact K.fin (V.one (V.cellN Tryz.isAgg148 Tryz.sizeOf148)) ⟨by rw [e0]; rfl, rfl⟩; exfalso; apply e0; simp_all [A3]; done) | (by_cases e0 : A3 s = ⟨[1], 2⟩; exact K.fin (V.one (V.cellN Tryz.isAgg148 Tryz.sizeOf148)) ⟨by rw [e0]; rfl, rfl⟩; exfalso; apply e0; simp_all [A3]; done) | (by_cases e0 : A3 s = ⟨[2, 1], 2⟩; exact K.fin (V.one (V.cellN Tryz.isAgg148 Tryz.sizeOf148)) ⟨by rw [e0]; rfl, rfl⟩; exfalso; apply e0; simp_all [A3]; done) | (by_cases e0 : A3 s = ⟨[-2], 3⟩; exact K.fin (V.one (V.cellN Tryz.isAgg148 Tryz.sizeOf148)) ⟨by rw [e0]; rfl, rfl⟩; exfalso; apply e0; simp_all [A3]; done) | (by_cases e0 : A3 s = ⟨[-1, -1], -1⟩; exact K.fin (V.one (V.cellN Tryz.isAgg148 Tryz.sizeOf148)) ⟨by rw [e0]; rfl, rfl⟩; exfalso; apply e0; simp_all [A3]; done) | (by_cases e0 : A3 s = ⟨[3, -1, -1], -1⟩; exact K.fin (V.one (V.cellN Tryz.isAgg148 Tryz.sizeOf148)) ⟨by rw [e0]; rfl, rfl⟩; exfalso; apply e0; simp_all [A3]; done)
  refine fm ?_
  refine W.cond (fun ht22 => ?_) (fun ht22 => ?_)
  ·refine Z28 ?_
   first | (by_cases e0 : A3 s = ⟨[2], 1⟩; exact K.fin (V.one (V.cellN Tryz.isAgg148 Tryz.sizeOf148)) ⟨by rw [e0]; rfl, rfl⟩; exfalso; apply e0; simp_all [A3]; done) | (by_cases e0 : A3 s = ⟨[1], 2⟩; exact K.fin (V.one (V.cellN Tryz.isAgg148 Tryz.sizeOf148)) ⟨by rw [e0]; rfl, rfl⟩; exfalso; apply e0; simp_all [A3]; done) | (by_cases e0 : A3 s = ⟨[2, 1], 2⟩; exact K.fin (V.one (V.cellN Tryz.isAgg148 Tryz.sizeOf148)) ⟨by rw [e0]; rfl, rfl⟩; exfalso; apply e0; simp_all [A3]; done) | (by_cases e0 : A3 s = ⟨[-2], 3⟩; exact K.fin (V.one (V.cellN Tryz.isAgg148 Tryz.sizeOf148)) ⟨by rw [e0]; rfl, rfl⟩; exfalso; apply e0; simp_all [A3]; done) | (by_cases e0 : A3 s = ⟨[-1, -1], -1⟩; exact K.fin (V.one (V.cellN Tryz.isAgg148 Tryz.sizeOf148)) ⟨by rw [e0]; rfl, rfl⟩; exfalso; apply e0; simp_all [A3]; done) | (by_cases e0 : A3 s = ⟨[3, -1, -1], -1⟩; exact K.fin (V.one (V.cellN Tryz.isAgg148 Tryz.sizeOf148)) ⟨by rw [e0]; rfl, rfl⟩; exfalso; apply e0; simp_all [A3]; done)
  refine Z78 ?_
  first | (by_cases e0 : A3 s = ⟨[2], 1⟩; exact K.fin (V.one (V.cellN Tryz.isAgg148 Tryz.sizeOf148)) ⟨by rw [e0]; rfl, rfl⟩; exfalso; apply e0; simp_all [A3]; done) | (by_cases e0 : A3 s = ⟨[1], 2⟩; exact K.fin (V.one (V.cellN Tryz.isAgg148 Tryz.sizeOf148)) ⟨by rw [e0]; rfl, rfl⟩; exfalso; apply e0; simp_all [A3]; done) | (by_cases e0 : A3 s = ⟨[2, 1], 2⟩; exact K.fin (V.one (V.cellN Tryz.isAgg148 Tryz.sizeOf148)) ⟨by rw [e0]; rfl, rfl⟩; exfalso; apply e0; simp_all [A3]; done) | (by_cases e0 : A3 s = ⟨[-2], 3⟩; exact K.fin (V.one (V.cellN Tryz.isAgg148 Tryz.sizeOf148)) ⟨by rw [e0]; rfl, rfl⟩; exfalso; apply e0; simp_all [A3]; done) | (by_cases e0 : A3 s = ⟨[-1, -1], -1⟩; exact K.fin (V.one (V.cellN Tryz.isAgg148 Tryz.sizeOf148)) ⟨by rw [e0]; rfl, rfl⟩; exfalso; apply e0; simp_all [A3]; done) | (by_cases e0 : A3 s = ⟨[3, -1, -1], -1⟩; exact K.fin (V.one (V.cellN Tryz.isAgg148 Tryz.sizeOf148)) ⟨by rw [e0]; rfl, rfl⟩; exfalso; apply e0; simp_all [A3]; done)
 refine Xl ?_;refine R.fin [2, 3, 4] ?_;refine K.thN ?_
 refine W.cond (fun ht4 => ?_) (fun ht4 => ?_)
 ·refine Z28 ?_
  first | (by_cases e0 : A3 s = ⟨[2], 1⟩; exact K.fin (V.one (V.cellN Tryz.isAgg148 Tryz.sizeOf148)) ⟨by rw [e0]; rfl, rfl⟩; exfalso; apply e0; simp_all [A3]; done) | (by_cases e0 : A3 s = ⟨[1], 2⟩; exact K.fin (V.one (V.cellN Tryz.isAgg148 Tryz.sizeOf148)) ⟨by rw [e0]; rfl, rfl⟩; exfalso; apply e0; simp_all [A3]; done) | (by_cases e0 : A3 s = ⟨[2, 1], 2⟩; exact K.fin (V.one (V.cellN Tryz.isAgg148 Tryz.sizeOf148)) ⟨by rw [e0]; rfl, rfl⟩; exfalso; apply e0; simp_all [A3]; done) | (by_cases e0 : A3 s = ⟨[-2], 3⟩; exact K.fin (V.one (V.cellN Tryz.isAgg148 Tryz.sizeOf148)) ⟨by rw [e0]; rfl, rfl⟩; exfalso; apply e0; simp_all [A3]; done) | (by_cases e0 : A3 s = ⟨[-1, -1], -1⟩; exact K.fin (V.one (V.cellN Tryz.isAgg148 Tryz.sizeOf148)) ⟨by rw [e0]; rfl, rfl⟩; exfalso; apply e0; simp_all [A3]; done) | (by_cases e0 : A3 s = ⟨[3, -1, -1], -1⟩; exact K.fin (V.one (V.cellN Tryz.isAgg148 Tryz.sizeOf148)) ⟨by rw [e0]; rfl, rfl⟩; exfalso; apply e0; simp_all [A3]; done)
 refine Z77 ?_
 refine W.cond (fun ht9 => ?_) (fun ht9 => ?_)
 ·refine Z28 ?_
  first | (by_cases e0 : A3 s = ⟨[2], 1⟩; exact K.fin (V.one (V.cellN Tryz.isAgg148 Tryz.sizeOf148)) ⟨by rw [e0]; rfl, rfl⟩; exfalso; apply e0; simp_all [A3]; done) | (by_cases e0 : A3 s = ⟨[1], 2⟩; exact K.fin (V.one (V.cellN Tryz.isAgg148 Tryz.sizeOf148)) ⟨by rw [e0]; rfl, rfl⟩; exfalso; apply e0; simp_all [A3]; done) | (by_cases e0 : A3 s = ⟨[2, 1], 2⟩; exact K.fin (V.one (V.cellN Tryz.isAgg148 Tryz.sizeOf148)) ⟨by rw [e0]; rfl, rfl⟩; exfalso; apply e0; simp_all [A3]; done) | (by_cases e0 : A3 s = ⟨[-2], 3⟩; exact K.fin (V.one (V.cellN Tryz.isAgg148 Tryz.sizeOf148)) ⟨by rw [e0]; rfl, rfl⟩; exfalso; apply e0; simp_all [A3]; done) | (by_cases e0 : A3 s = ⟨[-1, -1], -1⟩; exact K.fin (V.one (V.cellN Tryz.isAgg148 Tryz.sizeOf148)) ⟨by rw [e0]; rfl, rfl⟩; exfalso; apply e0; simp_all [A3]; done) | (by_cases e0 : A3 s = ⟨[3, -1, -1], -1⟩; exact K.fin (V.one (V.cellN Tryz.isAgg148 Tryz.sizeOf148)) ⟨by rw [e0]; rfl, rfl⟩; exfalso; apply e0; simp_all [A3]; done)
 refine Z15 ?_;refine Z14 ?_;refine R.fin [2, 3, 13] ?_
 refine W.cond (fun ht13 => ?_) (fun ht13 => ?_)
 ·refine Z6 ?_
  refine W.cond (fun ht13 => ?_) (fun ht13 => ?_)
  ·refine Z28 ?_
   first | (by_cases e0 : A3 s = ⟨[2], 1⟩; exact K.fin (V.one (V.cellN Tryz.isAgg148 Tryz.sizeOf148)) ⟨by rw [e0]; rfl, rfl⟩; exfalso; apply e0; simp_all [A3]; done) | (by_cases e0 : A3 s = ⟨[1], 2⟩; exact K.fin (V.one (V.cellN Tryz.isAgg148 Tryz.sizeOf148)) ⟨by rw [e0]; rfl, rfl⟩; exfalso; apply e0; simp_all [A3]; done) | (by_cases e0 : A3 s = ⟨[2, 1], 2⟩; exact K.fin (V.one (V.cellN Tryz.isAgg148 Tryz.sizeOf148)) ⟨by rw [e0]; rfl, rfl⟩; exfalso; apply e0; simp_all [A3]; done) | (by_cases e0 : A3 s = ⟨[-2], 3⟩; exact K.fin (V.one (V.cellN Tryz.isAgg148 Tryz.sizeOf148)) ⟨by rw [e0]; rfl, rfl⟩; exfalso; apply e0; simp_all [A3]; done) | (by_cases e0 : A3 s = ⟨[-1, -1], -1⟩; exact K.fin (V.one (V.cellN Tryz.isAgg148 Tryz.sizeOf148)) ⟨by rw [e0]; rfl, rfl⟩; exfalso; apply e0; simp_all [A3]; done) | (by_cases e0 : A3 s = ⟨[3, -1, -1], -1⟩; exact K.fin (V.one (V.cellN Tryz.isAgg148 Tryz.sizeOf148)) ⟨by rw [e0]; rfl, rfl⟩; exfalso; apply e0; simp_all [A3]; done)
  refine fg ?_
  refine W.cond (fun ht18 => ?_) (fun ht18 => ?_)
  ·refine Z28 ?_
   first | (by_cases e0 : A3 s = ⟨[2], 1⟩; exact K.fin (V.one (V.cellN Tryz.isAgg148 Tryz.sizeOf148)) ⟨by rw [e0]; rfl, rfl⟩; exfalso; apply e0; simp_all [A3]; done) | (by_cases e0 : A3 s = ⟨[1], 2⟩; exact K.fin (V.one (V.cellN Tryz.isAgg148 Tryz.sizeOf148)) ⟨by rw [e0]; rfl, rfl⟩; exfalso; apply e0; simp_all [A3]; done) | (by_cases e0 : A3 s = ⟨[2, 1], 2⟩; exact K.fin (V.one (V.cellN Tryz.isAgg148 Tryz.sizeOf148)) ⟨by rw [e0]; rfl, rfl⟩; exfalso; apply e0; simp_all [A3]; done) | (by_cases e0 : A3 s = ⟨[-2], 3⟩; exact K.fin (V.one (V.cellN Tryz.isAgg148 Tryz.sizeOf148)) ⟨by rw [e0]; rfl, rfl⟩; exfalso; apply e0; simp_all [A3]; done) | (by_cases e0 : A3 s = ⟨[-1, -1], -1⟩; exact K.fin (V.one (V.cellN Tryz.isAgg148 Tryz.sizeOf148)) ⟨by rw [e0]; rfl, rfl⟩; exfalso; apply e0; simp_all [A3]; done) | (by_cases e0 : A3 s = ⟨[3, -1, -1], -1⟩; exact K.fin (V.one (V.cellN Tryz.isAgg148 Tryz.sizeOf148)) ⟨by rw [e0]; rfl, rfl⟩; exfalso; apply e0; simp_all [A3]; done)
  refine fm ?_
  refine W.cond (fun ht22 => ?_) (fun ht22 => ?_)
  ·refine Z28 ?_
   first | (by_cases e0 : A3 s = ⟨[2], 1⟩; exact K.fin (V.one (V.cellN Tryz.isAgg148 Tryz.sizeOf148)) ⟨by rw [e0]; rfl, rfl⟩; exfalso; apply e0; simp_all [A3]; done) | (by_cases e0 : A3 s = ⟨[1], 2⟩; exact K.fin (V.one (V.cellN Tryz.isAgg148 Tryz.sizeOf148)) ⟨by rw [e0]; rfl, rfl⟩; exfalso; apply e0; simp_all [A3]; done) | (by_cases e0 : A3 s = ⟨[2, 1], 2⟩; exact K.fin (V.one (V.cellN Tryz.isAgg148 Tryz.sizeOf148)) ⟨by rw [e0]; rfl, rfl⟩; exfalso; apply e0; simp_all [A3]; done) | (by_cases e0 : A3 s = ⟨[-2], 3⟩; exact K.fin (V.one (V.cellN Tryz.isAgg148 Tryz.sizeOf148)) ⟨by rw [e0]; rfl, rfl⟩; exfalso; apply e0; simp_all [A3]; done) | (by_cases e0 : A3 s = ⟨[-1, -1], -1⟩; exact K.fin (V.one (V.cellN Tryz.isAgg148 Tryz.sizeOf148)) ⟨by rw [e0]; rfl, rfl⟩; exfalso; apply e0; simp_all [A3]; done) | (by_cases e0 : A3 s = ⟨[3, -1, -1], -1⟩; exact K.fin (V.one (V.cellN Tryz.isAgg148 Tryz.sizeOf148)) ⟨by rw [e0]; rfl, rfl⟩; exfalso; apply e0; simp_all [A3]; done)
  refine Z78 ?_
  first | (by_cases e0 : A3 s = ⟨[2], 1⟩; exact K.fin (V.one (V.cellN Tryz.isAgg148 Tryz.sizeOf148)) ⟨by rw [e0]; rfl, rfl⟩; exfalso; apply e0; simp_all [A3]; done) | (by_cases e0 : A3 s = ⟨[1], 2⟩; exact K.fin (V.one (V.cellN Tryz.isAgg148 Tryz.sizeOf148)) ⟨by rw [e0]; rfl, rfl⟩; exfalso; apply e0; simp_all [A3]; done) | (by_cases e0 : A3 s = ⟨[2, 1], 2⟩; exact K.fin (V.one (V.cellN Tryz.isAgg148 Tryz.sizeOf148)) ⟨by rw [e0]; rfl, rfl⟩; exfalso; apply e0; simp_all [A3]; done) | (by_cases e0 : A3 s = ⟨[-2], 3⟩; exact K.fin (V.one (V.cellN Tryz.isAgg148 Tryz.sizeOf148)) ⟨by rw [e0]; rfl, rfl⟩; exfalso; apply e0; simp_all [A3]; done) | (by_cases e0 : A3 s = ⟨[-1, -1], -1⟩; exact K.fin (V.one (V.cellN Tryz.isAgg148 Tryz.sizeOf148)) ⟨by rw [e0]; rfl, rfl⟩; exfalso; apply e0; simp_all [A3]; done) | (by_cases e0 : A3 s = ⟨[3, -1, -1], -1⟩; exact K.fin (V.one (V.cellN Tryz.isAgg148 Tryz.sizeOf148)) ⟨by rw [e0]; rfl, rfl⟩; exfalso; apply e0; simp_all [A3]; done)
 refine Xl ?_;refine R.fin [2, 3, 13] ?_;refine K.thN ?_
 refine W.cond (fun ht13 => ?_) (fun ht13 => ?_)
 ·refine Z28 ?_
  first | (by_cases e0 : A3 s = ⟨[2], 1⟩; exact K.fin (V.one (V.cellN Tryz.isAgg148 Tryz.sizeOf148)) ⟨by rw [e0]; rfl, rfl⟩; exfalso; apply e0; simp_all [A3]; done) | (by_cases e0 : A3 s = ⟨[1], 2⟩; exact K.fin (V.one (V.cellN Tryz.isAgg148 Tryz.sizeOf148)) ⟨by rw [e0]; rfl, rfl⟩; exfalso; apply e0; simp_all [A3]; done) | (by_cases e0 : A3 s = ⟨[2, 1], 2⟩; exact K.fin (V.one (V.cellN Tryz.isAgg148 Tryz.sizeOf148)) ⟨by rw [e0]; rfl, rfl⟩; exfalso; apply e0; simp_all [A3]; done) | (by_cases e0 : A3 s = ⟨[-2], 3⟩; exact K.fin (V.one (V.cellN Tryz.isAgg148 Tryz.sizeOf148)) ⟨by rw [e0]; rfl, rfl⟩; exfalso; apply e0; simp_all [A3]; done) | (by_cases e0 : A3 s = ⟨[-1, -1], -1⟩; exact K.fin (V.one (V.cellN Tryz.isAgg148 Tryz.sizeOf148)) ⟨by rw [e0]; rfl, rfl⟩; exfalso; apply e0; simp_all [A3]; done) | (by_cases e0 : A3 s = ⟨[3, -1, -1], -1⟩; exact K.fin (V.one (V.cellN Tryz.isAgg148 Tryz.sizeOf148)) ⟨by rw [e0]; rfl, rfl⟩; exfalso; apply e0; simp_all [A3]; done)
 refine fg ?_
 refine W.cond (fun ht18 => ?_) (fun ht18 => ?_)
 ·refine Z28 ?_
  first | (by_cases e0 : A3 s = ⟨[2], 1⟩; exact K.fin (V.one (V.cellN Tryz.isAgg148 Tryz.sizeOf148)) ⟨by rw [e0]; rfl, rfl⟩; exfalso; apply e0; simp_all [A3]; done) | (by_cases e0 : A3 s = ⟨[1], 2⟩; exact K.fin (V.one (V.cellN Tryz.isAgg148 Tryz.sizeOf148)) ⟨by rw [e0]; rfl, rfl⟩; exfalso; apply e0; simp_all [A3]; done) | (by_cases e0 : A3 s = ⟨[2, 1], 2⟩; exact K.fin (V.one (V.cellN Tryz.isAgg148 Tryz.sizeOf148)) ⟨by rw [e0]; rfl, rfl⟩; exfalso; apply e0; simp_all [A3]; done) | (by_cases e0 : A3 s = ⟨[-2], 3⟩; exact K.fin (V.one (V.cellN Tryz.isAgg148 Tryz.sizeOf148)) ⟨by rw [e0]; rfl, rfl⟩; exfalso; apply e0; simp_all [A3]; done) | (by_cases e0 : A3 s = ⟨[-1, -1], -1⟩; exact K.fin (V.one (V.cellN Tryz.isAgg148 Tryz.sizeOf148)) ⟨by rw [e0]; rfl, rfl⟩; exfalso; apply e0; simp_all [A3]; done) | (by_cases e0 : A3 s = ⟨[3, -1, -1], -1⟩; exact K.fin (V.one (V.cellN Tryz.isAgg148 Tryz.sizeOf148)) ⟨by rw [e0]; rfl, rfl⟩; exfalso; apply e0; simp_all [A3]; done)
 refine fm ?_
 refine W.cond (fun ht22 => ?_) (fun ht22 => ?_)
 ·refine Z28 ?_
  first | (by_cases e0 : A3 s = ⟨[2], 1⟩; exact K.fin (V.one (V.cellN Tryz.isAgg148 Tryz.sizeOf148)) ⟨by rw [e0]; rfl, rfl⟩; exfalso; apply e0; simp_all [A3]; done) | (by_cases e0 : A3 s = ⟨[1], 2⟩; exact K.fin (V.one (V.cellN Tryz.isAgg148 Tryz.sizeOf148)) ⟨by rw [e0]; rfl, rfl⟩; exfalso; apply e0; simp_all [A3]; done) | (by_cases e0 : A3 s = ⟨[2, 1], 2⟩; exact K.fin (V.one (V.cellN Tryz.isAgg148 Tryz.sizeOf148)) ⟨by rw [e0]; rfl, rfl⟩; exfalso; apply e0; simp_all [A3]; done) | (by_cases e0 : A3 s = ⟨[-2], 3⟩; exact K.fin (V.one (V.cellN Tryz.isAgg148 Tryz.sizeOf148)) ⟨by rw [e0]; rfl, rfl⟩; exfalso; apply e0; simp_all [A3]; done) | (by_cases e0 : A3 s = ⟨[-1, -1], -1⟩; exact K.fin (V.one (V.cellN Tryz.isAgg148 Tryz.sizeOf148)) ⟨by rw [e0]; rfl, rfl⟩; exfalso; apply e0; simp_all [A3]; done) | (by_cases e0 : A3 s = ⟨[3, -1, -1], -1⟩; exact K.fin (V.one (V.cellN Tryz.isAgg148 Tryz.sizeOf148)) ⟨by rw [e0]; rfl, rfl⟩; exfalso; apply e0; simp_all [A3]; done)
 refine Z78 ?_
 first | (by_cases e0 : A3 s = ⟨[2], 1⟩; exact K.fin (V.one (V.cellN Tryz.isAgg148 Tryz.sizeOf148)) ⟨by rw [e0]; rfl, rfl⟩; exfalso; apply e0; simp_all [A3]; done) | (by_cases e0 : A3 s = ⟨[1], 2⟩; exact K.fin (V.one (V.cellN Tryz.isAgg148 Tryz.sizeOf148)) ⟨by rw [e0]; rfl, rfl⟩; exfalso; apply e0; simp_all [A3]; done) | (by_cases e0 : A3 s = ⟨[2, 1], 2⟩; exact K.fin (V.one (V.cellN Tryz.isAgg148 Tryz.sizeOf148)) ⟨by rw [e0]; rfl, rfl⟩; exfalso; apply e0; simp_all [A3]; done) | (by_cases e0 : A3 s = ⟨[-2], 3⟩; exact K.fin (V.one (V.cellN Tryz.isAgg148 Tryz.sizeOf148)) ⟨by rw [e0]; rfl, rfl⟩; exfalso; apply e0; simp_all [A3]; done) | (by_cases e0 : A3 s = ⟨[-1, -1], -1⟩; exact K.fin (V.one (V.cellN Tryz.isAgg148 Tryz.sizeOf148)) ⟨by rw [e0]; rfl, rfl⟩; exfalso; apply e0; simp_all [A3]; done) | (by_cases e0 : A3 s = ⟨[3, -1, -1], -1⟩; exact K.fin (V.one (V.cellN Tryz.isAgg148 Tryz.sizeOf148)) ⟨by rw [e0]; rfl, rfl⟩; exfalso; apply e0; simp_all [A3]; done)

theorem ru (e : Expr) (Hp : List AObj) : AFun Tryz.prog 116 [A7 e] Hp (Sq (Bt e.op e.text)) := by
 refine ACall.body [.cell 2 148] [0] Tryz.func116 Tryz.ntmps116 (fun d => ?_)
 refine Z32 ?_;refine Iy ?_;refine R.fin [1, 2] ?_;refine Tx ?_;refine R.fin [1, 2, 4] ?_;refine Rk ?_;refine R.fin [1, 2, 4, 5] ?_
 refine W.cond (fun ht5 => ?_) (fun ht5 => ?_)
 ·refine Z28 ?_
  first | (by_cases e0 : Bt e.op e.text = ⟨[1], 1⟩; exact K.fin (V.one (V.cellN Tryz.isAgg148 Tryz.sizeOf148)) ⟨by rw [e0]; rfl, rfl⟩; exfalso; apply e0; simp_all [Bt]; done) | (by_cases e0 : Bt e.op e.text = ⟨[3], 3⟩; exact K.fin (V.one (V.cellN Tryz.isAgg148 Tryz.sizeOf148)) ⟨by rw [e0]; rfl, rfl⟩; exfalso; apply e0; simp_all [Bt]; done) | (by_cases e0 : Bt e.op e.text = A2 e.text; exact K.fin (V.one (V.cellN Tryz.isAgg148 Tryz.sizeOf148)) ⟨by rw [e0], rfl⟩ (hlow := F6 _); exfalso; apply e0; simp_all [Bt]; done) | (by_cases e0 : Bt e.op e.text = A3 e.text; exact K.fin (V.one (V.cellN Tryz.isAgg148 Tryz.sizeOf148)) ⟨by rw [e0], rfl⟩ (hlow := F6 _); exfalso; apply e0; simp_all [Bt]; done)
 refine Z37 ?_;refine R.fin [1, 2, 4, 9] ?_
 refine W.cond (fun ht9 => ?_) (fun ht9 => ?_)
 ·refine Z28 ?_
  first | (by_cases e0 : Bt e.op e.text = ⟨[1], 1⟩; exact K.fin (V.one (V.cellN Tryz.isAgg148 Tryz.sizeOf148)) ⟨by rw [e0]; rfl, rfl⟩; exfalso; apply e0; simp_all [Bt]; done) | (by_cases e0 : Bt e.op e.text = ⟨[3], 3⟩; exact K.fin (V.one (V.cellN Tryz.isAgg148 Tryz.sizeOf148)) ⟨by rw [e0]; rfl, rfl⟩; exfalso; apply e0; simp_all [Bt]; done) | (by_cases e0 : Bt e.op e.text = A2 e.text; exact K.fin (V.one (V.cellN Tryz.isAgg148 Tryz.sizeOf148)) ⟨by rw [e0], rfl⟩ (hlow := F6 _); exfalso; apply e0; simp_all [Bt]; done) | (by_cases e0 : Bt e.op e.text = A3 e.text; exact K.fin (V.one (V.cellN Tryz.isAgg148 Tryz.sizeOf148)) ⟨by rw [e0], rfl⟩ (hlow := F6 _); exfalso; apply e0; simp_all [Bt]; done)
 refine Z37 ?_;refine R.fin [1, 2, 13] ?_
 refine W.cond (fun ht13 => ?_) (fun ht13 => ?_)
 ·refine B8 ?_;refine Z81 ?_;refine R.call Tryz.call147 (rr e.text _) ?_;refine Z5 ?_;refine Z4 ?_
  first | (by_cases e0 : Bt e.op e.text = ⟨[1], 1⟩; exact K.fin (V.one (V.cellN Tryz.isAgg148 Tryz.sizeOf148)) ⟨by rw [e0]; rfl, rfl⟩; exfalso; apply e0; simp_all [Bt]; done) | (by_cases e0 : Bt e.op e.text = ⟨[3], 3⟩; exact K.fin (V.one (V.cellN Tryz.isAgg148 Tryz.sizeOf148)) ⟨by rw [e0]; rfl, rfl⟩; exfalso; apply e0; simp_all [Bt]; done) | (by_cases e0 : Bt e.op e.text = A2 e.text; exact K.fin (V.one (V.cellN Tryz.isAgg148 Tryz.sizeOf148)) ⟨by rw [e0], rfl⟩ (hlow := F6 _); exfalso; apply e0; simp_all [Bt]; done) | (by_cases e0 : Bt e.op e.text = A3 e.text; exact K.fin (V.one (V.cellN Tryz.isAgg148 Tryz.sizeOf148)) ⟨by rw [e0], rfl⟩ (hlow := F6 _); exfalso; apply e0; simp_all [Bt]; done)
 refine Z16 ?_;refine B8 ?_;refine Z81 ?_;refine R.call Tryz.call148 (rt e.text _) ?_;refine Z5 ?_
 first | (by_cases e0 : Bt e.op e.text = ⟨[1], 1⟩; exact K.fin (V.one (V.cellN Tryz.isAgg148 Tryz.sizeOf148)) ⟨by rw [e0]; rfl, rfl⟩; exfalso; apply e0; simp_all [Bt]; done) | (by_cases e0 : Bt e.op e.text = ⟨[3], 3⟩; exact K.fin (V.one (V.cellN Tryz.isAgg148 Tryz.sizeOf148)) ⟨by rw [e0]; rfl, rfl⟩; exfalso; apply e0; simp_all [Bt]; done) | (by_cases e0 : Bt e.op e.text = A2 e.text; exact K.fin (V.one (V.cellN Tryz.isAgg148 Tryz.sizeOf148)) ⟨by rw [e0], rfl⟩ (hlow := F6 _); exfalso; apply e0; simp_all [Bt]; done) | (by_cases e0 : Bt e.op e.text = A3 e.text; exact K.fin (V.one (V.cellN Tryz.isAgg148 Tryz.sizeOf148)) ⟨by rw [e0], rfl⟩ (hlow := F6 _); exfalso; apply e0; simp_all [Bt]; done)

theorem p8 (a b : Int) (Hp : List AObj) : AFun Tryz.prog 149 [A4 a, A4 b] Hp (.tup [A4 (Bx a b).1, Ar (Bx a b).2]) := by
 refine ACall.body [.tmp 4, .tmp 5] [0, 1] Tryz.func149 Tryz.ntmps149 (fun d => ?_)
 refine Q9 ?_;refine R.fin [0, 1] ?_;refine Z75 ?_;refine Z20 ?_;refine R.fin [0, 1, 6] ?_
 refine W.cond (fun ht6 => ?_) (fun ht6 => ?_)
 ·refine Z0 ?_;refine Z7 ?_;refine R.fin [4, 5] ?_;refine Z60 ?_
  first | (by_cases e0 : Bx a b = (b, true); exact K.fin (V.two V.tmp V.tmp) ⟨by rw [e0], rfl⟩; exfalso; apply e0; simp_all [Bx]; done) | (by_cases e0 : Bx a b = (a, true); exact K.fin (V.two V.tmp V.tmp) ⟨by rw [e0], rfl⟩; exfalso; apply e0; simp_all [Bx]; done) | (by_cases e0 : Bx a b = (0, false); exact K.fin (V.two V.tmp V.tmp) ⟨by rw [e0], rfl⟩; exfalso; apply e0; simp_all [Bx]; done)
 refine Z0 ?_;refine R.eql ?_;refine Z93 ?_;refine G.eql ?_;refine Fw ?_;refine Bg ?_;refine R.fin [0, 10] ?_
 refine W.cond (fun ht10 => ?_) (fun ht10 => ?_)
 ·refine Z0 ?_;refine Z7 ?_;refine R.fin [4, 5] ?_;refine Z60 ?_
  first | (by_cases e0 : Bx a b = (b, true); exact K.fin (V.two V.tmp V.tmp) ⟨by rw [e0], rfl⟩; exfalso; apply e0; simp_all [Bx]; done) | (by_cases e0 : Bx a b = (a, true); exact K.fin (V.two V.tmp V.tmp) ⟨by rw [e0], rfl⟩; exfalso; apply e0; simp_all [Bx]; done) | (by_cases e0 : Bx a b = (0, false); exact K.fin (V.two V.tmp V.tmp) ⟨by rw [e0], rfl⟩; exfalso; apply e0; simp_all [Bx]; done)
 refine Z16 ?_;refine Q9 ?_;refine Tt ?_
 first | (by_cases e0 : Bx a b = (b, true); exact K.fin (V.two V.tmp V.tmp) ⟨by rw [e0], rfl⟩; exfalso; apply e0; simp_all [Bx]; done) | (by_cases e0 : Bx a b = (a, true); exact K.fin (V.two V.tmp V.tmp) ⟨by rw [e0], rfl⟩; exfalso; apply e0; simp_all [Bx]; done) | (by_cases e0 : Bx a b = (0, false); exact K.fin (V.two V.tmp V.tmp) ⟨by rw [e0], rfl⟩; exfalso; apply e0; simp_all [Bx]; done)

structure FitAt (s : Sign) (ks : List Int) (x : Nat × Int) : Prop where
 le : x.1 ≤ ks.length
 eq : N5 s.kids ks 0 = N5 (s.kids.drop x.1) (ks.drop x.1) x.2
theorem FitAt.step {s : Sign} {ks : List Int} {x : Nat × Int} (h : FitAt s ks x) (hk : x.1 < ks.length) (hs : x.1 < s.kids.length) : N5 s.kids ks 0 = (if s.kids[x.1] == -2 then N5 (s.kids.drop (x.1 + 1)) (ks.drop (x.1 + 1)) x.2 else if s.kids[x.1] == -1 then (if (Bx x.2 ks[x.1]).2 then N5 (s.kids.drop (x.1 + 1)) (ks.drop (x.1 + 1)) (Bx x.2 ks[x.1]).1 else none) else if (Bx s.kids[x.1] ks[x.1]).2 then N5 (s.kids.drop (x.1 + 1)) (ks.drop (x.1 + 1)) x.2 else none) := by
 rw [h.eq, List.drop_eq_getElem_cons hk, List.drop_eq_getElem_cons hs, N5]
theorem FitAt.skip {s : Sign} {ks : List Int} {x : Nat × Int} (h : FitAt s ks x) (hk : x.1 < ks.length) (hs : x.1 < s.kids.length) (h2 : (s.kids[x.1] == -2) = true) : FitAt s ks (x.1 + 1, x.2) := ⟨hk, by rw [h.step hk hs, if_pos h2]⟩
theorem FitAt.same {s : Sign} {ks : List Int} {x : Nat × Int} (h : FitAt s ks x) (hk : x.1 < ks.length) (hs : x.1 < s.kids.length) (h2 : (s.kids[x.1] == -2) = false) (h1 : (s.kids[x.1] == -1) = true) (hm : (Bx x.2 ks[x.1]).2 = true) : FitAt s ks (x.1 + 1, (Bx x.2 ks[x.1]).1) := ⟨hk, by rw [h.step hk hs, if_neg (by rw [h2]; simp), if_pos h1, if_pos hm]⟩
theorem FitAt.want {s : Sign} {ks : List Int} {x : Nat × Int} (h : FitAt s ks x) (hk : x.1 < ks.length) (hs : x.1 < s.kids.length) (h2 : (s.kids[x.1] == -2) = false) (h1 : (s.kids[x.1] == -1) = false) (hm : (Bx s.kids[x.1] ks[x.1]).2 = true) : FitAt s ks (x.1 + 1, x.2) := ⟨hk, by rw [h.step hk hs, if_neg (by rw [h2]; simp), if_neg (by rw [h1]; simp), if_pos hm]⟩
theorem FitAt.bad {s : Sign} {ks : List Int} {x : Nat × Int} (h : FitAt s ks x) (hk : x.1 < ks.length) (hs : x.1 < s.kids.length) (h2 : (s.kids[x.1] == -2) = false) (hm : (if s.kids[x.1] == -1 then (Bx x.2 ks[x.1]).2 else (Bx s.kids[x.1] ks[x.1]).2) = false) : Sc s ks = (0, 10) := by
 unfold Sc
 rw [h.step hk hs, if_neg (by rw [h2]; simp)]
 split at hm
 ·rename_i h1
  rw [if_pos h1, if_neg (by rw [hm]; simp)]
 rename_i h1
 rw [if_neg h1, if_neg (by rw [hm]; simp)]
theorem FitAt.out {s : Sign} {ks : List Int} {x : Nat × Int} (h : FitAt s ks x) (hk : ks.length ≤ x.1) : Sc s ks = if s.own == -1 then (x.2, 0) else (s.own, 0) := by
 unfold Sc
 rw [h.eq, List.drop_of_length_le hk]
 cases s.kids.drop x.1 <;> rfl
theorem rx (s : Sign) (ks : List Int) (hks : ks.length ≤ s.kids.length) (hk2 : ks.length ≤ 1048576) (Hp : List AObj) : AFun Tryz.prog 117 [Sq s, .slice false 1 (ks.map A4)] Hp (.tup [A4 (Sc s ks).1, A4 (Sc s ks).2]) := by
 refine ACall.body [.tmp 4, .tmp 5] [0, 1] Tryz.func117 Tryz.ntmps117 (fun d => ?_)
 refine Z32 ?_;refine Z7 ?_;refine R.fin [1, 2] ?_;refine B8 ?_;refine Z10 ?_;refine R.fin [1, 2, 6] ?_;refine Q8 ?_;refine Xu ?_
 refine AW.loopC (α := Nat × Int) (fun x => ⟨49, A5 2 (.ro [.slice false 1 (s.kids.map A4), A4 s.own]) (A5 6 (.ptr (oid Hp.length 0) 0) (A5 13 (.slice false 1 (ks.map A4)) (A5 14 (A4 (ks.length : Nat)) (A5 15 (A4 (x.1 : Nat)) (fun _ => .any))))), Hp, [.cells 3 [A4 x.2]], [], none⟩) (fun x => FitAt s ks x) (fun x => ks.length - x.1) ((0, 0)) ⟨Nat.zero_le _, rfl⟩ (StLe.of_eq (by simp)) rfl (fun x hx => ?_)
 refine Z59 ?_;refine R.fin [2, 6, 13, 14, 15, 16] ?_
 refine W.condX (fun ht16 => ?_) (fun ht16 => ?_)
 ·have hlt : x.1 < ks.length := by simpa using ht16
  have hls : x.1 < s.kids.length := by omega
  refine Z75 ?_;refine R.indexAddr (x.1) (A4 ks[x.1]) jU jS (By hlt) ?_;refine Di ?_;refine Z7 ?_;refine R.fin [2, 6, 7, 8, 13, 14, 15] ?_;refine B8 ?_;refine R.fieldAddrRo (off := 0) jU Tryz.sizeOf146 ?_;refine Di ?_;refine Av ?_;refine R.indexAddr (x.1) (A4 s.kids[x.1]) jU jS (By hls) ?_;refine Di ?_;refine Z10 ?_;refine R.fin [2, 6, 8, 9, 13, 14, 15] ?_;refine Z15 ?_;refine Fb ?_;refine R.eql ?_;refine R.fin [2, 6, 8, 9, 13, 14, 15, 26] ?_
  refine W.cond (fun ht26 => ?_) (fun ht26 => ?_)
  ·refine W.keep [2, 6, 13, 14, 15] ?_;refine Z58 ?_;refine K.blE ?_;refine K.thN ?_;refine Z57 ?_;refine Xu ?_
   first | (refine K.lpN (x.1 + 1, x.2) (hx.skip hlt hls ht26) (by show ks.length - (x.1 + 1) < ks.length - x.1; omega) ?_; exact StCut.take (own := [.cells 3 [A4 x.2]]) (fun _ => .refl _) (by repeat (first | exact B5 | refine B4 (by first | (simp [or_imp, forall_and]; done) | (simp [oid] <;> omega)) ?_)) (by intro y hy; rw [List.mem_singleton.1 hy]; intro z hz; rw [List.mem_singleton.1 hz]; simp) (by simp)) | (refine K.lpN (x.1 + 1, (Bx x.2 ks[x.1]).1) (hx.same hlt hls ht26 ht28 (by simpa using ht38)) (by show ks.length - (x.1 + 1) < ks.length - x.1; omega) ?_; exact StCut.take (own := [.cells 3 [A4 (Bx x.2 ks[x.1]).1]]) (fun _ => .refl _) (by repeat (first | exact B5 | refine B4 (by first | (simp [or_imp, forall_and]; done) | (simp [oid] <;> omega)) ?_)) (by intro y hy; rw [List.mem_singleton.1 hy]; intro z hz; rw [List.mem_singleton.1 hz]; simp) (by simp)) | (refine K.lpN (x.1 + 1, x.2) (hx.want hlt hls ht26 ht28 (by simpa using ht38)) (by show ks.length - (x.1 + 1) < ks.length - x.1; omega) ?_; exact StCut.take (own := [.cells 3 [A4 x.2]]) (fun _ => .refl _) (by repeat (first | exact B5 | refine B4 (by first | (simp [or_imp, forall_and]; done) | (simp [oid] <;> omega)) ?_)) (by intro y hy; rw [List.mem_singleton.1 hy]; intro z hz; rw [List.mem_singleton.1 hz]; simp) (by simp))
  refine Z6 ?_;refine Z3 ?_;refine R.fin [2, 6, 8, 9, 10, 13, 14, 15] ?_;refine Z15 ?_;refine Fb ?_;refine R.eql ?_;refine R.fin [2, 6, 8, 10, 13, 14, 15, 28] ?_
  refine W.cond (fun ht28 => ?_) (fun ht28 => ?_)
  ·refine am ?_;refine R.fin [2, 6, 8, 10, 13, 14, 15] ?_;refine K.thN ?_;refine Z0 ?_;refine R.nilPtr ?_;refine al ?_;refine R.call Tryz.call149 (p8 _ _ _) ?_;refine Z94 ?_;refine R.fin [2, 6, 10, 11, 12, 13, 14, 15] ?_;refine Z11 ?_;refine R.not ?_;refine R.fin [2, 6, 10, 11, 13, 14, 15, 38] ?_
   refine W.cond (fun ht38 => ?_) (fun ht38 => ?_)
   ·have hbad := hx.bad hlt hls ht26 (by first | (rw [if_pos ht28]; simpa using ht38) | (rw [if_neg (by rw [ht28]; simp)]; simpa using ht38))
    refine Q9 ?_;refine Z70 ?_;exact na
   refine Ty ?_;refine Av ?_;refine R.nilPtr ?_;refine E3 ?_;refine Xu ?_;refine Z9 ?_;refine Z57 ?_;refine Xu ?_
   first | (refine K.lpN (x.1 + 1, x.2) (hx.skip hlt hls ht26) (by show ks.length - (x.1 + 1) < ks.length - x.1; omega) ?_; exact StCut.take (own := [.cells 3 [A4 x.2]]) (fun _ => .refl _) (by repeat (first | exact B5 | refine B4 (by first | (simp [or_imp, forall_and]; done) | (simp [oid] <;> omega)) ?_)) (by intro y hy; rw [List.mem_singleton.1 hy]; intro z hz; rw [List.mem_singleton.1 hz]; simp) (by simp)) | (refine K.lpN (x.1 + 1, (Bx x.2 ks[x.1]).1) (hx.same hlt hls ht26 ht28 (by simpa using ht38)) (by show ks.length - (x.1 + 1) < ks.length - x.1; omega) ?_; exact StCut.take (own := [.cells 3 [A4 (Bx x.2 ks[x.1]).1]]) (fun _ => .refl _) (by repeat (first | exact B5 | refine B4 (by first | (simp [or_imp, forall_and]; done) | (simp [oid] <;> omega)) ?_)) (by intro y hy; rw [List.mem_singleton.1 hy]; intro z hz; rw [List.mem_singleton.1 hz]; simp) (by simp)) | (refine K.lpN (x.1 + 1, x.2) (hx.want hlt hls ht26 ht28 (by simpa using ht38)) (by show ks.length - (x.1 + 1) < ks.length - x.1; omega) ?_; exact StCut.take (own := [.cells 3 [A4 x.2]]) (fun _ => .refl _) (by repeat (first | exact B5 | refine B4 (by first | (simp [or_imp, forall_and]; done) | (simp [oid] <;> omega)) ?_)) (by intro y hy; rw [List.mem_singleton.1 hy]; intro z hz; rw [List.mem_singleton.1 hz]; simp) (by simp))
  refine Ka ?_;refine R.nilPtr ?_;refine al ?_;refine R.call Tryz.call149 (p8 _ _ _) ?_;refine Z94 ?_;refine R.fin [2, 6, 10, 11, 12, 13, 14, 15] ?_;refine Z11 ?_;refine R.not ?_;refine R.fin [2, 6, 10, 11, 13, 14, 15, 38] ?_
  refine W.cond (fun ht38 => ?_) (fun ht38 => ?_)
  ·have hbad := hx.bad hlt hls ht26 (by first | (rw [if_pos ht28]; simpa using ht38) | (rw [if_neg (by rw [ht28]; simp)]; simpa using ht38))
   refine Q9 ?_;refine Z70 ?_;exact na
  refine Ty ?_;refine Av ?_;refine R.nilPtr ?_;refine E3 ?_;refine Xu ?_;refine Z9 ?_;refine Z57 ?_;refine Xu ?_
  first | (refine K.lpN (x.1 + 1, x.2) (hx.skip hlt hls ht26) (by show ks.length - (x.1 + 1) < ks.length - x.1; omega) ?_; exact StCut.take (own := [.cells 3 [A4 x.2]]) (fun _ => .refl _) (by repeat (first | exact B5 | refine B4 (by first | (simp [or_imp, forall_and]; done) | (simp [oid] <;> omega)) ?_)) (by intro y hy; rw [List.mem_singleton.1 hy]; intro z hz; rw [List.mem_singleton.1 hz]; simp) (by simp)) | (refine K.lpN (x.1 + 1, (Bx x.2 ks[x.1]).1) (hx.same hlt hls ht26 ht28 (by simpa using ht38)) (by show ks.length - (x.1 + 1) < ks.length - x.1; omega) ?_; exact StCut.take (own := [.cells 3 [A4 (Bx x.2 ks[x.1]).1]]) (fun _ => .refl _) (by repeat (first | exact B5 | refine B4 (by first | (simp [or_imp, forall_and]; done) | (simp [oid] <;> omega)) ?_)) (by intro y hy; rw [List.mem_singleton.1 hy]; intro z hz; rw [List.mem_singleton.1 hz]; simp) (by simp)) | (refine K.lpN (x.1 + 1, x.2) (hx.want hlt hls ht26 ht28 (by simpa using ht38)) (by show ks.length - (x.1 + 1) < ks.length - x.1; omega) ?_; exact StCut.take (own := [.cells 3 [A4 x.2]]) (fun _ => .refl _) (by repeat (first | exact B5 | refine B4 (by first | (simp [or_imp, forall_and]; done) | (simp [oid] <;> omega)) ?_)) (by intro y hy; rw [List.mem_singleton.1 hy]; intro z hz; rw [List.mem_singleton.1 hz]; simp) (by simp))
 have hxe : ks.length ≤ x.1 := by simpa using ht16
 have hout := hx.out hxe
 refine Z36 ?_;refine Z15 ?_;refine eu ?_;refine R.eql ?_;refine R.fin [2, 6, 45] ?_
 refine W.cond (fun ht45 => ?_) (fun ht45 => ?_)
 ·refine Z47 ?_;refine Z7 ?_;refine Z70 ?_;exact K.fin (V.two V.tmp V.tmp) ⟨by rw [hout, if_pos ht45], rfl⟩
 refine Qa ?_;refine eu ?_;refine Z7 ?_;refine Tt ?_;exact K.fin (V.two V.tmp V.tmp) ⟨by rw [hout, if_neg (by rw [ht45]; simp)], rfl⟩

theorem cz {n k : Nat} {own : Bool} {l : List Int} : Low n (.slice own k (l.map A4)) := low_slice.2 fun y hy => by
 obtain ⟨z, _, rfl⟩ := List.mem_map.1 hy
 simp
theorem iu {n : Nat} {e : Expr} : Low n (.ro (Db e)) := by have := Ae n e; rw [Ac] at this; simpa using this
theorem Jt {c : List Col} {t : Str} (h : ¬ (Be t c < 0)) : ∃ (j : Nat), Be t c = (j : Int) ∧ j < c.length := by
 obtain ⟨j, y, h2, _, h3⟩ := find_mem.1 h
 exact ⟨j, h3, (List.getElem?_eq_some_iff.1 h2).1⟩
theorem d9 {c : List Col} {e : Expr} (h : (e.op == 1) = true) : Dc c e = (e.val.kind, 0) := by rw [Jq]; unfold P4; rw [if_pos h]
theorem Yp {c : List Col} {e : Expr} (h1 : (e.op == 1) = false) (h : (e.op == 2) = true) : Dc c e = Sd c e.text := by rw [Jq]; unfold P4; rw [h1, if_pos h]; rfl
theorem da {c : List Col} {e : Expr} (h1 : (e.op == 1) = false) (h2 : (e.op == 2) = false) {x : Nat} (hx : x < e.kids.length) (h0 : ∀ (j : Nat) (y : Expr), j < x → e.kids[j]? = some y → ((Dc c y).2 != 0) = false) (hb : ((Dc c e.kids[x]).2 != 0) = true) : Dc c e = (0, (Dc c e.kids[x]).2) := by
 rw [Jq]
 unfold P4
 rw [h1, h2]
 have : (e.kids.map (Dc c)).find? (fun q => q.2 != 0) = some ((e.kids.map (Dc c))[x]'(by simpa using hx)) := Vk (by simpa using hx) (by simpa using hb) (fun j y hj hy => by
  rw [List.getElem?_map, Option.map_eq_some_iff] at hy
  obtain ⟨z, hz, rfl⟩ := hy
  exact h0 j z hj hz)
 rw [this]
 simp
theorem db {c : List Col} {e : Expr} (h1 : (e.op == 1) = false) (h2 : (e.op == 2) = false) (h0 : ∀ (j : Nat) (y : Expr), j < e.kids.length → e.kids[j]? = some y → ((Dc c y).2 != 0) = false) : Dc c e = Sc (Bt e.op e.text) (e.kids.map fun y => (Dc c y).1) := by
 rw [Jq]
 unfold P4
 rw [h1, h2]
 have : (e.kids.map (Dc c)).find? (fun q => q.2 != 0) = none := Om (fun j y hy => by
  rw [List.getElem?_map, Option.map_eq_some_iff] at hy
  obtain ⟨z, hz, rfl⟩ := hy
  exact h0 j z (List.getElem?_eq_some_iff.1 hz).1 hz)
 rw [this]
 simp only [List.map_map]
 rfl
theorem Yq (f : Expr → Int) (l : List Expr) {x : Nat} (h : x < l.length) : ((l.take x).map f).map A4 ++ [A4 (f l[x])] = ((l.take (x + 1)).map f).map A4 := by rw [List.take_succ_eq_append_getElem h, List.map_append, List.map_append]; rfl
theorem c85 (c : List Col) (hc : OkCols c) : ∀ (n : Nat) (e : Expr), okE n e → Gw Gb e = true → ∀ Hp : List AObj, AFun Tryz.prog 85 [A7 e, Af c] Hp (.tup [A4 (Dc c e).1, A4 (Dc c e).2]) := by
 intro n
 induction n with
 | zero => exact fun e h => h.elim
 | succ n ih =>
 intro e hok hnd Hp
 have hnd0 := hnd
 rw [Vs, Bool.and_eq_true] at hnd0
 refine ACall.body [.tmp 4, .tmp 5] [0, 1] Tryz.func85 Tryz.ntmps85 (fun d => ?_)
 refine Z32 ?_;refine Z7 ?_;refine R.fin [1, 2] ?_;refine Tx ?_;refine R.fin [1, 2, 13] ?_;refine Rk ?_;refine R.fin [1, 2, 13, 14] ?_
 refine W.cond (fun ht14 => ?_) (fun ht14 => ?_)
 ·have hk := d9 (c := c) ht14
  refine kt ?_;refine Z26 ?_;refine Z7 ?_;refine R.fin [4, 5] ?_;refine Z60 ?_;exact l6
 refine Z37 ?_;refine R.fin [1, 2, 19] ?_
 refine W.cond (fun ht19 => ?_) (fun ht19 => ?_)
 ·have hk := Yp (c := c) ht14 ht19
  refine Z0 ?_;refine Z81 ?_;refine R.call Tryz.call59 (c59 c hc e.text _) ?_;refine Bg ?_;refine R.fin [1, 6] ?_;refine Xp ?_;refine R.fin [1, 6, 26] ?_
  refine W.cond (fun ht26 => ?_) (fun ht26 => ?_)
  ·have hk2 : Sd c e.text = (0, 9) := if_pos (by simpa using ht26)
   refine Q9 ?_;refine Z70 ?_;refine Z4 ?_;exact nt
  have hneg : ¬ (Be e.text c < 0) := by simpa using ht26
  obtain ⟨j, hj, hjl⟩ := Jt hneg
  have hk2 : Sd c e.text = (c[j].kind, 0) := by
   unfold Sd
   rw [if_neg hneg, hj, Int.toNat_natCast, List.getD_eq_getElem?_getD, List.getElem?_eq_getElem hjl]
   rfl
  rw [hj]
  refine U0 ?_;refine R.indexAddr (j) (Aq c[j]) jU jS (By hjl) ?_;refine eu ?_;refine Z7 ?_;refine R.fin [4, 5] ?_;refine Z60 ?_;exact nt
 refine Z16 ?_;refine Z3 ?_;refine R.fin [1, 2, 7] ?_;refine Z15 ?_;refine R.nilSl 7 1 ?_;refine kj ?_;refine Z45 ?_;refine R.fin [1, 2, 7, 33, 34, 35] ?_
 refine AW.loopC (α := Nat) (fun x => ⟨59, A5 1 (Af c) (A5 2 (.ro (Db e)) (A5 7 (.slice true 1 (((e.kids.take x).map fun y => (Dc c y).1).map A4)) (A5 33 (.slice false 6 (e.kids.map A7)) (A5 34 (A4 (e.kids.length : Nat)) (A5 35 (A4 (x : Nat)) (fun _ => .any)))))), Hp, [], [], none⟩) (fun x => x ≤ e.kids.length ∧ ∀ (j : Nat) (y : Expr), j < x → e.kids[j]? = some y → ((Dc c y).2 != 0) = false) (fun x => e.kids.length - x) (0) ⟨Nat.zero_le _, fun j y h => by omega⟩ (StLe.of_eq (by simp)) rfl (fun x hx => ?_)
 refine Z59 ?_;refine R.fin [1, 2, 7, 33, 34, 35, 36] ?_
 refine W.condX (fun ht36 => ?_) (fun ht36 => ?_)
 ·have hlt : x < e.kids.length := by simpa using ht36
  have hkl := hok.2.1
  refine Z73 ?_;refine R.indexAddr (x) (A7 e.kids[x]) jU jS (By hlt) ?_;refine Xf ?_;refine R.fin [1, 2, 7, 9, 33, 34, 35] ?_;refine Z34 ?_;refine Av ?_;refine R.call Tryz.call85 (ih e.kids[x] (hok.2.2 _ (List.getElem_mem hlt)) ((Jl _ _).1 hnd0.2 _ (List.getElem_mem hlt)) _) ?_;refine Z94 ?_;refine R.fin [1, 2, 7, 10, 11, 33, 34, 35] ?_;refine Rl ?_;refine R.fin [1, 2, 7, 10, 11, 33, 34, 35, 46] ?_
  refine W.cond (fun ht46 => ?_) (fun ht46 => ?_)
  ·have hkb := da (c := c) ht14 ht19 hlt hx.2 ht46
   refine Z0 ?_;refine Z7 ?_;refine Z70 ?_;refine Z46 ?_;exact K.fin (V.two V.tmp V.tmp) ⟨by rw [hkb], rfl⟩
  refine ar ?_;refine R.moveT ?_;refine Av ?_;refine Hi ?_
  refine R.append jU Tryz.type3 ?_ ?_ ?_
  ·simp only [List.length_map, List.length_take, List.length_cons, List.length_nil, Tryz.t3]; omega
  ·simp only [List.length_map, List.length_take, List.length_cons, List.length_nil, Tryz.t3]; omega
  refine R.assignT ?_;refine R.fin [1, 2, 7, 33, 34, 35] ?_;refine Z9 ?_;refine Z57 ?_;refine R.fin [1, 2, 7, 33, 34, 35] ?_;refine K.lpN (x + 1) ⟨hlt, Ce hlt hx.2 ht46⟩ (by omega) ?_
  simp only [show Tryz.t3.size = 1 from rfl, Yq]
  exact StCut.take (own := []) (fun _ => .refl _) (by repeat (first | exact B5 | refine B4 (by first | exact cz | exact iu | exact Cs | (simp [or_imp, forall_and]; done)) ?_)) (by simp) (by simp)
 have hxe : e.kids.take x = e.kids := List.take_of_length_le (by simp at ht36; omega)
 have hxl : e.kids.length ≤ x := by simp at ht36; omega
 have hka := db (c := c) ht14 ht19 (fun j y hj hy => hx.2 j y (by omega) hy)
 rw [hxe]
 refine Z36 ?_;refine Z86 ?_;refine R.call Tryz.call116 (ru e _) ?_;refine Av ?_
 refine R.call Tryz.call117 (rx (Bt e.op e.text) (e.kids.map fun y => (Dc c y).1) (by rw [cp hnd0.1 ht14 ht19]; simp) (by simpa using hok.2.1) _) ?_
 refine Z17 ?_;refine Z7 ?_;refine Tt ?_;exact K.fin (V.two V.tmp V.tmp) ⟨by rw [hka], rfl⟩

theorem Sr {e : Expr} (h : Ay e = true) : Gw Gb e = true := by
 rw [Qo] at h
 unfold Kn at h
 rw [Bool.and_eq_true] at h
 exact h.2
theorem c60 (n : Nat) (e : Expr) (hok : okE n e) (hn : n ≤ 1048576) (c : List Col) (hc : OkCols c) (Hp : List AObj) : AFun Tryz.prog 60 [A7 e, Af c] Hp (.tup [A4 (I3 e c).1, A4 (I3 e c).2]) := by
 refine ACall.body [.tmp 4, .tmp 5] [0, 1] Tryz.func60 Tryz.ntmps60 (fun d => ?_)
 refine Z32 ?_;refine Z7 ?_;refine R.fin [1, 2] ?_;refine Z15 ?_;refine Gf ?_;refine R.call Tryz.call44 (c44 n e hok hn _) ?_;refine Xn ?_;refine G.call Tryz.call41 (fun hB => c41 c hc _) ?_;refine G.not ?_;refine Fw ?_;refine R.fin [1, 2, 13] ?_
 refine W.cond (fun ht13 => ?_) (fun ht13 => ?_)
 ·have hk : I3 e c = (0, 1) := if_pos ht13
  refine Q9 ?_;refine Z70 ?_;exact l6
 have hk : I3 e c = Dc c e := if_neg (by rw [ht13]; simp)
 have hr : Ay e = true := by simp only [Bool.or_eq_false_iff, Bool.not_eq_false'] at ht13; exact ht13.1
 refine Z6 ?_;refine Z86 ?_;refine Av ?_;refine R.call Tryz.call85 (c85 c hc n e hok (Sr hr) _) ?_;refine Z17 ?_;refine Z7 ?_;refine Tt ?_;exact l6

theorem E2 {n k : Nat} {o : Bool} {l : List Col} : Low n (.slice o k (l.map Aq)) := by simp [or_imp, forall_and]
theorem c95 (c : List Col) (hc : OkCols c) (take : List Str) (ht : take.length ≤ 1048576) (give : List Col) (hg : OkCols give) (hg2 : give.length ≤ 1000000) (Hp : List AObj) : AFun Tryz.prog 95 [Af c, E8 take, Af give] Hp (.tup [Af (C1 c take give).1, A4 (C1 c take give).2]) := by
 refine ACall.body [.tmp 6, .tmp 7] [0, 1, 2, 9] Tryz.func95 Tryz.ntmps95 (fun d => ?_)
 refine Q9 ?_;refine R.fin [0, 1, 2, 9] ?_;refine Z11 ?_;refine R.call Tryz.call19 (c19 c hc _) ?_;refine R.not ?_;refine R.fin [0, 1, 2, 9, 12] ?_
 refine W.cond (fun ht12 => ?_) (fun ht12 => ?_)
 ·have hr : C4 c = false := by rw [Mr] at ht12; simpa using ht12
  refine Z3 ?_;refine an ?_;refine Z24 ?_;exact K.fin (V.two V.tmp V.tmp) ⟨by rw [cg hr]; try rfl, rfl⟩
 have hr : C4 c = true := by rw [Mr] at ht12; simpa using ht12
 refine Z6 ?_;refine Z96 ?_;refine R.call Tryz.call131 (ra c hc take ht _) ?_;refine R.not ?_;refine R.fin [0, 1, 2, 9, 16] ?_
 refine W.cond (fun ht16 => ?_) (fun ht16 => ?_)
 ·have hk : Eb c take = false := by simpa using ht16
  refine Z3 ?_;refine an ?_;refine Z24 ?_;exact K.fin (V.two V.tmp V.tmp) ⟨by rw [cj hr hk]; try rfl, rfl⟩
 have hk : Eb c take = true := by simpa using ht16
 refine Z6 ?_;refine Z21 ?_;refine R.fin [0, 1, 2, 8, 9] ?_;refine Z15 ?_;refine R.nilOwn 0 2 ?_
 refine R.assumeLow (fun hlow => ?_)
 refine Z53 ?_;refine R.call Tryz.call132 (rc c take _) ?_;refine R.fin [2, 8, 9, 19] ?_;refine Fc ?_
 refine W.rangeV (m := 1) Tryz.call165 (fun FR as' bd' hFR has hbd => ?_)
 have hFRl : ∀ s, Low (Hp.length + 3) (FR s) := by
  intro s
  rw [hFR]
  refine Low.strip ?_
  revert s
  repeat (first | exact B5 | refine B4 (by simp [oid, or_imp, forall_and] <;> try omega) ?_)
 have hOl : ∀ {k : Nat}, ∀ x ∈ [AObj.cells 22 [.slice true 2 ((Cb (c.take k) take).map Aq)], AObj.defs, AObj.loop LoopState.ready none FR 41 #[20] as' bd' (oid Hp.length 1)], ObjLow (Hp.length + 3) x := by
  intro k x hx
  simp only [List.mem_cons, List.mem_nil_iff, or_false] at hx
  rcases hx with rfl | rfl | rfl
  ·intro y hy
   rw [List.mem_singleton.1 hy]
   exact E2
  ·trivial
  exact ay
 refine ⟨_, rd (oid Hp.length 2) c take hc.len ht (fun k => Hp ++ [AObj.cells 22 [.slice true 2 ((Cb (c.take k) take).map Aq)], AObj.defs, AObj.loop LoopState.ready none FR 41 #[20] as' bd' (oid Hp.length 1)]) (fun k => by simp) (by simp [oid]) (fun k x hx => ?_) (fun k y hk hcn => by simp only [Ye hk hcn]) (fun k y X hk hcn => ?_), ?_⟩
 ·have := H8 (fun x hx => ObjLow.le (by omega) (hlow x hx)) hOl x hx
  simpa using this
 ·generalize hV : Hp ++ [AObj.cells 22 [.slice true 2 ((Cb (c.take k) take).map Aq)], AObj.defs, AObj.loop LoopState.ready none FR 41 #[20] as' bd' (oid Hp.length 1)] ++ X = V
  have hL : V[oid Hp.length 2]? = some (AObj.loop LoopState.ready none FR 41 #[20] as' bd' (oid Hp.length 1)) := by rw [← hV, List.append_assoc, Ak]; rfl
  have hA0 : V[oid Hp.length 0]? = some (AObj.cells 22 [.slice true 2 ((Cb (c.take k) take).map Aq)]) := by rw [← hV, List.append_assoc, Ak]; rfl
  refine AYield.ofRound (pd := none) (fr := FR) (sz := 41) (ps := #[20]) (df := oid Hp.length 1) (asg := as') (bd := bd') hL rfl (by decide) (fun d => ?_)
  subst hFR has hbd
  refine W.keep [8, 20] ?_;refine Hh ?_;refine Z10 ?_;refine R.fin [8, 9] ?_
  refine ⟨rfl, none, hL, ?_⟩
  generalize hbz : (AObj.loop LoopState.busy _ _ _ _ _ _ _) = bz
  have hA : (V.set (oid Hp.length 2) bz)[oid Hp.length 0]? = some (AObj.cells 22 [.slice true 2 ((Cb (c.take k) take).map Aq)]) := by rw [List.getElem?_set_ne (oid_ne (by decide))]; exact hA0
  refine Fc ?_;refine Hh ?_;refine R.loadUpT jA hA ?_;refine Qb ?_;refine Hi ?_
  refine R.append jU Tryz.type58 ?_ ?_ ?_
  ·have h1 := I2 (c.take k) take; have h2 := hc.len; simp only [List.length_take] at h1; simp [Tryz.t58]; omega
  ·have h1 := I2 (c.take k) take; have h2 := hc.len; simp only [List.length_take] at h1; simp [Tryz.t58]; omega
  refine R.storeUpT jS (getset hA) ?_ ?_
  ·exact Yd
  refine Z74 ?_
  subst hbz
  refine l4 ?_
  refine ⟨rfl, ?_⟩
  subst hV
  simp only [List.append_assoc, D0, List.cons_append, List.nil_append, List.set_cons_succ, List.set_cons_zero]
  rw [i8 hk hcn, List.map_append]
  rfl
 rintro r H' rfl
 simp only [List.take_length]
 refine ⟨Hp, _, _, _, rfl, rfl, fun h => h, ?_, rfl, by simp, ?_⟩
 ·intro o ho
  have : o = oid Hp.length 1 := by simpa using ho
  subst this
  rw [Ak]
  rfl
 refine Z9 ?_;refine B8 ?_;refine R.loadOwnT jA ?_;refine Av ?_
 refine R.append jU Tryz.type58 ?_ ?_ ?_
 ·have h1 := I2 c take; have h2 := Kr hr; simp [Tryz.t58]; omega
 ·have h1 := I2 c take; have h2 := Kr hr; simp [Tryz.t58]; omega
 refine R.storeOwnT jS ?_;refine R.fin [8] ?_;refine Z73 ?_
 have e10 : (Cb c take).map Aq ++ give.map Aq = (Cb c take ++ give).map Aq := (List.map_append ..).symm
 rw [e10]
 generalize hout : Cb c take ++ give = out
 have ho : OkCols out := co hc hr hg hg2 hout
 refine Fb ?_;refine R.call Tryz.call133 (rb out ho _) ?_;refine R.not ?_;refine Bg ?_;refine R.fin [8, 28] ?_
 refine W.cond (fun ht28 => ?_) (fun ht28 => ?_)
 ·have hn : Fz out = false := by simpa using ht28
  refine Z3 ?_;refine an ?_;refine Z60 ?_;exact K.fin (V.two V.tmp V.tmp) ⟨by rw [ck hr hk hout hn]; try rfl, rfl⟩
 have hn : Fz out = true := by simpa using ht28
 refine Z47 ?_;refine R.call Tryz.call41 (c41 out ho _) ?_;refine R.not ?_;refine Bg ?_;refine R.fin [8, 32] ?_
 refine W.cond (fun ht32 => ?_) (fun ht32 => ?_)
 ·have hq : Hv out = false := by rw [Qn] at ht32; simpa using ht32
  refine Z3 ?_;refine an ?_;refine Z60 ?_;exact K.fin (V.two V.tmp V.tmp) ⟨by rw [cl hr hk hout hn hq]; try rfl, rfl⟩
 have hq : Hv out = true := by rw [Qn] at ht32; simpa using ht32
 refine Z47 ?_;refine mt ?_;refine Bg ?_;refine R.fin [8, 36] ?_
 refine W.cond (fun ht36 => ?_) (fun ht36 => ?_)
 ·have h12 : 12 < out.length := by simp at ht36; omega
  refine Z3 ?_;refine an ?_;refine Z60 ?_;exact K.fin (V.two V.tmp V.tmp) ⟨by rw [cm hr hk hout hn hq h12]; try rfl, rfl⟩
 have h12 : ¬ 12 < out.length := by simp at ht36; omega
 refine Z16 ?_;refine Z47 ?_;refine Z7 ?_;refine R.fin [6, 7] ?_;refine AW.ret ?_;exact K.fin (V.two V.tmp V.tmp) ⟨by rw [cn hr hk hout hn hq h12]; try rfl, rfl⟩

theorem c6u (c : List Col) (Hp : List AObj) : AFun Tryz.prog 9 [Af c] Hp (Ar (E1 c)) := by
 refine ACall.body [.tmp 2] [0] Tryz.func9 Tryz.ntmps9 (fun d => ?_)
 refine Z54 ?_;refine Xq ?_;refine R.fin [0, 6] ?_
 refine W.cond (fun ht6 => ?_) (fun ht6 => ?_)
 ·rw [List.length_map] at ht6
  have hm : E1 c = true := by unfold E1; rw [ht6]; rfl
  refine Z44 ?_;exact ke
 rw [List.length_map] at ht6
 have hl50 : c.length ≤ 50 := by simp at ht6; omega
 refine Z6 ?_;refine ap ?_
 refine AW.loopC (α := Nat) (fun x => ⟨20, A5 0 (Af c) (A5 3 (A4 (x : Nat)) (fun _ => .any)), Hp, [], [], none⟩) (fun x => x ≤ c.length ∧ ∀ (j : Nat) (v : Col), j < x → c[j]? = some v → decide ((100 : Int) < (v.name.length : Int)) = false) (fun x => c.length - x) (0) ⟨Nat.zero_le _, fun j v h => by omega⟩ (StLe.of_eq (by simp)) rfl (fun x hx => ?_)
 refine Z96 ?_;refine Ri ?_;refine R.fin [0, 3, 10] ?_
 refine W.cond (fun ht10 => ?_) (fun ht10 => ?_)
 ·have hlt : x < c.length := by simpa using ht10
  refine Z6 ?_;refine Z22 ?_;refine Z27 ?_;refine l5 ?_;refine kn ?_;refine Xh ?_;refine R.fin [0, 3, 19] ?_
  refine W.cond (fun ht19 => ?_) (fun ht19 => ?_)
  ·have hm : E1 c = true := by unfold E1; rw [Bool.or_eq_true]; exact .inr (List.any_eq_true.2 ⟨c[x], List.getElem_mem hlt, ht19⟩)
   refine Z44 ?_;exact Z55
  refine Z16 ?_;refine Z31 ?_;refine R.add64 (h1 := by omega) (h2 := by omega) ?_;refine ff ?_;refine K.lpN (x + 1) ⟨hlt, Ce hlt hx.2 ht19⟩ (by omega) ?_;exact StCut.of_eq (by simp)
 have hxe : c.length ≤ x := by simpa using ht10
 have hm : E1 c = false := by
  unfold E1
  rw [ht6, Bool.false_or, List.any_eq_false]
  intro v hv
  obtain ⟨j, hj⟩ := List.getElem?_of_mem hv
  have := hx.2 j v (by have := (List.getElem?_eq_some_iff.1 hj).1; omega) hj
  rw [this]
  simp
 refine K9 ?_;exact nj

/-- law18.Wide. -/
def G5 (m : Mov) : Bool := (((((E1 m.give || decide ((20 : Int) < (m.take.length : Int))) || decide ((20 : Int) < (m.ahead.length : Int))) || decide ((20 : Int) < (m.back.length : Int))) || m.take.any fun s => decide ((100 : Int) < (s.length : Int))) || m.ahead.any N4) || m.back.any N4
def Dn (l : List Mov) : Bool := decide ((12 : Int) < (l.length : Int)) || l.any G5
theorem Gx {α : Type} {p : α → Bool} {l : List α} {x : Nat} (h : l.length ≤ x) (hp : ∀ (j : Nat) (v : α), j < x → l[j]? = some v → p v = false) : l.any p = false := by
 rw [List.any_eq_false]
 intro v hv
 obtain ⟨j, hj⟩ := List.getElem?_of_mem hv
 rw [hp j v (by have := (List.getElem?_eq_some_iff.1 hj).1; omega) hj]
 simp
theorem Wb {n : Nat} {m : Mov} : ∀ y ∈ Sp m, Low n y := by
 intro y hy
 simp only [Sp, List.mem_cons, List.mem_nil_iff, or_false] at hy
 rcases hy with rfl | rfl | rfl | rfl | rfl <;> simp [or_imp, forall_and, Ae]
theorem Ss {n : Nat} {m : Mov} : Low n (F5 m) := Go.SX.low_agg.2 Wb
theorem Ju {n k : Nat} {o : Bool} {l : List Mov} : Low n (.slice o k (l.map F5)) := low_slice.2 fun y hy => by
 obtain ⟨m, _, rfl⟩ := List.mem_map.1 hy
 exact Ss
theorem Gc {α : Type} {p : α → Bool} (l : List α) : (l.any fun s => !(p s)) = !(l.all p) := by
 induction l with
 | nil => rfl
 | cons a r ih => rw [List.any_cons, List.all_cons, ih]; cases p a <;> simp
theorem c10 (l : List Mov) (Hp : List AObj) : AFun Tryz.prog 10 [De l] Hp (Ar (Dn l)) := by
 refine ACall.body [.tmp 2] [0] Tryz.func10 Tryz.ntmps10 (fun d => ?_)
 refine Z54 ?_;refine Xq ?_;refine R.fin [0, 10] ?_
 refine W.cond (fun ht10 => ?_) (fun ht10 => ?_)
 ·rw [List.length_map] at ht10
  have hm : Dn l = true := by unfold Dn; rw [ht10]; rfl
  refine Z44 ?_;exact ke
 rw [List.length_map] at ht10
 have hl12 : l.length ≤ 12 := by simp at ht10; omega
 refine Z6 ?_;refine ap ?_
 refine AW.loopC (α := Nat) (fun x => ⟨82, A5 0 (De l) (A5 3 (A4 (x : Nat)) (fun _ => .any)), Hp, [], [], none⟩) (fun x => x ≤ l.length ∧ ∀ (j : Nat) (v : Mov), j < x → l[j]? = some v → G5 v = false) (fun x => l.length - x) (0) ⟨Nat.zero_le _, fun j v h => by omega⟩ (StLe.of_eq (by simp)) rfl (fun x hx => ?_)
 refine Z96 ?_;refine Ri ?_;refine R.fin [0, 3, 14] ?_
 refine W.cond (fun ht14 => ?_) (fun ht14 => ?_)
 ·have hlt : x < l.length := by simpa using ht14
  have hbad : G5 l[x] = true → Dn l = true := fun h => by unfold Dn; rw [Bool.or_eq_true]; exact .inr (List.any_eq_true.2 ⟨l[x], List.getElem_mem hlt, h⟩)
  refine Z6 ?_;refine Z22 ?_;refine Z27 ?_;refine R.indexAddr (x) (F5 l[x]) jU jS (By hlt) ?_;refine Xf ?_;refine R.fin [0, 3, 4] ?_;refine Z15 ?_;refine R.fieldAddrPtr (fo := 2) jU Tryz.sizeOf22 ?_;refine Fb ?_;refine R.call Tryz.call9 (c6u l[x].give _) ?_;refine Av ?_;refine G.fieldAddrPtr (fo := 1) jU Tryz.sizeOf37 ?_;refine fe ?_;refine Z83 ?_;refine Av ?_;refine G.fieldAddrPtr (fo := 3) jU Tryz.sizeOf43 ?_;refine fe ?_;refine Z83 ?_;refine Av ?_;refine G.fieldAddrPtr (fo := 4) jU Tryz.sizeOf43 ?_;refine fe ?_;refine Z83 ?_;refine R.fin [0, 3, 4, 41] ?_
  refine W.cond (fun ht41 => ?_) (fun ht41 => ?_)
  ·simp only [List.length_map] at ht41
   have hm : Dn l = true := hbad (by unfold G5; rw [ht41]; rfl)
   refine Z44 ?_;refine K.thR ?_;exact Z55
  simp only [List.length_map] at ht41
  have hk : l[x].take.length ≤ 20 ∧ l[x].ahead.length ≤ 20 ∧ l[x].back.length ≤ 20 := by simp only [Bool.or_eq_false_iff, decide_eq_false_iff_not] at ht41; omega
  refine Z6 ?_;refine ai ?_;refine R.fin [0, 3, 4, 5] ?_
  refine AW.loopC (α := Nat) (fun a => ⟨82, A5 0 (De l) (A5 3 (A4 (x : Nat)) (A5 4 (.ptr (oid Hp.length 0) 0) (A5 5 (A4 (a : Nat)) (fun _ => .any)))), Hp, [.cells 64 (Sp l[x])], [], none⟩) (fun a => a ≤ l[x].take.length ∧ ∀ (j : Nat) v, j < a → l[x].take[j]? = some v → (fun s : Str => decide ((100 : Int) < (s.length : Int))) v = false) (fun a => l[x].take.length - a) (0) ⟨Nat.zero_le _, fun j v h => by omega⟩ (StLe.of_eq (by simp)) rfl (fun a ha => ?_)
  refine Z11 ?_;refine R.fieldAddrPtr (fo := 1) jU Tryz.sizeOf37 ?_;refine Fb ?_;refine Ri ?_;refine R.fin [0, 3, 4, 5, 46] ?_
  refine W.cond (fun ht46 => ?_) (fun ht46 => ?_)
  ·have ha1 : a < l[x].take.length := by simpa using ht46
   refine Z6 ?_;refine Z73 ?_;refine R.fieldAddrPtr (fo := 1) jU Tryz.sizeOf37 ?_;refine al ?_;refine R.indexAddr (a) (Aa l[x].take[a]) jU jS (By ha1) ?_;refine Di ?_;refine Xh ?_;refine R.fin [0, 3, 4, 5, 55] ?_
   refine W.cond (fun ht55 => ?_) (fun ht55 => ?_)
   ·have hm : Dn l = true := hbad (by unfold G5; rw [ht41, List.any_eq_true.2 ⟨_, List.getElem_mem ha1, ht55⟩]; rfl)
    refine Xo ?_;exact Z55
   refine Tw ?_;refine R.fin [0, 3, 4, 5] ?_;exact K.lpN (a + 1) ⟨ha1, Ce ha1 ha.2 ht55⟩ (by omega) (StCut.of_eq rfl)
  have hae : l[x].take.length ≤ a := by simpa using ht46
  have e1 := Gx hae ha.2
  refine K9 ?_;refine ai ?_;refine R.fin [0, 3, 4, 6] ?_
  refine AW.loopC (α := Nat) (fun b => ⟨82, A5 0 (De l) (A5 3 (A4 (x : Nat)) (A5 4 (.ptr (oid Hp.length 0) 0) (A5 6 (A4 (b : Nat)) (fun _ => .any)))), Hp, [.cells 64 (Sp l[x])], [], none⟩) (fun b => b ≤ l[x].ahead.length ∧ ∀ (j : Nat) v, j < b → l[x].ahead[j]? = some v → N4 v = false) (fun b => l[x].ahead.length - b) (0) ⟨Nat.zero_le _, fun j v h => by omega⟩ (StLe.of_eq (by simp)) rfl (fun b hb => ?_)
  refine Z11 ?_;refine fw ?_;refine Fb ?_;refine Ri ?_;refine R.fin [0, 3, 4, 6, 60] ?_
  refine W.cond (fun ht60 => ?_) (fun ht60 => ?_)
  ·have hb1 : b < l[x].ahead.length := by simpa using ht60
   refine Z6 ?_;refine Z73 ?_;refine fw ?_;refine al ?_;refine R.indexAddr (b) (A7 l[x].ahead[b]) jU jS (By hb1) ?_;refine Gf ?_;refine R.call Tryz.call21 (c21 l[x].ahead[b] _) ?_;refine R.fin [0, 3, 4, 6, 68] ?_
   refine W.cond (fun ht68 => ?_) (fun ht68 => ?_)
   ·have hm : Dn l = true := hbad (by unfold G5; rw [List.any_eq_true.2 ⟨_, List.getElem_mem hb1, ht68⟩]; simp)
    refine Xo ?_;exact Z55
   refine Tw ?_;refine R.fin [0, 3, 4, 6] ?_;exact K.lpN (b + 1) ⟨hb1, Ce hb1 hb.2 ht68⟩ (by omega) (StCut.of_eq rfl)
  have hbe : l[x].ahead.length ≤ b := by simpa using ht60
  have e2 := Gx hbe hb.2
  refine K9 ?_;refine Z3 ?_;refine R.fin [0, 3, 4, 7] ?_
  refine AW.loopC (α := Nat) (fun e => ⟨82, A5 0 (De l) (A5 3 (A4 (x : Nat)) (A5 4 (.ptr (oid Hp.length 0) 0) (A5 7 (A4 (e : Nat)) (fun _ => .any)))), Hp, [.cells 64 (Sp l[x])], [], none⟩) (fun e => e ≤ l[x].back.length ∧ ∀ (j : Nat) v, j < e → l[x].back[j]? = some v → N4 v = false) (fun e => l[x].back.length - e) (0) ⟨Nat.zero_le _, fun j v h => by omega⟩ (StLe.of_eq (by simp)) rfl (fun e he => ?_)
  refine Z11 ?_;refine R.fieldAddrPtr (fo := 4) jU Tryz.sizeOf43 ?_;refine Fb ?_;refine Ri ?_;refine R.fin [0, 3, 4, 7, 73] ?_
  refine W.cond (fun ht73 => ?_) (fun ht73 => ?_)
  ·have he1 : e < l[x].back.length := by simpa using ht73
   refine Z6 ?_;refine Z73 ?_;refine R.fieldAddrPtr (fo := 4) jU Tryz.sizeOf43 ?_;refine al ?_;refine R.indexAddr (e) (A7 l[x].back[e]) jU jS (By he1) ?_;refine Gf ?_;refine R.call Tryz.call21 (c21 l[x].back[e] _) ?_;refine R.fin [0, 3, 4, 7, 81] ?_
   refine W.cond (fun ht81 => ?_) (fun ht81 => ?_)
   ·have hm : Dn l = true := hbad (by unfold G5; rw [List.any_eq_true.2 ⟨_, List.getElem_mem he1, ht81⟩]; simp)
    refine Z44 ?_;refine Z4 ?_;refine K.lpR ?_;exact Z55
   refine Tw ?_;refine R.fin [0, 3, 4, 7] ?_;exact K.lpN (e + 1) ⟨he1, Ce he1 he.2 ht81⟩ (by omega) (StCut.of_eq rfl)
  have hee : l[x].back.length ≤ e := by simpa using ht73
  have e3 := Gx hee he.2
  have e4 : G5 l[x] = false := by unfold G5; rw [ht41, e1, e2, e3]; rfl
  refine Z58 ?_;refine K.lpE ?_;refine Z9 ?_;refine f7 ?_;refine Kb ?_;refine K.lpN (x + 1) ⟨hlt, Ce hlt hx.2 e4⟩ (by omega) ?_
  exact StCut.take (own := []) (fun _ => .refl _) (by repeat (first | exact B5 | refine B4 (by first | (simp [or_imp, forall_and]; done) | exact Ju | (simp [oid] <;> omega)) ?_)) (by simp) (by simp)
 have hxe : l.length ≤ x := by simpa using ht14
 have hm : Dn l = false := by unfold Dn; rw [ht10, Gx hxe hx.2]; rfl
 refine K9 ?_;exact nj

theorem c32 (n : Nat) (e : Expr) (hok : okE n e) (hn : n ≤ 1048576) (c : List Col) (hc : OkCols c) (w : Int) (Hp : List AObj) : AFun Tryz.prog 32 [A7 e, Af c, A4 w] Hp (Ar (cy e c w)) := by
 refine ACall.body [.tmp 6] [0, 1, 2] Tryz.func32 Tryz.ntmps32 (fun d => ?_)
 refine Z64 ?_;refine R.fin [1, 2, 3] ?_;refine Z86 ?_;refine Av ?_;refine R.call Tryz.call60 (c60 n e hok hn c hc _) ?_;refine Z94 ?_;refine R.fin [2, 7, 8] ?_;refine Z0 ?_;refine R.eql ?_;refine Z93 ?_;refine G.eql ?_;refine G.move ?_;refine G.move ?_;refine G.eql ?_;refine G.pickOr ?_;refine G8 ?_;refine Bg ?_;refine Z71 ?_;exact K.fin (V.one V.tmp) ⟨by unfold cy; rfl, rfl⟩

end Go.SX.Nb
namespace Go.SX
variable [GI : GlobInv]
open Classical
@[simp] theorem ry {n o k m c : Nat} : Low n (.sl o k m c) ↔ o < n := ⟨fun h => by cases h; assumption, fun h => .sl o k m c h⟩
/-- The cells of elements, one behind the other. -/
abbrev Hf (xs : List AV) : List AV := xs.flatMap AV.cells
theorem J7 (x : AV) (r : List AV) : Hf (x :: r) = x.cells ++ Hf r := by simp [Hf]
theorem Ku {k : Nat} : ∀ {xs : List AV}, (∀ x ∈ xs, x.cells.length = k) → (Hf xs).length = xs.length * k
 | [], _ => by simp
 | x :: r, h => by
  rw [J7, List.length_append, h x List.mem_cons_self, Ku (fun y hy => h y (List.mem_cons_of_mem _ hy)), List.length_cons, Nat.add_mul]
  omega
theorem Kv {k : Nat} : ∀ {xs : List AV}, (∀ x ∈ xs, x.cells.length = k) → ∀ {i j : Nat} {x y : AV}, xs[i]? = some x → x.cells[j]? = some y → (Hf xs)[i * k + j]? = some y
 | [], _, i, j, x, y, h, _ => by simp at h
 | a :: r, hk, 0, j, x, y, h, h2 => by
  simp at h
  subst h
  rw [J7, Nat.zero_mul, Nat.zero_add, List.getElem?_append_left (List.getElem?_eq_some_iff.1 h2).1]
  exact h2
 | a :: r, hk, i + 1, j, x, y, h, h2 => by
  rw [List.getElem?_cons_succ] at h
  have ha := hk a List.mem_cons_self
  have hh := Kv (fun y hy => hk y (List.mem_cons_of_mem _ hy)) h h2
  rw [J7, List.getElem?_append_right (by rw [ha, Nat.add_mul]; omega), ha]
  rw [show (i + 1) * k + j - k = i * k + j by rw [Nat.add_mul]; omega]
  exact hh
section
variable {P : Program} {d : Nat} {st : St} {dst : Option Tmp} {ty : TypeId} {pos : String} {aft : Array Edge} {gd : Option (Nat × Bool)}
/-- The address of an element. -/
theorem OpV.indexAddrSl {t e : TypeId} {x i : Operand} {o k n c m : Nat} {q : IntKind} (hu : P.underlying t = some (.slice e)) (hsz : ∀ w, (sizeOf e).run P w = .ok k w) (hm : m < n)
  (hx : st.ev x = .sl o k n c) (hi : st.ev i = .v (.int q (m : Int))) : OpV P d ⟨dst, .indexAddr t x i, ty, pos, aft, gd⟩ st (.ptr o (m * k)) :=
 OpV.pure (by intro c h; cases h) fun G a w h => by
  have hr := hx ▸ h.eval x
  have hi' := Cd h hi
  generalize hv : a.eval x = u at hr
  cases hr with
  | sl l o k n c ho =>
   have hlt' : (m : Int) < n := by omega
   refine ⟨.pointer (some ((⟨G.blk o, 0, none⟩ : Addr).add (m * k))), by simp [execOp, Instr.indexAt, asIntOf, hi', hv, run_underlying hu, hm, hlt', hsz], ?_⟩
   rw [Ao rfl, Nat.zero_add]
   exact .ptr _ o _ ho
/-- An empty slice, over an object of its own. -/
theorem AOp.buildObj0 {t e : TypeId} {k s n : Nat} (hu : P.underlying t = some (.slice e)) (hsz : ∀ w, (sizeOf e).run P w = .ok k w) (hn : st.own.length = n) (hs : s < st.sz) :
  AOp P d ⟨some s, .buildSlice t 0 #[], ty, pos, aft, gd⟩ st (· = ({ st with own := st.own ++ [.cells e []] } : St).set s (.sl (st.up.length + n) k 0 0)) := by
 intro G a w h Q'
 obtain ⟨G', h1, T, hb, hlt⟩ := Ia h e [] #[] rfl (fun j y u h1 _ => by simp at h1)
 have hlen : (st.up ++ st.own).length = st.up.length + n := by rw [List.length_append, hn]
 rw [hlen] at hb hlt
 have hrun : (execOp a.eval (⟨some s, .buildSlice t 0 #[], ty, pos, aft, gd⟩ : Oper)).run P w = .ok (.value (.slice (some ⟨w.heap.size, 0, none⟩) 0 0)) (w.alloc (.cells #[] e)) := by
  have hfl : ∀ f : Nat → Option (Nat × Nat), Instr.fill f ((Array.range 0).map fun _ => (default : Value)) [] = some #[] := fun f => by simp [Instr.fill]
  simp [execOp, Instr.buildSlice, run_underlying hu, hsz, newRow, hfl]
 refine Ai (by intro c h; cases h) hrun ⟨G', _, h1.put (s := s) (y := .sl (st.up.length + n) k 0 0) hs ?_, T.keep d, rfl, rfl, rfl, rfl⟩
 rw [← hb]
 exact .sl _ _ _ _ _ hlt
/-- What is appended to an empty slice lies in a new object of ours; of its spare cells nothing is known. -/
theorem AOp.appendObj {t e : TypeId} {i : TypeInfo} {z : Value} {k by' s o n : Nat} {xr x : Operand} {o2 : Bool} {ys : List AV}
  (hu : P.underlying t = some (.slice e)) (hi : P.info? e = some i) (hz : i.zero = some z) (hsz : i.size = k) (hby : i.bytes = by') (hzk : z.cells.size = k) (hk : 0 < k)
  (hb : st.ev xr = .sl o k 0 0) (hx : F9 (st.ev x) o2 k ys) (hne : ys ≠ []) (hn : st.own.length = n) (hs : s < st.sz) (hl : ys.length * by' ≤ 140737488355328) (hl2 : ys.length ≤ 4611686018427387904) :
  AOp P d ⟨some s, .call ⟨.builtin .append, #[xr, x], #[t, t]⟩, ty, pos, aft, gd⟩ st (fun st' => ∃ c, ys.length ≤ c ∧ st' = ({ st with own := st.own ++ [.cells e (Hf ys ++ List.replicate ((c - ys.length) * k) .any)] } : St).set s (.sl (st.up.length + n) k ys.length c)) := by
 subst hsz
 subst hby
 intro G a w h Q'
 have hrb := hb ▸ h.eval xr
 have hrx := h.eval x
 have hm : ys.length ≠ 0 := fun e => hne (List.eq_nil_of_length_eq_zero e)
 generalize hvb : a.eval xr = vb at hrb
 cases hrb with
 | sl l o k n' c ho =>
  rcases Em hx hrx with ⟨_, e0⟩ | ⟨ad2, c2, f2, hvx, hc2, F2, _⟩
  ·exact absurd e0 hne
  have hge := E4 w (0 + ys.length) 0 e
  have hv := run_append_grow (P := P) w t ty e i z hu hi hz ⟨G.blk o, 0, none⟩ 0 0 [] (by simp) (by simp) ad2 ys.length c2 (B3 i.size ys.length f2) (Ah _ _ _) (F2.vals hk) (by omega) (by omega) (growslice_fits (by omega) (by rw [Nat.zero_add]; exact hl))
  rw [Nat.zero_add] at hv hge
  let c' := grownCap w ys.length 0 e
  have hfl : (Hf ys).length = ys.length * i.size := Ku F2.k
  have hd' : StRel d G st a w.drew := h.drew (w.drawn + 1)
  obtain ⟨G', h1, T, hbk, hlt⟩ := Ia hd' e (Hf ys ++ List.replicate ((c' - ys.length) * i.size) .any) (([] : List Value).toArray ++ (B3 i.size ys.length f2).toArray ++ Builtin.zeroCells z.cells (c' - ys.length)) (by
    simp only [Array.size_append, List.size_toArray, Ah, Value.oneSize _ hzk, List.length_append, List.length_replicate, hfl, List.length_nil]
    omega) (fun j y u hy hu' => by
    by_cases hj : j < ys.length * i.size
    ·rw [List.getElem?_append_left (by rw [hfl]; exact hj)] at hy
     have hq : j / i.size < ys.length := by rw [Nat.div_lt_iff_lt_mul hk]; exact hj
     have hjm : j % i.size < i.size := Nat.mod_lt _ hk
     have hx0 : ys[j / i.size]? = some (ys[j / i.size]) := List.getElem?_eq_getElem hq
     have hcl := F2.k _ (List.getElem_mem hq)
     have hy0 : (ys[j / i.size]).cells[j % i.size]? = some ((ys[j / i.size]).cells[j % i.size]'(by omega)) := List.getElem?_eq_getElem _
     have e1 : j / i.size * i.size + j % i.size = j := by have := Nat.div_add_mod j i.size; rw [Nat.mul_comm] at this; exact this
     have hfg := Kv F2.k hx0 hy0
     rw [e1, hy] at hfg
     injection hfg with hfg
     have hval : (B3 i.size ys.length f2)[j]? = some (f2 (j / i.size) (j % i.size)) := Fe hj
     rw [Array.getElem?_append_left (by simp only [Array.size_append, List.size_toArray, Ah, List.length_nil]; omega)] at hu'
     have e2 : u = f2 (j / i.size) (j % i.size) := by
      have : (([] : List Value).toArray ++ (B3 i.size ys.length f2).toArray)[j]? = (B3 i.size ys.length f2)[j]? := by simp
      rw [this, hval] at hu'
      injection hu' with hu'
      exact hu'.symm
     rw [e2, hfg]
     exact (Dz G w (w.drawn + 1)).rep (F2.rep _ _ _ _ hx0 hy0)
    rw [List.getElem?_append_right (by rw [hfl]; omega)] at hy
    rw [List.getElem?_replicate] at hy
    split at hy
    ·injection hy with hy; subst hy; exact .any _ _
    cases hy)
  have hlen : (st.up ++ st.own).length = st.up.length + n := by rw [List.length_append, hn]
  rw [hlen] at hbk hlt
  have hrun : (execOp a.eval (⟨some s, .call ⟨.builtin .append, #[xr, x], #[t, t]⟩, ty, pos, aft, gd⟩ : Oper)).run P w = .ok (.value (.slice (some ⟨w.heap.size, 0, none⟩) ys.length c')) (w.drew.alloc (.cells (([] : List Value).toArray ++ (B3 i.size ys.length f2).toArray ++ Builtin.zeroCells z.cells (c' - ys.length)) e)) := by
   simp only [execOp, resolve, invoke, builtin, Sem.run_bind, Sem.run_pure, Result.andThen_ok, List.map_toArray, List.map_cons, List.map_nil, hvb, hvx, hv]
   rfl
  have K0 := (Dz G w (w.drawn + 1)).keep d
  refine Ai (by intro c h; cases h) hrun ⟨G', _, h1.put (s := s) (y := .sl (st.up.length + n) i.size ys.length c') hs ?_, K0.trans (T.keep d), rfl, rfl, rfl, c', hge, rfl⟩
  have hsz' : w.drew.heap.size = w.heap.size := rfl
  rw [← hsz', ← hbk]
  exact .sl _ _ _ _ _ hlt

/-- The elements are written no more: the object goes, and the slice is one of known elements. -/
theorem StRel.freeze {G : Gh} {a : Act} {w : World} (h : StRel d G st a w) {r i k c : Nat} {t : TypeId} {cs xs : List AV} (hr : st.fr r = .sl (st.up.length + i) k xs.length c) (ho : st.own[i]? = some (.cells t cs)) (hnc : xs.length ≤ c)
  (hcs : cs.take (xs.length * k) = Hf xs) (hk : ∀ x ∈ xs, x.cells.length = k) (h1 : ∀ x ∈ xs, ∀ y ∈ x.cells, y.one = true) (hst : ∀ x ∈ xs, ∀ y ∈ x.cells, y.strip = y) :
  ∃ G', StRel d G' { st with fr := A5 r (.slice false k xs) st.fr, own := st.own.set i .gone } a w ∧ Keep d G w G' w := by
 let G' : Gh := { G with tag := fun b q => if G.tag b q = .obj (st.up.length + i) then .fix else G.tag b q }
 have hto : (st.up ++ st.own)[st.up.length + i]? = some (.cells t cs) := by rw [Bk]; exact ho
 have hol : st.up.length + i < (st.up ++ st.own).length := (List.getElem?_eq_some_iff.1 hto).1
 have htag : ∀ b q, G.tag b q ≠ .obj (st.up.length + i) → G'.tag b q = G.tag b q := fun b q hb => by simp only [G']; rw [if_neg hb]
 have htagO : ∀ b q, G.tag b q = .obj (st.up.length + i) → G'.tag b q = .fix := fun b q hb => by simp only [G']; rw [if_pos hb]
 have hfix : ∀ b q, G.tag b q = .fix → G'.tag b q = .fix := fun b q hb => by rw [htag b q (by rw [hb]; simp)]; exact hb
 have htail : ∀ b q L, G.tag b q = .tail L → G'.tag b q = .tail L := fun b q L hb => by rw [htag b q (by rw [hb]; simp)]; exact hb
 have hrep : ∀ {l : Option Loc} {y : AV} {u : Value}, Rep G w l y u → Rep G' w l y u := fun hy =>
  hy.mono (G' := G') (fun b q e => ⟨hfix b q e, rfl⟩) (Nat.le_refl _) (fun _ _ => rfl) (fun L _ b q e => htail b q L e)
 have hst' : Still G w G' w := fun b hb => ⟨rfl, hb.1, fun q => by
  rcases hb.2.1 q with e | e
  ·exact .inl (hfix b q e)
  exact .inr (by rw [htag b q (by rw [e]; simp)]; exact e), hb.2.2⟩
 obtain ⟨vs, q1, q2, q3, q4⟩ := h.heap.obj _ _ hto
 refine ⟨G', ⟨h.size, fun s => ?_, ⟨fun j x hx => ?_, ?_, h.heap.inj⟩, h.defs, fun q hq => ?_, h.defsNodup, h.defsGe, ⟨fun b q hb => h.tags.ex b q (fun e => ?_), fun b q j hb => ?_, fun b q L hb => ?_, h.tags.globKeep hst'⟩, h.rnd, h.low, h.top⟩,
  ⟨fun b q e => ⟨hfix b q e, rfl⟩, fun b q e s _ ht => htail b q _ ht, Nat.le_refl _, fun _ _ => rfl, rfl, rfl, rfl, Nat.le_refl _, hst'⟩⟩
 ·show Rep G' w _ (A5 r (.slice false k xs) st.fr s) _
  unfold A5
  by_cases hs : s = r
  ·subst hs
   rw [if_pos rfl]
   have hsl := h.slots s
   rw [hr] at hsl
   generalize a.tmps.getD s undef = v at hsl
   cases hsl with
   | sl l o k n c ho' =>
    refine .slice _ false k xs ⟨G.blk (st.up.length + i), 0, none⟩ _ c (fun q j => vs.getD (q * k + j) undef) rfl rfl hnc hk h1 (fun q x j y hx hy => ?_) (fun q x j y hx hy => ?_) (fun e => by cases e)
    all_goals
     have hfg := Kv hk hx hy
     have hlt : q * k + j < xs.length * k := by
      have := (List.getElem?_eq_some_iff.1 hfg).1
      rw [Ku hk] at this; exact this
     rw [← hcs, List.getElem?_take_of_lt hlt] at hfg
     have hcl := (List.getElem?_eq_some_iff.1 hfg).1
    ·refine ⟨htagO _ _ (by simpa using q4 _ hcl), ?_⟩
     simp only [Nat.zero_add]
     simp [World.cell?, q1, show q * k + j < vs.size by omega]
    have hu := q3 _ y (vs[q * k + j]'(by omega)) hfg (Array.getElem?_eq_getElem (by omega))
    have e1 : vs.getD (q * k + j) undef = vs[q * k + j]'(by omega) := by simp [show q * k + j < vs.size by omega]
    rw [e1]
    have := hrep (hu.strip (l' := none))
    rw [hst x (List.mem_of_getElem? hx) y (List.mem_of_getElem? hy)] at this
    exact this
  rw [if_neg hs]
  exact hrep (h.slots s)
 ·have hx' : (st.up ++ st.own.set i .gone)[j]? = some x := hx
  rw [← Al, List.getElem?_set] at hx'
  by_cases hj : st.up.length + i = j
  ·rw [if_pos hj, if_pos hol] at hx'
   injection hx' with hx'
   subst hx'
   subst hj
   exact ⟨vs, t, (0, 0), q1, fun q hq => htagO _ _ (q4 q (by omega))⟩
  rw [if_neg hj] at hx'
  exact (h.heap.obj j x hx').free (fun e => hj e.symm) htag rfl rfl
 ·show G.n = (st.up ++ st.own.set i .gone).length
  have := h.heap.n
  simpa using this
 ·show (st.up ++ st.own.set i .gone)[q]? = _
  have h2 := h.defsAt q hq
  rw [← Al, List.getElem?_set]
  by_cases hj : st.up.length + i = q
  ·subst hj; rw [hto] at h2; cases h2
  rw [if_neg hj]; exact h2
 ·simp only [G'] at hb
  split at hb
  ·rename_i e'; rw [e] at e'; cases e'
  exact hb e
 ·simp only [G'] at hb
  split at hb
  ·cases hb
  exact h.tags.obj b q j hb
 simp only [G'] at hb
 split at hb
 ·cases hb
 exact h.tags.tail b q L hb
end
section
variable {P : Program} {d : Nat} {ops : Array Oper}
theorem ARun.turnSt {l : List Oper} {st st' : St} {Q : St → Prop} (h : ∀ (G : Gh) (a : Act) (w : World), StRel d G st a w → ∃ G', StRel d G' st' a w ∧ Keep d G w G' w) (e1 : st'.up.length = st.up.length) (e2 : st'.rnd = st.rnd) (e3 : st'.sz = st.sz) (hr : ARun P d ops l st' Q) : ARun P d ops l st Q := by
 intro G a w hrel idx hidx
 obtain ⟨G', h1, k⟩ := h G a w hrel
 have := hr G' a w h1 idx hidx
 rw [Bm hrel k e2] at this
 exact Ap (fun e a' w' hp => ⟨hp.1, hp.2.next k e1 e2 e3⟩) _ _ _ this
variable {sz : Nat} {fr : Nat → AV} {up own own' : List AObj} {dfs : List Nat} {rnd : Option Nat} {Q : St → Prop} {rest : List Oper} {s : Nat} {ty : TypeId} {pos : String} {aft : Array Edge}
theorem R.indexAddrSl {t e : TypeId} {x i : Operand} {o k n c : Nat} {q : IntKind} {z : Int} (m : Nat) (ht : P.underlying t = some (.slice e)) (hsz : ∀ w, (Go.sizeOf e).run P w = .ok k w) (hm : m < n) (hr : ARun P d ops rest ⟨sz, A5 s (.ptr o (m * k)) fr, up, own, dfs, rnd⟩ Q)
  (hx : A8 fr x = .sl o k n c := by exact sL0) (hi : A8 fr i = .v (.int q z) := by exact sL0) (hz : z = (m : Int) := by first | rfl | omega) (hs : Nat.blt s sz = true := by rfl) :
  ARun P d ops (⟨some s, .indexAddr t x i, ty, pos, aft, none⟩ :: rest) ⟨sz, fr, up, own, dfs, rnd⟩ Q :=
 ARun.vv rfl rfl hs (OpV.indexAddrSl ht hsz hm hx (by subst hz; exact hi)) hr
theorem R.buildObj0 {t e : TypeId} {k n : Nat} (ht : P.underlying t = some (.slice e)) (hsz : ∀ w, (Go.sizeOf e).run P w = .ok k w) (hr : ARun P d ops rest ⟨sz, A5 s (.sl (oid up.length n) k 0 0) fr, up, own', dfs, rnd⟩ Q)
  (hn : own.length = n := by rfl) (ho : own ++ [.cells e []] = own' := by rfl) (hs : Nat.blt s sz = true := by rfl) :
  ARun P d ops (⟨some s, .buildSlice t 0 #[], ty, pos, aft, none⟩ :: rest) ⟨sz, fr, up, own, dfs, rnd⟩ Q := by
 subst ho
 exact ARun.aop rfl (AOp.buildObj0 (st := ⟨sz, fr, up, own, dfs, rnd⟩) ht hsz hn (by simpa using hs)) hr
theorem R.appendObj {t e : TypeId} {i : TypeInfo} {z : Value} {k o n : Nat} {xr x : Operand} {o2 : Bool} {y : AV} {ys : List AV} (hu : P.underlying t = some (.slice e)) (hi : P.info? e = some i) (hne : ys ≠ []) (hl : ys.length * i.bytes ≤ 140737488355328) (hl2 : ys.length ≤ 4611686018427387904)
  (hr : ∀ c, ys.length ≤ c → ARun P d ops rest ⟨sz, A5 s (.sl (oid up.length n) k ys.length c) fr, up, own ++ [.cells e (Hf ys ++ List.replicate ((c - ys.length) * k) .any)], dfs, rnd⟩ Q)
  (hz : i.zero = some z := by rfl) (hsz : i.size = k := by rfl) (hzk : z.cells.size = k := by rfl) (hk : 0 < k := by decide) (hb : A8 fr xr = .sl o k 0 0 := by exact sL0)
  (hx : A8 fr x = y := by exact sL0) (hx' : F9 y o2 k ys := by first | exact .inl rfl | exact .inr ⟨rfl, rfl⟩) (hn : own.length = n := by rfl) (hs : Nat.blt s sz = true := by rfl) :
  ARun P d ops (⟨some s, .call ⟨.builtin .append, #[xr, x], #[t, t]⟩, ty, pos, aft, none⟩ :: rest) ⟨sz, fr, up, own, dfs, rnd⟩ Q := by
 subst hx
 refine ARun.op rfl (AOp.appendObj (st := ⟨sz, fr, up, own, dfs, rnd⟩) hu hi hz hsz rfl hzk hk hb hx' hne hn (by simpa using hs) hl hl2) (fun s' hs' => ?_)
 obtain ⟨c, hc, rfl⟩ := hs'
 exact hr c hc
/-- The elements of the slice in slot r, over object i of ours, are written no more. -/
theorem R.freeze {l : List Oper} (r i : Nat) {k n c : Nat} {t : TypeId} {cs : List AV} (xs : List AV) (hnc : n ≤ c) (hn : n = xs.length) (hcs : cs.take (n * k) = Hf xs) (hk : ∀ x ∈ xs, x.cells.length = k) (h1 : ∀ x ∈ xs, ∀ y ∈ x.cells, y.one = true) (hst : ∀ x ∈ xs, ∀ y ∈ x.cells, y.strip = y)
  (hr : ARun P d ops l ⟨sz, A5 r (.slice false k xs) fr, up, own', dfs, rnd⟩ Q) (hf : fr r = .sl (oid up.length i) k n c := by exact sL0) (ho : own[i]? = some (.cells t cs) := by rfl) (hset : own.set i .gone = own' := by rfl) :
  ARun P d ops l ⟨sz, fr, up, own, dfs, rnd⟩ Q := by
 subst hset
 subst hn
 exact ARun.turnSt (fun G a w h => h.freeze (st := ⟨sz, fr, up, own, dfs, rnd⟩) hf ho hnc hcs hk h1 hst) rfl rfl rfl hr
end
end Go.SX
