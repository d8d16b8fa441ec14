/- Texts on the way to this: TrimTells answers true for whatever it is handed: of any tree the trimmed one, its value, and how many nodes it saves, are what the reference says; trimmed again it stays, and it names no other columns. (part 5) -/
import Derived.ReadAgain
import Derived.ChangeSame
import Derived.ChangeArms
import Derived.ChangeOld
import Derived.ChangeFn
import Derived.MapPlaces
import Derived.DataReads
import Derived.OpenShut
import Derived.RowKit
import Derived.Deep.DeepHandedRow
import Derived.Test.YtdpgggmplodldaaGreatDoorCards
import Derived.Test.YtdpgggmplodldaaGreatDoorTie
import Derived.Lay
import Derived.Lib.LaidTab
import Derived.Stop.LaidErr
import Derived.Shelf.Vars
import Derived.ChangeBears
import Derived.Lib.ParseIntBTie
import Derived.Test.YtdpgggmplodldaaGreatDoorTrimTellsCardSaidPart4
set_option linter.all false
namespace Go.SX
variable [GI : GlobInv]
open Classical Go.RowKit Go.ChangeShapes
section
variable {P : Program} {H : Type} {enc : TypeId × Value → H}

/-- The first ghost: whatever lies there is read for good. -/
noncomputable def G0 (W : World) : Gh := ⟨fun b o => if (W.cell? ⟨b, o, none⟩).isSome then .fix else .free, fun _ => 0, 0⟩
theorem G0_fix {W : World} {b o : Nat} {u : Value} (h : W.cell? ⟨b, o, none⟩ = some u) : (G0 W).tag b o = .fix := by simp [G0, h]
theorem G0_virgin {W : World} {b : Nat} (h : b < W.heap.size) : Virgin (G0 W) W b := ⟨h, fun o => by simp only [G0]; split <;> simp, fun i hi => absurd hi (Nat.not_lt_zero _)⟩
theorem G0_heap (W : World) : HeapRel (G0 W) [] W := ⟨fun i x h => by simp at h, rfl, fun i j hi => absurd hi (Nat.not_lt_zero _)⟩
theorem G0_tags {W : World} (h : GlobIn W) : TagOK (G0 W) W := by
 refine ⟨fun b o hb => ?_, fun b o i hb => ?_, fun b o L hb => ?_, fun x hx => ?_⟩
 ·simp only [G0] at hb
  split at hb
  ·rename_i hs; exact Option.isSome_iff_exists.1 hs
  exact absurd rfl hb
 ·simp only [G0] at hb; split at hb <;> cases hb
 ·simp only [G0] at hb; split at hb <;> cases hb
 obtain ⟨v, h1, h2⟩ := h x hx
 exact ⟨G0_virgin (Array.getElem?_eq_some_iff.1 h1).1, v, h1, h2⟩

/-- What a datum of a plain type reads as. -/
inductive DRep (P : Program) : TypeId → DataW H → AV → Prop
 | int {t : TypeId} {k : IntKind} {n : Int} (hu : P.underlying t = some (.int k)) (wf : (Lit.int k n).wf = true) : DRep P t (.lit (.int k n)) (.v (.int k n))
 | bool {t : TypeId} {b : Bool} (hu : P.underlying t = some .bool) : DRep P t (.lit (.bool b)) (.v (.bool b))
 | str {t : TypeId} {bs : List UInt8} (hu : P.underlying t = some .string) : DRep P t (.lit (.string bs)) (.v (sv bs))
 | nil {t e : TypeId} (hu : P.underlying t = some (.slice e)) : DRep P t .nil (.slice false (P.cellsOf e) [])
 | slice {t e : TypeId} {elems spare : List (DataW H)} {ys : List AV} (hu : P.underlying t = some (.slice e)) (hn : ys.length = elems.length)
   (h : ∀ (i : Nat) (d : DataW H) (y : AV), elems[i]? = some d → ys[i]? = some y → DRep P e d y) : DRep P t (.slice elems spare) (.slice false (P.cellsOf e) ys)
 | struct {t : TypeId} {fs : Array Field} {parts : List (DataW H)} {ys : List AV} (hu : P.underlying t = some (.struct fs)) (hn : parts.length = fs.size) (hn' : ys.length = fs.size)
   (h : ∀ (i : Nat) (f : Field) (d : DataW H) (y : AV), fs[i]? = some f → parts[i]? = some d → ys[i]? = some y → DRep P f.type d y) : DRep P t (.agg parts) (.agg (ys.flatMap AV.cells))

/-- Types that are made of numbers, texts, bools, slices and structs alone. -/
structure PlainT (P : Program) (T : TypeId → Prop) : Prop where
 look : ∀ t, T t → (P.cellsOf t = 1 ∧ ((∃ k, P.underlying t = some (.int k)) ∨ P.underlying t = some .bool ∨ P.underlying t = some .string ∨ (∃ e, P.underlying t = some (.slice e) ∧ T e ∧ 0 < P.cellsOf e))) ∨
  (∃ fs, P.underlying t = some (.struct fs) ∧ (∀ f ∈ fs.toList, T f.type) ∧ P.cellsOf t = (fs.toList.map fun f => P.cellsOf f.type).sum ∧
   ∀ (j : Nat) (f : Field), fs.toList[j]? = some f → f.offset = ((fs.toList.take j).map fun f => P.cellsOf f.type).sum)

/-- The reading of a row of cells. -/
def CRep (W : World) (y : AV) (cs : List Value) : Prop :=
 y.cells.length = cs.length ∧ (∀ c ∈ y.cells, c.one = true) ∧ ∀ (j : Nat) (c : AV) (v : Value), y.cells[j]? = some c → cs[j]? = some v → Rep (G0 W) W none c v

theorem CRep.v1 {W : World} {x : Value} (h : x.oneCell' = true) : CRep W (.v x) [x] :=
 ⟨rfl, by simp [AV.cells, AV.one, h], fun j c v h1 h2 => by
  match j with
  | 0 => simp [AV.cells] at h1 h2; subst h1; subst h2; exact .v _ _
  | j + 1 => simp [AV.cells] at h1⟩

theorem flat_get {f : AV → List AV} : ∀ (ys : List AV) (j : Nat) (c : AV), (ys.flatMap f)[j]? = some c → ∃ (i : Nat) (y : AV) (q : Nat), ys[i]? = some y ∧ (f y)[q]? = some c ∧ j = ((ys.take i).map fun y => (f y).length).sum + q
 | [], j, c, h => by simp at h
 | y :: r, j, c, h => by
  rw [List.flatMap_cons] at h
  rcases Nat.lt_or_ge j (f y).length with h' | h'
  ·rw [List.getElem?_append_left h'] at h
   exact ⟨0, y, j, rfl, h, by simp⟩
  rw [List.getElem?_append_right h'] at h
  obtain ⟨i, z, q, h1, h2, h3⟩ := flat_get r _ c h
  exact ⟨i + 1, z, q, h1, h2, by simp only [List.take_succ_cons, List.map_cons, List.sum_cons]; omega⟩
theorem choose_list {α : Type} {R : Nat → α → Prop} : ∀ (n : Nat), (∀ i, i < n → ∃ y, R i y) → ∃ ys : List α, ys.length = n ∧ ∀ (i : Nat) (y : α), ys[i]? = some y → R i y
 | 0, _ => ⟨[], rfl, fun i y h => by simp at h⟩
 | n + 1, h => by
  obtain ⟨ys, h1, h2⟩ := choose_list n (fun i hi => h i (by omega))
  obtain ⟨y, hy⟩ := h n (by omega)
  refine ⟨ys ++ [y], by simp [h1], fun i z hz => ?_⟩
  rcases Nat.lt_or_ge i n with h' | h'
  ·rw [List.getElem?_append_left (by omega)] at hz; exact h2 i z hz
  rw [List.getElem?_append_right (by omega)] at hz
  have : i = n := by
   have := (List.getElem?_eq_some_iff.1 hz).1
   simp at this; omega
  subst this
  rw [h1] at hz
  simp at hz
  exact hz ▸ hy
theorem map_sum_eq {α β : Type} {f : α → Nat} {g : β → Nat} : ∀ (l : List α) (m : List β), l.length = m.length → (∀ (i : Nat) (a : α) (b : β), l[i]? = some a → m[i]? = some b → f a = g b) → (l.map f).sum = (m.map g).sum
 | [], [], _, _ => rfl
 | [], b :: m, h, _ => by simp at h
 | a :: l, [], h, _ => by simp at h
 | a :: l, b :: m, h, hh => by
  simp only [List.map_cons, List.sum_cons]
  rw [hh 0 a b rfl rfl, map_sum_eq l m (by simpa using h) (fun i a b h1 h2 => hh (i + 1) a b h1 h2)]

theorem trod_rep {T : TypeId → Prop} (PT : PlainT P T) {W : World} : ∀ (n : Nat) (t : TypeId) (cs : List Value) (x : DataW H × List MemPlace), T t → DataW.trod enc P W 0 (fun _ => true) true n t cs = some x →
  ∃ y, DRep P t x.1 y ∧ CRep W y cs ∧ cs.length = P.cellsOf t := by
 intro n
 induction n with
 | zero => intro t cs x _ h; simp [DataW.trod] at h
 | succ n ih =>
  intro t cs x hT h
  rcases PT.look t hT with ⟨hc1, ⟨k, hu⟩ | hu | hu | ⟨e, hu, he, hz⟩⟩ | ⟨fs, hu, hf, hsum, hoff⟩
  ·obtain ⟨m, rfl, rfl, hw⟩ := DataW.trod_int hu h
   exact ⟨_, .int hu hw, .v1 rfl, hc1.symm⟩
  ·obtain ⟨b, rfl, rfl⟩ := DataW.trod_bool hu h
   exact ⟨_, .bool hu, .v1 rfl, hc1.symm⟩
  ·obtain ⟨s, rfl, rfl, _⟩ := DataW.trod_string hu h
   exact ⟨_, .str hu, .v1 rfl, hc1.symm⟩
  ·rcases DataW.trod_slice hu h with ⟨rfl, rfl⟩ | ⟨a, len, cap, elems, rest, m, hm, rfl, rfl, hb, hlc, hcm, hel, hE, _, _⟩
   ·refine ⟨_, .nil hu, ⟨rfl, by simp [AV.cells, AV.one], fun j c v h1 h2 => ?_⟩, hc1.symm⟩
    match j with
    | 0 => simp [AV.cells] at h1 h2; subst h1; subst h2; exact .slice0 _ _ _
    | j + 1 => simp [AV.cells] at h1
   injection hm with hm
   subst hm
   subst hel
   have hEi : ∀ i, i < elems.length → ∃ y, (∀ d, elems[i]? = some d → DRep P e d.1 y) ∧ ∃ ci, W.cells? 0 (a.add (i * P.cellsOf e)) (P.cellsOf e) = some ci ∧ CRep W y ci := fun i hi => by
    have h1 := hE i hi
    rw [List.getElem?_eq_getElem hi, Option.bind_eq_some_iff] at h1
    obtain ⟨ci, h2, h3⟩ := h1
    obtain ⟨y, h4, h5, _⟩ := ih e ci _ he h3
    exact ⟨y, fun d hd => by rw [List.getElem?_eq_getElem hi] at hd; injection hd with hd; subst hd; exact h4, ci, h2, h5⟩
   obtain ⟨ys, hyl, hys⟩ := choose_list elems.length hEi
   refine ⟨.slice false (P.cellsOf e) ys, .slice hu (by simp [hyl]) (fun i d y hd hy => ?_), ⟨rfl, by simp [AV.cells, AV.one], fun j c v h1 h2 => ?_⟩, hc1.symm⟩
   ·rw [List.getElem?_map, Option.map_eq_some_iff] at hd
    obtain ⟨d', hd', rfl⟩ := hd
    exact (hys i y hy).1 d' hd'
   match j with
   | j + 1 => simp [AV.cells] at h1
   | 0 =>
    simp [AV.cells] at h1 h2
    subst h1; subst h2
    by_cases h0 : elems.length = 0
    ·have : ys = [] := List.eq_nil_of_length_eq_zero (by omega)
     subst this
     rw [h0]
     exact .sliceE _ _ _ _
    have hspot : a.spot = none := by
     obtain ⟨ci, hci, _⟩ := (hys 0 ys[0] (List.getElem?_eq_getElem (by omega))).2
     obtain ⟨_, g1, g2⟩ := World.cells?_some hci
     have g3 := g2 0 hz
     rw [List.getElem?_eq_getElem (by omega)] at g3
     simp only [Nat.zero_mul, Addr.add, if_true] at g3
     unfold World.cell? at g3
     split at g3
     ·split at g3
      ·cases g3
      rename_i hs; simpa using hs
     cases g3
    refine .slice _ false _ ys a _ cap (fun i j => (W.cell? ⟨a.block, a.off + i * P.cellsOf e + j, none⟩).getD undef) hspot hyl.symm hlc (fun x hx => ?_) (fun x hx => ?_) (fun i x j y hx hy => ?_) (fun i x j y hx hy => ?_) (fun h => by cases h)
    ·obtain ⟨i, hi⟩ := List.getElem?_of_mem hx
     obtain ⟨ci, hci, hcr⟩ := (hys i x hi).2
     rw [hcr.1]
     exact (World.cells?_some hci).2.1
    ·obtain ⟨i, hi⟩ := List.getElem?_of_mem hx
     obtain ⟨ci, hci, hcr⟩ := (hys i x hi).2
     exact hcr.2.1
    ·obtain ⟨ci, hci, hcr⟩ := (hys i x hx).2
     obtain ⟨_, g1, g2⟩ := World.cells?_some hci
     have hj : j < P.cellsOf e := by
      have := (List.getElem?_eq_some_iff.1 hy).1
      rw [hcr.1] at this; omega
     have g3 := g2 j hj
     rw [List.getElem?_eq_getElem (by omega), add_of_none hspot, add_of_none rfl] at g3
     exact ⟨G0_fix g3, by rw [g3]; rfl⟩
    obtain ⟨ci, hci, hcr⟩ := (hys i x hx).2
    obtain ⟨_, g1, g2⟩ := World.cells?_some hci
    have hj : j < P.cellsOf e := by
     have := (List.getElem?_eq_some_iff.1 hy).1
     rw [hcr.1] at this; omega
    have g3 := g2 j hj
    rw [List.getElem?_eq_getElem (by omega), add_of_none hspot, add_of_none rfl] at g3
    simp only at g3
    rw [g3]
    exact hcr.2.2 j y _ hy (List.getElem?_eq_getElem (by omega))
  obtain ⟨xs, m, hm, rfl, hcl, hxl, hX⟩ := DataW.trod_struct hu h
  injection hm with hm
  subst hm
  have hXi : ∀ i, i < fs.size → ∃ y, ∀ (f : Field), fs[i]? = some f → (∀ d, xs[i]? = some d → DRep P f.type d.1 y) ∧ CRep W y ((cs.drop f.offset).take (P.cellsOf f.type)) ∧ y.cells.length = P.cellsOf f.type := fun i hi => by
   have h1 := hX i fs[i] (Array.getElem?_eq_getElem hi)
   rw [List.getElem?_eq_getElem (by omega)] at h1
   obtain ⟨y, h2, h3, h4⟩ := ih _ _ _ (hf _ (by simp)) h1
   refine ⟨y, fun f hf' => ?_⟩
   rw [Array.getElem?_eq_getElem hi] at hf'
   injection hf' with hf'
   subst hf'
   exact ⟨fun d hd => by rw [List.getElem?_eq_getElem (by omega)] at hd; injection hd with hd; subst hd; exact h2, h3, by rw [h3.1, h4]⟩
  obtain ⟨ys, hyl, hys⟩ := choose_list fs.size hXi
  have hlenI : ∀ (i : Nat), ((ys.take i).map fun y => y.cells.length).sum = ((fs.toList.take i).map fun f => P.cellsOf f.type).sum := fun i => by
   refine map_sum_eq _ _ (by simp [hyl]) (fun j y f h1 h2 => ?_)
   rw [List.getElem?_take] at h1 h2
   split at h1
   ·rename_i hj
    rw [if_pos hj] at h2
    exact (hys j y h1 f (by simpa using h2)).2.2
   cases h1
  have htot : (ys.flatMap AV.cells).length = cs.length := by
   rw [List.length_flatMap, hcl, hsum]
   refine map_sum_eq _ _ (by simp [hyl]) (fun j y f h1 h2 => (hys j y h1 f (by simpa using h2)).2.2)
  refine ⟨.agg (ys.flatMap AV.cells), .struct hu (by simp [hxl]) hyl (fun i f d y hf' hd hy => ?_), ⟨htot, fun c hc => ?_, fun j c v h1 h2 => ?_⟩, hcl⟩
  ·rw [List.getElem?_map, Option.map_eq_some_iff] at hd
   obtain ⟨d', hd', rfl⟩ := hd
   exact (hys i y hy f hf').1 d' hd'
  ·obtain ⟨y, hy, hcy⟩ := List.mem_flatMap.1 hc
   obtain ⟨i, hi⟩ := List.getElem?_of_mem hy
   have hlt : i < fs.size := by rw [← hyl]; exact (List.getElem?_eq_some_iff.1 hi).1
   exact ((hys i y hi fs[i] (Array.getElem?_eq_getElem hlt)).2.1).2.1 c hcy
  obtain ⟨i, y, q, g1, g2, rfl⟩ := flat_get ys j c h1
  have hlt : i < fs.size := by rw [← hyl]; exact (List.getElem?_eq_some_iff.1 g1).1
  obtain ⟨_, k2, k3⟩ := hys i y g1 fs[i] (Array.getElem?_eq_getElem hlt)
  have hq : q < P.cellsOf (fs[i]).type := by have := (List.getElem?_eq_some_iff.1 g2).1; omega
  refine k2.2.2 q c v g2 ?_
  rw [List.getElem?_take, if_pos hq, List.getElem?_drop, hoff i fs[i] (by simp [hlt]), ← hlenI i]
  exact h2

/-- A measure of data. -/
structure Bulk (B : DataW H → Nat) : Prop where
 str : ∀ bs, bs.length ≤ B (.lit (.string bs))
 slice : ∀ elems spare, elems.length ≤ B (.slice elems spare) ∧ ∀ d ∈ elems, B d ≤ B (.slice elems spare)
 agg : ∀ parts, ∀ d ∈ parts, B d ≤ B (.agg parts)
theorem DRep.int' {t : TypeId} {k : IntKind} {d : DataW H} {y : AV} (hu : P.underlying t = some (.int k)) (h : DRep P t d y) : ∃ n, d = .lit (.int k n) ∧ y = .v (.int k n) ∧ k.min ≤ n ∧ n ≤ k.max := by
 cases h with
 | int hu' wf => rw [hu] at hu'; injection hu' with e; injection e with e; subst e; exact ⟨_, rfl, rfl, by simpa [Lit.wf] using wf⟩
 | _ hu' => rw [hu] at hu'; cases hu'
theorem DRep.str' {t : TypeId} {d : DataW H} {y : AV} (hu : P.underlying t = some .string) (h : DRep P t d y) : ∃ s, d = .lit (.string s) ∧ y = .v (sv s) := by
 cases h with
 | str hu' => exact ⟨_, rfl, rfl⟩
 | _ hu' => rw [hu] at hu'; cases hu'
theorem DRep.struct' {t : TypeId} {fs : Array Field} {d : DataW H} {y : AV} {B : DataW H → Nat} (hB : Bulk B) (hu : P.underlying t = some (.struct fs)) (h : DRep P t d y) :
  ∃ ys : List AV, ys.length = fs.size ∧ y = .agg (ys.flatMap AV.cells) ∧ ∀ (i : Nat) (f : Field) (z : AV), fs[i]? = some f → ys[i]? = some z → ∃ d', B d' ≤ B d ∧ DRep P f.type d' z := by
 cases h with
 | struct hu' hn hn' hh =>
  rw [hu] at hu'; injection hu' with e'; injection e' with e'; subst e'
  rename_i parts ys
  refine ⟨ys, hn', rfl, fun i f z h1 h2 => ?_⟩
  have hlt : i < parts.length := by rw [hn]; exact (Array.getElem?_eq_some_iff.1 h1).1
  exact ⟨parts[i], hB.agg parts _ (List.getElem_mem hlt), hh i f parts[i] z h1 (List.getElem?_eq_getElem hlt) h2⟩
 | _ hu' => rw [hu] at hu'; cases hu'

/-- An argument's reading. -/
theorem arg_rep {T : TypeId → Prop} (PT : PlainT P T) {W : World} {t : TypeId} {v : Value} {d : DataW H} {ps : List MemPlace} {b0 : Nat} (hT : T t) (hok : Value.okWide P W .any b0 t v) (h : DataW.Trod enc P W 0 (fun _ => true) true t v d ps) :
  ∃ y, DRep P t d y ∧ Rep (G0 W) W none y v := by
 obtain ⟨n, hn⟩ := h
 obtain ⟨y, h1, h2, h3⟩ := trod_rep PT n t _ _ hT hn
 refine ⟨y, h1, ?_⟩
 rcases PT.look t hT with ⟨hc1, hone⟩ | ⟨fs, hu, _⟩
 ·have hva : ∀ cs, v ≠ .agg cs := fun cs e => by
   subst e
   rcases hone with ⟨k, hu⟩ | hu | hu | ⟨e, hu, he, hz⟩ <;> simp [Value.okWide, hu, Cell.okWide, Cell.ok] at hok
  have hvc : v.cells = #[v] := by cases v <;> first | rfl | exact absurd rfl (hva _)
  have hyc : y.cells = [y] := by
   cases h1 with
   | struct hu => rcases hone with ⟨k, hu'⟩ | hu' | hu' | ⟨e, hu', he, hz⟩ <;> rw [hu] at hu' <;> cases hu'
   | _ => rfl
  have := h2.2.2 0 y v (by rw [hyc]; rfl) (by rw [hvc]; rfl)
  exact this
 obtain ⟨cs, rfl, hsz, _⟩ : ∃ cs, v = .agg cs ∧ cs.size = P.cellsOf t ∧ Row.okWide P W .any b0 t cs := by
  simp only [Value.okWide, hu] at hok
  exact hok
 cases h1 with
 | struct hu' hn1 hn2 hh =>
  refine .agg _ _ _ (by have := h2.1; simp only [AV.cells, Value.cells, Array.length_toList] at this; exact this.symm) h2.2.1 (fun i c u a b => h2.2.2 i c u a (by simpa [Value.cells] using b))
 | int hu' => rw [hu] at hu'; cases hu'
 | bool hu' => rw [hu] at hu'; cases hu'
 | str hu' => rw [hu] at hu'; cases hu'
 | nil hu' => rw [hu] at hu'; cases hu'
 | slice hu' => rw [hu] at hu'; cases hu'

def DReps (P : Program) : List TypeId → List (DataW H) → List AV → Prop
 | [], [], [] => True
 | t :: ts, d :: ds, y :: ys => DRep P t d y ∧ DReps P ts ds ys
 | _, _, _ => False

theorem DReps.cons' {t : TypeId} {ts : List TypeId} {ds : List (DataW H)} {ys : List AV} (h : DReps P (t :: ts) ds ys) : ∃ d ds' y ys', ds = d :: ds' ∧ ys = y :: ys' ∧ DRep P t d y ∧ DReps P ts ds' ys' := by
 match ds, ys, h with
 | d :: ds', y :: ys', ⟨h1, h2⟩ => exact ⟨d, ds', y, ys', rfl, rfl, h1, h2⟩
 | [], _, h => simp [DReps] at h
 | _ :: _, [], h => simp [DReps] at h
theorem DReps.nil' {ds : List (DataW H)} {ys : List AV} (h : DReps P [] ds ys) : ds = [] ∧ ys = [] := by
 match ds, ys, h with
 | [], [], _ => exact ⟨rfl, rfl⟩
 | [], _ :: _, h => simp [DReps] at h
 | _ :: _, _, h => simp [DReps] at h
theorem args_rep0 {T : TypeId → Prop} (PT : PlainT P T) {W : World} {b0 : Nat} : ∀ (ts : List TypeId) (vs : List Value) (ds : List (DataW H)) (ps : List MemPlace), (∀ t ∈ ts, T t) →
  (∀ (j : Nat) t v, ts[j]? = some t → vs[j]? = some v → Value.okWide P W .any b0 t v) → DataW.TrodAll enc P W 0 (fun _ => true) true ts vs ds ps →
  ∃ ys, DReps P ts ds ys ∧ ys.length = vs.length ∧ ∀ (i : Nat) (y : AV) (u : Value), ys[i]? = some y → vs[i]? = some u → Rep (G0 W) W none y u
 | [], [], [], _, _, _, _ => ⟨[], trivial, rfl, fun i y u h => by simp at h⟩
 | t :: ts, v :: vs, d :: ds, ps, hT, hok, ⟨p, q, h1, h2, _⟩ => by
  obtain ⟨y, k1, k2⟩ := arg_rep PT (hT t (by simp)) (hok 0 t v rfl rfl) h1
  obtain ⟨ys, k3, k4, k5⟩ := args_rep0 PT ts vs ds q (fun t ht => hT t (by simp [ht])) (fun j t v a b => hok (j + 1) t v a b) h2
  refine ⟨y :: ys, ⟨k1, k3⟩, by simp [k4], fun i z u a b => ?_⟩
  match i with
  | 0 => simp at a b; subst a; subst b; exact k2
  | i + 1 => exact k5 i z u a b
 | [], _ :: _, _, _, _, _, h => by simp [DataW.TrodAll] at h
 | [], [], _ :: _, _, _, _, h => by simp [DataW.TrodAll] at h
 | _ :: _, [], _, _, _, _, h => by simp [DataW.TrodAll] at h
 | _ :: _, _ :: _, [], _, _, _, h => by simp [DataW.TrodAll] at h

theorem trodAll_len {W : World} {sp : Nat → Bool} {hd : Bool} : ∀ {ts : List TypeId} {vs : List Value} {ds : List (DataW H)} {ps : List MemPlace}, DataW.TrodAll enc P W 0 sp hd ts vs ds ps → ds.length = ts.length
 | [], [], [], _, _ => rfl
 | _ :: _, _ :: _, _ :: _, _, ⟨_, _, _, h, _⟩ => by rw [List.length_cons, List.length_cons, trodAll_len h]
 | [], _ :: _, _, _, h => by simp [DataW.TrodAll] at h
 | [], [], _ :: _, _, h => by simp [DataW.TrodAll] at h
 | _ :: _, [], _, _, h => by simp [DataW.TrodAll] at h
 | _ :: _, _ :: _, [], _, h => by simp [DataW.TrodAll] at h
theorem trodAll_carry' {W W' : World} {sp : Nat → Bool} : ∀ {ts : List TypeId} {vs : List Value} {ds : List (DataW H)} {ps : List MemPlace}, DataW.TrodAll enc P W 0 sp true ts vs ds ps → (∀ p ∈ ps, W.sameAt W' p) → DataW.TrodAll enc P W' 0 sp true ts vs ds ps
 | [], [], [], _, h, _ => h
 | _ :: _, _ :: _, _ :: _, _, ⟨p, q, ⟨n, hn⟩, h2, e⟩, hs => ⟨p, q, ⟨n, DataW.trod_carry n _ _ _ hn (fun x hx => hs x (by rw [e]; exact List.mem_append_left _ hx))⟩, trodAll_carry' h2 (fun x hx => hs x (by rw [e]; exact List.mem_append_right _ hx)), e⟩
 | [], _ :: _, _, _, h, _ => by simp [DataW.TrodAll] at h
 | [], [], _ :: _, _, h, _ => by simp [DataW.TrodAll] at h
 | _ :: _, [], _, _, h, _ => by simp [DataW.TrodAll] at h
 | _ :: _, _ :: _, [], _, h, _ => by simp [DataW.TrodAll] at h

/-- **A law that answers true, for whatever can be read.** -/
theorem card_true {f : FuncId} {fn : Func} {s : ChangeSpec} {T : TypeId → Prop} {tb : TypeId} {W : World} {base : Nat} {args : Array Value} {ds gs : List (DataW H)} {before : List MemPlace} (K : Kids P (· < P.types.size)) (hz : ∀ t e, t < P.types.size → P.underlying t = some (.slice e) → 0 < P.cellsOf e)
  (PT : PlainT P T) (hT : ∀ t ∈ fn.params.toList, T t ∧ t < P.types.size) (hb : P.underlying tb = some .bool) (hres : fn.resultTypes = #[tb]) (hvars : s.vars = [])
  (hspec : ∀ ds : List (DataW H), ds.length = fn.params.size → s.fn H ds = { results := [.lit (.bool true)], args := ds })
  (hval : ∀ (j : Nat) t v, fn.params[j]? = some t → args[j]? = some v → Value.okWide P W .any base t v) (hW : DataW.Whole enc P fn.params.toList s.vars false W args.toList ds gs before)
  (hglob : GlobIn W)
  (main : ∀ ys : List AV, DReps P fn.params.toList ds ys → AFun P f ys [] (.v (.bool true))) :
  Calls P f args W (fun e W' => ∃ v, e = .returned v ∧ s.post enc P fn false true false false W args v W') := by
 have hW0 := hW
 obtain ⟨p, q, hA, hV, hpq, hfz, hnd⟩ := hW
 rw [hvars] at hV
 obtain ⟨rfl, rfl⟩ := trodVars_none hV
 rw [List.append_nil] at hpq
 subst hpq
 obtain ⟨ys, h1, h2, h3⟩ := args_rep0 PT _ _ _ _ (fun t ht => (hT t ht).1) (fun j t v a b => hval j t v (by simpa using a) (by simpa using b)) hA
 have hlen := trodAll_len hA
 have hc := main ys h1 0 (G0 W) W args (by simpa using h2.symm) (fun i y u a b => (h3 i y u a (by simpa using b)).lift) (G0_heap W) (G0_tags hglob)
 refine (callsIn_wide.1 hc).mono ?_
 rintro e W' ⟨v, G', r, H', rfl, hr, hH, hTg, hk, hl, rfl, rfl⟩
 have hv := rep_v hr
 subst hv
 refine ⟨_, rfl, ds, [], before, [], before, [], hW0, ?_, ?_, ?_, ?_, fun h => by cases h⟩
 ·rw [hres, List.append_nil, hspec ds (by simpa using hlen)]
  exact trodAll_cons_mk (p := []) (shut_bool hb true) trodAll_mk0
 ·rw [List.append_nil, hspec ds (by simpa using hlen)]
  refine trodAll_carry' (DataW.TrodAll.respare K hz (fun t ht => (hT t ht).2) hA (fun p hp => by simpa using hW0.lt p hp)) (fun p hp => ?_)
  have hlt := hW0.lt p hp
  have hb := (hk.old _ (G0_virgin hlt)).1
  cases p with
  | cell b o => exact cell_of_blk hb
  | map b => exact hb
 ·rw [hvars, List.append_nil, hspec ds (by simpa using hlen)]
  rfl
 refine ⟨hk.os, hk.output, fun i hi => ?_⟩
 have hb := (hk.old i (G0_virgin hi)).1
 rw [hb]
 cases ho : W.heap[i]? with
 | none => simp
 | some o => cases o <;> simp
end
end Go.SX
namespace Go.Proofs.YtdpgggmplodldaaGreatDoor
open Go Go.SX Go.SX.Nb Go.ChangeShapes Go.RowKit
set_option maxRecDepth 100000

theorem own : ownKnob Tryz.prog.godebug = none := by kernel_rfl
theorem kids : Kids Tryz.prog (· < Tryz.prog.types.size) := kids_rows (by kernel_rfl) (by kernel_rfl)
theorem full : ∀ t e, t < Tryz.prog.types.size → Tryz.prog.underlying t = some (.slice e) → 0 < Tryz.prog.cellsOf e := slices_full_of Tryz.prog (by kernel_rfl)
theorem bulk_one {H : Type} : ∀ d : DataW H, 1 ≤ Rows.uptoBulk d
 | .lit (.string b) => by rw [Rows.uptoBulk]; omega
 | .lit (.bool _) => by simp [Rows.uptoBulk]
 | .lit (.int _ _) => by simp [Rows.uptoBulk]
 | .lit (.float _ _) => by simp [Rows.uptoBulk]
 | .lit .nil => by simp [Rows.uptoBulk]
 | .nil => by simp [Rows.uptoBulk]
 | .ptr d => by rw [Rows.uptoBulk]; omega
 | .slice a b => by rw [Rows.uptoBulk]; omega
 | .agg a => by rw [Rows.uptoBulk]; omega
 | .iface _ d => by rw [Rows.uptoBulk]; omega
 | .map a => by rw [Rows.uptoBulk]; omega
 | .held _ => by simp [Rows.uptoBulk]
theorem bulk_all {H : Type} : ∀ l : List (DataW H), l.length ≤ Rows.uptoBulkAll l ∧ ∀ d ∈ l, Rows.uptoBulk d ≤ Rows.uptoBulkAll l
 | [] => ⟨Nat.zero_le _, fun d h => by cases h⟩
 | d :: r => by
  obtain ⟨h1, h2⟩ := bulk_all r
  have := bulk_one d
  rw [Rows.uptoBulkAll, List.length_cons]
  refine ⟨by omega, fun x hx => ?_⟩
  rcases List.mem_cons.1 hx with rfl | hx
  ·omega
  have := h2 x hx; omega
theorem bulk {H : Type} : Bulk (Rows.uptoBulk (H := H)) where
 str := fun bs => by rw [Rows.uptoBulk]; omega
 slice := fun elems spare => by
  obtain ⟨h1, h2⟩ := bulk_all elems
  rw [Rows.uptoBulk]
  exact ⟨by omega, fun d hd => by have := h2 d hd; omega⟩
 agg := fun parts d hd => by
  have := (bulk_all parts).2 d hd
  rw [Rows.uptoBulk]
  omega

/-- What the rows of this seat list. -/
def laidZ : List (String × DataW Unit) := Rows.trimKeepsUptoRow.laid
theorem iface_row : ∀ u, Tryz.prog.typeName? 3 u = some "*errors.errorString" → u = 236 := by
 intro u hu
 exact typeName_ptr_named (nm := "errors.errorString") (by kernel_rfl) (by kernel_rfl) (by decide) u hu
theorem err_var {W : World} (h : laidMet Tryz.prog laidZ W) : ∃ a : Addr, W.var? Tryz.prog "strconv.ErrRange" = some #[.iface 236 (.pointer (some a))] := by
 have h' := h.tail.tail.tail.tail
 obtain ⟨a, s, h1, _⟩ := laid_sentinel (g := 0) (ti := 165) (tp := 236) (te := 238) (ts := 9) h' (by kernel_rfl) (by kernel_rfl) Tryz.underlying165 iface_row Tryz.underlying236 Tryz.underlying238 rfl rfl Tryz.underlying9 (by kernel_rfl) (by kernel_rfl)
 exact ⟨a, h1⟩
theorem tab_var {W : World} (h : laidMet Tryz.prog laidZ W) : Lib.TabIs Tryz.prog W "internal/strconv.uint64pow10" .u64 Lib.pow10Tab :=
 Lib.tabIs_of_head (g := 4) (t := 219) (e := 68) (n := 20) (by kernel_rfl) (by kernel_rfl) (by kernel_rfl) (by kernel_rfl) (by kernel_rfl) (by kernel_rfl) h.tail.tail
theorem var_block {P : Program} {W : World} {n : String} {g : Nat} {cs : Array Value} (hg : P.globalNamed n = some g) (h : W.var? P n = some cs) : ∃ t f, W.heap[g]? = some (.cells cs t f) := by
 unfold World.var? at h
 rw [hg] at h
 simp only [Option.bind_some] at h
 split at h
 ·rename_i cs' t f e
  injection h with h
  subst h
  exact ⟨t, f, e⟩
 cases h
theorem glob {W : World} [E : ErrAt] (h : W.ShapedOpen Tryz.prog) (hl : laidMet Tryz.prog laidZ W) (he : W.var? Tryz.prog "strconv.ErrRange" = some #[.iface 236 (.pointer (some E.b))]) : GlobIn W := by
 intro x hx
 have hx' : x ∈ globs := hx
 unfold globs at hx'
 simp only [List.mem_cons, List.mem_nil_iff, or_false] at hx'
 rcases hx' with rfl | rfl | rfl
 ·obtain ⟨m, hm⟩ := cell_of_shapedOpen_int (g := 1) (t := 3) (zero := #[.int .i64 0]) (k := .i64) h (of_decide_eq_true (by kernel_rfl)) (by kernel_rfl) rfl (by kernel_rfl) (by kernel_rfl) Tryz.underlying3
  obtain ⟨cs, hh, hs, _⟩ := h.1 1 #[.int .i64 0] 3 (of_decide_eq_true (by kernel_rfl)) (by kernel_rfl)
  have hs' : cs.size = 1 := hs
  have h1 : 0 < cs.size := by omega
  have hc : cs[0] = .int .i64 m := by
   simp [World.cell?, hh, h1] at hm
   exact hm
  have : cs = #[.int .i64 m] := by
   apply Array.ext
   ·simpa using hs'
   intro i h1 h2
   have : i = 0 := by omega
   subst this
   simpa using hc
  rw [this] at hh
  exact ⟨_, hh, m, 3, _, rfl⟩
 ·obtain ⟨t, f, e⟩ := var_block (g := 0) (by kernel_rfl) he
  exact ⟨_, e, t, f, rfl⟩
 obtain ⟨t, f, e⟩ := var_block (g := 4) (by kernel_rfl) (tab_var hl)
 exact ⟨_, e, t, f, rfl⟩
end Go.Proofs.YtdpgggmplodldaaGreatDoor
namespace Go.SX.Nb
open Go Go.SX Go.Proofs
variable [ErrAt]
set_option maxRecDepth 4000
mutual
def depthE : Expr → Nat
 | .mk _ _ _ k => depthL k + 1
def depthL : List Expr → Nat
  | [] => 0
  | e :: r => max (depthE e) (depthL r)
 end
mutual
def allE (p : Expr → Bool) : Expr → Bool
 | .mk o t v k => p (.mk o t v k) && allL p k
def allL (p : Expr → Bool) : List Expr → Bool
  | [] => true
  | e :: r => allE p e && allL p r
 end
mutual
def nodesE : Expr → List Expr
 | .mk o t v k => .mk o t v k :: nodesL k
def nodesL : List Expr → List Expr
  | [] => []
  | e :: r => nodesE e ++ nodesL r
 end
theorem depthE_eq (e : Expr) : depthE e = depthL e.kids + 1 := by cases e; rfl
theorem allE_eq (p : Expr → Bool) (e : Expr) : allE p e = (p e && allL p e.kids) := by cases e; rfl
theorem nodesE_eq (e : Expr) : nodesE e = e :: nodesL e.kids := by cases e; rfl
theorem depthL_append : ∀ a b, depthL (a ++ b) = max (depthL a) (depthL b)
 | [], b => by rw [List.nil_append, depthL, Nat.zero_max]
 | e :: r, b => by rw [List.cons_append, depthL, depthL, depthL_append r b, Nat.max_assoc]
theorem sizeL_append : ∀ a b, sizeL (a ++ b) = sizeL a + sizeL b
 | [], b => by rw [List.nil_append, sizeL, Nat.zero_add]
 | e :: r, b => by rw [List.cons_append, sizeL, sizeL, sizeL_append r b, Nat.add_assoc]
theorem allL_append (p : Expr → Bool) : ∀ a b, allL p (a ++ b) = (allL p a && allL p b)
 | [], b => by rw [List.nil_append, allL, Bool.true_and]
 | e :: r, b => by rw [List.cons_append, allL, allL, allL_append p r b, Bool.and_assoc]
theorem nodesL_append : ∀ a b, nodesL (a ++ b) = nodesL a ++ nodesL b
 | [], b => rfl
 | e :: r, b => by rw [List.cons_append, nodesL, nodesL, nodesL_append r b, List.append_assoc]
theorem depthL_take (l : List Expr) {x : Nat} (h : x < l.length) : depthL (l.take (x + 1)) = max (depthL (l.take x)) (depthE l[x]) := by
 rw [List.take_succ_eq_append_getElem h, depthL_append, depthL, depthL, Nat.max_zero]
theorem sizeL_take (l : List Expr) {x : Nat} (h : x < l.length) : sizeL (l.take (x + 1)) = sizeL (l.take x) + sizeE l[x] := by
 rw [List.take_succ_eq_append_getElem h, sizeL_append, sizeL, sizeL, Nat.add_zero]
theorem allL_iff (p : Expr → Bool) : ∀ l : List Expr, allL p l = true ↔ ∀ y ∈ l, allE p y = true
 | [] => by simp [allL]
 | e :: r => by rw [allL, Bool.and_eq_true, allL_iff p r]; simp
mutual
theorem itemsE_len : ∀ (d : Int) (e : Expr), (itemsE d e).length = sizeE e
 | d, .mk o t v k => by rw [itemsE, sizeE, List.length_cons, itemsL_len (d + 1) k, Nat.add_comm]
theorem itemsL_len : ∀ (d : Int) (l : List Expr), (itemsL d l).length = sizeL l
  | d, [] => rfl
  | d, e :: r => by rw [itemsL, sizeL, List.length_append, itemsE_len d e, itemsL_len d r]
 end
mutual
theorem itemsE_snd : ∀ (d : Int) (e : Expr), (itemsE d e).map (·.2) = nodesE e
 | d, .mk o t v k => by rw [itemsE, nodesE, List.map_cons, itemsL_snd (d + 1) k]
theorem itemsL_snd : ∀ (d : Int) (l : List Expr), (itemsL d l).map (·.2) = nodesL l
  | d, [] => rfl
  | d, e :: r => by rw [itemsL, nodesL, List.map_append, itemsE_snd d e, itemsL_snd d r]
 end
mutual
theorem nodes_all (p : Expr → Bool) : ∀ e : Expr, (nodesE e).all p = allE p e
 | .mk o t v k => by rw [nodesE, allE, List.all_cons, nodesL_all p k]
theorem nodesL_all (p : Expr → Bool) : ∀ l : List Expr, (nodesL l).all p = allL p l
  | [] => rfl
  | e :: r => by rw [nodesL, allL, List.all_append, nodes_all p e, nodesL_all p r]
 end
theorem items_all (p : Expr → Bool) (d : Int) (e : Expr) : ((itemsE d e).all fun it => p it.2) = allE p e := by
 rw [← nodes_all p e, ← itemsE_snd d e, List.all_map]
 rfl
def deepF (m : Int) (L : List (Int × Expr)) : Int := L.foldl (fun m it => max m it.1) m
mutual
theorem itemsE_max : ∀ (d m : Int) (e : Expr), deepF m (itemsE d e) = max m (d - 1 + depthE e)
 | d, m, .mk o t v k => by
  rw [itemsE, depthE]
  show deepF (max m d) (itemsL (d + 1) k) = _
  rw [itemsL_max (d + 1) (max m d) k (by omega)]
  omega
theorem itemsL_max : ∀ (d m : Int) (l : List Expr), d - 1 ≤ m → deepF m (itemsL d l) = max m (d - 1 + depthL l)
  | d, m, [], h => by
    rw [itemsL, depthL]
    show m = _
    omega
  | d, m, e :: r, h => by
    rw [itemsL, depthL]
    unfold deepF
    rw [List.foldl_append]
    show deepF (deepF m (itemsE d e)) (itemsL d r) = _
    rw [itemsE_max d m e, itemsL_max d _ r (by omega)]
    omega
 end
theorem depth_items (e : Expr) : deepF 0 (itemsE 1 e) = depthE e := by rw [itemsE_max]; omega
theorem deepF_le : ∀ (L : List (Int × Expr)) (m b : Int), m ≤ b → (deepF m L ≤ b ↔ ∀ it ∈ L, it.1 ≤ b)
 | [], m, b, h => by simp [deepF, h]
 | it :: r, m, b, h => by
  show deepF (max m it.1) r ≤ b ↔ _
  rcases Decidable.em (it.1 ≤ b) with h1 | h1
  ·rw [deepF_le r (max m it.1) b (by omega)]
   simp [h1]
  constructor
  ·intro h2
   have : ∀ (r : List (Int × Expr)) (m : Int), m ≤ deepF m r := by
    intro r
    induction r with
    | nil => intro m; exact Int.le_refl _
    | cons a r ih => intro m; have := ih (max m a.1); show m ≤ deepF (max m a.1) r; omega
   have := this r (max m it.1)
   omega
  intro h2
  exact absurd (h2 it (by simp)) h1
theorem deep_le (e : Expr) {b : Nat} : (∀ it ∈ itemsE 1 e, it.1 ≤ (b : Int)) ↔ depthE e ≤ b := by
 rw [← deepF_le (itemsE 1 e) 0 b (by omega), depth_items]
 omega
def refRightM (e : Expr) : Bool := (decide (depthE e ≤ 30) && decide (sizeE e ≤ 300)) && allE nodeM e
theorem exprRight_eq (e : Expr) : exprRightM e = refRightM e := by
 have hpos : 1 ≤ sizeE e := by rw [sizeE_eq]; omega
 rw [Bool.eq_iff_iff]
 unfold exprRightM refRightM
 rw [List.all_eq_true]
 simp only [Bool.and_eq_true, decide_eq_true_eq, List.mem_range, itemsE_len]
 rw [← deep_le e, ← items_all nodeM 1 e, List.all_eq_true]
 constructor
 ·intro h
  have key : ∀ (k : Nat) (hk : k < (itemsE 1 e).length), nodeM (itemsE 1 e)[k].2 = true ∧ (itemsE 1 e)[k].1 ≤ 30 ∧ (k : Int) + 1 ≤ 300 := fun k hk => by
   have := h k (by rw [itemsE_len] at hk; exact hk)
   rw [goM_at (List.getElem?_eq_getElem hk)] at this
   simp only [Bool.not_eq_true', Bool.or_eq_false_iff, Bool.not_eq_false', decide_eq_false_iff_not] at this
   exact ⟨this.1.1, by have := this.1.2; omega, by have := this.2; omega⟩
  refine ⟨⟨fun it hit => ?_, ?_⟩, fun it hit => ?_⟩
  ·obtain ⟨k, hk, rfl⟩ := List.getElem_of_mem hit
   exact (key k hk).2.1
  ·have := (key (sizeE e - 1) (by rw [itemsE_len]; omega)).2.2
   omega
  obtain ⟨k, hk, rfl⟩ := List.getElem_of_mem hit
  exact (key k hk).1
 rintro ⟨⟨h1, h2⟩, h3⟩ k hk
 have hk' : k < (itemsE 1 e).length := by rw [itemsE_len]; exact hk
 rw [goM_at (List.getElem?_eq_getElem hk')]
 have a1 := h1 _ (List.getElem_mem hk')
 have a3 := h3 _ (List.getElem_mem hk')
 have a3' : nodeM (itemsE 1 e)[k].2 = true := a3
 rw [a3']
 simp only [Bool.not_eq_true', Bool.or_eq_false_iff, Bool.not_true, decide_eq_false_iff_not]
 exact ⟨⟨trivial, by have : (itemsE 1 e)[k].1 ≤ (30 : Int) := a1; omega⟩, by omega⟩
/-- Its number is one of 64 bits. -/
def rngN (e : Expr) : Bool := decide (-9223372036854775808 ≤ e.val.n) && decide (e.val.n ≤ 9223372036854775807)
/-! Names. -/
def addName (l : List Str) (e : Expr) : List Str := if (e.op == 2) && !l.contains e.text then l ++ [e.text] else l
def exprNamesM (e : Expr) : List Str := (nodesE e).foldl addName []
def named (s : Str) (e : Expr) : Bool := (nodesE e).any fun y => (y.op == 2) && (y.text == s)
def namedL (s : Str) (l : List Expr) : Bool := (nodesL l).any fun y => (y.op == 2) && (y.text == s)
theorem named_eq (s : Str) (e : Expr) : named s e = (((e.op == 2) && (e.text == s)) || namedL s e.kids) := by unfold named namedL; rw [nodesE_eq, List.any_cons]
theorem namedL_cons (s : Str) (e : Expr) (r : List Expr) : namedL s (e :: r) = (named s e || namedL s r) := by unfold named namedL; rw [nodesL, List.any_append]
theorem add_mem (s : Str) (l : List Str) (e : Expr) : s ∈ addName l e ↔ s ∈ l ∨ ((e.op == 2) && (e.text == s)) = true := by
 unfold addName
 split
 ·rename_i h
  simp only [Bool.and_eq_true, beq_iff_eq] at h ⊢
  simp only [List.mem_append, List.mem_cons, List.not_mem_nil, or_false]
  constructor
  ·rintro (h1 | h1)
   ·exact .inl h1
   exact .inr ⟨h.1, h1.symm⟩
  rintro (h1 | h1)
  ·exact .inl h1
  exact .inr h1.2.symm
 rename_i h
 simp only [Bool.and_eq_true, beq_iff_eq, not_and, Bool.not_eq_true', Bool.not_eq_false, List.contains_iff_mem] at h ⊢
 constructor
 ·exact .inl
 rintro (h1 | ⟨h1, rfl⟩)
 ·exact h1
 exact h h1
theorem fold_mem (s : Str) : ∀ (L : List Expr) (l : List Str), s ∈ L.foldl addName l ↔ s ∈ l ∨ (L.any fun y => (y.op == 2) && (y.text == s)) = true
 | [], l => by simp
 | e :: r, l => by
  rw [List.foldl_cons, fold_mem s r, add_mem, List.any_cons, Bool.or_eq_true, or_assoc]
theorem names_mem (s : Str) (e : Expr) : (exprNamesM e).contains s = named s e := by
 rw [Bool.eq_iff_iff, List.contains_iff_mem]
 unfold exprNamesM named
 rw [fold_mem]
 simp
theorem add_len (l : List Str) (e : Expr) : (addName l e).length ≤ l.length + 1 := by
 unfold addName; split <;> simp
theorem fold_len : ∀ (L : List Expr) (l : List Str), (L.foldl addName l).length ≤ l.length + L.length
 | [], l => by simp
 | e :: r, l => by
  have h1 := fold_len r (addName l e)
  have h2 := add_len l e
  rw [List.foldl_cons, List.length_cons]
  omega
theorem nodes_len (e : Expr) : (nodesE e).length = sizeE e := by rw [← itemsE_snd 1 e, List.length_map, itemsE_len]
mutual
def putE (s : Str) (y : Expr) : Expr → Expr
 | .mk o t v k => if (o == 2) && (t == s) then y else .mk o t v (putL s y k)
def putL (s : Str) (y : Expr) : List Expr → List Expr
  | [] => []
  | e :: r => putE s y e :: putL s y r
 end
mutual
def eqE : Expr → Expr → Bool
 | .mk o t v k, .mk o' t' v' k' => ((((o == o') && (t == t')) && ((v.kind == v'.kind && v.n == v'.n) && v.s == v'.s))) && eqL k k'
def eqL : List Expr → List Expr → Bool
  | [], [] => true
  | e :: r, e' :: r' => eqE e e' && eqL r r'
  | _, _ => false
 end
theorem eqE_eq (x y : Expr) : eqE x y = ((((x.op == y.op) && (x.text == y.text)) && ((x.val.kind == y.val.kind && x.val.n == y.val.n) && x.val.s == y.val.s)) && eqL x.kids y.kids) := by
 cases x; cases y; rw [eqE]; rfl
mutual
theorem eqE_iff : ∀ x y : Expr, eqE x y = true ↔ x = y
 | .mk o t v k, .mk o' t' v' k' => by
  rw [eqE]
  simp only [Bool.and_eq_true, beq_iff_eq, eqL_iff k k', Expr.mk.injEq]
  constructor
  ·rintro ⟨⟨⟨rfl, rfl⟩, ⟨h1, h2⟩, h3⟩, rfl⟩
   refine ⟨rfl, rfl, ?_, rfl⟩
   cases v; cases v'
   simp_all
  rintro ⟨rfl, rfl, rfl, rfl⟩
  exact ⟨⟨⟨rfl, rfl⟩, ⟨rfl, rfl⟩, rfl⟩, rfl⟩
theorem eqL_iff : ∀ x y : List Expr, eqL x y = true ↔ x = y
  | [], [] => by simp [eqL]
  | [], e :: r => by simp [eqL]
  | e :: r, [] => by simp [eqL]
  | e :: r, e' :: r' => by rw [eqL, Bool.and_eq_true, eqE_iff e e', eqL_iff r r', List.cons.injEq]
 end
theorem eqL_len : ∀ {x y : List Expr}, eqL x y = true → x.length = y.length := fun h => by rw [(eqL_iff _ _).1 h]
theorem eqE_refl (x : Expr) : eqE x x = true := (eqE_iff x x).2 rfl
/-! A node by itself, and marks. -/
theorem isMark_words {of : Str} {ws : List Str} (h : of = textOf ws) (hp : ∀ w ∈ ws, (32 : UInt8) ∉ w) (s : Str) : isMarkM s of = (!(s == []) && ws.contains s) := by
 unfold isMarkM
 rw [no_blank]
 cases hb : s.contains 32 with
 | false =>
  have h2 : (32 : UInt8) ∉ s := by simpa using hb
  rw [h, contains_words s h2 ws hp, Bool.not_false, Bool.and_true]
  congr 1
  rw [List.contains_eq_any_beq]
  congr 1
  funext w
  rw [Bool.eq_iff_iff, beq_iff_eq, beq_iff_eq]
  exact eq_comm
 | true =>
  have h2 : (32 : UInt8) ∈ s := by simpa using hb
  have h3 : ws.contains s = false := by
   rw [Bool.eq_false_iff]
   intro h4
   exact hp s (by simpa using h4) h2
  rw [h3]
  simp
def levels : List (List Str) := [[[111, 114]], [[97, 110, 100]], [], [[61], [33, 61], [60], [60, 61], [62], [62, 61]], [[43], [45], [38]], [[42], [47], [37]]]
def levelM (s : Str) : Int := match levels.findIdx? (fun l => l.contains s) with | some i => i | none => -1
def markWords : List Str := [[111, 114], [], [97, 110, 100], [], [61], [33, 61], [60], [60, 61], [62], [62, 61], [], [43], [45], [38], [], [42], [47], [37]]
theorem marks_text : marksText = textOf markWords := by kernel_rfl
theorem marks_plain : ∀ w ∈ markWords, (32 : UInt8) ∉ w := by decide
theorem level_mark (s : Str) : isMarkM s marksText = decide (0 ≤ levelM s) := by
 rw [isMark_words marks_text marks_plain s]
 have h1 : decide (0 ≤ levelM s) = levels.any (fun l => l.contains s) := by
  unfold levelM
  cases h : levels.findIdx? (fun l => l.contains s) with
  | some i =>
   have : levels.any (fun l => l.contains s) = true := by
    have := List.findIdx?_eq_some_iff_getElem.1 h
    obtain ⟨hi, hp, _⟩ := this
    exact List.any_eq_true.2 ⟨_, List.getElem_mem hi, hp⟩
   rw [this]
   simp
  | none =>
   have := List.findIdx?_eq_none_iff.1 h
   have e : levels.any (fun l => l.contains s) = false := by
    rw [List.any_eq_false]
    intro l hl
    rw [this l hl]
    simp
   rw [e]
   rfl
 rw [h1]
 by_cases h0 : s = []
 ·subst h0; rfl
 have : (s == []) = false := by simpa using h0
 rw [this, Bool.not_false, Bool.true_and]
 simp [levels, markWords, h0, Bool.or_assoc]
def nodeOneM (e : Expr) : Bool :=
 if e.op == 1 then ((plainM e.val && decide (0 ≤ e.val.n)) && (e.text == [])) && ((e.kids.length : Int) == 0)
 else if !(bareM e.val) then false
 else if e.op == 2 then nameM e.text && ((e.kids.length : Int) == 0)
 else if e.op == 3 || e.op == 4 then (e.text == []) && ((e.kids.length : Int) == 1)
 else if e.op == 5 then decide (0 ≤ levelM e.text) && ((e.kids.length : Int) == 2)
 else if e.op == 6 then arityM e.text == (e.kids.length : Int)
 else false
theorem node_one (e : Expr) : nodeM e = nodeOneM e := by
 unfold nodeM nodeOneM
 rw [level_mark, lexName_eq]
 cases bareM e.val <;> simp
/-! What is wide. -/
def fatM (e : Expr) : Bool := ((decide ((100 : Int) < e.text.length) || decide ((400 : Int) < e.val.s.length)) || decide ((100 : Int) < e.kids.length))
/-- Among trees, when n have been seen: is one too much? -/
def manyF (l : List Expr) (n : Nat) : Bool := decide (500 < n + l.length) || l.any fatM
def wideF : Nat → List Expr → Nat → Bool
 | 0, l, n => !l.isEmpty
 | f + 1, l, n => if l.isEmpty then false else if manyF l n then true else if decide ((500 : Int) < (l.flatMap Expr.kids).length) then true else wideF f (l.flatMap Expr.kids) (n + l.length)
theorem sizeL_kids : ∀ l : List Expr, sizeL l = l.length + sizeL (l.flatMap Expr.kids)
 | [] => rfl
 | e :: r => by
  rw [sizeL, sizeE_eq, List.flatMap_cons, sizeL_append, sizeL_kids r, List.length_cons]
  omega
theorem many_out {l : List Expr} {n : Nat} (h : manyF l n = false) : n + l.length ≤ 500 ∧ ∀ e ∈ l, fatM e = false := by
 unfold manyF at h
 simp only [Bool.or_eq_false_iff, decide_eq_false_iff_not, List.any_eq_false, Bool.not_eq_true] at h
 exact ⟨by omega, h.2⟩
theorem fat_out {e : Expr} (h : fatM e = false) : e.text.length ≤ 100 ∧ e.val.s.length ≤ 400 ∧ e.kids.length ≤ 100 := by
 unfold fatM at h
 simp only [Bool.or_eq_false_iff, decide_eq_false_iff_not] at h
 omega
theorem wide_step {f : Nat} {l : List Expr} {n : Nat} (h : wideF (f + 1) l n = false) (hl : l.isEmpty = false) : manyF l n = false ∧ (l.flatMap Expr.kids).length ≤ 500 ∧ wideF f (l.flatMap Expr.kids) (n + l.length) = false := by
 rw [wideF, if_neg (by rw [hl]; simp)] at h
 split at h
 ·cases h
 rename_i h1
 split at h
 ·cases h
 rename_i h2
 simp only [decide_eq_true_eq] at h2
 exact ⟨by simpa using h1, by omega, h⟩
theorem wide_ok : ∀ (f : Nat) (l : List Expr) (n : Nat), wideF f l n = false → ∀ e ∈ l, okE f e ∧ allE (fun y => !fatM y) e = true
 | 0, l, n, h, e, he => by
  have : l = [] := by simpa [wideF] using h
  subst this
  cases he
 | f + 1, l, n, h, e, he => by
  have hl : l.isEmpty = false := by cases l <;> simp_all
  obtain ⟨h1, h2, h3⟩ := wide_step h hl
  have h4 := fat_out ((many_out h1).2 e he)
  have ih := wide_ok f _ _ h3
  have hk : ∀ y ∈ e.kids, okE f y ∧ allE (fun y => !fatM y) y = true := fun y hy => ih y (List.mem_flatMap.2 ⟨e, he, hy⟩)
  refine ⟨⟨by omega, by omega, fun y hy => (hk y hy).1⟩, ?_⟩
  rw [allE_eq, (many_out h1).2 e he, (allL_iff _ _).2 fun y hy => (hk y hy).2]
  rfl
theorem wide_size : ∀ (f : Nat) (l : List Expr) (n : Nat), n ≤ 500 → wideF f l n = false → n + sizeL l ≤ 500
 | 0, l, n, hn, h => by
  have : l = [] := by simpa [wideF] using h
  subst this
  simpa [sizeL] using hn
 | f + 1, l, n, hn, h => by
  by_cases hl : l.isEmpty = true
  ·have : l = [] := by simpa using hl
   subst this
   simpa [sizeL] using hn
  have hl' : l.isEmpty = false := by simpa using hl
  obtain ⟨h1, h2, h3⟩ := wide_step h hl'
  have := wide_size f _ _ (many_out h1).1 h3
  rw [sizeL_kids l]
  omega
def wideM (e : Expr) : Bool := wideF 61 [e] 0
/-- A tree that is gone through. -/
structure Slim (e : Expr) : Prop where
 ok : okE 61 e
 size : sizeE e ≤ 500
 slim : allE (fun y => !fatM y) e = true
theorem slim_of {e : Expr} (h : wideM e = false) : Slim e := by
 obtain ⟨h1, h2⟩ := wide_ok _ _ _ h e (by simp)
 have := wide_size _ _ _ (by decide) h
 exact ⟨h1, by simpa [sizeL] using this, h2⟩
end Go.SX.Nb
namespace Go.Proofs.YtdpgggmplodldaaGreatDoor
open Go Go.SX Go.SX.Nb Go.ChangeShapes Go.RowKit
set_option maxRecDepth 100000
theorem exprs_list {ys : List AV} (h : ∀ (i : Nat) (y : AV), ys[i]? = some y → ∃ e : Nb.Expr, y = exprA e ∧ allE rngN e = true) : ∃ l : List Nb.Expr, ys = l.map exprA ∧ allL rngN l = true := by
 induction ys with
 | nil => exact ⟨[], rfl, rfl⟩
 | cons y ys ih =>
  obtain ⟨e, rfl, he⟩ := h 0 y rfl
  obtain ⟨l, rfl, hl⟩ := ih (fun i z hz => h (i + 1) z hz)
  exact ⟨e :: l, rfl, by rw [allL, he, hl]; rfl⟩
theorem val_any {H : Type} [ErrAt] (d : DataW H) (y : AV) (h : DRep Tryz.prog 23 d y) : ∃ v : Val, y = valA v ∧ -9223372036854775808 ≤ v.n ∧ v.n ≤ 9223372036854775807 := by
 obtain ⟨ys, hn, rfl, hh⟩ := h.struct' bulk Tryz.underlying23
 match ys, hn with
 | [y0, y1, y2], _ =>
  obtain ⟨d0, b0, h0⟩ := hh 0 _ y0 rfl rfl
  obtain ⟨d1, b1, h1⟩ := hh 1 _ y1 rfl rfl
  obtain ⟨d2, b2, h2⟩ := hh 2 _ y2 rfl rfl
  obtain ⟨k, rfl, rfl, _⟩ := h0.int' Tryz.underlying3
  obtain ⟨n, rfl, rfl, hn1, hn2⟩ := h1.int' Tryz.underlying2
  obtain ⟨s, rfl, rfl⟩ := h2.str' Tryz.underlying9
  exact ⟨⟨k, n, s⟩, rfl, hn1, hn2⟩
theorem expr_aux {H : Type} [ErrAt] {t : TypeId} {d : DataW H} {y : AV} (h : DRep Tryz.prog t d y) : (t = 26 → ∃ e : Nb.Expr, y = exprA e ∧ allE rngN e = true) ∧ (t = 24 → ∃ l : List Nb.Expr, y = .slice false 6 (l.map exprA) ∧ allL rngN l = true) := by
 induction h with
 | int hu _ => exact ⟨fun e => (by subst e; rw [Tryz.underlying26] at hu; cases hu), fun e => by subst e; rw [Tryz.underlying24] at hu; cases hu⟩
 | bool hu => exact ⟨fun e => (by subst e; rw [Tryz.underlying26] at hu; cases hu), fun e => by subst e; rw [Tryz.underlying24] at hu; cases hu⟩
 | str hu => exact ⟨fun e => (by subst e; rw [Tryz.underlying26] at hu; cases hu), fun e => by subst e; rw [Tryz.underlying24] at hu; cases hu⟩
 | nil hu =>
  refine ⟨fun e => (by subst e; rw [Tryz.underlying26] at hu; cases hu), fun e => ?_⟩
  subst e
  rw [Tryz.underlying24] at hu
  injection hu with hu
  injection hu with hu
  subst hu
  exact ⟨[], by rw [show Tryz.prog.cellsOf 26 = 6 by kernel_rfl]; rfl, rfl⟩
 | slice hu hn hh ih =>
  refine ⟨fun e => (by subst e; rw [Tryz.underlying26] at hu; cases hu), fun e => ?_⟩
  subst e
  rw [Tryz.underlying24] at hu
  injection hu with hu
  injection hu with hu
  subst hu
  rename_i elems spare ys
  obtain ⟨l, rfl, hl⟩ := exprs_list (ys := ys) (fun i y hy => by
   have hlt : i < elems.length := by rw [← hn]; exact (List.getElem?_eq_some_iff.1 hy).1
   exact (ih i elems[i] y (List.getElem?_eq_getElem hlt) hy).1 rfl)
  exact ⟨l, by rw [show Tryz.prog.cellsOf 26 = 6 by kernel_rfl], hl⟩
 | struct hu hn hn' hh ih =>
  refine ⟨fun e => ?_, fun e => by subst e; rw [Tryz.underlying24] at hu; cases hu⟩
  subst e
  rw [Tryz.underlying26] at hu
  injection hu with hu
  injection hu with hu
  subst hu
  rename_i parts ys
  match parts, hn, ys, hn' with
  | [p0, p1, p2, p3], _, [y0, y1, y2, y3], _ =>
   obtain ⟨o, rfl, rfl, _⟩ := (hh 0 _ p0 y0 rfl rfl rfl).int' Tryz.underlying3
   obtain ⟨s, rfl, rfl⟩ := (hh 1 _ p1 y1 rfl rfl rfl).str' Tryz.underlying9
   obtain ⟨v, rfl, hv1, hv2⟩ := val_any p2 y2 (hh 2 _ p2 y2 rfl rfl rfl)
   obtain ⟨l, rfl, hl⟩ := (ih 3 _ p3 y3 rfl rfl rfl).2 rfl
   refine ⟨.mk o s v l, ?_, ?_⟩
   ·rw [exprA_eq]; rfl
   rw [allE, hl, Bool.and_true]
   show (decide (-9223372036854775808 ≤ v.n) && decide (v.n ≤ 9223372036854775807)) = true
   simp [hv1, hv2]
theorem expr_any {H : Type} [ErrAt] (d : DataW H) (y : AV) (h : DRep Tryz.prog 26 d y) : ∃ e : Nb.Expr, y = exprA e ∧ allE rngN e = true := (expr_aux h).1 rfl
end Go.Proofs.YtdpgggmplodldaaGreatDoor
namespace Go.SX.Nb
open Go Go.SX Go.Proofs
variable [ErrAt]
set_option maxRecDepth 4000
/-- The lexer from a place between two words on. -/
def lexG (f q : Nat) (s : Str) : List (Tok × Int) := itemsF f (q + gapM s) (s.drop (gapM s))
theorem itemsF_step {f q : Nat} {s : Str} (h : s ≠ []) : ∃ (n : Nat), itemsF (f + 1) q s = (⟨(wordM s).1, (wordM s).2.1, q⟩, (wordM s).2.2.2) :: (if (wordM s).2.2.2 = 0 then lexG f (q + n) (s.drop n) else []) ∧ ((wordM s).2.2.2 = 0 → (wordM s).2.2.1 = (n : Int) ∧ 1 ≤ n ∧ n ≤ s.length) := by
 refine ⟨(wordM s).2.2.1.toNat, ?_, fun he => ?_⟩
 ·rw [itemsF_cons h]
  simp only [beq_iff_eq]
  rfl
 obtain ⟨n, h1, h2, h3⟩ := word_ok (s := s) (by cases s with | nil => exact absurd rfl h | cons c r => simp) he
 rw [h1]
 exact ⟨rfl, by simpa using h2, by simpa using h3⟩
def shiftT (d : Nat) (it : Tok × Int) : Tok × Int := (⟨it.1.kind, it.1.text, it.1.at_ + d⟩, it.2)
/-! ### Gaps -/
/-! ### Words -/
def insX (note : Str) : Str := 32 :: 9 :: 35 :: (note ++ [10, 32])
theorem lexM_ok {s : Str} (h : (lexM s).2.1 = 0) : s.length ≤ 4000 ∧ (∀ it ∈ itemsT s, it.2 = 0) ∧ lexM s = ((itemsT s).map (·.1) ++ [⟨0, [], s.length⟩], 0, 0) := by
 unfold lexM at h ⊢
 split at h
 ·exact absurd h (show ¬ (3 : Int) = 0 by decide)
 rename_i hl
 rw [if_neg hl]
 cases hf : (itemsT s).find? (fun it => it.2 != 0) with
 | some it =>
  rw [hf] at h
  have := List.find?_some hf
  simp at this
  exact absurd h this
 | none =>
  rw [List.find?_eq_none] at hf
  refine ⟨by omega, fun it hit => by simpa using hf it hit, rfl⟩
def shiftTok (d : Nat) (t : Tok) : Tok := ⟨t.kind, t.text, t.at_ + d⟩
def colT (c : Col) : Str := c.name ++ [32] ++ kindNameM c.kind
def colsT (l : List Col) : Str := Lib.join (l.map colT) [44, 32]
def dblC (c : UInt8) : Str := if c = 39 then [39, 39] else [c]
def dblM (t : Str) : Str := t.flatMap dblC
theorem dblM_len : ∀ t : Str, (dblM t).length ≤ 2 * t.length
 | [] => Nat.le_refl _
 | c :: r => by
  have := dblM_len r
  unfold dblM at this ⊢
  rw [List.flatMap_cons, List.length_append, List.length_cons]
  have h : (dblC c).length ≤ 2 := by unfold dblC; split <;> simp
  omega
abbrev bytesA (l : Str) : AV := .slice true 1 (l.map u8A)
theorem hlb {t : Str} (ht : t.length ≤ 1048576) (x : Nat) : (dblM (t.take x)).length ≤ 2097152 := by
 have := dblM_len (t.take x)
 have h2 : (t.take x).length ≤ t.length := by rw [List.length_take]; omega
 omega
theorem dblM_cons (c : UInt8) (r : Str) : dblM (c :: r) = dblC c ++ dblM r := by unfold dblM; rw [List.flatMap_cons]
theorem split39 : ∀ s : Str, (Lib.index s [39] = -1 ∧ dblM s = s) ∨ ∃ i : Nat, Lib.index s [39] = (i : Int) ∧ i < s.length ∧ dblM s = s.take i ++ [39, 39] ++ dblM (s.drop (i + 1))
 | [] => .inl ⟨rfl, rfl⟩
 | b :: l => by
  by_cases hb : b = 39
  ·subst hb
   refine .inr ⟨0, by simp [Lib.index, List.isPrefixOf], by simp, ?_⟩
   rw [dblM_cons]
   simp [dblC]
  have hp : ([39] : Str).isPrefixOf (b :: l) = false := by
   simp [List.isPrefixOf, Ne.symm hb]
  have hd : dblM (b :: l) = b :: dblM l := by
   rw [dblM_cons, dblC, if_neg hb]
   rfl
  rcases split39 l with ⟨h1, h2⟩ | ⟨i, h1, h2, h3⟩
  ·refine .inl ⟨?_, by rw [hd, h2]⟩
   rw [Lib.index, hp, h1]; rfl
  refine .inr ⟨i + 1, ?_, by simp; omega, ?_⟩
  ·rw [Lib.index, hp, h1, if_neg (by simp), if_neg (by simp)]
   rfl
  rw [hd, h3]
  simp
theorem replaceK_dbl : ∀ (n : Nat) (s : Str), s.length ≤ n → Lib.replaceK [39] [39, 39] (Lib.count s [39]) s = dblM s
 | n, s, hn => by
  rcases split39 s with ⟨h1, h2⟩ | ⟨i, h1, h2, h3⟩
  ·rw [Lib.count_miss h1, h2]; rfl
  cases n with
  | zero => omega
  | succ n =>
   rw [Lib.count_hit (by decide) h1, Nat.add_comm, Lib.replaceK_hit _ _ _ _ i h1]
   have e : i + ([39] : Str).length = i + 1 := rfl
   rw [e, replaceK_dbl n (s.drop (i + 1)) (by rw [List.length_drop]; omega), h3]
theorem replace_dbl (s : Str) : Lib.replaceAll s [39] [39, 39] = dblM s := by
 unfold Lib.replaceAll Lib.replace
 rw [if_neg (by decide)]
 have e : Lib.replaceNum s [39] (-1) = Lib.count s [39] := by unfold Lib.replaceNum; rw [if_pos (.inl (by decide))]
 rw [e]
 exact replaceK_dbl _ s (Nat.le_refl _)
def spell (t : Tok) : Str := if t.kind = 4 then [39] ++ dblM t.text ++ [39] else t.text
def joinT (l : List Tok) : Str := l.flatMap fun t => spell t ++ [32]
theorem text_spell {q : Str} (h0 : q.headD 0 = 39) (h1 : 1 ≤ q.length) (h : (readM q).2 = 0) : [39] ++ dblM (readM q).1.s ++ [39] = q := by
 cases q with
 | nil => simp at h1
 | cons c r =>
  have hc : c = 39 := h0
  subst hc
  unfold readM at h ⊢
  have n1 : ((39 :: r : Str) == [110, 117, 108, 108]) = false := by rw [beq_eq_false_iff_ne]; intro e; injection e with e; exact absurd e (by decide)
  have n2 : ((39 :: r : Str) == [116, 114, 117, 101]) = false := by rw [beq_eq_false_iff_ne]; intro e; injection e with e; exact absurd e (by decide)
  have n3 : ((39 :: r : Str) == [102, 97, 108, 115, 101]) = false := by rw [beq_eq_false_iff_ne]; intro e; injection e with e; exact absurd e (by decide)
  rw [n1, n2, n3] at h ⊢
  simp only [Bool.false_eq_true, if_false, Bool.or_self] at h ⊢
  by_cases hq : quotM (39 :: r) = true
  ·rw [if_pos hq] at h ⊢
   unfold textR at h ⊢
   split at h
   ·exact absurd h (show ¬ (7 : Int) = 0 by decide)
   rename_i hp
   rw [if_neg hp]
   have hp' : printM (textV (39 :: r)) = 39 :: r := by simpa using hp
   have hk : (textV (39 :: r)).kind = 2 := rfl
   show [39] ++ dblM (textV (39 :: r)).s ++ [39] = 39 :: r
   generalize textV (39 :: r) = v at hp' hk
   have hne : printM v ≠ [] := by rw [hp']; simp
   rw [← hp']
   unfold printM at hne ⊢
   split at hne
   ·exact absurd rfl hne
   rename_i hpl
   rw [if_neg hpl, hk, if_neg (by decide), if_pos (by decide), replace_dbl]
  rw [if_neg hq] at h
  have hd : numBad (39 :: r) = true := by
   unfold numBad
   have e : numDs (39 :: r) = 39 :: r := by
    rcases numDs_cases (39 :: r) with ⟨_, h4⟩ | ⟨r', h3, _⟩
    ·exact h4
    injection h3 with h3; exact absurd h3 (by decide)
   rw [e]
   have : (Lib.trimS (39 :: r) digs == []) = false := by
    rw [beq_eq_false_iff_ne]
    intro e
    rw [trimS_nil] at e
    exact absurd (e 39 (by simp)) (by decide)
   rw [this]
   simp
  have hn : numReadM (39 :: r) = (0, 6) := by unfold numReadM; rw [if_pos hd]
  rw [hn] at h
  simp at h
theorem take_len_take (s : Str) (m : Nat) : s.take (s.take m).length = s.take m := by
 rw [List.length_take]
 rcases Nat.le_total m s.length with h | h
 ·rw [Nat.min_eq_left h]
 rw [Nat.min_eq_right h, List.take_of_length_le (Nat.le_refl _), List.take_of_length_le h]
theorem wordOf_take (s of : Str) : s.take (wordOf s of).length = wordOf s of := by
 unfold wordOf
 exact take_len_take s _
/-- What a word's print spells is what was read. -/
theorem word_spell {s : Str} {n p : Nat} (h0 : 1 ≤ s.length) (he : (wordM s).2.2.2 = 0) (hn : (wordM s).2.2.1 = (n : Int)) : spell ⟨(wordM s).1, (wordM s).2.1, p⟩ = s.take n := by
 cases s with
 | nil => simp at h0
 | cons c r =>
  unfold wordM at he hn ⊢
  by_cases c1 : decide (0 < runM ((c :: r).take 1) letters) = true
  ·rw [if_pos c1] at he hn
   simp only [if_pos c1]
   unfold namedM at he hn ⊢
   by_cases r1 : lexReservedM (wordOf (c :: r) tails) = true
   ·rw [if_pos r1] at hn
    simp only [if_pos r1]
    have hn' : (((wordOf (c :: r) tails).length : Nat) : Int) = n := hn
    have e : n = (wordOf (c :: r) tails).length := by omega
    rw [e, wordOf_take]
    rfl
   rw [if_neg r1] at he hn
   simp only [if_neg r1]
   by_cases r2 : (!lexNameM (wordOf (c :: r) tails)) = true
   ·rw [if_pos r2] at he; exact absurd he (show ¬ (3 : Int) = 0 by decide)
   rw [if_neg r2] at hn
   simp only [if_neg r2]
   have hn' : (((wordOf (c :: r) tails).length : Nat) : Int) = n := hn
   have e : n = (wordOf (c :: r) tails).length := by omega
   rw [e, wordOf_take]
   rfl
  rw [if_neg c1] at he hn
  simp only [if_neg c1]
  by_cases c2 : decide (0 < runM ((c :: r).take 1) digs) = true
  ·rw [if_pos c2] at he hn
   simp only [if_pos c2]
   have hn' : (((wordOf (c :: r) digs).length : Nat) : Int) = n := hn
   have e : n = (wordOf (c :: r) digs).length := by omega
   rw [e, wordOf_take]
   rfl
  rw [if_neg c2] at he hn
  simp only [if_neg c2]
  by_cases c3 : (((((c :: r)).getD 0 0).toNat : Int) == 39) = true
  ·rw [if_pos c3] at he hn
   simp only [if_pos c3]
   have hc : c = 39 := by
    have c3' : ((c.toNat : Int) == 39) = true := c3
    exact UInt8.toNat_inj.1 (by have : (39 : UInt8).toNat = 39 := rfl; simp at c3'; omega)
   unfold quotedM at he hn ⊢
   cases hq : closeQ ((c :: r).drop 1) with
   | none => rw [hq] at he; exact absurd he (show ¬ (7 : Int) = 0 by decide)
   | some m =>
    rw [hq] at he hn
    simp only at he hn ⊢
    split at he
    ·exact absurd he (show ¬ (3 : Int) = 0 by decide)
    rename_i hr
    rw [if_neg hr] at hn
    simp only [if_neg hr]
    have hm' : (((m + 1 : Nat)) : Int) = n := hn
    have hm : n = m + 1 := by omega
    subst hm
    have hr' : (readM ((c :: r).take (m + 1))).2 = 0 := by simpa using hr
    have := text_spell (q := (c :: r).take (m + 1)) (by rw [hc]; rfl) (by simp) hr'
    unfold spell
    rw [if_pos rfl]
    exact this
  rw [if_neg c3] at he hn
  simp only [if_neg c3]
  unfold signM at he hn ⊢
  split at hn
  ·rename_i h2
   simp only [if_pos h2]
   have hn' : (2 : Int) = n := hn
   have : n = 2 := by omega
   subst this
   rfl
  rename_i h2
  rw [if_neg h2] at he
  simp only [if_neg h2]
  split at hn
  ·rename_i h3
   simp only [if_pos h3]
   have hn' : (1 : Int) = n := hn
   have : n = 1 := by omega
   subst this
   rfl
  rename_i h3
  rw [if_neg h3] at he
  exact absurd he (show ¬ (7 : Int) = 0 by decide)
def sameT (it : Tok × Int) : Int × Str × Int := (it.1.kind, it.1.text, it.2)
/-! What is printed of columns, word by word. -/
structure ColOk (x : Col) : Prop where
 name : lexNameM x.name = true
 lo : 1 ≤ x.kind
 hi : x.kind ≤ 3
def schR : List Col → Str
 | [] => []
 | x :: r => 44 :: 32 :: (colT x ++ schR r)
def expR : List Col → List (Int × Str × Int)
 | [] => []
 | x :: r => (5, [44], 0) :: (1, x.name, 0) :: (2, kindNameM x.kind, 0) :: expR r
def ktT (t : Tok) : Int × Str := (t.kind, t.text)
def expT : List Col → List (Int × Str)
 | [] => []
 | x :: r => (1, x.name) :: (2, kindNameM x.kind) :: ((expR r).map fun y => (y.1, y.2.1))
def kindM (s : Str) : Int := if kindNameM 1 == s then 1 else if kindNameM 2 == s then 2 else if kindNameM 3 == s then 3 else 0
structure KindUpto (s : Str) (x : Nat) : Prop where
 le : x ≤ 3
 a : 1 ≤ x → (kindNameM 1 == s) = false
 b : 2 ≤ x → (kindNameM 2 == s) = false
 c : 3 ≤ x → (kindNameM 3 == s) = false
def colF (l : List Tok) (acc : List Col) : Int × Int :=
 if (tokAt l 0).kind != 1 then (8, (tokAt l 0).at_) else if ((tokAt l 1).kind != 2) || (kindM (tokAt l 1).text == 0) then (8, (tokAt l 1).at_)
 else if decide (0 ≤ findM (tokAt l 0).text acc) then (9, (tokAt l 0).at_) else if (acc.length : Int) == 12 then (3, (tokAt l 0).at_) else (0, 0)
def colN (l : List Tok) : Col := ⟨(tokAt l 0).text, kindM (tokAt l 1).text⟩
theorem wrap_u64 {n : Int} (h1 : 0 ≤ n) (h2 : n < 18446744073709551616) : IntKind.u64.wrap n = n := by
 have e1 : (2 ^ IntKind.u64.bits : Int) = 18446744073709551616 := rfl
 have e3 : IntKind.u64.signed = false := rfl
 unfold IntKind.wrap
 simp only [e1, e3, Bool.false_and]
 simp
 omega
def gapL (k d : Nat) (L : List Tok) : List Tok := L.take k ++ (L.drop k).map (shiftTok d)
theorem dblM_ge : ∀ t : Str, t.length ≤ (dblM t).length
 | [] => Nat.le_refl _
 | c :: r => by
  have := dblM_ge r
  rw [dblM_cons, List.length_append, List.length_cons]
  have h : 1 ≤ (dblC c).length := by unfold dblC; split <;> simp
  omega
theorem text_le (t : Tok) : t.text.length ≤ (spell t).length := by
 unfold spell
 split
 ·have := dblM_ge t.text
  simp only [List.length_append, List.length_cons, List.length_nil]
  omega
 exact Nat.le_refl _
theorem low_strs1 {n k : Nat} {o : Bool} {l : List Str} {z : Str} : Low n (.slice o k (l.map strA ++ [strA z])) := by
 refine .slice _ _ _ (fun y hy => ?_)
 rcases List.mem_append.1 hy with hy | hy
 ·obtain ⟨a, _, rfl⟩ := List.mem_map.1 hy
  intro z hz
  rw [List.mem_singleton.1 (show z ∈ [strA a] from hz)]
  exact .v _
 rw [List.mem_singleton.1 hy]
 intro z' hz
 rw [List.mem_singleton.1 (show z' ∈ [strA z] from hz)]
 exact .v _
def schPrintM (c : List Col) : Str := if rightP c then colsT c else []
/-- Words with an end. -/
structure TokEnd (l : List Tok) : Prop where
 split : ∃ L z, l = L ++ [z] ∧ z.kind = 0 ∧ ∀ t ∈ L, t.kind ≠ 0
 texts : ∀ t ∈ l, t.text.length ≤ 1048576
theorem TokEnd.pos {l : List Tok} (h : TokEnd l) : 1 ≤ l.length := by
 obtain ⟨L, z, rfl, _, _⟩ := h.split
 simp
theorem TokEnd.next {l : List Tok} (h : TokEnd l) (h0 : (tokAt l 0).kind ≠ 0) : TokEnd (l.drop 1) ∧ 2 ≤ l.length := by
 obtain ⟨L, z, rfl, hz, hL⟩ := h.split
 cases L with
 | nil => exact absurd hz h0
 | cons t L => exact ⟨⟨⟨L, z, rfl, hz, fun u hu => hL u (by simp [hu])⟩, fun u hu => h.texts u (by simp at hu ⊢; exact .inr hu)⟩, by simp⟩
theorem tokAt_drop (l : List Tok) (k i : Nat) : tokAt (l.drop k) i = tokAt l (k + i) := by
 unfold tokAt
 rw [List.getD_eq_getElem?_getD, List.getElem?_drop, List.getD_eq_getElem?_getD]
theorem TokEnd.text {l : List Tok} (h : TokEnd l) (i : Nat) : (tokAt l i).text.length ≤ 1048576 := by
 unfold tokAt
 rcases Nat.lt_or_ge i l.length with hi | hi
 ·rw [List.getD_eq_getElem?_getD, List.getElem?_eq_getElem hi]
  exact h.texts _ (List.getElem_mem hi)
 rw [List.getD_eq_getElem?_getD, List.getElem?_eq_none hi]
 exact Nat.zero_le _
theorem colF_ok {l : List Tok} {acc : List Col} (h : (colF l acc).1 = 0) : (tokAt l 0).kind = 1 ∧ (tokAt l 1).kind = 2 ∧ acc.length ≠ 12 := by
 unfold colF at h
 split at h
 ·exact absurd (show (8 : Int) = 0 from h) (by decide)
 rename_i h1
 split at h
 ·exact absurd (show (8 : Int) = 0 from h) (by decide)
 rename_i h2
 split at h
 ·exact absurd (show (9 : Int) = 0 from h) (by decide)
 split at h
 ·exact absurd (show (3 : Int) = 0 from h) (by decide)
 rename_i h4
 simp only [bne_iff_ne, ne_eq, Classical.not_not, Bool.or_eq_true, not_or, beq_iff_eq] at h1 h2 h4
 exact ⟨h1, h2.1, fun e => h4 (by omega)⟩
theorem TokEnd.three {l : List Tok} {acc : List Col} (hl : TokEnd l) (h : (colF l acc).1 = 0) : TokEnd (l.drop 2) ∧ 3 ≤ l.length := by
 obtain ⟨h1, h2, _⟩ := colF_ok h
 obtain ⟨a1, a2⟩ := hl.next (by rw [h1]; decide)
 obtain ⟨b1, b2⟩ := a1.next (by rw [tokAt_drop]; show (tokAt l 1).kind ≠ 0; rw [h2]; decide)
 rw [List.drop_drop] at b1
 rw [List.length_drop] at b2
 exact ⟨b1, by omega⟩
def readF : Nat → List Tok → List Col → List Col × Int × Int
 | 0, _, _ => ([], 0, 0)
 | f + 1, l, acc => if (colF l acc).1 != 0 then ([], (colF l acc).1, (colF l acc).2)
  else if (tokAt l 2).kind == 0 then (acc ++ [colN l], 0, 0)
  else if ((tokAt l 2).kind != 5) || !((tokAt l 2).text == [44]) then ([], 8, (tokAt l 2).at_)
  else readF f (l.drop 3) (acc ++ [colN l])
def schReadM (s : Str) : List Col × Int × Int :=
 if ((lexM s).2.1 != 0) || (((lexM s).1.length : Int) == 1) then ([], (lexM s).2.1, (lexM s).2.2) else readF ((lexM s).1.length + 1) (lexM s).1 []
theorem word_nz (s : Str) (he : (wordM s).2.2.2 = 0) : (wordM s).1 ≠ 0 := by
 revert he
 unfold wordM namedM numberM quotedM signM
 repeat' split
 all_goals simp
theorem items_nz : ∀ (f q : Nat) (s : Str), (∀ it ∈ itemsF f q s, it.2 = 0) → ∀ it ∈ itemsF f q s, it.1.kind ≠ 0 ∧ it.1.text.length ≤ s.length
 | 0, _, _, _, it, hm => by cases hm
 | f + 1, q, s, h, it, hm => by
  by_cases hs : s = []
  ·subst hs; cases hm
  obtain ⟨n, h1, h2⟩ := itemsF_step (f := f) (q := q) hs
  rw [h1] at hm h
  have h0 : (wordM s).2.2.2 = 0 := h (⟨(wordM s).1, (wordM s).2.1, q⟩, (wordM s).2.2.2) (List.mem_cons_self ..)
  obtain ⟨hn, hn1, hn2⟩ := h2 h0
  rw [if_pos h0] at hm h
  rcases List.mem_cons.1 hm with rfl | hm
  ·refine ⟨word_nz s h0, ?_⟩
   have hs1 : 1 ≤ s.length := by cases s with | nil => exact absurd rfl hs | cons c r => simp
   have := word_spell (p := q) hs1 h0 hn
   have h3 := text_le ⟨(wordM s).1, (wordM s).2.1, q⟩
   rw [this] at h3
   simp only [List.length_take] at h3
   show (wordM s).2.1.length ≤ s.length
   omega
  have := items_nz f _ _ (fun it hit => h it (List.mem_cons_of_mem _ hit)) it hm
  simp only [List.length_drop] at this
  exact ⟨this.1, by omega⟩
theorem lex_end {s : Str} (h : (lexM s).2.1 = 0) : TokEnd (lexM s).1 := by
 by_cases h4 : 4000 < s.length
 ·unfold lexM at h
  rw [if_pos h4] at h
  exact Z419
 have e : lexM s = ((itemsT s).map (·.1) ++ [⟨0, [], s.length⟩], 0, 0) ∧ ∀ it ∈ itemsT s, it.2 = 0 := by
  unfold lexM at h ⊢
  rw [if_neg h4] at h ⊢
  cases hf : (itemsT s).find? (fun it => it.2 != 0) with
  | none =>
   rw [List.find?_eq_none] at hf
   exact ⟨rfl, fun it hit => by simpa using hf it hit⟩
  | some it =>
   rw [hf] at h
   have := List.find?_some hf
   simp only [bne_iff_ne] at this
   exact absurd h this
 obtain ⟨e, hz⟩ := e
 have hnz := items_nz _ _ _ hz
 rw [e]
 refine ⟨⟨_, _, rfl, rfl, fun t ht => ?_⟩, fun t ht => ?_⟩
 ·obtain ⟨it, hit, rfl⟩ := List.mem_map.1 ht
  exact (hnz it hit).1
 rcases List.mem_append.1 ht with ht | ht
 ·obtain ⟨it, hit, rfl⟩ := List.mem_map.1 ht
  have := (hnz it hit).2
  simp only [List.length_drop] at this
  omega
 have e : t = ⟨0, [], s.length⟩ := by simpa using ht
 subst e
 exact Nat.zero_le _
structure ReadAt (s : Str) (x : List Tok × List Col) : Prop where
 toks : TokEnd x.1
 cols : OkCols x.2
 n12 : x.2.length ≤ 12
 eq : ∃ f, x.1.length < f ∧ schReadM s = readF f x.1 x.2
theorem ReadAt.on {s : Str} {x : List Tok × List Col} (h : ReadAt s x) (h0 : (colF x.1 x.2).1 = 0) (h1 : ((tokAt x.1 2).kind == 0) = false) (h2 : (((tokAt x.1 2).kind != 5) || !((tokAt x.1 2).text == [44])) = false) : ReadAt s (x.1.drop 3, x.2 ++ [colN x.1]) ∧ 3 ≤ x.1.length := by
 obtain ⟨f, hf, e⟩ := h.eq
 obtain ⟨a1, a2⟩ := h.toks.three h0
 obtain ⟨b1, b2⟩ := a1.next (by rw [tokAt_drop]; simpa using h1)
 rw [List.drop_drop] at b1
 obtain ⟨_, _, hn⟩ := colF_ok h0
 refine ⟨⟨b1, ⟨?_, ?_⟩, ?_, ?_⟩, a2⟩
 ·have := h.n12; simp only [List.length_append, List.length_cons, List.length_nil]; omega
 ·intro y hy
  rcases List.mem_append.1 hy with hy | hy
  ·exact h.cols.2 y hy
  have e : y = colN x.1 := by simpa using hy
  subst e
  exact h.toks.text 0
 ·have := h.n12; simp only [List.length_append, List.length_cons, List.length_nil]; omega
 obtain ⟨g, rfl⟩ : ∃ g, f = g + 1 := ⟨f - 1, by omega⟩
 refine ⟨g, by simp only [List.length_drop]; omega, ?_⟩
 rw [e, readF, if_neg (by rw [h0]; decide), if_neg (by rw [h1]; simp), if_neg (by rw [h2]; simp)]
theorem ReadAt.out {s : Str} {x : List Tok × List Col} (h : ReadAt s x) : ∃ f, schReadM s = readF (f + 1) x.1 x.2 := by
 obtain ⟨f, hf, e⟩ := h.eq
 exact ⟨f - 1, by rw [e, show f - 1 + 1 = f by omega]⟩
/-! What is printed of a schema is read. -/
def awakeC : List Col := [⟨[97], 1⟩, ⟨[116], 2⟩]
def awakeT : Str := [97, 32, 105, 110, 116, 44, 32, 116, 32, 116, 101, 120, 116]
theorem c21u (c : List Col) (Hp : List AObj) : AFun Tryz.prog 8 [colsA c] Hp (boolA (manyM c)) := by
 refine ACall.body [.tmp 2] [0] Tryz.func8 Tryz.ntmps8 (fun d => ?_)
 refine Z101 ?_;refine Z14 ?_;refine Z365 ?_;refine R.fin [0, 6] ?_
 refine W.cond (fun ht6 => ?_) (fun ht6 => ?_)
 ·refine Z39 ?_;refine K.thR ?_;exact K.fin (V.one V.tmp) ⟨by simp [manyM] at ht6 ⊢; omega, rfl⟩
 refine Z379 ?_;refine R.fin [0, 3] ?_
 refine AW.loopC (α := Nat) (fun x => ⟨20, setF 0 (colsA c) (setF 3 (intA (x : Nat)) (fun _ => .any)), Hp, [], [], none⟩) (fun x => x ≤ c.length ∧ ∀ (j : Nat) (y : Col), j < x → c[j]? = some y → decide ((100 : Int) < y.name.length) = false) (fun x => c.length - x) (0) (by simp) (StLe.refl _) rfl (fun x hx => ?_)
 refine Z210 ?_;refine R.fin [0, 3, 10] ?_
 refine W.cond (fun ht10 => ?_) (fun ht10 => ?_)
 ·have hlt : x < c.length := by simpa using ht10
  have hcl : c.length ≤ 50 := by simp at ht6; omega
  refine Z385 ?_;refine Z344 ?_;refine Z402 ?_;refine Z289 ?_;refine R.fin [0, 3, 19] ?_
  refine W.cond (fun ht19 => ?_) (fun ht19 => ?_)
  ·refine Z39 ?_;refine Z123 ?_;exact K.fin (V.one V.tmp) ⟨by rw [show manyM c = true from by unfold manyM; rw [any_at (p := fun y : Col => decide ((100 : Int) < y.name.length)) hlt ht19, Bool.or_true]], rfl⟩
  refine Z177 ?_;refine R.fin [0, 3] ?_;exact K.lpN (x + 1) ⟨hlt, upto_succ hlt hx.2 ht19⟩ (by omega) (StCut.of_eq rfl)
 refine Z90 ?_;refine Z39 ?_;exact K.fin (V.one V.tmp) ⟨by rw [show manyM c = false from by unfold manyM; rw [any_none (upto_all (by simp at ht10; omega) hx.2)]; simpa using ht6], rfl⟩
theorem many_ok {c : List Col} (h : manyM c = false) : OkCols c := by
 unfold manyM at h
 simp only [Bool.or_eq_false_iff, decide_eq_false_iff_not, List.any_eq_false, decide_eq_true_eq] at h
 refine ⟨by omega, fun y hy => ?_⟩
 have := h.2 y hy
 omega
def schPrintsM (c : List Col) : Bool := if manyM c then true else if rightP c != rightM c then false else if !rightM c then schPrintM c == [] else
 ((schPrintM c == colsT c) && ((schReadM (schPrintM c)).2.1 == 0)) && decide (c = (schReadM (schPrintM c)).1)
def idxM {α : Type} [BEq α] (v : α) (l : List α) : Int := match l.findIdx? (· == v) with | some i => i | none => -1
def lessM (a b : List Col) : List Col := a.filter fun y => !b.contains y
def orderM (a b : List Col) : List Int := a.map fun y => findM y.name b
def takenAt (c : List Col) (take : List Str) (j : Nat) (nm : Str) : Bool := !(decide (findM nm c < 0) || (idxM nm take != (j : Int)))
def takenM (c : List Col) (take : List Str) : Bool := take.zipIdx.all fun x => takenAt c take x.2 x.1
def namedAt (c : List Col) (x : Nat) (y : Col) : Bool := !((!nameM y.name) || (findM y.name c != (x : Int)))
def namedC (c : List Col) : Bool := c.zipIdx.all fun x => namedAt c x.2 x.1
def stayM (c : List Col) (take : List Str) : List Col := c.filter fun y => !take.contains y.name
def turnM (c : List Col) (take : List Str) (give : List Col) : List Col × Int :=
 if rightM c = false then ([], 1) else if takenM c take = false then ([], 9) else if namedC (stayM c take ++ give) = false then ([], 9)
 else if colsM (stayM c take ++ give) = false then ([], 10) else if 12 < (stayM c take ++ give).length then ([], 3) else (stayM c take ++ give, 0)
def kindOk (y : Col) : Bool := !(decide (y.kind < 1) || decide ((3 : Int) < y.kind))
/-! What went and came, taken back: the same columns. -/
theorem find_mem {nm : Str} {c : List Col} : ¬ (findM nm c < 0) ↔ ∃ (j : Nat) (y : Col), c[j]? = some y ∧ y.name = nm ∧ findM nm c = (j : Int) := by
 unfold findM
 cases h : c.findIdx? (fun y => y.name == nm) with
 | none =>
  constructor
  ·intro h'; exact absurd (by decide) h'
  rintro ⟨j, y, _, _, e⟩
  exact absurd (show (-1 : Int) = (j : Int) from e) (by omega)
 | some i =>
  rw [List.findIdx?_eq_some_iff_getElem] at h
  obtain ⟨hi, e, _⟩ := h
  constructor
  ·intro _; exact ⟨i, c[i], List.getElem?_eq_getElem hi, by simpa using e, rfl⟩
  intro _ h'
  have : (i : Int) < 0 := h'
  omega
def lookM (c : List Col) (t : Str) : Col := c.getD (findM t c).toNat ⟨[], 0⟩
set_option maxRecDepth 8000
/-- What a node asks of its kids, and what it is. -/
structure Sign where
 kids : List Int
 own : Int
def markedM (s : Str) : Sign := if (s == [111, 114]) || (s == [97, 110, 100]) then ⟨[3, 3], 3⟩ else if (((((s == [61]) || (s == [33, 61])) || (s == [60])) || (s == [60, 61])) || (s == [62])) || (s == [62, 61]) then ⟨[-1, -1], 3⟩ else if s == [38] then ⟨[2, 2], 2⟩ else ⟨[1, 1], 1⟩
def calledM (s : Str) : Sign := if (s == [108, 101, 110]) || (s == [110, 117, 109]) then ⟨[2], 1⟩ else if s == [115, 116, 114] then ⟨[1], 2⟩ else if (s == [108, 101, 102, 116]) || (s == [114, 105, 103, 104, 116]) then ⟨[2, 1], 2⟩ else if s == [105, 115, 110, 117, 108, 108] then ⟨[-2], 3⟩ else if s == [110, 118, 108] then ⟨[-1, -1], -1⟩ else ⟨[3, -1, -1], -1⟩
def signN (o : Int) (t : Str) : Sign := if o == 3 then ⟨[1], 1⟩ else if o == 4 then ⟨[3], 3⟩ else if o == 5 then markedM t else calledM t
def meetM (a b : Int) : Int × Bool := if a == 0 then (b, true) else if (b == 0) || (a == b) then (a, true) else (0, false)
def fitK : List Int → List Int → Int → Option Int
 | _, [], c => some c
 | [], _ :: _, _ => none
 | w :: ws, k :: ks, c => if w == -2 then fitK ws ks c else if w == -1 then (if (meetM c k).2 then fitK ws ks (meetM c k).1 else none) else if (meetM w k).2 then fitK ws ks c else none
def fitM (s : Sign) (ks : List Int) : Int × Int := match fitK s.kids ks 0 with | none => (0, 10) | some c => if s.own == -1 then (c, 0) else (s.own, 0)
def nameK (c : List Col) (t : Str) : Int × Int := if findM t c < 0 then (0, 9) else ((c.getD (findM t c).toNat ⟨[], 0⟩).kind, 0)
def kindN (c : List Col) (o : Int) (t : Str) (v : Val) (ks : List (Int × Int)) : Int × Int :=
 if o == 1 then (v.kind, 0) else if o == 2 then nameK c t else match ks.find? (fun q => q.2 != 0) with | some q => (0, q.2) | none => fitM (signN o t) (ks.map (·.1))
mutual
def kindE (c : List Col) : Expr → Int × Int
 | .mk o t v k => kindN c o t v (kindL c k)
def kindL (c : List Col) : List Expr → List (Int × Int)
  | [] => []
  | e :: r => kindE c e :: kindL c r
 end
/-- infer.Kind. -/
def kindR (e : Expr) (c : List Col) : Int × Int := if (!(exprRightM e)) || !(colsP c) then (0, 1) else kindE c e
/-! The signs have as many as the nodes have kids. -/
/-! More columns. -/
/-- Columns that know more. -/
def Knows (c c' : List Col) : Prop := ∀ t, (nameK c t).2 = 0 → nameK c' t = nameK c t
/-! A tree in a column's place. -/
set_option maxRecDepth 4000
/-- Where a parser of expressions stands: its word, its nest, its fault. -/
structure PS where
 i : Nat
 nest : Nat
 code : Int
 at_ : Int
def noV : Val := ⟨0, 0, []⟩
def nullX : Expr := .mk 0 [] noV []
def failM (e a : Int) (S : PS) : PS := if S.code == 0 then ⟨S.i, S.nest, e, a⟩ else S
def isM (l : List Tok) (of : Str) (S : PS) : Bool := (((tokAt l S.i).kind == 5) || ((tokAt l S.i).kind == 2)) && isMarkM (tokAt l S.i).text of
def nextM (S : PS) : PS := ⟨S.i + 1, S.nest, S.code, S.at_⟩
def deepM (S : PS) : PS := ⟨S.i, S.nest + 1, S.code, S.at_⟩
def riseM (S : PS) : PS := ⟨S.i, S.nest - 1, S.code, S.at_⟩
def wantM (l : List Tok) (s : Str) (S : PS) : PS := if S.code != 0 then S else if ((tokAt l S.i).kind != 5) || !((tokAt l S.i).text == s) then failM 8 (tokAt l S.i).at_ S else nextM S
/-- What stands one nest deeper. -/
structure Fam where
 ei : PS → Expr × PS
 no : PS → Expr × PS
 ne : PS → Expr × PS
def withinM (a : Int) (f : PS → Expr × PS) (S : PS) : Expr × PS := if (S.nest : Int) == 30 then (nullX, failM 18 a S) else ((f (deepM S)).1, riseM (f (deepM S)).2)
def binX (t : Str) (x y : Expr) : Expr := .mk 5 t noV [x, y]
def leftF (l : List Tok) (of : Str) (f : PS → Expr × PS) : Nat → Expr × PS → Expr × PS
 | 0, r => r
 | n + 1, r => if (r.2.code == 0) && isM l of r.2 then leftF l of f n (binX (tokAt l r.2.i).text r.1 (f (nextM r.2)).1, (f (nextM r.2)).2) else r
def leftM (l : List Tok) (of : Str) (f : PS → Expr × PS) (S : PS) : Expr × PS := leftF l of f l.length (f S)
def commaT : Str := [32, 44, 32]
def argsF (l : List Tok) (f : PS → Expr × PS) : Nat → List Expr × PS → List Expr × PS
 | 0, r => r
 | n + 1, r => if (r.2.code == 0) && isM l commaT r.2 then argsF l f n (r.1 ++ [(f (nextM r.2)).1], (f (nextM r.2)).2) else r
def argsM (l : List Tok) (f : PS → Expr × PS) (S : PS) : List Expr × PS := argsF l f l.length ([(f S).1], (f S).2)
def kidsM (l : List Tok) (a : Int) (f : PS → Expr × PS) (S : PS) : List Expr × PS := if (S.nest : Int) == 30 then ([], failM 18 a S) else ((argsM l f (deepM S)).1, riseM (argsM l f (deepM S)).2)
def closeT : Str := [41]
def callKM (l : List Tok) (D : Fam) (S : PS) : List Expr × PS := kidsM l (tokAt l S.i).at_ D.ei (nextM S)
def callM (l : List Tok) (D : Fam) (t : Tok) (S : PS) : Expr × PS :=
 if arityM t.text < 0 then (nullX, failM 9 t.at_ S)
 else if ((wantM l closeT (callKM l D S).2).code == 0) && !(((callKM l D S).1.length : Int) == arityM t.text) then (nullX, failM 8 t.at_ (wantM l closeT (callKM l D S).2))
 else (.mk 6 t.text noV (callKM l D S).1, wantM l closeT (callKM l D S).2)
def orT : Str := [32, 111, 114, 32]
def andT : Str := [32, 97, 110, 100, 32]
def notT : Str := [32, 110, 111, 116, 32]
def cmpT : Str := [32, 61, 32, 33, 61, 32, 60, 32, 60, 61, 32, 62, 32, 62, 61, 32]
def sumT : Str := [32, 43, 32, 45, 32, 38, 32]
def prodT : Str := [32, 42, 32, 47, 32, 37, 32]
def negT : Str := [32, 45, 32]
def opT : Str := [32, 40, 32]
def litT : Str := [32, 116, 114, 117, 101, 32, 102, 97, 108, 115, 101, 32, 110, 117, 108, 108, 32]
def valX (v : Val) : Expr := .mk 1 [] v []
def atomM (l : List Tok) (D : Fam) (S : PS) : Expr × PS :=
 if S.code != 0 then (nullX, S)
 else if ((tokAt l S.i).kind == 3) || isM l litT S then (valX (readM (tokAt l S.i).text).1, nextM S)
 else if (tokAt l S.i).kind == 4 then (valX ⟨2, 0, (tokAt l S.i).text.take 200⟩, nextM S)
 else if (tokAt l S.i).kind == 1 then (if isM l opT (nextM S) then callM l D (tokAt l S.i) (nextM S) else (nameE (tokAt l S.i).text, nextM S))
 else if isM l opT S then ((withinM (tokAt l S.i).at_ D.ei (nextM S)).1, wantM l closeT (withinM (tokAt l S.i).at_ D.ei (nextM S)).2)
 else (nullX, failM 8 (tokAt l S.i).at_ S)
def oneX (op : Int) (x : Expr) : Expr := .mk op [] noV [x]
def negM (l : List Tok) (D : Fam) (S : PS) : Expr × PS := if !isM l negT S then atomM l D S else (oneX 3 (withinM (tokAt l S.i).at_ D.ne (nextM S)).1, (withinM (tokAt l S.i).at_ D.ne (nextM S)).2)
def prodM (l : List Tok) (D : Fam) : PS → Expr × PS := leftM l prodT (negM l D)
def sumM (l : List Tok) (D : Fam) : PS → Expr × PS := leftM l sumT (prodM l D)
def compareM (l : List Tok) (D : Fam) (S : PS) : Expr × PS :=
 if ((sumM l D S).2.code != 0) || !isM l cmpT (sumM l D S).2 then sumM l D S
 else (binX (tokAt l (sumM l D S).2.i).text (sumM l D S).1 (sumM l D (nextM (sumM l D S).2)).1, (sumM l D (nextM (sumM l D S).2)).2)
def notM (l : List Tok) (D : Fam) (S : PS) : Expr × PS := if !isM l notT S then compareM l D S else (oneX 4 (withinM (tokAt l S.i).at_ D.no (nextM S)).1, (withinM (tokAt l S.i).at_ D.no (nextM S)).2)
def bothM (l : List Tok) (D : Fam) : PS → Expr × PS := leftM l andT (notM l D)
def eitherM (l : List Tok) (D : Fam) : PS → Expr × PS := leftM l orT (bothM l D)
def famM (l : List Tok) : Nat → Fam
 | 0 => ⟨fun S => (nullX, S), fun S => (nullX, S), fun S => (nullX, S)⟩
 | d + 1 => ⟨eitherM l (famM l d), notM l (famM l d), negM l (famM l d)⟩

/-! What is so of them. -/
theorem okE_le : ∀ {n m : Nat}, n ≤ m → ∀ {e : Expr}, okE n e → okE m e
 | 0, _, _, _, h => h.elim
 | n + 1, 0, h, _, _ => by omega
 | n + 1, m + 1, h, _, ho => ⟨ho.1, ho.2.1, fun y hy => okE_le (by omega) (ho.2.2 y hy)⟩
theorem nullX_size : sizeE nullX = 1 := rfl
theorem binX_size (t : Str) (a b : Expr) : sizeE (binX t a b) = 1 + (sizeE a + (sizeE b + 0)) := by rw [binX, sizeE, sizeL, sizeL, sizeL]
theorem oneX_size (o : Int) (a : Expr) : sizeE (oneX o a) = 1 + (sizeE a + 0) := by rw [oneX, sizeE, sizeL, sizeL]
theorem sizeL_app : ∀ a b : List Expr, sizeL (a ++ b) = sizeL a + sizeL b
 | [], b => by rw [List.nil_append, sizeL, Nat.zero_add]
 | e :: r, b => by rw [List.cons_append, sizeL, sizeL, sizeL_app r b, Nat.add_assoc]
theorem nullX_ok {n : Nat} (h : 1 ≤ n) : okE n nullX := okE_le h ⟨by decide, by decide, fun y hy => by cases hy⟩
theorem valX_ok {n : Nat} (h : 1 ≤ n) (v : Val) : okE n (valX v) := okE_le h ⟨by simp [valX, Expr.text], by simp [valX, Expr.kids], fun y hy => by cases hy⟩
structure Fact (l : List Tok) (S : PS) (r : Expr × PS) : Prop where
 le : S.i ≤ r.2.i
 lt : r.2.i < l.length
 nest : r.2.nest = S.nest
 ok : okE (2 * (r.2.i - S.i) + 1) r.1
 sz : sizeE r.1 ≤ 2 * (r.2.i - S.i) + 1
def Good (l : List Tok) (n : Nat) (f : PS → Expr × PS) : Prop := ∀ S, S.i < l.length → S.nest = n → Fact l S (f S)
theorem TokEnd.step {l : List Tok} (h : TokEnd l) {i : Nat} (hi : i < l.length) (hk : (tokAt l i).kind ≠ 0) : i + 1 < l.length := by
 obtain ⟨L, z, rfl, hz, _⟩ := h.split
 rcases Nat.lt_or_ge i L.length with h1 | h1
 ·simp only [List.length_append, List.length_cons, List.length_nil]; omega
 have : i = L.length := by simp only [List.length_append, List.length_cons, List.length_nil] at hi; omega
 subst this
 exact absurd (by unfold tokAt; simpa using hz) hk
theorem isM_nz {l : List Tok} {of : Str} {S : PS} (h : isM l of S = true) : (tokAt l S.i).kind ≠ 0 := by
 unfold isM at h
 simp only [Bool.and_eq_true, Bool.or_eq_true, beq_iff_eq] at h
 omega
theorem TokEnd.stepIs {l : List Tok} (h : TokEnd l) {of : Str} {S : PS} (hi : S.i < l.length) (hk : isM l of S = true) : (nextM S).i < l.length := h.step hi (isM_nz hk)
theorem failM_i {e a : Int} {S : PS} : (failM e a S).i = S.i ∧ (failM e a S).nest = S.nest := by unfold failM; split <;> exact ⟨rfl, rfl⟩
theorem wantM_i {l : List Tok} (hl : TokEnd l) {s : Str} {S : PS} (hi : S.i < l.length) : S.i ≤ (wantM l s S).i ∧ (wantM l s S).i < l.length ∧ (wantM l s S).nest = S.nest := by
 unfold wantM
 split
 ·exact ⟨Nat.le_refl _, hi, rfl⟩
 split
 ·rw [failM_i.1, failM_i.2]; exact ⟨Nat.le_refl _, hi, rfl⟩
 rename_i h
 simp only [Bool.or_eq_true, bne_iff_ne, ne_eq, not_or, Classical.not_not] at h
 have := hl.step hi (by rw [h.1]; decide)
 exact ⟨Nat.le_succ _, this, rfl⟩
theorem failFact {l : List Tok} {S S0 : PS} (h0 : S0.i ≤ S.i) (h1 : S.i < l.length) (h2 : S.nest = S0.nest) (e a : Int) : Fact l S0 (nullX, failM e a S) := by
 refine ⟨?_, ?_, ?_, nullX_ok (by omega), by rw [nullX_size]; omega⟩
 ·show _ ≤ (failM e a S).i; rw [failM_i.1]; exact h0
 ·show (failM e a S).i < _; rw [failM_i.1]; exact h1
 show (failM e a S).nest = _; rw [failM_i.2]; exact h2
/-- A state of a loop of marks. -/
structure LeftAt (l : List Tok) (of : Str) (f : PS → Expr × PS) (S : PS) (r : Expr × PS) : Prop where
 fact : Fact l S r
 eq : ∃ n, l.length ≤ r.2.i + n ∧ leftM l of f S = leftF l of f n r
theorem LeftAt.start {l : List Tok} {of : Str} {f : PS → Expr × PS} {S : PS} (h : Fact l S (f S)) : LeftAt l of f S (f S) := ⟨h, l.length, by omega, rfl⟩
theorem binFact {l : List Tok} {S : PS} {r q : Expr × PS} (h : Fact l S r) (hq : Fact l (nextM r.2) q) (hl : TokEnd l) : Fact l S (binX (tokAt l r.2.i).text r.1 q.1, q.2) := by
 have h1 := h.le
 have h2 : r.2.i + 1 ≤ q.2.i := hq.le
 refine ⟨by show S.i ≤ q.2.i; omega, hq.lt, by show q.2.nest = S.nest; rw [hq.nest]; exact h.nest, ?_, ?_⟩
 rotate_left
 ·have s1 := h.sz
  have s2 : sizeE q.1 ≤ 2 * (q.2.i - (r.2.i + 1)) + 1 := hq.sz
  show sizeE (binX _ r.1 q.1) ≤ 2 * (q.2.i - S.i) + 1
  rw [binX_size]
  omega
 show okE (2 * (q.2.i - S.i) + 1) _
 refine ⟨hl.text _, by simp [binX, Expr.kids], fun y hy => ?_⟩
 have hy' : y = r.1 ∨ y = q.1 := by simpa [binX, Expr.kids] using hy
 rcases hy' with rfl | rfl
 ·exact okE_le (by omega) h.ok
 exact okE_le (by show 2 * (q.2.i - (r.2.i + 1)) + 1 ≤ _; omega) hq.ok
theorem LeftAt.on {l : List Tok} {of : Str} {f : PS → Expr × PS} {S : PS} {r : Expr × PS} (hl : TokEnd l) (h : LeftAt l of f S r) (hc : ((r.2.code == 0) && isM l of r.2) = true) (hf : Good l S.nest f) : (nextM r.2).i < l.length ∧ Fact l (nextM r.2) (f (nextM r.2)) ∧ LeftAt l of f S (binX (tokAt l r.2.i).text r.1 (f (nextM r.2)).1, (f (nextM r.2)).2) := by
 have hi := hl.stepIs h.fact.lt (Bool.and_eq_true_iff.1 hc).2
 have hq := hf (nextM r.2) hi h.fact.nest
 obtain ⟨n, hn, e⟩ := h.eq
 have h1 := h.fact.lt
 have h2 : r.2.i + 1 ≤ (f (nextM r.2)).2.i := hq.le
 obtain ⟨m, rfl⟩ : ∃ m, n = m + 1 := ⟨n - 1, by omega⟩
 refine ⟨hi, hq, binFact h.fact hq hl, m, by show l.length ≤ (f (nextM r.2)).2.i + m; omega, ?_⟩
 rw [e, leftF, if_pos hc]
theorem LeftAt.out {l : List Tok} {of : Str} {f : PS → Expr × PS} {S : PS} {r : Expr × PS} (h : LeftAt l of f S r) (hc : ¬ ((r.2.code == 0) && isM l of r.2) = true) : leftM l of f S = r := by
 obtain ⟨n, hn, e⟩ := h.eq
 have h1 := h.fact.lt
 obtain ⟨m, rfl⟩ : ∃ m, n = m + 1 := ⟨n - 1, by omega⟩
 rw [e, leftF, if_neg hc]
theorem leftF_at {l : List Tok} {of : Str} {f : PS → Expr × PS} {S : PS} (hl : TokEnd l) (hf : Good l S.nest f) : ∀ (k : Nat) (r : Expr × PS), l.length - r.2.i ≤ k → LeftAt l of f S r → Fact l S (leftM l of f S)
 | 0, r, hk, h => by have := h.fact.lt; omega
 | k + 1, r, hk, h => by
  by_cases hc : ((r.2.code == 0) && isM l of r.2) = true
  ·obtain ⟨h1, h2, h3⟩ := h.on hl hc hf
   have h4 : r.2.i + 1 ≤ (f (nextM r.2)).2.i := h2.le
   exact leftF_at hl hf k _ (by show l.length - (f (nextM r.2)).2.i ≤ k; have := h.fact.lt; omega) h3
  rw [h.out hc]; exact h.fact
theorem leftM_good {l : List Tok} {of : Str} {f : PS → Expr × PS} {n : Nat} (hl : TokEnd l) (hf : Good l n f) : Good l n (leftM l of f) := fun S hi hn => leftF_at hl (hn ▸ hf) l.length (f S) (by omega) (.start (hf S hi hn))
theorem withinM_fact {l : List Tok} {f : PS → Expr × PS} {S : PS} (a : Int) (hi : S.i < l.length) (hf : S.nest ≠ 30 → Good l (S.nest + 1) f) : Fact l S (withinM a f S) := by
 unfold withinM
 split
 ·exact failFact (Nat.le_refl _) hi rfl _ _
 rename_i h
 have h30 : S.nest ≠ 30 := fun e => h (by rw [e]; rfl)
 have := hf h30 (deepM S) hi rfl
 refine ⟨this.le, this.lt, ?_, this.ok, this.sz⟩
 show (f (deepM S)).2.nest - 1 = S.nest
 rw [this.nest]
 rfl
/-- What is so of some kids. -/
structure KFact (l : List Tok) (S : PS) (r : List Expr × PS) : Prop where
 le : S.i ≤ r.2.i
 lt : r.2.i < l.length
 nest : r.2.nest = S.nest
 len : r.1.length ≤ r.2.i - S.i + 1
 ok : ∀ y ∈ r.1, okE (2 * (r.2.i - S.i) + 1) y
 sz : sizeL r.1 ≤ 2 * (r.2.i - S.i) + 1
structure ArgsAt (l : List Tok) (f : PS → Expr × PS) (S : PS) (r : List Expr × PS) : Prop where
 fact : KFact l S r
 eq : ∃ n, l.length ≤ r.2.i + n ∧ argsM l f S = argsF l f n r
theorem ArgsAt.start {l : List Tok} {f : PS → Expr × PS} {S : PS} (h : Fact l S (f S)) : ArgsAt l f S ([(f S).1], (f S).2) := ⟨⟨h.le, h.lt, h.nest, by simp, fun y hy => by rw [List.mem_singleton.1 hy]; exact h.ok, by have := h.sz; show sizeE (f S).1 + 0 ≤ _; exact this⟩, l.length, by omega, rfl⟩
theorem ArgsAt.on {l : List Tok} {f : PS → Expr × PS} {S : PS} {r : List Expr × PS} (hl : TokEnd l) (h : ArgsAt l f S r) (hc : ((r.2.code == 0) && isM l commaT r.2) = true) (hf : Good l S.nest f) : (nextM r.2).i < l.length ∧ Fact l (nextM r.2) (f (nextM r.2)) ∧ ArgsAt l f S (r.1 ++ [(f (nextM r.2)).1], (f (nextM r.2)).2) := by
 have hi := hl.stepIs h.fact.lt (Bool.and_eq_true_iff.1 hc).2
 have hq := hf (nextM r.2) hi h.fact.nest
 obtain ⟨n, hn, e⟩ := h.eq
 have h1 := h.fact.lt
 have h0 := h.fact.le
 have h2 : r.2.i + 1 ≤ (f (nextM r.2)).2.i := hq.le
 obtain ⟨m, rfl⟩ : ∃ m, n = m + 1 := ⟨n - 1, by omega⟩
 refine ⟨hi, hq, ⟨by show S.i ≤ (f (nextM r.2)).2.i; omega, hq.lt, by show (f (nextM r.2)).2.nest = _; rw [hq.nest]; exact h.fact.nest, ?_, fun y hy => ?_, ?_⟩, m, by show l.length ≤ (f (nextM r.2)).2.i + m; omega, ?_⟩
 ·have := h.fact.len
  show (r.1 ++ _).length ≤ (f (nextM r.2)).2.i - S.i + 1
  simp only [List.length_append, List.length_cons, List.length_nil]
  omega
 ·show okE (2 * ((f (nextM r.2)).2.i - S.i) + 1) y
  rcases List.mem_append.1 hy with hy | hy
  ·exact okE_le (by omega) (h.fact.ok y hy)
  rw [List.mem_singleton.1 hy]
  exact okE_le (by show 2 * ((f (nextM r.2)).2.i - (r.2.i + 1)) + 1 ≤ _; omega) hq.ok
 ·have s1 := h.fact.sz
  have s2 : sizeE (f (nextM r.2)).1 ≤ 2 * ((f (nextM r.2)).2.i - (r.2.i + 1)) + 1 := hq.sz
  show sizeL (r.1 ++ [(f (nextM r.2)).1]) ≤ 2 * ((f (nextM r.2)).2.i - S.i) + 1
  rw [sizeL_app, sizeL, sizeL]
  omega
 rw [e, argsF, if_pos hc]
theorem ArgsAt.out {l : List Tok} {f : PS → Expr × PS} {S : PS} {r : List Expr × PS} (h : ArgsAt l f S r) (hc : ¬ ((r.2.code == 0) && isM l commaT r.2) = true) : argsM l f S = r := by
 obtain ⟨n, hn, e⟩ := h.eq
 have h1 := h.fact.lt
 obtain ⟨m, rfl⟩ : ∃ m, n = m + 1 := ⟨n - 1, by omega⟩
 rw [e, argsF, if_neg hc]
theorem argsF_at {l : List Tok} {f : PS → Expr × PS} {S : PS} (hl : TokEnd l) (hf : Good l S.nest f) : ∀ (k : Nat) (r : List Expr × PS), l.length - r.2.i ≤ k → ArgsAt l f S r → KFact l S (argsM l f S)
 | 0, r, hk, h => by have := h.fact.lt; omega
 | k + 1, r, hk, h => by
  by_cases hc : ((r.2.code == 0) && isM l commaT r.2) = true
  ·obtain ⟨h1, h2, h3⟩ := h.on hl hc hf
   have h4 : r.2.i + 1 ≤ (f (nextM r.2)).2.i := h2.le
   exact argsF_at hl hf k _ (by show l.length - (f (nextM r.2)).2.i ≤ k; have := h.fact.lt; omega) h3
  rw [h.out hc]; exact h.fact
theorem argsM_fact {l : List Tok} {f : PS → Expr × PS} {S : PS} (hl : TokEnd l) (hi : S.i < l.length) (hf : Good l S.nest f) : KFact l S (argsM l f S) := argsF_at hl hf l.length _ (by show l.length - (f S).2.i ≤ _; omega) (.start (hf S hi rfl))
theorem kidsM_fact {l : List Tok} {f : PS → Expr × PS} {S : PS} (hl : TokEnd l) (a : Int) (hi : S.i < l.length) (hf : S.nest ≠ 30 → Good l (S.nest + 1) f) : KFact l S (kidsM l a f S) := by
 unfold kidsM
 split
 ·refine ⟨?_, ?_, ?_, by simp, fun y hy => (by cases hy), by simp [sizeL]⟩
  ·show _ ≤ (failM _ _ S).i; rw [failM_i.1]; exact Nat.le_refl _
  ·show (failM _ _ S).i < _; rw [failM_i.1]; exact hi
  show (failM _ _ S).nest = _; rw [failM_i.2]
 rename_i h
 have h30 : S.nest ≠ 30 := fun e => h (by rw [e]; rfl)
 have := argsM_fact (S := deepM S) hl hi (hf h30)
 refine ⟨this.le, this.lt, ?_, this.len, this.ok, this.sz⟩
 show (argsM l f (deepM S)).2.nest - 1 = S.nest
 rw [this.nest]
 rfl
theorem callM_fact {l : List Tok} {D : Fam} {S : PS} (hl : TokEnd l) (hll : l.length ≤ 1048576) {t : Tok} (ht : t.text.length ≤ 1048576) (hi : (nextM S).i < l.length) (hf : S.nest ≠ 30 → Good l (S.nest + 1) D.ei) : Fact l S (callM l D t S) := by
 have hk : KFact l (nextM S) (callKM l D S) := kidsM_fact hl _ hi hf
 have h1 : S.i + 1 ≤ (callKM l D S).2.i := hk.le
 obtain ⟨w1, w2, w3⟩ := wantM_i (s := closeT) hl hk.lt
 unfold callM
 split
 ·exact failFact (Nat.le_refl _) (by show S.i < _; have : S.i + 1 < l.length := hi; omega) rfl _ _
 split
 ·exact failFact (show S.i ≤ (wantM l closeT (callKM l D S).2).i by omega) w2 (w3.trans hk.nest) 8 t.at_
 refine ⟨by show S.i ≤ (wantM l closeT (callKM l D S).2).i; omega, w2, w3.trans hk.nest, ?_, ?_⟩
 rotate_left
 ·have s1 : sizeL (callKM l D S).1 ≤ 2 * ((callKM l D S).2.i - (S.i + 1)) + 1 := hk.sz
  show sizeE (.mk 6 t.text noV (callKM l D S).1) ≤ 2 * ((wantM l closeT (callKM l D S).2).i - S.i) + 1
  rw [sizeE]
  omega
 show okE (2 * ((wantM l closeT (callKM l D S).2).i - S.i) + 1) _
 refine ⟨ht, ?_, fun y hy => ?_⟩
 ·have h5 : (callKM l D S).1.length ≤ (callKM l D S).2.i - (nextM S).i + 1 := hk.len
  have h6 := hk.lt
  show (callKM l D S).1.length ≤ 1048576
  omega
 exact okE_le (by show 2 * ((callKM l D S).2.i - (S.i + 1)) + 1 ≤ _; omega) (hk.ok y hy)
theorem atomM_good {l : List Tok} {D : Fam} {n : Nat} (hl : TokEnd l) (hll : l.length ≤ 1048576) (hf : n ≠ 30 → Good l (n + 1) D.ei) : Good l n (atomM l D) := by
 intro S hi hn
 subst hn
 unfold atomM
 have leaf : ∀ e : Expr, okE 1 e → sizeE e = 1 → (tokAt l S.i).kind ≠ 0 → Fact l S (e, nextM S) := fun e he hs hk => ⟨Nat.le_succ _, hl.step hi hk, rfl, okE_le (by omega) he, by show sizeE e ≤ _; omega⟩
 split
 ·exact ⟨Nat.le_refl _, hi, rfl, nullX_ok (by omega), by show sizeE nullX ≤ _; rw [nullX_size]; omega⟩
 split
 ·rename_i h
  refine leaf _ (valX_ok (Nat.le_refl _) _) rfl ?_
  rcases Bool.or_eq_true_iff.1 h with h | h
  ·rw [beq_iff_eq] at h; rw [h]; decide
  exact isM_nz h
 split
 ·rename_i h
  rw [beq_iff_eq] at h
  exact leaf _ (valX_ok (Nat.le_refl _) _) rfl (by rw [h]; decide)
 split
 ·rename_i h
  rw [beq_iff_eq] at h
  have hk : (tokAt l S.i).kind ≠ 0 := by rw [h]; decide
  split
  ·rename_i h2
   have hi1 : (nextM S).i < l.length := hl.step hi hk
   have := callM_fact (S := nextM S) (D := D) hl hll (hl.text S.i) (hl.stepIs hi1 h2) hf
   have h3 : S.i + 1 ≤ (callM l D (tokAt l S.i) (nextM S)).2.i := this.le
   have h4 : sizeE (callM l D (tokAt l S.i) (nextM S)).1 ≤ 2 * ((callM l D (tokAt l S.i) (nextM S)).2.i - (S.i + 1)) + 1 := this.sz
   exact ⟨by omega, this.lt, this.nest, okE_le (by show 2 * ((callM l D (tokAt l S.i) (nextM S)).2.i - (S.i + 1)) + 1 ≤ _; omega) this.ok, by omega⟩
  exact leaf _ (nameE_ok _ (hl.text _)) rfl hk
 split
 ·rename_i h
  have hi1 : (nextM S).i < l.length := hl.stepIs hi h
  have := withinM_fact (S := nextM S) (l := l) (f := D.ei) (tokAt l S.i).at_ hi1 hf
  obtain ⟨w1, w2, w3⟩ := wantM_i (s := closeT) hl this.lt
  have h3 : S.i + 1 ≤ (withinM (tokAt l S.i).at_ D.ei (nextM S)).2.i := this.le
  have h4 : sizeE (withinM (tokAt l S.i).at_ D.ei (nextM S)).1 ≤ 2 * ((withinM (tokAt l S.i).at_ D.ei (nextM S)).2.i - (S.i + 1)) + 1 := this.sz
  refine ⟨by show S.i ≤ (wantM l closeT _).i; omega, w2, w3.trans this.nest, okE_le ?_ this.ok, by show sizeE (withinM (tokAt l S.i).at_ D.ei (nextM S)).1 ≤ 2 * ((wantM l closeT (withinM (tokAt l S.i).at_ D.ei (nextM S)).2).i - S.i) + 1; omega⟩
  show 2 * ((withinM (tokAt l S.i).at_ D.ei (nextM S)).2.i - (S.i + 1)) + 1 ≤ 2 * ((wantM l closeT (withinM (tokAt l S.i).at_ D.ei (nextM S)).2).i - S.i) + 1
  omega
 exact failFact (Nat.le_refl _) hi rfl _ _
theorem oneFact {l : List Tok} {S : PS} {r : Expr × PS} (h : Fact l (nextM S) r) (op : Int) : Fact l S (oneX op r.1, r.2) := by
 have h1 : S.i + 1 ≤ r.2.i := h.le
 refine ⟨by show S.i ≤ r.2.i; omega, h.lt, h.nest, ?_, ?_⟩
 rotate_left
 ·have s1 : sizeE r.1 ≤ 2 * (r.2.i - (S.i + 1)) + 1 := h.sz
  show sizeE (oneX op r.1) ≤ 2 * (r.2.i - S.i) + 1
  rw [oneX_size]
  omega
 show okE (2 * (r.2.i - S.i) + 1) _
 refine ⟨by simp [oneX, Expr.text], by simp [oneX, Expr.kids], fun y hy => ?_⟩
 have hy' : y = r.1 := by simpa [oneX, Expr.kids] using hy
 subst hy'
 exact okE_le (by show 2 * (r.2.i - (S.i + 1)) + 1 ≤ _; omega) h.ok
theorem negM_good {l : List Tok} {D : Fam} {n : Nat} (hl : TokEnd l) (hll : l.length ≤ 1048576) (hf : n ≠ 30 → Good l (n + 1) D.ei) (hg : n ≠ 30 → Good l (n + 1) D.ne) : Good l n (negM l D) := by
 intro S hi hn
 unfold negM
 split
 ·exact atomM_good hl hll hf S hi hn
 rename_i h
 subst hn
 exact oneFact (withinM_fact (S := nextM S) _ (hl.stepIs hi (by simpa using h)) hg) 3
theorem sumM_good {l : List Tok} {D : Fam} {n : Nat} (hl : TokEnd l) (hll : l.length ≤ 1048576) (hf : n ≠ 30 → Good l (n + 1) D.ei) (hg : n ≠ 30 → Good l (n + 1) D.ne) : Good l n (sumM l D) := leftM_good hl (leftM_good hl (negM_good hl hll hf hg))
theorem compareM_good {l : List Tok} {D : Fam} {n : Nat} (hl : TokEnd l) (hll : l.length ≤ 1048576) (hf : n ≠ 30 → Good l (n + 1) D.ei) (hg : n ≠ 30 → Good l (n + 1) D.ne) : Good l n (compareM l D) := by
 intro S hi hn
 have h1 := sumM_good hl hll hf hg S hi hn
 unfold compareM
 split
 ·exact h1
 rename_i h
 simp only [Bool.or_eq_true, not_or, Bool.not_eq_true, Bool.not_eq_false'] at h
 exact binFact h1 (sumM_good hl hll hf hg _ (hl.stepIs h1.lt h.2) (h1.nest.trans hn)) hl
theorem notM_good {l : List Tok} {D : Fam} {n : Nat} (hl : TokEnd l) (hll : l.length ≤ 1048576) (hf : n ≠ 30 → Good l (n + 1) D.ei) (hg : n ≠ 30 → Good l (n + 1) D.ne) (hh : n ≠ 30 → Good l (n + 1) D.no) : Good l n (notM l D) := by
 intro S hi hn
 unfold notM
 split
 ·exact compareM_good hl hll hf hg S hi hn
 rename_i h
 subst hn
 exact oneFact (withinM_fact (S := nextM S) _ (hl.stepIs hi (by simpa using h)) hh) 4
theorem famM_good {l : List Tok} (hl : TokEnd l) (hll : l.length ≤ 1048576) : ∀ (d n : Nat), n + d = 31 → n ≠ 31 → Good l n (famM l d).ei ∧ Good l n (famM l d).no ∧ Good l n (famM l d).ne
 | 0, n, h, h2 => by omega
 | d + 1, n, h, _ => by
  have ih : n ≠ 30 → _ := fun h30 => famM_good hl hll d (n + 1) (by omega) (by omega)
  have hn := notM_good (D := famM l d) (n := n) hl hll (fun h => (ih h).1) (fun h => (ih h).2.2) (fun h => (ih h).2.1)
  exact ⟨leftM_good hl (leftM_good hl hn), hn, negM_good hl hll (fun h => (ih h).1) (fun h => (ih h).2.2)⟩
abbrev pr (l : List Tok) (S : PS) : AObj := .cells 108 [.slice false 3 (l.map tokA), intA (S.i : Int), intA (S.nest : Int), intA S.code, intA S.at_]
theorem low_pr {n : Nat} {l : List Tok} {S : PS} : ObjLow n (pr l S) := by
 show ∀ y ∈ [AV.slice false 3 (l.map tokA), intA (S.i : Int), intA (S.nest : Int), intA S.code, intA S.at_], Low n y
 intro y hy
 simp only [List.mem_cons, List.not_mem_nil, or_false] at hy
 rcases hy with rfl | rfl | rfl | rfl | rfl
 ·simp [or_imp, forall_and]
 all_goals simp
theorem leafX_le (o : Int) (t : Str) (v : Val) : Le (.agg [intA o, strA t, intA v.kind, intA v.n, strA v.s, .nil]) (exprA (.mk o t v [])) := by
 rw [exprA_eq]
 refine .agg _ _ rfl (by simp [AV.one, Value.oneCell', sv]) fun i y y' h1 h2 => ?_
 match i with
 | 0 => simp at h1 h2; subst h1; subst h2; exact .inl rfl
 | 1 => simp at h1 h2; subst h1; subst h2; exact .inl rfl
 | 2 => simp at h1 h2; subst h1; subst h2; exact .inl rfl
 | 3 => simp at h1 h2; subst h1; subst h2; exact .inl rfl
 | 4 => simp at h1 h2; subst h1; subst h2; exact .inl rfl
 | 5 => simp at h1 h2; subst h1; subst h2; exact .inr ⟨rfl, 6, rfl⟩
 | i + 6 => simp at h1
theorem nullX_le : Le (.agg [intA 0, strA [], intA 0, intA 0, strA [], .nil]) (exprA nullX) := leafX_le 0 [] noV
theorem c132 (l : List Tok) (S : PS) (o : Nat) (Hp : List AObj) (ho : Hp[o]? = some (pr l S)) (hi : S.i < l.length) : AFun Tryz.prog 132 [.ptr o 0] Hp (tokA (tokAt l S.i)) := by
 refine ACall.body [.cell 2 83] [0] Tryz.func132 Tryz.ntmps132 (fun d => ?_)
 refine Z116 ?_;refine W.draw [0, 1, 3, 7, 0, 16, 48, 112, 255, 511, 1023] 8 Tryzmixed (by kernel_rfl) ?_;refine Z415 ?_;refine D.nilPtr ?_;refine D.fieldAddrPtr (fo := 0) jU Tryz.sizeOf77 ?_;refine D.loadUp jA ho ?_;refine Z415 ?_;refine D.nilPtr ?_;refine D.fieldAddrPtr (fo := 1) jU Tryz.sizeOf3 ?_;refine D.loadUp jA ho ?_;refine D.tail ?_;refine R.indexAddr (S.i) (tokA (tokAt l S.i)) jU jS (getTok hi) ?_;refine Z407 ?_;exact Z293

theorem c113 (l : List Tok) (S : PS) (of : Str) (o : Nat) (Hp : List AObj) (ho : Hp[o]? = some (pr l S)) (hi : S.i < l.length) (hl : TokEnd l) (hof : of.length ≤ 1048576) : AFun Tryz.prog 113 [.ptr o 0, strA of] Hp (boolA (isM l of S)) := by
 refine ACall.body [.tmp 4] [0, 1] Tryz.func113 Tryz.ntmps113 (fun d => ?_)
 refine Z140 ?_;refine Z0 ?_;refine Z188 ?_;refine R.fin [1, 5] ?_;refine Z280 ?_;refine Z82 ?_;refine Z226 ?_;refine Z405 ?_;refine Z143 ?_;refine G.move ?_;refine G.call Tryz.call76 (fun hB => c76 (tokAt l S.i).text of (hl.text _) hof _) ?_;refine Z32 ?_;refine Z36 ?_;exact Z403

theorem c114 (l : List Tok) (S : PS) (o : Nat) (Hp : List AObj) (ho : Hp[o]? = some (pr l S)) (hi : S.i < l.length) (hll : l.length ≤ 1048576) : ACall Tryz.prog 114 [.ptr o 0] Hp (fun r H' => r = tokA (tokAt l S.i) ∧ H' = Hp.set o (pr l (nextM S))) := by
 refine ACall.body [.cell 2 83] [0] Tryz.func114 Tryz.ntmps114 (fun d => ?_)
 refine Z116 ?_;refine Z0 ?_;refine Z188 ?_;refine Z246 ?_;refine Z200 ?_;refine R.loadUp jA ho ?_;refine R.add64 ?_;refine Z200 ?_
 refine R.storeUp jS ho ?_ ?_
 ·simp
 refine R.fin [2, 3] ?_;refine Z7 ?_;exact Z293

theorem c72 (l : List Tok) (S : PS) (e a : Int) (o : Nat) (Hp : List AObj) (ho : Hp[o]? = some (pr l S)) : ACall Tryz.prog 72 [.ptr o 0, intA e, intA a] Hp (fun r H' => r = exprA nullX ∧ H' = Hp.set o (pr l (failM e a S))) := by
 refine ACall.body [.cell 6 26] [0, 1, 2] Tryz.func72 Tryz.ntmps72 (fun d => ?_)
 refine Z363 ?_;refine Z14 ?_;refine Z212 ?_;refine R.loadUp jA ho ?_;refine R.eql ?_;refine R.fin [0, 1, 2, 6, 12] ?_
 refine W.cond (fun ht12 => ?_) (fun ht12 => ?_)
 ·have e : failM e a S = ⟨S.i, S.nest, e, a⟩ := if_pos ht12
  refine Z31 ?_;refine Z56 ?_;refine Z423 ?_;refine R.nilPtr ?_;refine R.fieldAddrPtr (fo := 3) jU Tryz.sizeOf53 ?_
  refine R.storeUp jS ho ?_ ?_
  ·simp
  refine R.fin [6] ?_;refine K.thN ?_;refine Z81 ?_;refine R.wk 19 _ nullX_le ?_;refine Z214 ?_;exact K.fin (V.one (V.cellN jA jS)) ⟨rfl, by rw [e]⟩ (hlow := exprA_low _ nullX)
 have e : failM e a S = S := if_neg (by rw [ht12]; simp)
 refine Z38 ?_;refine Z428 ?_;refine R.wk 19 _ nullX_le ?_;refine Z214 ?_;exact K.fin (V.one (V.cellN jA jS)) ⟨rfl, by rw [e]; exact (set_same ho).symm⟩ (hlow := exprA_low _ nullX)

theorem c223 (v : Val) (Hp : List AObj) : AFun Tryz.prog 223 [valA v] Hp (exprA (valX v)) := by
 refine ACall.body [.cell 2 26] [0] Tryz.func223 Tryz.ntmps223 (fun d => ?_)
 refine Z37 ?_;refine Z359 ?_;refine Z55 ?_;refine Z301 ?_;exact Z275

theorem c225 (l : List Tok) (S : PS) (s : Str) (o : Nat) (Hp : List AObj) (ho : Hp[o]? = some (pr l S)) (hi : S.i < l.length) (hll : l.length ≤ 1048576) : ACall Tryz.prog 225 [.ptr o 0, strA s] Hp (fun r H' => r = .v (.tuple #[]) ∧ H' = Hp.set o (pr l (wantM l s S))) := by
 refine ACall.body [] [0, 1] Tryz.func225 Tryz.ntmps225 (fun d => ?_)
 refine Z14 ?_;refine Z212 ?_;refine R.loadUp jA ho ?_;refine R.neq ?_;refine R.fin [0, 1, 10] ?_
 refine W.cond (fun ht10 => ?_) (fun ht10 => ?_)
 ·have e : wantM l s S = S := if_pos ht10
  refine Z369 ?_;exact K.fin .nores (hp := ⟨rfl, by rw [e]; exact (set_same ho).symm⟩)
 have e0 : ¬ (S.code != 0) = true := by rw [ht10]; simp
 refine Z254 ?_;refine Z188 ?_;refine R.fin [0, 1, 4] ?_;refine Z396 ?_;refine Z85 ?_;refine Z405 ?_;refine Z143 ?_;refine G.move ?_;refine G.sneq ?_;refine R.pickOr ?_;refine R.fin [0, 4, 21] ?_
 refine W.cond (fun ht21 => ?_) (fun ht21 => ?_)
 ·have e : wantM l s S = failM 8 (tokAt l S.i).at_ S := by unfold wantM; rw [if_neg e0, if_pos ht21]
  refine Z0 ?_;refine Z338 ?_;refine R.fin [] ?_;refine Z369 ?_;exact K.fin .nores (hp := ⟨rfl, by rw [e]⟩)
 have e : wantM l s S = nextM S := by unfold wantM; rw [if_neg e0, if_neg (by rw [ht21]; simp)]
 refine Z2 ?_;refine Z31 ?_;refine Z200 ?_;refine R.loadUp jA ho ?_;refine R.add64 ?_;refine Z200 ?_
 refine R.storeUp jS ho ?_ ?_
 ·simp
 refine R.fin [] ?_;exact K.finN .nores (hp := ⟨rfl, by rw [e]; rfl⟩)

/-- The contract of one of the parser's functions. -/
def PC (g : FuncId) (l : List Tok) (f : PS → Expr × PS) (n : Nat) : Prop := ∀ (o : Nat) (Hp : List AObj) (S : PS), Hp[o]? = some (pr l S) → S.i < l.length → S.nest = n → ACall Tryz.prog g [.ptr o 0] Hp (fun r H' => r = exprA (f S).1 ∧ H' = Hp.set o (pr l (f S).2))
abbrev zero69 : AObj := .cells 26 [intA 0, strA [], intA 0, intA 0, strA [], .nil]
theorem low_z69 {n : Nat} : ObjLow n zero69 := by
 show ∀ y ∈ [intA 0, strA [], intA 0, intA 0, strA [], AV.nil], Low n y
 simp
theorem low_e69 {n : Nat} (e : Expr) : ObjLow n (.cells 26 (exprC e)) := by
 have h := exprA_low n e
 rw [exprA_eq] at h
 show ∀ y ∈ exprC e, Low n y
 intro y hy
 cases h with
 | agg _ h => exact h y hy
theorem c134 (l : List Tok) (S : PS) (a : Int) (g : FuncId) (first caps : List AV) (x : Expr) (S2 : PS) (o : Nat) (Hp Hx : List AObj) (ho : Hp[o]? = some (pr l S)) (hnl : S.nest ≤ 1048576) (hgc : ∀ args w, (callFunc g args).run Tryz.prog w = .ok (.enter g args) w) (hxl : Hx.length = Hp.length) (hxo : Hx[o]? = some (pr l S2)) (hn2 : S2.nest = S.nest + 1) (hlow : (∀ y ∈ Hp.set o (pr l (deepM S)), ObjLow Hp.length y) → ∀ y ∈ Hx, ObjLow Hp.length y) (hcf : S.nest ≠ 30 → ∀ own, ACall Tryz.prog g (first ++ caps) (Hp.set o (pr l (deepM S)) ++ own) (fun y H' => y = exprA x ∧ H' = Hx ++ own)) : ACall Tryz.prog 134 [.ptr o 0, intA a, .fn (.func g) first caps] Hp (fun r H' => (S.nest = 30 → r = exprA nullX ∧ H' = Hp.set o (pr l (failM 18 a S))) ∧ (S.nest ≠ 30 → r = exprA x ∧ H' = Hx.set o (pr l (riseM S2)))) := by
 refine ACall.body [.cell 6 26] [0, 1, 2] Tryz.func134 Tryz.ntmps134 (fun d => ?_)
 refine Z363 ?_;refine Z14 ?_;refine Z153 ?_;refine R.loadUp jA ho ?_;refine R.eql ?_;refine R.fin [0, 1, 2, 6, 12] ?_
 refine W.cond (fun ht12 => ?_) (fun ht12 => ?_)
 ·have hn30 : S.nest = 30 := by have := ht12; simp at this; omega
  refine Z44 ?_;refine R.callUp Tryz.call72 ho (by simp) low_pr (c72 l S 18 a o _ (get_up ho)) ?_;refine Z214 ?_;refine K.thR ?_;exact K.fin (V.one (V.cellN jA jS)) ⟨fun _ => ⟨by rw [exprA_eq], rfl⟩, fun h => absurd hn30 h⟩ (hlow := by have := exprA_low Hp.length nullX; rw [exprA_eq] at this; simpa using this)
 have hn30 : S.nest ≠ 30 := by have := ht12; simp at this; omega
 refine Z149 ?_;refine Z153 ?_;refine R.loadUp jA ho ?_;refine R.add64 ?_;refine Z153 ?_
 refine R.storeUp jS ho ?_ ?_
 ·simp
 refine R.fin [0, 2, 6] ?_;refine Z0 ?_
 refine R.callVX (up' := Hx) (own' := [zero69]) hgc (hcf hn30 [zero69]) (by simpa using hxl) (by rw [List.length_set]; exact hlow) ?_
 rw [← hxl]
 refine Z22 ?_;refine R.fin [0, 6, 7] ?_;refine Z0 ?_;refine Z153 ?_;refine R.loadUp jA hxo ?_;refine R.sub64 ?_;refine Z153 ?_
 refine R.storeUp jS hxo ?_ ?_
 ·simp
 refine R.fin [6, 7] ?_;refine Z7 ?_;refine Z214 ?_;exact K.fin (V.one (V.cellN jA jS)) ⟨fun h => absurd h hn30, fun _ => ⟨by rw [exprA_eq], by rw [show ((S2.nest : Int) - 1) = ((riseM S2).nest : Int) by show _ = ((S2.nest - 1 : Nat) : Int); omega]; rfl⟩⟩ (hlow := by have := exprA_low Hx.length x; rw [exprA_eq] at this; simpa using this)

theorem bin_cells (t : Str) (a b : Expr) : exprC (binX t a b) = [intA 5, .v (sv t), intA 0, intA 0, strA [], .slice false 6 [exprA a, exprA b]] := rfl
theorem low_bin {n : Nat} (t : Str) (a b : Expr) : ObjLow n (.cells 26 [intA 5, .v (sv t), intA 0, intA 0, strA [], .slice false 6 [exprA a, exprA b]]) := low_e69 (binX t a b)
theorem low_set {n : Nat} {U : List AObj} {i : Nat} {x : AObj} (h : ∀ y ∈ U, ObjLow n y) (hx : ObjLow n x) : ∀ y ∈ U.set i x, ObjLow n y := by
 intro y hy
 rcases List.mem_or_eq_of_mem_set hy with h1 | h1
 ·exact h y h1
 rw [h1]; exact hx
/-- within, with a method's value. -/
theorem c227m {g : FuncId} (hgc : ∀ args w, (callFunc g args).run Tryz.prog w = .ok (.enter g args) w) (l : List Tok) (S : PS) (a : Int) (f : PS → Expr × PS) (o : Nat) (Hp : List AObj) (ho : Hp[o]? = some (pr l S)) (hi : S.i < l.length) (hnl : S.nest ≤ 30) (hf : S.nest ≠ 30 → Good l (S.nest + 1) f) (hcf : S.nest ≠ 30 → PC g l f (S.nest + 1)) :
  ACall Tryz.prog 134 [.ptr o 0, intA a, .fn (.func g) [.ptr o 0] []] Hp (fun r H' => r = exprA (withinM a f S).1 ∧ H' = Hp.set o (pr l (withinM a f S).2)) := by
 have hlt := (List.getElem?_eq_some_iff.1 ho).1
 by_cases h30 : S.nest = 30
 ·refine (c134 l S a g [.ptr o 0] [] nullX (deepM S) o Hp (Hp.set o (pr l (deepM S))) ho (by omega) hgc (by simp) (by simp [hlt]) rfl (fun h => h) (fun h => absurd h30 h)).mono fun r H' h => ?_
  have e : withinM a f S = (nullX, failM 18 a S) := if_pos (by rw [h30]; rfl)
  rw [e]
  exact h.1 h30
 have hq := hf h30 (deepM S) hi rfl
 refine (c134 l S a g [.ptr o 0] [] (f (deepM S)).1 (f (deepM S)).2 o Hp (Hp.set o (pr l (f (deepM S)).2)) ho (by omega) hgc (by simp) (by simp [hlt]) hq.nest (fun h y hy => ?_) (fun _ own => ?_)).mono fun r H' h => ?_
 ·rcases List.mem_or_eq_of_mem_set hy with h1 | h1
  ·obtain ⟨i, hi', rfl⟩ := List.getElem_of_mem h1
   by_cases hio : i = o
   ·subst hio
    have : Hp[i] = pr l S := by rw [List.getElem?_eq_getElem hi'] at ho; injection ho
    rw [this]; exact low_pr
   refine h _ ?_
   rw [List.mem_iff_getElem?]
   exact ⟨i, by rw [List.getElem?_set_ne (Ne.symm hio), List.getElem?_eq_getElem hi']⟩
  rw [h1]; exact low_pr
 ·have hg : (Hp.set o (pr l (deepM S)) ++ own)[o]? = some (pr l (deepM S)) := get_up (by simp [hlt])
  refine (hcf h30 o (Hp.set o (pr l (deepM S)) ++ own) (deepM S) hg hi rfl).mono fun r H' h => ⟨h.1, h.2.trans ?_⟩
  rw [List.set_append_left _ _ (by simpa using hlt), List.set_set]
 have e : withinM a f S = ((f (deepM S)).1, riseM (f (deepM S)).2) := if_neg (by
  show ¬ (((S.nest : Int) == 30) = true)
  simp
  omega)
 rw [e]
 obtain ⟨h1, h2⟩ := h.2 h30
 exact ⟨h1, by rw [h2, List.set_set]⟩
theorem c95 {g : FuncId} (hgc : ∀ args w, (callFunc g args).run Tryz.prog w = .ok (.enter g args) w) (l : List Tok) (S : PS) (of : Str) (hof : of.length ≤ 1048576) (f : PS → Expr × PS) (o : Nat) (Hp : List AObj) (ho : Hp[o]? = some (pr l S)) (hi : S.i < l.length) (hl : TokEnd l) (hll : l.length ≤ 1048576) (hf : Good l S.nest f) (hcf : PC g l f S.nest) : ACall Tryz.prog 95 [.ptr o 0, strA of, .fn (.func g) [.ptr o 0] []] Hp (fun r H' => r = exprA (leftM l of f S).1 ∧ H' = Hp.set o (pr l (leftM l of f S).2)) := by
 have holt := (List.getElem?_eq_some_iff.1 ho).1
 refine ACall.body [.cell 6 26] [0, 1, 2] Tryz.func95 Tryz.ntmps95 (fun d => ?_)
 refine Z363 ?_;refine Z0 ?_;refine R.callVUp hgc ho (by simp) low_pr (hcf o _ S (get_up ho) hi rfl) ?_;refine Z22 ?_;refine R.fin [0, 1, 2, 6, 7] ?_;refine W.seq ?_
 refine AW.loopC (α := Expr × PS) (fun r => ⟨32, setF 0 (.ptr o 0) (setF 1 (strA of) (setF 2 (.fn (.func g) [.ptr o 0] []) (setF 6 (.ptr (oid Hp.length 0) 0) (setF 7 (.ptr (oid Hp.length 1) 0) (fun _ => .any))))), Hp.set o (pr l r.2), [.cells 26 [intA 0, strA [], intA 0, intA 0, strA [], .nil], .cells 26 (exprC r.1)], [], none⟩) (fun r => LeftAt l of f S r) (fun r => l.length - r.2.i) (f S) (.start (hf S hi rfl)) (StLe.of_eq (by simp)) rfl (fun r hx => ?_)
 refine Z14 ?_;refine Z212 ?_;refine R.loadUp jA (getset ho) ?_;refine R.eql ?_;refine Z114 ?_;refine G.call Tryz.call113 (fun hB => c113 l r.2 of o _ (get_up (getset ho)) hx.fact.lt hl hof) ?_;refine Z398 ?_;refine R.fin [0, 1, 2, 6, 7, 21] ?_
 refine W.cond (fun ht21 => ?_) (fun ht21 => ?_)
 ·have hon := hx.on hl ht21 hf
  have hle := hon.2.1.le
  have hlt0 := hx.fact.lt
  have hU1 : (Hp.set o (pr l r.2)).set o (pr l (nextM r.2)) = Hp.set o (pr l (nextM r.2)) := List.set_set ..
  refine Z389 ?_;refine Z0 ?_;refine R.callUp Tryz.call114 (getset ho) (by simp) low_pr (c114 l r.2 o _ (get_up (getset ho)) hx.fact.lt hll) ?_;refine Z22 ?_;refine R.fin [0, 1, 2, 6, 7, 8] ?_;refine W.drawY0 [0, 1, 0, 0, 8, 28, 63, 127] [4] [.q 4 [] [], .s [28] (some 0) [] [], .q 1 [0] []] (fun B => Hp.set o (if B 0 = true then pr l (f (nextM r.2)).2 else pr l (nextM r.2))) (fun _ => [.cells 26 [intA 0, strA [], intA 0, intA 0, strA [], .nil], .cells 26 (exprC r.1), .cells 83 [intA (tokAt l r.2.i).kind, strA (tokAt l r.2.i).text, intA (tokAt l r.2.i).at_]]) Tryzmixed (by kernel_rfl) (by simp [List.set_set]) rfl (fun B => by simp) ?_
  apply Y.q
  case h1 =>
   intro B hT hF
   refine D.fieldAddrPtr (fo := 1) jU Tryz.sizeOf9 ?_;refine D.loadOwn jA ?_;refine Z429 ?_;refine Z415 ?_;exact Z421
  case hTF => decide
  refine Y.callVUp (r := exprA (f (nextM r.2)).1) (o := o) (x0 := pr l (nextM r.2)) (x := pr l (f (nextM r.2)).2) hgc (fun B hT hF hB => ⟨by simp only [hB]; exact getset ho, by simp [upd], rfl, low_pr, ?_⟩) ?_
  ·simp only [hB]
   exact hcf o _ (nextM r.2) (get_up (getset ho)) hon.1 hx.fact.nest
  apply Y.q
  case h1 =>
   intro B hT hF
   exact Z163
  case hTF => decide
  refine Y.tail (tn := [4]) (U := Hp.set o (pr l (f (nextM r.2)).2)) ?_;refine Z428 ?_;refine Z409 ?_;refine R.fin [0, 1, 2, 6, 7] ?_;refine K.blN ?_
  refine K.lpN (binX (tokAt l r.2.i).text r.1 (f (nextM r.2)).1, (f (nextM r.2)).2) hon.2.2 (by show l.length - (f (nextM r.2)).2.i < l.length - r.2.i; have : r.2.i + 1 ≤ (f (nextM r.2)).2.i := hle; omega) ?_
  simp only [bin_cells]
  have hlow2 := fun n => low_bin (n := n) (tokAt l r.2.i).text r.1 (f (nextM r.2)).1
  simp only [exprA_eq] at hlow2 ⊢
  exact StCut.take (fun _ => .refl _) (by repeat (first | exact lowF_any | refine lowF_set (by simp [oid] <;> omega) ?_)) (by intro y hy; rcases List.mem_cons.1 hy with rfl | hy; exact low_z69; rw [List.mem_singleton.1 hy]; exact hlow2 _) (by simp)
 have hout := hx.out (by rw [ht21]; simp)
 refine Z90 ?_;refine Z7 ?_;refine Z214 ?_;exact K.fin (V.one (V.cellN jA jS)) ⟨by rw [hout, exprA_eq], by rw [hout]⟩ (hlow := by have := exprA_low (Hp.set o (pr l r.2)).length r.1; rw [exprA_eq] at this; simpa using this)

theorem c70 (l : List Tok) (S : PS) (f : PS → Expr × PS) (o : Nat) (Hp : List AObj) (ho : Hp[o]? = some (pr l S)) (hi : S.i < l.length) (hl : TokEnd l) (hll : l.length ≤ 1048576) (hf : Good l S.nest f) (hcf : PC 96 l f S.nest) : ACall Tryz.prog 70 [.ptr o 0] Hp (fun r H' => r = exprA (leftM l orT f S).1 ∧ H' = Hp.set o (pr l (leftM l orT f S).2)) := by
 refine ACall.body [.cell 2 26] [0] Tryz.func70 Tryz.ntmps70 (fun d => ?_)
 refine Z116 ?_;refine Z44 ?_;refine R.makeFunc ?_;refine R.callUp Tryz.call95 ho (by simp) low_pr (c95 Tryz.call96 l S orT (by decide) f o _ (get_up ho) hi hl hll hf hcf) ?_;refine Z34 ?_;exact K.fin (V.one (V.cellN jA jS)) ⟨by rw [exprA_eq], rfl⟩ (hlow := by have := exprA_low Hp.length (leftM l orT f S).1; rw [exprA_eq] at this; simpa using this)

theorem c96 (l : List Tok) (S : PS) (f : PS → Expr × PS) (o : Nat) (Hp : List AObj) (ho : Hp[o]? = some (pr l S)) (hi : S.i < l.length) (hl : TokEnd l) (hll : l.length ≤ 1048576) (hf : Good l S.nest f) (hcf : PC 115 l f S.nest) : ACall Tryz.prog 96 [.ptr o 0] Hp (fun r H' => r = exprA (leftM l andT f S).1 ∧ H' = Hp.set o (pr l (leftM l andT f S).2)) := by
 refine ACall.body [.cell 2 26] [0] Tryz.func96 Tryz.ntmps96 (fun d => ?_)
 refine Z116 ?_;refine Z44 ?_;refine R.makeFunc ?_;refine R.callUp Tryz.call95 ho (by simp) low_pr (c95 Tryz.call115 l S andT (by decide) f o _ (get_up ho) hi hl hll hf hcf) ?_;refine Z34 ?_;exact K.fin (V.one (V.cellN jA jS)) ⟨by rw [exprA_eq], rfl⟩ (hlow := by have := exprA_low Hp.length (leftM l andT f S).1; rw [exprA_eq] at this; simpa using this)

theorem c160 (l : List Tok) (S : PS) (f : PS → Expr × PS) (o : Nat) (Hp : List AObj) (ho : Hp[o]? = some (pr l S)) (hi : S.i < l.length) (hl : TokEnd l) (hll : l.length ≤ 1048576) (hf : Good l S.nest f) (hcf : PC 186 l f S.nest) : ACall Tryz.prog 160 [.ptr o 0] Hp (fun r H' => r = exprA (leftM l sumT f S).1 ∧ H' = Hp.set o (pr l (leftM l sumT f S).2)) := by
 refine ACall.body [.cell 2 26] [0] Tryz.func160 Tryz.ntmps160 (fun d => ?_)
 refine Z116 ?_;refine Z44 ?_;refine R.makeFunc ?_;refine R.callUp Tryz.call95 ho (by simp) low_pr (c95 Tryz.call186 l S sumT (by decide) f o _ (get_up ho) hi hl hll hf hcf) ?_;refine Z34 ?_;exact K.fin (V.one (V.cellN jA jS)) ⟨by rw [exprA_eq], rfl⟩ (hlow := by have := exprA_low Hp.length (leftM l sumT f S).1; rw [exprA_eq] at this; simpa using this)

theorem c186 (l : List Tok) (S : PS) (f : PS → Expr × PS) (o : Nat) (Hp : List AObj) (ho : Hp[o]? = some (pr l S)) (hi : S.i < l.length) (hl : TokEnd l) (hll : l.length ≤ 1048576) (hf : Good l S.nest f) (hcf : PC 201 l f S.nest) : ACall Tryz.prog 186 [.ptr o 0] Hp (fun r H' => r = exprA (leftM l prodT f S).1 ∧ H' = Hp.set o (pr l (leftM l prodT f S).2)) := by
 refine ACall.body [.cell 2 26] [0] Tryz.func186 Tryz.ntmps186 (fun d => ?_)
 refine Z116 ?_;refine Z44 ?_;refine R.makeFunc ?_;refine R.callUp Tryz.call95 ho (by simp) low_pr (c95 Tryz.call201 l S prodT (by decide) f o _ (get_up ho) hi hl hll hf hcf) ?_;refine Z34 ?_;exact K.fin (V.one (V.cellN jA jS)) ⟨by rw [exprA_eq], rfl⟩ (hlow := by have := exprA_low Hp.length (leftM l prodT f S).1; rw [exprA_eq] at this; simpa using this)

/-- What is so of the functions one nest deeper. -/
structure DeepC (l : List Tok) (Dv : Fam) (n : Nat) : Prop where
 ei : n ≠ 30 → Good l (n + 1) Dv.ei ∧ PC 70 l Dv.ei (n + 1)
 no : n ≠ 30 → Good l (n + 1) Dv.no ∧ PC 115 l Dv.no (n + 1)
 ne : n ≠ 30 → Good l (n + 1) Dv.ne ∧ PC 201 l Dv.ne (n + 1)
theorem one_agg (op : Int) (x : Expr) : exprA (oneX op x) = .agg [intA op, strA [], intA 0, intA 0, strA [], .slice false 6 [exprA x]] := by rw [exprA_eq]; rfl
theorem bin_agg (t : Str) (a b : Expr) : exprA (binX t a b) = .agg [intA 5, .v (sv t), intA 0, intA 0, strA [], .slice false 6 [exprA a, exprA b]] := by rw [exprA_eq]; rfl
theorem low_agg {n : Nat} (e : Expr) : Low n (.agg [.v (.int .i64 e.op), .v (sv e.text), .v (.int .i64 e.val.kind), .v (.int .i64 e.val.n), .v (sv e.val.s), .slice false 6 (e.kids.map exprA)]) := by
 have := exprA_low n e
 rwa [exprA_eq] at this
theorem c201 (l : List Tok) (S : PS) (Dv : Fam) (o : Nat) (Hp : List AObj) (ho : Hp[o]? = some (pr l S)) (hi : S.i < l.length) (hl : TokEnd l) (hll : l.length ≤ 1048576) (hnl : S.nest ≤ 30) (hd : DeepC l Dv S.nest) (hc : PC 217 l (atomM l Dv) S.nest) : ACall Tryz.prog 201 [.ptr o 0] Hp (fun r H' => r = exprA (negM l Dv S).1 ∧ H' = Hp.set o (pr l (negM l Dv S).2)) := by
 refine ACall.body [.cell 2 26] [0] Tryz.func201 Tryz.ntmps201 (fun d => ?_)
 refine Z116 ?_;refine Z14 ?_;refine R.call Tryz.call113 (c113 l S negT o _ (get_up ho) hi hl (by decide)) ?_;refine R.not ?_;refine R.fin [0, 2, 6] ?_
 refine W.cond (fun ht6 => ?_) (fun ht6 => ?_)
 ·have e : negM l Dv S = atomM l Dv S := if_pos ht6
  refine Z0 ?_;refine R.callUp Tryz.call217 ho (by simp) low_pr (hc o _ S (get_up ho) hi rfl) ?_;refine Z34 ?_;exact Z115
 have his : isM l negT S = true := by simpa using ht6
 have hi1 : (nextM S).i < l.length := hl.stepIs hi his
 have e : negM l Dv S = (oneX 3 (withinM (tokAt l S.i).at_ Dv.ne (nextM S)).1, (withinM (tokAt l S.i).at_ Dv.ne (nextM S)).2) := if_neg (by rw [ht6]; simp)
 refine Z2 ?_;refine Z93 ?_;refine Z22 ?_;refine Z246 ?_;refine Z124 ?_;refine Z405 ?_;refine R.makeFunc ?_;refine R.callUp Tryz.call134 (getset ho) (by simp) low_pr (c227m Tryz.call201 l (nextM S) (tokAt l S.i).at_ Dv.ne o _ (get_up (getset ho)) hi1 hnl (fun h => (hd.ne h).1) (fun h => (hd.ne h).2)) ?_;refine Z422 ?_;refine Z191 ?_;exact K.fin (V.one (V.cellN jA jS)) ⟨by rw [e, one_agg]; simp only [exprA_eq], by rw [e, List.set_set]⟩ (hlow := by have := exprA_low Hp.length (oneX 3 (withinM (tokAt l S.i).at_ Dv.ne (nextM S)).1); rw [one_agg] at this; simp only [exprA_eq] at this; simpa only [List.length_set] using this)

theorem c115 (l : List Tok) (S : PS) (Dv : Fam) (o : Nat) (Hp : List AObj) (ho : Hp[o]? = some (pr l S)) (hi : S.i < l.length) (hl : TokEnd l) (hll : l.length ≤ 1048576) (hnl : S.nest ≤ 30) (hd : DeepC l Dv S.nest) (hc : PC 133 l (compareM l Dv) S.nest) : ACall Tryz.prog 115 [.ptr o 0] Hp (fun r H' => r = exprA (notM l Dv S).1 ∧ H' = Hp.set o (pr l (notM l Dv S).2)) := by
 refine ACall.body [.cell 2 26] [0] Tryz.func115 Tryz.ntmps115 (fun d => ?_)
 refine Z116 ?_;refine Z14 ?_;refine R.call Tryz.call113 (c113 l S notT o _ (get_up ho) hi hl (by decide)) ?_;refine R.not ?_;refine R.fin [0, 2, 6] ?_
 refine W.cond (fun ht6 => ?_) (fun ht6 => ?_)
 ·have e : notM l Dv S = compareM l Dv S := if_pos ht6
  refine Z0 ?_;refine R.callUp Tryz.call133 ho (by simp) low_pr (hc o _ S (get_up ho) hi rfl) ?_;refine Z34 ?_;exact Z115
 have his : isM l notT S = true := by simpa using ht6
 have hi1 : (nextM S).i < l.length := hl.stepIs hi his
 have e : notM l Dv S = (oneX 4 (withinM (tokAt l S.i).at_ Dv.no (nextM S)).1, (withinM (tokAt l S.i).at_ Dv.no (nextM S)).2) := if_neg (by rw [ht6]; simp)
 refine Z2 ?_;refine Z93 ?_;refine Z22 ?_;refine Z246 ?_;refine Z124 ?_;refine Z405 ?_;refine R.makeFunc ?_;refine R.callUp Tryz.call134 (getset ho) (by simp) low_pr (c227m Tryz.call115 l (nextM S) (tokAt l S.i).at_ Dv.no o _ (get_up (getset ho)) hi1 hnl (fun h => (hd.no h).1) (fun h => (hd.no h).2)) ?_;refine Z422 ?_;refine Z191 ?_;exact K.fin (V.one (V.cellN jA jS)) ⟨by rw [e, one_agg]; simp only [exprA_eq], by rw [e, List.set_set]⟩ (hlow := by have := exprA_low Hp.length (oneX 4 (withinM (tokAt l S.i).at_ Dv.no (nextM S)).1); rw [one_agg] at this; simp only [exprA_eq] at this; simpa only [List.length_set] using this)

theorem c133 (l : List Tok) (S : PS) (Dv : Fam) (o : Nat) (Hp : List AObj) (ho : Hp[o]? = some (pr l S)) (hi : S.i < l.length) (hl : TokEnd l) (hll : l.length ≤ 1048576) (hnl : S.nest ≤ 30) (hd : DeepC l Dv S.nest) (hg : Good l S.nest (sumM l Dv)) (hc : PC 160 l (sumM l Dv) S.nest) : ACall Tryz.prog 133 [.ptr o 0] Hp (fun r H' => r = exprA (compareM l Dv S).1 ∧ H' = Hp.set o (pr l (compareM l Dv S).2)) := by
 have hq := hg S hi rfl
 refine ACall.body [.cell 2 26] [0] Tryz.func133 Tryz.ntmps133 (fun d => ?_)
 refine Z116 ?_;refine Z0 ?_;refine R.callUp Tryz.call160 ho (by simp) low_pr (hc o _ S (get_up ho) hi rfl) ?_;refine Z22 ?_;refine Z386 ?_;refine Z212 ?_;refine R.loadUp jA (getset ho) ?_;refine R.neq ?_;refine Z21 ?_;refine G.call Tryz.call113 (fun hB => c113 l (sumM l Dv S).2 cmpT o _ (get_up (getset ho)) hq.lt hl (by decide)) ?_;refine Z221 ?_;refine R.fin [0, 2, 3, 17] ?_
 refine W.cond (fun ht17 => ?_) (fun ht17 => ?_)
 ·have e : compareM l Dv S = sumM l Dv S := if_pos ht17
  refine Z7 ?_;refine Z34 ?_;exact Z115
 have his : isM l cmpT (sumM l Dv S).2 = true := by
  have := ht17
  simp only [Bool.or_eq_false_iff, Bool.not_eq_false'] at this
  exact this.2
 have hi1 : (nextM (sumM l Dv S).2).i < l.length := hl.stepIs hq.lt his
 have e : compareM l Dv S = (binX (tokAt l (sumM l Dv S).2.i).text (sumM l Dv S).1 (sumM l Dv (nextM (sumM l Dv S).2)).1, (sumM l Dv (nextM (sumM l Dv S).2)).2) := if_neg (by rw [ht17]; simp)
 refine Z149 ?_;refine R.callUp Tryz.call114 (getset ho) (by simp) low_pr (c114 l (sumM l Dv S).2 o _ (get_up (getset ho)) hq.lt hll) ?_;refine Z22 ?_;refine R.fin [0, 2, 3, 4] ?_;refine W.drawY [0, 1, 0, 0, 8, 28, 63, 127] [4] [.q 4 [] [], .s [25] (some 0) [] [], .q 1 [0] []] (fun B => Hp.set o (if B 0 = true then pr l (sumM l Dv (nextM (sumM l Dv S).2)).2 else pr l (nextM (sumM l Dv S).2))) (fun _ => [.cells 26 [intA 0, strA [], intA 0, intA 0, strA [], .nil], .cells 26 (exprC (sumM l Dv S).1), .cells 83 [intA (tokAt l (sumM l Dv S).2.i).kind, strA (tokAt l (sumM l Dv S).2.i).text, intA (tokAt l (sumM l Dv S).2.i).at_]]) Tryzmixed (by kernel_rfl) (by simp [List.set_set]) rfl (fun B => by simp) ?_
 apply Y.q
 case h1 =>
  intro B hT hF
  refine D.fieldAddrPtr (fo := 1) jU Tryz.sizeOf9 ?_;refine D.loadOwn jA ?_;refine Z429 ?_;refine Z415 ?_;exact Z421
 case hTF => decide
 refine Y.callUp (r := exprA (sumM l Dv (nextM (sumM l Dv S).2)).1) (o := o) (x0 := pr l (nextM (sumM l Dv S).2)) (x := pr l (sumM l Dv (nextM (sumM l Dv S).2)).2) Tryz.call160 (fun B hT hF hB => ⟨by simp only [hB]; exact getset ho, by simp [upd], rfl, low_pr, ?_⟩) ?_
 ·simp only [hB]
  exact hc o _ (nextM (sumM l Dv S).2) (get_up (getset ho)) hi1 hq.nest
 apply Y.q
 case h1 =>
  intro B hT hF
  exact Z163
 case hTF => decide
 refine Y.tail (tn := [4]) (U := Hp.set o (pr l (sumM l Dv (nextM (sumM l Dv S).2)).2)) ?_;refine Z191 ?_;exact K.fin (V.one (V.cellN jA jS)) ⟨by rw [e, bin_agg]; simp only [exprA_eq], by rw [e]⟩ (hlow := by have := exprA_low Hp.length (binX (tokAt l (sumM l Dv S).2.i).text (sumM l Dv S).1 (sumM l Dv (nextM (sumM l Dv S).2)).1); rw [bin_agg] at this; simp only [exprA_eq] at this; simpa only [List.length_set] using this)

/-- The contract of the parser of calls. -/
def PCall (l : List Tok) (Dv : Fam) (n : Nat) : Prop := ∀ (o : Nat) (Hp : List AObj) (S : PS) (t : Tok), Hp[o]? = some (pr l S) → (nextM S).i < l.length → S.nest = n → t.text.length ≤ 1048576 → isM l opT S = true → ACall Tryz.prog 224 [.ptr o 0, tokA t] Hp (fun r H' => r = exprA (callM l Dv t S).1 ∧ H' = Hp.set o (pr l (callM l Dv t S).2))
theorem null_agg : exprA nullX = .agg [intA 0, strA [], intA 0, intA 0, strA [], .slice false 6 []] := by rw [exprA_eq]; rfl
theorem c217 (l : List Tok) (S : PS) (Dv : Fam) (o : Nat) (Hp : List AObj) (ho : Hp[o]? = some (pr l S)) (hi : S.i < l.length) (hl : TokEnd l) (hll : l.length ≤ 1048576) (hnl : S.nest ≤ 30) (hd : DeepC l Dv S.nest) (hcl : PCall l Dv S.nest) : ACall Tryz.prog 217 [.ptr o 0] Hp (fun r H' => r = exprA (atomM l Dv S).1 ∧ H' = Hp.set o (pr l (atomM l Dv S).2)) := by
 refine ACall.body [.cell 2 26] [0] Tryz.func217 Tryz.ntmps217 (fun d => ?_)
 refine Z116 ?_;refine Z0 ?_;refine Z188 ?_;refine Z386 ?_;refine Z212 ?_;refine R.loadUp jA ho ?_;refine R.neq ?_;refine R.fin [0, 2, 3, 14] ?_
 refine W.cond (fun ht14 => ?_) (fun ht14 => ?_)
 ·have e : atomM l Dv S = (nullX, S) := if_pos ht14
  refine Z81 ?_;refine R.wk 15 _ nullX_le ?_;refine Z133 ?_;exact K.fin (V.one (V.cellN jA jS)) ⟨by rw [e, exprA_eq], by rw [e]; exact (set_same ho).symm⟩ (hlow := by have := exprA_low Hp.length (nullX); simpa only [exprA_eq, List.length_set] using this)
 have e0 : ¬ (S.code != 0) = true := by rw [ht14]; simp
 refine Z88 ?_;refine Z280 ?_;refine Z181 ?_;refine G.call Tryz.call113 (fun hB => c113 l S litT o _ (get_up ho) hi hl (by decide)) ?_;refine R.pickOr ?_;refine Z404 ?_;refine R.fin [0, 2, 3, 16] ?_
 refine W.cond (fun ht16 => ?_) (fun ht16 => ?_)
 ·have e : atomM l Dv S = (valX (readM (tokAt l S.i).text).1, nextM S) := by unfold atomM; rw [if_neg e0, if_pos ht16]
  refine Z93 ?_;refine R.field1 jU Tryz.isAgg9 ?_;refine R.call Tryz.call130 (c130 (tokAt l S.i).text (hl.text _) _) ?_;refine Z112 ?_;refine R.fin [2, 4] ?_;refine Z7 ?_;refine R.call Tryz.call223 (c223 (readM (tokAt l S.i).text).1 _) ?_;refine Z34 ?_;refine Z5 ?_;exact K.fin (V.one (V.cellN jA jS)) ⟨by rw [e, exprA_eq], by rw [e]⟩ (hlow := by have := exprA_low Hp.length (valX (readM (tokAt l S.i).text).1); simpa only [exprA_eq, List.length_set] using this)
 have e1 : ¬ (((tokAt l S.i).kind == 3) || isM l litT S) = true := by rw [ht16]; simp
 refine Z280 ?_;refine Z43 ?_;refine R.fin [0, 2, 3, 33] ?_
 refine W.cond (fun ht33 => ?_) (fun ht33 => ?_)
 ·have e : atomM l Dv S = (valX ⟨2, 0, (tokAt l S.i).text.take 200⟩, nextM S) := by unfold atomM; rw [if_neg e0, if_neg e1, if_pos ht33]
  refine Z93 ?_;refine R.field1 jU Tryz.isAgg9 ?_;refine R.call Tryz.call125 (c125 (tokAt l S.i).text _) ?_;refine R.call Tryz.call223 (c223 ⟨2, 0, (tokAt l S.i).text.take 200⟩ _) ?_;refine Z34 ?_;refine Z5 ?_;exact K.fin (V.one (V.cellN jA jS)) ⟨by rw [e, exprA_eq], by rw [e]⟩ (hlow := by have := exprA_low Hp.length (valX ⟨2, 0, (tokAt l S.i).text.take 200⟩); simpa only [exprA_eq, List.length_set] using this)
 have e2 : ¬ ((tokAt l S.i).kind == 4) = true := by rw [ht33]; simp
 refine Z280 ?_;refine Z43 ?_;refine R.fin [0, 2, 3, 42] ?_
 refine W.cond (fun ht42 => ?_) (fun ht42 => ?_)
 ·have hi1 : (nextM S).i < l.length := hl.step hi (by rw [beq_iff_eq] at ht42; rw [ht42]; decide)
  refine Z93 ?_;refine Z386 ?_;refine R.call Tryz.call113 (c113 l (nextM S) opT o _ (get_up (getset ho)) hi1 hl (by decide)) ?_;refine R.fin [0, 2, 3, 49] ?_
  refine W.cond (fun ht49 => ?_) (fun ht49 => ?_)
  ·have e : atomM l Dv S = callM l Dv (tokAt l S.i) (nextM S) := by unfold atomM; rw [if_neg e0, if_neg e1, if_neg e2, if_pos ht42, if_pos ht49]
   have hi2 : (nextM (nextM S)).i < l.length := hl.stepIs hi1 ht49
   refine Z0 ?_;refine Z430 ?_;refine R.callUp Tryz.call224 (getset ho) (by simp) low_pr (hcl o _ (nextM S) (tokAt l S.i) (get_up (getset ho)) hi2 rfl (hl.text _) ht49) ?_;refine Z133 ?_;refine Z5 ?_;exact K.fin (V.one (V.cellN jA jS)) ⟨by rw [e, exprA_eq], by rw [e, List.set_set]⟩ (hlow := by have := exprA_low Hp.length ((callM l Dv (tokAt l S.i) (nextM S)).1); simpa only [exprA_eq, List.length_set] using this)
  have e : atomM l Dv S = (nameE (tokAt l S.i).text, nextM S) := by unfold atomM; rw [if_neg e0, if_neg e1, if_neg e2, if_pos ht42, if_neg (by rw [ht49]; simp)]
  refine Z38 ?_;refine Z182 ?_;refine Z428 ?_;refine R.wk 55 _ (nameE_le _) ?_;refine Z34 ?_;refine Z5 ?_;exact K.fin (V.one (V.cellN jA jS)) ⟨by rw [e, exprA_eq], by rw [e]⟩ (hlow := by have := exprA_low Hp.length (nameE (tokAt l S.i).text); simpa only [exprA_eq, List.length_set] using this)
 have e3 : ¬ ((tokAt l S.i).kind == 1) = true := by rw [ht42]; simp
 refine Z0 ?_;refine R.call Tryz.call113 (c113 l S opT o _ (get_up ho) hi hl (by decide)) ?_;refine Z404 ?_;refine R.fin [0, 2, 3, 56] ?_
 refine W.cond (fun ht56 => ?_) (fun ht56 => ?_)
 ·have e : atomM l Dv S = ((withinM (tokAt l S.i).at_ Dv.ei (nextM S)).1, wantM l closeT (withinM (tokAt l S.i).at_ Dv.ei (nextM S)).2) := by unfold atomM; rw [if_neg e0, if_neg e1, if_neg e2, if_neg e3, if_pos ht56]
  have hi1 : (nextM S).i < l.length := hl.stepIs hi ht56
  have hwf := withinM_fact (S := nextM S) (l := l) (f := Dv.ei) (tokAt l S.i).at_ hi1 (fun h => (hd.ei h).1)
  refine Z93 ?_;refine Z246 ?_;refine Z124 ?_;refine Z405 ?_;refine R.makeFunc ?_;refine R.callUp Tryz.call134 (getset ho) (by simp) low_pr (c227m Tryz.call70 l (nextM S) (tokAt l S.i).at_ Dv.ei o _ (get_up (getset ho)) hi1 hnl (fun h => (hd.ei h).1) (fun h => (hd.ei h).2)) ?_;refine Z22 ?_;refine R.fin [0, 2, 6] ?_;refine Z0 ?_;refine R.callUp Tryz.call225 (getset (getset ho)) (by simp) low_pr (c225 l (withinM (tokAt l S.i).at_ Dv.ei (nextM S)).2 closeT o _ (get_up (getset (getset ho))) hwf.lt hll) ?_;refine R.fin [2, 6] ?_;refine Z7 ?_;refine Z34 ?_;refine Z5 ?_;exact K.fin (V.one (V.cellN jA jS)) ⟨by rw [e, exprA_eq], by rw [e, List.set_set, List.set_set]⟩ (hlow := by have := exprA_low Hp.length ((withinM (tokAt l S.i).at_ Dv.ei (nextM S)).1); simpa only [exprA_eq, List.length_set] using this)
 have e : atomM l Dv S = (nullX, failM 8 (tokAt l S.i).at_ S) := by unfold atomM; rw [if_neg e0, if_neg e1, if_neg e2, if_neg e3, if_neg (by rw [ht56]; simp)]
 refine Z30 ?_;refine Z0 ?_;refine Z338 ?_;refine Z34 ?_;exact K.fin (V.one (V.cellN jA jS)) ⟨by rw [e, exprA_eq], by rw [e]⟩ (hlow := by have := exprA_low Hp.length (nullX); simpa only [exprA_eq, List.length_set] using this)

theorem deep_of {l : List Tok} (hl : TokEnd l) (hll : l.length ≤ 1048576) {d n : Nat} (h : n + (d + 1) = 31) (hp : n ≠ 30 → PC 70 l (famM l d).ei (n + 1) ∧ PC 115 l (famM l d).no (n + 1) ∧ PC 201 l (famM l d).ne (n + 1)) : DeepC l (famM l d) n := by
 have g : n ≠ 30 → _ := fun h30 => famM_good hl hll d (n + 1) (by omega) (by omega)
 exact ⟨fun h => ⟨(g h).1, (hp h).1⟩, fun h => ⟨(g h).2.1, (hp h).2.1⟩, fun h => ⟨(g h).2.2, (hp h).2.2⟩⟩
/-- All functions of the parser. -/
theorem parse_pc {l : List Tok} (hl : TokEnd l) (hll : l.length ≤ 1048576) (hcl : ∀ n Dv, n ≤ 30 → DeepC l Dv n → PCall l Dv n) : ∀ (d n : Nat), n + d = 31 → n ≤ 30 → PC 70 l (famM l d).ei n ∧ PC 115 l (famM l d).no n ∧ PC 201 l (famM l d).ne n
 | 0, n, h, hn => by omega
 | d + 1, n, h, hn => by
  have hd : DeepC l (famM l d) n := deep_of hl hll h (fun h30 => parse_pc hl hll hcl d (n + 1) (by omega) (by omega))
  have g1 : Good l n (negM l (famM l d)) := negM_good hl hll (fun h => (hd.ei h).1) (fun h => (hd.ne h).1)
  have g2 : Good l n (prodM l (famM l d)) := leftM_good hl g1
  have g3 : Good l n (sumM l (famM l d)) := leftM_good hl g2
  have g4 : Good l n (compareM l (famM l d)) := compareM_good hl hll (fun h => (hd.ei h).1) (fun h => (hd.ne h).1)
  have g5 : Good l n (notM l (famM l d)) := notM_good hl hll (fun h => (hd.ei h).1) (fun h => (hd.ne h).1) (fun h => (hd.no h).1)
  have g6 : Good l n (bothM l (famM l d)) := leftM_good hl g5
  have p0 : PC 217 l (atomM l (famM l d)) n := fun o Hp S ho hi hS => by
   subst hS
   exact c217 l S (famM l d) o Hp ho hi hl hll hn hd (hcl _ _ hn hd)
  have p1 : PC 201 l (negM l (famM l d)) n := fun o Hp S ho hi hS => by
   subst hS
   exact c201 l S (famM l d) o Hp ho hi hl hll hn hd p0
  have p2 : PC 186 l (prodM l (famM l d)) n := fun o Hp S ho hi hS => by
   subst hS
   exact c186 l S (negM l (famM l d)) o Hp ho hi hl hll g1 p1
  have p3 : PC 160 l (sumM l (famM l d)) n := fun o Hp S ho hi hS => by
   subst hS
   exact c160 l S (prodM l (famM l d)) o Hp ho hi hl hll g2 p2
  have p4 : PC 133 l (compareM l (famM l d)) n := fun o Hp S ho hi hS => by
   subst hS
   exact c133 l S (famM l d) o Hp ho hi hl hll hn hd g3 p3
  have p5 : PC 115 l (notM l (famM l d)) n := fun o Hp S ho hi hS => by
   subst hS
   exact c115 l S (famM l d) o Hp ho hi hl hll hn hd p4
  have p6 : PC 96 l (bothM l (famM l d)) n := fun o Hp S ho hi hS => by
   subst hS
   exact c96 l S (notM l (famM l d)) o Hp ho hi hl hll g5 p5
  have p7 : PC 70 l (eitherM l (famM l d)) n := fun o Hp S ho hi hS => by
   subst hS
   exact c70 l S (bothM l (famM l d)) o Hp ho hi hl hll g6 p6
  exact ⟨p7, p5, p1⟩
theorem okE_depth : ∀ (n : Nat) (e : Expr), okE n e → depthE e ≤ n
 | 0, _, h => h.elim
 | n + 1, e, h => by
  rw [depthE_eq]
  have : ∀ l : List Expr, (∀ y ∈ l, okE n y) → depthL l ≤ n := by
   intro l
   induction l with
   | nil => intro _; exact Nat.zero_le _
   | cons y r ih =>
    intro hl
    rw [depthL]
    have h1 := okE_depth n y (hl y (by simp))
    have h2 := ih (fun z hz => hl z (by simp [hz]))
    omega
  have := this e.kids h.2.2
  omega
theorem sizeL_le (e : Expr) (x : Nat) : sizeL (e.kids.take x) + 1 ≤ sizeE e := by
 rw [sizeE_eq]
 have : ∀ (l : List Expr) (x : Nat), sizeL (l.take x) ≤ sizeL l := by
  intro l
  induction l with
  | nil => intro x; simp
  | cons y r ih =>
   intro x
   cases x with
   | zero => simp [sizeL]
   | succ x =>
    have := ih x
    rw [List.take_succ_cons, sizeL, sizeL]
    omega
 have := this e.kids x
 omega
theorem c35 : ∀ (n : Nat) (e : Expr), okE n e → n ≤ 1048576 → ∀ Hp : List AObj, AFun Tryz.prog 35 [exprA e] Hp (intA (depthE e : Nat)) := by
 intro n
 induction n with
 | zero => exact fun e h => h.elim
 | succ n ih =>
 intro e hok hn Hp
 refine ACall.body [.tmp 2] [0] Tryz.func35 Tryz.ntmps35 (fun d => ?_)
 refine Z156 ?_;refine Z3 ?_;refine R.fin [1, 3] ?_;refine Z97 ?_;refine R.fin [1, 3, 4] ?_
 refine AW.loopC (α := Nat) (fun x => ⟨25, setF 1 (.ro (exprC e)) (setF 3 (intA (depthL (e.kids.take x) : Nat)) (setF 4 (intA (x : Nat)) (fun _ => .any))), Hp, [], [], none⟩) (fun x => x ≤ e.kids.length) (fun x => e.kids.length - x) (0) (Nat.zero_le _) (StLe.of_eq (by simp [depthL])) rfl (fun x hx => ?_)
 refine Z14 ?_;refine Z16 ?_;refine Z106 ?_;refine R.fin [1, 3, 4, 10] ?_
 refine W.cond (fun ht10 => ?_) (fun ht10 => ?_)
 ·have hlt : x < e.kids.length := by simpa using ht10
  have hkl := hok.2.1
  refine Z88 ?_;refine Z134 ?_;refine Z405 ?_;refine Z122 ?_;refine R.call Tryz.call35 (ih e.kids[x] (hok.2.2 _ (List.getElem_mem hlt)) (by omega) _) ?_;refine Z404 ?_;refine R.fin [1, 3, 4, 5] ?_;refine Z44 ?_;refine R.gtr ?_;refine R.fin [1, 3, 4, 5, 21] ?_
  refine W.cond (fun ht21 => ?_) (fun ht21 => ?_)
  ·have em : depthL (e.kids.take (x + 1)) = depthE e.kids[x] := by rw [depthL_take _ hlt]; have := of_decide_eq_true ht21; omega
   refine Z31 ?_;refine Z404 ?_;refine R.fin [1, 3, 4] ?_;refine Z141 ?_;exact Z242
  have em : depthL (e.kids.take (x + 1)) = depthL (e.kids.take x) := by rw [depthL_take _ hlt]; have := of_decide_eq_false ht21; omega
  refine Z177 ?_;exact Z242
 have hd1 := okE_depth _ e hok
 have hxe : e.kids.take x = e.kids := List.take_of_length_le (by simp at ht10; omega)
 have hdd := depthE_eq e
 refine Z296 ?_
 rw [hxe]
 refine Z40 ?_;refine Z4 ?_;exact K.fin (V.one V.tmp) ⟨by rw [hdd]; rfl, rfl⟩

theorem c22 : ∀ (n : Nat) (e : Expr), okE n e → sizeE e ≤ 1048576 → ∀ Hp : List AObj, AFun Tryz.prog 22 [exprA e] Hp (intA (sizeE e : Nat)) := by
 intro n
 induction n with
 | zero => exact fun e h => h.elim
 | succ n ih =>
 intro e hok hn Hp
 refine ACall.body [.tmp 2] [0] Tryz.func22 Tryz.ntmps22 (fun d => ?_)
 refine Z156 ?_;refine Z3 ?_;refine R.fin [1, 3] ?_;refine Z97 ?_;refine R.fin [1, 3, 4] ?_
 refine AW.loopC (α := Nat) (fun x => ⟨21, setF 1 (.ro (exprC e)) (setF 3 (intA ((sizeL (e.kids.take x) : Nat) + 1)) (setF 4 (intA (x : Nat)) (fun _ => .any))), Hp, [], [], none⟩) (fun x => x ≤ e.kids.length) (fun x => e.kids.length - x) (0) (Nat.zero_le _) (StLe.of_eq (by simp [sizeL])) rfl (fun x hx => ?_)
 refine Z14 ?_;refine Z16 ?_;refine Z106 ?_;refine R.fin [1, 3, 4, 9] ?_
 refine W.cond (fun ht9 => ?_) (fun ht9 => ?_)
 ·have hlt : x < e.kids.length := by simpa using ht9
  have hkl := hok.2.1
  have hs1 := sizeL_take e.kids hlt
  have hs2 := sizeL_le e (x + 1)
  refine Z88 ?_;refine Z31 ?_;refine Z16 ?_;refine Z405 ?_;refine Z122 ?_
  refine R.call Tryz.call22 (ih e.kids[x] (hok.2.2 _ (List.getElem_mem hlt)) (by have := size_kid e hlt; omega) _) ?_
  refine Z40 ?_;refine R.fin [1, 3, 4] ?_;refine Z141 ?_;refine R.fin [1, 3, 4] ?_;exact K.lpN (x + 1) hlt (by omega) (StCut.of_eq (by simp only [hs1]; congr 4; simp only [AV.v.injEq, Value.int.injEq, true_and]; omega))
 have hxe : e.kids.take x = e.kids := List.take_of_length_le (by simp at ht9; omega)
 have hdd := sizeE_eq e
 refine Z296 ?_;refine Z78 ?_;exact K.fin (V.one V.tmp) ⟨by rw [hxe, hdd]; simp; omega, rfl⟩

def refArM (s : Str) : Int := if (((s == [108, 101, 110]) || (s == [115, 116, 114])) || (s == [110, 117, 109])) || (s == [105, 115, 110, 117, 108, 108]) then 1 else if ((s == [110, 118, 108]) || (s == [108, 101, 102, 116])) || (s == [114, 105, 103, 104, 116]) then 2 else if s == [105, 102] then 3 else -1
theorem arity_ref (s : Str) : arityM s = refArM s := by
 by_cases h : s ∈ arityList.map (·.1)
 ·have : ((arityList.map (·.1)).all fun s => decide (arityM s = refArM s)) = true := by kernel_rfl
  exact of_decide_eq_true (List.all_eq_true.1 this s h)
 have h1 : arityM s = -1 := by
  unfold arityM
  rw [List.find?_eq_none.2 fun p hp => by
   simp only [beq_iff_eq]
   rintro rfl
   exact h (List.mem_map.2 ⟨p, hp, rfl⟩)]
 rw [h1]
 simp only [arityList, List.map_cons, List.map_nil, List.mem_cons, List.not_mem_nil, or_false, not_or] at h
 obtain ⟨a1, a2, a3, a4, a5, a6, a7, a8⟩ := h
 simp [refArM, a1, a2, a3, a4, a5, a6, a7, a8]
theorem c86 (s : Str) (Hp : List AObj) : AFun Tryz.prog 86 [strA s] Hp (intA (refArM s)) := by
 refine ACall.body [.tmp 2] [0] Tryz.func86 Tryz.ntmps86 (fun d => ?_)
 refine Z101 ?_;refine Z14 ?_;refine R.fin [3] ?_;refine AW.block ?_;refine Z11 ?_;refine Z25 ?_;refine R.fin [3, 4] ?_
 refine W.cond (fun ht4 => ?_) (fun ht4 => ?_)
 ·refine Z2 ?_
  refine W.cond (fun ht4 => ?_) (fun ht4 => ?_)
  ·exact Z74
  refine Z11 ?_;refine Z196 ?_
  refine W.cond (fun ht9 => ?_) (fun ht9 => ?_)
  ·refine Z2 ?_
   refine W.cond (fun ht9 => ?_) (fun ht9 => ?_)
   ·exact Z74
   refine Z138 ?_
   refine W.cond (fun ht13 => ?_) (fun ht13 => ?_)
   ·exact Z74
   exact Z161
  refine Z41 ?_;refine R.fin [3, 9] ?_
  refine W.cond (fun ht9 => ?_) (fun ht9 => ?_)
  ·refine Z2 ?_
   refine W.cond (fun ht9 => ?_) (fun ht9 => ?_)
   ·exact Z74
   refine Z138 ?_
   refine W.cond (fun ht13 => ?_) (fun ht13 => ?_)
   ·exact Z74
   exact Z161
  refine Z411 ?_;refine Z196 ?_;refine K.thN ?_
  refine W.cond (fun ht9 => ?_) (fun ht9 => ?_)
  ·exact Z74
  refine Z138 ?_
  refine W.cond (fun ht13 => ?_) (fun ht13 => ?_)
  ·exact Z74
  exact Z161
 refine Z41 ?_;refine R.fin [3, 4] ?_
 refine W.cond (fun ht4 => ?_) (fun ht4 => ?_)
 ·refine Z2 ?_
  refine W.cond (fun ht4 => ?_) (fun ht4 => ?_)
  ·exact Z74
  refine Z11 ?_;refine Z196 ?_
  refine W.cond (fun ht9 => ?_) (fun ht9 => ?_)
  ·refine Z2 ?_
   refine W.cond (fun ht9 => ?_) (fun ht9 => ?_)
   ·exact Z74
   refine Z138 ?_
   refine W.cond (fun ht13 => ?_) (fun ht13 => ?_)
   ·exact Z74
   exact Z161
  refine Z41 ?_;refine R.fin [3, 9] ?_
  refine W.cond (fun ht9 => ?_) (fun ht9 => ?_)
  ·refine Z2 ?_
   refine W.cond (fun ht9 => ?_) (fun ht9 => ?_)
   ·exact Z74
   refine Z138 ?_
   refine W.cond (fun ht13 => ?_) (fun ht13 => ?_)
   ·exact Z74
   exact Z161
  refine Z411 ?_;refine Z196 ?_;refine K.thN ?_
  refine W.cond (fun ht9 => ?_) (fun ht9 => ?_)
  ·exact Z74
  refine Z138 ?_
  refine W.cond (fun ht13 => ?_) (fun ht13 => ?_)
  ·exact Z74
  exact Z161
 refine Z41 ?_;refine R.fin [3, 4] ?_
 refine W.cond (fun ht4 => ?_) (fun ht4 => ?_)
 ·refine Z2 ?_
  refine W.cond (fun ht4 => ?_) (fun ht4 => ?_)
  ·exact Z74
  refine Z11 ?_;refine Z196 ?_
  refine W.cond (fun ht9 => ?_) (fun ht9 => ?_)
  ·refine Z2 ?_
   refine W.cond (fun ht9 => ?_) (fun ht9 => ?_)
   ·exact Z74
   refine Z138 ?_
   refine W.cond (fun ht13 => ?_) (fun ht13 => ?_)
   ·exact Z74
   exact Z161
  refine Z41 ?_;refine R.fin [3, 9] ?_
  refine W.cond (fun ht9 => ?_) (fun ht9 => ?_)
  ·refine Z2 ?_
   refine W.cond (fun ht9 => ?_) (fun ht9 => ?_)
   ·exact Z74
   refine Z138 ?_
   refine W.cond (fun ht13 => ?_) (fun ht13 => ?_)
   ·exact Z74
   exact Z161
  refine Z411 ?_;refine Z196 ?_;refine K.thN ?_
  refine W.cond (fun ht9 => ?_) (fun ht9 => ?_)
  ·exact Z74
  refine Z138 ?_
  refine W.cond (fun ht13 => ?_) (fun ht13 => ?_)
  ·exact Z74
  exact Z161
 refine Z411 ?_;refine Z25 ?_;refine R.fin [3, 4] ?_;refine K.thN ?_
 refine W.cond (fun ht4 => ?_) (fun ht4 => ?_)
 ·exact Z74
 refine Z11 ?_;refine Z196 ?_
 refine W.cond (fun ht9 => ?_) (fun ht9 => ?_)
 ·refine Z2 ?_
  refine W.cond (fun ht9 => ?_) (fun ht9 => ?_)
  ·exact Z74
  refine Z138 ?_
  refine W.cond (fun ht13 => ?_) (fun ht13 => ?_)
  ·exact Z74
  exact Z161
 refine Z41 ?_;refine R.fin [3, 9] ?_
 refine W.cond (fun ht9 => ?_) (fun ht9 => ?_)
 ·refine Z2 ?_
  refine W.cond (fun ht9 => ?_) (fun ht9 => ?_)
  ·exact Z74
  refine Z138 ?_
  refine W.cond (fun ht13 => ?_) (fun ht13 => ?_)
  ·exact Z74
  exact Z161
 refine Z411 ?_;refine Z196 ?_;refine K.thN ?_
 refine W.cond (fun ht9 => ?_) (fun ht9 => ?_)
 ·exact Z74
 refine Z138 ?_
 refine W.cond (fun ht13 => ?_) (fun ht13 => ?_)
 ·exact Z74
 exact Z161

theorem level_at {s : Str} {x : Nat} (hx : x < levels.length) (h : levels[x].contains s = true) (h0 : ∀ (j : Nat) (l : List Str), j < x → levels[j]? = some l → l.contains s = false) : levelM s = (x : Int) := by
 unfold levelM
 rw [List.findIdx?_eq_some_iff_getElem.2 ⟨hx, h, fun j hj => by
  have e := h0 j levels[j] hj (List.getElem?_eq_getElem _)
  show ¬ (levels[j].contains s = true)
  rw [e]
  simp⟩]
theorem level_no {s : Str} (h0 : ∀ (j : Nat) (l : List Str), j < levels.length → levels[j]? = some l → l.contains s = false) : levelM s = -1 := by
 unfold levelM
 rw [List.findIdx?_eq_none_iff.2 fun l hl => by
  obtain ⟨j, hj⟩ := List.getElem?_of_mem hl
  exact h0 j l (List.getElem?_eq_some_iff.1 hj).1 hj]
theorem levels_len : levels.length = 6 := rfl
theorem levels_short {x : Nat} (hx : x < levels.length) : levels[x].length ≤ 6 := by
 have : (levels.all fun l => decide (l.length ≤ 6)) = true := by kernel_rfl
 exact of_decide_eq_true (List.all_eq_true.1 this _ (List.getElem_mem hx))
theorem contains_upto {l : List Str} {s : Str} (h : ∀ (j : Nat) (w : Str), j < l.length → l[j]? = some w → (w == s) = false) : l.contains s = false := by
 rw [Bool.eq_false_iff]
 intro hc
 have hm : s ∈ l := by simpa using hc
 obtain ⟨j, hj⟩ := List.getElem?_of_mem hm
 have := h j s (List.getElem?_eq_some_iff.1 hj).1 hj
 simp at this
theorem c60 (s : Str) (Hp : List AObj) : AFun Tryz.prog 60 [strA s] Hp (intA (levelM s)) := by
 refine ACall.body [.tmp 2] [0] Tryz.func60 Tryz.ntmps60 (fun d => ?_)
 refine Z101 ?_;refine Z396 ?_;refine Z328 ?_;refine Z328 ?_;refine Z328 ?_;refine Z216 ?_;refine R.fin [0, 3] ?_;refine Z97 ?_;refine R.fin [0, 3, 4] ?_
 refine AW.loopC (α := Nat) (fun x => ⟨38, setF 0 (strA s) (setF 3 (.slice true 1 (levels.map strsA)) (setF 4 (intA (x : Nat)) (fun _ => .any))), Hp, [], [], none⟩) (fun x => x ≤ levels.length ∧ ∀ (j : Nat) (l : List Str), j < x → levels[j]? = some l → l.contains s = false) (fun x => levels.length - x) (0) ⟨Nat.zero_le _, fun j l h => by omega⟩ (StLe.refl _) rfl (fun x hx => ?_)
 refine Z210 ?_;refine R.fin [0, 3, 4, 16] ?_
 refine W.cond (fun ht16 => ?_) (fun ht16 => ?_)
 ·have hlt : x < levels.length := by simpa using ht16
  have h6 := levels_len
  have hls := levels_short hlt
  refine Z88 ?_;refine Z3 ?_;refine R.fin [0, 3, 4, 5] ?_
  refine AW.loopC (α := Nat) (fun y => ⟨38, setF 0 (strA s) (setF 3 (.slice true 1 (levels.map strsA)) (setF 4 (intA (x : Nat)) (setF 5 (intA (y : Nat)) (fun _ => .any)))), Hp, [], [], none⟩) (fun y => y ≤ levels[x].length ∧ ∀ (j : Nat) (w : Str), j < y → levels[x][j]? = some w → (w == s) = false) (fun y => levels[x].length - y) (0) ⟨Nat.zero_le _, fun j l h => by omega⟩ (StLe.refl _) rfl (fun y hy => ?_)
  refine Z14 ?_;refine Z56 ?_;refine R.indexAddr (x) (strsA levels[x]) jU jS (getMap hlt) ?_;refine Z402 ?_;refine Z106 ?_;refine R.fin [0, 3, 4, 5, 25] ?_
  refine W.cond (fun ht25 => ?_) (fun ht25 => ?_)
  ·have hly : y < levels[x].length := by simpa using ht25
   refine Z385 ?_;refine R.indexAddr (x) (strsA levels[x]) jU jS (getMap hlt) ?_;refine Z204 ?_;refine R.indexAddr (y) (strA (levels[x])[y]) jU jS (getMap hly) ?_;refine Z204 ?_;refine R.seql ?_;refine R.fin [0, 3, 4, 5, 36] ?_
   refine W.cond (fun ht36 => ?_) (fun ht36 => ?_)
   ·refine Z0 ?_;refine Z78 ?_;refine Z83 ?_;refine Z123 ?_;exact K.fin (V.one V.tmp) ⟨by rw [level_at hlt (by simp only [List.contains_iff_mem]; have := ht36; simp only [beq_iff_eq] at this; rw [← this]; exact List.getElem_mem hly) hx.2], rfl⟩
   refine Z177 ?_;refine R.fin [0, 3, 4, 5] ?_;exact K.lpN (y + 1) ⟨hly, upto_succ hly hy.2 ht36⟩ (by omega) (StCut.of_eq rfl)
  have hny : levels[x].length ≤ y := by simpa using ht25
  refine Z53 ?_;refine K.lpE ?_;refine Z141 ?_;refine R.fin [0, 3, 4] ?_;exact K.lpN (x + 1) ⟨hlt, upto_succ hlt hx.2 (contains_upto fun j w hj hw => hy.2 j w (by omega) hw)⟩ (by omega) (StCut.of_eq rfl)
 have hnx : levels.length ≤ x := by simpa using ht16
 refine Z90 ?_;refine Z39 ?_;exact K.fin (V.one V.tmp) ⟨by rw [level_no (fun j l hj h => hx.2 j l (by omega) h)], rfl⟩

theorem c59 (e : Expr) (hs : e.text.length ≤ 1048576) (Hp : List AObj) : AFun Tryz.prog 59 [exprA e] Hp (boolA (nodeOneM e)) := by
 refine ACall.body [.tmp 2] [0] Tryz.func59 Tryz.ntmps59 (fun d => ?_)
 refine Z156 ?_;refine Z134 ?_;refine R.len jU ?_;refine Z404 ?_;refine R.fin [1, 3] ?_;refine Z337 ?_;refine R.eql ?_;refine R.fin [1, 3, 9] ?_
 refine W.cond (fun ht9 => ?_) (fun ht9 => ?_)
 ·refine Z396 ?_;refine Z96 ?_;refine R.call Tryz.call32 (c32 e.val _) ?_;refine Z298 ?_;refine G.fieldAddrRo (off := 1) jU Tryz.sizeOf2 ?_;refine G.loadRo jA ?_;refine G.geq ?_;refine Z95 ?_;refine Z128 ?_;refine Z164 ?_;refine Z173 ?_;exact Z276
 refine Z50 ?_;refine Z387 ?_;refine R.neqAgg eg23 (equal23 e.val.kind e.val.n 0 0 e.val.s []) ?_;refine R.fin [1, 3, 31] ?_
 refine W.cond (fun ht31 => ?_) (fun ht31 => ?_)
 ·refine Z39 ?_;exact Z276
 refine Z157 ?_;refine R.fin [1, 3, 33] ?_;refine Z380 ?_;refine R.fin [1, 3, 33, 34] ?_
 refine W.cond (fun ht34 => ?_) (fun ht34 => ?_)
 ·refine Z171 ?_;refine R.call Tryz.call57 (c57 e.text hs _) ?_;exact Z318
 refine Z11 ?_;refine Z43 ?_;refine R.fin [1, 3, 33, 43] ?_
 refine W.cond (fun ht43 => ?_) (fun ht43 => ?_)
 ·refine Z2 ?_
  refine W.cond (fun ht43 => ?_) (fun ht43 => ?_)
  ·refine Z396 ?_;refine Z119 ?_;exact Z318
  refine Z111 ?_;refine R.fin [1, 3, 33, 53] ?_
  refine W.cond (fun ht53 => ?_) (fun ht53 => ?_)
  ·refine Z171 ?_;refine R.call Tryz.call60 (c60 e.text _) ?_;refine R.geq ?_;exact Z318
  refine Z111 ?_;refine R.fin [1, 3, 63] ?_
  refine W.cond (fun ht63 => ?_) (fun ht63 => ?_)
  ·refine Z171 ?_;refine R.call Tryz.call86 (c86 e.text _) ?_;refine Z405 ?_;refine Z43 ?_;refine Z4 ?_;exact Z69
  refine Z30 ?_;exact Z286
 refine Z411 ?_;refine Z43 ?_;refine R.fin [1, 3, 33, 43] ?_;refine K.thN ?_
 refine W.cond (fun ht43 => ?_) (fun ht43 => ?_)
 ·refine Z396 ?_;refine Z119 ?_;exact Z318
 refine Z111 ?_;refine R.fin [1, 3, 33, 53] ?_
 refine W.cond (fun ht53 => ?_) (fun ht53 => ?_)
 ·refine Z171 ?_;refine R.call Tryz.call60 (c60 e.text _) ?_;refine R.geq ?_;exact Z318
 refine Z111 ?_;refine R.fin [1, 3, 63] ?_
 refine W.cond (fun ht63 => ?_) (fun ht63 => ?_)
 ·refine Z171 ?_;refine R.call Tryz.call86 (c86 e.text _) ?_;refine Z405 ?_;refine Z43 ?_;refine Z4 ?_;exact Z69
 refine Z30 ?_;exact Z286

theorem c36 : ∀ (n : Nat) (e : Expr), okE n e → ∀ Hp : List AObj, AFun Tryz.prog 36 [exprA e] Hp (boolA (allE nodeOneM e)) := by
 intro n
 induction n with
 | zero => exact fun e h => h.elim
 | succ n ih =>
 intro e hok Hp
 refine ACall.body [.tmp 2] [0] Tryz.func36 Tryz.ntmps36 (fun d => ?_)
 refine Z156 ?_;refine Z314 ?_;refine R.call Tryz.call59 (c59 e hok.1 _) ?_;refine R.not ?_;refine R.fin [1, 6] ?_
 refine W.cond (fun ht6 => ?_) (fun ht6 => ?_)
 ·refine Z39 ?_;refine K.thR ?_;exact K.fin (V.one V.tmp) ⟨by rw [allE_eq]; simp at ht6; rw [ht6]; rfl, rfl⟩
 refine Z379 ?_;refine R.fin [1, 3] ?_
 refine AW.loopC (α := Nat) (fun x => ⟨21, setF 1 (.ro (exprC e)) (setF 3 (intA (x : Nat)) (fun _ => .any)), Hp, [], [], none⟩) (fun x => x ≤ e.kids.length ∧ allL nodeOneM (e.kids.take x) = true) (fun x => e.kids.length - x) (0) ⟨Nat.zero_le _, rfl⟩ (StLe.refl _) rfl (fun x hx => ?_)
 refine Z14 ?_;refine Z16 ?_;refine Z106 ?_;refine R.fin [1, 3, 11] ?_
 refine W.cond (fun ht11 => ?_) (fun ht11 => ?_)
 ·have hlt : x < e.kids.length := by simpa using ht11
  have hkl := hok.2.1
  refine Z88 ?_;refine Z134 ?_;refine Z405 ?_;refine Z122 ?_;refine R.call Tryz.call36 (ih e.kids[x] (hok.2.2 _ (List.getElem_mem hlt)) _) ?_;refine R.not ?_;refine R.fin [1, 3, 20] ?_
  refine W.cond (fun ht20 => ?_) (fun ht20 => ?_)
  ·refine Z39 ?_;refine Z123 ?_;exact K.fin (V.one V.tmp) ⟨by rw [show allE nodeOneM e = false from by rw [Bool.eq_false_iff]; intro h; rw [allE_eq, Bool.and_eq_true] at h; have := (allL_iff _ _).1 h.2 _ (List.getElem_mem hlt); rw [this] at ht20; cases ht20], rfl⟩
  refine Z177 ?_;refine R.fin [1, 3] ?_;exact K.lpN (x + 1) ⟨hlt, by rw [List.take_succ_eq_append_getElem hlt, allL_append, hx.2, allL, allL, Bool.and_true, Bool.true_and]; simpa using ht20⟩ (by omega) (StCut.of_eq rfl)
 have hxe : e.kids.take x = e.kids := List.take_of_length_le (by simp at ht11; omega)
 refine Z90 ?_;refine Z39 ?_;exact K.fin (V.one V.tmp) ⟨by have := hx.2; rw [hxe] at this; rw [allE_eq, this]; simp at ht6; rw [ht6]; rfl, rfl⟩

theorem all_node (e : Expr) : allE nodeOneM e = allE nodeM e := by rw [show nodeM = nodeOneM from funext node_one]
theorem c14 (n : Nat) (e : Expr) (hok : okE n e) (hn : n ≤ 1048576) (hs : sizeE e ≤ 1048576) (Hp : List AObj) : AFun Tryz.prog 14 [exprA e] Hp (boolA (refRightM e)) := by
 refine ACall.body [.tmp 2] [0] Tryz.func14 Tryz.ntmps14 (fun d => ?_)
 refine Z156 ?_;refine Z55 ?_;refine R.call Tryz.call35 (c35 n e hok hn _) ?_;refine R.leq ?_;refine Z405 ?_;refine G.loadRoN jA jS ?_;refine G.call Tryz.call22 (fun hB => c22 n e hok hs _) ?_;refine G.leq ?_;refine Z95 ?_;refine G.loadRoN jA jS ?_;refine G.call Tryz.call36 (fun hB => c36 n e hok _) ?_;refine Z32 ?_;refine Z4 ?_;exact K.fin (V.one V.tmp) ⟨by rw [refRightM, all_node, show decide ((depthE e : Int) ≤ 30) = decide (depthE e ≤ 30) by rw [decide_eq_decide]; omega, show decide ((sizeE e : Int) ≤ 300) = decide (sizeE e ≤ 300) by rw [decide_eq_decide]; omega], rfl⟩

theorem takeAll {n : Nat} {U F : Nat → List AObj} {H' : List AObj} (h : takePost (fun _ => true) U F n H') : H' = U n := by
 rcases h with ⟨_, h⟩ | ⟨j, _, _, h, _⟩
 ·exact h
 cases h
theorem take_item {α : Type} {l : List α} {k : Nat} {y : α} (h : l[k]? = some y) : l.take (k + 1) = l.take k ++ [y] := by rw [List.take_add_one, h]; rfl
theorem deepF_on {L : List (Int × Expr)} {k : Nat} {it : Int × Expr} (h : L[k]? = some it) : deepF 0 (L.take (k + 1)) = if deepF 0 (L.take k) < it.1 then it.1 else deepF 0 (L.take k) := by
 have e : deepF 0 (L.take (k + 1)) = max (deepF 0 (L.take k)) it.1 := by
  unfold deepF
  rw [take_item h, List.foldl_append]
  rfl
 rw [e]
 split <;> omega
def namesU (L : List (Int × Expr)) (k : Nat) : List Str := (L.take k).foldl (fun l it => addName l it.2) []
theorem low_strsl {n k : Nat} {o : Bool} {l : List Str} : Low n (.slice o k (l.map strA)) := by simp [or_imp, forall_and]
theorem c71 (n : Nat) (e : Expr) (hok : okE n e) (hn : n ≤ 1048576) (hs : sizeE e ≤ 1048576) (Hp : List AObj) : AFun Tryz.prog 71 [exprA e] Hp (intA (depthE e : Nat)) := by
 refine ACall.body [.tmp 2] [0, 4] Tryz.func71 Tryz.ntmps71 (fun d => ?_)
 refine Z391 ?_;refine R.fin [1, 4] ?_;refine Z396 ?_;refine Z22 ?_;refine R.fin [1, 3, 4] ?_;refine Z11 ?_
 refine R.assumeLow (fun hlow => ?_)
 refine Z322 ?_;refine R.fin [3, 4, 6] ?_;refine AW.block ?_
 refine W.rangeV (m := 1) Tryz.call73 (fun FR as' bd' hFR has hbd => ?_)
 have hFRl : ∀ s, Low (Hp.length + 3) (FR s) := by
  intro s
  rw [hFR]
  refine Low.strip ?_
  revert s
  repeat (first | exact lowF_any | refine lowF_set (by simp [oid, exprA_low] <;> try omega) ?_)
 have hOl : ∀ {k : Nat}, ∀ x ∈ [AObj.cells 3 [intA (deepF 0 ((itemsE 1 e).take k))], AObj.defs, AObj.loop LoopState.ready none FR 13 #[7, 8] as' bd' (oid Hp.length 1)], ObjLow (Hp.length + 3) x := by
  intro k x hx
  simp only [List.mem_cons, List.mem_nil_iff, or_false] at hx
  rcases hx with rfl | rfl | rfl
  ·intro y hy
   rw [List.mem_singleton.1 hy]
   first | exact low_strsl | simp
  ·trivial
  exact Z424
 refine ⟨fun _ H' => takePost (fun _ => true) (fun k => Hp ++ [AObj.cells 3 [intA (deepF 0 ((itemsE 1 e).take k))], AObj.defs, AObj.loop LoopState.ready none FR 13 #[7, 8] as' bd' (oid Hp.length 1)]) (fun k => Hp ++ [AObj.cells 3 [intA (deepF 0 ((itemsE 1 e).take k))], AObj.defs, AObj.loop LoopState.ready none FR 13 #[7, 8] as' bd' (oid Hp.length 1)]) (itemsE 1 e).length H', c73 (l := oid Hp.length 2) (go := fun _ => true) (U := fun k => Hp ++ [AObj.cells 3 [intA (deepF 0 ((itemsE 1 e).take k))], AObj.defs, AObj.loop LoopState.ready none FR 13 #[7, 8] as' bd' (oid Hp.length 1)]) (F := fun k => Hp ++ [AObj.cells 3 [intA (deepF 0 ((itemsE 1 e).take k))], AObj.defs, AObj.loop LoopState.ready none FR 13 #[7, 8] as' bd' (oid Hp.length 1)]) (n0 := Hp.length + 3) ⟨fun k => by simp, fun k => by simp, fun k x hx => ?_, fun k x hx => ?_, by simp [oid], fun X k it hit hgo => ?_⟩ n hok hn, ?_⟩
 ·exact Z425
 ·exact Z425
 ·have hklt : k < sizeE e := by rw [← itemsE_len 1 e]; exact (List.getElem?_eq_some_iff.1 hit).1
  generalize hV : (Hp ++ [AObj.cells 3 [intA (deepF 0 ((itemsE 1 e).take k))], AObj.defs, AObj.loop LoopState.ready none FR 13 #[7, 8] as' bd' (oid Hp.length 1)] ++ X) = V
  have hL : V[oid Hp.length 2]? = some (AObj.loop LoopState.ready none FR 13 #[7, 8] as' bd' (oid Hp.length 1)) := by rw [← hV, List.append_assoc, get_oid]; rfl
  have hA0 : V[oid Hp.length 0]? = some (AObj.cells 3 [intA (deepF 0 ((itemsE 1 e).take k))]) := by rw [← hV, List.append_assoc, get_oid]; rfl
  refine AYield.ofRound (pd := none) (fr := FR) (sz := 13) (ps := #[7, 8]) (df := oid Hp.length 1) (asg := as') (bd := bd') hL rfl (by decide) (fun d => ?_)
  subst hFR has hbd
  refine W.keep [3, 7, 8] ?_;refine Z231 ?_;refine R.fin [3, 4] ?_
  refine ⟨rfl, none, hL, ?_⟩
  generalize hbz : (AObj.loop LoopState.busy _ _ _ _ _ _ _) = bz
  have hA : (V.set (oid Hp.length 2) bz)[oid Hp.length 0]? = some (AObj.cells 3 [intA (deepF 0 ((itemsE 1 e).take k))]) := by rw [List.getElem?_set_ne (oid_ne (by decide))]; exact hA0
  refine AW.block ?_;refine Z411 ?_;refine R.loadUp jA hA ?_;refine Z405 ?_;refine R.maxI ?_
  refine R.storeUp jS hA ?_ ?_
  ·simp
  refine R.fin [] ?_;refine K.blN ?_
  subst hbz
  refine K.rdN (keep1 hL (oid_ne (by decide))) ?_
  refine ⟨rfl, ?_⟩
  rw [if_pos rfl]
  subst hV
  simp only [List.append_assoc, set_oid, List.cons_append, List.nil_append, List.set_cons_succ, List.set_cons_zero]
  rw [deepF_on hit]
 intro r H' hq
 obtain rfl := takeAll hq
 refine ⟨Hp, _, _, _, rfl, rfl, fun h => h, ?_, rfl, by simp, ?_⟩
 ·intro o ho
  have : o = oid Hp.length 1 := by simpa using ho
  subst this
  rw [get_oid]
  rfl
 refine Z17 ?_;refine Z396 ?_;refine Z427 ?_;refine Z78 ?_;exact K.fin (V.one V.tmp) ⟨by rw [List.take_length, depth_items], rfl⟩

theorem c47 (n : Nat) (e : Expr) (hok : okE n e) (hn : n ≤ 1048576) (hs : sizeE e ≤ 1048576) (Hp : List AObj) : AFun Tryz.prog 47 [exprA e] Hp (intA (sizeE e : Nat)) := by
 refine ACall.body [.tmp 2] [0] Tryz.func47 Tryz.ntmps47 (fun d => ?_)
 refine Z336 ?_;refine Z22 ?_;refine R.fin [1, 3] ?_;refine Z11 ?_
 refine R.assumeLow (fun hlow => ?_)
 refine Z322 ?_;refine R.fin [3, 5] ?_;refine AW.block ?_
 refine W.rangeV (m := 1) Tryz.call73 (fun FR as' bd' hFR has hbd => ?_)
 have hFRl : ∀ s, Low (Hp.length + 3) (FR s) := by
  intro s
  rw [hFR]
  refine Low.strip ?_
  revert s
  repeat (first | exact lowF_any | refine lowF_set (by simp [oid, exprA_low] <;> try omega) ?_)
 have hOl : ∀ {k : Nat}, ∀ x ∈ [AObj.cells 3 [intA ((k : Nat))], AObj.defs, AObj.loop LoopState.ready none FR 11 #[6, 7] as' bd' (oid Hp.length 1)], ObjLow (Hp.length + 3) x := by
  intro k x hx
  simp only [List.mem_cons, List.mem_nil_iff, or_false] at hx
  rcases hx with rfl | rfl | rfl
  ·intro y hy
   rw [List.mem_singleton.1 hy]
   first | exact low_strsl | simp
  ·trivial
  exact Z424
 refine ⟨fun _ H' => takePost (fun _ => true) (fun k => Hp ++ [AObj.cells 3 [intA ((k : Nat))], AObj.defs, AObj.loop LoopState.ready none FR 11 #[6, 7] as' bd' (oid Hp.length 1)]) (fun k => Hp ++ [AObj.cells 3 [intA ((k : Nat))], AObj.defs, AObj.loop LoopState.ready none FR 11 #[6, 7] as' bd' (oid Hp.length 1)]) (itemsE 1 e).length H', c73 (l := oid Hp.length 2) (go := fun _ => true) (U := fun k => Hp ++ [AObj.cells 3 [intA ((k : Nat))], AObj.defs, AObj.loop LoopState.ready none FR 11 #[6, 7] as' bd' (oid Hp.length 1)]) (F := fun k => Hp ++ [AObj.cells 3 [intA ((k : Nat))], AObj.defs, AObj.loop LoopState.ready none FR 11 #[6, 7] as' bd' (oid Hp.length 1)]) (n0 := Hp.length + 3) ⟨fun k => by simp, fun k => by simp, fun k x hx => ?_, fun k x hx => ?_, by simp [oid], fun X k it hit hgo => ?_⟩ n hok hn, ?_⟩
 ·exact Z425
 ·exact Z425
 ·have hklt : k < sizeE e := by rw [← itemsE_len 1 e]; exact (List.getElem?_eq_some_iff.1 hit).1
  generalize hV : (Hp ++ [AObj.cells 3 [intA ((k : Nat))], AObj.defs, AObj.loop LoopState.ready none FR 11 #[6, 7] as' bd' (oid Hp.length 1)] ++ X) = V
  have hL : V[oid Hp.length 2]? = some (AObj.loop LoopState.ready none FR 11 #[6, 7] as' bd' (oid Hp.length 1)) := by rw [← hV, List.append_assoc, get_oid]; rfl
  have hA0 : V[oid Hp.length 0]? = some (AObj.cells 3 [intA ((k : Nat))]) := by rw [← hV, List.append_assoc, get_oid]; rfl
  refine AYield.ofRound (pd := none) (fr := FR) (sz := 11) (ps := #[6, 7]) (df := oid Hp.length 1) (asg := as') (bd := bd') hL rfl (by decide) (fun d => ?_)
  subst hFR has hbd
  refine W.keep [3, 6, 7] ?_;refine AW.skip ?_
  refine ⟨rfl, none, hL, ?_⟩
  generalize hbz : (AObj.loop LoopState.busy _ _ _ _ _ _ _) = bz
  have hA : (V.set (oid Hp.length 2) bz)[oid Hp.length 0]? = some (AObj.cells 3 [intA ((k : Nat))]) := by rw [List.getElem?_set_ne (oid_ne (by decide))]; exact hA0
  refine AW.block ?_;refine Z411 ?_;refine R.loadUp jA hA ?_;refine R.add64 ?_
  refine R.storeUp jS hA ?_ ?_
  ·simp
  refine R.fin [] ?_;refine K.blN ?_
  subst hbz
  refine K.rdN (keep1 hL (oid_ne (by decide))) ?_
  refine ⟨rfl, ?_⟩
  rw [if_pos rfl]
  subst hV
  simp only [List.append_assoc, set_oid, List.cons_append, List.nil_append, List.set_cons_succ, List.set_cons_zero]
  rfl
 intro r H' hq
 obtain rfl := takeAll hq
 refine ⟨Hp, _, _, _, rfl, rfl, fun h => h, ?_, rfl, by simp, ?_⟩
 ·intro o ho
  have : o = oid Hp.length 1 := by simpa using ho
  subst this
  rw [get_oid]
  rfl
 refine Z17 ?_;refine Z396 ?_;refine Z427 ?_;refine Z78 ?_;exact K.fin (V.one V.tmp) ⟨by rw [itemsE_len], rfl⟩

set_option maxRecDepth 8000
abbrev TK := Int × Str
/-- What stands from word i on. -/
def seg (l : List Tok) (i : Nat) : List TK := (l.drop i).map ktT
theorem level_cases (s : Str) : s ∈ levels.flatten ∨ (levelM s = -1 ∧ ∀ l ∈ levels, l.contains s = false) := by
 by_cases h : s ∈ levels.flatten
 ·exact .inl h
 have h2 : ∀ l ∈ levels, l.contains s = false := fun l hl => by
  rw [Bool.eq_false_iff]
  intro h3
  exact h (List.mem_flatten.2 ⟨l, hl, by simpa using h3⟩)
 refine .inr ⟨?_, h2⟩
 unfold levelM
 rw [List.findIdx?_eq_none_iff.2 fun l hl => h2 l hl]
/-- The texts of levels of marks. -/
def ofL (k : Nat) : Str := if k = 0 then orT else if k = 1 then andT else if k = 3 then cmpT else if k = 4 then sumT else prodT
/-- A row of words behind which no mark of a level, or of a tighter one, stands. -/
def stops (k : Nat) (rest : List TK) : Prop := ∀ h r, rest = h :: r → ((h.1 == 5) || (h.1 == 2)) = true → levelM h.2 < (k : Int) ∧ h.2 ≠ [40]
theorem stops.mono {k k' : Nat} {rest : List TK} (h : stops k rest) (hk : k ≤ k') : stops k' rest := fun a r e hm => ⟨by have := (h a r e hm).1; omega, (h a r e hm).2⟩
def notW : Str := [110, 111, 116]
def levE (e : Expr) : Nat := if e.op == 4 then 2 else if e.op == 3 then 6 else if e.op == 5 then (levelM e.text).toNat else 7
def brkT (least : Nat) (x : Expr) (T : List TK) : List TK := if least ≤ levE x then T else (5, [40]) :: (T ++ [(5, [41])])
def brkN (least : Nat) (x : Expr) (n : Nat) : Nat := if least ≤ levE x then n else n + 1
def firstL (own : Nat) : Nat := if own = 3 then 4 else own
def valTok (v : Val) : TK := if v.kind == 1 then (3, printM v) else if v.kind == 2 then (4, v.s) else (2, printM v)
def opTok (t : Str) : TK := (if letterM (t.headD 0) then 2 else 5, t)
def sepT : List (List TK) → List TK
 | [] => []
 | T :: r => (5, [44]) :: (T ++ sepT r)
def nodeT (o : Int) (t : Str) (v : Val) (k : List Expr) (ts : List (List TK)) : List TK :=
 if o == 1 then [valTok v] else if o == 2 then [(1, t)]
 else if o == 3 then (5, [45]) :: brkT 6 (k.getD 0 nullX) (ts.getD 0 [])
 else if o == 4 then (2, notW) :: brkT 2 (k.getD 0 nullX) (ts.getD 0 [])
 else if o == 5 then brkT (firstL (levelM t).toNat) (k.getD 0 nullX) (ts.getD 0 []) ++ opTok t :: brkT ((levelM t).toNat + 1) (k.getD 1 nullX) (ts.getD 1 [])
 else (1, t) :: (5, [40]) :: ((sepT ts).drop 1 ++ [(5, [41])])
mutual
def toksE : Expr → List TK
 | .mk o t v k => nodeT o t v k (toksL k)
def toksL : List Expr → List (List TK)
  | [] => []
  | e :: r => toksE e :: toksL r
 end
def maxN : List Nat → Nat
 | [] => 0
 | n :: r => max n (maxN r)
def nodeN (o : Int) (t : Str) (k : List Expr) (ns : List Nat) : Nat :=
 if o == 1 then 0 else if o == 2 then 0
 else if o == 3 then 1 + brkN 6 (k.getD 0 nullX) (ns.getD 0 0)
 else if o == 4 then 1 + brkN 2 (k.getD 0 nullX) (ns.getD 0 0)
 else if o == 5 then max (brkN (firstL (levelM t).toNat) (k.getD 0 nullX) (ns.getD 0 0)) (brkN ((levelM t).toNat + 1) (k.getD 1 nullX) (ns.getD 1 0))
 else 1 + maxN ns
mutual
def needE : Expr → Nat
 | .mk o t v k => nodeN o t k (needL k)
def needL : List Expr → List Nat
  | [] => []
  | e :: r => needE e :: needL r
 end
theorem bare_no {v : Val} (h : bareM v = true) : v = noV := by
 unfold bareM at h
 simp only [Bool.and_eq_true, beq_iff_eq] at h
 cases v
 simp_all [noV]
/-- What a right node is. -/
inductive NodeC : Expr → Prop
 | val (v : Val) (h : plainM v = true) (h0 : 0 ≤ v.n) : NodeC (valX v)
 | name (t : Str) (h : nameM t = true) : NodeC (nameE t)
 | neg (a : Expr) : NodeC (oneX 3 a)
 | no (a : Expr) : NodeC (oneX 4 a)
 | bin (t : Str) (a b : Expr) (h : 0 ≤ levelM t) : NodeC (binX t a b)
 | call (t : Str) (k : List Expr) (h : arityM t = (k.length : Int)) : NodeC (.mk 6 t noV k)
theorem nodeOne_mk (o : Int) (t : Str) (v : Val) (k : List Expr) : nodeOneM (.mk o t v k) =
 if o == 1 then ((plainM v && decide (0 ≤ v.n)) && (t == [])) && ((k.length : Int) == 0)
 else if !(bareM v) then false
 else if o == 2 then nameM t && ((k.length : Int) == 0)
 else if o == 3 || o == 4 then (t == []) && ((k.length : Int) == 1)
 else if o == 5 then decide (0 ≤ levelM t) && ((k.length : Int) == 2)
 else if o == 6 then arityM t == (k.length : Int)
 else false := rfl
theorem node_cases {e : Expr} (h : nodeM e = true) : NodeC e := by
 rw [node_one] at h
 cases e with
 | mk o t v k =>
 rw [nodeOne_mk] at h
 by_cases h1 : (o == 1) = true
 ·rw [if_pos h1] at h
  simp only [Bool.and_eq_true, beq_iff_eq, decide_eq_true_eq] at h h1
  obtain ⟨⟨⟨a1, a2⟩, a3⟩, a4⟩ := h
  subst h1
  subst a3
  have : k = [] := by cases k with | nil => rfl | cons x r => simp at a4; omega
  subst this
  exact .val v a1 a2
 rw [if_neg h1] at h
 by_cases hb : (!(bareM v)) = true
 ·rw [if_pos hb] at h; cases h
 rw [if_neg hb] at h
 have hv : v = noV := bare_no (by simpa using hb)
 subst hv
 by_cases h2 : (o == 2) = true
 ·rw [if_pos h2] at h
  simp only [Bool.and_eq_true, beq_iff_eq] at h h2
  subst h2
  have : k = [] := by cases k with | nil => rfl | cons x r => have := h.2; simp at this; omega
  subst this
  exact .name t h.1
 rw [if_neg h2] at h
 by_cases h3 : (o == 3 || o == 4) = true
 ·rw [if_pos h3] at h
  simp only [Bool.and_eq_true, Bool.or_eq_true, beq_iff_eq] at h h3
  obtain ⟨rfl, h4⟩ := h
  match k, h4 with
  | [a], _ =>
   rcases h3 with rfl | rfl
   ·exact .neg a
   exact .no a
  | [], h4 => simp at h4
  | _ :: _ :: _, h4 => simp at h4; omega
 rw [if_neg h3] at h
 by_cases h5 : (o == 5) = true
 ·rw [if_pos h5] at h
  simp only [Bool.and_eq_true, beq_iff_eq, decide_eq_true_eq] at h h5
  subst h5
  match k, h.2 with
  | [a, b], _ => exact .bin t a b h.1
  | [], h4 => simp at h4
  | [_], h4 => simp at h4
  | _ :: _ :: _ :: _, h4 => simp at h4; omega
 rw [if_neg h5] at h
 by_cases h6 : (o == 6) = true
 ·rw [if_pos h6] at h
  simp only [beq_iff_eq] at h h6
  subst h6
  exact .call t k h
 rw [if_neg h6] at h; cases h
/-- The functions of the levels. -/
def pf (l : List Tok) (D : Fam) : Nat → PS → Expr × PS
 | 0 => eitherM l D
 | 1 => bothM l D
 | 2 => notM l D
 | 3 => compareM l D
 | 4 => sumM l D
 | 5 => prodM l D
 | 6 => negM l D
 | _ => atomM l D
abbrev fam (l : List Tok) (n : Nat) : Fam := famM l (30 - n)
def adv (S : PS) (n : Nat) : PS := ⟨S.i + n, S.nest, S.code, S.at_⟩
def T1 (l : List Tok) (x : Expr) : Prop := ∀ (k : Nat) (S : PS) (rest : List TK), k ≤ levE x → S.code = 0 → S.nest + needE x ≤ 30 → seg l S.i = toksE x ++ rest → stops k rest → pf l (fam l S.nest) k S = (x, adv S (toksE x).length)
def T2 (l : List Tok) (x : Expr) : Prop := ∀ (k : Nat) (S : PS) (rest : List TK), (k = 0 ∨ k = 1 ∨ k = 4 ∨ k = 5) → k ≤ levE x → S.code = 0 → S.nest + needE x ≤ 30 → seg l S.i = toksE x ++ rest → stops (k + 1) rest →
 ∃ n, l.length ≤ S.i + (toksE x).length + n ∧ leftM l (ofL k) (pf l (fam l S.nest) (k + 1)) S = leftF l (ofL k) (pf l (fam l S.nest) (k + 1)) n (x, adv S (toksE x).length)
def litWords : List Str := [[116, 114, 117, 101], [102, 97, 108, 115, 101], [110, 117, 108, 108]]
def isWord (h : TK) (w : Str) : Bool := ((h.1 == 5) || (h.1 == 2)) && (h.2 == w)
/-! The parser from a word on, and of a source. -/
def atS (l : List Tok) (i : Nat) (r : Expr × PS) : PS := if r.2.code != 0 then r.2 else if decide ((30 : Int) < depthE r.1) then failM 18 (tokAt l i).at_ r.2 else if decide ((300 : Int) < sizeE r.1) then failM 3 (tokAt l i).at_ r.2 else r.2
def atR (l : List Tok) (i : Nat) : Expr × PS := eitherM l (famM l 30) ⟨i, 0, 0, 0⟩
/-- The tree, the word behind it, the fault. -/
def atM (l : List Tok) (i : Nat) : Expr × Int × Int × Int := if (atS l i (atR l i)).code != 0 then (nullX, 0, (atS l i (atR l i)).code, (atS l i (atR l i)).at_) else ((atR l i).1, ((atS l i (atR l i)).i : Int), 0, 0)
def parseL (l : List Tok) (c a : Int) : Expr × Int × Int :=
 if c != 0 then (nullX, c, a) else if (atM l 0).2.2.1 != 0 then (nullX, (atM l 0).2.2.1, (atM l 0).2.2.2)
 else if (tokAt l (atM l 0).2.1.toNat).kind != 0 then (nullX, 8, ((tokAt l (atM l 0).2.1.toNat).at_ : Int)) else ((atM l 0).1, 0, 0)
def parseM (s : Str) : Expr × Int × Int := parseL (lexM s).1 (lexM s).2.1 ((lexM s).2.2 : Int)
set_option maxRecDepth 4000
theorem atR_fact {l : List Tok} (hl : TokEnd l) (hll : l.length ≤ 1048576) {i : Nat} (hi : i < l.length) : Fact l ⟨i, 0, 0, 0⟩ (atR l i) := (famM_good hl hll 31 0 rfl (by decide)).1 ⟨i, 0, 0, 0⟩ hi rfl
theorem c155at {l : List Tok} {i : Nat} (hi : i < l.length) (hl : TokEnd l) (hll : l.length ≤ 1048576) (hcl : ∀ n Dv, n ≤ 30 → DeepC l Dv n → PCall l Dv n) (o : Nat) (Hp : List AObj) (ho : Hp[o]? = some (pr l ⟨i, 0, 0, 0⟩)) : ACall Tryz.prog 70 [.ptr o 0] Hp (fun r H' => r = exprA (atR l i).1 ∧ H' = Hp.set o (pr l (atR l i).2)) := (parse_pc hl hll hcl 31 0 rfl (by decide)).1 o Hp ⟨i, 0, 0, 0⟩ ho hi rfl
theorem tokEnd_last {l : List Tok} (hl : TokEnd l) : (tokAt l (l.length - 1)).kind = 0 := by
 obtain ⟨L, z, rfl, hz, _⟩ := hl.split
 unfold tokAt
 simp [hz]
theorem c49 (l : List Tok) (i : Nat) (hi : i < l.length) (hl : TokEnd l) (hll : l.length ≤ 500000) (hcl : ∀ n Dv, n ≤ 30 → DeepC l Dv n → PCall l Dv n) (Hp : List AObj) : AFun Tryz.prog 49 [toksA l, intA (i : Int)] Hp (.tup [exprA (atM l i).1, intA (atM l i).2.1, .agg [intA (atM l i).2.2.1, intA (atM l i).2.2.2]]) := by
 have hmap : (l.map tokA).length = l.length := List.length_map ..
 have hll1 : l.length ≤ 1048576 := by omega
 have hq := atR_fact hl hll1 hi
 have hlast := tokEnd_last hl
 have hpos := hl.pos
 have hqlt := hq.lt
 have hqs := hq.sz
 have hok0 : okE 1048576 (atR l i).1 := okE_le (by have := hq.lt; omega) hq.ok
 have hsz0 : sizeE (atR l i).1 ≤ 1048576 := by have := hq.sz; have := hq.lt; omega
 refine ACall.body [.cell 4 26, .tmp 5, .cell 6 53] [0, 1] Tryz.func49 Tryz.ntmps49 (fun d => ?_)
 refine Z235 ?_;refine Z420 ?_;refine R.fin [0, 1, 4, 6] ?_;refine Z151 ?_;refine Z114 ?_;refine G.len jU ?_;refine G.geq ?_;refine R.pickOr ?_;refine Z114 ?_;refine G.len jU ?_;refine G.sub64 ?_;refine G.indexAddr ((l.length - 1)) (tokA (tokAt l (l.length - 1))) jU jS (fun _ => getTok (by omega)) ?_;refine Z105 ?_;refine Z172 ?_;refine R.fin [0, 1, 4, 6, 26] ?_
 refine W.cond (fun ht26 => ?_) (fun ht26 => ?_)
 ·simp only [Bool.or_eq_true, decide_eq_true_eq, bne_iff_ne, ne_eq] at ht26
  rcases ht26 with (h | h) | h
  ·omega
  ·simp at h; omega
  exact absurd hlast h
 refine Z326 ?_;refine R.build (places := #[(0, 1), (1, 1), (2, 1), (3, 2)]) jU (fun w => by simp) jZ ?_;refine R.box ?_;refine Z404 ?_;refine R.fin [0, 1, 4, 6, 7] ?_;refine Z0 ?_
 refine R.callOwn (n := 2) (x := pr l (atR l i).2) Tryz.call70 (c155at hi hl hll1 hcl (oid Hp.length 2) _ (by rw [get_oid]; rfl)) ?_
 refine Z22 ?_;refine R.fin [0, 1, 4, 6, 7, 8] ?_
 refine W.join ⟨81, setF 4 (.ptr (oid Hp.length 0) 0) (setF 6 (.ptr (oid Hp.length 1) 0) (setF 7 (.ptr (oid Hp.length 2) 0) (setF 8 (.ptr (oid Hp.length 3) 0) (fun _ => .any)))), Hp, [.cells 26 [intA 0, strA [], intA 0, intA 0, strA [], .nil], .cells 53 [intA 0, intA 0], pr l (atS l i (atR l i)), .cells 26 (exprC (atR l i).1)], [], none⟩ ?_ ?_
 ·refine AW.block ?_;refine Z0 ?_;refine Z212 ?_;refine Z427 ?_;refine R.neq ?_;refine Z404 ?_;refine R.fin [0, 1, 4, 6, 7, 8, 35] ?_
  refine W.cond (fun ht35 => ?_) (fun ht35 => ?_)
  ·have e : atS l i (atR l i) = (atR l i).2 := if_pos ht35
   refine W.keep [4, 6, 7, 8] ?_;refine AW.skip ?_;exact Z355
  have e0 : ¬ ((atR l i).2.code != 0) = true := by rw [ht35]; simp
  refine Z7 ?_;refine R.call Tryz.call71 (c71 1048576 _ hok0 (Nat.le_refl _) hsz0 _) ?_;refine Z362 ?_;refine R.fin [0, 1, 4, 6, 7, 8, 42] ?_
  refine W.cond (fun ht42 => ?_) (fun ht42 => ?_)
  ·have e : atS l i (atR l i) = failM 18 (tokAt l i).at_ (atR l i).2 := by unfold atS; rw [if_neg e0, if_pos ht42]
   refine Z31 ?_;refine Z56 ?_;refine R.indexAddr (i) (tokA (tokAt l i)) jU jS (getTok hi) ?_;refine Z186 ?_
   refine R.callOwn (n := 2) (x := pr l (failM 18 (tokAt l i).at_ (atR l i).2)) Tryz.call72 (c72 l (atR l i).2 18 (tokAt l i).at_ (oid Hp.length 2) _ (by rw [get_oid]; rfl)) ?_
   refine R.fin [4, 6, 7, 8] ?_;exact Z355
  have e1 : ¬ decide ((30 : Int) < depthE (atR l i).1) = true := by rw [ht42]; simp
  refine Z7 ?_;refine R.call Tryz.call47 (c47 1048576 _ hok0 (Nat.le_refl _) hsz0 _) ?_;refine Z362 ?_;refine R.fin [0, 1, 4, 6, 7, 8, 53] ?_
  refine W.cond (fun ht53 => ?_) (fun ht53 => ?_)
  ·have e : atS l i (atR l i) = failM 3 (tokAt l i).at_ (atR l i).2 := by unfold atS; rw [if_neg e0, if_neg e1, if_pos ht53]
   refine Z31 ?_;refine Z56 ?_;refine R.indexAddr (i) (tokA (tokAt l i)) jU jS (getTok hi) ?_;refine Z186 ?_
   refine R.callOwn (n := 2) (x := pr l (failM 3 (tokAt l i).at_ (atR l i).2)) Tryz.call72 (c72 l (atR l i).2 3 (tokAt l i).at_ (oid Hp.length 2) _ (by rw [get_oid]; rfl)) ?_
   refine R.fin [4, 6, 7, 8] ?_;exact Z355
  have e : atS l i (atR l i) = (atR l i).2 := by unfold atS; rw [if_neg e0, if_neg e1, if_neg (by rw [ht53]; simp)]
  refine W.keep [4, 6, 7, 8] ?_;refine AW.skip ?_;exact Z355
 refine Z14 ?_;refine Z212 ?_;refine Z427 ?_;refine R.neq ?_;refine R.fin [4, 6, 7, 8, 69] ?_
 refine W.cond (fun ht69 => ?_) (fun ht69 => ?_)
 ·have e : atM l i = (nullX, 0, (atS l i (atR l i)).code, (atS l i (atR l i)).at_) := if_pos ht69
  refine W.drawY [0, 0, 2, 6, 14, 1, 33, 127] [5] [.q 5 [] [], .s [] (some 0) [] [], .q 1 [0] []] (fun _ => Hp) (fun _ => [.cells 26 [intA 0, strA [], intA 0, intA 0, strA [], .nil], .cells 53 [intA 0, intA 0], pr l (atS l i (atR l i)), .cells 26 (exprC (atR l i).1)]) Tryzmixed (by kernel_rfl) rfl rfl (fun _ => rfl) ?_
  apply Y.q
  case h1 =>
   intro B hT hF
   refine Z431 ?_;refine Z415 ?_;refine D.nilPtr ?_;refine D.fieldAddrPtr (fo := 3) jU Tryz.sizeOf53 ?_;exact Z222
  case hTF => decide
  refine Z432 ?_
  apply Y.q
  case h1 =>
   intro B hT hF
   refine D.assign ?_;exact Z421
  case hTF => decide
  refine Y.tail (tn := [5])  ?_;refine Z297 ?_;refine R.fin [4, 5, 6] ?_;refine Z369 ?_;exact K.fin (V.three (V.cellN jA jS) V.tmp (V.cellN jA jS)) ⟨by rw [e, null_agg] <;> rfl, rfl⟩
 have e : atM l i = ((atR l i).1, ((atS l i (atR l i)).i : Int), 0, 0) := if_neg (by rw [ht69]; simp)
 refine Z2 ?_;refine W.drawY [0, 0, 2, 6, 14, 0, 1, 95, 255] [6] [.q 6 [] [], .s [] (some 0) [] [], .q 1 [0] []] (fun _ => Hp) (fun B => [.cells 26 (if B 0 = true then exprC (atR l i).1 else [intA 0, strA [], intA 0, intA 0, strA [], .nil]), .cells 53 [intA 0, intA 0], pr l (atS l i (atR l i)), .cells 26 (exprC (atR l i).1)]) Tryzmixed (by kernel_rfl) rfl rfl (fun _ => rfl) ?_
 apply Y.q
 case h1 =>
  intro B hT hF
  refine Z429 ?_;refine Z415 ?_;refine D.nilPtr ?_;refine D.fieldAddrPtr (fo := 1) jU Tryz.sizeOf3 ?_;refine D.loadOwn jA ?_;exact Z169
 case hTF => decide
 refine Y.storeOwn (u := Hp.length) (n := 0) (t' := 26) (cs := [intA 0, strA [], intA 0, intA 0, strA [], .nil]) (cs' := exprC (atR l i).1) Tryz.sizeOf26 (fun B hB => ⟨rfl, by simp only [hB]; rfl, by simp [upd], rfl⟩) ?_
 apply Y.q
 case h1 =>
  intro B hT hF
  refine D.assign ?_;exact Z421
 case hTF => decide
 refine Y.tail (tn := [6]) (O := [.cells 26 (exprC (atR l i).1), .cells 53 [intA 0, intA 0], pr l (atS l i (atR l i)), .cells 26 (exprC (atR l i).1)]) ?_;refine Z409 ?_;refine R.fin [4, 5, 6] ?_;refine AW.ret ?_;exact K.fin (V.three (V.cellN jA jS) V.tmp (V.cellN jA jS)) ⟨by rw [e, exprA_eq] <;> rfl, rfl⟩ (hlow := by have := low_agg (n := Hp.length) (atR l i).1; simp at this ⊢; exact this)

theorem lex_len {s : Str} (h : (lexM s).2.1 = 0) : (lexM s).1.length ≤ 4002 := by
 obtain ⟨h1, _, h3⟩ := lexM_ok h
 have h2 := itemsT_len s
 rw [h3]
 simp only [List.length_append, List.length_map, List.length_cons, List.length_nil]
 omega
theorem at_word {l : List Tok} (hl : TokEnd l) (hll : l.length ≤ 1048576) {i : Nat} (hi : i < l.length) (h : (atM l i).2.2.1 = 0) : ∃ k : Nat, (atM l i).2.1 = (k : Int) ∧ k < l.length := by
 have hq := atR_fact hl hll hi
 unfold atM at h ⊢
 split at h
 ·rename_i h1
  have : (atS l i (atR l i)).code = 0 := h
  rw [this] at h1
  cases h1
 rename_i h1
 rw [if_neg h1]
 refine ⟨(atS l i (atR l i)).i, rfl, ?_⟩
 have e : (atS l i (atR l i)).i = (atR l i).2.i := by
  unfold atS
  repeat' split
  all_goals first | rfl | exact failM_i.1
 rw [e]
 exact hq.lt
theorem c25 (s : Str) (hs : s.length ≤ 1048576) (hcl : ∀ n Dv, n ≤ 30 → DeepC (lexM s).1 Dv n → PCall (lexM s).1 Dv n) (Hp : List AObj) : AFun Tryz.prog 25 [strA s] Hp (.tup [exprA (parseM s).1, .agg [intA (parseM s).2.1, intA (parseM s).2.2]]) := by
 refine ACall.body [.cell 2 26, .cell 3 53] [0] Tryz.func25 Tryz.ntmps25 (fun d => ?_)
 refine Z47 ?_;refine Z420 ?_;refine Z246 ?_;refine R.call Tryz.call48 (c48 s hs _) ?_;refine Z60 ?_;refine Z404 ?_;refine Z409 ?_;refine Z426 ?_;refine Z11 ?_;refine Z266 ?_;refine R.neq ?_;refine R.fin [2, 3, 4, 5, 15] ?_
 refine W.cond (fun ht15 => ?_) (fun ht15 => ?_)
 ·have e : parseM s = (nullX, (lexM s).2.1, ((lexM s).2.2 : Int)) := if_pos ht15
  refine W.drawY [0, 0, 1, 7] [2] [.q 2 [] [], .s [] (some 0) [] []] (fun _ => Hp) (fun _ => [.cells 26 [intA 0, strA [], intA 0, intA 0, strA [], .nil], .cells 53 [intA 0, intA 0], .cells 53 [intA (lexM s).2.1, intA ((lexM s).2.2 : Nat)]]) Tryzmixed (by kernel_rfl) rfl rfl (fun _ => rfl) ?_
  apply Y.q
  case h1 =>
   intro B hT hF
   exact Z250
  case hTF => decide
  refine Z144 ?_;refine Z297 ?_;refine Z27 ?_;exact Z145
 have e0 : ¬ ((lexM s).2.1 != 0) = true := by rw [ht15]; simp
 have hz : (lexM s).2.1 = 0 := by simpa using ht15
 have hle := lex_end hz
 have hlen := lex_len hz
 have hpos := hle.pos
 refine Z149 ?_
 refine R.call Tryz.call49 (c49 (lexM s).1 0 hpos hle (by have := hlen; omega) hcl _) ?_
 refine Z51 ?_;refine R.extract ?_;refine Z420 ?_;refine Z1 ?_;refine Z409 ?_;refine Z433 ?_;refine Z11 ?_;refine Z266 ?_;refine R.neq ?_;refine R.fin [2, 3, 4, 5, 6, 7, 26] ?_
 refine W.cond (fun ht26 => ?_) (fun ht26 => ?_)
 ·have e : parseM s = (nullX, (atM (lexM s).1 0).2.2.1, (atM (lexM s).1 0).2.2.2) := by unfold parseM parseL; rw [if_neg e0, if_pos ht26]
  refine W.drawY [0, 0, 1, 7] [2] [.q 2 [] [], .s [] (some 0) [] []] (fun _ => Hp) (fun _ => [.cells 26 [intA 0, strA [], intA 0, intA 0, strA [], .nil], .cells 53 [intA 0, intA 0], .cells 53 [intA (atM (lexM s).1 0).2.2.1, intA (atM (lexM s).1 0).2.2.2], .cells 26 (exprC (atM (lexM s).1 0).1)]) Tryzmixed (by kernel_rfl) rfl rfl (fun _ => rfl) ?_
  apply Y.q
  case h1 =>
   intro B hT hF
   exact Z250
  case hTF => decide
  refine Z144 ?_;refine Z297 ?_;refine Z27 ?_;exact Z145
 have e1 : ¬ ((atM (lexM s).1 0).2.2.1 != 0) = true := by rw [ht26]; simp
 obtain ⟨k, hk0, hk⟩ := at_word hle (by omega) hpos (show (atM (lexM s).1 0).2.2.1 = 0 by simpa using ht26)
 have hkt : (atM (lexM s).1 0).2.1.toNat = k := by rw [hk0]; simp
 rw [hk0]
 refine Z2 ?_;refine Z80 ?_;refine R.indexAddr (k) (tokA (tokAt (lexM s).1 k)) jU jS (getTok hk) ?_;refine Z8 ?_;refine R.neq ?_;refine R.fin [2, 3, 4, 6, 7, 34] ?_
 refine W.cond (fun ht34 => ?_) (fun ht34 => ?_)
 ·have e : parseM s = (nullX, 8, ((tokAt (lexM s).1 k).at_ : Int)) := by unfold parseM parseL; rw [if_neg e0, if_neg e1, hkt, if_pos ht34]
  refine W.drawY [0, 0, 0, 6, 14, 30, 62, 1, 255] [7] [.q 7 [] [], .s [] (some 0) [] []] (fun _ => Hp) (fun _ => [.cells 26 [intA 0, strA [], intA 0, intA 0, strA [], .nil], .cells 53 [intA 0, intA 0], .cells 53 [intA (atM (lexM s).1 0).2.2.1, intA (atM (lexM s).1 0).2.2.2], .cells 26 (exprC (atM (lexM s).1 0).1)]) Tryzmixed (by kernel_rfl) rfl rfl (fun _ => rfl) ?_
  apply Y.q
  case h1 =>
   intro B hT hF
   refine Z431 ?_;refine Z240 ?_;refine D.indexAddr (k) (tokA (tokAt (lexM s).1 k)) jU jS (getTok hk) ?_;refine D.fieldAddrRo (off := 2) jU Tryz.sizeOf3 ?_;refine D.loadRo jA ?_;exact Z169
  case hTF => decide
  refine Z432 ?_;refine Y.tail (tn := [7])  ?_;refine Z297 ?_;refine Z27 ?_;exact Z145
 have e : parseM s = ((atM (lexM s).1 0).1, 0, 0) := by unfold parseM parseL; rw [if_neg e0, if_neg e1, hkt, if_neg (by rw [ht34]; simp)]
 refine Z154 ?_;refine Z375 ?_;refine Z409 ?_;refine Z27 ?_;exact K.fin (V.two (V.cellN jA jS) (V.cellN jA jS)) ⟨by rw [e, exprA_eq] <;> rfl, rfl⟩ (hlow := by have := low_agg (n := Hp.length) (atM (lexM s).1 0).1; simp at this ⊢; exact this)

/-! The chapter's example. -/
def exS : Str := [97, 32, 43, 32, 50, 32, 42, 32, 98]
def exL : List Tok := [⟨1, [97], 0⟩, ⟨5, [43], 2⟩, ⟨3, [50], 4⟩, ⟨5, [42], 6⟩, ⟨1, [98], 8⟩, ⟨0, [], 9⟩]
def exX : Expr := binX [43] (nameE [97]) (binX [42] (valX ⟨1, 2, []⟩) (nameE [98]))
theorem list_ext_upto {α : Type} {a b : List α} (hl : a.length = b.length) (h : ∀ (j : Nat) (y : α), j < a.length → a[j]? = some y → b[j]? = some y) : a = b := by
 apply List.ext_getElem hl
 intro j h1 h2
 have := h j a[j] h1 (List.getElem?_eq_getElem h1)
 rw [List.getElem?_eq_getElem h2] at this
 injection this with this
 exact this.symm
theorem low_exprs {n k : Nat} {o : Bool} {l : List Expr} : Low n (.slice o k (l.map exprA)) := low_slice.2 fun y hy => by
 obtain ⟨a, _, rfl⟩ := List.mem_map.1 hy
 exact exprA_low _ a
theorem pop_nodes {l : List Expr} (h : 0 < l.length) : nodesL l = l[0] :: nodesL (l[0].kids ++ l.drop 1) ∧ sizeL l = 1 + sizeL (l[0].kids ++ l.drop 1) ∧ l[0].kids.length ≤ sizeL l := by
 cases l with
 | nil => simp at h
 | cons e r =>
  refine ⟨?_, ?_, ?_⟩
  ·show nodesE e ++ nodesL r = e :: nodesL (e.kids ++ r)
   rw [nodesE_eq, nodesL_append]
   rfl
  ·show sizeE e + sizeL r = 1 + sizeL (e.kids ++ r)
   rw [sizeE_eq, sizeL_append]
   omega
  show e.kids.length ≤ sizeE e + sizeL r
  have := sizeL_kids e.kids
  rw [sizeE_eq]
  omega
theorem len_sizeL (l : List Expr) : l.length ≤ sizeL l := by have := sizeL_kids l; omega
structure NamesAt (e : Expr) (x : List Expr × List Str) : Prop where
 eq : exprNamesM e = (nodesL x.1).foldl addName x.2
 bd : x.2.length + sizeL x.1 ≤ 1048576
theorem NamesAt.on {e : Expr} {x : List Expr × List Str} (h : NamesAt e x) (h0 : 0 < x.1.length) : NamesAt e (x.1[0].kids ++ x.1.drop 1, addName x.2 x.1[0]) := by
 obtain ⟨a, b, _⟩ := pop_nodes h0
 refine ⟨?_, ?_⟩
 ·rw [h.eq, a, List.foldl_cons]
 have := h.bd
 have := add_len x.2 x.1[0]
 show (addName x.2 x.1[0]).length + sizeL (x.1[0].kids ++ x.1.drop 1) ≤ _
 omega
theorem any_contains (l : List Str) (s : Str) : (l.any fun w => w == s) = l.contains s := by
 rw [Bool.eq_iff_iff, List.any_eq_true, List.contains_iff_mem]
 constructor
 ·rintro ⟨w, hw, h⟩
  rw [beq_iff_eq] at h
  subst h
  exact hw
 exact fun h => ⟨s, h, by simp⟩
theorem anyw_take {l : List Str} {z : Nat} (h : z < l.length) (s : Str) : ((l.take (z + 1)).any fun w => w == s) = (((l.take z).any fun w => w == s) || (l[z] == s)) := by
 rw [List.take_succ_eq_append_getElem h, List.any_append]
 simp
theorem c23 (e : Expr) (hs : sizeE e ≤ 1048576) (Hp : List AObj) : AFun Tryz.prog 23 [exprA e] Hp (strsA (exprNamesM e)) := by
 refine ACall.body [.tmp 2] [0] Tryz.func23 Tryz.ntmps23 (fun d => ?_)
 refine Z336 ?_;refine Z216 ?_;refine R.fin [1, 3] ?_;refine Z55 ?_;refine Z216 ?_;refine R.fin [3, 4] ?_;refine W.seq ?_
 refine AW.loopC (α := List Expr × List Str) (fun x => ⟨51, setF 3 (.slice true 1 (x.2.map strA)) (setF 4 (.slice true 6 (x.1.map exprA)) (fun _ => .any)), Hp, [], [], none⟩) (fun x => NamesAt e x) (fun x => sizeL x.1) (([e], [])) ⟨by unfold exprNamesM; simp [nodesL], by simp [sizeL]; exact hs⟩ (StLe.of_eq (by simp [exprA_eq])) rfl (fun x hx => ?_)
 refine Z14 ?_;refine Z365 ?_;refine R.fin [3, 4, 13] ?_
 refine W.cond (fun ht13 => ?_) (fun ht13 => ?_)
 ·have hlt : 0 < x.1.length := by simpa using ht13
  have hpop := pop_nodes hlt
  have hon := hx.on hlt
  have em : List.map exprA x.1[0].kids ++ List.drop 1 (List.map exprA x.1) = List.map exprA (x.1[0].kids ++ x.1.drop 1) := by rw [List.map_append, List.map_drop]
  refine Z389 ?_;refine Z0 ?_;refine R.indexAddr (0) (exprA x.1[0]) jU jS (getMap hlt) ?_;refine Z407 ?_;refine Z22 ?_;refine R.fin [3, 4, 5] ?_;refine W.drawY [0, 0, 2, 7, 0, 16, 63, 127] [] [.s [17] none [] [], .q 2 [] [], .s [17, 20] none [] [], .q 2 [] []] (fun _ => Hp) (fun _ => [.cells 26 (exprC x.1[0])]) Tryzmixed (by kernel_rfl) rfl rfl (fun _ => rfl) ?_;refine Y.buildSlice jU Tryz.sizeOf26 Tryz.zeroValue26 ?_
  apply Y.q
  case h1 =>
   intro B hT hF
   refine D.fieldAddrPtr (fo := 5) jU Tryz.sizeOf24 ?_;refine D.loadOwn jA ?_;exact Z421
  case hTF => decide
  refine Y.append jU Tryz.type26 ?_ ?_ ?_
  ·have := hpop.2.2; have := hx.bd; simp [Tryz.t26]; omega
  ·have := hpop.2.2; have := hx.bd; simp [Tryz.t26]; omega
  apply Y.q
  case h1 =>
   intro B hT hF
   refine Z415 ?_
   refine D.cutL 1 jU Tryz.sizeOf26 (show 1 ≤ (x.1.map exprA).length by rw [List.length_map]; exact hlt) (Nat.le_refl _) ?_
   exact Z421
  case hTF => decide
  refine Y.tail (tn := [])  ?_
  refine R.append jU Tryz.type26 ?_ ?_ ?_
  ·have := hpop.2.2; have := hx.bd; have := len_sizeL x.1; simp [Tryz.t26]; omega
  ·have := hpop.2.2; have := hx.bd; have := len_sizeL x.1; simp [Tryz.t26]; omega
  refine R.assignT ?_;refine R.fin [3, 4, 5] ?_;refine Z131 ?_;refine R.fin [3, 4, 5, 26] ?_
  refine W.cond (fun ht26 => ?_) (fun ht26 => ?_)
  ·have hadd : addName x.2 x.1[0] = x.2 := if_neg (by have := ht26; simp at this; simp [this])
   rw [hadd] at hon
   refine W.keep [3, 4] ?_;refine Z53 ?_;refine K.blE ?_
   refine K.lpN (x.1[0].kids ++ x.1.drop 1, x.2) hon (by have := hpop.2.1; show sizeL (x.1[0].kids ++ x.1.drop 1) < sizeL x.1; omega) ?_
   simp only [show Tryz.t26.size = 6 from rfl, em]
   exact StCut.take (own := []) (fun _ => .refl _) (by repeat (first | exact lowF_any | refine lowF_set (by first | exact low_exprs | exact low_strsl | exact low_strs1 | (rw [← List.map_append]; exact low_exprs)) ?_)) (by simp) (by simp)
  have hop : (x.1[0].op == 2) = true := by simpa using ht26
  refine Z2 ?_;refine Z3 ?_;refine R.fin [3, 4, 5, 6] ?_;refine Z97 ?_;refine R.fin [3, 4, 5, 6, 7] ?_
  refine AW.loopC (α := Nat) (fun z => ⟨51, setF 3 (.slice true 1 (x.2.map strA)) (setF 4 (.slice true 6 ((x.1[0].kids ++ x.1.drop 1).map exprA)) (setF 5 (.ptr (oid Hp.length 0) 0) (setF 6 (boolA ((x.2.take z).any fun w => w == x.1[0].text)) (setF 7 (intA (z : Nat)) (fun _ => .any))))), Hp, [.cells 26 (exprC x.1[0])], [], none⟩) (fun z => z ≤ x.2.length) (fun z => x.2.length - z) (0) (Nat.zero_le _) (StLe.of_eq (by simp [List.map_append, List.map_drop] <;> rfl)) rfl (fun z hz => ?_)
  refine Z210 ?_;refine R.fin [3, 4, 5, 6, 7, 30] ?_
  refine W.cond (fun ht30 => ?_) (fun ht30 => ?_)
  ·have hlz : z < x.2.length := by simpa using ht30
   have hbd := hx.bd
   refine Z88 ?_;refine W.draw0 [0, 1, 3, 3, 15, 31, 3, 67, 255, 511, 1023] 8 Tryzmixed (by kernel_rfl) ?_;refine Z240 ?_;refine Z241 ?_;refine H.indexAddr (z) (strA x.2[z]) jU jS (fun _ => getMap hlz) ?_;refine H.loadRo jA ?_;refine H.fieldAddrPtr (fo := 1) jU Tryz.sizeOf9 ?_;refine H.loadOwn jA ?_;refine D.tail ?_;refine Z345 ?_;refine Z404 ?_;refine R.fin [3, 4, 5, 6, 7] ?_;refine Z141 ?_;refine R.fin [3, 4, 5, 6, 7] ?_
   refine K.lpN (z + 1) hlz (by omega) (StCut.of_eq ?_)
   rw [anyw_take hlz]
   rfl
  have hze : x.2.take z = x.2 := List.take_of_length_le (by simp at ht30; omega)
  refine Z296 ?_;refine R.not ?_;refine R.fin [3, 4, 5, 44] ?_
  refine W.cond (fun ht44 => ?_) (fun ht44 => ?_)
  ·have hadd : addName x.2 x.1[0] = x.2 ++ [x.1[0].text] := if_pos (by rw [hop]; rw [hze, any_contains] at ht44; simpa using ht44)
   rw [hadd] at hon
   refine Z411 ?_;refine R.moveT ?_;refine Z182 ?_;refine Z422 ?_
   refine R.append jU Tryz.type9 ?_ ?_ ?_
   ·have := hx.bd; simp [Tryz.t9]; omega
   ·have := hx.bd; simp [Tryz.t9]; omega
   refine R.assignT ?_;refine R.fin [3, 4] ?_;refine K.blN ?_
   first | refine K.lpN (x.1[0].kids ++ x.1.drop 1, x.2 ++ [x.1[0].text]) hon (by have := hpop.2.1; show sizeL (x.1[0].kids ++ x.1.drop 1) < sizeL x.1; omega) ?_ | refine K.lpN (x.1[0].kids ++ x.1.drop 1, x.2) hon (by have := hpop.2.1; show sizeL (x.1[0].kids ++ x.1.drop 1) < sizeL x.1; omega) ?_
   try simp only [show Tryz.t9.size = 1 from rfl, List.map_append, List.map_cons, List.map_nil]
   exact StCut.take (own := []) (fun _ => .refl _) (by repeat (first | exact lowF_any | refine lowF_set (by first | exact low_exprs | exact low_strsl | exact low_strs1 | (rw [← List.map_append]; exact low_exprs)) ?_)) (by simp) (by simp)
  have hadd : addName x.2 x.1[0] = x.2 := if_neg (by rw [hop]; rw [hze, any_contains] at ht44; simp at ht44; simp [ht44])
  rw [hadd] at hon
  refine W.keep [3, 4] ?_;refine AW.skip ?_;refine K.blN ?_
  first | refine K.lpN (x.1[0].kids ++ x.1.drop 1, x.2 ++ [x.1[0].text]) hon (by have := hpop.2.1; show sizeL (x.1[0].kids ++ x.1.drop 1) < sizeL x.1; omega) ?_ | refine K.lpN (x.1[0].kids ++ x.1.drop 1, x.2) hon (by have := hpop.2.1; show sizeL (x.1[0].kids ++ x.1.drop 1) < sizeL x.1; omega) ?_
  try simp only [show Tryz.t9.size = 1 from rfl, List.map_append, List.map_cons, List.map_nil]
  exact StCut.take (own := []) (fun _ => .refl _) (by repeat (first | exact lowF_any | refine lowF_set (by first | exact low_exprs | exact low_strsl | exact low_strs1 | (rw [← List.map_append]; exact low_exprs)) ?_)) (by simp) (by simp)
 have hnil : x.1 = [] := by have := ht13; simp at this; exact this
 refine Z296 ?_;refine Z78 ?_;exact K.fin (V.one V.tmp) ⟨by rw [hx.eq, hnil]; rfl, rfl⟩

theorem wide_many {l : List Expr} {n f : Nat} (h0 : l.isEmpty = false) (h : manyF l n = true) : wideF f l n = true := by
 cases f with
 | zero => rw [wideF, h0]; rfl
 | succ f => rw [wideF, if_neg (by rw [h0]; simp), if_pos h]
theorem many_at {l : List Expr} {n y : Nat} (hy : y < l.length) (h : 500 < n + y + 1 ∨ fatM l[y] = true) : manyF l n = true := by
 unfold manyF
 rcases h with h | h
 ·rw [decide_eq_true (by omega)]; rfl
 rw [List.any_eq_true.2 ⟨_, List.getElem_mem hy, h⟩, Bool.or_true]
theorem flat_len {l : List Expr} : ∀ (y : Nat), y ≤ l.length → (∀ (j : Nat) (e : Expr), j < y → l[j]? = some e → fatM e = false) → ((l.take y).flatMap Expr.kids).length ≤ 100 * y
 | 0, _, _ => by simp
 | y + 1, hy, h => by
  rw [List.take_succ_eq_append_getElem hy, List.flatMap_append, List.length_append]
  have h1 := flat_len y (by omega) (fun j e hj he => h j e (by omega) he)
  have h2 := fat_out (h y l[y] (by omega) (List.getElem?_eq_getElem _))
  simp only [List.flatMap_cons, List.flatMap_nil, List.append_nil]
  omega
structure WideAt (l0 : List Expr) (x : List Expr × Nat × Nat) : Prop where
 eq : wideF 61 l0 0 = wideF x.2.2 x.1 x.2.1
 f : x.2.2 ≤ 61
 n : x.2.1 ≤ 500
theorem c26 (l0 : List Expr) (Hp : List AObj) : AFun Tryz.prog 26 [.slice false 6 (l0.map exprA), intA 0] Hp (boolA (wideF 61 l0 0)) := by
 refine ACall.body [.tmp 4] [0, 1] Tryz.func26 Tryz.ntmps26 (fun d => ?_)
 refine Z140 ?_;refine Z3 ?_;refine R.fin [0, 1, 5] ?_;refine W.seq ?_
 refine AW.loopC (α := List Expr × Nat × Nat) (fun x => ⟨67, setF 0 (.slice false 6 (x.1.map exprA)) (setF 1 (intA (61 - (x.2.2 : Int))) (setF 5 (intA (x.2.1 : Nat)) (fun _ => .any))), Hp, [], [], none⟩) (fun x => WideAt l0 x) (fun x => x.2.2) ((l0, 0, 61)) ⟨rfl, Nat.le_refl _, Nat.zero_le _⟩ (StLe.of_eq (by simp)) rfl (fun x hx => ?_)
 refine Z14 ?_;refine Z365 ?_;refine R.fin [0, 1, 5, 10] ?_
 refine W.cond (fun ht10 => ?_) (fun ht10 => ?_)
 ·have hpos : 0 < x.1.length := by simpa using ht10
  have hne : x.1.isEmpty = false := by cases hxx : x.1 with
   | nil => rw [hxx] at hpos; simp at hpos
   | cons a r => rfl
  have hxf := hx.f
  refine Z389 ?_;refine Z396 ?_;refine Z216 ?_;refine R.fin [0, 1, 5, 6] ?_;refine Z97 ?_;refine R.fin [0, 1, 5, 6, 7] ?_
  refine AW.loopC (α := Nat) (fun y => ⟨67, setF 0 (.slice false 6 (x.1.map exprA)) (setF 1 (intA (61 - (x.2.2 : Int))) (setF 5 (intA ((x.2.1 + y : Nat) : Int)) (setF 6 (.slice true 6 (((x.1.take y).flatMap Expr.kids).map exprA)) (setF 7 (intA (y : Nat)) (fun _ => .any))))), Hp, [], [], none⟩) (fun y => y ≤ x.1.length ∧ x.2.1 + y ≤ 500 ∧ ∀ (j : Nat) (e : Expr), j < y → x.1[j]? = some e → fatM e = false) (fun y => x.1.length - y) (0) ⟨Nat.zero_le _, hx.n, fun j e h => by omega⟩ (StLe.of_eq (by simp)) rfl (fun y hy => ?_)
  refine Z210 ?_;refine R.fin [0, 1, 5, 6, 7, 15] ?_
  refine W.cond (fun ht15 => ?_) (fun ht15 => ?_)
  ·have hlt : y < x.1.length := by simpa using ht15
   have hyn := hy.2.1
   refine Z88 ?_;refine Z0 ?_;refine Z40 ?_;refine R.fin [0, 1, 5, 6, 7] ?_;refine Z14 ?_;refine R.gtr ?_;refine Z228 ?_;refine Z29 ?_;refine G.slen jU ?_;refine Z127 ?_;refine Z228 ?_;refine G.fieldAddrRo (off := 2) jU Tryz.sizeOf23 ?_;refine G.fieldAddrRo (off := 2) jU Tryz.sizeOf9 ?_;refine G.loadRo jA ?_;refine G.slen jU ?_;refine Z127 ?_;refine Z228 ?_;refine Z201 ?_;refine Z127 ?_;refine R.fin [0, 1, 5, 6, 7, 49] ?_
   refine W.cond (fun ht49 => ?_) (fun ht49 => ?_)
   ·have hm : manyF x.1 x.2.1 = true := many_at hlt (by
     simp only [Bool.or_eq_true, decide_eq_true_eq, List.length_map] at ht49
     unfold fatM
     simp only [Bool.or_eq_true, decide_eq_true_eq]
     omega)
    have hw := wide_many (f := x.2.2) hne hm
    refine Z113 ?_;refine K.thR ?_;refine Z123 ?_;refine Z325 ?_;exact Z330
   have hfat : fatM x.1[y] = false ∧ x.2.1 + y + 1 ≤ 500 := by
    simp only [Bool.or_eq_false_iff, decide_eq_false_iff_not, List.length_map] at ht49
    unfold fatM
    simp only [Bool.or_eq_false_iff, decide_eq_false_iff_not]
    omega
   have hkl := (fat_out hfat.1).2.2
   have hfm : (x.1.take (y + 1)).flatMap Expr.kids = (x.1.take y).flatMap Expr.kids ++ x.1[y].kids := by rw [List.take_succ_eq_append_getElem hlt, List.flatMap_append]; simp
   refine Z370 ?_;refine R.moveT ?_;refine Z56 ?_;refine R.indexAddr (y) (exprA x.1[y]) jU jS (getMap hlt) ?_;refine Z16 ?_
   refine R.append jU Tryz.type26 ?_ ?_ ?_
   ·have h1 := flat_len y hy.1 hy.2.2; have h2 := hkl; have h3 := hy.2.1; simp only [List.length_map, Tryz.t26]; omega
   ·have h1 := flat_len y hy.1 hy.2.2; have h2 := hkl; have h3 := hy.2.1; simp only [List.length_map, Tryz.t26]; omega
   refine R.assignT ?_;refine R.fin [0, 1, 5, 6, 7] ?_;refine Z141 ?_;refine R.fin [0, 1, 5, 6, 7] ?_
   refine K.lpN (y + 1) ⟨hlt, by omega, upto_succ hlt hy.2.2 hfat.1⟩ (by omega) (StCut.of_eq ?_)
   rw [hfm, List.map_append]
   rfl
  have hye : x.1.take y = x.1 := List.take_of_length_le (by simp at ht15; omega)
  have hyl : y = x.1.length := by have := hy.1; simp at ht15; omega
  have hmany : manyF x.1 x.2.1 = false := by
   unfold manyF
   rw [decide_eq_false (by have := hy.2.1; omega), Bool.false_or, List.any_eq_false]
   intro e he
   obtain ⟨j, hj⟩ := List.getElem?_of_mem he
   rw [hy.2.2 j e (by have := (List.getElem?_eq_some_iff.1 hj).1; omega) hj]
   simp
  refine Z90 ?_;refine Z14 ?_;refine Z365 ?_;refine Z21 ?_;refine Z127 ?_;refine R.fin [1, 5, 6, 63] ?_
  refine W.cond (fun ht63 => ?_) (fun ht63 => ?_)
  ·have hw : wideF x.2.2 x.1 x.2.1 = true := by
    have h9 := ht63
    rw [hye] at h9
    simp only [Bool.or_eq_true, decide_eq_true_eq, List.length_map] at h9
    cases hf : x.2.2 with
    | zero => rw [wideF, hne]; rfl
    | succ f =>
     rw [wideF, if_neg (by rw [hne]; simp), if_neg (by rw [hmany]; simp), if_pos (by rw [decide_eq_true_eq]; omega)]
   refine Z113 ?_;refine K.thR ?_;refine Z325 ?_;exact Z330
  have h9 := ht63
  rw [hye] at h9
  simp only [Bool.or_eq_false_iff, decide_eq_false_iff_not, List.length_map] at h9
  obtain ⟨f, hf⟩ : ∃ f, x.2.2 = f + 1 := ⟨x.2.2 - 1, by omega⟩
  have hw : wideF x.2.2 x.1 x.2.1 = wideF f (x.1.flatMap Expr.kids) (x.2.1 + x.1.length) := by
   rw [hf, wideF, if_neg (by rw [hne]; simp), if_neg (by rw [hmany]; simp), if_neg (by rw [decide_eq_true_eq]; omega)]
  refine Z149 ?_;refine Z404 ?_;refine R.fin [0, 1, 5] ?_;refine Z79 ?_;refine R.fin [0, 1, 5] ?_;refine K.blN ?_
  refine K.lpN (x.1.flatMap Expr.kids, x.2.1 + x.1.length, f) ⟨hx.eq.trans hw, by show f ≤ 61; omega, by show x.2.1 + x.1.length ≤ 500; have := hy.2.1; omega⟩ (by show f < x.2.2; omega) (StCut.of_eq ?_)
  rw [hye, hyl]
  congr 4
  simp only [AV.v.injEq, Value.int.injEq, true_and]
  omega
 have hnil : x.1 = [] := by have := ht10; simp at this; exact this
 refine Z90 ?_;refine Z113 ?_;exact K.fin (V.one V.tmp) ⟨by rw [hx.eq, hnil]; cases x.2.2 <;> rfl, rfl⟩

theorem c7 (e : Expr) (Hp : List AObj) : AFun Tryz.prog 7 [exprA e] Hp (boolA (wideM e)) := by
 refine ACall.body [.tmp 2] [0] Tryz.func7 Tryz.ntmps7 (fun d => ?_)
 refine Z156 ?_;refine Z55 ?_;refine Z422 ?_;refine R.call Tryz.call26 (c26 [e] _) ?_;exact Z253

set_option maxRecDepth 8000
/-! What a tree comes to: eval's model. -/
abbrev Rs := Val × Int
def wrongR (e : Int) : Rs := (noV, e)
def cutV (s : Str) : Val := ⟨2, 0, s.take 200⟩
def wholeR (x : Int × Int) : Rs := if x.2 != 0 then wrongR x.2 else (⟨1, x.1, []⟩, 0)
def addI (a b : Int) : Int × Int := if decide (bandI .i64 (bxorI .i64 a (IntKind.i64.wrap (a + b))) (bxorI .i64 b (IntKind.i64.wrap (a + b))) < 0) then (0, 4) else (IntKind.i64.wrap (a + b), 0)
def subI (a b : Int) : Int × Int := if decide (bandI .i64 (bxorI .i64 a b) (bxorI .i64 a (IntKind.i64.wrap (a - b))) < 0) then (0, 4) else (IntKind.i64.wrap (a - b), 0)
def sizeI (a : Int) : Int := if decide (a < 0) then IntKind.u64.wrap (0 - IntKind.u64.wrap a) else IntKind.u64.wrap a
def kindsM : List Val → List Int → Bool
 | _, [] => true
 | [], _ :: _ => false
 | v :: vs, k :: ks => (v.kind == k) && kindsM vs ks
def joinR (a b : Val) : Rs := if !kindsM [a, b] [2, 2] then wrongR 10 else if decide ((200 : Int) < (a.s.length : Int) + (b.s.length : Int)) then wrongR 3 else (cutV (a.s ++ b.s), 0)
def truthR (r : Rs) : Rs := if (r.2 == 0) && (r.1.kind != 0) && (r.1.kind != 3) then wrongR 10 else r
def logicR (strong : Val) (a b : Rs) : Rs := if ((truthR a).2 != 0) || ((truthR a).1 == strong) then truthR a else if (((truthR b).2 != 0) || ((truthR b).1 == strong)) || ((truthR a).1.kind != 0) then truthR b else ((truthR a).1, 0)
def ifW : Str := [105, 102]
def nvlW : Str := [110, 118, 108]
def isnullW : Str := [105, 115, 110, 117, 108, 108]
def callR (t : Str) (a b c : Rs) : Rs :=
 if t == ifW then (if (truthR a).2 != 0 then wrongR (truthR a).2 else if (truthR a).1 == boolV true then b else c)
 else if a.2 != 0 then wrongR a.2 else if t == isnullW then (boolV (a.1.kind == 0), 0) else if a.1.kind != 0 then (a.1, 0) else b
def allR (strict : List Val → Rs) (l : List Rs) : Rs := match l.find? (fun q => q.2 != 0) with | some q => wrongR q.2 | none => if l.any (fun q => q.1.kind == 0) then (noV, 0) else strict (l.map (·.1))
def nameR (c : List Col) (l : List Val) (t : Str) : Rs := if findM t c < 0 then wrongR 9 else (l.getD (findM t c).toNat noV, 0)
def orW : Str := [111, 114]
def andW : Str := [97, 110, 100]
/-- A node, of what its kids come to; what a strict node comes to is a parameter. -/
def evalN (strict : Int → Str → List Val → Rs) (c : List Col) (l : List Val) (o : Int) (t : Str) (v : Val) (ks : List Rs) : Rs :=
 if o == 1 then (v, 0) else if o == 2 then nameR c l t
 else if (o == 5) && (t == orW) then logicR (boolV true) (ks.getD 0 (noV, 0)) (ks.getD 1 (noV, 0))
 else if (o == 5) && (t == andW) then logicR (boolV false) (ks.getD 0 (noV, 0)) (ks.getD 1 (noV, 0))
 else if (o == 6) && (((t == ifW) || (t == nvlW)) || (t == isnullW)) then callR t (ks.getD 0 (noV, 0)) (ks.getD 1 (noV, 0)) (ks.getD 2 (noV, 0))
 else allR (strict o t) ks
mutual
def evalS (strict : Int → Str → List Val → Rs) (c : List Col) (l : List Val) : Expr → Rs
 | .mk o t v k => evalN strict c l o t v (evalL strict c l k)
def evalL (strict : Int → Str → List Val → Rs) (c : List Col) (l : List Val) : List Expr → List Rs
  | [] => []
  | e :: r => evalS strict c l e :: evalL strict c l r
 end
theorem evalL_map (f : Int → Str → List Val → Rs) (c : List Col) (l : List Val) : ∀ k, evalL f c l k = k.map (evalS f c l)
 | [] => rfl
 | e :: r => by rw [evalL, evalL_map f c l r]; rfl
theorem evalS_eq (f : Int → Str → List Val → Rs) (c : List Col) (l : List Val) (e : Expr) : evalS f c l e = evalN f c l e.op e.text e.val (e.kids.map (evalS f c l)) := by cases e; rw [evalS, evalL_map]; rfl
def rowP (c : List Col) (l : List Val) : Bool := (colsP c && (l.length == c.length)) && (l.zip c).all fun p => plainM p.1 && ((p.1.kind == 0) || (p.1.kind == p.2.kind))
/-- eval.Eval. -/
def evalR (f : Int → Str → List Val → Rs) (x : Expr) (c : List Col) (l : List Val) : Rs := if (!(exprRightM x)) || !(rowP c l) then wrongR 1 else evalS f c l x
/-! A tree in a column's place comes to what its value would there. -/
mutual
theorem eval_put {f : Int → Str → List Val → Rs} {c : List Col} {l m : List Val} {s : Str} {y : Expr} (hs : nameR c m s = evalS f c l y) (ho : ∀ t, t ≠ s → nameR c m t = nameR c l t) : ∀ x : Expr, evalS f c l (putE s y x) = evalS f c m x
 | .mk o t v k => by
  rw [putE]
  split
  ·rename_i h
   rw [Bool.and_eq_true, beq_iff_eq, beq_iff_eq] at h
   obtain ⟨rfl, rfl⟩ := h
   rw [← hs, evalS]
   rfl
  rename_i h
  rw [evalS, evalS, evalL_put hs ho k]
  unfold evalN
  by_cases h2 : (o == 2) = true
  ·have : t ≠ s := fun e => h (by rw [h2, e]; simp)
   rw [ho t this]
  rw [if_neg h2, if_neg h2]
theorem evalL_put {f : Int → Str → List Val → Rs} {c : List Col} {l m : List Val} {s : Str} {y : Expr} (hs : nameR c m s = evalS f c l y) (ho : ∀ t, t ≠ s → nameR c m t = nameR c l t) : ∀ k : List Expr, evalL f c l (putL s y k) = evalL f c m k
  | [] => rfl
  | e :: r => by rw [putL, evalL, evalL, eval_put hs ho e, evalL_put hs ho r]
 end
/-! Who is not named plays no part. -/
/-! What a strict node comes to. -/
def mulI (a b : Int) : Int × Int :=
 let p := sizeI a * sizeI b
 let below := decide (a < 0) != decide (b < 0)
 if decide (0 < p / 18446744073709551616) || decide ((if below then 9223372036854775808 else 9223372036854775807) < p % 18446744073709551616) then (0, 4)
 else if below then (IntKind.i64.wrap (IntKind.u64.wrap (0 - p % 18446744073709551616)), 0) else (IntKind.i64.wrap (p % 18446744073709551616), 0)
def divI (a b : Int) : Int × Int := if b == 0 then (0, 5) else if (a == -9223372036854775808) && (b == -1) then (0, 4) else (IntKind.i64.wrap (a.tdiv b), 0)
def remI (a b : Int) : Int × Int := if b == 0 then (0, 5) else if b == -1 then (0, 0) else (IntKind.i64.wrap (a.tmod b), 0)
def arithI (t : Str) (a b : Int) : Int × Int := if t == [43] then addI a b else if t == [45] then subI a b else if t == [42] then mulI a b else if t == [47] then divI a b else remI a b
def comparedM (t : Str) (c : Int) : Bool × Bool := if t == [61] then (c == 0, true) else if t == [33, 61] then (c != 0, true) else if t == [60] then (decide (c < 0), true) else if t == [60, 61] then (decide (c ≤ 0), true) else if t == [62] then (decide (0 < c), true) else if t == [62, 61] then (decide (0 ≤ c), true) else (false, false)
def cmpI (a b : Int) : Int := if decide (a < b) then -1 else if decide (b < a) then 1 else 0
def orI : List Int → Int
 | [] => 0
 | a :: r => if a != 0 then a else orI r
def cmpV (a b : Val) : Int := if (!(plainM a)) || !(plainM b) then 0 else orI [cmpI a.kind b.kind, cmpI a.n b.n, Lib.compareBytes a.s b.s]
def binM (t : Str) (a b : Val) : Rs := if (comparedM t (cmpV a b)).2 then (if a.kind != b.kind then wrongR 10 else (boolV (comparedM t (cmpV a b)).1, 0)) else if t == [38] then joinR a b else if !kindsM [a, b] [1, 1] then wrongR 10 else wholeR (arithI t a.n b.n)
def fun1M (t : Str) (v : Val) : Rs := if (t == [115, 116, 114]) && (v.kind == 1) then (cutV (Lib.itoa v.n), 0) else if (t == [108, 101, 110]) && (v.kind == 2) then (⟨1, v.s.length, []⟩, 0) else if (t == [110, 117, 109]) && (v.kind == 2) then wholeR (numReadM v.s) else wrongR 10
def pieceM (t : Str) (s : Str) (n : Int) : Val := if t == [108, 101, 102, 116] then cutV (s.take (max 0 (min n s.length)).toNat) else cutV (s.drop (s.length - (max 0 (min n s.length)).toNat))
def strictM (o : Int) (t : Str) (l : List Val) : Rs :=
 if o == 5 then binM t (l.getD 0 noV) (l.getD 1 noV) else if (o == 3) && kindsM l [1] then wholeR (subI 0 (l.getD 0 noV).n) else if (o == 4) && kindsM l [3] then (boolV ((l.getD 0 noV).n == 0), 0)
 else if o != 6 then wrongR 10 else if (l.length : Int) == 1 then fun1M t (l.getD 0 noV) else if !kindsM l [2, 1] then wrongR 10 else (pieceM t (l.getD 0 noV).s (l.getD 1 noV).n, 0)
abbrev evalE (c : List Col) (l : List Val) (e : Expr) : Rs := evalS strictM c l e
abbrev evalM (x : Expr) (c : List Col) (l : List Val) : Rs := evalR strictM x c l
/-! Values are plain, and their numbers have 64 bits. -/
structure Fine (v : Val) : Prop where
 plain : plainM v = true
 lo : -9223372036854775808 ≤ v.n
 hi : v.n ≤ 9223372036854775807
theorem fine_no : Fine noV := ⟨rfl, by decide, by decide⟩
theorem fine_bool (b : Bool) : Fine (boolV b) := by cases b <;> exact ⟨rfl, by decide, by decide⟩
theorem fine_int {n : Int} (h0 : -9223372036854775808 ≤ n) (h1 : n ≤ 9223372036854775807) : Fine ⟨1, n, []⟩ := ⟨rfl, h0, h1⟩
theorem fine_cut (s : Str) : Fine (cutV s) := ⟨by
 unfold plainM cutV
 simp only [show ((2 : Int) == 0) = false from rfl, show ((2 : Int) == 1) = false from rfl, show ((2 : Int) == 2) = true from rfl, Bool.false_eq_true, if_false, if_true, show ((0 : Int) == 0) = true from rfl, Bool.true_and, decide_eq_true_eq, List.length_take]
 omega, by show -9223372036854775808 ≤ (0 : Int); decide, by show (0 : Int) ≤ 9223372036854775807; decide⟩
theorem Fine.len {v : Val} (h : Fine v) : v.s.length ≤ 200 := by
 have h := h.plain
 unfold plainM at h
 split at h
 ·simp only [Bool.and_eq_true, beq_iff_eq] at h; rw [h.2]; exact Nat.zero_le _
 split at h
 ·rw [beq_iff_eq] at h; rw [h]; exact Nat.zero_le _
 split at h
 ·simp only [Bool.and_eq_true, decide_eq_true_eq] at h; omega
 simp only [Bool.and_eq_true, beq_iff_eq] at h; rw [h.1.1.2]; exact Nat.zero_le _
theorem fine_whole {x : Int × Int} (h0 : x.2 = 0 → -9223372036854775808 ≤ x.1) (h1 : x.2 = 0 → x.1 ≤ 9223372036854775807) : Fine (wholeR x).1 := by
 unfold wholeR
 split
 ·exact fine_no
 rename_i h
 have h : x.2 = 0 := by simpa using h
 exact fine_int (h0 h) (h1 h)
theorem fine_wrong (e : Int) : Fine (wrongR e).1 := fine_no
theorem wrap_lo (n : Int) : -9223372036854775808 ≤ IntKind.i64.wrap n ∧ IntKind.i64.wrap n ≤ 9223372036854775807 := by rw [IntKind.wrap_i64]; omega
theorem fine_sub (a b : Int) : Fine (wholeR (subI a b)).1 := by
 refine fine_whole (fun _ => ?_) (fun _ => ?_) <;> unfold subI <;> split
 ·show -9223372036854775808 ≤ (0 : Int); decide
 ·exact (wrap_lo _).1
 ·show (0 : Int) ≤ 9223372036854775807; decide
 exact (wrap_lo _).2
theorem arith_lo (t : Str) (a b : Int) : -9223372036854775808 ≤ (arithI t a b).1 ∧ (arithI t a b).1 ≤ 9223372036854775807 := by
 have z : -9223372036854775808 ≤ (0 : Int) ∧ (0 : Int) ≤ 9223372036854775807 := by decide
 unfold arithI
 split
 ·unfold addI; split; exact z; exact wrap_lo _
 split
 ·unfold subI; split; exact z; exact wrap_lo _
 split
 ·unfold mulI
  simp only
  repeat' split
  all_goals first | exact z | exact wrap_lo _
 split
 ·unfold divI; split; exact z; split; exact z; exact wrap_lo _
 unfold remI; split; exact z; split; exact z; exact wrap_lo _
theorem fine_bin {t : Str} {a b : Val} : Fine (binM t a b).1 := by
 unfold binM
 split
 ·split
  ·exact Z434
  exact fine_bool _
 split
 ·unfold joinR
  split
  ·exact Z434
  split
  ·exact Z434
  exact fine_cut _
 split
 ·exact Z434
 exact fine_whole (fun _ => (arith_lo _ _ _).1) (fun _ => (arith_lo _ _ _).2)
theorem num_lo (s : Str) : -9223372036854775808 ≤ (numReadM s).1 ∧ (numReadM s).1 ≤ 9223372036854775807 := by
 unfold numReadM
 split
 ·decide
 split
 ·rename_i v h
  have := Lib.parseIntB_bounds h
  simp only [show ((2 ^ (64 - 1) : Nat) : Int) = 9223372036854775808 by decide] at this
  show -9223372036854775808 ≤ v ∧ v ≤ 9223372036854775807
  omega
 ·decide
 decide
theorem fine_one {t : Str} {v : Val} (h : Fine v) : Fine (fun1M t v).1 := by
 unfold fun1M
 split
 ·exact fine_cut _
 split
 ·have := h.len
  exact fine_int (by omega) (by omega)
 split
 ·exact fine_whole (fun _ => (num_lo _).1) (fun _ => (num_lo _).2)
 exact Z434
theorem fine_strict {o : Int} {t : Str} {l : List Val} (h : ∀ v ∈ l, Fine v) : Fine (strictM o t l).1 := by
 have h0 : Fine (l.getD 0 noV) := by cases l with | nil => exact fine_no | cons a r => exact h a List.mem_cons_self
 unfold strictM
 split
 ·exact fine_bin
 split
 ·exact fine_sub _ _
 split
 ·exact fine_bool _
 split
 ·exact Z434
 split
 ·exact fine_one h0
 split
 ·exact Z434
 unfold pieceM
 split <;> exact fine_cut _
theorem fine_truth {r : Rs} (h : Fine r.1) : Fine (truthR r).1 := by
 unfold truthR
 split
 ·exact Z434
 exact h
theorem fine_logic {s : Val} {a b : Rs} (ha : Fine a.1) (hb : Fine b.1) : Fine (logicR s a b).1 := by
 unfold logicR
 split
 ·exact fine_truth ha
 split
 ·exact fine_truth hb
 exact fine_truth ha
theorem fine_call {t : Str} {a b c : Rs} (ha : Fine a.1) (hb : Fine b.1) (hc : Fine c.1) : Fine (callR t a b c).1 := by
 unfold callR
 repeat' split
 all_goals first | exact fine_wrong _ | exact hb | exact hc | exact ha | exact fine_bool _
theorem fine_all {f : List Val → Rs} {l : List Rs} (hf : ∀ k : List Val, (∀ v ∈ k, Fine v) → Fine (f k).1) (h : ∀ r ∈ l, Fine r.1) : Fine (allR f l).1 := by
 unfold allR
 split
 ·exact Z434
 split
 ·exact fine_no
 refine hf _ fun v hv => ?_
 obtain ⟨r, hr, rfl⟩ := List.mem_map.1 hv
 exact h r hr
theorem fine_name {c : List Col} {l : List Val} (h : ∀ v ∈ l, Fine v) (t : Str) : Fine (nameR c l t).1 := by
 unfold nameR
 split
 ·exact Z434
 show Fine (l.getD _ noV)
 rw [List.getD_eq_getElem?_getD]
 cases hg : l[(findM t c).toNat]? with
 | none => exact fine_no
 | some v => exact h v (List.mem_of_getElem? hg)
def valOk (e : Expr) : Bool := !(e.op == 1) || plainM e.val
theorem fine_getD {k : List Rs} (h : ∀ r ∈ k, Fine r.1) (i : Nat) : Fine (k.getD i (noV, 0)).1 := by
 rw [List.getD_eq_getElem?_getD]
 cases hg : k[i]? with
 | none => exact fine_no
 | some r => exact h r (List.mem_of_getElem? hg)
mutual
theorem fine_eval {c : List Col} {l : List Val} (h : ∀ v ∈ l, Fine v) : ∀ e : Expr, allE valOk e = true → allE rngN e = true → Fine (evalE c l e).1
 | .mk o t v k, h1, h2 => by
  rw [allE, Bool.and_eq_true] at h1 h2
  have hk := fine_evalL (c := c) h k h1.2 h2.2
  rw [evalE, evalS]
  unfold evalN
  split
  ·rename_i ho
   have p := h1.1
   unfold valOk at p
   rw [show (Expr.mk o t v k).op = o from rfl, ho] at p
   have q := h2.1
   unfold rngN at q
   simp only [Bool.and_eq_true, decide_eq_true_eq] at q
   exact ⟨by show plainM (Expr.mk o t v k).val = true; simpa using p, q.1, q.2⟩
  split
  ·exact fine_name h t
  split
  ·exact fine_logic (fine_getD hk 0) (fine_getD hk 1)
  split
  ·exact fine_logic (fine_getD hk 0) (fine_getD hk 1)
  split
  ·exact fine_call (fine_getD hk 0) (fine_getD hk 1) (fine_getD hk 2)
  exact fine_all (fun _ hl => fine_strict hl) hk
theorem fine_evalL {c : List Col} {l : List Val} (h : ∀ v ∈ l, Fine v) : ∀ k : List Expr, allL valOk k = true → allL rngN k = true → ∀ r ∈ evalL strictM c l k, Fine r.1
  | [], _, _ => fun r hr => by cases hr
  | e :: k, h1, h2 => by
    rw [allL, Bool.and_eq_true] at h1 h2
    intro r hr
    rw [evalL] at hr
    rcases List.mem_cons.1 hr with rfl | hr
    · exact fine_eval h e h1.1 h2.1
    exact fine_evalL h k h1.2 h2.2 r hr
 end
set_option maxRecDepth 4000
abbrev resA (r : Rs) : AV := .tup [valA r.1, intA r.2]
abbrev intsA (l : List Int) : AV := .slice false 1 (l.map intA)
abbrev scopeA (c : List Col) (l : List Val) : AV := .agg [colsA c, valsA l]
theorem c28 (e : Int) (Hp : List AObj) : AFun Tryz.prog 28 [intA e] Hp (resA (wrongR e)) := by
 refine ACall.body [.cell 2 23, .tmp 3] [0] Tryz.func28 Tryz.ntmps28 (fun d => ?_)
 refine Z235 ?_;refine R.fin [0, 2] ?_;refine Z373 ?_;refine Z405 ?_;refine Z118 ?_;exact K.fin (V.two (V.cellN jA jS) V.tmp)

theorem c103 (n e : Int) (Hp : List AObj) : AFun Tryz.prog 103 [intA n, intA e] Hp (resA (wholeR (n, e))) := by
 refine ACall.body [.cell 4 23, .tmp 5] [0, 1] Tryz.func103 Tryz.ntmps103 (fun d => ?_)
 refine Z235 ?_;refine R.fin [0, 1, 4] ?_;refine Z98 ?_;refine R.fin [0, 1, 4, 7] ?_
 refine W.cond (fun ht7 => ?_) (fun ht7 => ?_)
 ·have hw : wholeR (n, e) = wrongR e := if_pos ht7
  refine Z0 ?_;refine Z68 ?_;refine Z62 ?_;exact Z294
 have hw : wholeR (n, e) = (⟨1, n, []⟩, 0) := if_neg (by rw [ht7]; simp)
 refine Z149 ?_;refine R.call Tryz.call123 (c123 _ _) ?_;refine Z62 ?_;exact Z435

theorem kindsM_step {vs : List Val} {ks : List Int} (hl : ks.length ≤ vs.length) {x : Nat} (hk : x < ks.length) (hx : kindsM vs ks = kindsM (vs.drop x) (ks.drop x)) : kindsM vs ks = ((vs[x].kind == ks[x]) && kindsM (vs.drop (x + 1)) (ks.drop (x + 1))) := by
 rw [hx, List.drop_eq_getElem_cons hk, List.drop_eq_getElem_cons (show x < vs.length by omega), kindsM]
theorem c102 (vs : List Val) (ks : List Int) (hks : ks.length ≤ vs.length) (hk2 : ks.length ≤ 1048576) (Hp : List AObj) : AFun Tryz.prog 102 [valsA vs, intsA ks] Hp (boolA (kindsM vs ks)) := by
 refine ACall.body [.tmp 4] [0, 1] Tryz.func102 Tryz.ntmps102 (fun d => ?_)
 refine Z140 ?_;refine Z14 ?_;refine Z150 ?_;refine R.fin [0, 7, 8, 9] ?_
 refine AW.loopC (α := Nat) (fun x => ⟨22, setF 0 (valsA vs) (setF 7 (intsA ks) (setF 8 (intA (ks.length : Nat)) (setF 9 (intA (x : Nat)) (fun _ => .any)))), Hp, [], [], none⟩) (fun x => x ≤ ks.length ∧ kindsM vs ks = kindsM (vs.drop x) (ks.drop x)) (fun x => ks.length - x) (0) ⟨Nat.zero_le _, rfl⟩ (StLe.of_eq (by simp)) rfl (fun x hx => ?_)
 refine Z166 ?_;refine R.fin [0, 7, 8, 9, 10] ?_
 refine W.condX (fun ht10 => ?_) (fun ht10 => ?_)
 ·have hlt : x < ks.length := by simpa using ht10
  have hls : x < vs.length := by omega
  have hst := kindsM_step hks hlt hx.2
  refine Z180 ?_;refine R.indexAddr (x) (intA ks[x]) jU jS (getMap hlt) ?_;refine Z402 ?_;refine Z23 ?_;refine R.fin [0, 5, 6, 7, 8, 9] ?_;refine Z44 ?_;refine R.indexAddr (x) (valA vs[x]) jU jS (getMap hls) ?_;refine Z8 ?_;refine Z405 ?_;refine R.neq ?_;refine R.fin [0, 7, 8, 9, 20] ?_
  refine W.cond (fun ht20 => ?_) (fun ht20 => ?_)
  ·have hm : kindsM vs ks = false := by rw [hst]; simp only [bne_iff_ne, ne_eq] at ht20; simp [ht20]
   refine Z113 ?_;exact Z371
  have hn : kindsM vs ks = kindsM (vs.drop (x + 1)) (ks.drop (x + 1)) := by rw [hst]; simp only [bne_eq_false_iff_eq] at ht20; simp [ht20]
  refine Z238 ?_;refine R.fin [0, 7, 8, 9] ?_;exact Z323
 have hxe : ks.length ≤ x := by simpa using ht10
 have hm : kindsM vs ks = true := by rw [hx.2, List.drop_of_length_le hxe]; cases vs.drop x <;> rfl
 refine Z48 ?_;exact Z175

theorem c119 (t : Str) (c : Int) (Hp : List AObj) : AFun Tryz.prog 119 [strA t, intA c] Hp (.tup [boolA (comparedM t c).1, boolA (comparedM t c).2]) := by
 refine ACall.body [.tmp 4, .tmp 5] [0, 1] Tryz.func119 Tryz.ntmps119 (fun d => ?_)
 refine Z281 ?_;refine Z14 ?_;refine R.fin [1, 6] ?_;refine Z206 ?_;refine R.fin [1, 6, 7] ?_
 refine W.cond (fun ht7 => ?_) (fun ht7 => ?_)
 ·refine Z0 ?_;refine R.eql ?_;refine Z299 ?_
  first | (by_cases e0 : comparedM t c = (c == 0, true); exact K.fin (V.two V.tmp V.tmp) ⟨by rw [e0]; try rfl, rfl⟩; exfalso; refine e0 ?_; clear e0; simp_all [comparedM]; done) | (by_cases e0 : comparedM t c = (c != 0, true); exact K.fin (V.two V.tmp V.tmp) ⟨by rw [e0]; try rfl, rfl⟩; exfalso; refine e0 ?_; clear e0; simp_all [comparedM]; done) | (by_cases e0 : comparedM t c = (decide (c < 0), true); exact K.fin (V.two V.tmp V.tmp) ⟨by rw [e0]; try rfl, rfl⟩; exfalso; refine e0 ?_; clear e0; simp_all [comparedM]; done) | (by_cases e0 : comparedM t c = (decide (c ≤ 0), true); exact K.fin (V.two V.tmp V.tmp) ⟨by rw [e0]; try rfl, rfl⟩; exfalso; refine e0 ?_; clear e0; simp_all [comparedM]; done) | (by_cases e0 : comparedM t c = (decide (0 < c), true); exact K.fin (V.two V.tmp V.tmp) ⟨by rw [e0]; try rfl, rfl⟩; exfalso; refine e0 ?_; clear e0; simp_all [comparedM]; done) | (by_cases e0 : comparedM t c = (decide (0 ≤ c), true); exact K.fin (V.two V.tmp V.tmp) ⟨by rw [e0]; try rfl, rfl⟩; exfalso; refine e0 ?_; clear e0; simp_all [comparedM]; done) | (by_cases e0 : comparedM t c = (false, false); exact K.fin (V.two V.tmp V.tmp) ⟨by rw [e0]; try rfl, rfl⟩; exfalso; refine e0 ?_; clear e0; simp_all [comparedM]; done)
 refine Z41 ?_;refine R.fin [1, 6, 11] ?_
 refine W.cond (fun ht11 => ?_) (fun ht11 => ?_)
 ·refine Z0 ?_;refine R.neq ?_;refine Z299 ?_
  first | (by_cases e0 : comparedM t c = (c == 0, true); exact K.fin (V.two V.tmp V.tmp) ⟨by rw [e0]; try rfl, rfl⟩; exfalso; refine e0 ?_; clear e0; simp_all [comparedM]; done) | (by_cases e0 : comparedM t c = (c != 0, true); exact K.fin (V.two V.tmp V.tmp) ⟨by rw [e0]; try rfl, rfl⟩; exfalso; refine e0 ?_; clear e0; simp_all [comparedM]; done) | (by_cases e0 : comparedM t c = (decide (c < 0), true); exact K.fin (V.two V.tmp V.tmp) ⟨by rw [e0]; try rfl, rfl⟩; exfalso; refine e0 ?_; clear e0; simp_all [comparedM]; done) | (by_cases e0 : comparedM t c = (decide (c ≤ 0), true); exact K.fin (V.two V.tmp V.tmp) ⟨by rw [e0]; try rfl, rfl⟩; exfalso; refine e0 ?_; clear e0; simp_all [comparedM]; done) | (by_cases e0 : comparedM t c = (decide (0 < c), true); exact K.fin (V.two V.tmp V.tmp) ⟨by rw [e0]; try rfl, rfl⟩; exfalso; refine e0 ?_; clear e0; simp_all [comparedM]; done) | (by_cases e0 : comparedM t c = (decide (0 ≤ c), true); exact K.fin (V.two V.tmp V.tmp) ⟨by rw [e0]; try rfl, rfl⟩; exfalso; refine e0 ?_; clear e0; simp_all [comparedM]; done) | (by_cases e0 : comparedM t c = (false, false); exact K.fin (V.two V.tmp V.tmp) ⟨by rw [e0]; try rfl, rfl⟩; exfalso; refine e0 ?_; clear e0; simp_all [comparedM]; done)
 refine Z41 ?_;refine R.fin [1, 6, 15] ?_
 refine W.cond (fun ht15 => ?_) (fun ht15 => ?_)
 ·refine Z0 ?_;refine R.lss ?_;refine Z299 ?_
  first | (by_cases e0 : comparedM t c = (c == 0, true); exact K.fin (V.two V.tmp V.tmp) ⟨by rw [e0]; try rfl, rfl⟩; exfalso; refine e0 ?_; clear e0; simp_all [comparedM]; done) | (by_cases e0 : comparedM t c = (c != 0, true); exact K.fin (V.two V.tmp V.tmp) ⟨by rw [e0]; try rfl, rfl⟩; exfalso; refine e0 ?_; clear e0; simp_all [comparedM]; done) | (by_cases e0 : comparedM t c = (decide (c < 0), true); exact K.fin (V.two V.tmp V.tmp) ⟨by rw [e0]; try rfl, rfl⟩; exfalso; refine e0 ?_; clear e0; simp_all [comparedM]; done) | (by_cases e0 : comparedM t c = (decide (c ≤ 0), true); exact K.fin (V.two V.tmp V.tmp) ⟨by rw [e0]; try rfl, rfl⟩; exfalso; refine e0 ?_; clear e0; simp_all [comparedM]; done) | (by_cases e0 : comparedM t c = (decide (0 < c), true); exact K.fin (V.two V.tmp V.tmp) ⟨by rw [e0]; try rfl, rfl⟩; exfalso; refine e0 ?_; clear e0; simp_all [comparedM]; done) | (by_cases e0 : comparedM t c = (decide (0 ≤ c), true); exact K.fin (V.two V.tmp V.tmp) ⟨by rw [e0]; try rfl, rfl⟩; exfalso; refine e0 ?_; clear e0; simp_all [comparedM]; done) | (by_cases e0 : comparedM t c = (false, false); exact K.fin (V.two V.tmp V.tmp) ⟨by rw [e0]; try rfl, rfl⟩; exfalso; refine e0 ?_; clear e0; simp_all [comparedM]; done)
 refine Z41 ?_;refine R.fin [1, 6, 19] ?_
 refine W.cond (fun ht19 => ?_) (fun ht19 => ?_)
 ·refine Z0 ?_;refine R.leq ?_;refine Z299 ?_
  first | (by_cases e0 : comparedM t c = (c == 0, true); exact K.fin (V.two V.tmp V.tmp) ⟨by rw [e0]; try rfl, rfl⟩; exfalso; refine e0 ?_; clear e0; simp_all [comparedM]; done) | (by_cases e0 : comparedM t c = (c != 0, true); exact K.fin (V.two V.tmp V.tmp) ⟨by rw [e0]; try rfl, rfl⟩; exfalso; refine e0 ?_; clear e0; simp_all [comparedM]; done) | (by_cases e0 : comparedM t c = (decide (c < 0), true); exact K.fin (V.two V.tmp V.tmp) ⟨by rw [e0]; try rfl, rfl⟩; exfalso; refine e0 ?_; clear e0; simp_all [comparedM]; done) | (by_cases e0 : comparedM t c = (decide (c ≤ 0), true); exact K.fin (V.two V.tmp V.tmp) ⟨by rw [e0]; try rfl, rfl⟩; exfalso; refine e0 ?_; clear e0; simp_all [comparedM]; done) | (by_cases e0 : comparedM t c = (decide (0 < c), true); exact K.fin (V.two V.tmp V.tmp) ⟨by rw [e0]; try rfl, rfl⟩; exfalso; refine e0 ?_; clear e0; simp_all [comparedM]; done) | (by_cases e0 : comparedM t c = (decide (0 ≤ c), true); exact K.fin (V.two V.tmp V.tmp) ⟨by rw [e0]; try rfl, rfl⟩; exfalso; refine e0 ?_; clear e0; simp_all [comparedM]; done) | (by_cases e0 : comparedM t c = (false, false); exact K.fin (V.two V.tmp V.tmp) ⟨by rw [e0]; try rfl, rfl⟩; exfalso; refine e0 ?_; clear e0; simp_all [comparedM]; done)
 refine Z41 ?_;refine R.fin [1, 6, 23] ?_
 refine W.cond (fun ht23 => ?_) (fun ht23 => ?_)
 ·refine Z0 ?_;refine R.gtr ?_;refine Z299 ?_
  first | (by_cases e0 : comparedM t c = (c == 0, true); exact K.fin (V.two V.tmp V.tmp) ⟨by rw [e0]; try rfl, rfl⟩; exfalso; refine e0 ?_; clear e0; simp_all [comparedM]; done) | (by_cases e0 : comparedM t c = (c != 0, true); exact K.fin (V.two V.tmp V.tmp) ⟨by rw [e0]; try rfl, rfl⟩; exfalso; refine e0 ?_; clear e0; simp_all [comparedM]; done) | (by_cases e0 : comparedM t c = (decide (c < 0), true); exact K.fin (V.two V.tmp V.tmp) ⟨by rw [e0]; try rfl, rfl⟩; exfalso; refine e0 ?_; clear e0; simp_all [comparedM]; done) | (by_cases e0 : comparedM t c = (decide (c ≤ 0), true); exact K.fin (V.two V.tmp V.tmp) ⟨by rw [e0]; try rfl, rfl⟩; exfalso; refine e0 ?_; clear e0; simp_all [comparedM]; done) | (by_cases e0 : comparedM t c = (decide (0 < c), true); exact K.fin (V.two V.tmp V.tmp) ⟨by rw [e0]; try rfl, rfl⟩; exfalso; refine e0 ?_; clear e0; simp_all [comparedM]; done) | (by_cases e0 : comparedM t c = (decide (0 ≤ c), true); exact K.fin (V.two V.tmp V.tmp) ⟨by rw [e0]; try rfl, rfl⟩; exfalso; refine e0 ?_; clear e0; simp_all [comparedM]; done) | (by_cases e0 : comparedM t c = (false, false); exact K.fin (V.two V.tmp V.tmp) ⟨by rw [e0]; try rfl, rfl⟩; exfalso; refine e0 ?_; clear e0; simp_all [comparedM]; done)
 refine Z41 ?_;refine R.fin [1, 27] ?_
 refine W.cond (fun ht27 => ?_) (fun ht27 => ?_)
 ·refine Z0 ?_;refine R.geq ?_;refine Z299 ?_
  first | (by_cases e0 : comparedM t c = (c == 0, true); exact K.fin (V.two V.tmp V.tmp) ⟨by rw [e0]; try rfl, rfl⟩; exfalso; refine e0 ?_; clear e0; simp_all [comparedM]; done) | (by_cases e0 : comparedM t c = (c != 0, true); exact K.fin (V.two V.tmp V.tmp) ⟨by rw [e0]; try rfl, rfl⟩; exfalso; refine e0 ?_; clear e0; simp_all [comparedM]; done) | (by_cases e0 : comparedM t c = (decide (c < 0), true); exact K.fin (V.two V.tmp V.tmp) ⟨by rw [e0]; try rfl, rfl⟩; exfalso; refine e0 ?_; clear e0; simp_all [comparedM]; done) | (by_cases e0 : comparedM t c = (decide (c ≤ 0), true); exact K.fin (V.two V.tmp V.tmp) ⟨by rw [e0]; try rfl, rfl⟩; exfalso; refine e0 ?_; clear e0; simp_all [comparedM]; done) | (by_cases e0 : comparedM t c = (decide (0 < c), true); exact K.fin (V.two V.tmp V.tmp) ⟨by rw [e0]; try rfl, rfl⟩; exfalso; refine e0 ?_; clear e0; simp_all [comparedM]; done) | (by_cases e0 : comparedM t c = (decide (0 ≤ c), true); exact K.fin (V.two V.tmp V.tmp) ⟨by rw [e0]; try rfl, rfl⟩; exfalso; refine e0 ?_; clear e0; simp_all [comparedM]; done) | (by_cases e0 : comparedM t c = (false, false); exact K.fin (V.two V.tmp V.tmp) ⟨by rw [e0]; try rfl, rfl⟩; exfalso; refine e0 ?_; clear e0; simp_all [comparedM]; done)
 refine Z30 ?_;refine Z251 ?_
 first | (by_cases e0 : comparedM t c = (c == 0, true); exact K.fin (V.two V.tmp V.tmp) ⟨by rw [e0]; try rfl, rfl⟩; exfalso; refine e0 ?_; clear e0; simp_all [comparedM]; done) | (by_cases e0 : comparedM t c = (c != 0, true); exact K.fin (V.two V.tmp V.tmp) ⟨by rw [e0]; try rfl, rfl⟩; exfalso; refine e0 ?_; clear e0; simp_all [comparedM]; done) | (by_cases e0 : comparedM t c = (decide (c < 0), true); exact K.fin (V.two V.tmp V.tmp) ⟨by rw [e0]; try rfl, rfl⟩; exfalso; refine e0 ?_; clear e0; simp_all [comparedM]; done) | (by_cases e0 : comparedM t c = (decide (c ≤ 0), true); exact K.fin (V.two V.tmp V.tmp) ⟨by rw [e0]; try rfl, rfl⟩; exfalso; refine e0 ?_; clear e0; simp_all [comparedM]; done) | (by_cases e0 : comparedM t c = (decide (0 < c), true); exact K.fin (V.two V.tmp V.tmp) ⟨by rw [e0]; try rfl, rfl⟩; exfalso; refine e0 ?_; clear e0; simp_all [comparedM]; done) | (by_cases e0 : comparedM t c = (decide (0 ≤ c), true); exact K.fin (V.two V.tmp V.tmp) ⟨by rw [e0]; try rfl, rfl⟩; exfalso; refine e0 ?_; clear e0; simp_all [comparedM]; done) | (by_cases e0 : comparedM t c = (false, false); exact K.fin (V.two V.tmp V.tmp) ⟨by rw [e0]; try rfl, rfl⟩; exfalso; refine e0 ?_; clear e0; simp_all [comparedM]; done)

theorem c124 (a b : Int) (Hp : List AObj) : AFun Tryz.prog 124 [intA a, intA b] Hp (.tup [intA (subI a b).1, intA (subI a b).2]) := by
 refine ACall.body [.tmp 4, .tmp 5] [0, 1] Tryz.func124 Tryz.ntmps124 (fun d => ?_)
 refine Z281 ?_;refine Z44 ?_;refine R.sub ?_;refine Z404 ?_;refine R.fin [0, 1, 6] ?_;refine Z80 ?_;refine R.xor ?_;refine Z56 ?_;refine R.xor ?_;refine R.and ?_;refine R.lss ?_;refine R.fin [6, 17] ?_
 refine W.cond (fun ht17 => ?_) (fun ht17 => ?_)
 ·have hm : subI a b = (0, 4) := if_pos ht17
  refine Z251 ?_;exact Z346
 have hm : subI a b = (IntKind.i64.wrap (a - b), 0) := if_neg (by rw [ht17]; simp)
 refine Z149 ?_;exact Z225

theorem c144 (a b : Int) (Hp : List AObj) : AFun Tryz.prog 144 [intA a, intA b] Hp (.tup [intA (addI a b).1, intA (addI a b).2]) := by
 refine ACall.body [.tmp 4, .tmp 5] [0, 1] Tryz.func144 Tryz.ntmps144 (fun d => ?_)
 refine Z281 ?_;refine Z44 ?_;refine Z350 ?_;refine R.fin [0, 1, 6] ?_;refine Z80 ?_;refine R.xor ?_;refine Z56 ?_;refine R.xor ?_;refine R.and ?_;refine R.lss ?_;refine R.fin [6, 17] ?_
 refine W.cond (fun ht17 => ?_) (fun ht17 => ?_)
 ·have hm : addI a b = (0, 4) := if_pos ht17
  refine Z251 ?_;exact Z346
 have hm : addI a b = (IntKind.i64.wrap (a + b), 0) := if_neg (by rw [ht17]; simp)
 refine Z149 ?_;exact Z225

theorem c104 (a : Int) (Hp : List AObj) : AFun Tryz.prog 104 [intA a] Hp (.tup [intA (subI 0 a).1, intA (subI 0 a).2]) := by
 refine ACall.body [.tmp 2, .tmp 3] [0] Tryz.func104 Tryz.ntmps104 (fun d => ?_)
 refine Z64 ?_;refine R.fin [0] ?_;refine Z0 ?_;refine R.call Tryz.call124 (c124 _ _ _) ?_;refine Z12 ?_;refine Z23 ?_;refine Z27 ?_;exact K.fin (V.two V.tmp V.tmp)

theorem c170 (a : Int) (Hp : List AObj) : AFun Tryz.prog 170 [intA a] Hp (u64A (sizeI a)) := by
 refine ACall.body [.tmp 2] [0] Tryz.func170 Tryz.ntmps170 (fun d => ?_)
 refine Z101 ?_;refine Z151 ?_;refine R.fin [0, 4] ?_
 refine W.cond (fun ht4 => ?_) (fun ht4 => ?_)
 ·have hm : sizeI a = IntKind.u64.wrap (0 - IntKind.u64.wrap a) := if_pos ht4
  refine Z0 ?_;refine Z408 ?_;refine R.neg ?_;refine Z78 ?_;exact Z46
 have hm : sizeI a = IntKind.u64.wrap a := if_neg (by rw [ht4]; simp)
 refine Z149 ?_;refine Z408 ?_;exact Z236

theorem wrap_u (n : Int) : 0 ≤ IntKind.u64.wrap n ∧ IntKind.u64.wrap n < 18446744073709551616 := by rw [IntKind.wrap_u64]; omega
theorem size_u (a : Int) : 0 ≤ sizeI a ∧ sizeI a < 18446744073709551616 := by
 unfold sizeI
 split <;> exact wrap_u _
theorem c169 (x y : Int) (hx : 0 ≤ x ∧ x < 18446744073709551616) (hy : 0 ≤ y ∧ y < 18446744073709551616) (Hp : List AObj) : AFun Tryz.prog 169 [u64A x, u64A y] Hp (.tup [u64A (x * y / 18446744073709551616), u64A (x * y % 18446744073709551616)]) := by
 obtain ⟨m, rfl⟩ := Int.eq_ofNat_of_zero_le hx.1
 obtain ⟨n, rfl⟩ := Int.eq_ofNat_of_zero_le hy.1
 refine AFun.lib (xs := [.int .u64 m, .int .u64 n]) (v := .tuple #[.int .u64 ((m * n / 18446744073709551616 : Nat) : Int), .int .u64 ((m * n % 18446744073709551616 : Nat) : Int)]) (fun G w => rep_tup rfl (fun i y u hy hu => ?_)) (fun w hg => ?_)
 ·match i with
  | 0 => simp at hy hu; subst hy; subst hu; exact .v _ _
  | 1 => simp at hy hu; subst hy; subst hu; exact .v _ _
  | i + 2 => simp at hy
 refine (Any.bits_Mul64 Tryz.lays264 m n (by omega) (by omega) w).mono ?_
 rintro e w' ⟨rfl, rfl⟩
 exact ⟨rfl, Go.RowKit.Below.refl _ _⟩
theorem c143 (s t : Str) (Hp : List AObj) : AFun Tryz.prog 143 [strA s, strA t] Hp (intA (Lib.compareBytes s t)) := by
 refine AFun.lib (xs := [sv s, sv t]) (v := .int .i64 (Lib.compareBytes s t)) (fun G w => .v _ _) (fun w hg => ?_)
 refine (Any.strings_Compare Tryz.lays106 ⟨s.toArray⟩ ⟨t.toArray⟩ w).mono ?_
 rintro e w' ⟨rfl, rfl⟩
 exact ⟨rfl, Go.RowKit.Below.refl _ _⟩
theorem c145 (a b : Int) (Hp : List AObj) : AFun Tryz.prog 145 [intA a, intA b] Hp (.tup [intA (mulI a b).1, intA (mulI a b).2]) := by
 refine ACall.body [.tmp 4, .tmp 5] [0, 1] Tryz.func145 Tryz.ntmps145 (fun d => ?_)
 refine Z281 ?_;refine Z0 ?_;refine R.call Tryz.call170 (c170 _ _) ?_;refine Z405 ?_;refine R.call Tryz.call170 (c170 _ _) ?_;refine R.call Tryz.call169 (c169 _ _ (size_u a) (size_u b) _) ?_;refine Z252 ?_;refine R.fin [0, 1, 6, 7] ?_;refine Z0 ?_;refine R.lss ?_;refine Z405 ?_;refine R.lss ?_;refine R.bneq jU ?_;refine Z404 ?_;refine R.fin [6, 7, 8] ?_;refine Z3 ?_;refine R.fin [6, 7, 8, 9] ?_;refine Z14 ?_;refine R.fin [6, 7, 8, 9, 23] ?_
 refine W.cond (fun ht23 => ?_) (fun ht23 => ?_)
 ·refine Z31 ?_;refine Z350 ?_;refine R.fin [6, 7, 8, 9] ?_;refine K.thN ?_;refine Z180 ?_;refine R.gtr ?_;refine Z114 ?_;refine Z127 ?_;refine Z404 ?_;refine R.fin [7, 8, 26] ?_
  refine W.cond (fun ht26 => ?_) (fun ht26 => ?_)
  ·refine Z251 ?_;refine Z5 ?_
   exact K.fin (V.two V.tmp V.tmp) ⟨by
    have w1 : IntKind.u64.wrap 9223372036854775808 = 9223372036854775808 := rfl
    simp_all [mulI]
    try first | (rw [if_pos ht26]; simp; done) | (rw [if_neg (by omega)]; simp; done), rfl⟩
  refine Z0 ?_;refine Z404 ?_;refine R.fin [7, 34] ?_
  refine W.cond (fun ht34 => ?_) (fun ht34 => ?_)
  ·refine Z0 ?_;refine R.neg ?_;refine Z408 ?_;refine Z299 ?_
   exact K.fin (V.two V.tmp V.tmp) ⟨by
    have w1 : IntKind.u64.wrap 9223372036854775808 = 9223372036854775808 := rfl
    simp_all [mulI]
    try first | (rw [if_pos ht26]; simp; done) | (rw [if_neg (by omega)]; simp; done), rfl⟩
  refine Z30 ?_;refine Z0 ?_;refine Z408 ?_;refine Z170 ?_
  exact K.fin (V.two V.tmp V.tmp) ⟨by
   have w1 : IntKind.u64.wrap 9223372036854775808 = 9223372036854775808 := rfl
   simp_all [mulI]
   try first | (rw [if_pos ht26]; simp; done) | (rw [if_neg (by omega)]; simp; done), rfl⟩
 refine Z88 ?_;refine Z0 ?_;refine R.gtr ?_;refine Z114 ?_;refine Z127 ?_;refine Z404 ?_;refine R.fin [7, 8, 26] ?_
 refine W.cond (fun ht26 => ?_) (fun ht26 => ?_)
 ·refine Z251 ?_;refine Z5 ?_
  exact K.fin (V.two V.tmp V.tmp) ⟨by
   have w1 : IntKind.u64.wrap 9223372036854775808 = 9223372036854775808 := rfl
   simp_all [mulI]
   try first | (rw [if_pos ht26]; simp; done) | (rw [if_neg (by omega)]; simp; done), rfl⟩
 refine Z0 ?_;refine Z404 ?_;refine R.fin [7, 34] ?_
 refine W.cond (fun ht34 => ?_) (fun ht34 => ?_)
 ·refine Z0 ?_;refine R.neg ?_;refine Z408 ?_;refine Z299 ?_
  exact K.fin (V.two V.tmp V.tmp) ⟨by
   have w1 : IntKind.u64.wrap 9223372036854775808 = 9223372036854775808 := rfl
   simp_all [mulI]
   try first | (rw [if_pos ht26]; simp; done) | (rw [if_neg (by omega)]; simp; done), rfl⟩
 refine Z30 ?_;refine Z0 ?_;refine Z408 ?_;refine Z170 ?_
 exact K.fin (V.two V.tmp V.tmp) ⟨by
  have w1 : IntKind.u64.wrap 9223372036854775808 = 9223372036854775808 := rfl
  simp_all [mulI]
  try first | (rw [if_pos ht26]; simp; done) | (rw [if_neg (by omega)]; simp; done), rfl⟩

theorem c146 (a b : Int) (Hp : List AObj) : AFun Tryz.prog 146 [intA a, intA b] Hp (.tup [intA (divI a b).1, intA (divI a b).2]) := by
 refine ACall.body [.tmp 4, .tmp 5] [0, 1] Tryz.func146 Tryz.ntmps146 (fun d => ?_)
 refine Z281 ?_;refine Z180 ?_;refine Z43 ?_;refine R.fin [0, 1, 6] ?_
 refine W.cond (fun ht6 => ?_) (fun ht6 => ?_)
 ·refine Z251 ?_;refine Z5 ?_
  first | (by_cases e0 : divI a b = (0, 5); exact K.fin (V.two V.tmp V.tmp) ⟨by rw [e0]; try rfl, rfl⟩; exfalso; refine e0 ?_; clear e0; simp_all [divI]; done) | (by_cases e0 : divI a b = (0, 4); exact K.fin (V.two V.tmp V.tmp) ⟨by rw [e0]; try rfl, rfl⟩; exfalso; refine e0 ?_; clear e0; simp_all [divI]; done) | (by_cases e0 : divI a b = (IntKind.i64.wrap (a.tdiv b), 0); exact K.fin (V.two V.tmp V.tmp) ⟨by rw [e0]; try rfl, rfl⟩; exfalso; refine e0 ?_; clear e0; simp_all [divI]; done)
 refine Z0 ?_;refine Z181 ?_;refine Z94 ?_;refine R.fin [0, 1, 9] ?_
 refine W.cond (fun ht9 => ?_) (fun ht9 => ?_)
 ·refine Z251 ?_;refine Z5 ?_
  first | (by_cases e0 : divI a b = (0, 5); exact K.fin (V.two V.tmp V.tmp) ⟨by rw [e0]; try rfl, rfl⟩; exfalso; refine e0 ?_; clear e0; simp_all [divI]; done) | (by_cases e0 : divI a b = (0, 4); exact K.fin (V.two V.tmp V.tmp) ⟨by rw [e0]; try rfl, rfl⟩; exfalso; refine e0 ?_; clear e0; simp_all [divI]; done) | (by_cases e0 : divI a b = (IntKind.i64.wrap (a.tdiv b), 0); exact K.fin (V.two V.tmp V.tmp) ⟨by rw [e0]; try rfl, rfl⟩; exfalso; refine e0 ?_; clear e0; simp_all [divI]; done)
 refine Z30 ?_;refine Z44 ?_;refine R.quo (h0 := by simpa using ht6) ?_;refine Z170 ?_
 first | (by_cases e0 : divI a b = (0, 5); exact K.fin (V.two V.tmp V.tmp) ⟨by rw [e0]; try rfl, rfl⟩; exfalso; refine e0 ?_; clear e0; simp_all [divI]; done) | (by_cases e0 : divI a b = (0, 4); exact K.fin (V.two V.tmp V.tmp) ⟨by rw [e0]; try rfl, rfl⟩; exfalso; refine e0 ?_; clear e0; simp_all [divI]; done) | (by_cases e0 : divI a b = (IntKind.i64.wrap (a.tdiv b), 0); exact K.fin (V.two V.tmp V.tmp) ⟨by rw [e0]; try rfl, rfl⟩; exfalso; refine e0 ?_; clear e0; simp_all [divI]; done)

theorem tmod_wrap {a b : Int} (ha : -9223372036854775808 ≤ a ∧ a ≤ 9223372036854775807) : IntKind.i64.wrap (a.tmod b) = a.tmod b := by
 have h1 : (a.tmod b).natAbs ≤ a.natAbs := by rw [Int.natAbs_tmod]; exact Nat.mod_le _ _
 rw [IntKind.wrap_i64]
 rcases Int.le_total 0 a with h | h
 ·have := Int.tmod_nonneg b h
  omega
 have h2 := Int.tmod_nonneg b (show 0 ≤ -a by omega)
 rw [Int.neg_tmod] at h2
 omega
theorem c147 (a b : Int) (ha : -9223372036854775808 ≤ a ∧ a ≤ 9223372036854775807) (Hp : List AObj) : AFun Tryz.prog 147 [intA a, intA b] Hp (.tup [intA (remI a b).1, intA (remI a b).2]) := by
 refine ACall.body [.tmp 4, .tmp 5] [0, 1] Tryz.func147 Tryz.ntmps147 (fun d => ?_)
 refine Z281 ?_;refine Z14 ?_;refine R.fin [0, 1, 6] ?_;refine Z380 ?_;refine R.fin [0, 1, 6, 7] ?_
 refine W.cond (fun ht7 => ?_) (fun ht7 => ?_)
 ·have hm : remI a b = (0, 5) := if_pos ht7
  refine Z251 ?_;exact Z358
 refine Z111 ?_;refine R.fin [0, 1, 9] ?_
 refine W.cond (fun ht9 => ?_) (fun ht9 => ?_)
 ·have hm : remI a b = (0, 0) := by unfold remI; rw [if_neg (by rw [ht7]; simp), if_pos ht9]
  refine Z251 ?_;exact Z358
 have hm : remI a b = (a.tmod b, 0) := by unfold remI; rw [if_neg (by rw [ht7]; simp), if_neg (by rw [ht9]; simp), tmod_wrap ha]
 refine Z30 ?_;refine Z44 ?_;refine R.rem (h0 := by simpa using ht7) ?_;exact Z225

theorem c166 (a : Int) (Hp : List AObj) : AFun Tryz.prog 166 [intA a] Hp (boolA false) := by
 refine ACall.body [.tmp 2] [0] Tryz.func166 Tryz.ntmps166 (fun d => ?_)
 refine Z101 ?_;refine Z44 ?_;refine R.neq ?_;exact Z381

theorem c167 (a : Int) (Hp : List AObj) : AFun Tryz.prog 167 [intA a] Hp (boolA false) := by
 refine ACall.body [.tmp 2] [0] Tryz.func167 Tryz.ntmps167 (fun d => ?_)
 refine Z101 ?_;refine Z44 ?_;refine R.neq ?_;exact Z381

theorem c141 (a b : Int) (Hp : List AObj) : AFun Tryz.prog 141 [intA a, intA b] Hp (intA (cmpI a b)) := by
 refine ACall.body [.tmp 4] [0, 1] Tryz.func141 Tryz.ntmps141 (fun d => ?_)
 refine Z140 ?_;refine Z0 ?_;refine R.call Tryz.call166 (c166 _ _) ?_;refine Z404 ?_;refine R.fin [0, 1, 5] ?_;refine Z0 ?_;refine R.call Tryz.call166 (c166 _ _) ?_;refine Z404 ?_;refine R.fin [0, 1, 5, 6] ?_;refine Z14 ?_;refine R.fin [0, 1, 6, 11] ?_
 refine W.cond (fun ht11 => ?_) (fun ht11 => ?_)
 ·cases ht11
 refine Z254 ?_;refine R.fin [0, 1, 13] ?_
 refine W.cond (fun ht13 => ?_) (fun ht13 => ?_)
 ·cases ht13
 refine Z2 ?_;refine Z80 ?_;refine R.lss ?_;refine R.fin [0, 1, 16] ?_
 refine W.cond (fun ht16 => ?_) (fun ht16 => ?_)
 ·have hm : cmpI a b = -1 := if_pos ht16
  exact Z282
 refine Z2 ?_;refine Z80 ?_;refine R.gtr ?_;refine R.fin [19] ?_
 refine W.cond (fun ht19 => ?_) (fun ht19 => ?_)
 ·have hm : cmpI a b = 1 := by unfold cmpI; rw [if_neg (by rw [ht16]; simp), if_pos ht19]
  exact Z282
 have hm : cmpI a b = 0 := by unfold cmpI; rw [if_neg (by rw [ht16]; simp), if_neg (by rw [ht19]; simp)]
 refine Z2 ?_;exact Z175

theorem c142 (a b : Int) (Hp : List AObj) : AFun Tryz.prog 142 [intA a, intA b] Hp (intA (cmpI a b)) := by
 refine ACall.body [.tmp 4] [0, 1] Tryz.func142 Tryz.ntmps142 (fun d => ?_)
 refine Z140 ?_;refine Z0 ?_;refine R.call Tryz.call167 (c167 _ _) ?_;refine Z404 ?_;refine R.fin [0, 1, 5] ?_;refine Z0 ?_;refine R.call Tryz.call167 (c167 _ _) ?_;refine Z404 ?_;refine R.fin [0, 1, 5, 6] ?_;refine Z14 ?_;refine R.fin [0, 1, 6, 11] ?_
 refine W.cond (fun ht11 => ?_) (fun ht11 => ?_)
 ·cases ht11
 refine Z254 ?_;refine R.fin [0, 1, 13] ?_
 refine W.cond (fun ht13 => ?_) (fun ht13 => ?_)
 ·cases ht13
 refine Z2 ?_;refine Z80 ?_;refine R.lss ?_;refine R.fin [0, 1, 16] ?_
 refine W.cond (fun ht16 => ?_) (fun ht16 => ?_)
 ·have hm : cmpI a b = -1 := if_pos ht16
  exact Z282
 refine Z2 ?_;refine Z80 ?_;refine R.gtr ?_;refine R.fin [19] ?_
 refine W.cond (fun ht19 => ?_) (fun ht19 => ?_)
 ·have hm : cmpI a b = 1 := by unfold cmpI; rw [if_neg (by rw [ht16]; simp), if_pos ht19]
  exact Z282
 have hm : cmpI a b = 0 := by unfold cmpI; rw [if_neg (by rw [ht16]; simp), if_neg (by rw [ht19]; simp)]
 refine Z2 ?_;exact Z175

theorem orI_step {l : List Int} {x : Nat} (h : x < l.length) (hx : orI l = orI (l.drop x)) : orI l = if l[x] != 0 then l[x] else orI (l.drop (x + 1)) := by rw [hx, List.drop_eq_getElem_cons h, orI]
theorem c140 (l : List Int) (hl : l.length ≤ 1048576) (Hp : List AObj) : AFun Tryz.prog 140 [intsA l] Hp (intA (orI l)) := by
 refine ACall.body [.tmp 2] [0] Tryz.func140 Tryz.ntmps140 (fun d => ?_)
 refine Z101 ?_;refine Z3 ?_;refine R.fin [0, 3] ?_;refine Z14 ?_;refine Z150 ?_;refine R.fin [3, 6, 7, 8] ?_
 refine AW.loopC (α := Nat) (fun x => ⟨18, setF 3 (intA 0) (setF 6 (intsA l) (setF 7 (intA (l.length : Nat)) (setF 8 (intA (x : Nat)) (fun _ => .any)))), Hp, [], [], none⟩) (fun x => x ≤ l.length ∧ orI l = orI (l.drop x)) (fun x => l.length - x) (0) ⟨Nat.zero_le _, rfl⟩ (StLe.of_eq (by simp)) rfl (fun x hx => ?_)
 refine Z166 ?_;refine R.fin [3, 6, 7, 8, 9] ?_
 refine W.condX (fun ht9 => ?_) (fun ht9 => ?_)
 ·have hlt : x < l.length := by simpa using ht9
  have hst := orI_step hlt hx.2
  refine Z279 ?_;refine R.indexAddr (x) (intA l[x]) jU jS (getMap hlt) ?_;refine Z402 ?_;refine Z404 ?_;refine R.fin [3, 5, 6, 7, 8] ?_;refine Z44 ?_;refine R.neq ?_;refine R.fin [3, 5, 6, 7, 8, 14] ?_
  refine W.cond (fun ht14 => ?_) (fun ht14 => ?_)
  ·have hm : orI l = l[x] := by rw [hst, if_pos ht14]
   refine Z0 ?_;refine Z78 ?_;exact Z371
  have hn : orI l = orI (l.drop (x + 1)) := by rw [hst, if_neg (by rw [ht14]; simp)]
  refine Z238 ?_;refine R.fin [3, 6, 7, 8] ?_;exact Z323
 have hxe : l.length ≤ x := by simpa using ht9
 have hm : orI l = 0 := by rw [hx.2, List.drop_of_length_le hxe]; rfl
 refine Z48 ?_;refine Z0 ?_;exact Z236

theorem c120 (a b : Val) (Hp : List AObj) : AFun Tryz.prog 120 [valA a, valA b] Hp (intA (cmpV a b)) := by
 refine ACall.body [.tmp 4] [0, 1] Tryz.func120 Tryz.ntmps120 (fun d => ?_)
 refine Z165 ?_;refine Z372 ?_;refine Z314 ?_;refine R.call Tryz.call34 (c34 a _) ?_;refine R.not ?_;refine Z405 ?_;refine G.loadRoN jA jS ?_;refine G.call Tryz.call34 (fun hB => c34 b _) ?_;refine Z221 ?_;refine R.fin [2, 3, 12] ?_
 refine W.cond (fun ht12 => ?_) (fun ht12 => ?_)
 ·have hm : cmpV a b = 0 := if_pos ht12
  exact Z282
 have hm : cmpV a b = orI [cmpI a.kind b.kind, cmpI a.n b.n, Lib.compareBytes a.s b.s] := if_neg (by rw [ht12]; simp)
 refine Z2 ?_;refine W.draw [0, 1, 0, 4, 15, 0, 32, 0, 128, 511, 0, 1024, 0, 4096, 16383, 32767, 65535, 131071] 14 Tryzmixed (by kernel_rfl) ?_;refine Z189 ?_;refine Z189 ?_;refine D.call Tryz.call141 (c141 _ _ _) ?_;refine Z104 ?_;refine Z104 ?_;refine D.call Tryz.call142 (c142 _ _ _) ?_;refine Z59 ?_;refine Z59 ?_;refine D.tail ?_;refine R.call Tryz.call143 (c143 _ _ _) ?_;refine Z422 ?_;refine R.call Tryz.call140 (c140 [cmpI a.kind b.kind, cmpI a.n b.n, Lib.compareBytes a.s b.s] (by simp) _) ?_;refine Z147 ?_;exact Z436

theorem c122 (t : Str) (a b : Int) (ha : -9223372036854775808 ≤ a ∧ a ≤ 9223372036854775807) (Hp : List AObj) : AFun Tryz.prog 122 [strA t, intA a, intA b] Hp (resA (wholeR (arithI t a b))) := by
 refine ACall.body [.cell 6 23, .tmp 7] [0, 1, 2] Tryz.func122 Tryz.ntmps122 (fun d => ?_)
 refine Z235 ?_;refine R.fin [0, 1, 2, 6] ?_;refine Z14 ?_;refine R.fin [1, 2, 6, 8] ?_;refine Z206 ?_;refine R.fin [1, 2, 6, 8, 9] ?_
 refine W.cond (fun ht9 => ?_) (fun ht9 => ?_)
 ·refine Z44 ?_;refine R.call Tryz.call144 (c144 _ _ _) ?_;refine Z136 ?_;refine Z273 ?_
  first | (by_cases e0 : arithI t a b = addI a b; exact K.fin (V.two (V.cellN Tryz.isAgg23 Tryz.sizeOf23) V.tmp) ⟨by rw [e0]; try rfl, rfl⟩; exfalso; refine e0 ?_; clear e0; simp_all [arithI]; done) | (by_cases e0 : arithI t a b = subI a b; exact K.fin (V.two (V.cellN Tryz.isAgg23 Tryz.sizeOf23) V.tmp) ⟨by rw [e0]; try rfl, rfl⟩; exfalso; refine e0 ?_; clear e0; simp_all [arithI]; done) | (by_cases e0 : arithI t a b = mulI a b; exact K.fin (V.two (V.cellN Tryz.isAgg23 Tryz.sizeOf23) V.tmp) ⟨by rw [e0]; try rfl, rfl⟩; exfalso; refine e0 ?_; clear e0; simp_all [arithI]; done) | (by_cases e0 : arithI t a b = divI a b; exact K.fin (V.two (V.cellN Tryz.isAgg23 Tryz.sizeOf23) V.tmp) ⟨by rw [e0]; try rfl, rfl⟩; exfalso; refine e0 ?_; clear e0; simp_all [arithI]; done) | (by_cases e0 : arithI t a b = remI a b; exact K.fin (V.two (V.cellN Tryz.isAgg23 Tryz.sizeOf23) V.tmp) ⟨by rw [e0]; try rfl, rfl⟩; exfalso; refine e0 ?_; clear e0; simp_all [arithI]; done)
 refine Z41 ?_;refine R.fin [1, 2, 6, 8, 19] ?_
 refine W.cond (fun ht19 => ?_) (fun ht19 => ?_)
 ·refine Z44 ?_;refine R.call Tryz.call124 (c124 _ _ _) ?_;refine Z136 ?_;refine Z273 ?_
  first | (by_cases e0 : arithI t a b = addI a b; exact K.fin (V.two (V.cellN Tryz.isAgg23 Tryz.sizeOf23) V.tmp) ⟨by rw [e0]; try rfl, rfl⟩; exfalso; refine e0 ?_; clear e0; simp_all [arithI]; done) | (by_cases e0 : arithI t a b = subI a b; exact K.fin (V.two (V.cellN Tryz.isAgg23 Tryz.sizeOf23) V.tmp) ⟨by rw [e0]; try rfl, rfl⟩; exfalso; refine e0 ?_; clear e0; simp_all [arithI]; done) | (by_cases e0 : arithI t a b = mulI a b; exact K.fin (V.two (V.cellN Tryz.isAgg23 Tryz.sizeOf23) V.tmp) ⟨by rw [e0]; try rfl, rfl⟩; exfalso; refine e0 ?_; clear e0; simp_all [arithI]; done) | (by_cases e0 : arithI t a b = divI a b; exact K.fin (V.two (V.cellN Tryz.isAgg23 Tryz.sizeOf23) V.tmp) ⟨by rw [e0]; try rfl, rfl⟩; exfalso; refine e0 ?_; clear e0; simp_all [arithI]; done) | (by_cases e0 : arithI t a b = remI a b; exact K.fin (V.two (V.cellN Tryz.isAgg23 Tryz.sizeOf23) V.tmp) ⟨by rw [e0]; try rfl, rfl⟩; exfalso; refine e0 ?_; clear e0; simp_all [arithI]; done)
 refine Z41 ?_;refine R.fin [1, 2, 6, 8, 29] ?_
 refine W.cond (fun ht29 => ?_) (fun ht29 => ?_)
 ·refine Z44 ?_;refine R.call Tryz.call145 (c145 _ _ _) ?_;refine Z136 ?_;refine Z273 ?_
  first | (by_cases e0 : arithI t a b = addI a b; exact K.fin (V.two (V.cellN Tryz.isAgg23 Tryz.sizeOf23) V.tmp) ⟨by rw [e0]; try rfl, rfl⟩; exfalso; refine e0 ?_; clear e0; simp_all [arithI]; done) | (by_cases e0 : arithI t a b = subI a b; exact K.fin (V.two (V.cellN Tryz.isAgg23 Tryz.sizeOf23) V.tmp) ⟨by rw [e0]; try rfl, rfl⟩; exfalso; refine e0 ?_; clear e0; simp_all [arithI]; done) | (by_cases e0 : arithI t a b = mulI a b; exact K.fin (V.two (V.cellN Tryz.isAgg23 Tryz.sizeOf23) V.tmp) ⟨by rw [e0]; try rfl, rfl⟩; exfalso; refine e0 ?_; clear e0; simp_all [arithI]; done) | (by_cases e0 : arithI t a b = divI a b; exact K.fin (V.two (V.cellN Tryz.isAgg23 Tryz.sizeOf23) V.tmp) ⟨by rw [e0]; try rfl, rfl⟩; exfalso; refine e0 ?_; clear e0; simp_all [arithI]; done) | (by_cases e0 : arithI t a b = remI a b; exact K.fin (V.two (V.cellN Tryz.isAgg23 Tryz.sizeOf23) V.tmp) ⟨by rw [e0]; try rfl, rfl⟩; exfalso; refine e0 ?_; clear e0; simp_all [arithI]; done)
 refine Z41 ?_;refine R.fin [1, 2, 6, 39] ?_
 refine W.cond (fun ht39 => ?_) (fun ht39 => ?_)
 ·refine Z44 ?_;refine R.call Tryz.call146 (c146 _ _ _) ?_;refine Z136 ?_;refine Z273 ?_
  first | (by_cases e0 : arithI t a b = addI a b; exact K.fin (V.two (V.cellN Tryz.isAgg23 Tryz.sizeOf23) V.tmp) ⟨by rw [e0]; try rfl, rfl⟩; exfalso; refine e0 ?_; clear e0; simp_all [arithI]; done) | (by_cases e0 : arithI t a b = subI a b; exact K.fin (V.two (V.cellN Tryz.isAgg23 Tryz.sizeOf23) V.tmp) ⟨by rw [e0]; try rfl, rfl⟩; exfalso; refine e0 ?_; clear e0; simp_all [arithI]; done) | (by_cases e0 : arithI t a b = mulI a b; exact K.fin (V.two (V.cellN Tryz.isAgg23 Tryz.sizeOf23) V.tmp) ⟨by rw [e0]; try rfl, rfl⟩; exfalso; refine e0 ?_; clear e0; simp_all [arithI]; done) | (by_cases e0 : arithI t a b = divI a b; exact K.fin (V.two (V.cellN Tryz.isAgg23 Tryz.sizeOf23) V.tmp) ⟨by rw [e0]; try rfl, rfl⟩; exfalso; refine e0 ?_; clear e0; simp_all [arithI]; done) | (by_cases e0 : arithI t a b = remI a b; exact K.fin (V.two (V.cellN Tryz.isAgg23 Tryz.sizeOf23) V.tmp) ⟨by rw [e0]; try rfl, rfl⟩; exfalso; refine e0 ?_; clear e0; simp_all [arithI]; done)
 refine Z30 ?_;refine Z44 ?_;refine R.call Tryz.call147 (c147 _ _ ha _) ?_;refine Z136 ?_;refine Z12 ?_;refine Z1 ?_;refine Z6 ?_
 first | (by_cases e0 : arithI t a b = addI a b; exact K.fin (V.two (V.cellN Tryz.isAgg23 Tryz.sizeOf23) V.tmp) ⟨by rw [e0]; try rfl, rfl⟩; exfalso; refine e0 ?_; clear e0; simp_all [arithI]; done) | (by_cases e0 : arithI t a b = subI a b; exact K.fin (V.two (V.cellN Tryz.isAgg23 Tryz.sizeOf23) V.tmp) ⟨by rw [e0]; try rfl, rfl⟩; exfalso; refine e0 ?_; clear e0; simp_all [arithI]; done) | (by_cases e0 : arithI t a b = mulI a b; exact K.fin (V.two (V.cellN Tryz.isAgg23 Tryz.sizeOf23) V.tmp) ⟨by rw [e0]; try rfl, rfl⟩; exfalso; refine e0 ?_; clear e0; simp_all [arithI]; done) | (by_cases e0 : arithI t a b = divI a b; exact K.fin (V.two (V.cellN Tryz.isAgg23 Tryz.sizeOf23) V.tmp) ⟨by rw [e0]; try rfl, rfl⟩; exfalso; refine e0 ?_; clear e0; simp_all [arithI]; done) | (by_cases e0 : arithI t a b = remI a b; exact K.fin (V.two (V.cellN Tryz.isAgg23 Tryz.sizeOf23) V.tmp) ⟨by rw [e0]; try rfl, rfl⟩; exfalso; refine e0 ?_; clear e0; simp_all [arithI]; done)

theorem c121 (a b : Val) (fa : Fine a) (fb : Fine b) (Hp : List AObj) : AFun Tryz.prog 121 [.slice false 3 [valA a, valA b]] Hp (resA (joinR a b)) := by
 refine ACall.body [.cell 2 23, .tmp 3] [0] Tryz.func121 Tryz.ntmps121 (fun d => ?_)
 refine Z235 ?_;refine R.fin [0, 2] ?_;refine Z180 ?_;refine R.buildSl jU jS jZ ?_;refine R.call Tryz.call102 (c102 [a, b] [2, 2] (by simp) (by simp) _) ?_;refine Z364 ?_;refine R.fin [0, 2, 4] ?_
 refine W.cond (fun ht4 => ?_) (fun ht4 => ?_)
 ·have hm : joinR a b = wrongR 10 := if_pos ht4
  refine Z187 ?_;refine Z118 ?_;exact Z19
 have hla := fa.len
 have hlb := fb.len
 refine W.draw [0, 1, 3, 7, 15, 0, 32, 96, 224, 480, 1023, 2047, 4095] 10 Tryzmixed (by kernel_rfl) ?_;refine Z65 ?_;refine Z59 ?_;refine D.slen jU ?_;refine Z66 ?_;refine Z59 ?_;refine D.slen jU ?_;refine D.tail ?_;refine R.add64 (h1 := by omega) (h2 := by omega) ?_;refine Z362 ?_;refine R.fin [0, 2, 12] ?_
 refine W.cond (fun ht12 => ?_) (fun ht12 => ?_)
 ·have hm : joinR a b = wrongR 3 := by unfold joinR; rw [if_neg (by rw [ht4]; simp), if_pos ht12]
  refine Z187 ?_;refine Z118 ?_;exact Z19
 have hm : joinR a b = (cutV (a.s ++ b.s), 0) := by unfold joinR; rw [if_neg (by rw [ht4]; simp), if_neg (by rw [ht12]; simp)]
 refine Z30 ?_;refine W.draw [0, 1, 3, 7, 0, 16, 48, 112, 255, 511, 1023, 2047] 8 Tryzmixed (by kernel_rfl) ?_;refine Z65 ?_;refine Z59 ?_;refine Z66 ?_;refine Z59 ?_;refine D.tail ?_;refine R.sadd (hl := by omega) ?_;refine R.call Tryz.call125 (c125 _ _) ?_;exact Z302

theorem c101 (t : Str) (a b : Val) (fa : Fine a) (fb : Fine b) (Hp : List AObj) : AFun Tryz.prog 101 [strA t, .slice false 3 [valA a, valA b]] Hp (resA (binM t a b)) := by
 refine ACall.body [.cell 4 23, .tmp 5] [0, 1] Tryz.func101 Tryz.ntmps101 (fun d => ?_)
 refine Z235 ?_;refine R.fin [0, 1, 4] ?_;refine W.seq ?_;refine W.draw [0, 0, 2, 6, 0, 16, 48, 126, 255, 511, 1023, 1023, 2047, 8191] 13 Tryzmixed (by kernel_rfl) ?_;refine Z415 ?_;refine Z65 ?_;refine Z437 ?_;refine Z66 ?_;refine Z437 ?_;refine D.call Tryz.call120 (c120 _ _ _) ?_;refine D.call Tryz.call119 (c119 _ _ _) ?_;refine Z415 ?_;refine Z108 ?_;refine Z290 ?_;refine Z404 ?_;refine R.fin [0, 1, 4, 6, 7] ?_;refine Z0 ?_;refine R.fin [0, 1, 4, 6, 20] ?_
 refine W.cond (fun ht20 => ?_) (fun ht20 => ?_)
 ·refine W.seq ?_;refine W.draw [0, 1, 3, 7, 0, 16, 48, 112, 255] 8 Tryzmixed (by kernel_rfl) ?_;refine Z65 ?_;refine Z189 ?_;refine Z66 ?_;refine Z189 ?_;refine D.tail ?_;refine R.neq ?_;refine R.fin [4, 6, 29] ?_
  refine W.cond (fun ht29 => ?_) (fun ht29 => ?_)
  ·have hm : binM t a b = wrongR 10 := by unfold binM; rw [if_pos ht20, if_pos ht29]
   refine Z187 ?_;refine Z62 ?_;refine K.thR ?_;exact Z45
  have hm : binM t a b = (boolV (comparedM t (cmpV a b)).1, 0) := by unfold binM; rw [if_pos ht20, if_neg (by rw [ht29]; simp)]
  refine Z149 ?_;refine R.call Tryz.call30 (c30 _ _) ?_;exact Z291
 refine Z254 ?_;refine R.seql ?_;refine R.fin [0, 1, 4, 36] ?_
 refine W.cond (fun ht36 => ?_) (fun ht36 => ?_)
 ·have hm : binM t a b = joinR a b := by unfold binM; rw [if_neg (by rw [ht20]; simp), if_pos ht36]
  refine Z0 ?_;refine R.call Tryz.call121 (c121 a b fa fb _) ?_;refine Z12 ?_;exact Z291
 refine Z254 ?_;refine R.buildSl jU jS jZ ?_;refine R.call Tryz.call102 (c102 [a, b] [1, 1] (by simp) (by simp) _) ?_;refine R.not ?_;refine R.fin [0, 1, 4, 44] ?_
 refine W.cond (fun ht44 => ?_) (fun ht44 => ?_)
 ·have hm : binM t a b = wrongR 10 := by unfold binM; rw [if_neg (by rw [ht20]; simp), if_neg (by rw [ht36]; simp), if_pos ht44]
  refine Z187 ?_;exact Z291
 have hm : binM t a b = wholeR (arithI t a.n b.n) := by unfold binM; rw [if_neg (by rw [ht20]; simp), if_neg (by rw [ht36]; simp), if_neg (by rw [ht44]; simp)]
 refine Z2 ?_;refine W.draw [0, 0, 2, 6, 14, 0, 32, 96, 224, 511, 1023, 1023, 4095, 8191] 12 Tryzmixed (by kernel_rfl) ?_;refine Z415 ?_;refine Z65 ?_;refine Z104 ?_;refine Z66 ?_;refine Z104 ?_;refine D.call Tryz.call122 (c122 _ _ _ ⟨fa.lo, fa.hi⟩ _) ?_;refine Z227 ?_;exact Z75

theorem pieceK (s : Str) (n : Int) : ∃ k : Nat, (if (0 : Int) < (if (s.length : Int) < n then (s.length : Int) else n) then (if (s.length : Int) < n then (s.length : Int) else n) else 0) = (k : Int) ∧ k ≤ s.length ∧ k = (max 0 (min n s.length)).toNat := by
 refine ⟨(max 0 (min n s.length)).toNat, ?_, ?_, rfl⟩ <;> repeat' split
 all_goals omega
theorem c106 (t s : Str) (n : Int) (hs : s.length ≤ 1048576) (Hp : List AObj) : AFun Tryz.prog 106 [strA t, strA s, intA n] Hp (valA (pieceM t s n)) := by
 refine ACall.body [.cell 6 23] [0, 1, 2] Tryz.func106 Tryz.ntmps106 (fun d => ?_)
 refine Z363 ?_;refine Z44 ?_;refine Z397 ?_;refine R.minI ?_;refine R.maxI ?_
 obtain ⟨k, hk, hks, hke⟩ := pieceK s n
 simp only [hk]
 refine Z404 ?_;refine R.fin [0, 1, 6, 7] ?_;refine Z14 ?_;refine R.seql ?_;refine R.fin [1, 6, 7, 14] ?_
 refine W.cond (fun ht14 => ?_) (fun ht14 => ?_)
 ·have hm : pieceM t s n = cutV (s.take k) := by unfold pieceM; rw [if_pos ht14, ← hke]
  refine Z44 ?_;refine R.scutH k jU (Nat.zero_le _) hks ?_;refine R.call Tryz.call125 (c125 _ _) ?_;refine Z214 ?_;refine K.thR ?_;exact Z438
 have hm : pieceM t s n = cutV (s.drop (s.length - k)) := by unfold pieceM; rw [if_neg (by rw [ht14]; simp), ← hke]
 refine Z326 ?_;refine Z121 ?_;refine R.sub64 (h1 := by omega) (h2 := by omega) ?_;refine R.scutL (s.length - k) jU (show s.length - k ≤ s.length by omega) (Nat.le_refl _) ?_;refine R.call Tryz.call125 (c125 _ _) ?_;refine Z214 ?_;exact Z438

theorem c105 (t : Str) (v : Val) (h : Fine v) (Hp : List AObj) : AFun Tryz.prog 105 [strA t, valA v] Hp (resA (fun1M t v)) := by
 have hlen := h.len
 refine ACall.body [.cell 4 23, .tmp 5] [0, 1] Tryz.func105 Tryz.ntmps105 (fun d => ?_)
 refine Z283 ?_;refine R.fin [0, 3, 4] ?_;refine Z180 ?_;refine Z313 ?_;refine Z105 ?_;refine Z94 ?_;refine R.fin [0, 3, 4, 6] ?_
 refine W.cond (fun ht6 => ?_) (fun ht6 => ?_)
 ·have hm : fun1M t v = (cutV (Lib.itoa v.n), 0) := if_pos ht6
  refine Z396 ?_;refine Z67 ?_;refine R.call Tryz.call126 (c126 _ h.lo h.hi _) ?_;refine R.call Tryz.call125 (c125 _ _) ?_;exact Z125
 refine Z0 ?_;refine Z313 ?_;refine Z105 ?_;refine Z94 ?_;refine R.fin [0, 3, 4, 18] ?_
 refine W.cond (fun ht18 => ?_) (fun ht18 => ?_)
 ·have hm : fun1M t v = (⟨1, v.s.length, []⟩, 0) := by unfold fun1M; rw [if_neg (by rw [ht6]; simp), if_pos ht18]
  refine Z396 ?_;refine Z58 ?_;refine Z397 ?_;refine R.call Tryz.call123 (c123 _ _) ?_;exact Z125
 refine Z0 ?_;refine Z313 ?_;refine Z105 ?_;refine Z94 ?_;refine R.fin [3, 4, 30] ?_
 refine W.cond (fun ht30 => ?_) (fun ht30 => ?_)
 ·have hm : fun1M t v = wholeR (numReadM v.s) := by unfold fun1M; rw [if_neg (by rw [ht6]; simp), if_neg (by rw [ht18]; simp), if_pos ht30]
  refine Z396 ?_;refine Z58 ?_;refine R.call Tryz.call127 (c127 v.s (by omega) _) ?_;refine Z136 ?_;exact Z367
 have hm : fun1M t v = wrongR 10 := by unfold fun1M; rw [if_neg (by rw [ht6]; simp), if_neg (by rw [ht18]; simp), if_neg (by rw [ht30]; simp)]
 refine Z30 ?_;refine Z187 ?_;exact Z75

theorem getV {vs : List Val} (h : 0 < vs.length) : vs.getD 0 noV = vs[0] := by rw [List.getD_eq_getElem?_getD, List.getElem?_eq_getElem h]; rfl
/-- As many values as a node asks for. -/
structure ArgsOk (o : Int) (vs : List Val) : Prop where
 two : o = 5 → ∃ a b, vs = [a, b]
 one : o = 3 ∨ o = 4 → vs.length = 1
 call : o = 6 → vs.length = 1 ∨ ∃ a b, vs = [a, b]
 fine : ∀ v ∈ vs, Fine v
theorem c81 (e : Expr) (vs : List Val) (h : ArgsOk e.op vs) (Hp : List AObj) : AFun Tryz.prog 81 [exprA e, valsA vs] Hp (resA (strictM e.op e.text vs)) := by
 refine ACall.body [.cell 4 23, .tmp 5] [0, 1] Tryz.func81 Tryz.ntmps81 (fun d => ?_)
 refine Z283 ?_;refine R.fin [1, 2, 4] ?_;refine Z33 ?_;refine Z249 ?_;refine R.fin [1, 2, 4, 6] ?_
 refine W.cond (fun ht6 => ?_) (fun ht6 => ?_)
 ·obtain ⟨a, b, rfl⟩ := h.two (by simpa using ht6)
  have hm : strictM e.op e.text [a, b] = binM e.text a b := if_pos ht6
  refine Z171 ?_;refine Z405 ?_;refine R.call Tryz.call101 (c101 e.text a b (h.fine a (by simp)) (h.fine b (by simp)) _) ?_;exact Z367
 refine Z109 ?_;refine Z181 ?_;refine G.buildSl jU jS jZ ?_
 refine G.call Tryz.call102 (C := ((e.op == 3) == true)) (fun hB => c102 vs [1] (by have := h.one (.inl (by simpa using hB)); simp [this]) (by simp) _) ?_
 refine Z32 ?_;refine R.fin [1, 2, 4, 16] ?_
 refine W.cond (fun ht16 => ?_) (fun ht16 => ?_)
 ·have hm0 : ((e.op == 3) && kindsM vs [1]) = true := ht16
  have hop : e.op = 3 := by simp only [Bool.and_eq_true, beq_iff_eq] at hm0; exact hm0.1
  have hln := h.one (.inl hop)
  have hg0 : (vs.map valA)[0]? = some (valA (vs.getD 0 noV)) := by rw [getV (by omega)]; exact getMap (by omega)
  have hm : strictM e.op e.text vs = wholeR (subI 0 (vs.getD 0 noV).n) := by unfold strictM; rw [if_neg (by rw [ht6]; simp), if_pos ht16]
  refine Z0 ?_;refine R.indexAddr (0) (valA (vs.getD 0 noV)) jU jS hg0 ?_;refine Z67 ?_;refine R.call Tryz.call104 (c104 _ _) ?_;refine Z136 ?_;exact Z367
 refine Z109 ?_;refine Z181 ?_;refine G.buildSl jU jS jZ ?_
 refine G.call Tryz.call102 (C := ((e.op == 4) == true)) (fun hB => c102 vs [3] (by have := h.one (.inr (by simpa using hB)); simp [this]) (by simp) _) ?_
 refine Z32 ?_;refine R.fin [1, 2, 4, 35] ?_
 refine W.cond (fun ht35 => ?_) (fun ht35 => ?_)
 ·have hm0 : ((e.op == 4) && kindsM vs [3]) = true := ht35
  have hop : e.op = 4 := by simp only [Bool.and_eq_true, beq_iff_eq] at hm0; exact hm0.1
  have hln := h.one (.inr hop)
  have hg0 : (vs.map valA)[0]? = some (valA (vs.getD 0 noV)) := by rw [getV (by omega)]; exact getMap (by omega)
  have hm : strictM e.op e.text vs = (boolV ((vs.getD 0 noV).n == 0), 0) := by unfold strictM; rw [if_neg (by rw [ht6]; simp), if_neg (by rw [ht16]; simp), if_pos ht35]
  refine Z0 ?_;refine R.indexAddr (0) (valA (vs.getD 0 noV)) jU jS hg0 ?_;refine Z67 ?_;refine R.eql ?_;exact Z392
 refine Z109 ?_;refine R.neq ?_;refine Z404 ?_;refine R.fin [1, 2, 4, 50] ?_
 refine W.cond (fun ht50 => ?_) (fun ht50 => ?_)
 ·have hm : strictM e.op e.text vs = wrongR 10 := by unfold strictM; rw [if_neg (by rw [ht6]; simp), if_neg (by rw [ht16]; simp), if_neg (by rw [ht35]; simp), if_pos ht50]
  refine Z187 ?_;exact Z125
 have hop : e.op = 6 := by simpa using ht50
 have hcl := h.call hop
 refine Z0 ?_;refine R.len jU ?_;refine Z43 ?_;refine R.fin [1, 2, 4, 57] ?_
 refine W.cond (fun ht57 => ?_) (fun ht57 => ?_)
 ·rw [List.length_map] at ht57
  have hln : vs.length = 1 := by have := ht57; simp only [beq_iff_eq] at this; omega
  have hg0 : (vs.map valA)[0]? = some (valA (vs.getD 0 noV)) := by rw [getV (by omega)]; exact getMap (by omega)
  have hf0 : Fine (vs.getD 0 noV) := by rw [getV (by omega)]; exact h.fine _ (List.getElem_mem _)
  have hm : strictM e.op e.text vs = fun1M e.text (vs.getD 0 noV) := by unfold strictM; rw [if_neg (by rw [ht6]; simp), if_neg (by rw [ht16]; simp), if_neg (by rw [ht35]; simp), if_neg (by rw [ht50]; simp), if_pos ht57]
  refine W.draw [0, 1, 0, 4, 12, 31, 63, 63, 255, 511] 8 Tryzmixed (by kernel_rfl) ?_;refine D.fieldAddrRo (off := 1) jU Tryz.sizeOf9 ?_;refine D.loadRo jA ?_;refine Z415 ?_;refine D.indexAddr (0) (valA (vs.getD 0 noV)) jU jS hg0 ?_;refine Z437 ?_;refine D.call Tryz.call105 (c105 _ _ hf0 _) ?_;refine Z227 ?_;exact Z125
 rw [List.length_map] at ht57
 obtain ⟨a, b, rfl⟩ : ∃ a b, vs = [a, b] := by
  rcases hcl with h1 | h1
  ·exfalso
   have := ht57
   rw [h1] at this
   simp at this
  exact h1
 refine Z0 ?_;refine R.buildSl jU jS jZ ?_;refine R.call Tryz.call102 (c102 [a, b] [2, 1] (by simp) (by simp) _) ?_;refine Z364 ?_;refine R.fin [1, 2, 4, 69] ?_
 refine W.cond (fun ht69 => ?_) (fun ht69 => ?_)
 ·have hm : strictM e.op e.text [a, b] = wrongR 10 := by unfold strictM; rw [if_neg (by rw [ht6]; simp), if_neg (by rw [ht16]; simp), if_neg (by rw [ht35]; simp), if_neg (by rw [ht50]; simp), if_neg (by rw [ht57]; simp), if_pos ht69]
  refine Z187 ?_;exact Z125
 have hm : strictM e.op e.text [a, b] = (pieceM e.text a.s b.n, 0) := by unfold strictM; rw [if_neg (by rw [ht6]; simp), if_neg (by rw [ht16]; simp), if_neg (by rw [ht35]; simp), if_neg (by rw [ht50]; simp), if_neg (by rw [ht57]; simp), if_neg (by rw [ht69]; simp)]; rfl
 refine Z30 ?_;refine W.draw [0, 1, 0, 4, 12, 28, 0, 64, 192, 448, 1023, 2047, 4095] 10 Tryzmixed (by kernel_rfl) ?_;refine D.fieldAddrRo (off := 1) jU Tryz.sizeOf9 ?_;refine D.loadRo jA ?_;refine Z65 ?_;refine Z59 ?_;refine Z66 ?_;refine Z104 ?_;refine D.tail ?_
 refine R.call Tryz.call106 (c106 e.text a.s b.n (by have := (h.fine a (by simp)).len; omega) _) ?_
 exact Z75

theorem val_beq (a b : Val) : ((a.kind == b.kind && a.n == b.n) && a.s == b.s) = (a == b) := by
 obtain ⟨k, n, s⟩ := a
 obtain ⟨k', n', s'⟩ := b
 by_cases h : (⟨k, n, s⟩ : Val) = ⟨k', n', s'⟩
 ·injection h with h1 h2 h3
  subst h1; subst h2; subst h3
  simp
 have : ((⟨k, n, s⟩ : Val) == ⟨k', n', s'⟩) = false := by simpa using h
 rw [this]
 simp only [Bool.and_eq_false_iff, beq_eq_false_iff_ne]
 by_cases h1 : k = k'
 ·by_cases h2 : n = n'
  ·right
   rintro rfl
   exact h (by rw [h1, h2])
  exact .inl (.inr h2)
 exact .inl (.inl h1)
/-- What eval answers for a tree, over any heap. -/
abbrev EvalsTo (c : List Col) (l : List Val) (e : Expr) (r : Rs) : Prop := ∀ Hp, AFun Tryz.prog 29 [scopeA c l, exprA e] Hp (resA r)
theorem c80 (c : List Col) (l : List Val) (x : Expr) (r : Rs) (h : EvalsTo c l x r) (Hp : List AObj) : AFun Tryz.prog 80 [scopeA c l, exprA x] Hp (resA (truthR r)) := by
 refine ACall.body [.cell 4 23, .tmp 5] [0, 1] Tryz.func80 Tryz.ntmps80 (fun d => ?_)
 refine Z165 ?_;refine Z382 ?_;refine Z300 ?_;refine R.call Tryz.call29 (h _) ?_;refine Z112 ?_;refine R.fin [4, 6, 7] ?_;refine Z14 ?_;refine Z82 ?_;refine Z35 ?_;refine G.neq ?_;refine Z95 ?_;refine Z35 ?_;refine G.neq ?_;refine Z398 ?_;refine R.fin [4, 6, 7, 25] ?_
 refine W.cond (fun ht25 => ?_) (fun ht25 => ?_)
 ·have hm : truthR r = wrongR 10 := if_pos ht25
  refine Z187 ?_;exact Z291
 have hm : truthR r = r := if_neg (by rw [ht25]; simp)
 refine Z154 ?_;refine Z405 ?_;exact Z75

theorem c54 (c : List Col) (l : List Val) (x k0 k1 : Expr) (s : Val) (ra rb : Rs) (h0 : (x.kids.map exprA)[0]? = some (exprA k0)) (h1 : (x.kids.map exprA)[1]? = some (exprA k1)) (ha : EvalsTo c l k0 ra) (hb : EvalsTo c l k1 rb) (Hp : List AObj) : AFun Tryz.prog 54 [scopeA c l, exprA x, valA s] Hp (resA (logicR s ra rb)) := by
 refine ACall.body [.cell 6 23, .tmp 7] [0, 1, 2] Tryz.func54 Tryz.ntmps54 (fun d => ?_)
 refine Z165 ?_;refine R.boxRo ?_;refine Z92 ?_;refine R.fin [3, 4, 5, 6] ?_;refine W.drawY [0, 0, 2, 6, 14, 31, 63, 127, 127, 0, 767, 2047] [9, 10] [.q 9 [] [], .s [8] (some 0) [] [1], .s [] (some 1) [0] []] (fun _ => Hp) (fun B => if B 0 = true then [.cells 23 [intA 0, intA 0, strA []], (if B 1 = true then .cells 23 [intA (truthR ra).1.kind, intA (truthR ra).1.n, strA (truthR ra).1.s] else .cells 23 [intA 0, intA 0, strA []] : AObj)] else [.cells 23 [intA 0, intA 0, strA []]]) Tryzmixed (by kernel_rfl) rfl rfl (fun _ => rfl) ?_
 apply Y.q
 case h1 =>
  intro B hT hF
  refine Z168 ?_;refine Z256 ?_;exact Z360
 case hTF => decide
 refine Z84 ?_;refine Z203 ?_;refine R.fin [3, 4, 5, 6, 8, 9] ?_;refine Z98 ?_;refine Z267 ?_;refine G.loadRoN jA jS ?_;refine G.eqlAgg eg23 (fun w => equal23 (truthR ra).1.kind (truthR ra).1.n s.kind s.n (truthR ra).1.s s.s w) ?_;refine R.pickOr ?_;refine R.fin [3, 4, 5, 6, 8, 9, 26] ?_
 refine W.cond (fun ht26 => ?_) (fun ht26 => ?_)
 ·rw [val_beq] at ht26
  have hm : logicR s ra rb = truthR ra := if_pos ht26
  refine Z178 ?_;exact Z179
 rw [val_beq] at ht26
 refine Z2 ?_;refine W.drawY [0, 0, 2, 6, 14, 31, 63, 127, 127, 0, 767, 2047] [9, 10] [.q 9 [] [], .s [10] (some 0) [] [1], .s [] (some 1) [0] []] (fun _ => Hp) (fun B => if B 0 = true then [.cells 23 [intA 0, intA 0, strA []], .cells 23 [intA (truthR ra).1.kind, intA (truthR ra).1.n, strA (truthR ra).1.s], (if B 1 = true then .cells 23 [intA (truthR rb).1.kind, intA (truthR rb).1.n, strA (truthR rb).1.s] else .cells 23 [intA 0, intA 0, strA []] : AObj)] else [.cells 23 [intA 0, intA 0, strA []], .cells 23 [intA (truthR ra).1.kind, intA (truthR ra).1.n, strA (truthR ra).1.s]]) Tryzmixed (by kernel_rfl) rfl rfl (fun _ => rfl) ?_
 apply Y.q
 case h1 =>
  intro B hT hF
  refine Z168 ?_;refine D.indexAddr (1) (exprA k1) jU jS h1 ?_;refine Z437 ?_;refine D.call Tryz.call80 (c80 c l k1 rb hb _) ?_;exact Z331
 case hTF => decide
 refine Y.alloc (zs := [intA 0, intA 0, strA []]) (n := 2) (u := Hp.length) Tryz.zeroValue23 (fun B hT hF hB => ⟨rfl, by simp [hB], by simp [upd, hB, hF 1 (by simp)], rfl⟩) ?_;refine Y.storeOwnT (u := Hp.length) (n := 2) (t' := 23) (cs := [intA 0, intA 0, strA []]) (cs' := [intA (truthR rb).1.kind, intA (truthR rb).1.n, strA (truthR rb).1.s]) Tryz.sizeOf23 (fun B hT hF hB => ⟨rfl, by simp [hT 0 (by simp), hB], by simp [upd, hT 0 (by simp), hB], rfl⟩) ?_;refine Y.tail (tn := [9, 10]) (O := [.cells 23 [intA 0, intA 0, strA []], .cells 23 [intA (truthR ra).1.kind, intA (truthR ra).1.n, strA (truthR ra).1.s], .cells 23 [intA (truthR rb).1.kind, intA (truthR rb).1.n, strA (truthR rb).1.s]]) ?_;refine Z404 ?_;refine R.fin [5, 6, 8, 9, 10] ?_;refine Z98 ?_;refine Z267 ?_;refine G.loadRoN jA jS ?_
 refine G.eqlAgg eg23 (fun w => equal23 (truthR rb).1.kind (truthR rb).1.n s.kind s.n (truthR rb).1.s s.s w) ?_;refine R.pickOr ?_;refine Z405 ?_;refine Z35 ?_;refine Z172 ?_;refine R.fin [6, 8, 9, 10, 49] ?_
 refine W.cond (fun ht49 => ?_) (fun ht49 => ?_)
 ·rw [val_beq] at ht49
  have hm : logicR s ra rb = truthR rb := by unfold logicR; rw [if_neg (by rw [ht26]; simp), if_pos ht49]
  refine Z178 ?_;exact Z179
 rw [val_beq] at ht49
 have hm : logicR s ra rb = ((truthR ra).1, 0) := by unfold logicR; rw [if_neg (by rw [ht26]; simp), if_neg (by rw [ht49]; simp)]
 refine Z154 ?_;refine Z1 ?_;exact Z305

theorem c55 (c : List Col) (l : List Val) (x k0 k1 k2 : Expr) (ra rb d2 : Rs) (h0 : (x.kids.map exprA)[0]? = some (exprA k0)) (h1 : (x.text == isnullW) = false → (x.kids.map exprA)[1]? = some (exprA k1)) (h2 : (x.text == ifW) = true → (x.kids.map exprA)[2]? = some (exprA k2)) (ha : EvalsTo c l k0 ra) (hb : (x.text == isnullW) = false → EvalsTo c l k1 rb) (hd : (x.text == ifW) = true → EvalsTo c l k2 d2) (Hp : List AObj) : AFun Tryz.prog 55 [scopeA c l, exprA x] Hp (resA (callR x.text ra rb d2)) := by
  refine ACall.body [.cell 4 23, .tmp 5] [0, 1] Tryz.func55 Tryz.ntmps55 (fun d => ?_)
  refine Z165 ?_;refine Z382 ?_;refine Z11 ?_;refine Z119 ?_;refine R.fin [2, 3, 4, 12] ?_
  refine W.cond (fun ht12 => ?_) (fun ht12 => ?_)
  · have hni : (x.text == isnullW) = false := by have e : x.text = ifW := by simpa [ifW] using ht12
                                                 rw [e]; rfl
    have hc : callR x.text ra rb d2 = (if (truthR ra).2 != 0 then wrongR (truthR ra).2 else if (truthR ra).1 == boolV true then rb else d2) := if_pos ht12
    refine W.drawY [0, 0, 2, 6, 14, 31, 63, 127, 127, 0, 767, 2047] [9, 10] [.q 9 [] [], .s [6] (some 0) [] [1], .s [] (some 1) [0] []] (fun _ => Hp) (fun B => if B 0 = true then [.cells 23 [intA 0, intA 0, strA []], (if B 1 = true then .cells 23 [intA (truthR ra).1.kind, intA (truthR ra).1.n, strA (truthR ra).1.s] else .cells 23 [intA 0, intA 0, strA []] : AObj)] else [.cells 23 [intA 0, intA 0, strA []]]) Tryzmixed (by kernel_rfl) rfl rfl (fun _ => rfl) ?_
    apply Y.q
    case h1 =>
      intro B hT hF
      refine Z168 ?_;refine Z256 ?_;exact Z360
    case hTF => decide
    refine Z84 ?_;refine Z203 ?_;refine R.fin [2, 3, 4, 6, 7] ?_;refine Z180 ?_;refine R.neq ?_;refine Z404 ?_;refine R.fin [2, 3, 4, 6, 7, 22] ?_
    refine W.cond (fun ht22 => ?_) (fun ht22 => ?_)
    · have hm : callR x.text ra rb d2 = wrongR (truthR ra).2 := by rw [hc, if_pos ht22]
      refine Z0 ?_;refine Z68 ?_;refine Z62 ?_;refine Z5 ?_;exact Z45
    refine Z159 ?_;refine D.call Tryz.call30 (c30 true _) ?_;refine D.tail ?_;refine R.eqlAgg eg23 (fun w => equal23 (truthR ra).1.kind (truthR ra).1.n 3 1 (truthR ra).1.s [] w) ?_;refine Z404 ?_;refine R.fin [2, 3, 4, 29] ?_
    refine W.cond (fun ht29 => ?_) (fun ht29 => ?_)
    · rw [val_beq (truthR ra).1 ⟨3, 1, []⟩] at ht29
      have ht29b : ((truthR ra).1 == boolV true) = true := ht29
      have hm : callR x.text ra rb d2 = rb := by rw [hc, if_neg (by rw [ht22]; simp), if_pos ht29b]
      refine Z190 ?_;refine D.indexAddr (1) (exprA k1) jU jS (h1 hni) ?_;refine Z437 ?_;refine D.call Tryz.call29 (hb hni _) ?_;refine Z227 ?_;refine Z62 ?_;refine Z5 ?_;exact Z45
    rw [val_beq (truthR ra).1 ⟨3, 1, []⟩] at ht29
    have hm : callR x.text ra rb d2 = d2 := by rw [hc, if_neg (by rw [ht22]; simp), if_neg (by show ¬ ((truthR ra).1 == ⟨3, 1, []⟩) = true; rw [ht29]; simp)]
    refine Z30 ?_;refine Z190 ?_;refine D.indexAddr (2) (exprA k2) jU jS (h2 ht12) ?_;refine Z437 ?_;refine D.call Tryz.call29 (hd ht12 _) ?_;refine Z227 ?_;exact Z291
  have hc : callR x.text ra rb d2 = (if ra.2 != 0 then wrongR ra.2 else if x.text == isnullW then (boolV (ra.1.kind == 0), 0) else if ra.1.kind != 0 then (ra.1, 0) else rb) := if_neg (by show ¬ (x.text == ifW) = true; rw [show (x.text == ifW) = false from ht12]; simp)
  refine Z2 ?_;refine W.drawY [0, 0, 2, 6, 14, 31, 63, 127, 127, 0, 767, 2047] [9, 10] [.q 9 [] [], .s [8] (some 0) [] [1], .s [] (some 1) [0] []] (fun _ => Hp) (fun B => if B 0 = true then [.cells 23 [intA 0, intA 0, strA []], (if B 1 = true then .cells 23 [intA ra.1.kind, intA ra.1.n, strA ra.1.s] else .cells 23 [intA 0, intA 0, strA []] : AObj)] else [.cells 23 [intA 0, intA 0, strA []]]) Tryzmixed (by kernel_rfl) rfl rfl (fun _ => rfl) ?_
  apply Y.q
  case h1 =>
    intro B hT hF
    refine Z168 ?_;refine Z256 ?_;refine D.call Tryz.call29 (ha _) ?_;exact Z331
  case hTF => decide
  refine Z439 ?_;refine Y.storeOwnT (u := Hp.length) (n := 1) (t' := 23) (cs := [intA 0, intA 0, strA []]) (cs' := [intA ra.1.kind, intA ra.1.n, strA ra.1.s]) Tryz.sizeOf23 (fun B hT hF hB => ⟨rfl, by simp [hT 0 (by simp), hB], by simp [upd, hT 0 (by simp), hB], rfl⟩) ?_;refine Y.tail (tn := [9, 10]) (O := [.cells 23 [intA 0, intA 0, strA []], .cells 23 [intA ra.1.kind, intA ra.1.n, strA ra.1.s]]) ?_;refine Z404 ?_;refine R.fin [2, 3, 4, 8, 9] ?_;refine Z180 ?_;refine R.neq ?_;refine Z404 ?_;refine R.fin [2, 3, 4, 8, 9, 58] ?_
  refine W.cond (fun ht58 => ?_) (fun ht58 => ?_)
  · have hm : callR x.text ra rb d2 = wrongR ra.2 := by rw [hc, if_pos ht58]
    refine Z0 ?_;refine Z68 ?_;exact Z125
  refine Z171 ?_;refine Z25 ?_;refine R.fin [2, 3, 4, 8, 65] ?_
  refine W.cond (fun ht65 => ?_) (fun ht65 => ?_)
  · have hm : callR x.text ra rb d2 = (boolV (ra.1.kind == 0), 0) := by rw [hc, if_neg (by rw [ht58]; simp), if_pos (show (x.text == isnullW) = true from ht65)]
    refine Z280 ?_;refine R.eql ?_;exact Z392
  refine Z396 ?_;refine Z85 ?_;refine Z404 ?_;refine R.fin [2, 3, 4, 8, 73] ?_
  refine W.cond (fun ht73 => ?_) (fun ht73 => ?_)
  · have hm : callR x.text ra rb d2 = (ra.1, 0) := by rw [hc, if_neg (by rw [ht58]; simp), if_neg (by show ¬ (x.text == isnullW) = true; rw [show (x.text == isnullW) = false from ht65]; simp), if_pos ht73]
    refine Z7 ?_;exact Z125
  have hm : callR x.text ra rb d2 = rb := by rw [hc, if_neg (by rw [ht58]; simp), if_neg (by show ¬ (x.text == isnullW) = true; rw [show (x.text == isnullW) = false from ht65]; simp), if_neg (by rw [ht73]; simp)]
  refine Z30 ?_;refine Z190 ?_;refine D.indexAddr (1) (exprA k1) jU jS (h1 ht65) ?_;refine Z437 ?_;refine D.call Tryz.call29 (hb ht65 _) ?_;refine Z227 ?_;exact Z75

abbrev signA (s : Sign) : AV := .agg [.slice false 1 (s.kids.map intA), intA s.own]
structure FitAt (s : Sign) (ks : List Int) (x : Nat × Int) : Prop where
 le : x.1 ≤ ks.length
 eq : fitK s.kids ks 0 = fitK (s.kids.drop x.1) (ks.drop x.1) x.2
theorem FitAt.step {s : Sign} {ks : List Int} {x : Nat × Int} (h : FitAt s ks x) (hk : x.1 < ks.length) (hs : x.1 < s.kids.length) : fitK s.kids ks 0 = (if s.kids[x.1] == -2 then fitK (s.kids.drop (x.1 + 1)) (ks.drop (x.1 + 1)) x.2 else if s.kids[x.1] == -1 then (if (meetM x.2 ks[x.1]).2 then fitK (s.kids.drop (x.1 + 1)) (ks.drop (x.1 + 1)) (meetM x.2 ks[x.1]).1 else none) else if (meetM s.kids[x.1] ks[x.1]).2 then fitK (s.kids.drop (x.1 + 1)) (ks.drop (x.1 + 1)) x.2 else none) := by
 rw [h.eq, List.drop_eq_getElem_cons hk, List.drop_eq_getElem_cons hs, fitK]
theorem FitAt.skip {s : Sign} {ks : List Int} {x : Nat × Int} (h : FitAt s ks x) (hk : x.1 < ks.length) (hs : x.1 < s.kids.length) (h2 : (s.kids[x.1] == -2) = true) : FitAt s ks (x.1 + 1, x.2) := ⟨hk, by rw [h.step hk hs, if_pos h2]⟩
theorem FitAt.same {s : Sign} {ks : List Int} {x : Nat × Int} (h : FitAt s ks x) (hk : x.1 < ks.length) (hs : x.1 < s.kids.length) (h2 : (s.kids[x.1] == -2) = false) (h1 : (s.kids[x.1] == -1) = true) (hm : (meetM x.2 ks[x.1]).2 = true) : FitAt s ks (x.1 + 1, (meetM x.2 ks[x.1]).1) := ⟨hk, by rw [h.step hk hs, if_neg (by rw [h2]; simp), if_pos h1, if_pos hm]⟩
theorem FitAt.want {s : Sign} {ks : List Int} {x : Nat × Int} (h : FitAt s ks x) (hk : x.1 < ks.length) (hs : x.1 < s.kids.length) (h2 : (s.kids[x.1] == -2) = false) (h1 : (s.kids[x.1] == -1) = false) (hm : (meetM s.kids[x.1] ks[x.1]).2 = true) : FitAt s ks (x.1 + 1, x.2) := ⟨hk, by rw [h.step hk hs, if_neg (by rw [h2]; simp), if_neg (by rw [h1]; simp), if_pos hm]⟩
theorem FitAt.bad {s : Sign} {ks : List Int} {x : Nat × Int} (h : FitAt s ks x) (hk : x.1 < ks.length) (hs : x.1 < s.kids.length) (h2 : (s.kids[x.1] == -2) = false) (hm : (if s.kids[x.1] == -1 then (meetM x.2 ks[x.1]).2 else (meetM s.kids[x.1] ks[x.1]).2) = false) : fitM s ks = (0, 10) := by
 unfold fitM
 rw [h.step hk hs, if_neg (by rw [h2]; simp)]
 split at hm
 ·rename_i h1
  rw [if_pos h1, if_neg (by rw [hm]; simp)]
 rename_i h1
 rw [if_neg h1, if_neg (by rw [hm]; simp)]
theorem FitAt.out {s : Sign} {ks : List Int} {x : Nat × Int} (h : FitAt s ks x) (hk : ks.length ≤ x.1) : fitM s ks = if s.own == -1 then (x.2, 0) else (s.own, 0) := by
 unfold fitM
 rw [h.eq, List.drop_of_length_le hk]
 cases s.kids.drop x.1 <;> rfl
theorem low_roE {n : Nat} {e : Expr} : Low n (.ro (exprC e)) := by have := exprA_low n e; rw [exprA_eq] at this; simpa using this
theorem find_col {c : List Col} {t : Str} (h : ¬ (findM t c < 0)) : ∃ (j : Nat), findM t c = (j : Int) ∧ j < c.length := by
 obtain ⟨j, y, h2, _, h3⟩ := find_mem.1 h
 exact ⟨j, h3, (List.getElem?_eq_some_iff.1 h2).1⟩
theorem rightE_node {e : Expr} (h : exprRightM e = true) : allE nodeM e = true := by
 rw [exprRight_eq] at h
 unfold refRightM at h
 rw [Bool.and_eq_true] at h
 exact h.2
/-- The first fault of those that were asked. -/
structure AllAt (f : Expr → Rs) (k : List Expr) (x : Nat) : Prop where
 le : x ≤ k.length
 ok : ∀ (j : Nat) (y : Expr), j < x → k[j]? = some y → ((f y).2 != 0) = false
theorem AllAt.bad {f : Expr → Rs} {k : List Expr} {x : Nat} (h : AllAt f k x) (hx : x < k.length) (hb : ((f k[x]).2 != 0) = true) (g : List Val → Rs) : allR g (k.map f) = wrongR (f k[x]).2 := by
 unfold allR
 have : (k.map f).find? (fun q => q.2 != 0) = some ((k.map f)[x]'(by simpa using hx)) := find_at (by simpa using hx) (by simpa using hb) (fun j y hj hy => by
  rw [List.getElem?_map, Option.map_eq_some_iff] at hy
  obtain ⟨z, hz, rfl⟩ := hy
  exact h.ok j z hj hz)
 rw [this]
 simp
theorem AllAt.all {f : Expr → Rs} {k : List Expr} {x : Nat} (h : AllAt f k x) (hx : k.length ≤ x) (g : List Val → Rs) : allR g (k.map f) = if (k.take x).any (fun y => (f y).1.kind == 0) then (noV, 0) else g ((k.take x).map fun y => (f y).1) := by
 unfold allR
 have : (k.map f).find? (fun q => q.2 != 0) = none := find_none (fun j y hy => by
  rw [List.getElem?_map, Option.map_eq_some_iff] at hy
  obtain ⟨z, hz, rfl⟩ := hy
  exact h.ok j z (by have := (List.getElem?_eq_some_iff.1 hz).1; omega) hz)
 rw [this, List.take_of_length_le hx]
 simp only [List.any_map, List.map_map]
 rfl
theorem AllAt.next {f : Expr → Rs} {k : List Expr} {x : Nat} (h : AllAt f k x) (hx : x < k.length) (hb : ((f k[x]).2 != 0) = false) : AllAt f k (x + 1) := ⟨hx, upto_succ hx h.ok hb⟩
theorem any_snoc (f : Expr → Bool) (k : List Expr) {x : Nat} (h : x < k.length) : (k.take (x + 1)).any f = ((k.take x).any f || f k[x]) := by rw [List.take_succ_eq_append_getElem h, List.any_append]; simp
theorem vals_snoc (f : Expr → Val) (l : List Expr) {x : Nat} (h : x < l.length) : ((l.take x).map f).map valA ++ [valA (f l[x])] = ((l.take (x + 1)).map f).map valA := by rw [List.take_succ_eq_append_getElem h, List.map_append, List.map_append]; rfl
theorem low_vals {n k : Nat} {own : Bool} {l : List Val} : Low n (.slice own k (l.map valA)) := low_slice.2 fun y hy => by
 obtain ⟨z, _, rfl⟩ := List.mem_map.1 hy
 simp [or_imp, forall_and]
theorem c56 (c : List Col) (l : List Val) (e : Expr) (hk : e.kids.length ≤ 1048576) (hev : ∀ y ∈ e.kids, EvalsTo c l y (evalE c l y)) (hargs : ((∀ y ∈ e.kids, (evalE c l y).2 = 0) → ArgsOk e.op (e.kids.map fun y => (evalE c l y).1))) (Hp : List AObj) : AFun Tryz.prog 56 [scopeA c l, exprA e] Hp (resA (allR (strictM e.op e.text) (e.kids.map (evalE c l)))) := by
 refine ACall.body [.cell 4 23, .tmp 5] [0, 1] Tryz.func56 Tryz.ntmps56 (fun d => ?_)
 refine Z165 ?_;refine Z382 ?_;refine Z3 ?_;refine R.fin [2, 3, 4, 6] ?_;refine Z396 ?_;refine R.nilSl 6 3 ?_;refine Z404 ?_;refine R.fin [2, 3, 4, 6, 7] ?_;refine Z11 ?_;refine Z16 ?_;refine Z150 ?_;refine R.fin [2, 3, 4, 6, 7, 13, 14, 15] ?_
 refine AW.loopC (α := Nat) (fun x => ⟨49, setF 2 (.ro [colsA c, valsA l]) (setF 3 (.ro (exprC e)) (setF 4 (.ptr (oid Hp.length 0) 0) (setF 6 (.slice true 3 (((e.kids.take x).map fun y => (evalE c l y).1).map valA)) (setF 7 (boolA ((e.kids.take x).any fun y => (evalE c l y).1.kind == 0)) (setF 13 (.slice false 6 (e.kids.map exprA)) (setF 14 (intA (e.kids.length : Nat)) (setF 15 (intA (x : Nat)) (fun _ => .any)))))))), Hp, [.cells 23 [intA 0, intA 0, strA []]], [], none⟩) (fun x => AllAt (evalE c l) e.kids x) (fun x => e.kids.length - x) (0) ⟨Nat.zero_le _, fun j y h => by omega⟩ (StLe.of_eq (by simp)) rfl (fun x hx => ?_)
 refine Z166 ?_;refine R.fin [2, 3, 4, 6, 7, 13, 14, 15, 16] ?_
 refine W.condX (fun ht16 => ?_) (fun ht16 => ?_)
 ·have hlt : x < e.kids.length := by simpa using ht16
  refine Z279 ?_;refine Z122 ?_;refine Z22 ?_;refine R.fin [2, 3, 4, 6, 7, 9, 13, 14, 15] ?_;refine Z55 ?_;refine Z430 ?_;refine R.call Tryz.call29 (hev _ (List.getElem_mem hlt) _) ?_;refine Z112 ?_;refine R.fin [2, 3, 4, 6, 7, 10, 11, 13, 14, 15] ?_;refine Z98 ?_;refine R.fin [2, 3, 4, 6, 7, 10, 11, 13, 14, 15, 26] ?_
  refine W.cond (fun ht26 => ?_) (fun ht26 => ?_)
  ·have hm := hx.bad hlt ht26 (strictM e.op e.text)
   refine Z0 ?_;refine Z68 ?_;refine Z62 ?_;refine K.thR ?_;refine Z83 ?_;exact Z45
  refine Z326 ?_;refine Z226 ?_;refine Z404 ?_;refine R.fin [2, 3, 4, 6, 7, 10, 13, 14, 15] ?_;refine Z411 ?_;refine R.moveT ?_;refine Z233 ?_
  refine R.append jU Tryz.type23 ?_ ?_ ?_
  ·simp only [List.length_map, List.length_take, List.length_cons, List.length_nil, Tryz.t23]; omega
  ·simp only [List.length_map, List.length_take, List.length_cons, List.length_nil, Tryz.t23]; omega
  refine R.assignT ?_;refine R.fin [2, 3, 4, 6, 7, 13, 14, 15] ?_;refine Z17 ?_;refine Z148 ?_;refine R.fin [2, 3, 4, 6, 7, 13, 14, 15] ?_;refine K.lpN (x + 1) (hx.next hlt ht26) (by omega) ?_
  simp only [show Tryz.t23.size = 3 from rfl, any_snoc _ _ hlt]
  have hvs : ((e.kids.take x).map fun y => (evalE c l y).1).map valA ++ [.agg [.v (.int .i64 (evalE c l e.kids[x]).1.kind), .v (.int .i64 (evalE c l e.kids[x]).1.n), .v (sv (evalE c l e.kids[x]).1.s)]] = ((e.kids.take (x + 1)).map fun y => (evalE c l y).1).map valA := vals_snoc _ _ hlt
  simp only [hvs]
  exact StCut.take (own := [.cells 23 [intA 0, intA 0, strA []]]) (fun _ => .refl _) (by repeat (first | exact lowF_any | refine lowF_set (by first | exact low_exprs | exact low_vals | exact low_roE | (simp [or_imp, forall_and, oid] <;> omega)) ?_)) (by intro y hy; rw [List.mem_singleton.1 hy]; intro z hz; simp only [List.mem_cons, List.not_mem_nil, or_false] at hz; rcases hz with rfl | rfl | rfl <;> simp) (by simp)
 have hxe : e.kids.length ≤ x := by simpa using ht16
 have ha := hx.all hxe (strictM e.op e.text)
 have htk : e.kids.take x = e.kids := List.take_of_length_le hxe
 have h00 : ∀ y ∈ e.kids, (evalE c l y).2 = 0 := fun y hy => by
  obtain ⟨j, hj⟩ := List.getElem?_of_mem hy
  have := hx.ok j y (by have := (List.getElem?_eq_some_iff.1 hj).1; omega) hj
  simpa using this
 have hao := hargs h00
 rw [← htk] at hao
 refine Z48 ?_;refine Z14 ?_;refine R.fin [3, 4, 6, 42] ?_
 refine W.cond (fun ht42 => ?_) (fun ht42 => ?_)
 ·have hm : allR (strictM e.op e.text) (e.kids.map (evalE c l)) = (noV, 0) := by rw [ha, if_pos ht42]
  refine Z373 ?_;exact Z291
 have hm : allR (strictM e.op e.text) (e.kids.map (evalE c l)) = strictM e.op e.text ((e.kids.take x).map fun y => (evalE c l y).1) := by rw [ha, if_neg (by rw [ht42]; simp)]
 refine Z211 ?_;refine Z405 ?_;refine R.call Tryz.call81 (c81 e _ hao _) ?_;refine Z12 ?_;exact Z75

set_option maxRecDepth 8000
set_option maxRecDepth 4000
theorem eqL_upto {a b : List Expr} (hl : a.length = b.length) (h : ∀ (j : Nat) (y z : Expr), j < a.length → a[j]? = some y → b[j]? = some z → eqE y z = true) : eqL a b = true := by
 rw [eqL_iff]
 refine list_ext_upto hl fun j y hj hy => ?_
 have hjb : j < b.length := by omega
 have := h j y b[j] hj hy (List.getElem?_eq_getElem hjb)
 rw [List.getElem?_eq_getElem hjb, (eqE_iff _ _).1 this]
theorem eqL_at {a b : List Expr} (h : eqL a b = true) {j : Nat} (hj : j < a.length) (hb : j < b.length) : eqE a[j] b[j] = true := by
 have e := (eqL_iff _ _).1 h
 subst e
 exact eqE_refl _
theorem neq_at {a b : List Expr} {j : Nat} (hj : j < a.length) (hb : j < b.length) (h : eqE a[j] b[j] = false) : eqL a b = false := by
 rw [Bool.eq_false_iff]
 intro h2
 rw [eqL_at h2 hj hb] at h
 cases h
theorem neq_len {a b : List Expr} (h : a.length ≠ b.length) : eqL a b = false := by
 rw [Bool.eq_false_iff]
 exact fun h2 => h (eqL_len h2)
theorem uptoE {a b : List Expr} {x : Nat} (hx : x < a.length) (hb : x < b.length) (h : ∀ (j : Nat) (y z : Expr), j < x → a[j]? = some y → b[j]? = some z → eqE y z = true) (he : eqE a[x] b[x] = true) : ∀ (j : Nat) (y z : Expr), j < x + 1 → a[j]? = some y → b[j]? = some z → eqE y z = true := by
 intro j y z hj h1 h2
 rcases Nat.lt_or_ge j x with h3 | h3
 ·exact h j y z h3 h1 h2
 have : j = x := by omega
 subst this
 rw [List.getElem?_eq_getElem hx] at h1
 rw [List.getElem?_eq_getElem hb] at h2
 injection h1 with h1
 injection h2 with h2
 rw [← h1, ← h2]
 exact he
def headE (x y : Expr) : Bool := ((x.op == y.op) && (x.text == y.text)) && ((x.val.kind == y.val.kind && x.val.n == y.val.n) && x.val.s == y.val.s)
theorem eq_head (x y : Expr) : eqE x y = (headE x y && eqL x.kids y.kids) := eqE_eq x y
theorem c21 : ∀ (n : Nat) (x : Expr), okE n x → ∀ (y : Expr) (Hp : List AObj), AFun Tryz.prog 21 [exprA x, exprA y] Hp (boolA (eqE x y)) := by
 intro n
 induction n with
 | zero => exact fun x h => h.elim
 | succ n ih =>
 intro x hok y Hp
 refine ACall.body [.tmp 4] [0, 1] Tryz.func21 Tryz.ntmps21 (fun d => ?_)
 refine Z165 ?_;refine Z372 ?_;refine Z337 ?_;refine Z8 ?_;refine R.neq ?_;refine Z405 ?_;refine Z29 ?_;refine Z29 ?_;refine G.sneq ?_;refine R.pickOr ?_;refine Z298 ?_;refine G.loadRoN jA jS ?_;refine G.fieldAddrRo (off := 2) jU Tryz.sizeOf23 ?_;refine G.loadRoN jA jS ?_;refine G.neqAgg eg23 (fun w => equal23 x.val.kind x.val.n y.val.kind y.val.n x.val.s y.val.s w) ?_;refine R.pickOr ?_;refine Z405 ?_;refine Z201 ?_;refine Z201 ?_;refine Z172 ?_;refine R.fin [2, 3, 33] ?_
 refine W.cond (fun ht33 => ?_) (fun ht33 => ?_)
 ·have hf : eqE x y = false := by
   rw [eq_head]
   simp only [Bool.or_eq_true, bne_iff_ne, ne_eq, List.length_map, Bool.not_eq_true'] at ht33
   by_cases hh : headE x y = true
   ·rw [hh, Bool.true_and]
    refine neq_len ?_
    unfold headE at hh
    simp only [Bool.and_eq_true, beq_iff_eq] at hh
    obtain ⟨⟨h1, h2⟩, ⟨h3, h4⟩, h5⟩ := hh
    rcases ht33 with ((h | h) | h) | h
    ·exact absurd h1 h
    ·simp [h2] at h
    ·simp [h3, h4, h5] at h
    intro e; exact h (by rw [e])
   rw [Bool.not_eq_true] at hh
   rw [hh, Bool.false_and]
  refine Z113 ?_;refine K.thR ?_;exact K.fin (V.one V.tmp) ⟨by rw [hf], rfl⟩
 have hh : headE x y = true ∧ x.kids.length = y.kids.length := by
  simp only [Bool.or_eq_false_iff, bne_eq_false_iff_eq, List.length_map, Bool.not_eq_false'] at ht33
  obtain ⟨⟨⟨h1, h2⟩, h3⟩, h4⟩ := ht33
  unfold headE
  refine ⟨?_, by omega⟩
  simp only [beq_iff_eq, Bool.and_eq_true] at h1 h2 h3 ⊢
  exact ⟨⟨h1, h2⟩, h3⟩
 obtain ⟨hh, hlen⟩ := hh
 have hkl := hok.2.1
 refine Z379 ?_;refine R.fin [2, 3, 5] ?_
 refine AW.loopC (α := Nat) (fun i => ⟨53, setF 2 (.ro (exprC x)) (setF 3 (.ro (exprC y)) (setF 5 (intA (i : Nat)) (fun _ => .any))), Hp, [], [], none⟩) (fun i => i ≤ x.kids.length ∧ ∀ (j : Nat) (a b : Expr), j < i → x.kids[j]? = some a → y.kids[j]? = some b → eqE a b = true) (fun i => x.kids.length - i) (0) ⟨Nat.zero_le _, fun j a b h => by omega⟩ (StLe.refl _) rfl (fun i hi => ?_)
 refine Z14 ?_;refine Z16 ?_;refine Z106 ?_;refine R.fin [2, 3, 5, 38] ?_
 refine W.cond (fun ht38 => ?_) (fun ht38 => ?_)
 ·have hlt : i < x.kids.length := by simpa using ht38
  have hly : i < y.kids.length := by omega
  refine Z88 ?_;refine W.draw [0, 1, 0, 7, 15, 0, 32, 0, 224, 480, 1023, 2047] 10 Tryzmixed (by kernel_rfl) ?_;refine Z73 ?_;refine Z415 ?_;refine D.indexAddr (i) (exprA x.kids[i]) jU jS (getMap hlt) ?_;refine Z168 ?_;refine Z415 ?_;refine D.indexAddr (i) (exprA y.kids[i]) jU jS (getMap hly) ?_;refine Z437 ?_;refine D.tail ?_;refine R.call Tryz.call21 (ih x.kids[i] (hok.2.2 _ (List.getElem_mem hlt)) y.kids[i] _) ?_;refine R.not ?_;refine R.fin [2, 3, 5, 52] ?_
  refine W.cond (fun ht52 => ?_) (fun ht52 => ?_)
  ·have hf : eqE x y = false := by rw [eq_head, neq_at hlt hly (by simpa using ht52), Bool.and_false]
   refine Z113 ?_;refine Z123 ?_;exact K.fin (V.one V.tmp) ⟨by rw [hf], rfl⟩
  have he : eqE x.kids[i] y.kids[i] = true := by simpa using ht52
  refine Z177 ?_;refine R.fin [2, 3, 5] ?_;exact K.lpN (i + 1) ⟨hlt, uptoE hlt hly hi.2 he⟩ (by omega) (StCut.of_eq rfl)
 have hxe : x.kids.length ≤ i := by simpa using ht38
 refine Z90 ?_;refine Z113 ?_;exact K.fin (V.one V.tmp) ⟨by rw [eq_head, hh, eqL_upto hlen (fun j a b hj => hi.2 j a b (by omega))]; rfl, rfl⟩

end Go.SX.Nb
