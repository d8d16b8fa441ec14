/- LoadRows answers true for whatever can be read, where what is read is of bulk at most 1048576; the listed tables are tied to the text of the program. -/
import Derived.Below
import Derived.Test.YtefgfjedonchdaaDoorProg
import Derived.KernelRfl
import Derived.Shelf.Strings.SplitShaped
import Derived.Shelf.Strings.SlTrimAscii
import Derived.Shelf.Strings.Cut
import Derived.Lib.SplitLaws
import Derived.ReadAgain
import Derived.ChangeSame
import Derived.ChangeArms
import Derived.ChangeOld
import Derived.ChangeFn
import Derived.MapPlaces
import Derived.DataReads
import Derived.OpenShut
import Derived.RowKit
import Derived.Deep.DeepHandedRow
import Derived.Test.YtefgfjedonchdaaDoorCards
import Derived.Test.YtefgfjedonchdaaDoorTie
import Derived.Lay
import Derived.Shelf.Vars
import Derived.ChangeBears
import Derived.Test.YtefgfjedonchdaaDoorLoadRowsUptoCardSaidPart4
set_option linter.all false
namespace Go.SX
variable [GI : GlobInv]
open Classical Go.RowKit
section
variable {P : Program} {g : FuncId} {Hp : List AObj}

/-- What is known of package-level variables, of a world alone. -/
def GlobIn (w : World) : Prop := ∀ x ∈ GI.cells, ∃ u, w.cell? ⟨x.1, x.2.1, none⟩ = some u ∧ x.2.2 u

theorem vals_of {G : Gh} {w : World} {xs : List Value} {vs : Array Value} (hn : vs.size = (xs.map AV.v).length) (h : ∀ (i : Nat) (y : AV) (u : Value), (xs.map AV.v)[i]? = some y → vs[i]? = some u → ∃ l, Rep G w l y u) : vs = xs.toArray := by
  apply Array.ext
  · simpa using hn
  · intro i h1 h2
    have hi : i < xs.length := by simpa using h2
    obtain ⟨l, hr⟩ := h i (.v xs[i]) vs[i] (by simp [hi]) (Array.getElem?_eq_getElem h1)
    have := rep_v hr
    simpa using this

theorem below_cell {G : Gh} {w w' : World} (hT : TagOK G w) (hb : Below w.heap.size w w') {b o : Nat} (h : G.tag b o ≠ .free) : w'.cell? ⟨b, o, none⟩ = w.cell? ⟨b, o, none⟩ ∧ w'.frozen? ⟨b, o, none⟩ = w.frozen? ⟨b, o, none⟩ := by
  obtain ⟨u, hu⟩ := hT.ex b o h
  have hlt : b < w.heap.size := World.block_lt_of_cell? _ _ hu
  have := hb.block b hlt
  exact ⟨cell_of_blk this, frozen_of_blk this⟩

theorem below_turn {G : Gh} {w w' : World} (hT : TagOK G w) (hb : Below w.heap.size w w') : Turn G w G w' :=
  ⟨fun b o h => ⟨h, (below_cell hT hb (by rw [h]; simp)).1⟩, fun _ _ _ h => h, fun _ _ _ h => h, Nat.le_refl _, fun _ _ => rfl, hb.os, hb.tape, hb.output, hb.size, Still.tags (fun b hv => hb.block b hv.1) hb.size (fun _ _ _ => .inl rfl) (fun _ hi => .inl ⟨hi, rfl⟩)⟩

theorem below_heap {G : Gh} {H : List AObj} {w w' : World} (hH : HeapRel G H w) (hT : TagOK G w) (hb : Below w.heap.size w w') : HeapRel G H w' ∧ TagOK G w' := by
  have T := below_turn hT hb
  refine ⟨⟨fun i x hx => ?_, hH.n, hH.inj⟩, ⟨fun b o h => ?_, fun b o i h => ?_, fun b o L h => ?_, hT.globKeep T.fix⟩⟩
  · have hi : i < G.n := by rw [hH.n]; exact (List.getElem?_eq_some_iff.1 hx).1
    exact T.objRel hi (hb.block _ (heapRel_blt hH i hi)) (hH.obj i x hx)
  · rw [(below_cell hT hb h).1]; exact hT.ex b o h
  · rw [(below_cell hT hb (by rw [h]; simp)).2]; exact hT.obj b o i h
  · rw [(below_cell hT hb (by rw [h]; simp)).2]; exact hT.tail b o L h

/-- A function of plain values that hands back a plain value. -/
theorem AFun.lib {xs : List Value} {r : AV} {v : Value} (hr : ∀ G w, Rep G w none r v) (h : ∀ w, GlobIn w → Calls P g xs.toArray w (fun e w' => e = .returned v ∧ Below w.heap.size w w')) : AFun P g (xs.map .v) Hp r := by
  intro d G w vs hn hv hH hT
  have hvs := vals_of hn (fun i y u a b => ⟨_, hv i y u a b⟩)
  subst hvs
  refine (callsIn_wide.2 (h w (fun x hx => let ⟨_, u, a, b⟩ := hT.glob x hx; ⟨u, a, b⟩))).mono ?_
  rintro e w' ⟨rfl, hb⟩
  obtain ⟨h1, h2⟩ := below_heap hH hT hb
  exact ⟨v, G, r, Hp, rfl, (hr G w').lift, h1, h2, (below_turn hT hb).keep _, rfl, rfl, rfl⟩


/-- A function of plain values that hands back a new slice of plain values. -/
theorem AFun.libSlice {xs ys : List Value} {t : TypeId} (hone : ∀ y ∈ ys, y.oneCell' = true) (h : ∀ w, GlobIn w → Calls P g xs.toArray w (fun e w' => e = .returned (.slice (some ⟨w.heap.size, 0, none⟩) ys.length ys.length) ∧ w' = w.alloc (.cells ys.toArray t))) :
    AFun P g (xs.map .v) Hp (.slice false 1 (ys.map .v)) := by
  intro d G w vs hn hv hH hT
  have hvs := vals_of hn (fun i y u a b => ⟨_, hv i y u a b⟩)
  subst hvs
  refine (callsIn_wide.2 (h w (fun x hx => let ⟨_, u, a, b⟩ := hT.glob x hx; ⟨u, a, b⟩))).mono ?_
  rintro e w' ⟨rfl, rfl⟩
  have hst : StRel 0 G ⟨0, fun _ => .any, Hp, [], [], none⟩ { tmps := #[], defers := [] } w :=
    ⟨rfl, fun s => .any _ _, by simpa using hH, rfl, (fun o ho => by simp at ho), List.nodup_nil, (fun o ho => by simp at ho), hT, (fun l hl => by cases hl), objs_low hH⟩
  obtain ⟨G', g1, T, g2⟩ := alloc_fix hst t ys.toArray
  refine ⟨_, G', _, Hp, rfl, ?_, by simpa using g1.heap, g1.tags, T.keep _, rfl, rfl, rfl⟩
  refine .slice _ false 1 _ _ _ _ (fun i j => ys.toArray.getD i undef) rfl (by simp) (Nat.le_refl _) (fun x hx => ?_) (fun x hx y hy => ?_) (fun i x j y hx hy => ?_) (fun i x j y hx hy => ?_) (fun h => by cases h)
  · obtain ⟨z, _, rfl⟩ := List.mem_map.1 hx
    rfl
  · obtain ⟨z, hz, rfl⟩ := List.mem_map.1 hx
    have : y = .v z := by simpa [AV.cells] using hy
    subst this
    exact hone z hz
  all_goals
    rw [List.getElem?_map, Option.map_eq_some_iff] at hx
    obtain ⟨z, hz, rfl⟩ := hx
    have hlt : i < ys.length := (List.getElem?_eq_some_iff.1 hz).1
    have hj : j = 0 := by
      match j, hy with
      | 0, _ => rfl
      | j + 1, hy => simp [AV.cells] at hy
    subst hj
  · refine ⟨by simpa using g2 i (by simpa using hlt), ?_⟩
    rw [World.cell?_alloc_new]
    simp [hlt]
  · have : y = .v z := by simpa [AV.cells] using hy.symm
    subst this
    have e : ys.toArray.getD i undef = z := by
      have := List.getElem?_eq_getElem hlt
      rw [this] at hz
      injection hz with hz
      simp [hlt, hz]
    rw [e]
    exact .v _ _
end
end Go.SX
namespace Go.SX.Nb
open Go Go.SX Go.Proofs
set_option maxRecDepth 4000

/-- The package-level variables of which something is known: bytealg.MaxLen is a number. -/
def globs : List (Nat × Nat × (Value → Prop)) := [(0, 0, fun v => ∃ m, v = .int .i64 m)]
instance globInv : GlobInv := ⟨globs⟩

abbrev Str := List UInt8
structure Col where
  name : Str
  kind : Int
structure Val where
  kind : Int
  n : Int
  s : Str
  deriving DecidableEq
structure Row where
  key : Int
  l : List Val
  deriving DecidableEq
abbrev strA (s : Str) : AV := .v (sv s)
abbrev intA (n : Int) : AV := .v (.int .i64 n)
abbrev u64A (n : Int) : AV := .v (.int .u64 n)
abbrev boolA (b : Bool) : AV := .v (.bool b)
abbrev colA (c : Col) : AV := .agg [.v (sv c.name), .v (.int .i64 c.kind)]
abbrev colsA (c : List Col) : AV := .slice false 2 (c.map colA)
abbrev valA (v : Val) : AV := .agg [.v (.int .i64 v.kind), .v (.int .i64 v.n), .v (sv v.s)]
abbrev valsA (l : List Val) : AV := .slice false 3 (l.map valA)
abbrev rowA (r : Row) : AV := .agg [.v (.int .i64 r.key), .slice false 3 (r.l.map valA)]
abbrev rowsA (l : List Row) : AV := .slice false 2 (l.map rowA)
abbrev strsA (l : List Str) : AV := .slice false 1 (l.map strA)
theorem getMap {α β : Type} {f : α → β} {l : List α} {i : Nat} (h : i < l.length) : (l.map f)[i]? = some (f l[i]) := by simp [h]
theorem Trydmixed : Tryd.prog.follows .mixedOrders = true := by kernel_rfl
theorem eg64 : Tryd.prog.eqGuardType Tryd.prog.depth 64 = false := by kernel_rfl
theorem equal64 (k n k' n' : Int) (s s' : List UInt8) (w : World) : (Op.equal 64 (.agg #[.int .i64 k, .int .i64 n, .string ⟨s.toArray⟩]) (.agg #[.int .i64 k', .int .i64 n', .string ⟨s'.toArray⟩])).run Tryd.prog w = .ok (k == k' && n == n' && s == s') w := by
  have h1 : Tryd.prog.stoodInHeld 64 = false := by kernel_rfl
  show (Op.equalIn (9999 + 1) _ _ _).run _ _ = _
  rw [Op.equalIn]
  generalize hd : (9999 : Nat) = d
  obtain ⟨d, rfl⟩ : ∃ e, d = e + 1 := ⟨9998, hd.symm⟩
  clear hd
  simp [run_underlying Tryd.underlying64, h1, part, eqInt _ _ _ _ _ _ Tryd.underlying3, eqInt _ _ _ _ _ _ Tryd.underlying2, eqStr _ _ _ _ _ Tryd.underlying9, Tryd.isAgg3, Tryd.isAgg2, Tryd.isAgg9]
  by_cases e1 : k = k' <;> by_cases e2 : n = n' <;> by_cases e3 : s = s' <;> simp [e1, e2, e3]
end Go.SX.Nb
namespace Go.Proofs
open Go Go.Shelf
def Tryd.ren144 : Ren where
  f := fun x => match x with | 144 => 69 | 143 => 73 | 219 => 79 | 217 => 85 | 225 => 86 | 224 => 87 | 267 => 88 | 266 => 91 | 314 => 92 | n => n
  t := fun x => match x with | 9 => 9 | 4 => 4 | 3 => 3 | 5 => 5 | 46 => 36 | 146 => 130 | 51 => 129 | n => n
  g := fun x => match x with | 1 => 0 | n => n
theorem Tryd.lays144 : Lays.n144 Tryd.prog Tryd.ren144 where
  mixed := by kernel_rfl
  f143 := Tryd.func73
  f144 := Tryd.func69
  f217 := Tryd.func85
  f219 := Tryd.func79
  f224 := Tryd.func87
  f225 := Tryd.func86
  f266 := Tryd.func91
  f267 := Tryd.func88
  f314 := Tryd.func92
  t3 := Tryd.underlying3
  a3 := Tryd.isAgg3
  z3 := Tryd.sizeOf3
  v3 := Tryd.zeroValue3
  t4 := Tryd.underlying4
  a4 := Tryd.isAgg4
  z4 := Tryd.sizeOf4
  v4 := Tryd.zeroValue4
  t5 := Tryd.underlying5
  a5 := Tryd.isAgg5
  z5 := Tryd.sizeOf5
  v5 := Tryd.zeroValue5
  t9 := Tryd.underlying9
  a9 := Tryd.isAgg9
  z9 := Tryd.sizeOf9
  v9 := Tryd.zeroValue9
  t46 := Tryd.underlying36
  a46 := Tryd.isAgg36
  z46 := Tryd.sizeOf36
  v46 := Tryd.zeroValue36
  t51 := Tryd.underlying129
  a51 := Tryd.isAgg129
  z51 := Tryd.sizeOf129
  v51 := Tryd.zeroValue129
  t146 := Tryd.underlying130
  a146 := Tryd.isAgg130
  z146 := Tryd.sizeOf130
  v146 := Tryd.zeroValue130
  g1 := by kernel_rfl
def Tryd.ren145 : Ren where
  f := fun x => match x with | 145 => 70 | 220 => 75 | 219 => 79 | 217 => 85 | 225 => 86 | 224 => 87 | 267 => 88 | 266 => 91 | 314 => 92 | n => n
  t := fun x => match x with | 9 => 9 | 4 => 4 | 59 => 110 | 3 => 3 | 5 => 5 | 46 => 36 | 146 => 130 | 51 => 129 | n => n
  g := fun x => match x with | 1 => 0 | n => n
theorem Tryd.lays145 : Lays.n145 Tryd.prog Tryd.ren145 where
  mixed := by kernel_rfl
  f145 := Tryd.func70
  f217 := Tryd.func85
  f219 := Tryd.func79
  f220 := Tryd.func75
  f224 := Tryd.func87
  f225 := Tryd.func86
  f266 := Tryd.func91
  f267 := Tryd.func88
  f314 := Tryd.func92
  t3 := Tryd.underlying3
  a3 := Tryd.isAgg3
  z3 := Tryd.sizeOf3
  v3 := Tryd.zeroValue3
  t4 := Tryd.underlying4
  a4 := Tryd.isAgg4
  z4 := Tryd.sizeOf4
  v4 := Tryd.zeroValue4
  t5 := Tryd.underlying5
  a5 := Tryd.isAgg5
  z5 := Tryd.sizeOf5
  v5 := Tryd.zeroValue5
  t9 := Tryd.underlying9
  a9 := Tryd.isAgg9
  z9 := Tryd.sizeOf9
  v9 := Tryd.zeroValue9
  t46 := Tryd.underlying36
  a46 := Tryd.isAgg36
  z46 := Tryd.sizeOf36
  v46 := Tryd.zeroValue36
  t51 := Tryd.underlying129
  a51 := Tryd.isAgg129
  z51 := Tryd.sizeOf129
  v51 := Tryd.zeroValue129
  t59 := Tryd.underlying110
  a59 := Tryd.isAgg110
  z59 := Tryd.sizeOf110
  v59 := Tryd.zeroValue110
  t146 := Tryd.underlying130
  a146 := Tryd.isAgg130
  z146 := Tryd.sizeOf130
  v146 := Tryd.zeroValue130
  g1 := by kernel_rfl
def Tryd.ren146 : Ren where
  f := fun x => match x with | 146 => 54 | 221 => 66 | 268 => 71 | 138 => 72 | 143 => 73 | 195 => 76 | 197 => 77 | 218 => 78 | 219 => 79 | 260 => 84 | 217 => 85 | 225 => 86 | 224 => 87 | 267 => 88 | 266 => 91 | 314 => 92 | n => n
  t := fun x => match x with | 9 => 9 | 31 => 72 | 3 => 3 | 4 => 4 | 0 => 0 | 105 => 114 | 21 => 21 | 5 => 5 | 46 => 36 | 119 => 125 | 139 => 128 | 138 => 127 | 146 => 130 | 51 => 129 | n => n
  g := fun x => match x with | 1 => 0 | 3 => 1 | 4 => 2 | n => n
theorem Tryd.lays146 : Lays.n146 Tryd.prog Tryd.ren146 where
  mixed := by kernel_rfl
  f138 := Tryd.func72
  f143 := Tryd.func73
  f146 := Tryd.func54
  f195 := Tryd.func76
  f197 := Tryd.func77
  f217 := Tryd.func85
  f218 := Tryd.func78
  f219 := Tryd.func79
  f221 := Tryd.func66
  f224 := Tryd.func87
  f225 := Tryd.func86
  f260 := Tryd.func84
  f266 := Tryd.func91
  f267 := Tryd.func88
  f268 := Tryd.func71
  f314 := Tryd.func92
  t0 := Tryd.underlying0
  a0 := Tryd.isAgg0
  z0 := Tryd.sizeOf0
  v0 := Tryd.zeroValue0
  t3 := Tryd.underlying3
  a3 := Tryd.isAgg3
  z3 := Tryd.sizeOf3
  v3 := Tryd.zeroValue3
  t4 := Tryd.underlying4
  a4 := Tryd.isAgg4
  z4 := Tryd.sizeOf4
  v4 := Tryd.zeroValue4
  t5 := Tryd.underlying5
  a5 := Tryd.isAgg5
  z5 := Tryd.sizeOf5
  v5 := Tryd.zeroValue5
  t9 := Tryd.underlying9
  a9 := Tryd.isAgg9
  z9 := Tryd.sizeOf9
  v9 := Tryd.zeroValue9
  t21 := Tryd.underlying21
  a21 := Tryd.isAgg21
  z21 := Tryd.sizeOf21
  v21 := Tryd.zeroValue21
  t31 := Tryd.underlying72
  a31 := Tryd.isAgg72
  z31 := Tryd.sizeOf72
  v31 := Tryd.zeroValue72
  t46 := Tryd.underlying36
  a46 := Tryd.isAgg36
  z46 := Tryd.sizeOf36
  v46 := Tryd.zeroValue36
  t51 := Tryd.underlying129
  a51 := Tryd.isAgg129
  z51 := Tryd.sizeOf129
  v51 := Tryd.zeroValue129
  t105 := Tryd.underlying114
  a105 := Tryd.isAgg114
  z105 := Tryd.sizeOf114
  v105 := Tryd.zeroValue114
  t119 := Tryd.underlying125
  a119 := Tryd.isAgg125
  z119 := Tryd.sizeOf125
  t138 := Tryd.underlying127
  a138 := Tryd.isAgg127
  z138 := Tryd.sizeOf127
  v138 := Tryd.zeroValue127
  t139 := Tryd.underlying128
  a139 := Tryd.isAgg128
  z139 := Tryd.sizeOf128
  v139 := Tryd.zeroValue128
  t146 := Tryd.underlying130
  a146 := Tryd.isAgg130
  z146 := Tryd.sizeOf130
  v146 := Tryd.zeroValue130
  g1 := by kernel_rfl
  g3 := by kernel_rfl
  g4 := by kernel_rfl
def Tryd.ren161 : Ren where
  f := fun x => match x with | 161 => 74 | 231 => 80 | 227 => 81 | 233 => 82 | 235 => 83 | 228 => 89 | 197 => 77 | 151 => 90 | 260 => 84 | 152 => 93 | 137 => 94 | 119 => 95 | 224 => 87 | 225 => 86 | 217 => 85 | 266 => 91 | n => n
  t := fun x => match x with | 9 => 9 | 4 => 4 | 3 => 3 | 5 => 5 | 117 => 120 | 116 => 119 | 0 => 0 | 124 => 123 | 105 => 114 | 21 => 21 | 119 => 125 | 46 => 36 | 139 => 128 | 138 => 127 | n => n
  g := fun x => match x with | 3 => 1 | 4 => 2 | n => n
theorem Tryd.lays161 : Lays.n161 Tryd.prog Tryd.ren161 where
  mixed := by kernel_rfl
  f119 := Tryd.func95
  f137 := Tryd.func94
  f151 := Tryd.func90
  f152 := Tryd.func93
  f161 := Tryd.func74
  f197 := Tryd.func77
  f217 := Tryd.func85
  f224 := Tryd.func87
  f225 := Tryd.func86
  f227 := Tryd.func81
  f228 := Tryd.func89
  f231 := Tryd.func80
  f233 := Tryd.func82
  f235 := Tryd.func83
  f260 := Tryd.func84
  f266 := Tryd.func91
  t0 := Tryd.underlying0
  a0 := Tryd.isAgg0
  z0 := Tryd.sizeOf0
  v0 := Tryd.zeroValue0
  t3 := Tryd.underlying3
  a3 := Tryd.isAgg3
  z3 := Tryd.sizeOf3
  v3 := Tryd.zeroValue3
  t4 := Tryd.underlying4
  a4 := Tryd.isAgg4
  z4 := Tryd.sizeOf4
  v4 := Tryd.zeroValue4
  t5 := Tryd.underlying5
  a5 := Tryd.isAgg5
  z5 := Tryd.sizeOf5
  v5 := Tryd.zeroValue5
  t9 := Tryd.underlying9
  a9 := Tryd.isAgg9
  z9 := Tryd.sizeOf9
  v9 := Tryd.zeroValue9
  t21 := Tryd.underlying21
  a21 := Tryd.isAgg21
  z21 := Tryd.sizeOf21
  v21 := Tryd.zeroValue21
  t46 := Tryd.underlying36
  a46 := Tryd.isAgg36
  z46 := Tryd.sizeOf36
  v46 := Tryd.zeroValue36
  t105 := Tryd.underlying114
  a105 := Tryd.isAgg114
  z105 := Tryd.sizeOf114
  v105 := Tryd.zeroValue114
  t116 := Tryd.underlying119
  a116 := Tryd.isAgg119
  z116 := Tryd.sizeOf119
  t117 := Tryd.underlying120
  a117 := Tryd.isAgg120
  z117 := Tryd.sizeOf120
  v117 := Tryd.zeroValue120
  t119 := Tryd.underlying125
  a119 := Tryd.isAgg125
  z119 := Tryd.sizeOf125
  t124 := Tryd.underlying123
  a124 := Tryd.isAgg123
  z124 := Tryd.sizeOf123
  v124 := Tryd.zeroValue123
  t138 := Tryd.underlying127
  a138 := Tryd.isAgg127
  z138 := Tryd.sizeOf127
  v138 := Tryd.zeroValue127
  t139 := Tryd.underlying128
  a139 := Tryd.isAgg128
  z139 := Tryd.sizeOf128
  v139 := Tryd.zeroValue128
  g3 := by kernel_rfl
  g4 := by kernel_rfl
end Go.Proofs
namespace Go.SX.Nb
open Go Go.SX Go.Proofs Go.RowKit
set_option maxRecDepth 4000
theorem maxLen_of {w : World} (h : GlobIn w) : ∃ m, w.cell? ⟨0, 0, none⟩ = some (.int .i64 m) := by
  obtain ⟨u, a, m, rfl⟩ := h (0, 0, fun v => ∃ m, v = .int .i64 m) (by simp [GlobInv.cells, globs])
  exact ⟨m, a⟩
theorem drewN_below (w : World) (n : Nat) : Below w.heap.size w (w.drewN n) := ⟨rfl, rfl, rfl, Nat.le_refl _, fun _ _ => rfl⟩
theorem c69 (s t : Str) (hs : s.length < 4294967281) (Hp : List AObj) : AFun Tryd.prog 69 [strA s, strA t] Hp (boolA (Lib.contains s t)) := by
  refine AFun.lib (xs := [sv s, sv t]) (v := .bool (Lib.contains s t)) (fun G w => .v _ _) (fun w hg => ?_)
  obtain ⟨m, hm⟩ := maxLen_of hg
  refine (Any.strings_Contains Tryd.lays144 ⟨s.toArray⟩ ⟨t.toArray⟩ m w (by simpa [ByteArray.size] using hs) hm).mono ?_
  rintro e w' ⟨rfl, rfl⟩
  exact ⟨rfl, Below.refl _ _⟩
theorem c70 (s t : Str) (hs : s.length < 4294967281) (Hp : List AObj) : AFun Tryd.prog 70 [strA s, strA t] Hp (.tup [strA (Lib.cut s t).1, strA (Lib.cut s t).2.1, boolA (Lib.cut s t).2.2]) := by
  refine AFun.lib (xs := [sv s, sv t]) (v := .tuple #[sv (Lib.cut s t).1, sv (Lib.cut s t).2.1, .bool (Lib.cut s t).2.2]) (fun G w => rep_tup rfl (fun i y u hy hu => ?_)) (fun w hg => ?_)
  · match i with
    | 0 => simp at hy hu; subst hy; subst hu; exact .v _ _
    | 1 => simp at hy hu; subst hy; subst hu; exact .v _ _
    | 2 => simp at hy hu; subst hy; subst hu; exact .v _ _
    | i + 3 => simp at hy
  obtain ⟨m, hm⟩ := maxLen_of hg
  refine (Any.strings_Cut Tryd.lays145 ⟨s.toArray⟩ ⟨t.toArray⟩ m w (by simpa [ByteArray.size] using hs) hm).mono ?_
  rintro e w' ⟨rfl, n, rfl⟩
  exact ⟨rfl, drewN_below _ _⟩
theorem c74 (s t : Str) (ht : t.length < 4294967281) (ha : ∀ c ∈ t, c.toNat < 128) (Hp : List AObj) : AFun Tryd.prog 74 [strA s, strA t] Hp (strA (Lib.trimLeftS s t)) := by
  refine AFun.lib (xs := [sv s, sv t]) (v := sv (Lib.trimLeftS s t)) (fun G w => .v _ _) (fun w hg => ?_)
  refine (Any.strings_TrimLeft_laid Tryd.lays161 (by kernel_rfl) ⟨s.toArray⟩ ⟨t.toArray⟩ w (by simpa [ByteArray.size] using ht) (fun j b hj => ha b (List.mem_of_getElem? hj))).mono ?_
  rintro e w' ⟨rfl, hb⟩
  exact ⟨rfl, hb⟩
/-- The pieces of a split. -/
def splitM (s t : Str) : List Str := (Lib.splitB ⟨t.toArray⟩ 0 (Lib.countB ⟨s.toArray⟩ ⟨t.toArray⟩) ⟨s.toArray⟩).map (·.data.toList)
theorem sv_data (b : ByteArray) : sv b.data.toList = .string b := rfl
theorem c54 (s t : Str) (hs : s.length < 4294967281) (ht : 1 ≤ t.length) (Hp : List AObj) : AFun Tryd.prog 54 [strA s, strA t] Hp (strsA (splitM s t)) := by
  have := AFun.libSlice (P := Tryd.prog) (g := 54) (Hp := Hp) (xs := [sv s, sv t]) (ys := (splitM s t).map sv) (t := 9) (by intro y hy; obtain ⟨z, _, rfl⟩ := List.mem_map.1 hy; rfl) (fun w hg => by
    obtain ⟨m, hm⟩ := maxLen_of hg
    refine (Any.strings_Split Tryd.lays146 (by kernel_rfl) ⟨s.toArray⟩ ⟨t.toArray⟩ m w (by simpa [ByteArray.size] using hs) hm (by simpa [ByteArray.size] using ht)).mono ?_
    rintro e w' ⟨rfl, rfl⟩
    have hl : ((splitM s t).map sv).length = Lib.countB ⟨s.toArray⟩ ⟨t.toArray⟩ + 1 := by
      rw [List.length_map]
      unfold splitM
      rw [List.length_map]
      exact Lib.splitB_all _ (by simpa [ByteArray.size] using ht) _ _ _ rfl
    refine ⟨by rw [hl], ?_⟩
    unfold splitM
    rw [List.map_map]
    rfl)
  rw [List.map_map] at this
  exact this
end Go.SX.Nb
namespace Go.SX.Nb
open Go Go.SX Go.Proofs
set_option maxRecDepth 4000
def letterM (c : UInt8) : Bool := decide ((97 : Int) ≤ c.toNat) && decide ((c.toNat : Int) ≤ 122)
def digitM (c : UInt8) : Bool := decide ((48 : Int) ≤ c.toNat) && decide ((c.toNat : Int) ≤ 57)
theorem c41 (c : UInt8) (Hp : List AObj) : AFun Tryd.prog 41 [.v (.int .u8 (c.toNat : Int))] Hp (.v (.bool (letterM c))) := by
  refine ACall.body [.tmp 2] [0] Tryd.func41 Tryd.ntmps41 (fun d => ?_)
  refine AW.seqR ?_
  refine R.assign ?_
  refine R.fin [0] ?_
  refine AW.seqR ?_
  refine R.move ?_
  refine R.geq ?_
  refine R.move ?_
  refine G.move ?_
  refine G.leq ?_
  refine R.pickAnd ?_
  refine R.assign ?_
  refine R.fin [2] ?_
  refine AW.ret ?_
  exact K.fin (V.one V.tmp)

theorem c43 (c : UInt8) (Hp : List AObj) : AFun Tryd.prog 43 [.v (.int .u8 (c.toNat : Int))] Hp (.v (.bool (digitM c))) := by
  refine ACall.body [.tmp 2] [0] Tryd.func43 Tryd.ntmps43 (fun d => ?_)
  refine AW.seqR ?_
  refine R.assign ?_
  refine R.fin [0] ?_
  refine AW.seqR ?_
  refine R.move ?_
  refine R.geq ?_
  refine R.move ?_
  refine G.move ?_
  refine G.leq ?_
  refine R.pickAnd ?_
  refine R.assign ?_
  refine R.fin [2] ?_
  refine AW.ret ?_
  exact K.fin (V.one V.tmp)

def words : List Str := [[97, 100, 100], [100, 114, 111, 112], [114, 101, 110, 97, 109, 101], [115, 112, 108, 105, 116], [109, 101, 114, 103, 101], [114, 101, 116, 121, 112, 101], [105, 110, 116, 111], [116, 111], [98, 97, 99, 107], [97, 110, 100], [111, 114], [110, 111, 116], [116, 114, 117, 101], [102, 97, 108, 115, 101], [110, 117, 108, 108], [105, 110, 116], [116, 101, 120, 116], [98, 111, 111, 108], [115, 101, 108, 101, 99, 116], [119, 104, 101, 114, 101], [102, 114, 111, 109], [108, 105, 109, 105, 116]]
def reservedM (s : Str) : Bool := words.any (· == s)
theorem words_len : words.length = 22 := rfl
theorem any_at {α : Type} {p : α → Bool} {l : List α} {i : Nat} (h : i < l.length) (hp : p l[i] = true) : l.any p = true := by
  rw [List.any_eq_true]; exact ⟨l[i], List.getElem_mem h, hp⟩
theorem any_none {α : Type} {p : α → Bool} {l : List α} (h : ∀ (j : Nat) (y : α), l[j]? = some y → p y = false) : l.any p = false := by
  rw [List.any_eq_false]
  intro x hx
  obtain ⟨j, hj⟩ := List.getElem?_of_mem hx
  simp [h j x hj]
theorem upto_succ {α : Type} {l : List α} {x : Nat} {p : α → Prop} (hlt : x < l.length) (h : ∀ (j : Nat) (y : α), j < x → l[j]? = some y → p y) (hx : p l[x]) : ∀ (j : Nat) (y : α), j < x + 1 → l[j]? = some y → p y := by
  intro j y hj hy
  rcases Nat.lt_or_ge j x with h' | h'
  · exact h j y h' hy
  · have : j = x := by omega
    subst this
    rw [List.getElem?_eq_getElem hlt] at hy
    injection hy with hy
    subst hy
    exact hx
theorem upto_all {α : Type} {l : List α} {x : Nat} {p : α → Prop} (hge : l.length ≤ x) (h : ∀ (j : Nat) (y : α), j < x → l[j]? = some y → p y) : ∀ (j : Nat) (y : α), l[j]? = some y → p y :=
  fun j y hy => h j y (by have := (List.getElem?_eq_some_iff.1 hy).1; omega) hy
theorem c42 (s : Str) (Hp : List AObj) : AFun Tryd.prog 42 [strA s] Hp (boolA (reservedM s)) := by
  refine ACall.body [.tmp 2] [0] Tryd.func42 Tryd.ntmps42 (fun d => ?_)
  refine AW.seqR ?_
  refine R.assign ?_
  refine R.fin [0] ?_
  refine AW.seqR ?_
  refine R.buildSlice Tryd.underlying72 Tryd.sizeOf9 Tryd.zeroValue9 ?_
  refine R.assignT ?_
  refine R.fin [0, 3] ?_
  refine W.seq ?_
  refine AW.seqR ?_
  refine R.assign ?_
  refine R.fin [0, 3, 4] ?_
  refine AW.loopC (α := Nat) (fun x => ⟨18, setF 0 (strA s) (setF 3 (.slice true 1 (words.map strA)) (setF 4 (intA (x : Nat)) (fun _ => .any))), Hp, [], [], none⟩) (fun x => x ≤ words.length ∧ ∀ (j : Nat) (y : Str), j < x → words[j]? = some y → (y == s) = false) (fun x => words.length - x) (0) (by simp) (StLe.refl _) rfl (fun x hx => ?_)
  refine W.seq ?_
  refine AW.seqR ?_
  refine R.move ?_
  refine R.move ?_
  refine R.len Tryd.underlying72 ?_
  refine R.lss ?_
  refine R.fin [0, 3, 4, 9] ?_
  refine W.cond (fun ht9 => ?_) (fun ht9 => ?_)
  · skip
    have hlt : x < words.length := by simpa using ht9
    have hwl := words_len
    refine AW.skip ?_
    refine K.thN ?_
    refine W.seq ?_
    refine AW.block ?_
    refine AW.seqR ?_
    refine R.move ?_
    refine R.move ?_
    refine R.indexAddr (x) (strA words[x]) Tryd.underlying72 Tryd.sizeOf9 (getMap hlt) ?_
    refine R.loadRo Tryd.isAgg9 ?_
    refine R.move ?_
    refine R.seql ?_
    refine R.fin [0, 3, 4, 17] ?_
    refine W.cond (fun ht17 => ?_) (fun ht17 => ?_)
    · skip
      refine AW.seqR ?_
      refine R.assign ?_
      refine R.fin [2] ?_
      refine AW.ret ?_
      refine K.blR ?_
      refine K.thR ?_
      refine K.lpR ?_
      refine K.thR ?_
      exact K.fin (V.one V.tmp) ⟨by rw [show reservedM s = true from any_at hlt ht17], rfl⟩
    · skip
      refine AW.skip ?_
      refine K.blN ?_
      refine K.thN ?_
      refine AW.region ?_
      refine R.move ?_
      refine R.add64 ?_
      refine R.assign ?_
      refine R.fin [0, 3, 4] ?_
      exact K.lpN (x + 1) ⟨hlt, upto_succ hlt hx.2 ht17⟩ (by have := words_len; omega) (StCut.of_eq rfl)
  · skip
    refine AW.exit ?_
    refine K.thE ?_
    refine K.lpE ?_
    refine K.thN ?_
    refine AW.seqR ?_
    refine R.assign ?_
    refine R.fin [2] ?_
    refine AW.ret ?_
    exact K.fin (V.one V.tmp) ⟨by rw [show reservedM s = false from any_none (upto_all (by simp at ht9; omega) hx.2)], rfl⟩

end Go.SX.Nb
namespace Go.SX.Nb
open Go Go.SX Go.Proofs
set_option maxRecDepth 4000
def charM (c : UInt8) : Bool := letterM c || digitM c || c == 95
def nameM (s : Str) : Bool := match s with
  | [] => false
  | c :: _ => decide (s.length ≤ 16) && letterM c && !reservedM s && s.all charM
theorem not_none {α : Type} {p : α → Bool} {l : List α} {i : Nat} (h : i < l.length) (hp : p l[i] = false) : l.all p = false := by
  rw [List.all_eq_false]; exact ⟨l[i], List.getElem_mem h, by simp [hp]⟩
theorem all_of {α : Type} {p : α → Bool} {l : List α} (h : ∀ (j : Nat) (y : α), l[j]? = some y → p y = true) : l.all p = true := by
  rw [List.all_eq_true]
  intro x hx
  obtain ⟨j, hj⟩ := List.getElem?_of_mem hx
  exact h j x hj
theorem headGet {s : Str} (h : s ≠ []) : s[0]? = some (s.head h) := by cases s with
  | nil => exact absurd rfl h
  | cons c r => rfl
theorem nn {s : Str} {b : Bool} (h : ((((s.length : Int) == 0) || b) == false) = true) : s ≠ [] := by rintro rfl; simp at h
theorem headD_get {s : Str} (h : s ≠ []) : s[0]? = some (s.headD 0) := by cases s with
  | nil => exact absurd rfl h
  | cons c r => rfl
theorem nameM_eq (s : Str) : nameM s = (!((s.length : Int) == 0 || decide ((16 : Int) < s.length) || !letterM (s.headD 0) || reservedM s) && s.all charM) := by
  cases s with
  | nil => rfl
  | cons c r =>
    have h1 : (((c :: r).length : Int) == 0) = false := by simp; omega
    have h2 : decide ((c :: r).length ≤ 16) = !decide ((16 : Int) < (c :: r).length) := by
      by_cases h : (c :: r).length ≤ 16
      · have : ¬ ((16 : Int) < (c :: r).length) := by omega
        simp only [h, this, decide_true, decide_false, Bool.not_false]
      · have : ((16 : Int) < (c :: r).length) := by omega
        simp only [h, this, decide_true, decide_false, Bool.not_true]
    simp only [nameM, h1, h2, List.headD_cons, Bool.not_or, Bool.not_not, Bool.false_or]
theorem char_ok {c : UInt8} (h : ((!letterM c && !digitM c) && ((c.toNat : Int) != 95)) = false) : charM c = true := by
  unfold charM
  have e : ((c.toNat : Int) != 95) = !(c == 95) := by
    by_cases hc : c = 95
    · subst hc; rfl
    · have : c.toNat ≠ 95 := fun h => hc (UInt8.toNat_inj.1 h)
      have : (c.toNat : Int) ≠ 95 := by omega
      rw [bne_iff_ne.2 this, beq_eq_false_iff_ne.2 hc]; rfl
  rw [e] at h
  revert h
  cases letterM c <;> cases digitM c <;> cases (c == 95) <;> simp
theorem char_no {c : UInt8} (h : ((!letterM c && !digitM c) && ((c.toNat : Int) != 95)) = true) : charM c = false := by
  unfold charM
  have e : ((c.toNat : Int) != 95) = !(c == 95) := by
    by_cases hc : c = 95
    · subst hc; rfl
    · have : c.toNat ≠ 95 := fun h => hc (UInt8.toNat_inj.1 h)
      have : (c.toNat : Int) ≠ 95 := by omega
      rw [bne_iff_ne.2 this, beq_eq_false_iff_ne.2 hc]; rfl
  rw [e] at h
  revert h
  cases letterM c <;> cases digitM c <;> cases (c == 95) <;> simp
theorem c33 (s : Str) (hs : s.length ≤ 1048576) (Hp : List AObj) : AFun Tryd.prog 33 [strA s] Hp (boolA (nameM s)) := by
  refine ACall.body [.tmp 2] [0] Tryd.func33 Tryd.ntmps33 (fun d => ?_)
  refine AW.seqR ?_
  refine R.assign ?_
  refine R.fin [0] ?_
  refine W.seq ?_
  refine AW.seqR ?_
  refine R.move ?_
  refine R.slen Tryd.underlying9 ?_
  refine R.eql ?_
  refine R.move ?_
  refine G.move ?_
  refine G.slen Tryd.underlying9 ?_
  refine G.gtr ?_
  refine R.pickOr ?_
  refine R.move ?_
  refine G.move ?_
  refine G.sindex 0 (s.headD 0) Tryd.underlying9 (fun hB => headD_get (nn hB))  ?_
  refine G.call Tryd.call41 (fun hB => c41 (s.headD 0) _) ?_
  refine G.not ?_
  refine R.pickOr ?_
  refine R.move ?_
  refine G.move ?_
  refine G.call Tryd.call42 (fun hB => c42 s _) ?_
  refine R.pickOr ?_
  refine R.fin [0, 21] ?_
  refine W.cond (fun ht21 => ?_) (fun ht21 => ?_)
  · skip
    refine AW.seqR ?_
    refine R.assign ?_
    refine R.fin [2] ?_
    refine AW.ret ?_
    refine K.thR ?_
    exact K.fin (V.one V.tmp) ⟨by rw [nameM_eq, ht21]; rfl, rfl⟩
  · skip
    refine AW.skip ?_
    refine K.thN ?_
    refine W.seq ?_
    refine AW.seqR ?_
    refine R.assign ?_
    refine R.fin [0, 3] ?_
    refine AW.loopC (α := Nat) (fun x => ⟨46, setF 0 (strA s) (setF 3 (intA (x : Nat)) (fun _ => .any)), Hp, [], [], none⟩) (fun x => x ≤ s.length ∧ ∀ (j : Nat) (y : UInt8), j < x → s[j]? = some y → charM y = true) (fun x => s.length - x) (0) (by simp) (StLe.refl _) rfl (fun x hx => ?_)
    refine W.seq ?_
    refine AW.seqR ?_
    refine R.move ?_
    refine R.move ?_
    refine R.slen Tryd.underlying9 ?_
    refine R.lss ?_
    refine R.fin [0, 3, 25] ?_
    refine W.cond (fun ht25 => ?_) (fun ht25 => ?_)
    · skip
      have hlt : x < s.length := by simpa using ht25
      refine AW.skip ?_
      refine K.thN ?_
      refine W.seq ?_
      refine AW.block ?_
      refine AW.seqR ?_
      refine R.move ?_
      refine R.move ?_
      refine R.sindex x s[x] Tryd.underlying9 (List.getElem?_eq_getElem hlt)  ?_
      refine R.call Tryd.call41 (c41 s[x] _) ?_
      refine R.not ?_
      refine R.move ?_
      refine G.move ?_
      refine G.move ?_
      refine G.sindex x s[x] Tryd.underlying9 (fun _ => List.getElem?_eq_getElem hlt)  ?_
      refine G.call Tryd.call43 (fun hB => c43 s[x] _) ?_
      refine G.not ?_
      refine R.pickAnd ?_
      refine R.move ?_
      refine G.move ?_
      refine G.move ?_
      refine G.sindex x s[x] Tryd.underlying9 (fun _ => List.getElem?_eq_getElem hlt)  ?_
      refine G.neq ?_
      refine R.pickAnd ?_
      refine R.fin [0, 3, 45] ?_
      refine W.cond (fun ht45 => ?_) (fun ht45 => ?_)
      · skip
        refine AW.seqR ?_
        refine R.assign ?_
        refine R.fin [2] ?_
        refine AW.ret ?_
        refine K.blR ?_
        refine K.thR ?_
        refine K.lpR ?_
        refine K.thR ?_
        exact K.fin (V.one V.tmp) ⟨by rw [nameM_eq, ht21, not_none hlt (char_no ht45)]; rfl, rfl⟩
      · skip
        refine AW.skip ?_
        refine K.blN ?_
        refine K.thN ?_
        refine AW.region ?_
        refine R.move ?_
        refine R.add64 ?_
        refine R.assign ?_
        refine R.fin [0, 3] ?_
        exact K.lpN (x + 1) ⟨hlt, upto_succ hlt hx.2 (char_ok ht45)⟩ (by omega) (StCut.of_eq rfl)
    · skip
      refine AW.exit ?_
      refine K.thE ?_
      refine K.lpE ?_
      refine K.thN ?_
      refine AW.seqR ?_
      refine R.assign ?_
      refine R.fin [2] ?_
      refine AW.ret ?_
      exact K.fin (V.one V.tmp) ⟨by rw [nameM_eq, ht21, all_of (upto_all (by simp at ht25; omega) hx.2)]; rfl, rfl⟩

end Go.SX.Nb
namespace Go.SX.Nb
open Go Go.SX Go.Proofs
set_option maxRecDepth 4000
def findM (nm : Str) (c : List Col) : Int := match c.findIdx? (fun y => y.name == nm) with | some i => i | none => -1
theorem findM_at {nm : List UInt8} {c : List Col} {x : Nat} (h : x < c.length) (h1 : c[x].name = nm) (h2 : ∀ (j : Nat) (y : Col), j < x → c[j]? = some y → ¬ (y.name = nm)) : findM nm c = x := by
  have : c.findIdx? (fun y => y.name == nm) = some x := by
    rw [List.findIdx?_eq_some_iff_getElem]
    exact ⟨h, by simpa using h1, fun j hj => by simpa using h2 j c[j] hj (List.getElem?_eq_getElem _)⟩
  simp [findM, this]
theorem findM_none {nm : List UInt8} {c : List Col} (h : ∀ (j : Nat) (y : Col), c[j]? = some y → ¬ (y.name = nm)) : findM nm c = -1 := by
  have : c.findIdx? (fun y => y.name == nm) = none := by
    rw [List.findIdx?_eq_none_iff]
    intro y hy
    obtain ⟨j, hj⟩ := List.getElem?_of_mem hy
    simpa using h j y hj
  simp [findM, this]
structure OkCols (c : List Col) : Prop where
  len : c.length ≤ 1048576
  names : ∀ y ∈ c, y.name.length ≤ 1048576
theorem c34 (c : List Col) (hc : OkCols c) (nm : Str) (Hp : List AObj) : AFun Tryd.prog 34 [colsA c, strA nm] Hp (intA (findM nm c)) := by
  refine ACall.body [.tmp 4] [0, 1] Tryd.func34 Tryd.ntmps34 (fun d => ?_)
  refine AW.seqR ?_
  refine R.assign ?_
  refine R.fin [0, 1] ?_
  refine W.seq ?_
  refine AW.seqR ?_
  refine R.assign ?_
  refine R.fin [0, 1, 5] ?_
  refine AW.loopC (α := Nat) (fun x => ⟨20, setF 0 (colsA c) (setF 1 (strA nm) (setF 5 (intA (x : Nat)) (fun _ => .any))), Hp, [], [], none⟩) (fun x => x ≤ c.length ∧ ∀ (j : Nat) (y : Col), j < x → c[j]? = some y → ¬ (y.name = nm)) (fun x => c.length - x) (0) (by simp) (StLe.refl _) rfl (fun x hx => ?_)
  refine W.seq ?_
  refine AW.seqR ?_
  refine R.move ?_
  refine R.move ?_
  refine R.len Tryd.underlying23 ?_
  refine R.lss ?_
  refine R.fin [0, 1, 5, 9] ?_
  refine W.cond (fun ht9 => ?_) (fun ht9 => ?_)
  · skip
    have hlt : x < c.length := by simpa using ht9
    have hcl := hc.len
    refine AW.skip ?_
    refine K.thN ?_
    refine W.seq ?_
    refine AW.block ?_
    refine AW.seqR ?_
    refine R.move ?_
    refine R.move ?_
    refine R.indexAddr (x) (colA c[x]) Tryd.underlying23 Tryd.sizeOf49 (getMap hlt) ?_
    refine R.fieldAddrRo (off := 0) Tryd.underlying49 Tryd.sizeOf9 ?_
    refine R.loadRo Tryd.isAgg9 ?_
    refine R.move ?_
    refine R.seql ?_
    refine R.fin [0, 1, 5, 18] ?_
    refine W.cond (fun ht18 => ?_) (fun ht18 => ?_)
    · skip
      refine AW.seqR ?_
      refine R.move ?_
      refine R.assign ?_
      refine R.fin [4] ?_
      refine AW.ret ?_
      refine K.blR ?_
      refine K.thR ?_
      refine K.lpR ?_
      refine K.thR ?_
      exact K.fin (V.one V.tmp) ⟨by rw [findM_at hlt (by simpa using ht18) hx.2], rfl⟩
    · skip
      refine AW.skip ?_
      refine K.blN ?_
      refine K.thN ?_
      refine AW.region ?_
      refine R.move ?_
      refine R.add64 ?_
      refine R.assign ?_
      refine R.fin [0, 1, 5] ?_
      exact K.lpN (x + 1) ⟨hlt, upto_succ hlt hx.2 (by simpa using ht18)⟩ (by omega) (StCut.of_eq rfl)
  · skip
    refine AW.exit ?_
    refine K.thE ?_
    refine K.lpE ?_
    refine K.thN ?_
    refine AW.seqR ?_
    refine R.assign ?_
    refine R.fin [4] ?_
    refine AW.ret ?_
    exact K.fin (V.one V.tmp) ⟨by rw [findM_none (upto_all (by simp at ht9; omega) hx.2)], rfl⟩

def colAt (c : List Col) (x : Nat) (y : Col) : Bool := !(((!nameM y.name || decide (y.kind < 1)) || decide ((3 : Int) < y.kind)) || (findM y.name c != (x : Int)))
def colsM (c : List Col) : Bool := c.zipIdx.all fun x => colAt c x.2 x.1
theorem colsM_true {c : List Col} : colsM c = true ↔ ∀ (j : Nat) (y : Col), c[j]? = some y → colAt c j y = true := by
  unfold colsM
  rw [List.all_eq_true]
  constructor
  · intro h j y hj
    exact h (y, j) (by rw [List.mem_zipIdx_iff_getElem?]; exact hj)
  · rintro h ⟨y, j⟩ hx
    rw [List.mem_zipIdx_iff_getElem?] at hx
    exact h j y hx
theorem uptoI_succ {α : Type} {l : List α} {x : Nat} {p : Nat → α → Prop} (hlt : x < l.length) (h : ∀ (j : Nat) (y : α), j < x → l[j]? = some y → p j y) (hx : p x l[x]) : ∀ (j : Nat) (y : α), j < x + 1 → l[j]? = some y → p j y := by
  intro j y hj hy
  rcases Nat.lt_or_ge j x with h' | h'
  · exact h j y h' hy
  · have : j = x := by omega
    subst this
    rw [List.getElem?_eq_getElem hlt] at hy
    injection hy with hy
    subst hy
    exact hx
theorem uptoI_all {α : Type} {l : List α} {x : Nat} {p : Nat → α → Prop} (hge : l.length ≤ x) (h : ∀ (j : Nat) (y : α), j < x → l[j]? = some y → p j y) : ∀ (j : Nat) (y : α), l[j]? = some y → p j y :=
  fun j y hy => h j y (by have := (List.getElem?_eq_some_iff.1 hy).1; omega) hy
theorem c21 (c : List Col) (hc : OkCols c) (Hp : List AObj) : AFun Tryd.prog 21 [colsA c] Hp (boolA (colsM c)) := by
  refine ACall.body [.tmp 2] [0] Tryd.func21 Tryd.ntmps21 (fun d => ?_)
  refine AW.seqR ?_
  refine R.assign ?_
  refine R.fin [0] ?_
  refine W.seq ?_
  refine AW.seqR ?_
  refine R.assign ?_
  refine R.fin [0, 3] ?_
  refine AW.loopC (α := Nat) (fun x => ⟨44, setF 0 (colsA c) (setF 3 (intA (x : Nat)) (fun _ => .any)), Hp, [], [], none⟩) (fun x => x ≤ c.length ∧ ∀ (j : Nat) (y : Col), j < x → c[j]? = some y → colAt c j y = true) (fun x => c.length - x) (0) (by simp) (StLe.refl _) rfl (fun x hx => ?_)
  refine W.seq ?_
  refine AW.seqR ?_
  refine R.move ?_
  refine R.move ?_
  refine R.len Tryd.underlying23 ?_
  refine R.lss ?_
  refine R.fin [0, 3, 7] ?_
  refine W.cond (fun ht7 => ?_) (fun ht7 => ?_)
  · skip
    have hlt : x < c.length := by simpa using ht7
    have hcl := hc.len
    refine AW.skip ?_
    refine K.thN ?_
    refine W.seq ?_
    refine AW.block ?_
    refine AW.seqR ?_
    refine R.move ?_
    refine R.move ?_
    refine R.indexAddr (x) (colA c[x]) Tryd.underlying23 Tryd.sizeOf49 (getMap hlt) ?_
    refine R.fieldAddrRo (off := 0) Tryd.underlying49 Tryd.sizeOf9 ?_
    refine R.loadRo Tryd.isAgg9 ?_
    refine R.call Tryd.call33 (c33 c[x].name (hc.names _ (List.getElem_mem hlt)) _) ?_
    refine R.not ?_
    refine R.move ?_
    refine G.move ?_
    refine G.move ?_
    refine G.indexAddr (x) (colA c[x]) Tryd.underlying23 Tryd.sizeOf49 (fun _ => getMap hlt) ?_
    refine G.fieldAddrRo (off := 1) Tryd.underlying49 Tryd.sizeOf3 ?_
    refine G.loadRo Tryd.isAgg3 ?_
    refine G.lss ?_
    refine R.pickOr ?_
    refine R.move ?_
    refine G.move ?_
    refine G.move ?_
    refine G.indexAddr (x) (colA c[x]) Tryd.underlying23 Tryd.sizeOf49 (fun _ => getMap hlt) ?_
    refine G.fieldAddrRo (off := 1) Tryd.underlying49 Tryd.sizeOf3 ?_
    refine G.loadRo Tryd.isAgg3 ?_
    refine G.gtr ?_
    refine R.pickOr ?_
    refine R.move ?_
    refine G.move ?_
    refine G.move ?_
    refine G.move ?_
    refine G.indexAddr (x) (colA c[x]) Tryd.underlying23 Tryd.sizeOf49 (fun _ => getMap hlt) ?_
    refine G.fieldAddrRo (off := 0) Tryd.underlying49 Tryd.sizeOf9 ?_
    refine G.loadRo Tryd.isAgg9 ?_
    refine G.call Tryd.call34 (fun hB => c34 c hc c[x].name _) ?_
    refine G.move ?_
    refine G.neq ?_
    refine R.pickOr ?_
    refine R.fin [0, 3, 43] ?_
    refine W.cond (fun ht43 => ?_) (fun ht43 => ?_)
    · skip
      refine AW.seqR ?_
      refine R.assign ?_
      refine R.fin [2] ?_
      refine AW.ret ?_
      refine K.blR ?_
      refine K.thR ?_
      refine K.lpR ?_
      refine K.thR ?_
      exact K.fin (V.one V.tmp) ⟨by rw [show colsM c = false from Bool.eq_false_iff.2 fun h => by have := colsM_true.1 h x c[x] (List.getElem?_eq_getElem hlt); unfold colAt at this; rw [ht43] at this; cases this], rfl⟩
    · skip
      refine AW.skip ?_
      refine K.blN ?_
      refine K.thN ?_
      refine AW.region ?_
      refine R.move ?_
      refine R.add64 ?_
      refine R.assign ?_
      refine R.fin [0, 3] ?_
      exact K.lpN (x + 1) ⟨hlt, uptoI_succ hlt hx.2 (by unfold colAt; rw [ht43]; rfl)⟩ (by omega) (StCut.of_eq rfl)
  · skip
    refine AW.exit ?_
    refine K.thE ?_
    refine K.lpE ?_
    refine K.thN ?_
    refine AW.seqR ?_
    refine R.assign ?_
    refine R.fin [2] ?_
    refine AW.ret ?_
    exact K.fin (V.one V.tmp) ⟨by rw [colsM_true.2 (uptoI_all (by simp at ht7; omega) hx.2)], rfl⟩

def rightM (c : List Col) : Bool := decide ((c.length : Int) ≤ 12) && colsM c
theorem c8 (c : List Col) (hc : OkCols c) (Hp : List AObj) : AFun Tryd.prog 8 [colsA c] Hp (boolA (rightM c)) := by
  refine ACall.body [.tmp 2] [0] Tryd.func8 Tryd.ntmps8 (fun d => ?_)
  refine AW.seqR ?_
  refine R.assign ?_
  refine R.fin [0] ?_
  refine AW.seqR ?_
  refine R.move ?_
  refine R.len Tryd.underlying23 ?_
  refine R.leq ?_
  refine R.move ?_
  refine G.move ?_
  refine G.call Tryd.call21 (fun hB => c21 c hc _) ?_
  refine R.pickAnd ?_
  refine R.assign ?_
  refine R.fin [2] ?_
  refine AW.ret ?_
  exact K.fin (V.one V.tmp) ⟨by unfold rightM; simp, rfl⟩

def plainM (v : Val) : Bool := if v.kind == 0 then v.n == 0 && v.s == [] else if v.kind == 1 then v.s == [] else if v.kind == 2 then v.n == 0 && decide ((v.s.length : Int) ≤ 200) else v.kind == 3 && v.s == [] && decide (0 ≤ v.n) && decide (v.n ≤ 1)
theorem c25 (v : Val) (Hp : List AObj) : AFun Tryd.prog 25 [valA v] Hp (boolA (plainM v)) := by
  refine ACall.body [.tmp 2] [0] Tryd.func25 Tryd.ntmps25 (fun d => ?_)
  refine AW.seqR ?_
  refine R.box ?_
  refine R.assign ?_
  refine R.fin [1] ?_
  refine W.seq ?_
  refine AW.seqR ?_
  refine R.fieldAddrPtr (fo := 0) Tryd.underlying64 Tryd.sizeOf3 ?_
  refine R.loadOwn Tryd.isAgg3 ?_
  refine R.eql ?_
  refine R.fin [1, 5] ?_
  refine W.cond (fun ht5 => ?_) (fun ht5 => ?_)
  · skip
    refine AW.seqR ?_
    refine R.fieldAddrPtr (fo := 1) Tryd.underlying64 Tryd.sizeOf2 ?_
    refine R.loadOwn Tryd.isAgg2 ?_
    refine R.eql ?_
    refine R.move ?_
    refine G.fieldAddrPtr (fo := 2) Tryd.underlying64 Tryd.sizeOf9 ?_
    refine G.loadOwn Tryd.isAgg9 ?_
    refine G.seql ?_
    refine R.pickAnd ?_
    refine R.assign ?_
    refine R.fin [2] ?_
    refine AW.ret ?_
    refine K.thR ?_
    exact K.fin (V.one V.tmp) ⟨by simp [plainM, ht5], rfl⟩
  · skip
    refine AW.skip ?_
    refine K.thN ?_
    refine W.seq ?_
    refine AW.seqR ?_
    refine R.fieldAddrPtr (fo := 0) Tryd.underlying64 Tryd.sizeOf3 ?_
    refine R.loadOwn Tryd.isAgg3 ?_
    refine R.eql ?_
    refine R.fin [1, 16] ?_
    refine W.cond (fun ht16 => ?_) (fun ht16 => ?_)
    · skip
      refine AW.seqR ?_
      refine R.fieldAddrPtr (fo := 2) Tryd.underlying64 Tryd.sizeOf9 ?_
      refine R.loadOwn Tryd.isAgg9 ?_
      refine R.seql ?_
      refine R.assign ?_
      refine R.fin [2] ?_
      refine AW.ret ?_
      refine K.thR ?_
      exact K.fin (V.one V.tmp) ⟨by simp [plainM, ht5, ht16], rfl⟩
    · skip
      refine AW.skip ?_
      refine K.thN ?_
      refine W.seq ?_
      refine AW.seqR ?_
      refine R.fieldAddrPtr (fo := 0) Tryd.underlying64 Tryd.sizeOf3 ?_
      refine R.loadOwn Tryd.isAgg3 ?_
      refine R.eql ?_
      refine R.fin [1, 22] ?_
      refine W.cond (fun ht22 => ?_) (fun ht22 => ?_)
      · skip
        refine AW.seqR ?_
        refine R.fieldAddrPtr (fo := 1) Tryd.underlying64 Tryd.sizeOf2 ?_
        refine R.loadOwn Tryd.isAgg2 ?_
        refine R.eql ?_
        refine R.move ?_
        refine G.fieldAddrPtr (fo := 2) Tryd.underlying64 Tryd.sizeOf9 ?_
        refine G.loadOwn Tryd.isAgg9 ?_
        refine G.slen Tryd.underlying9 ?_
        refine G.leq ?_
        refine R.pickAnd ?_
        refine R.assign ?_
        refine R.fin [2] ?_
        refine AW.ret ?_
        refine K.thR ?_
        exact K.fin (V.one V.tmp) ⟨by simp [plainM, ht5, ht16, ht22], rfl⟩
      · skip
        refine AW.skip ?_
        refine K.thN ?_
        refine AW.seqR ?_
        refine R.fieldAddrPtr (fo := 0) Tryd.underlying64 Tryd.sizeOf3 ?_
        refine R.loadOwn Tryd.isAgg3 ?_
        refine R.eql ?_
        refine R.move ?_
        refine G.fieldAddrPtr (fo := 2) Tryd.underlying64 Tryd.sizeOf9 ?_
        refine G.loadOwn Tryd.isAgg9 ?_
        refine G.seql ?_
        refine R.pickAnd ?_
        refine R.move ?_
        refine G.fieldAddrPtr (fo := 1) Tryd.underlying64 Tryd.sizeOf2 ?_
        refine G.loadOwn Tryd.isAgg2 ?_
        refine G.geq ?_
        refine R.pickAnd ?_
        refine R.move ?_
        refine G.fieldAddrPtr (fo := 1) Tryd.underlying64 Tryd.sizeOf2 ?_
        refine G.loadOwn Tryd.isAgg2 ?_
        refine G.leq ?_
        refine R.pickAnd ?_
        refine R.assign ?_
        refine R.fin [2] ?_
        refine AW.ret ?_
        exact K.fin (V.one V.tmp) ⟨by simp [plainM, ht5, ht16, ht22], rfl⟩

end Go.SX.Nb
namespace Go.SX.Nb
open Go Go.SX Go.Proofs
set_option maxRecDepth 4000
theorem plain3 (e : Bool) (n : Int) : (e && (n == 0 || n == 1)) = (e && decide (0 ≤ n) && decide (n ≤ 1)) := by
  cases e
  · rfl
  · rw [Bool.eq_iff_iff]
    simp
    omega
theorem bytesNil (s : Str) : (s == []) = s.isEmpty := by cases s <;> rfl
theorem c57 (v : Val) (Hp : List AObj) : AFun Tryd.prog 57 [valA v] Hp (boolA (plainM v)) := by
  refine ACall.body [.tmp 2] [0] Tryd.func57 Tryd.ntmps57 (fun d => ?_)
  refine AW.seqR ?_
  refine R.box ?_
  refine R.assign ?_
  refine R.fin [1] ?_
  refine W.seq ?_
  refine AW.seqR ?_
  refine R.fieldAddrPtr (fo := 0) Tryd.underlying64 Tryd.sizeOf3 ?_
  refine R.loadOwn Tryd.isAgg3 ?_
  refine R.fin [1, 4] ?_
  refine AW.block ?_
  refine AW.seqR ?_
  refine R.eql ?_
  refine R.assign ?_
  refine R.fin [1, 4, 5] ?_
  refine W.cond (fun ht5 => ?_) (fun ht5 => ?_)
  · skip
    refine AW.seqR ?_
    refine R.loadOwnN Tryd.isAgg64 Tryd.sizeOf64 ?_
    refine R.build (places := #[(0, 1), (1, 1), (2, 1)]) Tryd.underlying64 (fun w => by simp) Tryd.zeroValue64 ?_
    refine R.eqlAgg eg64 (equal64 v.kind v.n 0 0 v.s []) ?_
    refine R.assign ?_
    refine R.fin [2] ?_
    refine AW.ret ?_
    refine K.blR ?_
    refine K.thR ?_
    exact K.fin (V.one V.tmp) ⟨by simp [plainM, ht5], rfl⟩
  · skip
    refine AW.seqR ?_
    refine R.eql ?_
    refine R.assign ?_
    refine R.fin [1, 4, 10] ?_
    refine W.cond (fun ht10 => ?_) (fun ht10 => ?_)
    · skip
      refine AW.seqR ?_
      refine R.fieldAddrPtr (fo := 2) Tryd.underlying64 Tryd.sizeOf9 ?_
      refine R.loadOwn Tryd.isAgg9 ?_
      refine R.seql ?_
      refine R.assign ?_
      refine R.fin [2] ?_
      refine AW.ret ?_
      refine K.blR ?_
      refine K.thR ?_
      exact K.fin (V.one V.tmp) ⟨by simp [plainM, ht5, ht10], rfl⟩
    · skip
      refine AW.seqR ?_
      refine R.eql ?_
      refine R.assign ?_
      refine R.fin [1, 4, 15] ?_
      refine W.cond (fun ht15 => ?_) (fun ht15 => ?_)
      · skip
        refine AW.seqR ?_
        refine R.fieldAddrPtr (fo := 1) Tryd.underlying64 Tryd.sizeOf2 ?_
        refine R.loadOwn Tryd.isAgg2 ?_
        refine R.eql ?_
        refine R.move ?_
        refine G.fieldAddrPtr (fo := 2) Tryd.underlying64 Tryd.sizeOf9 ?_
        refine G.loadOwn Tryd.isAgg9 ?_
        refine G.slen Tryd.underlying9 ?_
        refine G.leq ?_
        refine R.pickAnd ?_
        refine R.assign ?_
        refine R.fin [2] ?_
        refine AW.ret ?_
        refine K.blR ?_
        refine K.thR ?_
        exact K.fin (V.one V.tmp) ⟨by simp [plainM, ht5, ht10, ht15], rfl⟩
      · skip
        refine AW.seqR ?_
        refine R.eql ?_
        refine R.assign ?_
        refine R.fin [1, 26] ?_
        refine W.cond (fun ht26 => ?_) (fun ht26 => ?_)
        · skip
          refine AW.seqR ?_
          refine R.fieldAddrPtr (fo := 2) Tryd.underlying64 Tryd.sizeOf9 ?_
          refine R.loadOwn Tryd.isAgg9 ?_
          refine R.seql ?_
          refine R.move ?_
          refine G.fieldAddrPtr (fo := 1) Tryd.underlying64 Tryd.sizeOf2 ?_
          refine G.loadOwn Tryd.isAgg2 ?_
          refine G.eql ?_
          refine G.move ?_
          refine G.fieldAddrPtr (fo := 1) Tryd.underlying64 Tryd.sizeOf2 ?_
          refine G.loadOwn Tryd.isAgg2 ?_
          refine G.eql ?_
          refine G.pickOr ?_
          refine R.pickAnd ?_
          refine R.assign ?_
          refine R.fin [2] ?_
          refine AW.ret ?_
          refine K.blR ?_
          refine K.thR ?_
          exact K.fin (V.one V.tmp) ⟨by simp [plainM, ht5, ht10, ht15, ht26]; rw [plain3], rfl⟩
        · skip
          refine AW.skip ?_
          refine K.blN ?_
          refine K.thN ?_
          refine AW.seqR ?_
          refine R.assign ?_
          refine R.fin [2] ?_
          refine AW.ret ?_
          exact K.fin (V.one V.tmp) ⟨by simp [plainM, ht5, ht10, ht15, ht26], rfl⟩

def manyM (c : List Col) : Bool := decide ((50 : Int) < c.length) || c.any fun y => decide ((100 : Int) < y.name.length)
theorem c6 (c : List Col) (hc : OkCols c) (Hp : List AObj) : AFun Tryd.prog 6 [colsA c] Hp (boolA (manyM c)) := by
  refine ACall.body [.tmp 2] [0] Tryd.func6 Tryd.ntmps6 (fun d => ?_)
  refine AW.seqR ?_
  refine R.assign ?_
  refine R.fin [0] ?_
  refine W.seq ?_
  refine AW.seqR ?_
  refine R.move ?_
  refine R.len Tryd.underlying23 ?_
  refine R.gtr ?_
  refine R.fin [0, 6] ?_
  refine W.cond (fun ht6 => ?_) (fun ht6 => ?_)
  · skip
    refine AW.seqR ?_
    refine R.assign ?_
    refine R.fin [2] ?_
    refine AW.ret ?_
    refine K.thR ?_
    exact K.fin (V.one V.tmp) ⟨by simp [manyM] at ht6 ⊢; omega, rfl⟩
  · skip
    refine AW.skip ?_
    refine K.thN ?_
    refine W.seq ?_
    refine AW.seqR ?_
    refine R.assign ?_
    refine R.fin [0, 3] ?_
    refine AW.loopC (α := Nat) (fun x => ⟨20, setF 0 (colsA c) (setF 3 (intA (x : Nat)) (fun _ => .any)), Hp, [], [], none⟩) (fun x => x ≤ c.length ∧ ∀ (j : Nat) (y : Col), j < x → c[j]? = some y → decide ((100 : Int) < y.name.length) = false) (fun x => c.length - x) (0) (by simp) (StLe.refl _) rfl (fun x hx => ?_)
    refine W.seq ?_
    refine AW.seqR ?_
    refine R.move ?_
    refine R.move ?_
    refine R.len Tryd.underlying23 ?_
    refine R.lss ?_
    refine R.fin [0, 3, 10] ?_
    refine W.cond (fun ht10 => ?_) (fun ht10 => ?_)
    · skip
      have hlt : x < c.length := by simpa using ht10
      have hcl := hc.len
      refine AW.skip ?_
      refine K.thN ?_
      refine W.seq ?_
      refine AW.block ?_
      refine AW.seqR ?_
      refine R.move ?_
      refine R.move ?_
      refine R.indexAddr (x) (colA c[x]) Tryd.underlying23 Tryd.sizeOf49 (getMap hlt) ?_
      refine R.fieldAddrRo (off := 0) Tryd.underlying49 Tryd.sizeOf9 ?_
      refine R.loadRo Tryd.isAgg9 ?_
      refine R.slen Tryd.underlying9 ?_
      refine R.gtr ?_
      refine R.fin [0, 3, 19] ?_
      refine W.cond (fun ht19 => ?_) (fun ht19 => ?_)
      · skip
        refine AW.seqR ?_
        refine R.assign ?_
        refine R.fin [2] ?_
        refine AW.ret ?_
        refine K.blR ?_
        refine K.thR ?_
        refine K.lpR ?_
        refine K.thR ?_
        exact K.fin (V.one V.tmp) ⟨by rw [show manyM c = true from by unfold manyM; rw [any_at (p := fun y : Col => decide ((100 : Int) < y.name.length)) hlt ht19, Bool.or_true]], rfl⟩
      · skip
        refine AW.skip ?_
        refine K.blN ?_
        refine K.thN ?_
        refine AW.region ?_
        refine R.move ?_
        refine R.add64 ?_
        refine R.assign ?_
        refine R.fin [0, 3] ?_
        exact K.lpN (x + 1) ⟨hlt, upto_succ hlt hx.2 ht19⟩ (by omega) (StCut.of_eq rfl)
    · skip
      refine AW.exit ?_
      refine K.thE ?_
      refine K.lpE ?_
      refine K.thN ?_
      refine AW.seqR ?_
      refine R.assign ?_
      refine R.fin [2] ?_
      refine AW.ret ?_
      exact K.fin (V.one V.tmp) ⟨by rw [show manyM c = false from by unfold manyM; rw [any_none (upto_all (by simp at ht10; omega) hx.2)]; simpa using ht6], rfl⟩

theorem lenNe {α : Type} [DecidableEq α] {a b : List α} (h : ((a.length : Int) != b.length) = true) : decide (a = b) = false := by
  rw [decide_eq_false_iff_not]
  rintro rfl
  simp at h
theorem atNe {α : Type} [DecidableEq α] {a b : List α} {x : Nat} (h1 : x < a.length) (h2 : x < b.length) (h : a[x] ≠ b[x]) : decide (a = b) = false := by
  rw [decide_eq_false_iff_not]
  rintro rfl
  exact h rfl
theorem lenEq {α β : Type} {a : List α} {b : List β} (hl : ((a.length : Int) != b.length) = false) : a.length = b.length := by simp at hl; omega
theorem allEq {α : Type} [DecidableEq α] {a b : List α} (hl : ((a.length : Int) != b.length) = false) (h : ∀ (j : Nat) (y : α), a[j]? = some y → b[j]? = some y) : decide (a = b) = true := by
  rw [decide_eq_true_eq]
  have hl' : a.length = b.length := lenEq hl
  apply List.ext_getElem? fun i => ?_
  cases hi : a[i]? with
  | some y => exact (h i y hi).symm
  | none => rw [List.getElem?_eq_none_iff] at hi; exact (List.getElem?_eq_none (by omega)).symm
theorem lenEqM {α β γ δ : Type} {a : List α} {b : List β} {f : α → γ} {g : β → δ} (hl : (((a.map f).length : Int) != (b.map g).length) = false) : a.length = b.length := by simp at hl; omega
theorem val_ext {a b : Val} : (a.kind == b.kind && a.n == b.n && a.s == b.s) = decide (a = b) := by
  rw [Bool.eq_iff_iff]
  cases a; cases b
  simp [and_assoc]
theorem c22 (a b : List Val) (ha : a.length ≤ 1048576) (Hp : List AObj) : AFun Tryd.prog 22 [valsA a, valsA b] Hp (boolA (decide (a = b))) := by
  refine ACall.body [.tmp 4] [0, 1] Tryd.func22 Tryd.ntmps22 (fun d => ?_)
  refine AW.seqR ?_
  refine R.assign ?_
  refine R.fin [0, 1] ?_
  refine W.seq ?_
  refine AW.seqR ?_
  refine R.move ?_
  refine R.len Tryd.underlying32 ?_
  refine R.move ?_
  refine R.len Tryd.underlying32 ?_
  refine R.neq ?_
  refine R.fin [0, 1, 10] ?_
  refine W.cond (fun ht10 => ?_) (fun ht10 => ?_)
  · skip
    refine AW.seqR ?_
    refine R.assign ?_
    refine R.fin [4] ?_
    refine AW.ret ?_
    refine K.thR ?_
    exact K.fin (V.one V.tmp) ⟨by rw [lenNe (by simpa using ht10)], rfl⟩
  · skip
    refine AW.skip ?_
    refine K.thN ?_
    refine W.seq ?_
    refine AW.seqR ?_
    refine R.assign ?_
    refine R.fin [0, 1, 5] ?_
    refine AW.loopC (α := Nat) (fun x => ⟨26, setF 0 (valsA a) (setF 1 (valsA b) (setF 5 (intA (x : Nat)) (fun _ => .any))), Hp, [], [], none⟩) (fun x => x ≤ a.length ∧ ∀ (j : Nat) (y : Val), j < x → a[j]? = some y → b[j]? = some y) (fun x => a.length - x) (0) (by simp) (StLe.refl _) rfl (fun x hx => ?_)
    refine W.seq ?_
    refine AW.seqR ?_
    refine R.move ?_
    refine R.move ?_
    refine R.len Tryd.underlying32 ?_
    refine R.lss ?_
    refine R.fin [0, 1, 5, 14] ?_
    refine W.cond (fun ht14 => ?_) (fun ht14 => ?_)
    · skip
      have hlt : x < a.length := by simpa using ht14
      have hlb : x < b.length := by have := lenEqM ht10; omega
      refine AW.skip ?_
      refine K.thN ?_
      refine W.seq ?_
      refine AW.block ?_
      refine W.draw [0, 0, 3, 7, 0, 0, 48, 112, 255] 8 Trydmixed (by kernel_rfl) ?_
      refine D.move ?_
      refine D.move ?_
      refine D.indexAddr (x) (valA a[x]) Tryd.underlying32 Tryd.sizeOf64 (getMap hlt) ?_
      refine D.loadRoN Tryd.isAgg64 Tryd.sizeOf64 ?_
      refine D.move ?_
      refine D.move ?_
      refine D.indexAddr (x) (valA b[x]) Tryd.underlying32 Tryd.sizeOf64 (getMap hlb) ?_
      refine D.loadRoN Tryd.isAgg64 Tryd.sizeOf64 ?_
      refine D.tail ?_
      refine R.neqAgg eg64 (equal64 a[x].kind a[x].n b[x].kind b[x].n a[x].s b[x].s) ?_
      refine R.fin [0, 1, 5, 25] ?_
      refine W.cond (fun ht25 => ?_) (fun ht25 => ?_)
      · skip
        rw [val_ext] at ht25
        refine AW.seqR ?_
        refine R.assign ?_
        refine R.fin [4] ?_
        refine AW.ret ?_
        refine K.blR ?_
        refine K.thR ?_
        refine K.lpR ?_
        refine K.thR ?_
        exact K.fin (V.one V.tmp) ⟨by rw [atNe hlt hlb (by simpa using ht25)], rfl⟩
      · skip
        rw [val_ext] at ht25
        refine AW.skip ?_
        refine K.blN ?_
        refine K.thN ?_
        refine AW.region ?_
        refine R.move ?_
        refine R.add64 ?_
        refine R.assign ?_
        refine R.fin [0, 1, 5] ?_
        exact K.lpN (x + 1) ⟨hlt, uptoI_succ (p := fun j y => b[j]? = some y) hlt hx.2 (by rw [List.getElem?_eq_getElem hlb]; simpa using (Eq.symm (by simpa using ht25) : b[x] = a[x]))⟩ (by omega) (StCut.of_eq rfl)
    · skip
      refine AW.exit ?_
      refine K.thE ?_
      refine K.lpE ?_
      refine K.thN ?_
      refine AW.seqR ?_
      refine R.assign ?_
      refine R.fin [4] ?_
      refine AW.ret ?_
      exact K.fin (V.one V.tmp) ⟨by rw [allEq (by simpa using ht10) (uptoI_all (by simp at ht14; omega) hx.2)], rfl⟩

theorem row_ext {a b : Row} : ((a.key != b.key) || !decide (a.l = b.l)) = !decide (a = b) := by
  rw [Bool.eq_iff_iff]
  cases a; cases b
  simp [Classical.or_iff_not_imp_left]
def OkRows (l : List Row) : Prop := l.length ≤ 1048576 ∧ ∀ y ∈ l, y.l.length ≤ 1048576
theorem c9 (a b : List Row) (ha : OkRows a) (Hp : List AObj) : AFun Tryd.prog 9 [rowsA a, rowsA b] Hp (boolA (decide (a = b))) := by
  refine ACall.body [.tmp 4] [0, 1] Tryd.func9 Tryd.ntmps9 (fun d => ?_)
  refine AW.seqR ?_
  refine R.assign ?_
  refine R.fin [0, 1] ?_
  refine W.seq ?_
  refine AW.seqR ?_
  refine R.move ?_
  refine R.len Tryd.underlying26 ?_
  refine R.move ?_
  refine R.len Tryd.underlying26 ?_
  refine R.neq ?_
  refine R.fin [0, 1, 10] ?_
  refine W.cond (fun ht10 => ?_) (fun ht10 => ?_)
  · skip
    refine AW.seqR ?_
    refine R.assign ?_
    refine R.fin [4] ?_
    refine AW.ret ?_
    refine K.thR ?_
    exact K.fin (V.one V.tmp) ⟨by rw [lenNe (by simpa using ht10)], rfl⟩
  · skip
    refine AW.skip ?_
    refine K.thN ?_
    refine W.seq ?_
    refine AW.seqR ?_
    refine R.assign ?_
    refine R.fin [0, 1, 5] ?_
    refine AW.loopC (α := Nat) (fun x => ⟨42, setF 0 (rowsA a) (setF 1 (rowsA b) (setF 5 (intA (x : Nat)) (fun _ => .any))), Hp, [], [], none⟩) (fun x => x ≤ a.length ∧ ∀ (j : Nat) (y : Row), j < x → a[j]? = some y → b[j]? = some y) (fun x => a.length - x) (0) (by simp) (StLe.refl _) rfl (fun x hx => ?_)
    refine W.seq ?_
    refine AW.seqR ?_
    refine R.move ?_
    refine R.move ?_
    refine R.len Tryd.underlying26 ?_
    refine R.lss ?_
    refine R.fin [0, 1, 5, 14] ?_
    refine W.cond (fun ht14 => ?_) (fun ht14 => ?_)
    · skip
      have hlt : x < a.length := by simpa using ht14
      have hlb : x < b.length := by have := lenEqM ht10; omega
      have hal := ha.1
      refine AW.skip ?_
      refine K.thN ?_
      refine W.seq ?_
      refine AW.block ?_
      refine W.draw [0, 0, 3, 7, 15, 0, 0, 96, 224, 480, 1023, 2047, 4095, 4095, 16383, 32767, 65535, 4095, 4095, 397311, 921599, 1970175, 4194303, 8388607, 16777215] 22 Trydmixed (by kernel_rfl) ?_
      refine D.move ?_
      refine D.move ?_
      refine D.indexAddr (x) (rowA a[x]) Tryd.underlying26 Tryd.sizeOf34 (getMap hlt) ?_
      refine D.fieldAddrRo (off := 0) Tryd.underlying34 Tryd.sizeOf2 ?_
      refine D.loadRo Tryd.isAgg2 ?_
      refine D.move ?_
      refine D.move ?_
      refine D.indexAddr (x) (rowA b[x]) Tryd.underlying26 Tryd.sizeOf34 (getMap hlb) ?_
      refine D.fieldAddrRo (off := 0) Tryd.underlying34 Tryd.sizeOf2 ?_
      refine D.loadRo Tryd.isAgg2 ?_
      refine D.neq ?_
      refine D.move ?_
      refine H.move ?_
      refine H.move ?_
      refine H.indexAddr (x) (rowA a[x]) Tryd.underlying26 Tryd.sizeOf34 (fun _ => getMap hlt) ?_
      refine H.fieldAddrRo (off := 1) Tryd.underlying34 Tryd.sizeOf32 ?_
      refine H.loadRo Tryd.isAgg32 ?_
      refine H.move ?_
      refine H.move ?_
      refine H.indexAddr (x) (rowA b[x]) Tryd.underlying26 Tryd.sizeOf34 (fun _ => getMap hlb) ?_
      refine H.fieldAddrRo (off := 1) Tryd.underlying34 Tryd.sizeOf32 ?_
      refine H.loadRo Tryd.isAgg32 ?_
      refine D.tail ?_
      refine G.call Tryd.call22 (fun hB => c22 a[x].l b[x].l (ha.2 _ (List.getElem_mem hlt)) _) ?_
      refine G.not ?_
      refine R.pickOr ?_
      refine R.fin [0, 1, 5, 41] ?_
      refine W.cond (fun ht41 => ?_) (fun ht41 => ?_)
      · skip
        rw [row_ext] at ht41
        refine AW.seqR ?_
        refine R.assign ?_
        refine R.fin [4] ?_
        refine AW.ret ?_
        refine K.blR ?_
        refine K.thR ?_
        refine K.lpR ?_
        refine K.thR ?_
        exact K.fin (V.one V.tmp) ⟨by rw [atNe hlt hlb (by simpa using ht41)], rfl⟩
      · skip
        rw [row_ext] at ht41
        refine AW.skip ?_
        refine K.blN ?_
        refine K.thN ?_
        refine AW.region ?_
        refine R.move ?_
        refine R.add64 ?_
        refine R.assign ?_
        refine R.fin [0, 1, 5] ?_
        exact K.lpN (x + 1) ⟨hlt, uptoI_succ (p := fun j y => b[j]? = some y) hlt hx.2 (by rw [List.getElem?_eq_getElem hlb]; simpa using (Eq.symm (by simpa using ht41) : b[x] = a[x]))⟩ (by omega) (StCut.of_eq rfl)
    · skip
      refine AW.exit ?_
      refine K.thE ?_
      refine K.lpE ?_
      refine K.thN ?_
      refine AW.seqR ?_
      refine R.assign ?_
      refine R.fin [4] ?_
      refine AW.ret ?_
      exact K.fin (V.one V.tmp) ⟨by rw [allEq (by simpa using ht10) (uptoI_all (by simp at ht14; omega) hx.2)], rfl⟩

def rowAt (c : List Col) (j : Nat) (v : Val) : Bool := !(!plainM v || ((v.kind != 0) && (v.kind != ((c[j]?).map (·.kind)).getD 0)))
def rowM (c : List Col) (l : List Val) : Bool := colsM c && decide (l.length = c.length) && l.zipIdx.all fun x => rowAt c x.2 x.1
theorem zipIdx_all {α : Type} {c : List α} {p : Nat → α → Bool} : (c.zipIdx.all fun x => p x.2 x.1) = true ↔ ∀ (j : Nat) (y : α), c[j]? = some y → p j y = true := by
  rw [List.all_eq_true]
  constructor
  · intro h j y hj
    exact h (y, j) (by rw [List.mem_zipIdx_iff_getElem?]; exact hj)
  · rintro h ⟨y, j⟩ hx
    rw [List.mem_zipIdx_iff_getElem?] at hx
    exact h j y hx
theorem c11 (c : List Col) (hc : OkCols c) (l : List Val) (Hp : List AObj) : AFun Tryd.prog 11 [colsA c, valsA l] Hp (boolA (rowM c l)) := by
  refine ACall.body [.tmp 4] [0, 1] Tryd.func11 Tryd.ntmps11 (fun d => ?_)
  refine AW.seqR ?_
  refine R.assign ?_
  refine R.fin [0, 1] ?_
  refine W.seq ?_
  refine AW.seqR ?_
  refine R.move ?_
  refine R.call Tryd.call21 (c21 c hc _) ?_
  refine R.not ?_
  refine R.move ?_
  refine G.move ?_
  refine G.len Tryd.underlying32 ?_
  refine G.move ?_
  refine G.len Tryd.underlying23 ?_
  refine G.neq ?_
  refine R.pickOr ?_
  refine R.fin [0, 1, 15] ?_
  refine W.cond (fun ht15 => ?_) (fun ht15 => ?_)
  · skip
    refine AW.seqR ?_
    refine R.assign ?_
    refine R.fin [4] ?_
    refine AW.ret ?_
    refine K.thR ?_
    exact K.fin (V.one V.tmp) ⟨by rw [show rowM c l = false from by unfold rowM; revert ht15; cases colsM c with | false => intro _; rfl | true => intro h; simp at h; simp; omega], rfl⟩
  · skip
    have hcm : colsM c = true := by revert ht15; cases colsM c <;> simp
    have hll : l.length = c.length := by rw [hcm] at ht15; simp at ht15; omega
    have hcl := hc.len
    refine AW.skip ?_
    refine K.thN ?_
    refine W.seq ?_
    refine AW.seqR ?_
    refine R.assign ?_
    refine R.fin [0, 1, 5] ?_
    refine AW.loopC (α := Nat) (fun x => ⟨49, setF 0 (colsA c) (setF 1 (valsA l) (setF 5 (intA (x : Nat)) (fun _ => .any))), Hp, [], [], none⟩) (fun x => x ≤ l.length ∧ ∀ (j : Nat) (y : Val), j < x → l[j]? = some y → rowAt c j y = true) (fun x => l.length - x) (0) (by simp) (StLe.refl _) rfl (fun x hx => ?_)
    refine W.seq ?_
    refine AW.seqR ?_
    refine R.move ?_
    refine R.move ?_
    refine R.len Tryd.underlying32 ?_
    refine R.lss ?_
    refine R.fin [0, 1, 5, 19] ?_
    refine W.cond (fun ht19 => ?_) (fun ht19 => ?_)
    · skip
      have hlt : x < l.length := by simpa using ht19
      have hlc : x < c.length := by omega
      refine AW.skip ?_
      refine K.thN ?_
      refine W.seq ?_
      refine AW.block ?_
      refine W.draw [0, 0, 3, 7, 15, 31, 63, 127, 127, 511, 1023, 2047, 4095, 8191, 16383, 16383, 65535, 131071, 262143, 16383, 16383, 1589247, 3686399, 7880703, 16777215, 33554431, 67108863] 24 Trydmixed (by kernel_rfl) ?_
      refine D.move ?_
      refine D.move ?_
      refine D.indexAddr (x) (valA l[x]) Tryd.underlying32 Tryd.sizeOf64 (getMap hlt) ?_
      refine D.loadRoN Tryd.isAgg64 Tryd.sizeOf64 ?_
      refine D.call Tryd.call25 (c25 l[x] _) ?_
      refine D.not ?_
      refine D.move ?_
      refine H.move ?_
      refine H.move ?_
      refine H.indexAddr (x) (valA l[x]) Tryd.underlying32 Tryd.sizeOf64 (fun _ => getMap hlt) ?_
      refine H.fieldAddrRo (off := 0) Tryd.underlying64 Tryd.sizeOf3 ?_
      refine H.loadRo Tryd.isAgg3 ?_
      refine H.neq ?_
      refine H.move ?_
      refine H.move ?_
      refine H.move ?_
      refine H.indexAddr (x) (valA l[x]) Tryd.underlying32 Tryd.sizeOf64 (fun _ => getMap hlt) ?_
      refine H.fieldAddrRo (off := 0) Tryd.underlying64 Tryd.sizeOf3 ?_
      refine H.loadRo Tryd.isAgg3 ?_
      refine H.move ?_
      refine H.move ?_
      refine H.indexAddr (x) (colA c[x]) Tryd.underlying23 Tryd.sizeOf49 (fun _ => getMap hlc) ?_
      refine H.fieldAddrRo (off := 1) Tryd.underlying49 Tryd.sizeOf3 ?_
      refine H.loadRo Tryd.isAgg3 ?_
      refine D.tail ?_
      refine G.neq ?_
      refine G.pickAnd ?_
      refine R.pickOr ?_
      refine R.fin [0, 1, 5, 48] ?_
      refine W.cond (fun ht48 => ?_) (fun ht48 => ?_)
      · skip
        have hat : rowAt c x l[x] = false := by unfold rowAt; rw [List.getElem?_eq_getElem hlc]; simp only [Option.map_some, Option.getD_some]; rw [ht48]; rfl
        refine AW.seqR ?_
        refine R.assign ?_
        refine R.fin [4] ?_
        refine AW.ret ?_
        refine K.blR ?_
        refine K.thR ?_
        refine K.lpR ?_
        refine K.thR ?_
        exact K.fin (V.one V.tmp) ⟨by rw [show rowM c l = false from by unfold rowM; rw [show (l.zipIdx.all fun x => rowAt c x.2 x.1) = false from Bool.eq_false_iff.2 fun h => by have := zipIdx_all.1 h x l[x] (List.getElem?_eq_getElem hlt); rw [hat] at this; cases this]; simp], rfl⟩
      · skip
        have hat : rowAt c x l[x] = true := by unfold rowAt; rw [List.getElem?_eq_getElem hlc]; simp only [Option.map_some, Option.getD_some]; rw [ht48]; rfl
        refine AW.skip ?_
        refine K.blN ?_
        refine K.thN ?_
        refine AW.region ?_
        refine R.move ?_
        refine R.add64 ?_
        refine R.assign ?_
        refine R.fin [0, 1, 5] ?_
        exact K.lpN (x + 1) ⟨hlt, uptoI_succ hlt hx.2 hat⟩ (by omega) (StCut.of_eq rfl)
    · skip
      refine AW.exit ?_
      refine K.thE ?_
      refine K.lpE ?_
      refine K.thN ?_
      refine AW.seqR ?_
      refine R.assign ?_
      refine R.fin [4] ?_
      refine AW.ret ?_
      exact K.fin (V.one V.tmp) ⟨by rw [show rowM c l = true from by unfold rowM; rw [zipIdx_all.2 (uptoI_all (by simp at ht19; omega) hx.2), hcm]; simpa using hll], rfl⟩

end Go.SX.Nb
namespace Go.SX.Nb
open Go Go.SX Go.Proofs
set_option maxRecDepth 4000
def nextS (s : Int) : Int := IntKind.u64.wrap (IntKind.u64.wrap (s * 6364136223846793005) + 1442695040888963407)
def nextK (s n : Int) : Int := (s / 8589934592) % n
theorem wrap_u64 {n : Int} (h1 : 0 ≤ n) (h2 : n < 18446744073709551616) : IntKind.u64.wrap n = n := by
  have e1 : (2 ^ IntKind.u64.bits : Int) = 18446744073709551616 := rfl
  have e3 : IntKind.u64.signed = false := rfl
  unfold IntKind.wrap
  simp only [e1, e3, Bool.false_and]
  simp
  omega
theorem u64_range (n : Int) : 0 ≤ IntKind.u64.wrap n ∧ IntKind.u64.wrap n < 18446744073709551616 := by
  have e1 : (2 ^ IntKind.u64.bits : Int) = 18446744073709551616 := rfl
  have e3 : IntKind.u64.signed = false := rfl
  unfold IntKind.wrap
  simp only [e1, e3, Bool.false_and]
  simp
  omega
theorem nextS_range (s : Int) : 0 ≤ nextS s ∧ nextS s < 18446744073709551616 := u64_range _
theorem nextK_range (s n : Int) (h : 0 < n) : 0 ≤ nextK s n ∧ nextK s n < n := ⟨Int.emod_nonneg _ (by omega), Int.emod_lt_of_pos _ h⟩
theorem k_ref {s n : Int} (hs : 0 ≤ s ∧ s < 18446744073709551616) (h : 0 < n) (h2 : n ≤ 1099511627776) : IntKind.i64.wrap ((IntKind.u64.wrap (s.tdiv 8589934592)).tmod (IntKind.u64.wrap n)) = nextK s n := by
  have e1 : s.tdiv 8589934592 = s / 8589934592 := Int.tdiv_eq_ediv_of_nonneg hs.1
  rw [e1, wrap_u64 (by omega) (by omega), wrap_u64 (by omega) (by omega), Int.tmod_eq_emod_of_nonneg (by omega)]
  have := nextK_range s n h
  unfold nextK at this ⊢
  exact wrap_i64 (by omega) (by omega)
theorem k_prog {s n : Int} (hs : 0 ≤ s ∧ s < 18446744073709551616) (h : 0 < n) (h2 : n ≤ 1099511627776) : IntKind.i64.wrap ((s.fdiv (2 ^ 33)).tmod (IntKind.u64.wrap n)) = nextK s n := by
  have e1 : s.fdiv (2 ^ 33) = s / 8589934592 := Int.fdiv_eq_ediv_of_nonneg _ (by decide)
  rw [e1, wrap_u64 (by omega) (by omega), Int.tmod_eq_emod_of_nonneg (by omega)]
  have := nextK_range s n h
  unfold nextK at this ⊢
  exact wrap_i64 (by omega) (by omega)
theorem wrap_ne {n : Int} (h : 0 < n) (h2 : n ≤ 1099511627776) : IntKind.u64.wrap n ≠ 0 := by rw [wrap_u64 (by omega) (by omega)]; omega
theorem c23 (s n : Int) (h1 : 0 < n) (h2 : n ≤ 1099511627776) (Hp : List AObj) : AFun Tryd.prog 23 [u64A s, intA n] Hp (.tup [u64A (nextS s), intA (nextK (nextS s) n)]) := by
  refine ACall.body [.tmp 4, .tmp 5] [0, 1] Tryd.func23 Tryd.ntmps23 (fun d => ?_)
  refine AW.seqR ?_
  refine R.assign ?_
  refine R.assign ?_
  refine R.fin [0, 1] ?_
  refine AW.seqR ?_
  refine R.move ?_
  refine R.mul ?_
  refine R.add ?_
  refine R.assign ?_
  refine R.fin [0, 1] ?_
  refine W.draw [0, 0, 2, 0, 8, 30, 62, 1, 255] 8 Trydmixed (by kernel_rfl) ?_
  refine D.move ?_
  refine D.move ?_
  refine D.quo ?_
  refine D.move ?_
  refine D.iconv Tryd.underlying3 Tryd.underlying22 ?_
  refine D.rem (h0 := wrap_ne h1 h2) ?_
  refine D.iconv Tryd.underlying22 Tryd.underlying3 ?_
  refine D.assign ?_
  refine D.tail ?_
  refine R.assign ?_
  refine R.fin [4, 5] ?_
  refine AW.ret ?_
  exact K.fin (V.two V.tmp V.tmp) ⟨by rw [k_ref (u64_range _) h1 h2]; rfl, rfl⟩

theorem c30 (i : Nat) (s n : Int) (h1 : 0 < n) (h2 : n ≤ 1099511627776) (Hp : List AObj) (hi : Hp[i]? = some (.cells 55 [u64A s])) : ACall Tryd.prog 30 [.ptr i 0, intA n] Hp (fun r H' => r = intA (nextK (nextS s) n) ∧ H' = Hp.set i (.cells 55 [u64A (nextS s)])) := by
  refine ACall.body [.tmp 4] [0, 1] Tryd.func30 Tryd.ntmps30 (fun d => ?_)
  refine AW.seqR ?_
  refine R.assign ?_
  refine R.fin [0, 1] ?_
  refine AW.seqR ?_
  refine R.move ?_
  refine R.move ?_
  refine R.nilPtr ?_
  refine R.fieldAddrPtr (fo := 0) Tryd.underlying55 Tryd.sizeOf22 ?_
  refine R.loadUp Tryd.isAgg22 hi ?_
  refine R.mul ?_
  refine R.add ?_
  refine R.nilPtr ?_
  refine R.fieldAddrPtr (fo := 0) Tryd.underlying55 Tryd.sizeOf22 ?_
  refine R.storeUp Tryd.sizeOf22 hi ?_ ?_
  · simp
  refine R.fin [0, 1] ?_
  refine AW.seqR ?_
  have hi2 : (Hp.set i (.cells 55 [.v (.int .u64 (nextS s))]))[i]? = some (.cells 55 [.v (.int .u64 (nextS s))]) := by rw [List.getElem?_set_self (List.getElem?_eq_some_iff.1 hi).1]
  refine R.move ?_
  refine R.nilPtr ?_
  refine R.fieldAddrPtr (fo := 0) Tryd.underlying55 Tryd.sizeOf22 ?_
  refine R.loadUp Tryd.isAgg22 hi2 ?_
  refine R.shr 33 ?_
  refine R.move ?_
  refine R.iconv Tryd.underlying3 Tryd.underlying22 ?_
  refine R.rem (h0 := wrap_ne h1 h2) ?_
  refine R.iconv Tryd.underlying22 Tryd.underlying3 ?_
  refine R.assign ?_
  refine R.fin [4] ?_
  refine AW.ret ?_
  exact K.fin (V.one V.tmp) ⟨by rw [k_prog (nextS_range s) h1 h2], rfl⟩

end Go.SX.Nb
namespace Go.SX.Nb
open Go Go.SX Go.Proofs
set_option maxRecDepth 4000
def texts : List Str := [[], [55], [49, 50], [120]]
def textM (n : Int) : Str := texts.getD n.toNat []
theorem texts_get {n : Nat} (h : n < 4) : (texts.map strA)[n]? = some (strA (texts.getD n [])) := by
  match n, h with
  | 0, _ => rfl
  | 1, _ => rfl
  | 2, _ => rfl
  | 3, _ => rfl
theorem c51 (n : Int) (h : 0 ≤ n ∧ n < 4) (Hp : List AObj) : AFun Tryd.prog 51 [intA n] Hp (strA (textM n)) := by
  refine ACall.body [.tmp 2] [0] Tryd.func51 Tryd.ntmps51 (fun d => ?_)
  refine AW.seqR ?_
  refine R.assign ?_
  refine R.fin [0] ?_
  refine AW.seqR ?_
  refine R.buildArr Tryd.underlying103 Tryd.sizeOf9 Tryd.zeroValue103 ?_
  refine R.move ?_
  refine R.indexArr (n.toNat) (strA (texts.getD n.toNat [])) Tryd.underlying103 Tryd.sizeOf9 Tryd.isAgg9 (by omega) (texts_get (by omega)) ?_
  refine R.assign ?_
  refine R.fin [2] ?_
  refine AW.ret ?_
  exact K.fin (V.one V.tmp)

def genV (s kind : Int) : Int × Val :=
  if nextK (nextS s) 8 = 0 then (nextS s, ⟨0, 0, []⟩)
  else if kind = 1 then (nextS (nextS s), ⟨1, nextK (nextS (nextS s)) 100 - 20, []⟩)
  else if kind = 2 then (nextS (nextS s), ⟨2, 0, textM (nextK (nextS (nextS s)) 4)⟩)
  else (nextS (nextS s), ⟨kind, nextK (nextS (nextS s)) 2, []⟩)
theorem c40 (i : Nat) (s kind : Int) (Hp : List AObj) (hi : Hp[i]? = some (.cells 55 [u64A s])) : ACall Tryd.prog 40 [.ptr i 0, intA kind] Hp (fun r H' => r = valA (genV s kind).2 ∧ H' = Hp.set i (.cells 55 [u64A (genV s kind).1])) := by
  refine ACall.body [.cell 4 64] [0, 1] Tryd.func40 Tryd.ntmps40 (fun d => ?_)
  refine AW.seqR ?_
  refine R.alloc Tryd.zeroValue64 ?_
  refine R.fin [0, 1, 4] ?_
  refine W.seq ?_
  refine AW.seqR ?_
  refine R.move ?_
  refine R.callUp Tryd.call30 hi (by simp) low1 (c30 i (s) 8 (by decide) (by decide) _ (get_up hi)) ?_
  refine R.eql ?_
  refine R.fin [0, 1, 4, 8] ?_
  refine W.cond (fun ht8 => ?_) (fun ht8 => ?_)
  · skip
    refine AW.seqR ?_
    refine R.build (places := #[(0, 1), (1, 1), (2, 1)]) Tryd.underlying64 (fun w => by simp) Tryd.zeroValue64 ?_
    refine R.storeOwn Tryd.sizeOf64 ?_
    refine R.fin [4] ?_
    refine AW.ret ?_
    refine K.thR ?_
    exact K.fin (V.one (V.cellN Tryd.isAgg64 Tryd.sizeOf64)) ⟨by simp at ht8; simp [genV, ht8], by simp at ht8; simp [genV, ht8]⟩
  · skip
    have hi2 : (Hp.set i (.cells 55 [u64A (nextS s)]))[i]? = some (.cells 55 [u64A (nextS s)]) := getset hi
    refine AW.skip ?_
    refine K.thN ?_
    refine AW.seqR ?_
    refine R.move ?_
    refine R.build (places := #[(0, 1), (1, 1), (2, 1)]) Tryd.underlying64 (fun w => by simp) Tryd.zeroValue64 ?_
    refine R.alloc Tryd.zeroValue64 ?_
    refine R.storeOwn Tryd.sizeOf64 ?_
    refine R.fin [0, 1, 4, 5] ?_
    refine W.seq ?_
    refine AW.seqR ?_
    refine R.move ?_
    refine R.fin [0, 4, 5, 12] ?_
    refine AW.block ?_
    refine AW.seqR ?_
    refine R.eql ?_
    refine R.assign ?_
    refine R.fin [0, 4, 5, 12, 16] ?_
    refine W.cond (fun ht16 => ?_) (fun ht16 => ?_)
    · skip
      refine AW.region ?_
      refine R.move ?_
      refine R.callUp Tryd.call30 hi2 (by simp) low1 (c30 i (nextS s) 100 (by decide) (by decide) _ (get_up hi2)) ?_
      have hk := nextK_range (nextS (nextS s)) 100 (by decide)
      refine R.sub64 ?_
      refine R.fieldAddrPtr (fo := 1) Tryd.underlying64 Tryd.sizeOf2 ?_
      refine R.storeOwn Tryd.sizeOf2 ?_
      refine R.fin [4, 5] ?_
      refine K.blN ?_
      refine K.thN ?_
      refine AW.seqR ?_
      refine R.loadOwnN Tryd.isAgg64 Tryd.sizeOf64 ?_
      refine R.storeOwn Tryd.sizeOf64 ?_
      refine R.fin [4] ?_
      refine AW.ret ?_
      exact K.fin (V.one (V.cellN Tryd.isAgg64 Tryd.sizeOf64)) ⟨by simp at ht8 ht16; simp [genV, ht8, ht16], by simp at ht8 ht16; simp [genV, ht8, ht16]⟩
    · skip
      refine AW.seqR ?_
      refine R.eql ?_
      refine R.assign ?_
      refine R.fin [0, 4, 5, 22] ?_
      refine W.cond (fun ht22 => ?_) (fun ht22 => ?_)
      · skip
        refine AW.region ?_
        refine R.move ?_
        refine R.callUp Tryd.call30 hi2 (by simp) low1 (c30 i (nextS s) 4 (by decide) (by decide) _ (get_up hi2)) ?_
        refine R.call Tryd.call51 (c51 _ (nextK_range _ _ (by decide)) _) ?_
        refine R.fieldAddrPtr (fo := 2) Tryd.underlying64 Tryd.sizeOf9 ?_
        refine R.storeOwn Tryd.sizeOf9 ?_
        refine R.fin [4, 5] ?_
        refine K.blN ?_
        refine K.thN ?_
        refine AW.seqR ?_
        refine R.loadOwnN Tryd.isAgg64 Tryd.sizeOf64 ?_
        refine R.storeOwn Tryd.sizeOf64 ?_
        refine R.fin [4] ?_
        refine AW.ret ?_
        exact K.fin (V.one (V.cellN Tryd.isAgg64 Tryd.sizeOf64)) ⟨by simp at ht8 ht16 ht22; simp [genV, ht8, ht16, ht22], by simp at ht8 ht16 ht22; simp [genV, ht8, ht16, ht22]⟩
      · skip
        refine AW.region ?_
        refine R.move ?_
        refine R.callUp Tryd.call30 hi2 (by simp) low1 (c30 i (nextS s) 2 (by decide) (by decide) _ (get_up hi2)) ?_
        refine R.fieldAddrPtr (fo := 1) Tryd.underlying64 Tryd.sizeOf2 ?_
        refine R.storeOwn Tryd.sizeOf2 ?_
        refine R.fin [4, 5] ?_
        refine K.blN ?_
        refine K.thN ?_
        refine AW.seqR ?_
        refine R.loadOwnN Tryd.isAgg64 Tryd.sizeOf64 ?_
        refine R.storeOwn Tryd.sizeOf64 ?_
        refine R.fin [4] ?_
        refine AW.ret ?_
        exact K.fin (V.one (V.cellN Tryd.isAgg64 Tryd.sizeOf64)) ⟨by simp at ht8 ht16 ht22; simp [genV, ht8, ht16, ht22], by simp at ht8 ht16 ht22; simp [genV, ht8, ht16, ht22]⟩

def genRow : Int → List Col → Int × List Val
  | s, [] => (s, [])
  | s, c :: r => ((genRow (genV s c.kind).1 r).1, (genV s c.kind).2 :: (genRow (genV s c.kind).1 r).2)
theorem genRow_snoc (y : Col) : ∀ (a : List Col) (s : Int), genRow s (a ++ [y]) = ((genV (genRow s a).1 y.kind).1, (genRow s a).2 ++ [(genV (genRow s a).1 y.kind).2])
  | [], s => rfl
  | c :: r, s => by simp only [List.cons_append, genRow, genRow_snoc y r]
theorem genRow_len : ∀ (a : List Col) (s : Int), (genRow s a).2.length = a.length
  | [], s => rfl
  | c :: r, s => by simp only [genRow, List.length_cons, genRow_len r]
theorem genRow_take (s : Int) (c : List Col) {x : Nat} (h : x < c.length) : genRow s (c.take (x + 1)) = ((genV (genRow s (c.take x)).1 c[x].kind).1, (genRow s (c.take x)).2 ++ [(genV (genRow s (c.take x)).1 c[x].kind).2]) := by
  rw [List.take_succ_eq_append_getElem h, genRow_snoc]
theorem c32 (i : Nat) (s : Int) (c : List Col) (hc : OkCols c) (Hp : List AObj) (hi : Hp[i]? = some (.cells 55 [u64A s])) : ACall Tryd.prog 32 [.ptr i 0, colsA c] Hp (fun r H' => r = valsA (genRow s c).2 ∧ H' = Hp.set i (.cells 55 [u64A (genRow s c).1])) := by
  refine ACall.body [.tmp 4] [0, 1] Tryd.func32 Tryd.ntmps32 (fun d => ?_)
  refine AW.seqR ?_
  refine R.assign ?_
  refine R.fin [0, 1] ?_
  refine AW.seqR ?_
  refine R.assign ?_
  refine R.fin [0, 1, 5] ?_
  refine W.seq ?_
  refine AW.seqR ?_
  refine R.nilSl 5 3 ?_
  refine R.move ?_
  refine R.len Tryd.underlying23 ?_
  refine R.move ?_
  refine R.fin [0, 5, 8, 9, 10] ?_
  refine AW.loopC (α := Nat) (fun x => ⟨23, setF 0 (.ptr i 0) (setF 5 (.slice true 3 ((genRow s (c.take x)).2.map valA)) (setF 8 (colsA c) (setF 9 (intA c.length) (setF 10 (intA (x : Nat)) (fun _ => .any))))), Hp.set i (.cells 55 [u64A (genRow s (c.take x)).1]), [], [], none⟩) (fun x => x ≤ c.length) (fun x => c.length - x) (0) (Nat.zero_le _) (StLe.of_eq (by simp [genRow, set_same hi])) rfl (fun x hx => ?_)
  refine AW.seqR ?_
  refine R.lss ?_
  refine R.fin [0, 5, 8, 9, 10, 11] ?_
  refine W.condX (fun ht11 => ?_) (fun ht11 => ?_)
  · skip
    have hlt : x < c.length := by simpa using ht11
    have hil : i < Hp.length := (List.getElem?_eq_some_iff.1 hi).1
    have hcl := hc.len
    have hi2 : (Hp.set i (.cells 55 [u64A (genRow s (c.take x)).1]))[i]? = some (.cells 55 [u64A (genRow s (c.take x)).1]) := getset hi
    refine W.seq ?_
    refine AW.block ?_
    refine AW.seqR ?_
    refine R.indexAddr (x) (colA c[x]) Tryd.underlying23 Tryd.sizeOf49 (getMap hlt) ?_
    refine R.loadRoN Tryd.isAgg49 Tryd.sizeOf49 ?_
    refine R.alloc Tryd.zeroValue49 ?_
    refine R.storeOwn Tryd.sizeOf49 ?_
    refine R.fin [0, 5, 7, 8, 9, 10] ?_
    refine AW.region ?_
    refine R.moveT ?_
    refine R.move ?_
    refine R.fieldAddrPtr (fo := 1) Tryd.underlying49 Tryd.sizeOf3 ?_
    refine R.loadOwn Tryd.isAgg3 ?_
    refine R.callUp Tryd.call40 hi2 (by simp) low1 (c40 i (genRow s (c.take x)).1 c[x].kind _ (get_up hi2)) ?_
    refine R.buildSlice Tryd.underlying32 Tryd.sizeOf64 Tryd.zeroValue64 ?_
    refine R.append Tryd.underlying32 Tryd.type64 ?_ ?_ ?_
    · simp [genRow_len, Tryd.t64]; omega
    · simp [genRow_len, Tryd.t64]; omega
    refine R.assignT ?_
    refine R.fin [0, 5, 8, 9, 10] ?_
    refine K.blN ?_
    refine K.thN ?_
    refine AW.region ?_
    refine R.add64 ?_
    refine R.move ?_
    refine R.fin [0, 5, 8, 9, 10] ?_
    refine K.lpN (x + 1) hlt (by omega) ?_
    simp only [genRow_take s c hlt, List.set_set, List.map_append, List.map_cons, List.map_nil]
    exact StCut.take (own := []) (fun _ => .refl _) (by repeat (first | exact lowF_any | refine lowF_set (by simp [hil, or_imp, forall_and]) ?_)) (by simp) (by simp)
  · skip
    have hxe : c.take x = c := List.take_of_length_le (by simp at ht11; omega)
    refine K.lpE ?_
    refine K.thN ?_
    refine AW.seqR ?_
    refine R.move ?_
    refine R.assign ?_
    refine R.fin [4] ?_
    refine AW.ret ?_
    exact K.fin (V.one V.tmp) ⟨by rw [hxe], by rw [hxe]⟩

end Go.SX.Nb
namespace Go.SX.Nb
open Go Go.SX Go.Proofs
set_option maxRecDepth 4000
def nOf1 (k : Int) : Int := if k = 1 then 100 else 2
def nOf (k : Int) : Int := if k = 2 then 4 else nOf1 k
theorem nOf_pos (k : Int) : 0 < nOf k := by unfold nOf nOf1; split <;> (try split) <;> decide
theorem nOf_le (k : Int) : nOf k ≤ 1099511627776 := by unfold nOf nOf1; split <;> (try split) <;> decide
theorem nOf_2 : nOf 2 = 4 := rfl
theorem nOf_1 : nOf 1 = 100 := rfl
theorem nOf_x {k : Int} (h1 : k ≠ 1) (h2 : k ≠ 2) : nOf k = 2 := by simp [nOf, nOf1, h1, h2]
theorem c24 (s : Int) (c : List Col) (hc : OkCols c) (Hp : List AObj) : AFun Tryd.prog 24 [u64A s, colsA c] Hp (.tup [u64A (genRow s c).1, valsA (genRow s c).2]) := by
  refine ACall.body [.tmp 4, .tmp 5] [0, 1] Tryd.func24 Tryd.ntmps24 (fun d => ?_)
  refine AW.seqR ?_
  refine R.assign ?_
  refine R.assign ?_
  refine R.fin [0, 1] ?_
  refine AW.seqR ?_
  refine R.buildSlice Tryd.underlying32 Tryd.sizeOf64 Tryd.zeroValue64 ?_
  refine R.assignT ?_
  refine R.fin [0, 1, 6] ?_
  refine W.seq ?_
  refine AW.seqR ?_
  refine R.assign ?_
  refine R.fin [0, 1, 6, 7] ?_
  refine AW.loopC (α := Nat) (fun x => ⟨80, setF 0 (u64A (genRow s (c.take x)).1) (setF 1 (colsA c) (setF 6 (.slice true 3 ((genRow s (c.take x)).2.map valA)) (setF 7 (intA (x : Nat)) (fun _ => .any)))), Hp, [], [], none⟩) (fun x => x ≤ c.length) (fun x => c.length - x) (0) (Nat.zero_le _) (StLe.refl _) rfl (fun x hx => ?_)
  refine W.seq ?_
  refine AW.seqR ?_
  refine R.move ?_
  refine R.move ?_
  refine R.len Tryd.underlying23 ?_
  refine R.lss ?_
  refine R.fin [0, 1, 6, 7, 17] ?_
  refine W.cond (fun ht17 => ?_) (fun ht17 => ?_)
  · skip
    have hlt : x < c.length := by simpa using ht17
    have hcl := hc.len
    refine AW.skip ?_
    refine K.thN ?_
    refine W.seq ?_
    refine AW.block ?_
    refine AW.seqR ?_
    refine R.move ?_
    refine R.call Tryd.call23 (c23 (genRow s (c.take x)).1 8 (by decide) (by decide) _) ?_
    refine R.move ?_
    refine R.extract ?_
    refine R.extract ?_
    refine R.assign ?_
    refine R.assign ?_
    refine R.fin [1, 6, 7, 8, 9] ?_
    refine AW.seqR ?_
    refine R.move ?_
    refine R.assign ?_
    refine R.fin [0, 1, 6, 7, 9] ?_
    refine AW.seqR ?_
    refine R.build (places := #[(0, 1), (1, 1), (2, 1)]) Tryd.underlying64 (fun w => by simp) Tryd.zeroValue64 ?_
    refine R.alloc Tryd.zeroValue64 ?_
    refine R.storeOwn Tryd.sizeOf64 ?_
    refine R.fin [0, 1, 6, 7, 9, 10] ?_
    refine W.join ⟨80, setF 0 (u64A (genV (genRow s (c.take x)).1 c[x].kind).1) (setF 1 (colsA c) (setF 6 (.slice true 3 ((genRow s (c.take x)).2.map valA)) (setF 7 (intA (x : Nat)) (setF 10 (.ptr (oid Hp.length 0) 0) (fun _ => .any))))), Hp, [.cells 64 [intA (genV (genRow s (c.take x)).1 c[x].kind).2.kind, intA (genV (genRow s (c.take x)).1 c[x].kind).2.n, strA (genV (genRow s (c.take x)).1 c[x].kind).2.s]], [], none⟩ ?_ ?_
    · skip
      refine AW.seqR ?_
      refine R.move ?_
      refine R.gtr ?_
      refine R.fin [0, 1, 6, 7, 10, 28] ?_
      refine W.cond (fun ht28 => ?_) (fun ht28 => ?_)
      · skip
        have hk0 : ¬ (nextK (nextS (genRow s (c.take x)).1) 8 = 0) := by simp at ht28; omega
        refine AW.seqR ?_
        refine R.move ?_
        refine R.move ?_
        refine R.indexAddr (x) (colA c[x]) Tryd.underlying23 Tryd.sizeOf49 (getMap hlt) ?_
        refine R.fieldAddrRo (off := 1) Tryd.underlying49 Tryd.sizeOf3 ?_
        refine R.loadRo Tryd.isAgg3 ?_
        refine R.fieldAddrPtr (fo := 0) Tryd.underlying64 Tryd.sizeOf3 ?_
        refine R.storeOwn Tryd.sizeOf3 ?_
        refine R.fin [0, 1, 6, 7, 10] ?_
        refine AW.seqR ?_
        refine R.assign ?_
        refine R.fin [0, 1, 6, 7, 10, 11] ?_
        refine W.join ⟨80, setF 0 (u64A (nextS (genRow s (c.take x)).1)) (setF 1 (colsA c) (setF 6 (.slice true 3 ((genRow s (c.take x)).2.map valA)) (setF 7 (intA (x : Nat)) (setF 10 (.ptr (oid Hp.length 0) 0) (setF 11 (intA (nOf1 c[x].kind)) (fun _ => .any)))))), Hp, [.cells 64 [intA c[x].kind, intA 0, strA []]], [], none⟩ ?_ ?_
        · skip
          refine AW.seqR ?_
          refine R.move ?_
          refine R.move ?_
          refine R.indexAddr (x) (colA c[x]) Tryd.underlying23 Tryd.sizeOf49 (getMap hlt) ?_
          refine R.fieldAddrRo (off := 1) Tryd.underlying49 Tryd.sizeOf3 ?_
          refine R.loadRo Tryd.isAgg3 ?_
          refine R.eql ?_
          refine R.fin [0, 1, 6, 7, 10, 11, 40] ?_
          refine W.cond (fun ht40 => ?_) (fun ht40 => ?_)
          · skip
            refine AW.region ?_
            refine R.assign ?_
            refine R.fin [0, 1, 6, 7, 10, 11] ?_
            refine K.thJ ?_
            exact StLe.of_eq (by simp at ht40; simp [nOf1, ht40])
          · skip
            refine W.keep [0, 1, 6, 7, 10, 11] ?_
            refine AW.skip ?_
            refine K.thJ ?_
            exact StLe.of_eq (by simp at ht40; simp [nOf1, ht40])
        · skip
          refine W.join ⟨80, setF 0 (u64A (nextS (genRow s (c.take x)).1)) (setF 1 (colsA c) (setF 6 (.slice true 3 ((genRow s (c.take x)).2.map valA)) (setF 7 (intA (x : Nat)) (setF 10 (.ptr (oid Hp.length 0) 0) (setF 11 (intA (nOf c[x].kind)) (fun _ => .any)))))), Hp, [.cells 64 [intA c[x].kind, intA 0, strA []]], [], none⟩ ?_ ?_
          · skip
            refine AW.seqR ?_
            refine R.move ?_
            refine R.move ?_
            refine R.indexAddr (x) (colA c[x]) Tryd.underlying23 Tryd.sizeOf49 (getMap hlt) ?_
            refine R.fieldAddrRo (off := 1) Tryd.underlying49 Tryd.sizeOf3 ?_
            refine R.loadRo Tryd.isAgg3 ?_
            refine R.eql ?_
            refine R.fin [0, 1, 6, 7, 10, 11, 46] ?_
            refine W.cond (fun ht46 => ?_) (fun ht46 => ?_)
            · skip
              refine AW.region ?_
              refine R.assign ?_
              refine R.fin [0, 1, 6, 7, 10, 11] ?_
              refine K.thJ ?_
              exact StLe.of_eq (by simp at ht46; simp [nOf, ht46])
            · skip
              refine W.keep [0, 1, 6, 7, 10, 11] ?_
              refine AW.skip ?_
              refine K.thJ ?_
              exact StLe.of_eq (by simp at ht46; simp [nOf, ht46])
          · skip
            refine AW.seqR ?_
            refine R.move ?_
            refine R.move ?_
            refine R.call Tryd.call23 (c23 (nextS (genRow s (c.take x)).1) (nOf c[x].kind) (nOf_pos _) (nOf_le _) _) ?_
            refine R.move ?_
            refine R.extract ?_
            refine R.extract ?_
            refine R.assign ?_
            refine R.assign ?_
            refine R.fin [1, 6, 7, 8, 9, 10] ?_
            refine AW.seqR ?_
            refine R.move ?_
            refine R.assign ?_
            refine R.fin [0, 1, 6, 7, 9, 10] ?_
            refine AW.seqR ?_
            refine R.move ?_
            refine R.move ?_
            refine R.indexAddr (x) (colA c[x]) Tryd.underlying23 Tryd.sizeOf49 (getMap hlt) ?_
            refine R.fieldAddrRo (off := 1) Tryd.underlying49 Tryd.sizeOf3 ?_
            refine R.loadRo Tryd.isAgg3 ?_
            refine R.fin [0, 1, 6, 7, 9, 10, 58] ?_
            refine AW.block ?_
            refine AW.seqR ?_
            refine R.eql ?_
            refine R.assign ?_
            refine R.fin [0, 1, 6, 7, 9, 10, 58, 61] ?_
            refine W.cond (fun ht61 => ?_) (fun ht61 => ?_)
            · skip
              have hk1 : c[x].kind = 1 := by simpa using ht61
              have hkr := nextK_range (nextS (nextS (genRow s (c.take x)).1)) (nOf c[x].kind) (nOf_pos _)
              have hkl := nOf_le c[x].kind
              have e : genV (genRow s (c.take x)).1 c[x].kind = (nextS (nextS (genRow s (c.take x)).1), ⟨c[x].kind, nextK (nextS (nextS (genRow s (c.take x)).1)) (nOf c[x].kind) - 20, []⟩) := by simp [genV, hk0, hk1, nOf_1]
              refine AW.region ?_
              refine R.move ?_
              refine R.sub64 ?_
              refine R.fieldAddrPtr (fo := 1) Tryd.underlying64 Tryd.sizeOf2 ?_
              refine R.storeOwn Tryd.sizeOf2 ?_
              refine R.fin [0, 1, 6, 7, 10] ?_
              refine K.blN ?_
              refine K.thJ ?_
              exact StLe.of_eq (by rw [e])
            · skip
              refine AW.seqR ?_
              refine R.eql ?_
              refine R.assign ?_
              refine R.fin [0, 1, 6, 7, 9, 10, 66] ?_
              refine W.cond (fun ht66 => ?_) (fun ht66 => ?_)
              · skip
                have hk2 : c[x].kind = 2 := by simpa using ht66
                have hkr := nextK_range (nextS (nextS (genRow s (c.take x)).1)) (nOf c[x].kind) (nOf_pos _)
                have hkl : nOf c[x].kind = 4 := by rw [hk2]; rfl
                have e : genV (genRow s (c.take x)).1 c[x].kind = (nextS (nextS (genRow s (c.take x)).1), ⟨c[x].kind, 0, textM (nextK (nextS (nextS (genRow s (c.take x)).1)) (nOf c[x].kind))⟩) := by simp [genV, hk0, hk2, nOf_2]
                refine AW.seqR ?_
                refine R.buildSlice Tryd.underlying72 Tryd.sizeOf9 Tryd.zeroValue9 ?_
                refine R.assignT ?_
                refine R.fin [0, 1, 6, 7, 9, 10, 12] ?_
                refine AW.region ?_
                refine R.move ?_
                refine R.move ?_
                refine R.indexAddr ((nextK (nextS (nextS (genRow s (c.take x)).1)) (nOf c[x].kind)).toNat) (strA (textM (nextK (nextS (nextS (genRow s (c.take x)).1)) (nOf c[x].kind)))) Tryd.underlying72 Tryd.sizeOf9 (texts_get (by omega)) ?_
                refine R.loadRo Tryd.isAgg9 ?_
                refine R.fieldAddrPtr (fo := 2) Tryd.underlying64 Tryd.sizeOf9 ?_
                refine R.storeOwn Tryd.sizeOf9 ?_
                refine R.fin [0, 1, 6, 7, 10] ?_
                refine K.blN ?_
                refine K.thJ ?_
                exact StLe.of_eq (by rw [e])
              · skip
                have hk1 : ¬ (c[x].kind = 1) := by simpa using ht61
                have hk2 : ¬ (c[x].kind = 2) := by simpa using ht66
                have e : genV (genRow s (c.take x)).1 c[x].kind = (nextS (nextS (genRow s (c.take x)).1), ⟨c[x].kind, nextK (nextS (nextS (genRow s (c.take x)).1)) (nOf c[x].kind), []⟩) := by simp [genV, hk0, hk1, hk2, nOf_x hk1 hk2]
                refine AW.region ?_
                refine R.move ?_
                refine R.fieldAddrPtr (fo := 1) Tryd.underlying64 Tryd.sizeOf2 ?_
                refine R.storeOwn Tryd.sizeOf2 ?_
                refine R.fin [0, 1, 6, 7, 10] ?_
                refine K.blN ?_
                refine K.thJ ?_
                exact StLe.of_eq (by rw [e])
      · skip
        have hk0 : nextK (nextS (genRow s (c.take x)).1) 8 = 0 := by have := nextK_range (nextS (genRow s (c.take x)).1) 8 (by decide); simp at ht28; omega
        have e : genV (genRow s (c.take x)).1 c[x].kind = (nextS (genRow s (c.take x)).1, ⟨0, 0, []⟩) := by simp [genV, hk0]
        refine W.keep [0, 1, 6, 7, 10] ?_
        refine AW.skip ?_
        refine K.thJ ?_
        exact StLe.of_eq (by rw [e])
    · skip
      refine AW.region ?_
      refine R.moveT ?_
      refine R.loadOwnN Tryd.isAgg64 Tryd.sizeOf64 ?_
      refine R.buildSlice Tryd.underlying32 Tryd.sizeOf64 Tryd.zeroValue64 ?_
      refine R.append Tryd.underlying32 Tryd.type64 ?_ ?_ ?_
      · simp [genRow_len, Tryd.t64]; omega
      · simp [genRow_len, Tryd.t64]; omega
      refine R.assignT ?_
      refine R.fin [0, 1, 6, 7] ?_
      refine K.blN ?_
      refine K.thN ?_
      refine AW.region ?_
      refine R.move ?_
      refine R.add64 ?_
      refine R.assign ?_
      refine R.fin [0, 1, 6, 7] ?_
      refine K.lpN (x + 1) hlt (by omega) ?_
      simp only [genRow_take s c hlt, List.map_append, List.map_cons, List.map_nil]
      exact StCut.take (own := []) (fun _ => .refl _) (by repeat (first | exact lowF_any | refine lowF_set (by simp [or_imp, forall_and]) ?_)) (by simp) (by simp)
  · skip
    have hxe : c.take x = c := List.take_of_length_le (by simp at ht17; omega)
    refine AW.exit ?_
    refine K.thE ?_
    refine K.lpE ?_
    refine K.thN ?_
    refine AW.seqR ?_
    refine R.move ?_
    refine R.move ?_
    refine R.assign ?_
    refine R.assign ?_
    refine R.fin [4, 5] ?_
    refine AW.ret ?_
    exact K.fin (V.two V.tmp V.tmp) ⟨by rw [hxe], rfl⟩

end Go.SX.Nb
namespace Go.SX.Nb
open Go Go.SX Go.Proofs
set_option maxRecDepth 4000
/-- The state behind n rows: the source, the key, the rows. -/
def rowsSt (c : List Col) (s : Int) : Nat → Int × Int × List Row
  | 0 => (s, 0, [])
  | n + 1 =>
    let p := rowsSt c s n
    let s1 := nextS p.1
    let k := p.2.1 + (nextK s1 3 + 1)
    ((genRow s1 c).1, k, p.2.2 ++ [⟨k, (genRow s1 c).2⟩])
def rowsM (c : List Col) (s : Int) (n : Nat) : List Row := (rowsSt c s n).2.2
theorem rowsSt_len (c : List Col) (s : Int) : ∀ n, (rowsSt c s n).2.2.length = n
  | 0 => rfl
  | n + 1 => by simp [rowsSt, rowsSt_len c s n]
theorem rowsSt_key (c : List Col) (s : Int) : ∀ n, 0 ≤ (rowsSt c s n).2.1 ∧ (rowsSt c s n).2.1 ≤ 3 * n
  | 0 => by simp [rowsSt]
  | n + 1 => by
    have := rowsSt_key c s n
    have h := nextK_range (nextS (rowsSt c s n).1) 3 (by decide)
    simp only [rowsSt]
    omega
theorem c10 (s : Int) (c : List Col) (hc : OkCols c) (n : Nat) (hn : n ≤ 1000) (Hp : List AObj) : AFun Tryd.prog 10 [u64A s, colsA c, intA (n : Int)] Hp (rowsA (rowsM c s n)) := by
  refine ACall.body [.tmp 6] [0, 1, 2] Tryd.func10 Tryd.ntmps10 (fun d => ?_)
  refine AW.seqR ?_
  refine R.assign ?_
  refine R.fin [0, 1, 2] ?_
  refine AW.seqR ?_
  refine R.buildSlice Tryd.underlying26 Tryd.sizeOf34 Tryd.zeroValue34 ?_
  refine R.assignT ?_
  refine R.fin [0, 1, 2, 7] ?_
  refine AW.seqR ?_
  refine R.assign ?_
  refine R.fin [0, 1, 2, 7, 8] ?_
  refine W.seq ?_
  refine AW.seqR ?_
  refine R.assign ?_
  refine R.fin [0, 1, 2, 7, 8, 9] ?_
  refine AW.loopC (α := Nat) (fun x => ⟨43, setF 0 (u64A (rowsSt c s x).1) (setF 1 (colsA c) (setF 2 (intA (n : Int)) (setF 7 (.slice true 2 ((rowsSt c s x).2.2.map rowA)) (setF 8 (intA (rowsSt c s x).2.1) (setF 9 (intA (x : Nat)) (fun _ => .any)))))), Hp, [], [], none⟩) (fun x => x ≤ n) (fun x => n - x) (0) (Nat.zero_le _) (StLe.refl _) rfl (fun x hx => ?_)
  refine W.seq ?_
  refine AW.seqR ?_
  refine R.move ?_
  refine R.move ?_
  refine R.lss ?_
  refine R.fin [0, 1, 2, 7, 8, 9, 17] ?_
  refine W.cond (fun ht17 => ?_) (fun ht17 => ?_)
  · skip
    have hlt : x < n := by simpa using ht17
    have hky := rowsSt_key c s x
    have hkr := nextK_range (nextS (rowsSt c s x).1) 3 (by decide)
    refine AW.skip ?_
    refine K.thN ?_
    refine W.seq ?_
    refine AW.block ?_
    refine AW.seqR ?_
    refine R.move ?_
    refine R.call Tryd.call23 (c23 (rowsSt c s x).1 3 (by decide) (by decide) _) ?_
    refine R.move ?_
    refine R.extract ?_
    refine R.extract ?_
    refine R.assign ?_
    refine R.assign ?_
    refine R.fin [1, 2, 7, 8, 9, 10, 11] ?_
    refine AW.seqR ?_
    refine R.move ?_
    refine R.move ?_
    refine R.add64 ?_
    refine R.add64 ?_
    refine R.assign ?_
    refine R.fin [1, 2, 7, 8, 9, 10] ?_
    refine AW.seqR ?_
    refine R.move ?_
    refine R.move ?_
    refine R.call Tryd.call24 (c24 (nextS (rowsSt c s x).1) c hc _) ?_
    refine R.move ?_
    refine R.extract ?_
    refine R.extract ?_
    refine R.assign ?_
    refine R.assign ?_
    refine R.fin [1, 2, 7, 8, 9, 12, 13] ?_
    refine AW.seqR ?_
    refine R.move ?_
    refine R.assign ?_
    refine R.fin [0, 1, 2, 7, 8, 9, 13] ?_
    refine AW.region ?_
    refine R.moveT ?_
    refine R.move ?_
    refine R.move ?_
    refine R.build (places := #[(0, 1), (1, 1)]) Tryd.underlying34 (fun w => by simp) Tryd.zeroValue34 ?_
    refine R.buildSlice Tryd.underlying26 Tryd.sizeOf34 Tryd.zeroValue34 ?_
    refine R.append Tryd.underlying26 Tryd.type34 ?_ ?_ ?_
    · simp [rowsSt_len, Tryd.t34]; omega
    · simp [rowsSt_len, Tryd.t34]; omega
    refine R.assignT ?_
    refine R.fin [0, 1, 2, 7, 8, 9] ?_
    refine K.blN ?_
    refine K.thN ?_
    refine AW.region ?_
    refine R.move ?_
    refine R.add64 ?_
    refine R.assign ?_
    refine R.fin [0, 1, 2, 7, 8, 9] ?_
    refine K.lpN (x + 1) hlt (by omega) (StCut.of_eq ?_)
    simp only [rowsSt, List.map_append, List.map_cons, List.map_nil]
    rfl
  · skip
    have hxe : x = n := by simp at ht17; omega
    subst hxe
    refine AW.exit ?_
    refine K.thE ?_
    refine K.lpE ?_
    refine K.thN ?_
    refine AW.seqR ?_
    refine R.move ?_
    refine R.assign ?_
    refine R.fin [6] ?_
    refine AW.ret ?_
    exact K.fin (V.one V.tmp)

def drawsM (s : Int) : List Int → Int × List Int
  | [] => (s, [])
  | n :: r => if 0 < n then ((drawsM (nextS s) r).1, nextK (nextS s) n :: (drawsM (nextS s) r).2) else ((drawsM s r).1, 0 :: (drawsM s r).2)
theorem drawsM_snoc (n : Int) : ∀ (a : List Int) (s : Int), drawsM s (a ++ [n]) = (if 0 < n then (nextS (drawsM s a).1, (drawsM s a).2 ++ [nextK (nextS (drawsM s a).1) n]) else ((drawsM s a).1, (drawsM s a).2 ++ [0]))
  | [], s => by simp only [List.nil_append, drawsM]
  | m :: r, s => by
    simp only [List.cons_append, drawsM, drawsM_snoc n r]
    split <;> split <;> rfl
theorem drawsM_len : ∀ (a : List Int) (s : Int), (drawsM s a).2.length = a.length
  | [], _ => rfl
  | n :: r, s => by simp only [drawsM]; split <;> simp [drawsM_len r]
theorem drawsM_take (s : Int) (l : List Int) {x : Nat} (h : x < l.length) : drawsM s (l.take (x + 1)) = (if 0 < l[x] then (nextS (drawsM s (l.take x)).1, (drawsM s (l.take x)).2 ++ [nextK (nextS (drawsM s (l.take x)).1) l[x]]) else ((drawsM s (l.take x)).1, (drawsM s (l.take x)).2 ++ [0])) := by
  rw [List.take_succ_eq_append_getElem h, drawsM_snoc]
theorem c18 (s : Int) (l : List Int) (hl : l.length ≤ 1048576) (hb : ∀ n ∈ l, n ≤ 1099511627776) (Hp : List AObj) : AFun Tryd.prog 18 [u64A s, .slice false 1 (l.map intA)] Hp (.slice false 1 ((drawsM s l).2.map intA)) := by
  refine ACall.body [.tmp 4] [0, 1] Tryd.func18 Tryd.ntmps18 (fun d => ?_)
  refine AW.seqR ?_
  refine R.assign ?_
  refine R.fin [0, 1] ?_
  refine AW.seqR ?_
  refine R.move ?_
  refine R.build (places := #[(0, 1)]) Tryd.underlying55 (fun w => by simp) Tryd.zeroValue55 ?_
  refine R.box ?_
  refine R.assign ?_
  refine R.fin [1, 5] ?_
  refine AW.seqR ?_
  refine R.assign ?_
  refine R.fin [1, 5, 6] ?_
  refine W.seq ?_
  refine AW.seqR ?_
  refine R.nilSl 6 1 ?_
  refine R.move ?_
  refine R.len Tryd.underlying46 ?_
  refine R.move ?_
  refine R.fin [5, 6, 13, 14, 15] ?_
  refine AW.loopC (α := Nat) (fun x => ⟨30, setF 5 (.ptr (oid Hp.length 0) 0) (setF 6 (.slice true 1 ((drawsM s (l.take x)).2.map intA)) (setF 13 (.slice false 1 (l.map intA)) (setF 14 (intA l.length) (setF 15 (intA (x : Nat)) (fun _ => .any))))), Hp, [.cells 55 [u64A (drawsM s (l.take x)).1]], [], none⟩) (fun x => x ≤ l.length) (fun x => l.length - x) (0) (Nat.zero_le _) (StLe.of_eq (by simp [drawsM])) rfl (fun x hx => ?_)
  refine AW.seqR ?_
  refine R.lss ?_
  refine R.fin [5, 6, 13, 14, 15, 16] ?_
  refine W.condX (fun ht16 => ?_) (fun ht16 => ?_)
  · skip
    have hlt : x < l.length := by simpa using ht16
    refine W.seq ?_
    refine AW.block ?_
    refine AW.seqR ?_
    refine R.indexAddr (x) (intA l[x]) Tryd.underlying46 Tryd.sizeOf3 (getMap hlt) ?_
    refine R.loadRo Tryd.isAgg3 ?_
    refine R.assign ?_
    refine R.fin [5, 6, 8, 13, 14, 15] ?_
    refine AW.seqR ?_
    refine R.assign ?_
    refine R.fin [5, 6, 8, 9, 13, 14, 15] ?_
    refine W.join ⟨30, setF 5 (.ptr (oid Hp.length 0) 0) (setF 6 (.slice true 1 ((drawsM s (l.take x)).2.map intA)) (setF 9 (intA (if 0 < l[x] then nextK (nextS (drawsM s (l.take x)).1) l[x] else 0)) (setF 13 (.slice false 1 (l.map intA)) (setF 14 (intA l.length) (setF 15 (intA (x : Nat)) (fun _ => .any)))))), Hp, [.cells 55 [u64A (if 0 < l[x] then nextS (drawsM s (l.take x)).1 else (drawsM s (l.take x)).1)]], [], none⟩ ?_ ?_
    · skip
      refine AW.seqR ?_
      refine R.move ?_
      refine R.gtr ?_
      refine R.fin [5, 6, 8, 9, 13, 14, 15, 20] ?_
      refine W.cond (fun ht20 => ?_) (fun ht20 => ?_)
      · skip
        have h0 : 0 < l[x] := by simpa using ht20
        refine AW.region ?_
        refine R.move ?_
        refine R.move ?_
        refine R.callOwn Tryd.call30 (c30 (oid Hp.length 0) (drawsM s (l.take x)).1 l[x] h0 (hb _ (List.getElem_mem hlt)) _ (by simp [oid])) ?_
        refine R.assign ?_
        refine R.fin [5, 6, 9, 13, 14, 15] ?_
        refine K.thJ ?_
        exact StLe.of_eq (by simp only [h0, if_true, if_false])
      · skip
        have h0 : ¬ (0 < l[x]) := by simpa using ht20
        refine W.keep [5, 6, 9, 13, 14, 15] ?_
        refine AW.skip ?_
        refine K.thJ ?_
        exact StLe.of_eq (by simp only [h0, if_true, if_false])
    · skip
      refine AW.region ?_
      refine R.moveT ?_
      refine R.move ?_
      refine R.buildSlice Tryd.underlying46 Tryd.sizeOf3 Tryd.zeroValue3 ?_
      refine R.append Tryd.underlying46 Tryd.type3 ?_ ?_ ?_
      · simp [drawsM_len, Tryd.t3]; omega
      · simp [drawsM_len, Tryd.t3]; omega
      refine R.assignT ?_
      refine R.fin [5, 6, 13, 14, 15] ?_
      refine K.blN ?_
      refine K.thN ?_
      refine AW.region ?_
      refine R.add64 ?_
      refine R.move ?_
      refine R.fin [5, 6, 13, 14, 15] ?_
      refine K.lpN (x + 1) hlt (by omega) (StCut.of_eq ?_)
      simp only [drawsM_take s l hlt]
      split <;> simp <;> rfl
  · skip
    have hxe : l.take x = l := List.take_of_length_le (by simp at ht16; omega)
    refine K.lpE ?_
    refine K.thN ?_
    refine AW.seqR ?_
    refine R.move ?_
    refine R.assign ?_
    refine R.fin [4] ?_
    refine AW.ret ?_
    exact K.fin (V.one V.tmp) ⟨by rw [hxe], rfl⟩

theorem c5 (Hp : List AObj) : AFun Tryd.prog 5 [] Hp (boolA true) := by
  refine ACall.body [.tmp 0] [] Tryd.func5 Tryd.ntmps5 (fun d => ?_)
  refine AW.seqR ?_
  refine R.assign ?_
  refine R.fin [] ?_
  refine AW.seqR ?_
  refine R.buildSlice Tryd.underlying46 Tryd.sizeOf3 Tryd.zeroValue3 ?_
  refine R.call Tryd.call18 (c18 0 [1000] (by decide) (by decide) _) ?_
  refine R.assign ?_
  refine R.fin [1] ?_
  refine AW.seqR ?_
  refine R.move ?_
  refine R.len Tryd.underlying46 ?_
  refine R.eql ?_
  refine R.move ?_
  refine G.move ?_
  refine G.indexAddr (0) (intA 807) Tryd.underlying46 Tryd.sizeOf3 (fun _ => rfl) ?_
  refine G.loadRo Tryd.isAgg3 ?_
  refine G.eql ?_
  refine R.pickAnd ?_
  refine R.assign ?_
  refine R.fin [0] ?_
  refine AW.ret ?_
  exact K.fin (V.one V.tmp)

end Go.SX.Nb
namespace Go.SX.Nb
open Go Go.SX Go.Proofs
set_option maxRecDepth 4000
theorem c20 (i : Nat) (c : List Col) (Hp : List AObj) (hi : i < Hp.length) : AFun Tryd.prog 20 [.ptr i 0, colsA c] Hp (.fn (.func 31) [] [.ro [.ptr i 0], .ro [colsA c]]) := by
  refine ACall.body [.tmp 4] [0, 1] Tryd.func20 Tryd.ntmps20 (fun d => ?_)
  refine AW.seqR ?_
  refine R.boxRo ?_
  refine R.boxRo ?_
  refine R.assign ?_
  refine R.fin [2, 3] ?_
  refine AW.seqR ?_
  refine R.makeFunc ?_
  refine R.assign ?_
  refine R.fin [4] ?_
  refine AW.ret ?_
  exact K.fin (V.one V.tmp) (hlow := by simp [hi])

def rowAtM (c : List Col) (s : Int) (j : Nat) : Row := ⟨(rowsSt c s (j + 1)).2.1, (genRow (nextS (rowsSt c s j).1) c).2⟩
theorem rowsSt_succ (c : List Col) (s : Int) (n : Nat) : rowsSt c s (n + 1) = ((genRow (nextS (rowsSt c s n).1) c).1, (rowsSt c s n).2.1 + (nextK (nextS (rowsSt c s n).1) 3 + 1), (rowsSt c s n).2.2 ++ [rowAtM c s n]) := rfl
theorem c31 (l i : Nat) (c : List Col) (hc : OkCols c) (s : Int) (N : Nat) (hN : 0 < N) (hN2 : N ≤ 1000) (U : Nat → List AObj) (Fin : List AObj)
    (hU : ∀ j, j < N → (U j)[i]? = some (.cells 55 [u64A (rowsSt c s j).1]))
    (hlen : ∀ j, (U j).length = (U 0).length) (hi : i < (U 0).length) (hll : l < (U 0).length)
    (hy : ∀ j, j < N → AYield Tryd.prog l [rowA (rowAtM c s j)] ((U j).set i (.cells 55 [u64A (rowsSt c s (j + 1)).1])) (fun b H' => if j + 1 < N then b = true ∧ H' = U (j + 1) else b = false ∧ H' = Fin)) : ACall Tryd.prog 31 [.yield l, .ro [.ptr i 0], .ro [colsA c]] (U 0) (fun r H' => H' = Fin) := by
  refine ACall.body [] [0, 1, 2] Tryd.func31 Tryd.ntmps31 (fun d => ?_)
  refine AW.seqR ?_
  refine R.assign ?_
  refine R.fin [0, 1, 2, 4] ?_
  refine AW.loopC (α := Nat) (fun x => ⟨18, setF 0 (.yield l) (setF 1 (.ro [.ptr i 0]) (setF 2 (.ro [colsA c]) (setF 4 (intA (rowsSt c s x).2.1) (fun _ => .any)))), U x, [], [], none⟩) (fun x => x < N) (fun x => N - x) (0) hN (StLe.of_eq (by simp [rowsSt])) rfl (fun x hx => ?_)
  have hky := rowsSt_key c s x
  have hkr := nextK_range (nextS (rowsSt c s x).1) 3 (by decide)
  have hux := hU x hx
  refine AW.block ?_
  refine AW.seqR ?_
  refine R.move ?_
  refine R.loadRo Tryd.isAgg53 ?_
  refine R.callUp Tryd.call30 hux (by simp) low1 (c30 i (rowsSt c s x).1 3 (by decide) (by decide) _ (get_up hux)) ?_
  refine R.add64 ?_
  refine R.add64 ?_
  refine R.assign ?_
  refine R.fin [0, 1, 2, 4] ?_
  refine AW.seqR ?_
  refine R.move ?_
  refine R.move ?_
  refine R.loadRo Tryd.isAgg53 ?_
  refine R.loadRo Tryd.isAgg23 ?_
  refine R.callUp Tryd.call32 (getset hux) (by simp) low1 (c32 i (nextS (rowsSt c s x).1) c hc _ (get_up (getset hux))) ?_
  refine R.build (places := #[(0, 1), (1, 1)]) Tryd.underlying34 (fun w => by simp) Tryd.zeroValue34 ?_
  rw [List.set_set]
  refine R.yield0 (hy x hx) ?_
  intro b V hV hb
  refine R.not ?_
  refine R.fin [0, 1, 2, 4, 17] ?_
  refine W.cond (fun ht17 => ?_) (fun ht17 => ?_)
  · skip
    have hb' : b = false := by simpa using ht17
    subst hb'
    have hF : V = Fin := by split at hb <;> simp_all
    refine AW.ret ?_
    refine K.blR ?_
    refine K.lpR ?_
    exact K.fin .nores (hp := hF)
  · skip
    have hb' : b = true := by simpa using ht17
    subst hb'
    have hF : x + 1 < N ∧ V = U (x + 1) := by split at hb <;> simp_all
    refine W.keep [0, 1, 2, 4] ?_
    refine AW.skip ?_
    refine K.blN ?_
    exact K.lpN (x + 1) hF.1 (by omega) (StCut.of_eq (by rw [hF.2]; rfl))

end Go.SX.Nb
namespace Go.SX.Nb
open Go Go.SX Go.Proofs
set_option maxRecDepth 4000
theorem c56 (y : Col) (nm : Str) (Hp : List AObj) : AFun Tryd.prog 56 [colA y, .ro [strA nm]] Hp (boolA (y.name == nm)) := by
  refine ACall.body [.tmp 3] [0, 1] Tryd.func56 Tryd.ntmps56 (fun d => ?_)
  refine AW.seqR ?_
  refine R.boxRo ?_
  refine R.assign ?_
  refine R.fin [1, 2] ?_
  refine AW.seqR ?_
  refine R.fieldAddrRo (off := 0) Tryd.underlying49 Tryd.sizeOf9 ?_
  refine R.loadRo Tryd.isAgg9 ?_
  refine R.loadRo Tryd.isAgg9 ?_
  refine R.seql ?_
  refine R.assign ?_
  refine R.fin [3] ?_
  refine AW.ret ?_
  exact K.fin (V.one V.tmp)

theorem c55 (c : List Col) (hc : OkCols c) (nm : Str) (Hp : List AObj) : AFun Tryd.prog 55 [colsA c, .fn (.func 56) [] [.ro [strA nm]]] Hp (intA (findM nm c)) := by
  refine ACall.body [.tmp 4] [0, 1] Tryd.func55 Tryd.ntmps55 (fun d => ?_)
  refine AW.seqR ?_
  refine R.assign ?_
  refine R.fin [0, 1] ?_
  refine W.seq ?_
  refine AW.seqR ?_
  refine R.move ?_
  refine R.len Tryd.underlying23 ?_
  refine R.move ?_
  refine R.fin [0, 1, 7, 8] ?_
  refine AW.loopC (α := Nat) (fun x => ⟨19, setF 0 (colsA c) (setF 1 (.fn (.func 56) [] [.ro [strA nm]]) (setF 7 (intA c.length) (setF 8 (intA (x : Nat)) (fun _ => .any)))), Hp, [], [], none⟩) (fun x => x ≤ c.length ∧ ∀ (j : Nat) (y : Col), j < x → c[j]? = some y → ¬ (y.name = nm)) (fun x => c.length - x) (0) (by simp) (StLe.of_eq (by simp)) rfl (fun x hx => ?_)
  refine AW.seqR ?_
  refine R.lss ?_
  refine R.fin [0, 1, 7, 8, 9] ?_
  refine W.condX (fun ht9 => ?_) (fun ht9 => ?_)
  · skip
    have hlt : x < c.length := by simpa using ht9
    have hcl := hc.len
    refine W.seq ?_
    refine AW.block ?_
    refine AW.seqR ?_
    refine R.move ?_
    refine R.assign ?_
    refine R.fin [0, 1, 5, 7, 8] ?_
    refine AW.seqR ?_
    refine R.move ?_
    refine R.move ?_
    refine R.move ?_
    refine R.indexAddr (x) (colA c[x]) Tryd.underlying23 Tryd.sizeOf49 (getMap hlt) ?_
    refine R.loadRoN Tryd.isAgg49 Tryd.sizeOf49 ?_
    refine R.callV Tryd.call56 (c56 c[x] nm _) ?_
    refine R.fin [0, 1, 5, 7, 8, 16] ?_
    refine W.cond (fun ht16 => ?_) (fun ht16 => ?_)
    · skip
      refine AW.seqR ?_
      refine R.move ?_
      refine R.assign ?_
      refine R.fin [4] ?_
      refine AW.ret ?_
      refine K.blR ?_
      refine K.thR ?_
      refine K.lpR ?_
      refine K.thR ?_
      exact K.fin (V.one V.tmp) ⟨by rw [findM_at hlt (by simpa using ht16) hx.2], rfl⟩
    · skip
      refine AW.skip ?_
      refine K.blN ?_
      refine K.thN ?_
      refine AW.region ?_
      refine R.add64 ?_
      refine R.move ?_
      refine R.fin [0, 1, 7, 8] ?_
      exact K.lpN (x + 1) ⟨hlt, upto_succ hlt hx.2 (by simpa using ht16)⟩ (by omega) (StCut.of_eq rfl)
  · skip
    refine K.lpE ?_
    refine K.thN ?_
    refine AW.seqR ?_
    refine R.assign ?_
    refine R.fin [4] ?_
    refine AW.ret ?_
    exact K.fin (V.one V.tmp) ⟨by rw [findM_none (upto_all (by simp at ht9; omega) hx.2)], rfl⟩

theorem c46 (c : List Col) (hc : OkCols c) (nm : Str) (Hp : List AObj) : AFun Tryd.prog 46 [colsA c, strA nm] Hp (intA (findM nm c)) := by
  refine ACall.body [.tmp 4] [0, 1] Tryd.func46 Tryd.ntmps46 (fun d => ?_)
  refine AW.seqR ?_
  refine R.boxRo ?_
  refine R.assign ?_
  refine R.fin [0, 3] ?_
  refine AW.seqR ?_
  refine R.move ?_
  refine R.makeFunc ?_
  refine R.call Tryd.call55 (c55 c hc nm _) ?_
  refine R.assign ?_
  refine R.fin [4] ?_
  refine AW.ret ?_
  exact K.fin (V.one V.tmp)

end Go.SX.Nb
namespace Go.SX.Nb
open Go Go.SX Go.Proofs
set_option maxRecDepth 4000
def runM (s of : Str) : Int := (s.length : Int) - (Lib.trimLeftS s of).length
theorem trim_le (s of : Str) : (Lib.trimLeftS s of).length ≤ s.length := by
  unfold Lib.trimLeftS
  exact (List.dropWhile_sublist _).length_le
def reservedText : Str := [32, 97, 100, 100, 32, 100, 114, 111, 112, 32, 114, 101, 110, 97, 109, 101, 32, 115, 112, 108, 105, 116, 32, 109, 101, 114, 103, 101, 32, 114, 101, 116, 121, 112, 101, 32, 105, 110, 116, 111, 32, 116, 111, 32, 98, 97, 99, 107, 32, 97, 110, 100, 32, 111, 114, 32, 110, 111, 116, 32, 116, 114, 117, 101, 32, 102, 97, 108, 115, 101, 32, 110, 117, 108, 108, 32, 105, 110, 116, 32, 116, 101, 120, 116, 32, 98, 111, 111, 108, 32, 115, 101, 108, 101, 99, 116, 32, 119, 104, 101, 114, 101, 32, 102, 114, 111, 109, 32, 108, 105, 109, 105, 116, 32]
def letters : Str := [97, 98, 99, 100, 101, 102, 103, 104, 105, 106, 107, 108, 109, 110, 111, 112, 113, 114, 115, 116, 117, 118, 119, 120, 121, 122]
def tails : Str := [97, 98, 99, 100, 101, 102, 103, 104, 105, 106, 107, 108, 109, 110, 111, 112, 113, 114, 115, 116, 117, 118, 119, 120, 121, 122, 48, 49, 50, 51, 52, 53, 54, 55, 56, 57, 95]
theorem c67 (s of : Str) (hs : s.length ≤ 1048576) (ho : of.length ≤ 1048576) (ha : ∀ c ∈ of, c.toNat < 128) (Hp : List AObj) : AFun Tryd.prog 67 [strA s, strA of] Hp (intA (runM s of)) := by
  refine ACall.body [.tmp 4] [0, 1] Tryd.func67 Tryd.ntmps67 (fun d => ?_)
  refine AW.seqR ?_
  refine R.assign ?_
  refine R.fin [0, 1] ?_
  refine AW.seqR ?_
  refine R.move ?_
  refine R.slen Tryd.underlying9 ?_
  refine R.move ?_
  refine R.move ?_
  refine R.call Tryd.call74 (c74 s of (by omega) ha _) ?_
  refine R.slen Tryd.underlying9 ?_
  have htl := trim_le s of
  refine R.sub64 ?_
  refine R.assign ?_
  refine R.fin [4] ?_
  refine AW.ret ?_
  exact K.fin (V.one V.tmp)

def lexReservedM (s : Str) : Bool := (!(s == []) && !Lib.contains s [32]) && Lib.contains reservedText ([32] ++ s ++ [32])
theorem c68 (s : Str) (hs : s.length ≤ 1048576) (Hp : List AObj) : AFun Tryd.prog 68 [strA s] Hp (boolA (lexReservedM s)) := by
  refine ACall.body [.tmp 2] [0] Tryd.func68 Tryd.ntmps68 (fun d => ?_)
  refine AW.seqR ?_
  refine R.assign ?_
  refine R.fin [0] ?_
  refine AW.seqR ?_
  refine R.move ?_
  refine R.sneq ?_
  refine R.move ?_
  refine G.move ?_
  refine G.call Tryd.call69 (fun hB => c69 s [32] (by omega) _) ?_
  refine G.not ?_
  refine R.pickAnd ?_
  refine R.move ?_
  refine G.move ?_
  refine G.sadd ?_
  refine G.sadd ?_
  refine G.call Tryd.call69 (fun hB => c69 reservedText ([32] ++ s ++ [32]) (by decide) _) ?_
  refine R.pickAnd ?_
  refine R.assign ?_
  refine R.fin [2] ?_
  refine AW.ret ?_
  exact K.fin (V.one V.tmp)

theorem one_le {s : Str} {b c : Bool} (h : (((!(s == []) && b) && c) == true) = true) : 1 ≤ s.length := by
  cases s with
  | nil => simp at h
  | cons x r => simp
def lexNameM (s : Str) : Bool := ((((!(s == []) && decide ((s.length : Int) ≤ 16)) && (runM s tails == (s.length : Int))) && (runM (s.take 1) letters == 1)) && !lexReservedM s)
theorem c63 (s : Str) (hs : s.length ≤ 1048576) (Hp : List AObj) : AFun Tryd.prog 63 [strA s] Hp (boolA (lexNameM s)) := by
  refine ACall.body [.tmp 2] [0] Tryd.func63 Tryd.ntmps63 (fun d => ?_)
  refine AW.seqR ?_
  refine R.assign ?_
  refine R.fin [0] ?_
  refine AW.seqR ?_
  refine R.move ?_
  refine R.sneq ?_
  refine R.move ?_
  refine G.move ?_
  refine G.slen Tryd.underlying9 ?_
  refine G.leq ?_
  refine R.pickAnd ?_
  refine R.move ?_
  refine G.move ?_
  refine G.call Tryd.call67 (fun hB => c67 s tails hs (by decide) (by decide) _) ?_
  refine G.move ?_
  refine G.slen Tryd.underlying9 ?_
  refine G.eql ?_
  refine R.pickAnd ?_
  refine R.move ?_
  refine G.move ?_
  refine G.scutH 1 Tryd.underlying9 (fun _ => Nat.zero_le _) (fun hB => one_le hB) ?_
  refine G.call Tryd.call67 (fun hB => c67 (s.take 1) letters (by simp; omega) (by decide) (by decide) _) ?_
  refine G.eql ?_
  refine R.pickAnd ?_
  refine R.move ?_
  refine G.move ?_
  refine G.call Tryd.call68 (fun hB => c68 s hs _) ?_
  refine G.not ?_
  refine R.pickAnd ?_
  refine R.assign ?_
  refine R.fin [2] ?_
  refine AW.ret ?_
  exact K.fin (V.one V.tmp)

end Go.SX.Nb
namespace Go.SX.Nb
open Go Go.SX Go.Proofs
set_option maxRecDepth 4000
def kindText : Str := [32, 105, 110, 116, 32, 116, 101, 120, 116, 32, 98, 111, 111, 108]
def kindNames : List Str := [[], [105, 110, 116], [116, 101, 120, 116], [98, 111, 111, 108]]
theorem kindSplit : splitM kindText [32] = kindNames := by kernel_rfl
def kindNameM (k : Int) : Str := if k < 1 ∨ 3 < k then [] else kindNames.getD k.toNat []
theorem c45 (k : Int) (Hp : List AObj) : AFun Tryd.prog 45 [intA k] Hp (strA (kindNameM k)) := by
  refine ACall.body [.tmp 2] [0] Tryd.func45 Tryd.ntmps45 (fun d => ?_)
  refine AW.seqR ?_
  refine R.assign ?_
  refine R.fin [0] ?_
  refine W.seq ?_
  refine AW.seqR ?_
  refine R.move ?_
  refine R.lss ?_
  refine R.move ?_
  refine G.move ?_
  refine G.gtr ?_
  refine R.pickOr ?_
  refine R.fin [0, 8] ?_
  refine W.cond (fun ht8 => ?_) (fun ht8 => ?_)
  · skip
    refine AW.seqR ?_
    refine R.assign ?_
    refine R.fin [2] ?_
    refine AW.ret ?_
    refine K.thR ?_
    exact K.fin (V.one V.tmp) ⟨by rw [show kindNameM k = [] from if_pos (by simpa using ht8)], rfl⟩
  · skip
    refine AW.skip ?_
    refine K.thN ?_
    refine AW.seqR ?_
    have hk : 1 ≤ k ∧ k ≤ 3 := by simp at ht8; omega
    have hget : (kindNames.map strA)[k.toNat]? = some (strA (kindNames.getD k.toNat [])) := by
      have hlt : k.toNat < kindNames.length := by show k.toNat < 4; omega
      rw [List.getElem?_map, List.getElem?_eq_getElem hlt, List.getD_eq_getElem?_getD, List.getElem?_eq_getElem hlt]
      rfl
    refine R.call Tryd.call54 (kindSplit ▸ c54 kindText [32] (by decide) (by decide) _) ?_
    refine R.move ?_
    refine R.indexAddr (k.toNat) (strA (kindNames.getD k.toNat [])) Tryd.underlying72 Tryd.sizeOf9 hget ?_
    refine R.loadRo Tryd.isAgg9 ?_
    refine R.assign ?_
    refine R.fin [2] ?_
    refine AW.ret ?_
    exact K.fin (V.one V.tmp) ⟨by rw [show kindNameM k = kindNames.getD k.toNat [] from if_neg (by omega)], rfl⟩

def isMarkM (s of : Str) : Bool := (!(s == []) && !Lib.contains s [32]) && Lib.contains of ([32] ++ s ++ [32])
theorem c64 (s of : Str) (hs : s.length ≤ 1048576) (ho : of.length ≤ 1048576) (Hp : List AObj) : AFun Tryd.prog 64 [strA s, strA of] Hp (boolA (isMarkM s of)) := by
  refine ACall.body [.tmp 4] [0, 1] Tryd.func64 Tryd.ntmps64 (fun d => ?_)
  refine AW.seqR ?_
  refine R.assign ?_
  refine R.fin [0, 1] ?_
  refine AW.seqR ?_
  refine R.move ?_
  refine R.sneq ?_
  refine R.move ?_
  refine G.move ?_
  refine G.call Tryd.call69 (fun hB => c69 s [32] (by omega) _) ?_
  refine G.not ?_
  refine R.pickAnd ?_
  refine R.move ?_
  refine G.move ?_
  refine G.move ?_
  refine G.sadd ?_
  refine G.sadd ?_
  refine G.call Tryd.call69 (fun hB => c69 of ([32] ++ s ++ [32]) (by omega) _) ?_
  refine R.pickAnd ?_
  refine R.assign ?_
  refine R.fin [4] ?_
  refine AW.ret ?_
  exact K.fin (V.one V.tmp)

def arityText : Str := [108, 101, 110, 58, 49, 32, 115, 116, 114, 58, 49, 32, 110, 117, 109, 58, 49, 32, 105, 115, 110, 117, 108, 108, 58, 49, 32, 110, 118, 108, 58, 50, 32, 108, 101, 102, 116, 58, 50, 32, 114, 105, 103, 104, 116, 58, 50, 32, 105, 102, 58, 51]
def arityList : List (Str × UInt8) := [([108, 101, 110], 49), ([115, 116, 114], 49), ([110, 117, 109], 49), ([105, 115, 110, 117, 108, 108], 49), ([110, 118, 108], 50), ([108, 101, 102, 116], 50), ([114, 105, 103, 104, 116], 50), ([105, 102], 51)]
def pieceOf (p : Str × UInt8) : Str := p.1 ++ [58, p.2]
theorem aritySplit : splitM arityText [32] = arityList.map pieceOf := by kernel_rfl
theorem arityCut {p : Str × UInt8} (hp : p ∈ arityList) : Lib.cut (pieceOf p) [58] = (p.1, [p.2], true) := by
  have h : (arityList.all fun p => decide (Lib.cut (pieceOf p) [58] = (p.1, [p.2], true))) = true := by kernel_rfl
  exact of_decide_eq_true (List.all_eq_true.1 h p hp)
def arityV (p : Str × UInt8) : Int := IntKind.i64.wrap (IntKind.u8.wrap ((p.2.toNat : Int) - 48))
def arityM (nm : Str) : Int := match arityList.find? (fun p => p.1 == nm) with | some p => arityV p | none => -1
theorem find_at {α : Type} {p : α → Bool} {l : List α} {x : Nat} (h : x < l.length) (hp : p l[x] = true) (h2 : ∀ (j : Nat) (y : α), j < x → l[j]? = some y → p y = false) : l.find? p = some l[x] := by
  rw [List.find?_eq_some_iff_getElem]
  exact ⟨hp, x, h, rfl, fun j hj => by simpa using h2 j l[j] hj (List.getElem?_eq_getElem _)⟩
theorem find_none {α : Type} {p : α → Bool} {l : List α} (h : ∀ (j : Nat) (y : α), l[j]? = some y → p y = false) : l.find? p = none := by
  rw [List.find?_eq_none]
  intro y hy
  obtain ⟨j, hj⟩ := List.getElem?_of_mem hy
  simpa using h j y hj
theorem arity_len : arityList.length = 8 := rfl
theorem piece_len {p : Str × UInt8} (hp : p ∈ arityList) : (pieceOf p).length < 4294967281 := by
  have h : (arityList.all fun p => decide ((pieceOf p).length < 4294967281)) = true := by kernel_rfl
  exact of_decide_eq_true (List.all_eq_true.1 h p hp)
theorem c65 (nm : Str) (Hp : List AObj) : AFun Tryd.prog 65 [strA nm] Hp (intA (arityM nm)) := by
  refine ACall.body [.tmp 2] [0] Tryd.func65 Tryd.ntmps65 (fun d => ?_)
  refine AW.seqR ?_
  refine R.assign ?_
  refine R.fin [0] ?_
  refine W.seq ?_
  refine AW.seqR ?_
  refine R.call Tryd.call54 (aritySplit ▸ c54 arityText [32] (by decide) (by decide) _) ?_
  refine R.len Tryd.underlying72 ?_
  refine R.move ?_
  refine R.fin [0, 8, 9, 10] ?_
  refine AW.loopC (α := Nat) (fun x => ⟨28, setF 0 (strA nm) (setF 8 (strsA (arityList.map pieceOf)) (setF 9 (intA 8) (setF 10 (intA (x : Nat)) (fun _ => .any)))), Hp, [], [], none⟩) (fun x => x ≤ 8 ∧ ∀ (j : Nat) (y : Str × UInt8), j < x → arityList[j]? = some y → (y.1 == nm) = false) (fun x => 8 - x) (0) (by simp) (StLe.refl _) rfl (fun x hx => ?_)
  refine AW.seqR ?_
  refine R.lss ?_
  refine R.fin [0, 8, 9, 10, 11] ?_
  refine W.condX (fun ht11 => ?_) (fun ht11 => ?_)
  · skip
    have hlt : x < arityList.length := by rw [arity_len]; simp at ht11; omega
    have hal := arity_len
    have hget : ((arityList.map pieceOf).map strA)[x]? = some (strA (pieceOf arityList[x])) := by rw [List.map_map]; exact getMap hlt
    refine W.seq ?_
    refine AW.block ?_
    refine AW.seqR ?_
    refine R.indexAddr (x) (strA (pieceOf arityList[x])) Tryd.underlying72 Tryd.sizeOf9 hget ?_
    refine R.loadRo Tryd.isAgg9 ?_
    refine R.assign ?_
    refine R.fin [0, 4, 8, 9, 10] ?_
    refine AW.seqR ?_
    refine R.move ?_
    refine R.call Tryd.call70 ((arityCut (List.getElem_mem hlt)) ▸ c70 (pieceOf arityList[x]) [58] (piece_len (List.getElem_mem hlt)) _) ?_
    refine R.move ?_
    refine R.extract ?_
    refine R.extract ?_
    refine R.extract ?_
    refine R.assign ?_
    refine R.assign ?_
    refine R.assign ?_
    refine R.fin [0, 5, 6, 8, 9, 10] ?_
    refine AW.seqR ?_
    refine R.move ?_
    refine R.move ?_
    refine R.seql ?_
    refine R.fin [0, 6, 8, 9, 10, 22] ?_
    refine W.cond (fun ht22 => ?_) (fun ht22 => ?_)
    · skip
      refine AW.seqR ?_
      refine R.move ?_
      refine R.sindex 0 arityList[x].2 Tryd.underlying9 rfl  ?_
      refine R.sub ?_
      refine R.iconv Tryd.underlying5 Tryd.underlying3 ?_
      refine R.assign ?_
      refine R.fin [2] ?_
      refine AW.ret ?_
      refine K.blR ?_
      refine K.thR ?_
      refine K.lpR ?_
      refine K.thR ?_
      exact K.fin (V.one V.tmp) ⟨by rw [arityM, find_at hlt ht22 hx.2]; rfl, rfl⟩
    · skip
      refine AW.skip ?_
      refine K.blN ?_
      refine K.thN ?_
      refine AW.region ?_
      refine R.add64 ?_
      refine R.move ?_
      refine R.fin [0, 8, 9, 10] ?_
      exact K.lpN (x + 1) ⟨by omega, upto_succ hlt hx.2 ht22⟩ (by omega) (StCut.of_eq rfl)
  · skip
    have hal := arity_len
    refine K.lpE ?_
    refine K.thN ?_
    refine AW.seqR ?_
    refine R.assign ?_
    refine R.fin [2] ?_
    refine AW.ret ?_
    exact K.fin (V.one V.tmp) ⟨by rw [arityM, find_none (upto_all (by simp at ht11; omega) hx.2)], rfl⟩

end Go.SX.Nb
namespace Go.SX.Nb
open Go Go.SX Go.Proofs
set_option maxRecDepth 4000
inductive Expr where
  | mk (op : Int) (text : Str) (val : Val) (kids : List Expr)
def Expr.op : Expr → Int | .mk o _ _ _ => o
def Expr.text : Expr → Str | .mk _ t _ _ => t
def Expr.val : Expr → Val | .mk _ _ v _ => v
def Expr.kids : Expr → List Expr | .mk _ _ _ k => k
mutual
def exprA : Expr → AV
  | .mk o t v k => .agg [.v (.int .i64 o), .v (sv t), .v (.int .i64 v.kind), .v (.int .i64 v.n), .v (sv v.s), .slice false 6 (exprsL k)]
def exprsL : List Expr → List AV
  | [] => []
  | e :: r => exprA e :: exprsL r
 end
theorem exprsL_map : ∀ l, exprsL l = l.map exprA
  | [] => rfl
  | e :: r => by rw [exprsL, exprsL_map r]; rfl
theorem exprA_eq (e : Expr) : exprA e = .agg [.v (.int .i64 e.op), .v (sv e.text), .v (.int .i64 e.val.kind), .v (.int .i64 e.val.n), .v (sv e.val.s), .slice false 6 (e.kids.map exprA)] := by
  cases e with
  | mk o t v k => rw [exprA, exprsL_map]; rfl
attribute [go_sem] exprA_eq
def marksText : Str := [32, 111, 114, 32, 32, 97, 110, 100, 32, 32, 61, 32, 33, 61, 32, 60, 32, 60, 61, 32, 62, 32, 62, 61, 32, 32, 43, 32, 45, 32, 38, 32, 32, 42, 32, 47, 32, 37, 32]
def bareM (v : Val) : Bool := v.kind == 0 && v.n == 0 && v.s == []
def nodeM (e : Expr) : Bool :=
  if e.op == 1 then ((plainM e.val && decide (0 ≤ e.val.n)) && (e.text == [])) && ((e.kids.length : Int) == 0)
  else if e.op == 2 then (bareM e.val && lexNameM e.text) && ((e.kids.length : Int) == 0)
  else if e.op == 3 || e.op == 4 then (bareM e.val && (e.text == [])) && ((e.kids.length : Int) == 1)
  else if e.op == 5 then (bareM e.val && isMarkM e.text marksText) && ((e.kids.length : Int) == 2)
  else if e.op == 6 then bareM e.val && (arityM e.text == (e.kids.length : Int))
  else false
theorem c53 (e : Expr) (hs : e.text.length ≤ 1048576) (Hp : List AObj) : AFun Tryd.prog 53 [exprA e] Hp (boolA (nodeM e)) := by
  refine ACall.body [.tmp 2] [0] Tryd.func53 Tryd.ntmps53 (fun d => ?_)
  refine AW.seqR ?_
  refine R.boxRo ?_
  refine R.assign ?_
  refine R.fin [1] ?_
  refine AW.seqR ?_
  refine R.fieldAddrRo (off := 2) Tryd.underlying88 Tryd.sizeOf64 ?_
  refine R.loadRoN Tryd.isAgg64 Tryd.sizeOf64 ?_
  refine R.build (places := #[(0, 1), (1, 1), (2, 1)]) Tryd.underlying64 (fun w => by simp) Tryd.zeroValue64 ?_
  refine R.eqlAgg eg64 (equal64 e.val.kind e.val.n 0 0 e.val.s []) ?_
  refine R.assign ?_
  refine R.fin [1, 3] ?_
  refine W.seq ?_
  refine AW.seqR ?_
  refine R.fieldAddrRo (off := 0) Tryd.underlying88 Tryd.sizeOf3 ?_
  refine R.loadRo Tryd.isAgg3 ?_
  refine R.fin [1, 3, 9] ?_
  refine AW.block ?_
  refine AW.seqR ?_
  refine R.eql ?_
  refine R.assign ?_
  refine R.fin [1, 3, 9, 10] ?_
  refine W.cond (fun ht10 => ?_) (fun ht10 => ?_)
  · skip
    refine AW.seqR ?_
    refine R.fieldAddrRo (off := 2) Tryd.underlying88 Tryd.sizeOf64 ?_
    refine R.loadRoN Tryd.isAgg64 Tryd.sizeOf64 ?_
    refine R.call Tryd.call57 (c57 e.val _) ?_
    refine R.move ?_
    refine G.fieldAddrRo (off := 2) Tryd.underlying88 Tryd.sizeOf64 ?_
    refine G.fieldAddrRo (off := 1) Tryd.underlying64 Tryd.sizeOf2 ?_
    refine G.loadRo Tryd.isAgg2 ?_
    refine G.geq ?_
    refine R.pickAnd ?_
    refine R.move ?_
    refine G.fieldAddrRo (off := 1) Tryd.underlying88 Tryd.sizeOf9 ?_
    refine G.loadRo Tryd.isAgg9 ?_
    refine G.seql ?_
    refine R.pickAnd ?_
    refine R.move ?_
    refine G.fieldAddrRo (off := 5) Tryd.underlying88 Tryd.sizeOf86 ?_
    refine G.loadRo Tryd.isAgg86 ?_
    refine G.len Tryd.underlying86 ?_
    refine G.eql ?_
    refine R.pickAnd ?_
    refine R.assign ?_
    refine R.fin [2] ?_
    refine AW.ret ?_
    refine K.blR ?_
    refine K.thR ?_
    exact K.fin (V.one V.tmp) ⟨by simp_all [nodeM, bareM], rfl⟩
  · skip
    refine AW.seqR ?_
    refine R.eql ?_
    refine R.assign ?_
    refine R.fin [1, 3, 9, 32] ?_
    refine W.cond (fun ht32 => ?_) (fun ht32 => ?_)
    · skip
      refine AW.seqR ?_
      refine R.move ?_
      refine R.move ?_
      refine G.fieldAddrRo (off := 1) Tryd.underlying88 Tryd.sizeOf9 ?_
      refine G.loadRo Tryd.isAgg9 ?_
      refine G.call Tryd.call63 (fun hB => c63 e.text hs _) ?_
      refine R.pickAnd ?_
      refine R.move ?_
      refine G.fieldAddrRo (off := 5) Tryd.underlying88 Tryd.sizeOf86 ?_
      refine G.loadRo Tryd.isAgg86 ?_
      refine G.len Tryd.underlying86 ?_
      refine G.eql ?_
      refine R.pickAnd ?_
      refine R.assign ?_
      refine R.fin [2] ?_
      refine AW.ret ?_
      refine K.blR ?_
      refine K.thR ?_
      exact K.fin (V.one V.tmp) ⟨by simp_all [nodeM, bareM], rfl⟩
    · skip
      refine W.seq ?_
      refine AW.seqR ?_
      refine R.eql ?_
      refine R.assign ?_
      refine R.fin [1, 3, 9, 46] ?_
      refine W.cond (fun ht46 => ?_) (fun ht46 => ?_)
      · skip
        refine AW.skip ?_
        refine K.thN ?_
        refine W.cond (fun ht46 => ?_) (fun ht46 => ?_)
        · skip
          refine AW.seqR ?_
          refine R.move ?_
          refine R.move ?_
          refine G.fieldAddrRo (off := 1) Tryd.underlying88 Tryd.sizeOf9 ?_
          refine G.loadRo Tryd.isAgg9 ?_
          refine G.seql ?_
          refine R.pickAnd ?_
          refine R.move ?_
          refine G.fieldAddrRo (off := 5) Tryd.underlying88 Tryd.sizeOf86 ?_
          refine G.loadRo Tryd.isAgg86 ?_
          refine G.len Tryd.underlying86 ?_
          refine G.eql ?_
          refine R.pickAnd ?_
          refine R.assign ?_
          refine R.fin [2] ?_
          refine AW.ret ?_
          refine K.blR ?_
          refine K.thR ?_
          exact K.fin (V.one V.tmp) ⟨by simp_all [nodeM, bareM], rfl⟩
        · skip
          refine AW.seqR ?_
          refine R.eql ?_
          refine R.assign ?_
          refine R.fin [1, 3, 9, 61] ?_
          refine W.cond (fun ht61 => ?_) (fun ht61 => ?_)
          · skip
            refine AW.seqR ?_
            refine R.move ?_
            refine R.move ?_
            refine G.fieldAddrRo (off := 1) Tryd.underlying88 Tryd.sizeOf9 ?_
            refine G.loadRo Tryd.isAgg9 ?_
            refine G.call Tryd.call64 (fun hB => c64 e.text marksText hs (by decide) _) ?_
            refine R.pickAnd ?_
            refine R.move ?_
            refine G.fieldAddrRo (off := 5) Tryd.underlying88 Tryd.sizeOf86 ?_
            refine G.loadRo Tryd.isAgg86 ?_
            refine G.len Tryd.underlying86 ?_
            refine G.eql ?_
            refine R.pickAnd ?_
            refine R.assign ?_
            refine R.fin [2] ?_
            refine AW.ret ?_
            refine K.blR ?_
            refine K.thR ?_
            exact K.fin (V.one V.tmp) ⟨by simp_all [nodeM, bareM], rfl⟩
          · skip
            refine AW.seqR ?_
            refine R.eql ?_
            refine R.assign ?_
            refine R.fin [1, 3, 75] ?_
            refine W.cond (fun ht75 => ?_) (fun ht75 => ?_)
            · skip
              refine W.draw [0, 1, 3, 7, 15, 3, 35, 99, 255, 511, 1023] 8 Trydmixed (by kernel_rfl) ?_
              refine D.move ?_
              refine D.move ?_
              refine H.fieldAddrRo (off := 1) Tryd.underlying88 Tryd.sizeOf9 ?_
              refine H.loadRo Tryd.isAgg9 ?_
              refine H.call Tryd.call65 (fun hB => c65 e.text _) ?_
              refine H.fieldAddrRo (off := 5) Tryd.underlying88 Tryd.sizeOf86 ?_
              refine H.loadRo Tryd.isAgg86 ?_
              refine H.len Tryd.underlying86 ?_
              refine D.tail ?_
              refine G.eql ?_
              refine R.pickAnd ?_
              refine R.assign ?_
              refine R.fin [2] ?_
              refine AW.ret ?_
              refine K.blR ?_
              refine K.thR ?_
              exact K.fin (V.one V.tmp) ⟨by simp_all [nodeM, bareM], rfl⟩
            · skip
              refine AW.skip ?_
              refine K.blN ?_
              refine K.thN ?_
              refine AW.seqR ?_
              refine R.assign ?_
              refine R.fin [2] ?_
              refine AW.ret ?_
              exact K.fin (V.one V.tmp) ⟨by simp_all [nodeM, bareM], rfl⟩
      · skip
        refine AW.region ?_
        refine R.eql ?_
        refine R.assign ?_
        refine R.fin [1, 3, 9, 46] ?_
        refine K.thN ?_
        refine W.cond (fun ht46 => ?_) (fun ht46 => ?_)
        · skip
          refine AW.seqR ?_
          refine R.move ?_
          refine R.move ?_
          refine G.fieldAddrRo (off := 1) Tryd.underlying88 Tryd.sizeOf9 ?_
          refine G.loadRo Tryd.isAgg9 ?_
          refine G.seql ?_
          refine R.pickAnd ?_
          refine R.move ?_
          refine G.fieldAddrRo (off := 5) Tryd.underlying88 Tryd.sizeOf86 ?_
          refine G.loadRo Tryd.isAgg86 ?_
          refine G.len Tryd.underlying86 ?_
          refine G.eql ?_
          refine R.pickAnd ?_
          refine R.assign ?_
          refine R.fin [2] ?_
          refine AW.ret ?_
          refine K.blR ?_
          refine K.thR ?_
          exact K.fin (V.one V.tmp) ⟨by simp_all [nodeM, bareM], rfl⟩
        · skip
          refine AW.seqR ?_
          refine R.eql ?_
          refine R.assign ?_
          refine R.fin [1, 3, 9, 61] ?_
          refine W.cond (fun ht61 => ?_) (fun ht61 => ?_)
          · skip
            refine AW.seqR ?_
            refine R.move ?_
            refine R.move ?_
            refine G.fieldAddrRo (off := 1) Tryd.underlying88 Tryd.sizeOf9 ?_
            refine G.loadRo Tryd.isAgg9 ?_
            refine G.call Tryd.call64 (fun hB => c64 e.text marksText hs (by decide) _) ?_
            refine R.pickAnd ?_
            refine R.move ?_
            refine G.fieldAddrRo (off := 5) Tryd.underlying88 Tryd.sizeOf86 ?_
            refine G.loadRo Tryd.isAgg86 ?_
            refine G.len Tryd.underlying86 ?_
            refine G.eql ?_
            refine R.pickAnd ?_
            refine R.assign ?_
            refine R.fin [2] ?_
            refine AW.ret ?_
            refine K.blR ?_
            refine K.thR ?_
            exact K.fin (V.one V.tmp) ⟨by simp_all [nodeM, bareM], rfl⟩
          · skip
            refine AW.seqR ?_
            refine R.eql ?_
            refine R.assign ?_
            refine R.fin [1, 3, 75] ?_
            refine W.cond (fun ht75 => ?_) (fun ht75 => ?_)
            · skip
              refine W.draw [0, 1, 3, 7, 15, 3, 35, 99, 255, 511, 1023] 8 Trydmixed (by kernel_rfl) ?_
              refine D.move ?_
              refine D.move ?_
              refine H.fieldAddrRo (off := 1) Tryd.underlying88 Tryd.sizeOf9 ?_
              refine H.loadRo Tryd.isAgg9 ?_
              refine H.call Tryd.call65 (fun hB => c65 e.text _) ?_
              refine H.fieldAddrRo (off := 5) Tryd.underlying88 Tryd.sizeOf86 ?_
              refine H.loadRo Tryd.isAgg86 ?_
              refine H.len Tryd.underlying86 ?_
              refine D.tail ?_
              refine G.eql ?_
              refine R.pickAnd ?_
              refine R.assign ?_
              refine R.fin [2] ?_
              refine AW.ret ?_
              refine K.blR ?_
              refine K.thR ?_
              exact K.fin (V.one V.tmp) ⟨by simp_all [nodeM, bareM], rfl⟩
            · skip
              refine AW.skip ?_
              refine K.blN ?_
              refine K.thN ?_
              refine AW.seqR ?_
              refine R.assign ?_
              refine R.fin [2] ?_
              refine AW.ret ?_
              exact K.fin (V.one V.tmp) ⟨by simp_all [nodeM, bareM], rfl⟩

end Go.SX.Nb
namespace Go.SX.Nb
open Go Go.SX Go.Proofs
set_option maxRecDepth 4000
mutual
def itemsE (d : Int) : Expr → List (Int × Expr)
  | .mk o t v k => (d, .mk o t v k) :: itemsL (d + 1) k
def itemsL (d : Int) : List Expr → List (Int × Expr)
  | [] => []
  | e :: r => itemsE d e ++ itemsL d r
 end
theorem itemsE_eq (d : Int) (e : Expr) : itemsE d e = (d, e) :: itemsL (d + 1) e.kids := by cases e; rfl
theorem itemsL_append (d : Int) : ∀ a b, itemsL d (a ++ b) = itemsL d a ++ itemsL d b
  | [], b => rfl
  | e :: r, b => by rw [List.cons_append, itemsL, itemsL, itemsL_append d r b, List.append_assoc]
theorem itemsL_take (d : Int) (l : List Expr) {x : Nat} (h : x < l.length) : itemsL d (l.take (x + 1)) = itemsL d (l.take x) ++ itemsE d l[x] := by
  rw [List.take_succ_eq_append_getElem h, itemsL_append]
  simp [itemsL]
theorem itemsL_split (d : Int) (l : List Expr) {x : Nat} (h : x < l.length) : itemsL d l = itemsL d (l.take x) ++ (itemsE d l[x] ++ itemsL d (l.drop (x + 1))) := by
  have e : l = l.take x ++ (l[x] :: l.drop (x + 1)) := by rw [← List.drop_eq_getElem_cons h, List.take_append_drop]
  conv => lhs; rw [e]
  rw [itemsL_append, itemsL]
mutual
def sizeE : Expr → Nat
  | .mk _ _ _ k => 1 + sizeL k
def sizeL : List Expr → Nat
  | [] => 0
  | e :: r => sizeE e + sizeL r
 end
theorem sizeE_eq (e : Expr) : sizeE e = 1 + sizeL e.kids := by cases e; rfl
theorem sizeL_get : ∀ (l : List Expr) {x : Nat} (h : x < l.length), sizeE l[x] ≤ sizeL l
  | e :: r, 0, _ => by simp only [List.getElem_cons_zero, sizeL]; omega
  | e :: r, x + 1, h => by
    have := sizeL_get r (x := x) (by simpa using h)
    simp only [List.getElem_cons_succ, sizeL]
    omega
theorem size_kid (e : Expr) {x : Nat} (h : x < e.kids.length) : sizeE e.kids[x] + 1 ≤ sizeE e := by
  have := sizeL_get e.kids h
  rw [sizeE_eq e]
  omega
/-- Each node has few kids. -/
def okE : Nat → Expr → Prop
  | 0, _ => False
  | n + 1, e => e.text.length ≤ 1048576 ∧ e.kids.length ≤ 1048576 ∧ ∀ y ∈ e.kids, okE n y
/-- Who takes what a tree yields: item k is taken at U k; it goes on (go k) to U (k + 1), or ends at F k. Behind U k there may stand others' objects. -/
structure Takes (P : Program) (l : Nat) (L : List (Int × Expr)) (go : Nat → Bool) (U F : Nat → List AObj) (n0 : Nat) : Prop where
  lenU : ∀ k, (U k).length = n0
  lenF : ∀ k, (F k).length = n0
  lowU : ∀ k, ∀ x ∈ U k, ObjLow n0 x
  lowF : ∀ k, ∀ x ∈ F k, ObjLow n0 x
  lt : l < n0
  y : ∀ (X : List AObj) (k : Nat) (it : Int × Expr), L[k]? = some it → (∀ j, j < k → go j = true) → AYield P l [intA it.1, exprA it.2] (U k ++ X) (fun b H' => b = go k ∧ H' = (if go k then U (k + 1) else F k) ++ X)
theorem ObjLow.le {m m' : Nat} (h : m ≤ m') {x : AObj} (hx : ObjLow m x) : ObjLow m' x := by
  cases x with
  | cells t cs => exact fun y hy => (hx y hy).mono h
  | loop s pd fr sz ps as' bd df => exact ⟨fun s => (hx.1 s).mono h, Nat.lt_of_lt_of_le hx.2 h⟩
  | defs => trivial
  | dead => trivial
/-- What the walk over n items from k0 on comes to. -/
def walkPost (go : Nat → Bool) (U F : Nat → List AObj) (k0 n : Nat) (X : List AObj) : AV → List AObj → Prop := fun r H' =>
  ((∀ j, j < n → go (k0 + j) = true) ∧ r = boolA true ∧ H' = U (k0 + n) ++ X) ∨ (∃ j, j < n ∧ (∀ i, i < j → go (k0 + i) = true) ∧ go (k0 + j) = false ∧ r = boolA false ∧ H' = F (k0 + j) ++ X)
mutual
theorem exprA_low (m : Nat) : ∀ e, Low m (exprA e)
  | .mk o t v k => by
    rw [exprA]
    refine .agg _ fun y hy => ?_
    simp only [List.mem_cons, List.mem_nil_iff, or_false] at hy
    rcases hy with rfl | rfl | rfl | rfl | rfl | rfl
    · exact .v _
    · exact .v _
    · exact .v _
    · exact .v _
    · exact .v _
    · exact low_slice.2 (exprsL_low m k)
theorem exprsL_low (m : Nat) : ∀ l, ∀ y ∈ exprsL l, Low m y
  | [], y, hy => by cases hy
  | e :: r, y, hy => by
    rw [exprsL] at hy
    rcases List.mem_cons.1 hy with rfl | h
    · exact exprA_low m e
    · exact exprsL_low m r y h
 end
theorem append_split {V O A B own : List AObj} (h : V ++ O = A ++ (B ++ own)) (hl : V.length = (A ++ B).length) : V = A ++ B ∧ O = own := by
  rw [← List.append_assoc] at h
  exact List.append_inj h hl
theorem low_app {m : Nat} {A X : List AObj} (hA : ∀ x ∈ A, ObjLow m x) (hX : ∀ x ∈ X, ObjLow m x) : ∀ x ∈ A ++ X, ObjLow m x := fun x hx => by
  rcases List.mem_append.1 hx with h | h
  · exact hA x h
  · exact hX x h
theorem walk_cases {P : Program} {l : Nat} {L : List (Int × Expr)} {go : Nat → Bool} {U F : Nat → List AObj} {n0 k n K : Nat} {X own V O : List AObj} {r : AV} (T : Takes P l L go U F n0) (hV : V.length = (U K ++ X).length) (hp : walkPost go U F k n (X ++ own) r (V ++ O)) :
    ∃ b, r = boolA b ∧ O = own ∧ (if b then (∀ j, j < n → go (k + j) = true) ∧ V = U (k + n) ++ X else ∃ j, j < n ∧ (∀ i, i < j → go (k + i) = true) ∧ go (k + j) = false ∧ V = F (k + j) ++ X) ∧ ((∀ x ∈ U K ++ X, ObjLow V.length x) → ∀ x ∈ V, ObjLow V.length x) := by
  have hn : n0 ≤ V.length := by rw [hV, List.length_append, T.lenU]; omega
  rcases hp with ⟨h1, h2, h3⟩ | ⟨j, hj, h1, h2, h3, h4⟩
  · obtain ⟨e1, e2⟩ := append_split h3 (by rw [hV]; simp [T.lenU])
    refine ⟨true, h2, e2, ⟨h1, e1⟩, fun h => ?_⟩
    rw [e1] at h ⊢
    exact low_app (fun x hx => ObjLow.le (by rw [List.length_append, T.lenU]; omega) (T.lowU _ x hx)) (fun x hx => h x (List.mem_append_right _ hx))
  · obtain ⟨e1, e2⟩ := append_split h4 (by rw [hV]; simp [T.lenU, T.lenF])
    refine ⟨false, h3, e2, ⟨j, hj, h1, h2, e1⟩, fun h => ?_⟩
    rw [e1] at h ⊢
    exact low_app (fun x hx => ObjLow.le (by rw [List.length_append, T.lenF]; omega) (T.lowF _ x hx)) (fun x hx => h x (List.mem_append_right _ hx))
theorem itemsL_len1 (d : Int) (l : List Expr) {x : Nat} (h : x < l.length) : (itemsL d (l.take (x + 1))).length = (itemsL d (l.take x)).length + (itemsE d l[x]).length := by rw [itemsL_take d l h, List.length_append]
theorem items_at {d0 : Int} {e : Expr} {x : Nat} (h : x < e.kids.length) {j : Nat} {it : Int × Expr} (hj : (itemsE (d0 + 1) e.kids[x])[j]? = some it) : (itemsE d0 e)[1 + (itemsL (d0 + 1) (e.kids.take x)).length + j]? = some it := by
  rw [itemsE_eq d0 e, show 1 + (itemsL (d0 + 1) (e.kids.take x)).length + j = ((itemsL (d0 + 1) (e.kids.take x)).length + j) + 1 by omega, List.getElem?_cons_succ, itemsL_split (d0 + 1) e.kids h, List.getElem?_append_right (by omega)]
  rw [show (itemsL (d0 + 1) (e.kids.take x)).length + j - (itemsL (d0 + 1) (e.kids.take x)).length = j by omega, List.getElem?_append_left (List.getElem?_eq_some_iff.1 hj).1]
  exact hj
theorem items_len (d0 : Int) (e : Expr) {x : Nat} (h : x < e.kids.length) : 1 + (itemsL (d0 + 1) (e.kids.take x)).length + (itemsE (d0 + 1) e.kids[x]).length ≤ (itemsE d0 e).length := by
  rw [itemsE_eq d0 e, List.length_cons, itemsL_split (d0 + 1) e.kids h]
  simp only [List.length_append]
  omega
theorem c62 {l : Nat} {L : List (Int × Expr)} {go : Nat → Bool} {U F : Nat → List AObj} {n0 : Nat} (T : Takes Tryd.prog l L go U F n0) : ∀ (n : Nat) (e : Expr), okE n e → ∀ (d0 : Int) (k0 : Nat) (X : List AObj), 0 ≤ d0 → d0 + n ≤ 1099511627776 → (∀ (j : Nat) (it : Int × Expr), (itemsE d0 e)[j]? = some it → L[k0 + j]? = some it) → (∀ j, j < k0 → go j = true) → ACall Tryd.prog 62 [exprA e, intA d0, .yield l] (U k0 ++ X) (walkPost go U F k0 (itemsE d0 e).length X) := by
  intro n
  induction n with
  | zero => exact fun e h => h.elim
  | succ n ih =>
  intro e hok d0 k0 X hd hdn hit hgo
  have hlen0 : (U k0 ++ X).length = n0 + X.length := by rw [List.length_append, T.lenU]
  refine ACall.body [.tmp 6] [0, 1, 2] Tryd.func62 Tryd.ntmps62 (fun d => ?_)
  refine AW.seqR ?_
  refine R.boxRo ?_
  refine R.assign ?_
  refine R.fin [1, 2, 3] ?_
  refine W.seq ?_
  refine AW.seqR ?_
  refine R.move ?_
  refine R.move ?_
  refine R.loadRoN Tryd.isAgg88 Tryd.sizeOf88 ?_
  refine R.yield0 (T.y X k0 (d0, e) (hit 0 _ (by rw [itemsE_eq]; rfl)) hgo) ?_
  intro b Vv hV hb
  refine R.not ?_
  refine R.fin [1, 2, 3, 13] ?_
  refine W.cond (fun ht13 => ?_) (fun ht13 => ?_)
  · skip
    have hb' : b = false := by simpa using ht13
    subst hb'
    refine AW.seqR ?_
    refine R.assign ?_
    refine R.fin [6] ?_
    refine AW.ret ?_
    refine K.thR ?_
    exact K.fin (V.one V.tmp) (Or.inr ⟨0, by rw [itemsE_eq]; simp, fun i hi => by omega, hb.1.symm, rfl, by have := hb.2; rw [show go k0 = false from hb.1.symm] at this; exact this⟩)
  · skip
    have hb' : b = true := by simpa using ht13
    subst hb'
    have hgo0 : go (k0 + 0) = true := hb.1.symm
    have hVe : Vv = U (k0 + 1) ++ X := by have := hb.2; rw [show go k0 = true from hb.1.symm] at this; exact this
    subst hVe
    have h0x : 0 ≤ e.kids.length ∧ ∀ j, j < 1 + (itemsL (d0 + 1) (e.kids.take 0)).length → go (k0 + j) = true := ⟨Nat.zero_le _, fun j hj => by
      have : j = 0 := by simp [itemsL] at hj; omega
      subst this
      exact hgo0⟩
    refine AW.skip ?_
    refine K.thN ?_
    refine W.seq ?_
    refine AW.seqR ?_
    refine R.fieldAddrRo (off := 5) Tryd.underlying88 Tryd.sizeOf86 ?_
    refine R.loadRo Tryd.isAgg86 ?_
    refine R.len Tryd.underlying86 ?_
    refine R.move ?_
    refine R.fin [1, 2, 15, 16, 17] ?_
    refine AW.loopC (α := Nat) (fun x => ⟨28, setF 1 (intA d0) (setF 2 (.yield l) (setF 15 (.slice false 6 (e.kids.map exprA)) (setF 16 (intA e.kids.length) (setF 17 (intA (x : Nat)) (fun _ => .any))))), U (k0 + (1 + (itemsL (d0 + 1) (e.kids.take x)).length)) ++ X, [], [], none⟩) (fun x => x ≤ e.kids.length ∧ ∀ j, j < 1 + (itemsL (d0 + 1) (e.kids.take x)).length → go (k0 + j) = true) (fun x => e.kids.length - x) (0) h0x (StLe.of_eq (by simp [itemsL])) rfl (fun x hx => ?_)
    refine AW.seqR ?_
    refine R.lss ?_
    refine R.fin [1, 2, 15, 16, 17, 18] ?_
    refine W.condX (fun ht18 => ?_) (fun ht18 => ?_)
    · skip
      have hlt : x < e.kids.length := by simpa using ht18
      have hkl := hok.2.1
      refine W.seq ?_
      refine AW.block ?_
      refine AW.seqR ?_
      refine R.indexAddr (x) (exprA e.kids[x]) Tryd.underlying86 Tryd.sizeOf88 (getMap hlt) ?_
      refine R.loadRoN Tryd.isAgg88 Tryd.sizeOf88 ?_
      refine R.alloc Tryd.zeroValue88 ?_
      refine R.storeOwn Tryd.sizeOf88 ?_
      refine R.fin [1, 2, 8, 15, 16, 17] ?_
      refine AW.seqR ?_
      refine R.loadOwnN Tryd.isAgg88 Tryd.sizeOf88 ?_
      refine R.move ?_
      refine R.add64 ?_
      refine R.move ?_
      refine R.callG Tryd.call62 (args := [exprA e.kids[x], intA (d0 + 1), .yield l]) (by rw [List.append_assoc]; exact ih e.kids[x] (hok.2.2 _ (List.getElem_mem hlt)) (d0 + 1) (k0 + (1 + (itemsL (d0 + 1) (e.kids.take x)).length)) (X ++ _) (by omega) (by omega) (fun j it hj => by have := hit _ it (items_at hlt hj); rwa [← Nat.add_assoc] at this) (fun j hj => by rcases Nat.lt_or_ge j k0 with h | h; exact hgo j h; have := hx.2 (j - k0) (by omega); rwa [show k0 + (j - k0) = j by omega] at this)) ?_
      intro r Vv O hV hp
      obtain ⟨b, rfl, rfl, hc, hlowV⟩ := walk_cases T hV hp
      refine ⟨hlowV, fun o ho => by simp at ho, ?_⟩
      refine R.not ?_
      refine R.fin [1, 2, 15, 16, 17, 26] ?_
      refine W.cond (fun ht26 => ?_) (fun ht26 => ?_)
      · skip
        have hb' : b = false := by simpa using ht26
        subst hb'
        obtain ⟨j, hj, h1, h2, h3⟩ := hc
        refine AW.seqR ?_
        refine R.assign ?_
        refine R.fin [6] ?_
        refine AW.ret ?_
        refine K.blR ?_
        refine K.thR ?_
        refine K.lpR ?_
        refine K.thR ?_
        have hil := items_len d0 e hlt
        refine K.fin (V.one V.tmp) (Or.inr ⟨1 + (itemsL (d0 + 1) (e.kids.take x)).length + j, by omega, fun i hi => ?_, by rwa [Nat.add_assoc] at h2, rfl, by rwa [Nat.add_assoc] at h3⟩)
        rcases Nat.lt_or_ge i (1 + (itemsL (d0 + 1) (e.kids.take x)).length) with h | h
        · exact hx.2 i h
        · have := h1 (i - (1 + (itemsL (d0 + 1) (e.kids.take x)).length)) (by omega)
          rwa [show k0 + (1 + (itemsL (d0 + 1) (e.kids.take x)).length) + (i - (1 + (itemsL (d0 + 1) (e.kids.take x)).length)) = k0 + i by omega] at this
      · skip
        have hb' : b = true := by simpa using ht26
        subst hb'
        obtain ⟨h1, h3⟩ := hc
        refine AW.skip ?_
        refine K.blN ?_
        refine K.thN ?_
        refine AW.region ?_
        refine R.add64 ?_
        refine R.move ?_
        refine R.fin [1, 2, 15, 16, 17] ?_
        subst h3
        have hll := itemsL_len1 (d0 + 1) e.kids hlt
        have e1 : k0 + (1 + (itemsL (d0 + 1) (e.kids.take (x + 1))).length) = k0 + (1 + (itemsL (d0 + 1) (e.kids.take x)).length) + (itemsE (d0 + 1) e.kids[x]).length := by omega
        refine K.lpN (x + 1) ⟨hlt, fun j hj => ?_⟩ (by omega) ?_
        · rcases Nat.lt_or_ge j (1 + (itemsL (d0 + 1) (e.kids.take x)).length) with h | h
          · exact hx.2 j h
          · have := h1 (j - (1 + (itemsL (d0 + 1) (e.kids.take x)).length)) (by omega)
            rwa [show k0 + (1 + (itemsL (d0 + 1) (e.kids.take x)).length) + (j - (1 + (itemsL (d0 + 1) (e.kids.take x)).length)) = k0 + j by omega] at this
        simp only [e1]
        exact StCut.take (own := []) (fun _ => .refl _) (by repeat (first | exact lowF_any | refine lowF_set (by first | (simp [exprA_low]; done) | (have := T.lt; simp [T.lenU]; omega)) ?_)) (by simp) (by simp)
    · skip
      have hxe : e.kids.take x = e.kids := List.take_of_length_le (by simp at ht18; omega)
      refine K.lpE ?_
      refine K.thN ?_
      refine AW.seqR ?_
      refine R.assign ?_
      refine R.fin [6] ?_
      refine AW.ret ?_
      have hl2 : (itemsE d0 e).length = 1 + (itemsL (d0 + 1) (e.kids.take x)).length := by rw [itemsE_eq, hxe, List.length_cons]; omega
      exact K.fin (V.one V.tmp) (Or.inl ⟨fun j hj => hx.2 j (by omega), rfl, by rw [hl2]⟩)

end Go.SX.Nb
namespace Go.SX.Nb
open Go Go.SX Go.Proofs
set_option maxRecDepth 4000
abbrev exprC (e : Expr) : List AV := [.v (.int .i64 e.op), .v (sv e.text), .v (.int .i64 e.val.kind), .v (.int .i64 e.val.n), .v (sv e.val.s), .slice false 6 (e.kids.map exprA)]
/-- What taking all of a tree comes to. -/
def takePost (go : Nat → Bool) (U F : Nat → List AObj) (n : Nat) (H' : List AObj) : Prop :=
  ((∀ j, j < n → go j = true) ∧ H' = U n) ∨ (∃ j, j < n ∧ (∀ i, i < j → go i = true) ∧ go j = false ∧ H' = F j)
theorem c61 {l : Nat} {e : Expr} {go : Nat → Bool} {U F : Nat → List AObj} {n0 : Nat} (T : Takes Tryd.prog l (itemsE 1 e) go U F n0) (n : Nat) (hok : okE n e) (hn : n ≤ 1048576) : ACall Tryd.prog 61 [.yield l, .ro (exprC e)] (U 0) (fun r H' => takePost go U F (itemsE 1 e).length H') := by
  refine ACall.body [] [0, 1] Tryd.func61 Tryd.ntmps61 (fun d => ?_)
  refine AW.region ?_
  refine R.loadRoN Tryd.isAgg88 Tryd.sizeOf88 ?_
  refine R.move ?_
  refine R.callG Tryd.call62 (args := [exprA e, intA 1, .yield l]) (c62 T n e hok 1 0 [] (by omega) (by omega) (fun j it hj => by rwa [Nat.zero_add]) (fun j hj => by omega)) ?_
  intro r Vv O hV hp
  have hO : O = [] := by
    have h1 : (Vv ++ O).length = n0 := by rcases hp with ⟨_, _, h⟩ | ⟨j, _, _, _, _, h⟩ <;> rw [h] <;> simp [T.lenU, T.lenF]
    have h2 := T.lenU 0
    rw [List.length_append, hV, h2] at h1
    exact List.eq_nil_of_length_eq_zero (by omega)
  subst hO
  rw [List.append_nil] at hp
  have hq : takePost go U F (itemsE 1 e).length Vv := by
    rcases hp with ⟨h1, _, h⟩ | ⟨j, h1, h2, h3, _, h⟩
    · exact .inl ⟨fun j hj => by have := h1 j hj; rwa [Nat.zero_add] at this, by rw [h]; simp⟩
    · exact .inr ⟨j, h1, fun i hi => by have := h2 i hi; rwa [Nat.zero_add] at this, by rwa [Nat.zero_add] at h3, by rw [h]; simp⟩
  refine ⟨fun h => ?_, fun o ho => by simp at ho, ?_⟩
  · rcases hq with ⟨_, h⟩ | ⟨j, _, _, _, h⟩ <;> rw [h]
    · rw [T.lenU]; exact T.lowU _
    · rw [T.lenF]; exact T.lowF _
  refine R.fin [] ?_
  exact K.finN .nores (hp := hq)

theorem c52 (e : Expr) (Hp : List AObj) : AFun Tryd.prog 52 [exprA e] Hp (.fn (.func 61) [] [.ro (exprC e)]) := by
  refine ACall.body [.tmp 2] [0] Tryd.func52 Tryd.ntmps52 (fun d => ?_)
  refine AW.seqR ?_
  refine R.boxRo ?_
  refine R.assign ?_
  refine R.fin [1] ?_
  refine AW.seqR ?_
  refine R.makeFunc ?_
  refine R.assign ?_
  refine R.fin [2] ?_
  refine AW.ret ?_
  exact K.fin (V.one V.tmp) (hlow := by have := exprA_low Hp.length e; rw [exprA_eq] at this; simpa using this)

end Go.SX.Nb
namespace Go.SX.Nb
open Go Go.SX Go.Proofs
set_option maxRecDepth 4000
def goM (e : Expr) (k : Nat) : Bool := match (itemsE 1 e)[k]? with
  | some it => !((!nodeM it.2 || decide ((30 : Int) < it.1)) || decide ((300 : Int) < (k : Int) + 1))
  | none => true
def exprRightM (e : Expr) : Bool := (List.range (itemsE 1 e).length).all (goM e)
mutual
theorem items_okE : ∀ (n : Nat) (e : Expr), okE n e → ∀ d, ∀ it ∈ itemsE d e, it.2.text.length ≤ 1048576
  | 0, _, h, _, _, _ => h.elim
  | n + 1, e, h, d, it, hit => by
    rw [itemsE_eq] at hit
    rcases List.mem_cons.1 hit with rfl | h'
    · exact h.1
    · exact items_okL n e.kids h.2.2 (d + 1) it h'
  termination_by n e => (n, 0)
theorem items_okL : ∀ (n : Nat) (l : List Expr), (∀ y ∈ l, okE n y) → ∀ d, ∀ it ∈ itemsL d l, it.2.text.length ≤ 1048576
  | n, [], _, _, _, h => by cases h
  | n, e :: r, h, d, it, hit => by
    rw [itemsL] at hit
    rcases List.mem_append.1 hit with h' | h'
    · exact items_okE n e (h e (by simp)) d it h'
    · exact items_okL n r (fun y hy => h y (by simp [hy])) d it h'
  termination_by n l => (n, l.length + 1)
 end
theorem get_set_ne {U : List AObj} {i j : Nat} {x y : AObj} (h : U[i]? = some x) (hne : j ≠ i) : (U.set j y)[i]? = some x := by rw [List.getElem?_set_ne hne]; exact h
theorem goM_le {e : Expr} {k : Nat} {it : Int × Expr} (hit : (itemsE 1 e)[k]? = some it) (h : ∀ j, j < k → goM e j = true) : (k : Int) ≤ 300 := by
  rcases Nat.eq_zero_or_pos k with h0 | h0
  · omega
  · have hl := (List.getElem?_eq_some_iff.1 hit).1
    have := h (k - 1) (by omega)
    unfold goM at this
    rw [List.getElem?_eq_getElem (by omega)] at this
    simp at this
    omega
theorem goM_at {e : Expr} {k : Nat} {it : Int × Expr} (hit : (itemsE 1 e)[k]? = some it) : goM e k = !((!nodeM it.2 || decide ((30 : Int) < it.1)) || decide ((300 : Int) < (k : Int) + 1)) := by
  unfold goM; rw [hit]
theorem c44 (n : Nat) (e : Expr) (hok : okE n e) (hn : n ≤ 1048576) (Hp : List AObj) : AFun Tryd.prog 44 [exprA e] Hp (boolA (exprRightM e)) := by
  refine ACall.body [.cell 2 4] [0, 4, 5] Tryd.func44 Tryd.ntmps44 (fun d => ?_)
  refine AW.seqR ?_
  refine R.boxRo ?_
  refine R.alloc Tryd.zeroValue4 ?_
  refine R.fin [1, 2, 4, 5] ?_
  refine AW.seqR ?_
  refine R.alloc Tryd.zeroValue3 ?_
  refine R.storeOwn Tryd.sizeOf3 ?_
  refine R.fin [1, 2, 3, 4, 5] ?_
  refine W.seq ?_
  refine AW.seqR ?_
  refine R.assumeLow (fun hlow => ?_)
  refine R.loadRoN Tryd.isAgg88 Tryd.sizeOf88 ?_
  refine R.call Tryd.call52 (c52 e _) ?_
  refine R.fin [2, 3, 4, 5, 7] ?_
  refine AW.block ?_
  refine W.rangeV (m := 2) Tryd.call61 (fun FR as' bd' hFR has hbd => ?_)
  have hFRl : ∀ s, Low (Hp.length + 4) (FR s) := by
    intro s
    rw [hFR]
    refine Low.strip ?_
    revert s
    repeat (first | exact lowF_any | refine lowF_set (by simp [oid, exprA_low] <;> try omega) ?_)
  have hOl : ∀ {k : Nat}, ∀ x ∈ [AObj.cells 4 [boolA false], AObj.cells 3 [intA (k : Nat)], AObj.defs, AObj.loop LoopState.ready none FR 23 #[8, 9] as' bd' (oid Hp.length 2)], ObjLow (Hp.length + 4) x := by
    intro k x hx
    simp only [List.mem_cons, List.mem_nil_iff, or_false] at hx
    rcases hx with rfl | rfl | rfl | rfl
    · exact low1
    · exact low1
    · trivial
    · exact ⟨hFRl, by simp [oid]⟩
  have hOf : ∀ {k : Nat}, ∀ x ∈ [AObj.cells 4 [boolA false], AObj.cells 3 [intA ((k : Nat) + 1)], AObj.defs, AObj.loop LoopState.done (some Code.ret) FR 23 #[8, 9] as' bd' (oid Hp.length 2)], ObjLow (Hp.length + 4) x := by
    intro k x hx
    simp only [List.mem_cons, List.mem_nil_iff, or_false] at hx
    rcases hx with rfl | rfl | rfl | rfl
    · exact low1
    · exact low1
    · trivial
    · exact ⟨hFRl, by simp [oid]⟩
  refine ⟨fun _ H' => takePost (goM e) (fun k => Hp ++ [AObj.cells 4 [boolA false], AObj.cells 3 [intA (k : Nat)], AObj.defs, AObj.loop LoopState.ready none FR 23 #[8, 9] as' bd' (oid Hp.length 2)]) (fun k => Hp ++ [AObj.cells 4 [boolA false], AObj.cells 3 [intA ((k : Nat) + 1)], AObj.defs, AObj.loop LoopState.done (some Code.ret) FR 23 #[8, 9] as' bd' (oid Hp.length 2)]) (itemsE 1 e).length H', c61 (l := oid Hp.length 3) (go := goM e) (U := fun k => Hp ++ [AObj.cells 4 [boolA false], AObj.cells 3 [intA (k : Nat)], AObj.defs, AObj.loop LoopState.ready none FR 23 #[8, 9] as' bd' (oid Hp.length 2)]) (F := fun k => Hp ++ [AObj.cells 4 [boolA false], AObj.cells 3 [intA ((k : Nat) + 1)], AObj.defs, AObj.loop LoopState.done (some Code.ret) FR 23 #[8, 9] as' bd' (oid Hp.length 2)]) (n0 := Hp.length + 4) ⟨fun k => by simp, fun k => by simp, fun k x hx => ?_, fun k x hx => ?_, by simp [oid], fun X k it hit hgo => ?_⟩ n hok hn, ?_⟩
  · exact low_app (fun x hx => ObjLow.le (by omega) (hlow x hx)) hOl x hx
  · exact low_app (fun x hx => ObjLow.le (by omega) (hlow x hx)) hOf x hx
  · skip
    skip
    have hk3 := goM_le hit hgo
    generalize hV : (Hp ++ [AObj.cells 4 [boolA false], AObj.cells 3 [intA (k : Nat)], AObj.defs, AObj.loop LoopState.ready none FR 23 #[8, 9] as' bd' (oid Hp.length 2)] ++ X) = V
    have hL : V[oid Hp.length 3]? = some (AObj.loop LoopState.ready none FR 23 #[8, 9] as' bd' (oid Hp.length 2)) := by rw [← hV, List.append_assoc, get_oid]; rfl
    have hA0 : V[oid Hp.length 1]? = some (AObj.cells 3 [intA (k : Nat)]) := by rw [← hV, List.append_assoc, get_oid]; rfl
    have hB0 : V[oid Hp.length 0]? = some (AObj.cells 4 [boolA false]) := by rw [← hV, List.append_assoc, get_oid]; rfl
    refine AYield.ofRound (pd := none) (fr := FR) (sz := 23) (ps := #[8, 9]) (df := oid Hp.length 2) (asg := as') (bd := bd') hL rfl (by decide) (fun d => ?_)
    subst hFR has hbd
    refine W.keep [2, 3, 8, 9] ?_
    refine AW.seqR ?_
    refine R.assign ?_
    refine R.fin [2, 3, 4, 9] ?_
    refine AW.region ?_
    refine R.alloc Tryd.zeroValue88 ?_
    refine R.storeOwn Tryd.sizeOf88 ?_
    refine R.fin [2, 3, 4, 5] ?_
    refine ⟨rfl, none, hL, ?_⟩
    generalize hbz : (AObj.loop LoopState.busy _ _ _ _ _ _ _) = bz
    have hA : (V.set (oid Hp.length 3) bz)[oid Hp.length 1]? = some (AObj.cells 3 [intA (k : Nat)]) := by rw [List.getElem?_set_ne (oid_ne (by decide))]; exact hA0
    have hB : (V.set (oid Hp.length 3) bz)[oid Hp.length 0]? = some (AObj.cells 4 [boolA false]) := by rw [List.getElem?_set_ne (oid_ne (by decide))]; exact hB0
    refine AW.block ?_
    refine AW.seqR ?_
    refine R.loadUp Tryd.isAgg3 hA ?_
    refine R.add64 ?_
    refine R.storeUp Tryd.sizeOf3 hA ?_ ?_
    · simp
    refine R.fin [2, 3, 4, 5] ?_
    refine AW.seqR ?_
    refine R.loadOwnN Tryd.isAgg88 Tryd.sizeOf88 ?_
    refine R.call Tryd.call53 (c53 it.2 (items_okE n e hok 1 it (List.mem_of_getElem? hit)) _) ?_
    refine R.not ?_
    refine R.move ?_
    refine G.move ?_
    refine G.gtr ?_
    refine R.pickOr ?_
    refine R.move ?_
    refine G.loadUp Tryd.isAgg3 (getset hA) ?_
    refine G.gtr ?_
    refine R.pickOr ?_
    refine R.fin [2, 22] ?_
    refine W.cond (fun ht22 => ?_) (fun ht22 => ?_)
    · skip
      have hgf : goM e k = false := by rw [goM_at hit, ht22]; rfl
      refine AW.seqR ?_
      refine R.storeUp Tryd.sizeOf4 (get_set_ne (j := oid Hp.length 1) hB (oid_ne (by decide))) ?_ ?_
      · simp
      refine R.fin [] ?_
      refine AW.ret ?_
      refine K.blR ?_
      subst hbz
      refine K.rdR (keep2 hL (oid_ne (by decide)) (oid_ne (by decide))) ?_
      refine ⟨hgf.symm, ?_⟩
      rw [if_neg (by rw [hgf]; simp)]
      subst hV
      simp only [List.append_assoc, set_oid, List.cons_append, List.nil_append, List.set_cons_succ, List.set_cons_zero]
      try rfl
    · skip
      have hgt : goM e k = true := by rw [goM_at hit, ht22]; rfl
      refine AW.skip ?_
      refine K.blN ?_
      subst hbz
      refine K.rdN (keep1 hL (oid_ne (by decide))) ?_
      refine ⟨hgt.symm, ?_⟩
      rw [if_pos hgt]
      subst hV
      simp only [List.append_assoc, set_oid, List.cons_append, List.nil_append, List.set_cons_succ, List.set_cons_zero]
      try rfl
  · skip
    rintro r H' (⟨h1, rfl⟩ | ⟨j, hj, h1, h2, rfl⟩)
    · skip
      refine ⟨Hp, _, _, _, rfl, rfl, fun h => h, ?_, rfl, by simp, ?_⟩
      · intro o ho
        have : o = oid Hp.length 2 := by simpa using ho
        subst this
        rw [get_oid]
        rfl
      refine K.blN ?_
      refine K.thN ?_
      refine AW.seqR ?_
      refine R.storeOwn Tryd.sizeOf4 ?_
      refine R.fin [2] ?_
      refine AW.ret ?_
      exact K.fin (V.one (V.cell Tryd.isAgg4)) ⟨by rw [show exprRightM e = true from List.all_eq_true.2 fun j hj => h1 j (List.mem_range.1 hj)], rfl⟩
    · skip
      refine ⟨Hp, _, _, _, rfl, rfl, fun h => h, ?_, rfl, by simp, ?_⟩
      · intro o ho
        have : o = oid Hp.length 2 := by simpa using ho
        subst this
        rw [get_oid]
        rfl
      refine AW.ret ?_
      refine K.blR ?_
      refine K.thR ?_
      exact K.fin (V.one (V.cell Tryd.isAgg4)) ⟨by rw [show exprRightM e = false from List.all_eq_false.2 ⟨j, List.mem_range.2 hj, by rw [h2]; simp⟩], rfl⟩

end Go.SX.Nb
namespace Go.SX.Nb
open Go Go.SX Go.Proofs
set_option maxRecDepth 4000
def nameE (s : Str) : Expr := .mk 2 s ⟨0, 0, []⟩ []
theorem nameE_le (s : Str) : Le (.agg [intA 2, strA s, intA 0, intA 0, strA [], .nil]) (exprA (nameE s)) := by
  rw [exprA_eq]
  refine .agg _ _ rfl (by simp [AV.one, Value.oneCell', sv]) fun i y y' h1 h2 => ?_
  match i with
  | 0 => simp at h1 h2; subst h1; subst h2; exact .inl rfl
  | 1 => simp at h1 h2; subst h1; subst h2; exact .inl rfl
  | 2 => simp at h1 h2; subst h1; subst h2; exact .inl rfl
  | 3 => simp at h1 h2; subst h1; subst h2; exact .inl rfl
  | 4 => simp at h1 h2; subst h1; subst h2; exact .inl rfl
  | 5 => simp at h1 h2; subst h1; subst h2; exact .inr ⟨rfl, 6, rfl⟩
  | i + 6 => simp at h1
theorem nameE_ok (s : Str) (h : s.length ≤ 1048576) : okE 1 (nameE s) := ⟨h, by simp [nameE, Expr.kids], fun y hy => by cases hy⟩
def colAtP (c : List Col) (x : Nat) (y : Col) : Bool := !(((!exprRightM (nameE y.name)) || (kindNameM y.kind == [])) || (findM y.name c != (x : Int)))
def colsP (c : List Col) : Bool := c.zipIdx.all fun x => colAtP c x.2 x.1
theorem colsP_true {c : List Col} : colsP c = true ↔ ∀ (j : Nat) (y : Col), c[j]? = some y → colAtP c j y = true := zipIdx_all
theorem c35 (c : List Col) (hc : OkCols c) (Hp : List AObj) : AFun Tryd.prog 35 [colsA c] Hp (boolA (colsP c)) := by
  refine ACall.body [.tmp 2] [0] Tryd.func35 Tryd.ntmps35 (fun d => ?_)
  refine AW.seqR ?_
  refine R.assign ?_
  refine R.fin [0] ?_
  refine W.seq ?_
  refine AW.seqR ?_
  refine R.move ?_
  refine R.len Tryd.underlying23 ?_
  refine R.move ?_
  refine R.fin [0, 5, 6, 7] ?_
  refine AW.loopC (α := Nat) (fun x => ⟨32, setF 0 (colsA c) (setF 5 (colsA c) (setF 6 (intA c.length) (setF 7 (intA (x : Nat)) (fun _ => .any)))), Hp, [], [], none⟩) (fun x => x ≤ c.length ∧ ∀ (j : Nat) (y : Col), j < x → c[j]? = some y → colAtP c j y = true) (fun x => c.length - x) (0) (by simp) (StLe.of_eq (by simp)) rfl (fun x hx => ?_)
  refine AW.seqR ?_
  refine R.lss ?_
  refine R.fin [0, 5, 6, 7, 8] ?_
  refine W.condX (fun ht8 => ?_) (fun ht8 => ?_)
  · skip
    have hlt : x < c.length := by simpa using ht8
    have hcl := hc.len
    refine W.seq ?_
    refine AW.block ?_
    refine AW.seqR ?_
    refine R.move ?_
    refine R.indexAddr (x) (colA c[x]) Tryd.underlying23 Tryd.sizeOf49 (getMap hlt) ?_
    refine R.loadRoN Tryd.isAgg49 Tryd.sizeOf49 ?_
    refine R.alloc Tryd.zeroValue49 ?_
    refine R.assign ?_
    refine R.storeOwn Tryd.sizeOf49 ?_
    refine R.fin [0, 3, 4, 5, 6, 7] ?_
    refine AW.seqR ?_
    refine R.fieldAddrPtr (fo := 0) Tryd.underlying49 Tryd.sizeOf9 ?_
    refine R.loadOwn Tryd.isAgg9 ?_
    refine R.build (places := #[(0, 1), (1, 1), (2, 3), (5, 1)]) Tryd.underlying88 (fun w => by simp) Tryd.zeroValue88 ?_
    refine R.wk 14 _ (nameE_le c[x].name) ?_
    refine R.call Tryd.call44 (c44 1 (nameE c[x].name) (nameE_ok _ (hc.names _ (List.getElem_mem hlt))) (by decide) _) ?_
    refine R.not ?_
    refine R.move ?_
    refine G.fieldAddrPtr (fo := 1) Tryd.underlying49 Tryd.sizeOf3 ?_
    refine G.loadOwn Tryd.isAgg3 ?_
    refine G.call Tryd.call45 (fun hB => c45 c[x].kind _) ?_
    refine G.seql ?_
    refine R.pickOr ?_
    refine R.move ?_
    refine G.move ?_
    refine G.fieldAddrPtr (fo := 0) Tryd.underlying49 Tryd.sizeOf9 ?_
    refine G.loadOwn Tryd.isAgg9 ?_
    refine G.call Tryd.call46 (fun hB => c46 c hc c[x].name _) ?_
    refine G.move ?_
    refine G.neq ?_
    refine R.pickOr ?_
    refine R.fin [0, 5, 6, 7, 30] ?_
    refine W.cond (fun ht30 => ?_) (fun ht30 => ?_)
    · skip
      refine AW.seqR ?_
      refine R.assign ?_
      refine R.fin [2] ?_
      refine AW.ret ?_
      refine K.blR ?_
      refine K.thR ?_
      refine K.lpR ?_
      refine K.thR ?_
      exact K.fin (V.one V.tmp) ⟨by rw [show colsP c = false from Bool.eq_false_iff.2 fun h => by have := colsP_true.1 h x c[x] (List.getElem?_eq_getElem hlt); unfold colAtP at this; rw [ht30] at this; cases this], rfl⟩
    · skip
      refine AW.skip ?_
      refine K.blN ?_
      refine K.thN ?_
      refine AW.region ?_
      refine R.add64 ?_
      refine R.move ?_
      refine R.fin [0, 5, 6, 7] ?_
      refine K.lpN (x + 1) ⟨hlt, uptoI_succ hlt hx.2 (by unfold colAtP; rw [ht30]; rfl)⟩ (by omega) ?_
      exact StCut.take (own := []) (fun _ => .refl _) (by repeat (first | exact lowF_any | refine lowF_set (by simp) ?_)) (by simp) (by simp)
  · skip
    refine K.lpE ?_
    refine K.thN ?_
    refine AW.seqR ?_
    refine R.assign ?_
    refine R.fin [2] ?_
    refine AW.ret ?_
    exact K.fin (V.one V.tmp) ⟨by rw [colsP_true.2 (uptoI_all (by simp at ht8; omega) hx.2)], rfl⟩

end Go.SX.Nb
namespace Go.SX.Nb
open Go Go.SX Go.Proofs
set_option maxRecDepth 4000
def rightP (c : List Col) : Bool := decide ((c.length : Int) ≤ 12) && colsP c
theorem c26 (c : List Col) (hc : OkCols c) (Hp : List AObj) : AFun Tryd.prog 26 [colsA c] Hp (boolA (rightP c)) := by
  refine ACall.body [.tmp 2] [0] Tryd.func26 Tryd.ntmps26 (fun d => ?_)
  refine AW.seqR ?_
  refine R.assign ?_
  refine R.fin [0] ?_
  refine AW.seqR ?_
  refine R.move ?_
  refine R.len Tryd.underlying23 ?_
  refine R.leq ?_
  refine R.move ?_
  refine G.move ?_
  refine G.call Tryd.call35 (fun hB => c35 c hc _) ?_
  refine R.pickAnd ?_
  refine R.assign ?_
  refine R.fin [2] ?_
  refine AW.ret ?_
  exact K.fin (V.one V.tmp) ⟨by unfold rightP; simp, rfl⟩

theorem c19 (c : List Col) (hc : OkCols c) (n : Int) (Hp : List AObj) : AFun Tryd.prog 19 [colsA c, intA n] Hp (boolA ((rightP c && decide (0 ≤ n)) && decide (n ≤ 1000))) := by
  refine ACall.body [.tmp 4] [0, 1] Tryd.func19 Tryd.ntmps19 (fun d => ?_)
  refine AW.seqR ?_
  refine R.assign ?_
  refine R.fin [0, 1] ?_
  refine AW.seqR ?_
  refine R.move ?_
  refine R.call Tryd.call26 (c26 c hc _) ?_
  refine R.move ?_
  refine G.move ?_
  refine G.geq ?_
  refine R.pickAnd ?_
  refine R.move ?_
  refine G.move ?_
  refine G.leq ?_
  refine R.pickAnd ?_
  refine R.assign ?_
  refine R.fin [4] ?_
  refine AW.ret ?_
  exact K.fin (V.one V.tmp)

end Go.SX.Nb
namespace Go.SX.Nb
open Go Go.SX Go.Proofs
set_option maxRecDepth 4000
def mayM (c : List Col) (n : Int) : Bool := (rightP c && decide (0 ≤ n)) && decide (n ≤ 1000)
def rowsOut (s : Int) (c : List Col) (n : Int) : List Row × Int := if mayM c n then (rowsM c s n.toNat, 0) else ([], 1)
theorem c7 (s : Int) (c : List Col) (hc : OkCols c) (n : Int) (Hp : List AObj) : AFun Tryd.prog 7 [u64A s, colsA c, intA n] Hp (.tup [rowsA (rowsOut s c n).1, intA (rowsOut s c n).2]) := by
  refine ACall.body [.tmp 6, .tmp 7] [0, 1, 2, 9] Tryd.func7 Tryd.ntmps7 (fun d => ?_)
  refine AW.seqR ?_
  refine R.boxRo ?_
  refine R.assign ?_
  refine R.assign ?_
  refine R.fin [0, 1, 5, 9] ?_
  refine W.seq ?_
  refine AW.seqR ?_
  refine R.move ?_
  refine R.loadRo Tryd.isAgg3 ?_
  refine R.call Tryd.call19 (c19 c hc n _) ?_
  refine R.not ?_
  refine R.fin [0, 1, 5, 9, 13] ?_
  refine W.cond (fun ht13 => ?_) (fun ht13 => ?_)
  · skip
    have hm : mayM c n = false := by unfold mayM; revert ht13; cases (rightP c && decide (0 ≤ n)) && decide (n ≤ 1000) <;> simp
    refine AW.seqR ?_
    refine R.assign ?_
    refine R.nilSl 6 2 ?_
    refine R.assign ?_
    refine R.fin [6, 7] ?_
    refine AW.ret ?_
    refine K.thR ?_
    exact K.fin (V.two V.tmp V.tmp) ⟨by rw [rowsOut, hm]; rfl, rfl⟩
  · skip
    have hm : mayM c n = true := by unfold mayM; revert ht13; cases (rightP c && decide (0 ≤ n)) && decide (n ≤ 1000) <;> simp
    have hn0 : 0 ≤ n ∧ n ≤ 1000 := by unfold mayM at hm; simp at hm; omega
    obtain ⟨N, rfl⟩ := Int.eq_ofNat_of_zero_le hn0.1
    refine AW.skip ?_
    refine K.thN ?_
    refine AW.seqR ?_
    refine R.alloc Tryd.zeroValue26 ?_
    refine R.fin [0, 1, 5, 8, 9] ?_
    refine W.seq ?_
    refine AW.seqR ?_
    refine R.loadRo Tryd.isAgg3 ?_
    refine R.eql ?_
    refine R.fin [0, 1, 5, 8, 9, 15] ?_
    refine W.cond (fun ht15 => ?_) (fun ht15 => ?_)
    · skip
      have hN0 : N = 0 := by simp at ht15; omega
      subst hN0
      refine AW.seqR ?_
      refine R.assign ?_
      refine R.nilSl 6 2 ?_
      refine R.assign ?_
      refine R.fin [6, 7] ?_
      refine AW.ret ?_
      refine K.thR ?_
      exact K.fin (V.two V.tmp V.tmp) ⟨by rw [rowsOut, hm]; rfl, rfl⟩
    · skip
      have hN : 0 < N := by simp at ht15; omega
      have hN2 : N ≤ 1000 := by omega
      refine AW.skip ?_
      refine K.thN ?_
      refine W.seq ?_
      refine AW.seqR ?_
      refine R.nilOwn 0 2 ?_
      refine R.move ?_
      refine R.build (places := #[(0, 1)]) Tryd.underlying55 (fun w => by simp) Tryd.zeroValue55 ?_
      refine R.box ?_
      refine R.move ?_
      refine R.call Tryd.call20 (c20 (oid Hp.length 1) c _ (by simp [oid])) ?_
      refine R.fin [5, 8, 9, 20] ?_
      refine AW.block ?_
      refine W.rangeV (m := 2) Tryd.call31 (fun FR as' bd' hFR has hbd => ?_)
      refine ⟨fun _ H' => H' = Hp ++ [AObj.cells 26 [AV.slice true 2 ((rowsM c s N).map rowA)], AObj.cells 55 [u64A (rowsSt c s N).1], AObj.defs, AObj.loop LoopState.done (some (Code.exit 0)) FR 31 #[21] as' bd' (oid Hp.length 2)], c31 (oid Hp.length 3) (oid Hp.length 1) c hc s N hN hN2 (fun j => Hp ++ [AObj.cells 26 [AV.slice true 2 ((rowsM c s j).map rowA)], AObj.cells 55 [u64A (rowsSt c s j).1], AObj.defs, AObj.loop LoopState.ready none FR 31 #[21] as' bd' (oid Hp.length 2)]) _ (fun j hj => by simp [oid]) (fun j => by simp) (by simp [oid]) (by simp [oid]) (fun j hj => ?_), ?_⟩
      · skip
        rw [set_oid]
        simp only [List.set_cons_succ, List.set_cons_zero]
        have hl3 : (rowsM c s j).length = j := rowsSt_len c s j
        generalize hV : (Hp ++ [AObj.cells 26 [AV.slice true 2 ((rowsM c s j).map rowA)], AObj.cells 55 [u64A (rowsSt c s (j + 1)).1], AObj.defs, AObj.loop LoopState.ready none FR 31 #[21] as' bd' (oid Hp.length 2)]) = V
        have hL : V[oid Hp.length 3]? = some (AObj.loop LoopState.ready none FR 31 #[21] as' bd' (oid Hp.length 2)) := by rw [← hV, get_oid]; rfl
        have hA0 : V[oid Hp.length 0]? = some (AObj.cells 26 [AV.slice true 2 ((rowsM c s j).map rowA)]) := by rw [← hV, get_oid]; rfl
        refine AYield.ofRound (pd := none) (fr := FR) (sz := 31) (ps := #[21]) (df := oid Hp.length 2) (asg := as') (bd := bd') hL rfl (by decide) (fun d => ?_)
        subst hFR has hbd
        refine W.keep [5, 8, 21] ?_
        refine AW.region ?_
        refine R.alloc Tryd.zeroValue34 ?_
        refine R.storeOwn Tryd.sizeOf34 ?_
        refine R.fin [5, 8, 9] ?_
        refine ⟨rfl, none, hL, ?_⟩
        generalize hbz : (AObj.loop LoopState.busy _ _ _ _ _ _ _) = bz
        have hA : (V.set (oid Hp.length 3) bz)[oid Hp.length 0]? = some (AObj.cells 26 [AV.slice true 2 ((rowsM c s j).map rowA)]) := by rw [List.getElem?_set_ne (oid_ne (by decide))]; exact hA0
        refine AW.block ?_
        refine AW.seqR ?_
        refine R.loadUpT Tryd.isAgg26 hA ?_
        refine R.loadOwnN Tryd.isAgg34 Tryd.sizeOf34 ?_
        refine R.buildSlice Tryd.underlying26 Tryd.sizeOf34 Tryd.zeroValue34 ?_
        refine R.append Tryd.underlying26 Tryd.type34 ?_ ?_ ?_
        · simp [hl3, Tryd.t34]; omega
        · simp [hl3, Tryd.t34]; omega
        refine R.storeUpT Tryd.sizeOf26 (getset hA) ?_ ?_
        · simp [or_imp, forall_and]
        refine R.fin [5, 8] ?_
        refine AW.seqR ?_
        refine R.loadUp Tryd.isAgg26 (getset (getset hA)) ?_
        refine R.len Tryd.underlying26 ?_
        refine R.loadRo Tryd.isAgg3 ?_
        refine R.eql ?_
        refine R.fin [29] ?_
        refine W.cond (fun ht29 => ?_) (fun ht29 => ?_)
        · skip
          have hjN : j + 1 = N := by simp [hl3] at ht29; omega
          refine AW.exit ?_
          refine K.blO (by decide) ?_
          subst hbz
          refine K.rdE (keep2 hL (oid_ne (by decide)) (oid_ne (by decide))) ?_
          rw [if_neg (by omega)]
          refine ⟨rfl, ?_⟩
          subst hV hjN
          simp only [set_oid, List.set_cons_succ, List.set_cons_zero]
          rw [show rowsM c s (j + 1) = rowsM c s j ++ [rowAtM c s j] from rfl, List.map_append]
          rfl
        · skip
          have hjN : j + 1 < N := by simp [hl3] at ht29; omega
          refine AW.skip ?_
          refine K.blN ?_
          subst hbz
          refine K.rdN (keep2 hL (oid_ne (by decide)) (oid_ne (by decide))) ?_
          rw [if_pos hjN]
          refine ⟨rfl, ?_⟩
          subst hV
          simp only [set_oid, List.set_cons_succ, List.set_cons_zero]
          rw [show rowsM c s (j + 1) = rowsM c s j ++ [rowAtM c s j] from rfl, List.map_append]
          rfl
      · skip
        rintro r H' rfl
        refine ⟨Hp, _, _, _, rfl, rfl, fun h => h, ?_, rfl, by simp, ?_⟩
        · intro o ho
          have : o = oid Hp.length 2 := by simpa using ho
          subst this
          rw [get_oid]
          rfl
        refine AW.exit ?_
        refine K.blE ?_
        refine K.thN ?_
        refine AW.seqR ?_
        refine R.loadOwn Tryd.isAgg26 ?_
        refine R.assign ?_
        refine R.assign ?_
        refine R.fin [6, 7] ?_
        refine AW.ret ?_
        exact K.fin (V.two V.tmp V.tmp) ⟨by rw [rowsOut, hm]; rfl, rfl⟩

end Go.SX.Nb
namespace Go.SX.Nb
open Go Go.SX Go.Proofs
set_option maxRecDepth 4000
theorem contains_nil (s : Str) (h : s ≠ []) : Lib.contains [] s = false := by
  cases s with
  | nil => exact absurd rfl h
  | cons a r => rfl
theorem contains_cons (b : UInt8) (l s : Str) : Lib.contains (b :: l) s = (s.isPrefixOf (b :: l) || Lib.contains l s) := by
  unfold Lib.contains
  have hge := Lib.index_ge l s
  rw [Lib.index]
  by_cases hp : s.isPrefixOf (b :: l) = true
  · rw [if_pos hp, hp]; rfl
  · rw [if_neg hp]
    have hp' : s.isPrefixOf (b :: l) = false := Bool.eq_false_iff.2 hp
    rw [hp', Bool.false_or]
    by_cases hi : Lib.index l s = -1
    · rw [hi]; rfl
    · have : (Lib.index l s == -1) = false := by simpa using hi
      rw [this, if_neg (by simp)]
      rw [decide_eq_decide]
      omega
/-- Words between blanks. -/
def textOf : List Str → Str
  | [] => [32]
  | w :: r => 32 :: (w ++ textOf r)
theorem skip_word (sub : Str) : ∀ (w R : Str), (32 : UInt8) ∉ w → Lib.contains (w ++ R) (32 :: sub) = Lib.contains R (32 :: sub)
  | [], R, _ => rfl
  | b :: w, R, h => by
    have hb : b ≠ 32 := fun e => h (by simp [e])
    rw [List.cons_append, contains_cons, skip_word sub w R (fun hm => h (by simp [hm]))]
    have : (32 :: sub).isPrefixOf (b :: (w ++ R)) = false := by
      simp [List.isPrefixOf, Ne.symm hb]
    rw [this, Bool.false_or]
theorem prefix_word : ∀ (s w : Str) (R : Str), (32 : UInt8) ∉ s → (32 : UInt8) ∉ w → (s ++ [32]).isPrefixOf (w ++ 32 :: R) = (s == w)
  | [], [], R, _, _ => by simp [List.isPrefixOf]
  | [], b :: w, R, _, hw => by
    have hb : (32 : UInt8) ≠ b := fun e => hw (by simp [e])
    simp [List.isPrefixOf, hb]
  | a :: s, [], R, hs, _ => by
    have hb : a ≠ (32 : UInt8) := fun e => hs (by simp [e])
    simp [List.isPrefixOf, hb]
  | a :: s, b :: w, R, hs, hw => by
    have ih := prefix_word s w R (fun h => hs (by simp [h])) (fun h => hw (by simp [h]))
    rw [List.cons_append, List.cons_append, List.isPrefixOf, ih]
    rfl
theorem textOf_head : ∀ ws, ∃ R, textOf ws = 32 :: R
  | [] => ⟨[], rfl⟩
  | w :: r => ⟨_, rfl⟩
theorem contains_words (s : Str) (hs : (32 : UInt8) ∉ s) : ∀ (ws : List Str), (∀ w ∈ ws, (32 : UInt8) ∉ w) → Lib.contains (textOf ws) ([32] ++ s ++ [32]) = ws.any (· == s)
  | [], _ => by
    rw [textOf, contains_cons, contains_nil _ (by simp), Bool.or_false]
    cases s <;> simp [List.isPrefixOf]
  | w :: r, h => by
    have hw := h w (by simp)
    obtain ⟨R, hR⟩ := textOf_head r
    have ih := contains_words s hs r (fun x hx => h x (by simp [hx]))
    have e1 : ([32] ++ s ++ [32] : Str) = 32 :: (s ++ [32]) := rfl
    rw [textOf, contains_cons, e1, skip_word _ w _ hw, ← e1, ih, List.any_cons]
    congr 1
    rw [e1, hR]
    have := prefix_word s w R hs hw
    rw [List.isPrefixOf, this]
    simp only [beq_self_eq_true, Bool.true_and]
    by_cases hsw : s = w
    · subst hsw; rfl
    · rw [beq_eq_false_iff_ne.2 hsw, beq_eq_false_iff_ne.2 (Ne.symm hsw)]
theorem reserved_text : reservedText = textOf words := by kernel_rfl
theorem words_plain : ∀ w ∈ words, (32 : UInt8) ∉ w := by decide
theorem no_blank (s : Str) : Lib.contains s [32] = s.contains 32 := by
  induction s with
  | nil => rfl
  | cons b l ih =>
    rw [contains_cons, ih, List.contains_cons]
    congr 1
    simp [List.isPrefixOf]
theorem lexReserved_eq (s : Str) (h1 : s ≠ []) (h2 : (32 : UInt8) ∉ s) : lexReservedM s = reservedM s := by
  unfold lexReservedM
  rw [no_blank, reserved_text, contains_words s h2 words words_plain]
  have e1 : (s == []) = false := by simpa using h1
  have e2 : s.contains 32 = false := by simpa using h2
  rw [e1, e2]
  rfl
end Go.SX.Nb
namespace Go.SX.Nb
open Go Go.SX Go.Proofs
set_option maxRecDepth 8000
theorem u8_all {p : UInt8 → Bool} (h : ((List.range 256).all fun n => p (UInt8.ofNat n)) = true) (c : UInt8) : p c = true := by
  have := List.all_eq_true.1 h c.toNat (List.mem_range.2 c.toNat_lt)
  simpa using this
theorem tails_char (c : UInt8) : tails.contains c = charM c := by
  have := u8_all (p := fun c => tails.contains c == charM c) (by kernel_rfl) c
  simpa using this
theorem letters_char (c : UInt8) : letters.contains c = letterM c := by
  have := u8_all (p := fun c => letters.contains c == letterM c) (by kernel_rfl) c
  simpa using this
theorem blank_char : charM 32 = false := by kernel_rfl
theorem run_all (s of : Str) : (runM s of == (s.length : Int)) = s.all (of.contains ·) := by
  unfold runM Lib.trimLeftS
  induction s with
  | nil => rfl
  | cons c r ih =>
    rw [List.dropWhile_cons, List.all_cons]
    cases hc : of.contains c with
    | true =>
      simp only [if_true, Bool.true_and]
      rw [← ih, Bool.eq_iff_iff]
      have := (List.dropWhile_sublist (fun x => of.contains x) (l := r)).length_le
      simp only [beq_iff_eq, List.length_cons]
      omega
    | false =>
      simp only [Bool.false_eq_true, if_false, Bool.false_and]
      rw [beq_eq_false_iff_ne]
      simp only [List.length_cons]
      omega
theorem lexName_eq (s : Str) : lexNameM s = nameM s := by
  cases s with
  | nil => rfl
  | cons c r =>
    unfold lexNameM
    rw [run_all]
    have e1 : ((c :: r).all fun x => tails.contains x) = (c :: r).all charM := by
      congr 1
      funext x
      exact tails_char x
    have e2 : (runM ((c :: r).take 1) letters == 1) = letterM c := by
      have := run_all [c] letters
      rw [← letters_char c]
      simpa using this
    rw [e1, e2]
    have e3 : ((c :: r : Str) == []) = false := rfl
    have e4 : decide (((c :: r).length : Int) ≤ 16) = decide ((c :: r).length ≤ 16) := by
      rw [decide_eq_decide]; omega
    rw [e3, e4]
    show _ = (decide ((c :: r).length ≤ 16) && letterM c && !reservedM (c :: r) && (c :: r).all charM)
    cases ha : (c :: r).all charM with
    | false => simp
    | true =>
      have hb : (32 : UInt8) ∉ (c :: r) := fun hm => by
        have := List.all_eq_true.1 ha 32 hm
        rw [blank_char] at this
        cases this
      rw [lexReserved_eq _ (by simp) hb]
      simp
theorem right_name (s : Str) : exprRightM (nameE s) = nameM s := by
  have e : itemsE 1 (nameE s) = [(1, nameE s)] := by rw [itemsE_eq]; rfl
  unfold exprRightM
  rw [e]
  show ((List.range 1).all (goM (nameE s))) = _
  have g : goM (nameE s) 0 = nodeM (nameE s) := by
    unfold goM
    rw [e]
    simp
  simp only [List.range_succ, List.range_zero, List.nil_append, List.all_cons, List.all_nil, Bool.and_true]
  rw [g, ← lexName_eq]
  simp [nodeM, nameE, Expr.op, Expr.val, Expr.text, Expr.kids, bareM]
theorem kindName_nil (k : Int) : (kindNameM k == []) = (decide (k < 1) || decide ((3 : Int) < k)) := by
  unfold kindNameM
  by_cases h : k < 1 ∨ 3 < k
  · rw [if_pos h]
    have : (decide (k < 1) || decide ((3 : Int) < k)) = true := by simpa using h
    rw [this]; rfl
  · rw [if_neg h]
    have : (decide (k < 1) || decide ((3 : Int) < k)) = false := by simp; omega
    rw [this]
    have hk : k = 1 ∨ k = 2 ∨ k = 3 := by omega
    rcases hk with rfl | rfl | rfl <;> rfl
theorem cols_eq (c : List Col) : colsP c = colsM c := by
  unfold colsP colsM
  congr 1
  funext x
  unfold colAtP colAt
  rw [right_name, kindName_nil, ← Bool.or_assoc (!nameM x.1.name)]
theorem right_eq (c : List Col) : rightP c = rightM c := by unfold rightP rightM; rw [cols_eq]
end Go.SX.Nb
namespace Go.SX.Nb
open Go Go.SX Go.Proofs
set_option maxRecDepth 4000
theorem textM_len (n : Int) : (textM n).length ≤ 2 := by
  unfold textM texts
  generalize n.toNat = k
  match k with
  | 0 => decide
  | 1 => decide
  | 2 => decide
  | 3 => decide
  | k + 4 => simp
theorem genV_fits (s k : Int) (hk : k = 1 ∨ k = 2 ∨ k = 3) : plainM (genV s k).2 = true ∧ ((genV s k).2.kind = 0 ∨ (genV s k).2.kind = k) := by
  unfold genV
  split
  · exact ⟨rfl, .inl rfl⟩
  · split
    · rename_i h; exact ⟨rfl, .inr h.symm⟩
    · split
      · rename_i h
        refine ⟨?_, .inr h.symm⟩
        have := textM_len (nextK (nextS (nextS s)) 4)
        simp [plainM]
        omega
      · have h3 : k = 3 := by omega
        subst h3
        have := nextK_range (nextS (nextS s)) 2 (by decide)
        refine ⟨?_, .inr rfl⟩
        simp [plainM]
        omega
theorem genRow_get : ∀ (c : List Col) (s : Int) (j : Nat) (v : Val), (genRow s c).2[j]? = some v → ∃ t y, c[j]? = some y ∧ v = (genV t y.kind).2
  | [], s, j, v, h => by simp [genRow] at h
  | c :: r, s, 0, v, h => by simp [genRow] at h; exact ⟨s, c, rfl, h.symm⟩
  | c :: r, s, j + 1, v, h => by
    simp only [genRow, List.getElem?_cons_succ] at h
    exact genRow_get r _ j v h
theorem colAt_kind {c : List Col} {x : Nat} {y : Col} (h : colAt c x y = true) : y.kind = 1 ∨ y.kind = 2 ∨ y.kind = 3 := by
  unfold colAt at h
  simp at h
  omega
theorem genRow_row {c : List Col} (hc : colsM c = true) (s : Int) : rowM c (genRow s c).2 = true := by
  unfold rowM
  rw [hc, genRow_len]
  have : ((genRow s c).2.zipIdx.all fun x => rowAt c x.2 x.1) = true := by
    rw [zipIdx_all]
    intro j v hj
    obtain ⟨t, y, hy, rfl⟩ := genRow_get c s j v hj
    have := colAt_kind (colsM_true.1 hc j y hy)
    obtain ⟨h1, h2⟩ := genV_fits t y.kind this
    unfold rowAt
    rw [h1, hy]
    rcases h2 with h2 | h2
    · rw [h2]; rfl
    · rw [h2]; simp
  rw [this]
  simp
theorem rowsM_succ (c : List Col) (s : Int) (n : Nat) : rowsM c s (n + 1) = rowsM c s n ++ [rowAtM c s n] := rfl
theorem rowsM_len (c : List Col) (s : Int) (n : Nat) : (rowsM c s n).length = n := rowsSt_len c s n
theorem rowsM_get (c : List Col) (s : Int) : ∀ (n j : Nat), j < n → (rowsM c s n)[j]? = some (rowAtM c s j)
  | 0, j, h => by omega
  | n + 1, j, h => by
    rw [rowsM_succ]
    rcases Nat.lt_or_ge j n with h' | h'
    · rw [List.getElem?_append_left (by rw [rowsM_len]; exact h')]; exact rowsM_get c s n j h'
    · have : j = n := by omega
      subst this
      rw [List.getElem?_append_right (by rw [rowsM_len]; omega), rowsM_len]
      simp
theorem rowsM_take (c : List Col) (s : Int) {k n : Nat} (h : k ≤ n) : (rowsM c s n).take k = rowsM c s k := by
  apply List.ext_getElem?
  intro j
  rw [List.getElem?_take]
  split
  · rename_i hj; rw [rowsM_get c s n j (by omega), rowsM_get c s k j hj]
  · rename_i hj; rw [List.getElem?_eq_none (by rw [rowsM_len]; omega)]
theorem rowAtM_key (c : List Col) (s : Int) (j : Nat) : 1 ≤ (rowAtM c s j).key ∧ (rowAtM c s j).key ≤ 3 * (j + 1) := by
  have h1 := rowsSt_key c s j
  have h2 := nextK_range (nextS (rowsSt c s j).1) 3 (by decide)
  show 1 ≤ (rowsSt c s j).2.1 + (nextK (nextS (rowsSt c s j).1) 3 + 1) ∧ (rowsSt c s j).2.1 + (nextK (nextS (rowsSt c s j).1) 3 + 1) ≤ _
  omega
theorem rowAtM_rise (c : List Col) (s : Int) (j : Nat) : (rowAtM c s j).key < (rowAtM c s (j + 1)).key := by
  have h2 := nextK_range (nextS (rowsSt c s (j + 1)).1) 3 (by decide)
  show (rowsSt c s (j + 1)).2.1 < (rowsSt c s (j + 1)).2.1 + (nextK (nextS (rowsSt c s (j + 1)).1) 3 + 1)
  omega
end Go.SX.Nb
namespace Go.SX.Nb
open Go Go.SX Go.Proofs
set_option maxRecDepth 4000
theorem may_eq (c : List Col) (N : Nat) (hr : rightM c = true) (hN : N ≤ 1000) : mayM c N = true := by
  unfold mayM
  rw [right_eq, hr]
  simp
  omega
theorem rowsOut_eq (c : List Col) (s : Int) (N : Nat) (hr : rightM c = true) (hN : N ≤ 1000) : rowsOut s c N = (rowsM c s N, 0) := by
  unfold rowsOut
  rw [may_eq c N hr hN]
  rfl
theorem rowsOut_no (c : List Col) (s n : Int) (h : (!rightM c || decide (n < 0) || decide (1000 < n)) = true) : rowsOut s c n = ([], 1) := by
  unfold rowsOut mayM
  rw [right_eq]
  revert h
  cases rightM c
  · intro _; rfl
  · intro h
    simp at h
    rw [if_neg]
    simp
    omega
theorem ok_rows (c : List Col) (s : Int) (N : Nat) (hN : N ≤ 1000) (hc : c.length ≤ 1048576) : OkRows (rowsM c s N) := by
  refine ⟨by rw [rowsM_len]; omega, fun y hy => ?_⟩
  obtain ⟨j, hj⟩ := List.getElem?_of_mem hy
  have hlt := (List.getElem?_eq_some_iff.1 hj).1
  rw [rowsM_len] at hlt
  rw [rowsM_get c s N j hlt] at hj
  injection hj with hj
  subst hj
  show (genRow _ c).2.length ≤ _
  rw [genRow_len]
  exact hc
theorem k_of (m : Int) (N : Nat) (hN : N ≤ 1000) : ∃ K : Nat, K ≤ N ∧ IntKind.i64.wrap ((IntKind.u64.wrap m).tmod (IntKind.u64.wrap ((N : Int) + 1))) = (K : Int) := by
  have hr := u64_range m
  rw [wrap_u64 (n := (N : Int) + 1) (by omega) (by omega), Int.tmod_eq_emod_of_nonneg hr.1]
  have h1 := Int.emod_nonneg (IntKind.u64.wrap m) (b := (N : Int) + 1) (by omega)
  have h2 := Int.emod_lt_of_pos (IntKind.u64.wrap m) (b := (N : Int) + 1) (by omega)
  refine ⟨((IntKind.u64.wrap m) % ((N : Int) + 1)).toNat, by omega, ?_⟩
  rw [wrap_i64 (by omega) (by omega)]
  omega
theorem bad94 {c : List Col} {s : Int} {N x : Nat} (hcm : colsM c = true) (hlt : x < (rowsM c s N).length) (h1 : x - 1 < (rowsM c s N).length) : (((decide ((0 : Int) < x) && decide ((rowsM c s N)[x].key ≤ (rowsM c s N)[x - 1].key)) || decide ((rowsM c s N)[x].key < 1)) || !rowM c (rowsM c s N)[x].l) = true → False := by
  have hl := hlt
  rw [rowsM_len] at hl
  have e1 : (rowsM c s N)[x] = rowAtM c s x := by
    have := rowsM_get c s N x hl
    rw [List.getElem?_eq_getElem hlt] at this
    exact Option.some.inj this
  have e2 : (rowsM c s N)[x - 1] = rowAtM c s (x - 1) := by
    have := rowsM_get c s N (x - 1) (by omega)
    rw [List.getElem?_eq_getElem h1] at this
    exact Option.some.inj this
  rw [e1, e2, show rowM c (rowAtM c s x).l = true from genRow_row hcm _]
  have hk := rowAtM_key c s x
  intro h
  simp at h
  rcases h with ⟨h2, h3⟩ | h
  · have hr := rowAtM_rise c s (x - 1)
    rw [show x - 1 + 1 = x by omega] at hr
    omega
  · omega
theorem c3 (s : Int) (c : List Col) (hc : OkCols c) (n m : Int) (Hp : List AObj) : AFun Tryd.prog 3 [u64A s, colsA c, intA n, intA m] Hp (boolA true) := by
  refine ACall.body [.tmp 8] [0, 1, 2, 3] Tryd.func3 Tryd.ntmps3 (fun d => ?_)
  refine AW.seqR ?_
  refine R.assign ?_
  refine R.fin [0, 1, 2, 3] ?_
  refine W.seq ?_
  refine AW.seqR ?_
  refine R.call Tryd.call5 (c5 _) ?_
  refine R.not ?_
  refine R.fin [0, 1, 2, 3, 16] ?_
  refine W.cond (fun ht16 => ?_) (fun ht16 => ?_)
  · skip
    cases ht16
  · skip
    refine AW.skip ?_
    refine K.thN ?_
    refine W.seq ?_
    refine AW.seqR ?_
    refine R.move ?_
    refine R.call Tryd.call6 (c6 c hc _) ?_
    refine R.fin [0, 1, 2, 3, 18] ?_
    refine W.cond (fun ht18 => ?_) (fun ht18 => ?_)
    · skip
      refine AW.seqR ?_
      refine R.assign ?_
      refine R.fin [8] ?_
      refine AW.ret ?_
      refine K.thR ?_
      exact K.fin (V.one V.tmp)
    · skip
      refine AW.skip ?_
      refine K.thN ?_
      refine AW.seqR ?_
      refine R.move ?_
      refine R.move ?_
      refine R.move ?_
      refine R.call Tryd.call7 (c7 s c hc n _) ?_
      refine R.move ?_
      refine R.extract ?_
      refine R.extract ?_
      refine R.assign ?_
      refine R.assign ?_
      refine R.fin [0, 1, 2, 3, 9, 10] ?_
      refine W.seq ?_
      refine AW.seqR ?_
      refine R.move ?_
      refine R.call Tryd.call8 (c8 c hc _) ?_
      refine R.not ?_
      refine R.move ?_
      refine G.move ?_
      refine G.lss ?_
      refine R.pickOr ?_
      refine R.move ?_
      refine G.move ?_
      refine G.gtr ?_
      refine R.pickOr ?_
      refine R.fin [0, 1, 2, 3, 9, 10, 36] ?_
      refine W.cond (fun ht36 => ?_) (fun ht36 => ?_)
      · skip
        have hro := rowsOut_no c s n ht36
        refine AW.seqR ?_
        refine R.move ?_
        refine R.len Tryd.underlying26 ?_
        refine R.eql ?_
        refine R.move ?_
        refine G.move ?_
        refine G.eql ?_
        refine R.pickAnd ?_
        refine R.assign ?_
        refine R.fin [8] ?_
        refine AW.ret ?_
        refine K.thR ?_
        exact K.fin (V.one V.tmp) ⟨by rw [hro]; rfl, rfl⟩
      · skip
        have hr : rightM c = true := by revert ht36; cases rightM c <;> simp
        have hn0 : 0 ≤ n ∧ n ≤ 1000 := by rw [hr] at ht36; simp at ht36; omega
        obtain ⟨N, rfl⟩ := Int.eq_ofNat_of_zero_le hn0.1
        have hN2 : N ≤ 1000 := by omega
        have hro := rowsOut_eq c s N hr hN2
        simp only [hro]
        have hcm : colsM c = true := by unfold rightM at hr; revert hr; cases colsM c <;> simp
        refine AW.skip ?_
        refine K.thN ?_
        refine W.seq ?_
        refine AW.seqR ?_
        refine R.move ?_
        refine R.neq ?_
        refine R.move ?_
        refine G.move ?_
        refine G.move ?_
        refine G.move ?_
        refine G.move ?_
        refine G.call Tryd.call10 (fun hB => c10 s c hc N hN2 _) ?_
        refine G.call Tryd.call9 (fun hB => c9 (rowsM c s N) (rowsM c s N) (ok_rows c s N hN2 hc.len) _) ?_
        refine G.not ?_
        refine R.pickOr ?_
        refine R.fin [0, 1, 2, 3, 9, 54] ?_
        refine W.cond (fun ht54 => ?_) (fun ht54 => ?_)
        · skip
          exfalso; simp at ht54
        · skip
          refine AW.skip ?_
          refine K.thN ?_
          refine W.seq ?_
          refine AW.seqR ?_
          refine R.assign ?_
          refine R.fin [0, 1, 2, 3, 9, 11] ?_
          refine AW.loopC (α := Nat) (fun x => ⟨118, setF 0 (u64A s) (setF 1 (colsA c) (setF 2 (intA (N : Int)) (setF 3 (intA m) (setF 9 (rowsA (rowsM c s N)) (setF 11 (intA (x : Nat)) (fun _ => .any)))))), Hp, [], [], none⟩) (fun x => x ≤ (rowsM c s N).length) (fun x => (rowsM c s N).length - x) (0) (by simp) (StLe.refl _) rfl (fun x hx => ?_)
          refine W.seq ?_
          refine AW.seqR ?_
          refine R.move ?_
          refine R.move ?_
          refine R.len Tryd.underlying26 ?_
          refine R.lss ?_
          refine R.fin [0, 1, 2, 3, 9, 11, 58] ?_
          refine W.cond (fun ht58 => ?_) (fun ht58 => ?_)
          · skip
            have hlt : x < (rowsM c s N).length := by simpa using ht58
            have hlN := rowsM_len c s N
            refine AW.skip ?_
            refine K.thN ?_
            refine W.seq ?_
            refine AW.block ?_
            refine W.draw [0, 1, 3, 7, 7, 31, 63, 127, 7, 7, 519, 1799, 3847, 7943, 16383, 32767, 65535, 131071, 131071, 524287, 1048575, 2097151, 4194303, 8388607, 16777215, 33554431, 33554431, 33554431, 234881023, 503316479, 1040187391, 2147483647, 4294967295, 8589934591] 31 Trydmixed (by kernel_rfl) ?_
            refine D.move ?_
            refine D.gtr ?_
            refine D.move ?_
            refine H.move ?_
            refine H.move ?_
            refine H.indexAddr (x) (rowA (rowsM c s N)[x]) Tryd.underlying26 Tryd.sizeOf34 (fun _ => getMap hlt) ?_
            refine H.fieldAddrRo (off := 0) Tryd.underlying34 Tryd.sizeOf2 ?_
            refine H.loadRo Tryd.isAgg2 ?_
            refine H.move ?_
            refine H.move ?_
            refine H.sub64 ?_
            refine H.indexAddr (x - 1) (rowA ((rowsM c s N)[x - 1]'(by omega))) Tryd.underlying26 Tryd.sizeOf34 (fun hB => getMap (by omega)) (hn := fun hB => by simp at hB; omega) ?_
            refine H.fieldAddrRo (off := 0) Tryd.underlying34 Tryd.sizeOf2 ?_
            refine H.loadRo Tryd.isAgg2 ?_
            refine H.leq ?_
            refine D.pickAnd ?_
            refine D.move ?_
            refine H.move ?_
            refine H.move ?_
            refine H.indexAddr (x) (rowA (rowsM c s N)[x]) Tryd.underlying26 Tryd.sizeOf34 (fun _ => getMap hlt) ?_
            refine H.fieldAddrRo (off := 0) Tryd.underlying34 Tryd.sizeOf2 ?_
            refine H.loadRo Tryd.isAgg2 ?_
            refine H.lss ?_
            refine D.pickOr ?_
            refine D.move ?_
            refine H.move ?_
            refine H.move ?_
            refine H.move ?_
            refine H.indexAddr (x) (rowA (rowsM c s N)[x]) Tryd.underlying26 Tryd.sizeOf34 (fun _ => getMap hlt) ?_
            refine H.fieldAddrRo (off := 1) Tryd.underlying34 Tryd.sizeOf32 ?_
            refine H.loadRo Tryd.isAgg32 ?_
            refine D.tail ?_
            refine G.call Tryd.call11 (fun hB => c11 c hc (rowsM c s N)[x].l _) ?_
            refine G.not ?_
            refine R.pickOr ?_
            refine R.fin [0, 1, 2, 3, 9, 11, 94] ?_
            refine W.cond (fun ht94 => ?_) (fun ht94 => ?_)
            · skip
              exfalso
              exact bad94 hcm hlt (by omega) ht94
            · skip
              refine AW.skip ?_
              refine K.blN ?_
              refine K.thN ?_
              refine AW.region ?_
              refine R.move ?_
              refine R.add64 ?_
              refine R.assign ?_
              refine R.fin [0, 1, 2, 3, 9, 11] ?_
              exact K.lpN (x + 1) hlt (by omega) (StCut.of_eq rfl)
          · skip
            refine AW.exit ?_
            refine K.thE ?_
            refine K.lpE ?_
            refine K.thN ?_
            refine AW.seqR ?_
            refine R.move ?_
            refine R.iconv Tryd.underlying3 Tryd.underlying36 ?_
            refine R.move ?_
            refine R.add64 ?_
            refine R.iconv Tryd.underlying3 Tryd.underlying36 ?_
            refine R.rem (h0 := wrap_ne (by omega) (by omega)) ?_
            refine R.iconv Tryd.underlying36 Tryd.underlying3 ?_
            obtain ⟨k0, hK1, hK2⟩ := k_of m N hN2
            rw [hK2]
            refine R.assign ?_
            refine R.fin [0, 1, 9, 12] ?_
            refine AW.seqR ?_
            refine R.move ?_
            refine R.move ?_
            refine R.move ?_
            refine R.call Tryd.call7 (c7 s c hc (k0 : Int) _) ?_
            rw [rowsOut_eq c s k0 hr (by omega)]
            refine R.move ?_
            refine R.extract ?_
            refine R.extract ?_
            refine R.assign ?_
            refine R.assign ?_
            refine R.fin [9, 12, 13, 14] ?_
            refine AW.seqR ?_
            refine R.move ?_
            refine R.eql ?_
            refine R.move ?_
            refine G.move ?_
            refine G.move ?_
            refine G.move ?_
            refine G.cutH k0 Tryd.underlying26 Tryd.sizeOf34 (fun _ => Nat.zero_le _) (fun _ => by rw [List.length_map, rowsM_len]; exact hK1) ?_
            rw [← List.map_take, rowsM_take c s hK1]
            refine G.call Tryd.call9 (fun hB => c9 (rowsM c s k0) (rowsM c s k0) (ok_rows c s k0 (by omega) hc.len) _) ?_
            refine R.pickAnd ?_
            refine R.assign ?_
            refine R.fin [8] ?_
            refine AW.ret ?_
            exact K.fin (V.one V.tmp) ⟨by simp, rfl⟩

end Go.SX.Nb
namespace Go.SX
variable [GI : GlobInv]
open Classical Go.RowKit Go.ChangeShapes
section
variable {P : Program} {H : Type} {enc : TypeId × Value → H}

/-- The first ghost: whatever lies there is read for good. -/
noncomputable def G0 (W : World) : Gh := ⟨fun b o => if (W.cell? ⟨b, o, none⟩).isSome then .fix else .free, fun _ => 0, 0⟩
theorem G0_fix {W : World} {b o : Nat} {u : Value} (h : W.cell? ⟨b, o, none⟩ = some u) : (G0 W).tag b o = .fix := by simp [G0, h]
theorem G0_virgin {W : World} {b : Nat} (h : b < W.heap.size) : Virgin (G0 W) W b := ⟨h, fun o => by simp only [G0]; split <;> simp, fun i hi => absurd hi (Nat.not_lt_zero _)⟩
theorem G0_heap (W : World) : HeapRel (G0 W) [] W := ⟨fun i x h => by simp at h, rfl, fun i j hi => absurd hi (Nat.not_lt_zero _)⟩
theorem G0_tags {W : World} (h : ∀ x ∈ GI.cells, ∃ v, W.cell? ⟨x.1, x.2.1, none⟩ = some v ∧ x.2.2 v) : TagOK (G0 W) W := by
  refine ⟨fun b o hb => ?_, fun b o i hb => ?_, fun b o L hb => ?_, fun x hx => ?_⟩
  · simp only [G0] at hb
    split at hb
    · rename_i hs; exact Option.isSome_iff_exists.1 hs
    · exact absurd rfl hb
  · simp only [G0] at hb; split at hb <;> cases hb
  · simp only [G0] at hb; split at hb <;> cases hb
  · obtain ⟨v, h1, h2⟩ := h x hx
    exact ⟨G0_fix h1, v, h1, h2⟩

/-- What a datum of a plain type reads as. -/
inductive DRep (P : Program) : TypeId → DataW H → AV → Prop
  | int {t : TypeId} {k : IntKind} {n : Int} (hu : P.underlying t = some (.int k)) (wf : (Lit.int k n).wf = true) : DRep P t (.lit (.int k n)) (.v (.int k n))
  | bool {t : TypeId} {b : Bool} (hu : P.underlying t = some .bool) : DRep P t (.lit (.bool b)) (.v (.bool b))
  | str {t : TypeId} {bs : List UInt8} (hu : P.underlying t = some .string) : DRep P t (.lit (.string bs)) (.v (sv bs))
  | nil {t e : TypeId} (hu : P.underlying t = some (.slice e)) : DRep P t .nil (.slice false (P.cellsOf e) [])
  | slice {t e : TypeId} {elems spare : List (DataW H)} {ys : List AV} (hu : P.underlying t = some (.slice e)) (hn : ys.length = elems.length)
      (h : ∀ (i : Nat) (d : DataW H) (y : AV), elems[i]? = some d → ys[i]? = some y → DRep P e d y) : DRep P t (.slice elems spare) (.slice false (P.cellsOf e) ys)
  | struct {t : TypeId} {fs : Array Field} {parts : List (DataW H)} {ys : List AV} (hu : P.underlying t = some (.struct fs)) (hn : parts.length = fs.size) (hn' : ys.length = fs.size)
      (h : ∀ (i : Nat) (f : Field) (d : DataW H) (y : AV), fs[i]? = some f → parts[i]? = some d → ys[i]? = some y → DRep P f.type d y) : DRep P t (.agg parts) (.agg (ys.flatMap AV.cells))

/-- Types that are made of numbers, texts, bools, slices and structs alone. -/
structure PlainT (P : Program) (T : TypeId → Prop) : Prop where
  look : ∀ t, T t → (P.cellsOf t = 1 ∧ ((∃ k, P.underlying t = some (.int k)) ∨ P.underlying t = some .bool ∨ P.underlying t = some .string ∨ (∃ e, P.underlying t = some (.slice e) ∧ T e ∧ 0 < P.cellsOf e))) ∨
    (∃ fs, P.underlying t = some (.struct fs) ∧ (∀ f ∈ fs.toList, T f.type) ∧ P.cellsOf t = (fs.toList.map fun f => P.cellsOf f.type).sum ∧
      ∀ (j : Nat) (f : Field), fs.toList[j]? = some f → f.offset = ((fs.toList.take j).map fun f => P.cellsOf f.type).sum)

/-- The reading of a row of cells. -/
def CRep (W : World) (y : AV) (cs : List Value) : Prop :=
  y.cells.length = cs.length ∧ (∀ c ∈ y.cells, c.one = true) ∧ ∀ (j : Nat) (c : AV) (v : Value), y.cells[j]? = some c → cs[j]? = some v → Rep (G0 W) W none c v

theorem CRep.v1 {W : World} {x : Value} (h : x.oneCell' = true) : CRep W (.v x) [x] :=
  ⟨rfl, by simp [AV.cells, AV.one, h], fun j c v h1 h2 => by
    match j with
    | 0 => simp [AV.cells] at h1 h2; subst h1; subst h2; exact .v _ _
    | j + 1 => simp [AV.cells] at h1⟩

theorem flat_get {f : AV → List AV} : ∀ (ys : List AV) (j : Nat) (c : AV), (ys.flatMap f)[j]? = some c → ∃ (i : Nat) (y : AV) (q : Nat), ys[i]? = some y ∧ (f y)[q]? = some c ∧ j = ((ys.take i).map fun y => (f y).length).sum + q
  | [], j, c, h => by simp at h
  | y :: r, j, c, h => by
    rw [List.flatMap_cons] at h
    rcases Nat.lt_or_ge j (f y).length with h' | h'
    · rw [List.getElem?_append_left h'] at h
      exact ⟨0, y, j, rfl, h, by simp⟩
    · rw [List.getElem?_append_right h'] at h
      obtain ⟨i, z, q, h1, h2, h3⟩ := flat_get r _ c h
      exact ⟨i + 1, z, q, h1, h2, by simp only [List.take_succ_cons, List.map_cons, List.sum_cons]; omega⟩
theorem choose_list {α : Type} {R : Nat → α → Prop} : ∀ (n : Nat), (∀ i, i < n → ∃ y, R i y) → ∃ ys : List α, ys.length = n ∧ ∀ (i : Nat) (y : α), ys[i]? = some y → R i y
  | 0, _ => ⟨[], rfl, fun i y h => by simp at h⟩
  | n + 1, h => by
    obtain ⟨ys, h1, h2⟩ := choose_list n (fun i hi => h i (by omega))
    obtain ⟨y, hy⟩ := h n (by omega)
    refine ⟨ys ++ [y], by simp [h1], fun i z hz => ?_⟩
    rcases Nat.lt_or_ge i n with h' | h'
    · rw [List.getElem?_append_left (by omega)] at hz; exact h2 i z hz
    · rw [List.getElem?_append_right (by omega)] at hz
      have : i = n := by
        have := (List.getElem?_eq_some_iff.1 hz).1
        simp at this; omega
      subst this
      rw [h1] at hz
      simp at hz
      exact hz ▸ hy
theorem map_sum_eq {α β : Type} {f : α → Nat} {g : β → Nat} : ∀ (l : List α) (m : List β), l.length = m.length → (∀ (i : Nat) (a : α) (b : β), l[i]? = some a → m[i]? = some b → f a = g b) → (l.map f).sum = (m.map g).sum
  | [], [], _, _ => rfl
  | [], b :: m, h, _ => by simp at h
  | a :: l, [], h, _ => by simp at h
  | a :: l, b :: m, h, hh => by
    simp only [List.map_cons, List.sum_cons]
    rw [hh 0 a b rfl rfl, map_sum_eq l m (by simpa using h) (fun i a b h1 h2 => hh (i + 1) a b h1 h2)]

theorem trod_rep {T : TypeId → Prop} (PT : PlainT P T) {W : World} : ∀ (n : Nat) (t : TypeId) (cs : List Value) (x : DataW H × List MemPlace), T t → DataW.trod enc P W 0 (fun _ => true) true n t cs = some x →
    ∃ y, DRep P t x.1 y ∧ CRep W y cs ∧ cs.length = P.cellsOf t := by
  intro n
  induction n with
  | zero => intro t cs x _ h; simp [DataW.trod] at h
  | succ n ih =>
    intro t cs x hT h
    rcases PT.look t hT with ⟨hc1, ⟨k, hu⟩ | hu | hu | ⟨e, hu, he, hz⟩⟩ | ⟨fs, hu, hf, hsum, hoff⟩
    · obtain ⟨m, rfl, rfl, hw⟩ := DataW.trod_int hu h
      exact ⟨_, .int hu hw, .v1 rfl, hc1.symm⟩
    · obtain ⟨b, rfl, rfl⟩ := DataW.trod_bool hu h
      exact ⟨_, .bool hu, .v1 rfl, hc1.symm⟩
    · obtain ⟨s, rfl, rfl, _⟩ := DataW.trod_string hu h
      exact ⟨_, .str hu, .v1 rfl, hc1.symm⟩
    · rcases DataW.trod_slice hu h with ⟨rfl, rfl⟩ | ⟨a, len, cap, elems, rest, m, hm, rfl, rfl, hb, hlc, hcm, hel, hE, _, _⟩
      · refine ⟨_, .nil hu, ⟨rfl, by simp [AV.cells, AV.one], fun j c v h1 h2 => ?_⟩, hc1.symm⟩
        match j with
        | 0 => simp [AV.cells] at h1 h2; subst h1; subst h2; exact .slice0 _ _ _
        | j + 1 => simp [AV.cells] at h1
      · injection hm with hm
        subst hm
        subst hel
        have hEi : ∀ i, i < elems.length → ∃ y, (∀ d, elems[i]? = some d → DRep P e d.1 y) ∧ ∃ ci, W.cells? 0 (a.add (i * P.cellsOf e)) (P.cellsOf e) = some ci ∧ CRep W y ci := fun i hi => by
          have h1 := hE i hi
          rw [List.getElem?_eq_getElem hi, Option.bind_eq_some_iff] at h1
          obtain ⟨ci, h2, h3⟩ := h1
          obtain ⟨y, h4, h5, _⟩ := ih e ci _ he h3
          exact ⟨y, fun d hd => by rw [List.getElem?_eq_getElem hi] at hd; injection hd with hd; subst hd; exact h4, ci, h2, h5⟩
        obtain ⟨ys, hyl, hys⟩ := choose_list elems.length hEi
        refine ⟨.slice false (P.cellsOf e) ys, .slice hu (by simp [hyl]) (fun i d y hd hy => ?_), ⟨rfl, by simp [AV.cells, AV.one], fun j c v h1 h2 => ?_⟩, hc1.symm⟩
        · rw [List.getElem?_map, Option.map_eq_some_iff] at hd
          obtain ⟨d', hd', rfl⟩ := hd
          exact (hys i y hy).1 d' hd'
        · match j with
          | j + 1 => simp [AV.cells] at h1
          | 0 =>
            simp [AV.cells] at h1 h2
            subst h1; subst h2
            by_cases h0 : elems.length = 0
            · have : ys = [] := List.eq_nil_of_length_eq_zero (by omega)
              subst this
              rw [h0]
              exact .sliceE _ _ _ _
            · have hspot : a.spot = none := by
                obtain ⟨ci, hci, _⟩ := (hys 0 ys[0] (List.getElem?_eq_getElem (by omega))).2
                obtain ⟨_, g1, g2⟩ := World.cells?_some hci
                have g3 := g2 0 hz
                rw [List.getElem?_eq_getElem (by omega)] at g3
                simp only [Nat.zero_mul, Addr.add, if_true] at g3
                unfold World.cell? at g3
                split at g3
                · split at g3
                  · cases g3
                  · rename_i hs; simpa using hs
                · cases g3
              refine .slice _ false _ ys a _ cap (fun i j => (W.cell? ⟨a.block, a.off + i * P.cellsOf e + j, none⟩).getD undef) hspot hyl.symm hlc (fun x hx => ?_) (fun x hx => ?_) (fun i x j y hx hy => ?_) (fun i x j y hx hy => ?_) (fun h => by cases h)
              · obtain ⟨i, hi⟩ := List.getElem?_of_mem hx
                obtain ⟨ci, hci, hcr⟩ := (hys i x hi).2
                rw [hcr.1]
                exact (World.cells?_some hci).2.1
              · obtain ⟨i, hi⟩ := List.getElem?_of_mem hx
                obtain ⟨ci, hci, hcr⟩ := (hys i x hi).2
                exact hcr.2.1
              · obtain ⟨ci, hci, hcr⟩ := (hys i x hx).2
                obtain ⟨_, g1, g2⟩ := World.cells?_some hci
                have hj : j < P.cellsOf e := by
                  have := (List.getElem?_eq_some_iff.1 hy).1
                  rw [hcr.1] at this; omega
                have g3 := g2 j hj
                rw [List.getElem?_eq_getElem (by omega), add_of_none hspot, add_of_none rfl] at g3
                exact ⟨G0_fix g3, by rw [g3]; rfl⟩
              · obtain ⟨ci, hci, hcr⟩ := (hys i x hx).2
                obtain ⟨_, g1, g2⟩ := World.cells?_some hci
                have hj : j < P.cellsOf e := by
                  have := (List.getElem?_eq_some_iff.1 hy).1
                  rw [hcr.1] at this; omega
                have g3 := g2 j hj
                rw [List.getElem?_eq_getElem (by omega), add_of_none hspot, add_of_none rfl] at g3
                simp only at g3
                rw [g3]
                exact hcr.2.2 j y _ hy (List.getElem?_eq_getElem (by omega))
    · obtain ⟨xs, m, hm, rfl, hcl, hxl, hX⟩ := DataW.trod_struct hu h
      injection hm with hm
      subst hm
      have hXi : ∀ i, i < fs.size → ∃ y, ∀ (f : Field), fs[i]? = some f → (∀ d, xs[i]? = some d → DRep P f.type d.1 y) ∧ CRep W y ((cs.drop f.offset).take (P.cellsOf f.type)) ∧ y.cells.length = P.cellsOf f.type := fun i hi => by
        have h1 := hX i fs[i] (Array.getElem?_eq_getElem hi)
        rw [List.getElem?_eq_getElem (by omega)] at h1
        obtain ⟨y, h2, h3, h4⟩ := ih _ _ _ (hf _ (by simp)) h1
        refine ⟨y, fun f hf' => ?_⟩
        rw [Array.getElem?_eq_getElem hi] at hf'
        injection hf' with hf'
        subst hf'
        exact ⟨fun d hd => by rw [List.getElem?_eq_getElem (by omega)] at hd; injection hd with hd; subst hd; exact h2, h3, by rw [h3.1, h4]⟩
      obtain ⟨ys, hyl, hys⟩ := choose_list fs.size hXi
      have hlenI : ∀ (i : Nat), ((ys.take i).map fun y => y.cells.length).sum = ((fs.toList.take i).map fun f => P.cellsOf f.type).sum := fun i => by
        refine map_sum_eq _ _ (by simp [hyl]) (fun j y f h1 h2 => ?_)
        rw [List.getElem?_take] at h1 h2
        split at h1
        · rename_i hj
          rw [if_pos hj] at h2
          exact (hys j y h1 f (by simpa using h2)).2.2
        · cases h1
      have htot : (ys.flatMap AV.cells).length = cs.length := by
        rw [List.length_flatMap, hcl, hsum]
        refine map_sum_eq _ _ (by simp [hyl]) (fun j y f h1 h2 => (hys j y h1 f (by simpa using h2)).2.2)
      refine ⟨.agg (ys.flatMap AV.cells), .struct hu (by simp [hxl]) hyl (fun i f d y hf' hd hy => ?_), ⟨htot, fun c hc => ?_, fun j c v h1 h2 => ?_⟩, hcl⟩
      · rw [List.getElem?_map, Option.map_eq_some_iff] at hd
        obtain ⟨d', hd', rfl⟩ := hd
        exact (hys i y hy f hf').1 d' hd'
      · obtain ⟨y, hy, hcy⟩ := List.mem_flatMap.1 hc
        obtain ⟨i, hi⟩ := List.getElem?_of_mem hy
        have hlt : i < fs.size := by rw [← hyl]; exact (List.getElem?_eq_some_iff.1 hi).1
        exact ((hys i y hi fs[i] (Array.getElem?_eq_getElem hlt)).2.1).2.1 c hcy
      · obtain ⟨i, y, q, g1, g2, rfl⟩ := flat_get ys j c h1
        have hlt : i < fs.size := by rw [← hyl]; exact (List.getElem?_eq_some_iff.1 g1).1
        obtain ⟨_, k2, k3⟩ := hys i y g1 fs[i] (Array.getElem?_eq_getElem hlt)
        have hq : q < P.cellsOf (fs[i]).type := by have := (List.getElem?_eq_some_iff.1 g2).1; omega
        refine k2.2.2 q c v g2 ?_
        rw [List.getElem?_take, if_pos hq, List.getElem?_drop, hoff i fs[i] (by simp [hlt]), ← hlenI i]
        exact h2

/-- A measure of data. -/
structure Bulk (B : DataW H → Nat) : Prop where
  str : ∀ bs, bs.length ≤ B (.lit (.string bs))
  slice : ∀ elems spare, elems.length ≤ B (.slice elems spare) ∧ ∀ d ∈ elems, B d ≤ B (.slice elems spare)
  agg : ∀ parts, ∀ d ∈ parts, B d ≤ B (.agg parts)
theorem DRep.int' {t : TypeId} {k : IntKind} {d : DataW H} {y : AV} (hu : P.underlying t = some (.int k)) (h : DRep P t d y) : ∃ n, d = .lit (.int k n) ∧ y = .v (.int k n) ∧ k.min ≤ n ∧ n ≤ k.max := by
  cases h with
  | int hu' wf => rw [hu] at hu'; injection hu' with e; injection e with e; subst e; exact ⟨_, rfl, rfl, by simpa [Lit.wf] using wf⟩
  | _ hu' => rw [hu] at hu'; cases hu'
theorem DRep.bool' {t : TypeId} {d : DataW H} {y : AV} (hu : P.underlying t = some .bool) (h : DRep P t d y) : ∃ b, d = .lit (.bool b) ∧ y = .v (.bool b) := by
  cases h with
  | bool hu' => exact ⟨_, rfl, rfl⟩
  | _ hu' => rw [hu] at hu'; cases hu'
theorem DRep.str' {t : TypeId} {d : DataW H} {y : AV} (hu : P.underlying t = some .string) (h : DRep P t d y) : ∃ s, d = .lit (.string s) ∧ y = .v (sv s) := by
  cases h with
  | str hu' => exact ⟨_, rfl, rfl⟩
  | _ hu' => rw [hu] at hu'; cases hu'
theorem DRep.slice' {t e : TypeId} {d : DataW H} {y : AV} {B : DataW H → Nat} (hB : Bulk B) {α : Type} (A : α → AV) (R : α → Prop) {b : Nat} (hu : P.underlying t = some (.slice e)) (h : DRep P t d y) (hb : B d ≤ b)
    (hE : ∀ d y, B d ≤ b → DRep P e d y → ∃ x, y = A x ∧ R x) : ∃ l : List α, y = .slice false (P.cellsOf e) (l.map A) ∧ l.length ≤ b ∧ ∀ x ∈ l, R x := by
  cases h with
  | nil hu' => rw [hu] at hu'; injection hu' with e'; injection e' with e'; subst e'; exact ⟨[], rfl, Nat.zero_le _, fun x hx => by cases hx⟩
  | slice hu' hn hh =>
    rw [hu] at hu'; injection hu' with e'; injection e' with e'; subst e'
    rename_i elems spare ys
    obtain ⟨h1, h2⟩ := hB.slice elems spare
    have key : ∀ (ys : List AV) (es : List (DataW H)), ys.length = es.length → (∀ d ∈ es, B d ≤ b) → (∀ (i : Nat) (d : DataW H) (y : AV), es[i]? = some d → ys[i]? = some y → DRep P e d y) → ∃ l : List α, ys = l.map A ∧ ∀ x ∈ l, R x := by
      intro ys
      induction ys with
      | nil => exact fun es _ _ _ => ⟨[], rfl, fun x hx => by cases hx⟩
      | cons y ys ih =>
        intro es hl hb2 hr
        cases es with
        | nil => simp at hl
        | cons d es =>
          obtain ⟨x, rfl, hx⟩ := hE d y (hb2 d (by simp)) (hr 0 d y rfl rfl)
          obtain ⟨l, rfl, hR⟩ := ih es (by simpa using hl) (fun d hd => hb2 d (by simp [hd])) (fun i d y a c => hr (i + 1) d y a c)
          exact ⟨x :: l, rfl, fun z hz => by
            rcases List.mem_cons.1 hz with rfl | hz
            · exact hx
            · exact hR z hz⟩
    obtain ⟨l, rfl, hR⟩ := key ys elems hn (fun d hd => Nat.le_trans (h2 d hd) hb) hh
    exact ⟨l, rfl, by simp at hn; omega, hR⟩
  | _ hu' => rw [hu] at hu'; cases hu'
theorem DRep.struct' {t : TypeId} {fs : Array Field} {d : DataW H} {y : AV} {B : DataW H → Nat} (hB : Bulk B) (hu : P.underlying t = some (.struct fs)) (h : DRep P t d y) :
    ∃ ys : List AV, ys.length = fs.size ∧ y = .agg (ys.flatMap AV.cells) ∧ ∀ (i : Nat) (f : Field) (z : AV), fs[i]? = some f → ys[i]? = some z → ∃ d', B d' ≤ B d ∧ DRep P f.type d' z := by
  cases h with
  | struct hu' hn hn' hh =>
    rw [hu] at hu'; injection hu' with e'; injection e' with e'; subst e'
    rename_i parts ys
    refine ⟨ys, hn', rfl, fun i f z h1 h2 => ?_⟩
    have hlt : i < parts.length := by rw [hn]; exact (Array.getElem?_eq_some_iff.1 h1).1
    exact ⟨parts[i], hB.agg parts _ (List.getElem_mem hlt), hh i f parts[i] z h1 (List.getElem?_eq_getElem hlt) h2⟩
  | _ hu' => rw [hu] at hu'; cases hu'

/-- An argument's reading. -/
theorem arg_rep {T : TypeId → Prop} (PT : PlainT P T) {W : World} {t : TypeId} {v : Value} {d : DataW H} {ps : List MemPlace} {b0 : Nat} (hT : T t) (hok : Value.okWide P W .any b0 t v) (h : DataW.Trod enc P W 0 (fun _ => true) true t v d ps) :
    ∃ y, DRep P t d y ∧ Rep (G0 W) W none y v := by
  obtain ⟨n, hn⟩ := h
  obtain ⟨y, h1, h2, h3⟩ := trod_rep PT n t _ _ hT hn
  refine ⟨y, h1, ?_⟩
  rcases PT.look t hT with ⟨hc1, hone⟩ | ⟨fs, hu, _⟩
  · have hva : ∀ cs, v ≠ .agg cs := fun cs e => by
      subst e
      rcases hone with ⟨k, hu⟩ | hu | hu | ⟨e, hu, he, hz⟩ <;> simp [Value.okWide, hu, Cell.okWide, Cell.ok] at hok
    have hvc : v.cells = #[v] := by cases v <;> first | rfl | exact absurd rfl (hva _)
    have hyc : y.cells = [y] := by
      cases h1 with
      | struct hu => rcases hone with ⟨k, hu'⟩ | hu' | hu' | ⟨e, hu', he, hz⟩ <;> rw [hu] at hu' <;> cases hu'
      | _ => rfl
    have := h2.2.2 0 y v (by rw [hyc]; rfl) (by rw [hvc]; rfl)
    exact this
  · obtain ⟨cs, rfl, hsz, _⟩ : ∃ cs, v = .agg cs ∧ cs.size = P.cellsOf t ∧ Row.okWide P W .any b0 t cs := by
      simp only [Value.okWide, hu] at hok
      exact hok
    cases h1 with
    | struct hu' hn1 hn2 hh =>
      refine .agg _ _ _ (by have := h2.1; simp only [AV.cells, Value.cells, Array.length_toList] at this; exact this.symm) h2.2.1 (fun i c u a b => h2.2.2 i c u a (by simpa [Value.cells] using b))
    | int hu' => rw [hu] at hu'; cases hu'
    | bool hu' => rw [hu] at hu'; cases hu'
    | str hu' => rw [hu] at hu'; cases hu'
    | nil hu' => rw [hu] at hu'; cases hu'
    | slice hu' => rw [hu] at hu'; cases hu'

def DReps (P : Program) : List TypeId → List (DataW H) → List AV → Prop
  | [], [], [] => True
  | t :: ts, d :: ds, y :: ys => DRep P t d y ∧ DReps P ts ds ys
  | _, _, _ => False

theorem DReps.cons' {t : TypeId} {ts : List TypeId} {ds : List (DataW H)} {ys : List AV} (h : DReps P (t :: ts) ds ys) : ∃ d ds' y ys', ds = d :: ds' ∧ ys = y :: ys' ∧ DRep P t d y ∧ DReps P ts ds' ys' := by
  match ds, ys, h with
  | d :: ds', y :: ys', ⟨h1, h2⟩ => exact ⟨d, ds', y, ys', rfl, rfl, h1, h2⟩
  | [], _, h => simp [DReps] at h
  | _ :: _, [], h => simp [DReps] at h
theorem DReps.nil' {ds : List (DataW H)} {ys : List AV} (h : DReps P [] ds ys) : ds = [] ∧ ys = [] := by
  match ds, ys, h with
  | [], [], _ => exact ⟨rfl, rfl⟩
  | [], _ :: _, h => simp [DReps] at h
  | _ :: _, _, h => simp [DReps] at h
theorem args_rep0 {T : TypeId → Prop} (PT : PlainT P T) {W : World} {b0 : Nat} : ∀ (ts : List TypeId) (vs : List Value) (ds : List (DataW H)) (ps : List MemPlace), (∀ t ∈ ts, T t) →
    (∀ (j : Nat) t v, ts[j]? = some t → vs[j]? = some v → Value.okWide P W .any b0 t v) → DataW.TrodAll enc P W 0 (fun _ => true) true ts vs ds ps →
    ∃ ys, DReps P ts ds ys ∧ ys.length = vs.length ∧ ∀ (i : Nat) (y : AV) (u : Value), ys[i]? = some y → vs[i]? = some u → Rep (G0 W) W none y u
  | [], [], [], _, _, _, _ => ⟨[], trivial, rfl, fun i y u h => by simp at h⟩
  | t :: ts, v :: vs, d :: ds, ps, hT, hok, ⟨p, q, h1, h2, _⟩ => by
    obtain ⟨y, k1, k2⟩ := arg_rep PT (hT t (by simp)) (hok 0 t v rfl rfl) h1
    obtain ⟨ys, k3, k4, k5⟩ := args_rep0 PT ts vs ds q (fun t ht => hT t (by simp [ht])) (fun j t v a b => hok (j + 1) t v a b) h2
    refine ⟨y :: ys, ⟨k1, k3⟩, by simp [k4], fun i z u a b => ?_⟩
    match i with
    | 0 => simp at a b; subst a; subst b; exact k2
    | i + 1 => exact k5 i z u a b
  | [], _ :: _, _, _, _, _, h => by simp [DataW.TrodAll] at h
  | [], [], _ :: _, _, _, _, h => by simp [DataW.TrodAll] at h
  | _ :: _, [], _, _, _, _, h => by simp [DataW.TrodAll] at h
  | _ :: _, _ :: _, [], _, _, _, h => by simp [DataW.TrodAll] at h

theorem trodAll_len {W : World} {sp : Nat → Bool} {hd : Bool} : ∀ {ts : List TypeId} {vs : List Value} {ds : List (DataW H)} {ps : List MemPlace}, DataW.TrodAll enc P W 0 sp hd ts vs ds ps → ds.length = ts.length
  | [], [], [], _, _ => rfl
  | _ :: _, _ :: _, _ :: _, _, ⟨_, _, _, h, _⟩ => by rw [List.length_cons, List.length_cons, trodAll_len h]
  | [], _ :: _, _, _, h => by simp [DataW.TrodAll] at h
  | [], [], _ :: _, _, h => by simp [DataW.TrodAll] at h
  | _ :: _, [], _, _, h => by simp [DataW.TrodAll] at h
  | _ :: _, _ :: _, [], _, h => by simp [DataW.TrodAll] at h
theorem trodAll_carry' {W W' : World} {sp : Nat → Bool} : ∀ {ts : List TypeId} {vs : List Value} {ds : List (DataW H)} {ps : List MemPlace}, DataW.TrodAll enc P W 0 sp true ts vs ds ps → (∀ p ∈ ps, W.sameAt W' p) → DataW.TrodAll enc P W' 0 sp true ts vs ds ps
  | [], [], [], _, h, _ => h
  | _ :: _, _ :: _, _ :: _, _, ⟨p, q, ⟨n, hn⟩, h2, e⟩, hs => ⟨p, q, ⟨n, DataW.trod_carry n _ _ _ hn (fun x hx => hs x (by rw [e]; exact List.mem_append_left _ hx))⟩, trodAll_carry' h2 (fun x hx => hs x (by rw [e]; exact List.mem_append_right _ hx)), e⟩
  | [], _ :: _, _, _, h, _ => by simp [DataW.TrodAll] at h
  | [], [], _ :: _, _, h, _ => by simp [DataW.TrodAll] at h
  | _ :: _, [], _, _, h, _ => by simp [DataW.TrodAll] at h
  | _ :: _, _ :: _, [], _, h, _ => by simp [DataW.TrodAll] at h

/-- **A law that answers true, for whatever can be read.** -/
theorem card_true {f : FuncId} {fn : Func} {s : ChangeSpec} {T : TypeId → Prop} {tb : TypeId} {W : World} {base : Nat} {args : Array Value} {ds gs : List (DataW H)} {before : List MemPlace} (K : Kids P (· < P.types.size)) (hz : ∀ t e, t < P.types.size → P.underlying t = some (.slice e) → 0 < P.cellsOf e)
    (PT : PlainT P T) (hT : ∀ t ∈ fn.params.toList, T t ∧ t < P.types.size) (hb : P.underlying tb = some .bool) (hres : fn.resultTypes = #[tb]) (hvars : s.vars = [])
    (hspec : ∀ ds : List (DataW H), ds.length = fn.params.size → s.fn H ds = { results := [.lit (.bool true)], args := ds })
    (hval : ∀ (j : Nat) t v, fn.params[j]? = some t → args[j]? = some v → Value.okWide P W .any base t v) (hW : DataW.Whole enc P fn.params.toList s.vars false W args.toList ds gs before)
    (hglob : ∀ x ∈ GI.cells, ∃ v, W.cell? ⟨x.1, x.2.1, none⟩ = some v ∧ x.2.2 v)
    (main : ∀ ys : List AV, DReps P fn.params.toList ds ys → AFun P f ys [] (.v (.bool true))) :
    Calls P f args W (fun e W' => ∃ v, e = .returned v ∧ s.post enc P fn false true false false W args v W') := by
  have hW0 := hW
  obtain ⟨p, q, hA, hV, hpq, hfz, hnd⟩ := hW
  rw [hvars] at hV
  obtain ⟨rfl, rfl⟩ := trodVars_none hV
  rw [List.append_nil] at hpq
  subst hpq
  obtain ⟨ys, h1, h2, h3⟩ := args_rep0 PT _ _ _ _ (fun t ht => (hT t ht).1) (fun j t v a b => hval j t v (by simpa using a) (by simpa using b)) hA
  have hlen := trodAll_len hA
  have hc := main ys h1 0 (G0 W) W args (by simpa using h2.symm) (fun i y u a b => (h3 i y u a (by simpa using b)).lift) (G0_heap W) (G0_tags hglob)
  refine (callsIn_wide.1 hc).mono ?_
  rintro e W' ⟨v, G', r, H', rfl, hr, hH, hTg, hk, hl, rfl, rfl⟩
  have hv := rep_v hr
  subst hv
  refine ⟨_, rfl, ds, [], before, [], before, [], hW0, ?_, ?_, ?_, ?_, fun h => by cases h⟩
  · rw [hres, List.append_nil, hspec ds (by simpa using hlen)]
    exact trodAll_cons_mk (p := []) (shut_bool hb true) trodAll_mk0
  · rw [List.append_nil, hspec ds (by simpa using hlen)]
    refine trodAll_carry' (DataW.TrodAll.respare K hz (fun t ht => (hT t ht).2) hA (fun p hp => by simpa using hW0.lt p hp)) (fun p hp => ?_)
    have hlt := hW0.lt p hp
    have hb := (hk.old _ (G0_virgin hlt)).1
    cases p with
    | cell b o => exact cell_of_blk hb
    | map b => exact hb
  · rw [hvars, List.append_nil, hspec ds (by simpa using hlen)]
    rfl
  · refine ⟨hk.os, hk.output, fun i hi => ?_⟩
    have hb := (hk.old i (G0_virgin hi)).1
    rw [hb]
    cases ho : W.heap[i]? with
    | none => simp
    | some o => cases o <;> simp
end
end Go.SX
namespace Go.Proofs.YtefgfjedonchdaaDoor
open Go Go.SX Go.SX.Nb Go.ChangeShapes Go.RowKit
set_option maxRecDepth 100000

theorem own : ownKnob Tryd.prog.godebug = none := by kernel_rfl
theorem kids : Kids Tryd.prog (· < Tryd.prog.types.size) := kids_rows (by kernel_rfl) (by kernel_rfl)
theorem full : ∀ t e, t < Tryd.prog.types.size → Tryd.prog.underlying t = some (.slice e) → 0 < Tryd.prog.cellsOf e := slices_full_of Tryd.prog (by kernel_rfl)

theorem bulk_one {H : Type} : ∀ d : DataW H, 1 ≤ Rows.uptoBulk d
  | .lit (.string b) => by rw [Rows.uptoBulk]; omega
  | .lit (.bool _) => by simp [Rows.uptoBulk]
  | .lit (.int _ _) => by simp [Rows.uptoBulk]
  | .lit (.float _ _) => by simp [Rows.uptoBulk]
  | .lit .nil => by simp [Rows.uptoBulk]
  | .nil => by simp [Rows.uptoBulk]
  | .ptr d => by rw [Rows.uptoBulk]; omega
  | .slice a b => by rw [Rows.uptoBulk]; omega
  | .agg a => by rw [Rows.uptoBulk]; omega
  | .iface _ d => by rw [Rows.uptoBulk]; omega
  | .map a => by rw [Rows.uptoBulk]; omega
  | .held _ => by simp [Rows.uptoBulk]
theorem bulk_all {H : Type} : ∀ l : List (DataW H), l.length ≤ Rows.uptoBulkAll l ∧ ∀ d ∈ l, Rows.uptoBulk d ≤ Rows.uptoBulkAll l
  | [] => ⟨Nat.zero_le _, fun d h => by cases h⟩
  | d :: r => by
    obtain ⟨h1, h2⟩ := bulk_all r
    have := bulk_one d
    rw [Rows.uptoBulkAll, List.length_cons]
    refine ⟨by omega, fun x hx => ?_⟩
    rcases List.mem_cons.1 hx with rfl | hx
    · omega
    · have := h2 x hx; omega
theorem bulk {H : Type} : Bulk (Rows.uptoBulk (H := H)) where
  str := fun bs => by rw [Rows.uptoBulk]; omega
  slice := fun elems spare => by
    obtain ⟨h1, h2⟩ := bulk_all elems
    rw [Rows.uptoBulk]
    exact ⟨by omega, fun d hd => by have := h2 d hd; omega⟩
  agg := fun parts d hd => by
    have := (bulk_all parts).2 d hd
    rw [Rows.uptoBulk]
    omega
theorem glob {W : World} (h : W.ShapedOpen Tryd.prog) : ∀ x ∈ GlobInv.cells, ∃ v, W.cell? ⟨x.1, x.2.1, none⟩ = some v ∧ x.2.2 v := by
  intro x hx
  have : x = (0, 0, fun v => ∃ m, v = .int .i64 m) := by simpa [GlobInv.cells, globs] using hx
  subst this
  obtain ⟨m, hm⟩ := cell_of_shapedOpen_int (g := 0) (t := 3) (zero := #[.int .i64 0]) (k := .i64) h (of_decide_eq_true (by kernel_rfl)) (by kernel_rfl) rfl (by kernel_rfl) (by kernel_rfl) Tryd.underlying3
  exact ⟨_, hm, m, rfl⟩

theorem cells49 : Tryd.prog.cellsOf 49 = 2 := by kernel_rfl
theorem plain : PlainT Tryd.prog (· ∈ [22, 23, 3, 49, 9]) := ⟨fun t ht => by
  simp only [List.mem_cons, List.mem_nil_iff, or_false] at ht
  rcases ht with rfl | rfl | rfl | rfl | rfl
  · exact .inl ⟨by kernel_rfl, .inl ⟨_, Tryd.underlying22⟩⟩
  · exact .inl ⟨by kernel_rfl, .inr (.inr (.inr ⟨_, Tryd.underlying23, by simp, by rw [cells49]; decide⟩))⟩
  · exact .inl ⟨by kernel_rfl, .inl ⟨_, Tryd.underlying3⟩⟩
  · refine .inr ⟨_, Tryd.underlying49, fun f hf => ?_, kids.struct (of_decide_eq_true (by kernel_rfl)) Tryd.underlying49 |>.2⟩
    simp only [List.mem_cons, List.mem_nil_iff, or_false] at hf
    rcases hf with rfl | rfl <;> simp
  · exact .inl ⟨by kernel_rfl, .inr (.inr (.inl Tryd.underlying9))⟩⟩
theorem col_of {H : Type} {b : Nat} (d : DataW H) (y : AV) (hb : Rows.uptoBulk d ≤ b) (h : DRep Tryd.prog 49 d y) : ∃ c : Col, y = colA c ∧ c.name.length ≤ b := by
  obtain ⟨ys, hn, rfl, hh⟩ := h.struct' bulk Tryd.underlying49
  match ys, hn with
  | [y0, y1], _ =>
    obtain ⟨d0, b0, h0⟩ := hh 0 _ y0 rfl rfl
    obtain ⟨d1, b1, h1⟩ := hh 1 _ y1 rfl rfl
    obtain ⟨s, rfl, rfl⟩ := h0.str' Tryd.underlying9
    obtain ⟨k, rfl, rfl, _⟩ := h1.int' Tryd.underlying3
    refine ⟨⟨s, k⟩, rfl, ?_⟩
    have := bulk.str (H := H) s
    show s.length ≤ b
    omega
theorem cols_of {H : Type} (d : DataW H) (y : AV) (hb : Rows.uptoBulk d ≤ 1048576) (h : DRep Tryd.prog 23 d y) : ∃ c : List Col, y = colsA c ∧ OkCols c := by
  obtain ⟨l, rfl, h1, h2⟩ := h.slice' bulk colA (fun c => c.name.length ≤ 1048576) Tryd.underlying23 hb (fun d y hd hr => col_of d y hd hr)
  exact ⟨l, by rw [cells49], ⟨h1, h2⟩⟩

theorem main {H : Type} (ds : List (DataW H)) (ys : List AV) (hb : Rows.uptoBulkAll ds ≤ 1048576) (h : DReps Tryd.prog Tryd.f3.params.toList ds ys) : AFun Tryd.prog 3 ys [] (boolA true) := by
  rw [Tryd.params3] at h
  obtain ⟨d0, ds, y0, ys, rfl, rfl, h0, h⟩ := h.cons'
  obtain ⟨d1, ds, y1, ys, rfl, rfl, h1, h⟩ := h.cons'
  obtain ⟨d2, ds, y2, ys, rfl, rfl, h2, h⟩ := h.cons'
  obtain ⟨d3, ds, y3, ys, rfl, rfl, h3, h⟩ := h.cons'
  obtain ⟨rfl, rfl⟩ := h.nil'
  have hall := (bulk_all [d0, d1, d2, d3]).2
  obtain ⟨s, rfl, rfl, _⟩ := h0.int' Tryd.underlying22
  obtain ⟨c, rfl, hc⟩ := cols_of d1 y1 (Nat.le_trans (hall d1 (by simp)) hb) h1
  obtain ⟨n, rfl, rfl, _⟩ := h2.int' Tryd.underlying3
  obtain ⟨m, rfl, rfl, _⟩ := h3.int' Tryd.underlying3
  exact c3 s c hc n m []

theorem laid_met (os : Os) : laidMet Tryd.prog Rows.loadRowsUptoRow.laid ((World.laidAll Tryd.prog os Rows.loadRowsUptoRow.laid).forCall (fun _ _ => 0) ⟨#[], #[.int .u64 0, .slice none 0 0, .int .i64 0, .int .i64 0], []⟩).memory :=
  laidMet_laidAll _ (by kernel_rfl) (by kernel_rfl)
theorem reads (os : Os) {H : Type} (enc : TypeId × Value → H) : DataW.whole enc Tryd.prog ((World.laidAll Tryd.prog os Rows.loadRowsUptoRow.laid).forCall (fun _ _ => 0) ⟨#[], #[.int .u64 0, .slice none 0 0, .int .i64 0, .int .i64 0], []⟩).memory Tryd.f3.params.toList Rows.loadRowsSpec.vars false
    #[Value.int .u64 0, .slice none 0 0, .int .i64 0, .int .i64 0].toList 8 = some ([.lit (.int .u64 0), .nil, .lit (.int .i64 0), .lit (.int .i64 0)], [], []) := by kernel_rfl
theorem witness (os : Os) {H : Type} (enc : TypeId × Value → H) : ∃ (w : World) (tape : Tape) (i : Input), w.os = os ∧ (w.forCall tape i).Shaped Tryd.prog ∧ i.vars = [] ∧ Input.okWide Tryd.prog (w.forCall tape i) .any w.heap.size 3 i ∧
      (Rows.OpenSpec.upto Rows.loadRowsSpec).preRow enc Tryd.prog Tryd.f3 Rows.loadRowsUptoRow.domain false Rows.loadRowsUptoRow.laid (w.forCall tape i).memory i.args ∧ ({ modest := false } : Assume).holds Tryd.prog (lone (Frame.enter Tryd.prog 3 i.args .normal) [] (w.forCall tape i)) := by
  refine ⟨World.laidAll Tryd.prog os Rows.loadRowsUptoRow.laid, fun _ _ => 0, ⟨#[], #[.int .u64 0, .slice none 0 0, .int .i64 0, .int .i64 0], []⟩, World.laidAll_os _ _ _, World.shaped_of_ZipB (by kernel_rfl) (by kernel_rfl), rfl, (Input.okWide_of_okWideB (by kernel_rfl)).2,
    OpenSpec.preRow_of_cond 8 (reads os enc) (by kernel_rfl) (fun k hk => by cases hk; kernel_rfl) (by kernel_rfl) ?_, ?_⟩
  · rw [MakeChecks.laidMetH_plain _ _ _ (by kernel_rfl)]
    exact laid_met os
  · simp only [Assume.holds]
    exact ⟨by simp, by simp, fun h => (by cases h), by simp, by simp⟩
theorem lifted (os : Os) (started : os.Started) (H : Type) (enc : TypeId × Value → H) (F : Stop.Interp) :
    ReturnsInHanded {} Tryd.checked os 3 .any ((Rows.OpenSpec.upto Rows.loadRowsSpec).preRow enc Tryd.prog Tryd.f3 Rows.loadRowsUptoRow.domain false Rows.loadRowsUptoRow.laid) (((Rows.OpenSpec.upto Rows.loadRowsSpec).at F).post enc Tryd.prog Tryd.f3 false true false false) := by
  refine returnsInHanded_of_row (C := Tryd.checked) (s := Rows.OpenSpec.upto Rows.loadRowsSpec) own started (by kernel_rfl) Tryd.func3 (witness os enc) ?_
  intro W base args ds gs before hval hW _ hcond _ hL hsh _
  have hb : Rows.uptoBulkAll (ds ++ gs) ≤ 1048576 := of_decide_eq_true (hcond _ rfl)
  have hgs : gs = [] := by
    obtain ⟨p, q, _, hV, _⟩ := hW
    exact (trodVars_none hV).1
  subst hgs
  rw [List.append_nil] at hb
  refine card_true (fn := Tryd.f3) (tb := 4) kids full plain (fun t ht => ?_) Tryd.underlying4 (by kernel_rfl) rfl (fun ds hd => ?_) hval hW (glob hsh) (fun ys hy => main ds ys hb hy)
  · rw [Tryd.params3] at ht
    refine ⟨?_, ?_⟩
    · have : ∀ t ∈ [22, 23, 3, 3], t ∈ [22, 23, 3, 49, 9] := by decide
      exact this t ht
    · have : ([22, 23, 3, 3].all fun t => decide (t < Tryd.prog.types.size)) = true := by kernel_rfl
      exact of_decide_eq_true (List.all_eq_true.1 this t ht)
  · have e : Tryd.f3.params.size = 4 := by rw [Tryd.params3]; rfl
    rw [e] at hd
    match ds, hd with
    | [_, _, _, _], _ => rfl
theorem said : Rows.LoadRowsUptoSaid :=
  OpenClaim.holds_of_cond 3 Tryd.f3 rfl rfl rfl rfl rfl rfl rfl ⟨rfl, rfl, rfl, rfl, rfl⟩ rfl rfl rfl rfl rfl (by kernel_rfl) Tryd.func3 (by kernel_rfl)
    (of_decide_eq_true (by kernel_rfl)) (by unfold Func.isWrapper; first | (rw [if_pos (by decide +kernel)]; kernel_rfl) | (rw [if_neg (by decide +kernel)]; exact ⟨rfl, rfl⟩))
    (fun os started H enc _ F => by rw [OpenClaim.pre_eq_preRow]; exact lifted os started H enc F)
theorem noStand (f : FuncId) (fn : Func) (hf : Tryd.pinned.checked.prog.funcNamed "needlebeam/needlebeamlaw35.LoadRows" = some f) (hfn : Tryd.pinned.checked.prog.funcs[f]? = some fn) :
    false = Tryd.pinned.checked.prog.looks [] ∧ ∀ (j : Nat) t, fn.params[j]? = some t → Tryd.pinned.checked.prog.wantsStandIn t = false := by
  obtain rfl : f = 3 := Option.some.inj ((show Tryd.prog.funcNamed "needlebeam/needlebeamlaw35.LoadRows" = some 3 by kernel_rfl).symm.trans hf) |>.symm
  obtain rfl : fn = Tryd.f3 := (Option.some.inj (Tryd.func3.symm.trans hfn)).symm
  refine ⟨by kernel_rfl, fun j t ht => ?_⟩
  rw [Tryd.params3] at ht
  have hm : t ∈ [22, 23, 3, 3] := by simpa using Array.mem_of_getElem? ht
  have hall : ([22, 23, 3, 3].all fun u => !Tryd.prog.wantsStandIn u) = true := by kernel_rfl
  exact (show Tryd.prog.wantsStandIn t = false by simpa using List.all_eq_true.1 hall t hm)
theorem load_rows_card : Rows.LoadRowsUptoCardSaid :=
  Claim7.holds_tied_plain_at .later [] _ _ _ _ said (fun _ h => by cases h) (by kernel_rfl) (fun _ h => by cases h) loadRowsUpto_row_tie rfl ⟨rfl, rfl⟩ (by kernel_rfl) rfl noStand (by kernel_rfl)
end Go.Proofs.YtefgfjedonchdaaDoor
