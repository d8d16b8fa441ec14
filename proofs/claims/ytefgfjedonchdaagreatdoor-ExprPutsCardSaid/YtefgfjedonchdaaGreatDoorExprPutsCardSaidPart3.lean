/- Texts on the way to this: ExprPuts answers true for whatever can be read: the card of the law. (part 3) -/
import Derived.Below
import Derived.Test.YtefgfjedonchdaaGreatDoorProg
import Derived.KernelRfl
import Derived.Shelf.Strconv.Itoa4
import Derived.Shelf.Strings.SplitShaped
import Derived.Shelf.Strings.SlTrimAscii
import Derived.Shelf.Strings.OnBuilder
import Derived.Shelf.Strings.Replace
import Derived.Shelf.Small.Strs
import Derived.Shelf.Strings.Prefix
import Derived.Shelf.Strconv.ErrVarParseInt
import Derived.Shelf.Strings.Cut
import Derived.Lib.SplitLaws
import Derived.LaidEql
import Derived.Stop.Asserts
import Derived.RowKitTokens
import Derived.WalkKit
import Derived.Lib.AtoiErrMem
import Derived.Lib.Strings
import Derived.BigCall
import Derived.Lib.ParseIntB
import Derived.Test.YtefgfjedonchdaaGreatDoorExprPutsCardSaidPart2
set_option linter.all false
namespace Go.SX
variable [GI : GlobInv]
open Classical Go.RowKit
section
variable {P : Program} {g : FuncId} {Hp : List AObj}

/-- What is known of package-level variables, of a world alone. -/
def GlobIn (w : World) : Prop := ∀ x ∈ GI.blocks, ∃ o, w.heap[x.1]? = some o ∧ x.2 o

theorem vals_of {G : Gh} {w : World} {xs : List Value} {vs : Array Value} (hn : vs.size = (xs.map AV.v).length) (h : ∀ (i : Nat) (y : AV) (u : Value), (xs.map AV.v)[i]? = some y → vs[i]? = some u → ∃ l, Rep G w l y u) : vs = xs.toArray := by
  apply Array.ext
  · simpa using hn
  · intro i h1 h2
    have hi : i < xs.length := by simpa using h2
    obtain ⟨l, hr⟩ := h i (.v xs[i]) vs[i] (by simp [hi]) (Array.getElem?_eq_getElem h1)
    have := rep_v hr
    simpa using this

theorem below_cell {G : Gh} {w w' : World} (hT : TagOK G w) (hb : Below w.heap.size w w') {b o : Nat} (h : G.tag b o ≠ .free) : w'.cell? ⟨b, o, none⟩ = w.cell? ⟨b, o, none⟩ ∧ w'.frozen? ⟨b, o, none⟩ = w.frozen? ⟨b, o, none⟩ := by
  obtain ⟨u, hu⟩ := hT.ex b o h
  have hlt : b < w.heap.size := World.block_lt_of_cell? _ _ hu
  have := hb.block b hlt
  exact ⟨cell_of_blk this, frozen_of_blk this⟩

theorem below_turn {G : Gh} {w w' : World} (hT : TagOK G w) (hb : Below w.heap.size w w') : Turn G w G w' :=
  ⟨fun b o h => ⟨h, (below_cell hT hb (by rw [h]; simp)).1⟩, fun _ _ _ h => h, fun _ _ _ h => h, Nat.le_refl _, fun _ _ => rfl, hb.os, hb.tape, hb.output, hb.size, Still.tags (fun b hv => hb.block b hv.1) hb.size (fun _ _ _ => .inl rfl) (fun _ hi => .inl ⟨hi, rfl⟩)⟩

theorem below_heap {G : Gh} {H : List AObj} {w w' : World} (hH : HeapRel G H w) (hT : TagOK G w) (hb : Below w.heap.size w w') : HeapRel G H w' ∧ TagOK G w' := by
  have T := below_turn hT hb
  refine ⟨⟨fun i x hx => ?_, hH.n, hH.inj⟩, ⟨fun b o h => ?_, fun b o i h => ?_, fun b o L h => ?_, hT.globKeep T.old⟩⟩
  · have hi : i < G.n := by rw [hH.n]; exact (List.getElem?_eq_some_iff.1 hx).1
    exact T.objRel hi (hb.block _ (heapRel_blt hH i hi)) (hH.obj i x hx)
  · rw [(below_cell hT hb h).1]; exact hT.ex b o h
  · rw [(below_cell hT hb (by rw [h]; simp)).2]; exact hT.obj b o i h
  · rw [(below_cell hT hb (by rw [h]; simp)).2]; exact hT.tail b o L h

/-- A function of plain values that hands back a plain value. -/
theorem AFun.lib {xs : List Value} {r : AV} {v : Value} (hr : ∀ G w, Rep G w none r v) (h : ∀ w, GlobIn w → Calls P g xs.toArray w (fun e w' => e = .returned v ∧ Below w.heap.size w w')) : AFun P g (xs.map .v) Hp r := by
  intro d G w vs hn hv hH hT
  have hvs := vals_of hn (fun i y u a b => ⟨_, hv i y u a b⟩)
  subst hvs
  refine (callsIn_wide.2 (h w (fun x hx => let ⟨_, u, a, b⟩ := hT.glob x hx; ⟨u, a, b⟩))).mono ?_
  rintro e w' ⟨rfl, hb⟩
  obtain ⟨h1, h2⟩ := below_heap hH hT hb
  exact ⟨v, G, r, Hp, rfl, (hr G w').lift, h1, h2, (below_turn hT hb).keep _, rfl, rfl, rfl⟩


/-- A function of plain values that hands back a new slice of plain values. -/
theorem AFun.libSlice {xs ys : List Value} {t : TypeId} (hone : ∀ y ∈ ys, y.oneCell' = true) (h : ∀ w, GlobIn w → Calls P g xs.toArray w (fun e w' => e = .returned (.slice (some ⟨w.heap.size, 0, none⟩) ys.length ys.length) ∧ w' = w.alloc (.cells ys.toArray t))) :
    AFun P g (xs.map .v) Hp (.slice false 1 (ys.map .v)) := by
  intro d G w vs hn hv hH hT
  have hvs := vals_of hn (fun i y u a b => ⟨_, hv i y u a b⟩)
  subst hvs
  refine (callsIn_wide.2 (h w (fun x hx => let ⟨_, u, a, b⟩ := hT.glob x hx; ⟨u, a, b⟩))).mono ?_
  rintro e w' ⟨rfl, rfl⟩
  have hst : StRel 0 G ⟨0, fun _ => .any, Hp, [], [], none⟩ { tmps := #[], defers := [] } w :=
    ⟨rfl, fun s => .any _ _, by simpa using hH, rfl, (fun o ho => by simp at ho), List.nodup_nil, (fun o ho => by simp at ho), hT, (fun l hl => by cases hl), objs_low hH⟩
  obtain ⟨G', g1, T, g2⟩ := alloc_fix hst t ys.toArray
  refine ⟨_, G', _, Hp, rfl, ?_, by simpa using g1.heap, g1.tags, T.keep _, rfl, rfl, rfl⟩
  refine .slice _ false 1 _ _ _ _ (fun i j => ys.toArray.getD i undef) rfl (by simp) (Nat.le_refl _) (fun x hx => ?_) (fun x hx y hy => ?_) (fun i x j y hx hy => ?_) (fun i x j y hx hy => ?_) (fun h => by cases h)
  · obtain ⟨z, _, rfl⟩ := List.mem_map.1 hx
    rfl
  · obtain ⟨z, hz, rfl⟩ := List.mem_map.1 hx
    have : y = .v z := by simpa [AV.cells] using hy
    subst this
    exact hone z hz
  all_goals
    rw [List.getElem?_map, Option.map_eq_some_iff] at hx
    obtain ⟨z, hz, rfl⟩ := hx
    have hlt : i < ys.length := (List.getElem?_eq_some_iff.1 hz).1
    have hj : j = 0 := by
      match j, hy with
      | 0, _ => rfl
      | j + 1, hy => simp [AV.cells] at hy
    subst hj
  · refine ⟨by simpa using g2 i (by simpa using hlt), ?_⟩
    rw [World.cell?_alloc_new]
    simp [hlt]
  · have : y = .v z := by simpa [AV.cells] using hy.symm
    subst this
    have e : ys.toArray.getD i undef = z := by
      have := List.getElem?_eq_getElem hlt
      rw [this] at hz
      injection hz with hz
      simp [hlt, hz]
    rw [e]
    exact .v _ _
/-- A function that hands back a plain value and, behind an interface value, a new record of plain values. -/
theorem AFun.libErr {xs cs : List Value} {n : Value} {T te : TypeId} (hone : ∀ y ∈ cs, y.oneCell' = true) (h : ∀ w, GlobIn w → Calls P g xs.toArray w (fun e w' => ∃ N, e = .returned (.tuple #[n, .iface T (.pointer (some ⟨N, 0, none⟩))]) ∧ w.heap.size ≤ N ∧ w'.heap[N]? = some (.cells cs.toArray te (0, 0)) ∧ Below w.heap.size w w')) :
    AFun P g (xs.map .v) Hp (.tup [.v n, .iface T (.ro (cs.map .v))]) := by
  intro d G w vs hn hv hH hT
  have hvs := vals_of hn (fun i y u a b => ⟨_, hv i y u a b⟩)
  subst hvs
  refine (callsIn_wide.2 (h w (fun x hx => let ⟨_, u, a, b⟩ := hT.glob x hx; ⟨u, a, b⟩))).mono ?_
  rintro e w' ⟨N, rfl, hN, hcell, hb⟩
  have hfree : ∀ o, G.tag N o = .free := fun o => tag_free_new hT _ o hN
  let G' : Gh := { G with tag := fun b o => if b = N ∧ o < cs.length then .fix else G.tag b o }
  have hne : ∀ b o, G.tag b o ≠ .free → ¬ (b = N ∧ o < cs.length) := fun b o hb hc => by rw [hc.1] at hb; exact hb (hfree o)
  have hnew : ∀ o, o < cs.length → w'.cell? ⟨N, o, none⟩ = cs[o]? := fun o ho => by simp [World.cell?, hcell, ho]
  have T1 : Turn G w G' w' := by
    refine ⟨fun b o h => ⟨?_, (below_cell hT hb (by rw [h]; simp)).1⟩, fun b o L h => ?_, fun b o i h => ?_, Nat.le_refl _, fun _ _ => rfl, hb.os, hb.tape, hb.output, hb.size,
      Still.tags (fun b hv => hb.block b hv.1) hb.size (fun b o hlt => .inl ?_) (fun _ hi => .inl ⟨hi, rfl⟩)⟩
    · simp only [G']; rw [if_neg (hne b o (by rw [h]; simp))]; exact h
    · simp only [G']; rw [if_neg (hne b o (by rw [h]; simp))]; exact h
    · simp only [G']; rw [if_neg (hne b o (by rw [h]; simp))]; exact h
    · simp only [G']; rw [if_neg (by omega)]
  have hH' : HeapRel G' Hp w' := ⟨fun i x hx => by
    have hi : i < G.n := by rw [hH.n]; exact (List.getElem?_eq_some_iff.1 hx).1
    exact T1.objRel hi (hb.block _ (heapRel_blt hH i hi)) (hH.obj i x hx), hH.n, hH.inj⟩
  have hT' : TagOK G' w' := by
    refine ⟨fun b o h => ?_, fun b o i h => ?_, fun b o L h => ?_, hT.globKeep T1.old⟩
    · simp only [G'] at h
      split at h
      · rename_i hc; obtain ⟨rfl, ho⟩ := hc; exact ⟨_, (hnew o ho).trans (List.getElem?_eq_getElem ho)⟩
      · rw [(below_cell hT hb h).1]; exact hT.ex b o h
    · simp only [G'] at h
      split at h
      · cases h
      · rw [(below_cell hT hb (by rw [h]; simp)).2]; exact hT.obj b o i h
    · simp only [G'] at h
      split at h
      · cases h
      · rw [(below_cell hT hb (by rw [h]; simp)).2]; exact hT.tail b o L h
  refine ⟨_, G', _, Hp, rfl, ?_, hH', hT', T1.keep _, rfl, rfl, rfl⟩
  refine .tup _ _ _ rfl (fun i y u hy hu => ?_)
  match i with
  | 0 => simp at hy hu; subst hy; subst hu; exact .v _ _
  | 1 =>
    simp at hy hu; subst hy; subst hu
    refine .iface _ _ _ _ (.ro _ _ ⟨N, 0, none⟩ (fun j => cs.getD j undef) rfl (fun y hy => ?_) (fun j y hy => ?_) (fun j y hy => ?_))
    · obtain ⟨z, hz, rfl⟩ := List.mem_map.1 hy
      exact hone z hz
    all_goals
      rw [List.getElem?_map, Option.map_eq_some_iff] at hy
      obtain ⟨z, hz, rfl⟩ := hy
      have hlt : j < cs.length := (List.getElem?_eq_some_iff.1 hz).1
      have e : cs.getD j undef = z := by rw [List.getD_eq_getElem?_getD, hz]; rfl
    · refine ⟨by simp [G', hlt], ?_⟩
      rw [Nat.zero_add, hnew j hlt, hz, e]
    · rw [e]; exact .v _ _
  | i + 2 => simp at hy
theorem TagOK.globIn {G : Gh} {w : World} (h : TagOK G w) : GlobIn w := fun x hx => (h.glob x hx).2
/-- A package-level variable of which something is known. -/
theorem R.loadGlob {d : Nat} {ops : Array Oper} {rest : List Oper} {sz : Nat} {fr : Nat → AV} {up own : List AObj} {dfs : List Nat} {rnd : Option Nat} {Q : St → Prop} {s : Nat} {ty : TypeId} {pos : String} {aft : Array Edge} {t : TypeId} {gl : Nat} {v : Value}
    (hagg : ∀ w, (isAgg t).run P w = .ok false w) (hv : ∀ w, GlobIn w → w.cell? ⟨gl, 0, none⟩ = some v) (hr : ARun P d ops rest ⟨sz, setF s (.v v) fr, up, own, dfs, rnd⟩ Q) (hs : Nat.blt s sz = true := by rfl) :
    ARun P d ops (⟨some s, .load t (.global gl), ty, pos, aft, none⟩ :: rest) ⟨sz, fr, up, own, dfs, rnd⟩ Q := by
  refine ARun.v rfl rfl (by simpa using hs) (OpV.pure (by intro c h; cases h) fun G a w h => ⟨v, ?_, .v _ _⟩) hr
  have hc := hv w h.tags.globIn
  have e : a.eval (.global gl) = .pointer (some ⟨gl, 0, none⟩) := rfl
  simp [execOp, e, Instr.loadAt, Instr.sureAddr, loadVar, hagg, hc]
end
end Go.SX
namespace Go.SX.Nb
open Go Go.SX Go.Proofs
set_option maxRecDepth 4000

/-- Where strconv.ErrRange points. -/
class ErrAt where
  b : Addr
/-- The package-level variables of which something is known: bytealg.MaxLen is a number; strconv.ErrRange is an error of errors.New's make; the table of powers of ten. -/
def globs [E : ErrAt] : List (Nat × (Obj → Prop)) := [(0, fun o => ∃ m t f, o = .cells #[.int .i64 m] t f), (3, fun o => ∃ t f, o = .cells #[.iface 287 (.pointer (some E.b))] t f), (5, fun o => ∃ t f, o = .cells (Lib.pow10Tab.map fun z => Value.int .u64 z).toArray t f)]
instance globInv [ErrAt] : GlobInv := ⟨globs⟩
variable [ErrAt]

abbrev Str := List UInt8
structure Col where
  name : Str
  kind : Int
  deriving DecidableEq
structure Val where
  kind : Int
  n : Int
  s : Str
  deriving DecidableEq
structure Row where
  key : Int
  l : List Val
  deriving DecidableEq
abbrev strA (s : Str) : AV := .v (sv s)
abbrev intA (n : Int) : AV := .v (.int .i64 n)
abbrev u64A (n : Int) : AV := .v (.int .u64 n)
abbrev boolA (b : Bool) : AV := .v (.bool b)
abbrev colA (c : Col) : AV := .agg [.v (sv c.name), .v (.int .i64 c.kind)]
abbrev colsA (c : List Col) : AV := .slice false 2 (c.map colA)
abbrev valA (v : Val) : AV := .agg [.v (.int .i64 v.kind), .v (.int .i64 v.n), .v (sv v.s)]
abbrev valsA (l : List Val) : AV := .slice false 3 (l.map valA)
abbrev rowA (r : Row) : AV := .agg [.v (.int .i64 r.key), .slice false 3 (r.l.map valA)]
abbrev rowsA (l : List Row) : AV := .slice false 2 (l.map rowA)
abbrev strsA (l : List Str) : AV := .slice false 1 (l.map strA)
theorem getMap {α β : Type} {f : α → β} {l : List α} {i : Nat} (h : i < l.length) : (l.map f)[i]? = some (f l[i]) := by simp [h]
theorem Tryzmixed : Tryz.prog.follows .mixedOrders = true := by kernel_rfl
theorem eg36 : Tryz.prog.eqGuardType Tryz.prog.depth 36 = false := by kernel_rfl
theorem equal36 (k n k' n' : Int) (s s' : List UInt8) (w : World) : (Op.equal 36 (.agg #[.int .i64 k, .int .i64 n, .string ⟨s.toArray⟩]) (.agg #[.int .i64 k', .int .i64 n', .string ⟨s'.toArray⟩])).run Tryz.prog w = .ok (k == k' && n == n' && s == s') w := by
  have h1 : Tryz.prog.stoodInHeld 36 = false := by kernel_rfl
  show (Op.equalIn (9999 + 1) _ _ _).run _ _ = _
  rw [Op.equalIn]
  generalize hd : (9999 : Nat) = d
  obtain ⟨d, rfl⟩ : ∃ e, d = e + 1 := ⟨9998, hd.symm⟩
  clear hd
  simp [run_underlying Tryz.underlying36, h1, part, eqInt _ _ _ _ _ _ Tryz.underlying3, eqInt _ _ _ _ _ _ Tryz.underlying2, eqStr _ _ _ _ _ Tryz.underlying9, Tryz.isAgg3, Tryz.isAgg2, Tryz.isAgg9]
  by_cases e1 : k = k' <;> by_cases e2 : n = n' <;> by_cases e3 : s = s' <;> simp [e1, e2, e3]
end Go.SX.Nb
namespace Go.Proofs
open Go Go.Shelf
def Tryz.ren144 : Ren where
  f := fun x => match x with | 144 => 67 | 143 => 106 | 219 => 142 | 217 => 166 | 225 => 167 | 224 => 168 | 267 => 169 | 266 => 193 | 314 => 194 | n => n
  t := fun x => match x with | 9 => 9 | 4 => 4 | 3 => 3 | 5 => 5 | 46 => 32 | 146 => 217 | 51 => 216 | n => n
  g := fun x => match x with | 1 => 0 | n => n
theorem Tryz.lays144 : Lays.n144 Tryz.prog Tryz.ren144 where
  mixed := by kernel_rfl
  f143 := Tryz.func106
  f144 := Tryz.func67
  f217 := Tryz.func166
  f219 := Tryz.func142
  f224 := Tryz.func168
  f225 := Tryz.func167
  f266 := Tryz.func193
  f267 := Tryz.func169
  f314 := Tryz.func194
  t3 := Tryz.underlying3
  a3 := Tryz.isAgg3
  z3 := Tryz.sizeOf3
  v3 := Tryz.zeroValue3
  t4 := Tryz.underlying4
  a4 := Tryz.isAgg4
  z4 := Tryz.sizeOf4
  v4 := Tryz.zeroValue4
  t5 := Tryz.underlying5
  a5 := Tryz.isAgg5
  z5 := Tryz.sizeOf5
  v5 := Tryz.zeroValue5
  t9 := Tryz.underlying9
  a9 := Tryz.isAgg9
  z9 := Tryz.sizeOf9
  v9 := Tryz.zeroValue9
  t46 := Tryz.underlying32
  a46 := Tryz.isAgg32
  z46 := Tryz.sizeOf32
  v46 := Tryz.zeroValue32
  t51 := Tryz.underlying216
  a51 := Tryz.isAgg216
  z51 := Tryz.sizeOf216
  v51 := Tryz.zeroValue216
  t146 := Tryz.underlying217
  a146 := Tryz.isAgg217
  z146 := Tryz.sizeOf217
  v146 := Tryz.zeroValue217
  g1 := by kernel_rfl
def Tryz.ren145 : Ren where
  f := fun x => match x with | 145 => 94 | 220 => 129 | 219 => 142 | 217 => 166 | 225 => 167 | 224 => 168 | 267 => 169 | 266 => 193 | 314 => 194 | n => n
  t := fun x => match x with | 9 => 9 | 4 => 4 | 59 => 132 | 3 => 3 | 5 => 5 | 46 => 32 | 146 => 217 | 51 => 216 | n => n
  g := fun x => match x with | 1 => 0 | n => n
theorem Tryz.lays145 : Lays.n145 Tryz.prog Tryz.ren145 where
  mixed := by kernel_rfl
  f145 := Tryz.func94
  f217 := Tryz.func166
  f219 := Tryz.func142
  f220 := Tryz.func129
  f224 := Tryz.func168
  f225 := Tryz.func167
  f266 := Tryz.func193
  f267 := Tryz.func169
  f314 := Tryz.func194
  t3 := Tryz.underlying3
  a3 := Tryz.isAgg3
  z3 := Tryz.sizeOf3
  v3 := Tryz.zeroValue3
  t4 := Tryz.underlying4
  a4 := Tryz.isAgg4
  z4 := Tryz.sizeOf4
  v4 := Tryz.zeroValue4
  t5 := Tryz.underlying5
  a5 := Tryz.isAgg5
  z5 := Tryz.sizeOf5
  v5 := Tryz.zeroValue5
  t9 := Tryz.underlying9
  a9 := Tryz.isAgg9
  z9 := Tryz.sizeOf9
  v9 := Tryz.zeroValue9
  t46 := Tryz.underlying32
  a46 := Tryz.isAgg32
  z46 := Tryz.sizeOf32
  v46 := Tryz.zeroValue32
  t51 := Tryz.underlying216
  a51 := Tryz.isAgg216
  z51 := Tryz.sizeOf216
  v51 := Tryz.zeroValue216
  t59 := Tryz.underlying132
  a59 := Tryz.isAgg132
  z59 := Tryz.sizeOf132
  v59 := Tryz.zeroValue132
  t146 := Tryz.underlying217
  a146 := Tryz.isAgg217
  z146 := Tryz.sizeOf217
  v146 := Tryz.zeroValue217
  g1 := by kernel_rfl
def Tryz.ren146 : Ren where
  f := fun x => match x with | 146 => 93 | 221 => 128 | 268 => 158 | 138 => 159 | 143 => 106 | 195 => 182 | 197 => 162 | 218 => 183 | 219 => 142 | 260 => 184 | 217 => 166 | 225 => 167 | 224 => 168 | 267 => 169 | 266 => 193 | 314 => 194 | n => n
  t := fun x => match x with | 9 => 9 | 31 => 50 | 3 => 3 | 4 => 4 | 0 => 0 | 105 => 195 | 21 => 21 | 5 => 5 | 46 => 32 | 119 => 225 | 139 => 228 | 138 => 227 | 146 => 217 | 51 => 216 | n => n
  g := fun x => match x with | 1 => 0 | 3 => 1 | 4 => 2 | n => n
theorem Tryz.lays146 : Lays.n146 Tryz.prog Tryz.ren146 where
  mixed := by kernel_rfl
  f138 := Tryz.func159
  f143 := Tryz.func106
  f146 := Tryz.func93
  f195 := Tryz.func182
  f197 := Tryz.func162
  f217 := Tryz.func166
  f218 := Tryz.func183
  f219 := Tryz.func142
  f221 := Tryz.func128
  f224 := Tryz.func168
  f225 := Tryz.func167
  f260 := Tryz.func184
  f266 := Tryz.func193
  f267 := Tryz.func169
  f268 := Tryz.func158
  f314 := Tryz.func194
  t0 := Tryz.underlying0
  a0 := Tryz.isAgg0
  z0 := Tryz.sizeOf0
  v0 := Tryz.zeroValue0
  t3 := Tryz.underlying3
  a3 := Tryz.isAgg3
  z3 := Tryz.sizeOf3
  v3 := Tryz.zeroValue3
  t4 := Tryz.underlying4
  a4 := Tryz.isAgg4
  z4 := Tryz.sizeOf4
  v4 := Tryz.zeroValue4
  t5 := Tryz.underlying5
  a5 := Tryz.isAgg5
  z5 := Tryz.sizeOf5
  v5 := Tryz.zeroValue5
  t9 := Tryz.underlying9
  a9 := Tryz.isAgg9
  z9 := Tryz.sizeOf9
  v9 := Tryz.zeroValue9
  t21 := Tryz.underlying21
  a21 := Tryz.isAgg21
  z21 := Tryz.sizeOf21
  v21 := Tryz.zeroValue21
  t31 := Tryz.underlying50
  a31 := Tryz.isAgg50
  z31 := Tryz.sizeOf50
  v31 := Tryz.zeroValue50
  t46 := Tryz.underlying32
  a46 := Tryz.isAgg32
  z46 := Tryz.sizeOf32
  v46 := Tryz.zeroValue32
  t51 := Tryz.underlying216
  a51 := Tryz.isAgg216
  z51 := Tryz.sizeOf216
  v51 := Tryz.zeroValue216
  t105 := Tryz.underlying195
  a105 := Tryz.isAgg195
  z105 := Tryz.sizeOf195
  v105 := Tryz.zeroValue195
  t119 := Tryz.underlying225
  a119 := Tryz.isAgg225
  z119 := Tryz.sizeOf225
  t138 := Tryz.underlying227
  a138 := Tryz.isAgg227
  z138 := Tryz.sizeOf227
  v138 := Tryz.zeroValue227
  t139 := Tryz.underlying228
  a139 := Tryz.isAgg228
  z139 := Tryz.sizeOf228
  v139 := Tryz.zeroValue228
  t146 := Tryz.underlying217
  a146 := Tryz.isAgg217
  z146 := Tryz.sizeOf217
  v146 := Tryz.zeroValue217
  g1 := by kernel_rfl
  g3 := by kernel_rfl
  g4 := by kernel_rfl
def Tryz.ren161 : Ren where
  f := fun x => match x with | 161 => 102 | 231 => 134 | 227 => 135 | 233 => 136 | 235 => 137 | 228 => 161 | 197 => 162 | 151 => 163 | 260 => 184 | 152 => 185 | 137 => 165 | 119 => 207 | 224 => 168 | 225 => 167 | 217 => 166 | 266 => 193 | n => n
  t := fun x => match x with | 9 => 9 | 4 => 4 | 3 => 3 | 5 => 5 | 117 => 170 | 116 => 169 | 0 => 0 | 124 => 173 | 105 => 195 | 21 => 21 | 119 => 225 | 46 => 32 | 139 => 228 | 138 => 227 | n => n
  g := fun x => match x with | 3 => 1 | 4 => 2 | n => n
theorem Tryz.lays161 : Lays.n161 Tryz.prog Tryz.ren161 where
  mixed := by kernel_rfl
  f119 := Tryz.func207
  f137 := Tryz.func165
  f151 := Tryz.func163
  f152 := Tryz.func185
  f161 := Tryz.func102
  f197 := Tryz.func162
  f217 := Tryz.func166
  f224 := Tryz.func168
  f225 := Tryz.func167
  f227 := Tryz.func135
  f228 := Tryz.func161
  f231 := Tryz.func134
  f233 := Tryz.func136
  f235 := Tryz.func137
  f260 := Tryz.func184
  f266 := Tryz.func193
  t0 := Tryz.underlying0
  a0 := Tryz.isAgg0
  z0 := Tryz.sizeOf0
  v0 := Tryz.zeroValue0
  t3 := Tryz.underlying3
  a3 := Tryz.isAgg3
  z3 := Tryz.sizeOf3
  v3 := Tryz.zeroValue3
  t4 := Tryz.underlying4
  a4 := Tryz.isAgg4
  z4 := Tryz.sizeOf4
  v4 := Tryz.zeroValue4
  t5 := Tryz.underlying5
  a5 := Tryz.isAgg5
  z5 := Tryz.sizeOf5
  v5 := Tryz.zeroValue5
  t9 := Tryz.underlying9
  a9 := Tryz.isAgg9
  z9 := Tryz.sizeOf9
  v9 := Tryz.zeroValue9
  t21 := Tryz.underlying21
  a21 := Tryz.isAgg21
  z21 := Tryz.sizeOf21
  v21 := Tryz.zeroValue21
  t46 := Tryz.underlying32
  a46 := Tryz.isAgg32
  z46 := Tryz.sizeOf32
  v46 := Tryz.zeroValue32
  t105 := Tryz.underlying195
  a105 := Tryz.isAgg195
  z105 := Tryz.sizeOf195
  v105 := Tryz.zeroValue195
  t116 := Tryz.underlying169
  a116 := Tryz.isAgg169
  z116 := Tryz.sizeOf169
  t117 := Tryz.underlying170
  a117 := Tryz.isAgg170
  z117 := Tryz.sizeOf170
  v117 := Tryz.zeroValue170
  t119 := Tryz.underlying225
  a119 := Tryz.isAgg225
  z119 := Tryz.sizeOf225
  t124 := Tryz.underlying173
  a124 := Tryz.isAgg173
  z124 := Tryz.sizeOf173
  v124 := Tryz.zeroValue173
  t138 := Tryz.underlying227
  a138 := Tryz.isAgg227
  z138 := Tryz.sizeOf227
  v138 := Tryz.zeroValue227
  t139 := Tryz.underlying228
  a139 := Tryz.isAgg228
  z139 := Tryz.sizeOf228
  v139 := Tryz.zeroValue228
  g3 := by kernel_rfl
  g4 := by kernel_rfl
def Tryz.ren99 : Ren where
  f := fun x => match x with | 99 => 188 | 206 => 208 | n => n
  t := fun x => match x with | 9 => 9 | 4 => 4 | 3 => 3 | n => n
  g := fun x => x
theorem Tryz.lays99 : Lays.n99 Tryz.prog Tryz.ren99 where
  mixed := by kernel_rfl
  f99 := Tryz.func188
  f206 := Tryz.func208
  t3 := Tryz.underlying3
  a3 := Tryz.isAgg3
  z3 := Tryz.sizeOf3
  v3 := Tryz.zeroValue3
  t4 := Tryz.underlying4
  a4 := Tryz.isAgg4
  z4 := Tryz.sizeOf4
  v4 := Tryz.zeroValue4
  t9 := Tryz.underlying9
  a9 := Tryz.isAgg9
  z9 := Tryz.sizeOf9
  v9 := Tryz.zeroValue9
def Tryz.ren100 : Ren where
  f := fun x => match x with | 100 => 189 | 207 => 209 | n => n
  t := fun x => match x with | 9 => 9 | 4 => 4 | 3 => 3 | n => n
  g := fun x => x
theorem Tryz.lays100 : Lays.n100 Tryz.prog Tryz.ren100 where
  mixed := by kernel_rfl
  f100 := Tryz.func189
  f207 := Tryz.func209
  t3 := Tryz.underlying3
  a3 := Tryz.isAgg3
  z3 := Tryz.sizeOf3
  v3 := Tryz.zeroValue3
  t4 := Tryz.underlying4
  a4 := Tryz.isAgg4
  z4 := Tryz.sizeOf4
  v4 := Tryz.zeroValue4
  t9 := Tryz.underlying9
  a9 := Tryz.isAgg9
  z9 := Tryz.sizeOf9
  v9 := Tryz.zeroValue9
def Tryz.ren101 : Ren where
  f := fun x => match x with | 101 => 211 | 208 => 228 | 206 => 208 | n => n
  t := fun x => match x with | 9 => 9 | 4 => 4 | 3 => 3 | n => n
  g := fun x => x
theorem Tryz.lays101 : Lays.n101 Tryz.prog Tryz.ren101 where
  mixed := by kernel_rfl
  f101 := Tryz.func211
  f206 := Tryz.func208
  f208 := Tryz.func228
  t3 := Tryz.underlying3
  a3 := Tryz.isAgg3
  z3 := Tryz.sizeOf3
  v3 := Tryz.zeroValue3
  t4 := Tryz.underlying4
  a4 := Tryz.isAgg4
  z4 := Tryz.sizeOf4
  v4 := Tryz.zeroValue4
  t9 := Tryz.underlying9
  a9 := Tryz.isAgg9
  z9 := Tryz.sizeOf9
  v9 := Tryz.zeroValue9
def Tryz.ren160 : Ren where
  f := fun x => match x with | 160 => 212 | 232 => 229 | 231 => 134 | 227 => 135 | 234 => 230 | 233 => 136 | 236 => 231 | 235 => 137 | 228 => 161 | 271 => 247 | 151 => 163 | 197 => 162 | 120 => 260 | 152 => 185 | 260 => 184 | 137 => 165 | 119 => 207 | 224 => 168 | 225 => 167 | 217 => 166 | 266 => 193 | n => n
  t := fun x => match x with | 9 => 9 | 4 => 4 | 3 => 3 | 5 => 5 | 117 => 170 | 116 => 169 | 0 => 0 | 124 => 173 | 21 => 21 | 105 => 195 | 46 => 32 | 119 => 225 | 139 => 228 | 138 => 227 | n => n
  g := fun x => match x with | 3 => 1 | 4 => 2 | n => n
theorem Tryz.lays160 : Lays.n160 Tryz.prog Tryz.ren160 where
  mixed := by kernel_rfl
  f119 := Tryz.func207
  f120 := Tryz.func260
  f137 := Tryz.func165
  f151 := Tryz.func163
  f152 := Tryz.func185
  f160 := Tryz.func212
  f197 := Tryz.func162
  f217 := Tryz.func166
  f224 := Tryz.func168
  f225 := Tryz.func167
  f227 := Tryz.func135
  f228 := Tryz.func161
  f231 := Tryz.func134
  f232 := Tryz.func229
  f233 := Tryz.func136
  f234 := Tryz.func230
  f235 := Tryz.func137
  f236 := Tryz.func231
  f260 := Tryz.func184
  f266 := Tryz.func193
  f271 := Tryz.func247
  t0 := Tryz.underlying0
  a0 := Tryz.isAgg0
  z0 := Tryz.sizeOf0
  v0 := Tryz.zeroValue0
  t3 := Tryz.underlying3
  a3 := Tryz.isAgg3
  z3 := Tryz.sizeOf3
  v3 := Tryz.zeroValue3
  t4 := Tryz.underlying4
  a4 := Tryz.isAgg4
  z4 := Tryz.sizeOf4
  v4 := Tryz.zeroValue4
  t5 := Tryz.underlying5
  a5 := Tryz.isAgg5
  z5 := Tryz.sizeOf5
  v5 := Tryz.zeroValue5
  t9 := Tryz.underlying9
  a9 := Tryz.isAgg9
  z9 := Tryz.sizeOf9
  v9 := Tryz.zeroValue9
  t21 := Tryz.underlying21
  a21 := Tryz.isAgg21
  z21 := Tryz.sizeOf21
  v21 := Tryz.zeroValue21
  t46 := Tryz.underlying32
  a46 := Tryz.isAgg32
  z46 := Tryz.sizeOf32
  v46 := Tryz.zeroValue32
  t105 := Tryz.underlying195
  a105 := Tryz.isAgg195
  z105 := Tryz.sizeOf195
  v105 := Tryz.zeroValue195
  t116 := Tryz.underlying169
  a116 := Tryz.isAgg169
  z116 := Tryz.sizeOf169
  t117 := Tryz.underlying170
  a117 := Tryz.isAgg170
  z117 := Tryz.sizeOf170
  v117 := Tryz.zeroValue170
  t119 := Tryz.underlying225
  a119 := Tryz.isAgg225
  z119 := Tryz.sizeOf225
  t124 := Tryz.underlying173
  a124 := Tryz.isAgg173
  z124 := Tryz.sizeOf173
  v124 := Tryz.zeroValue173
  t138 := Tryz.underlying227
  a138 := Tryz.isAgg227
  z138 := Tryz.sizeOf227
  v138 := Tryz.zeroValue227
  t139 := Tryz.underlying228
  a139 := Tryz.isAgg228
  z139 := Tryz.sizeOf228
  v139 := Tryz.zeroValue228
  g3 := by kernel_rfl
  g4 := by kernel_rfl
def Tryz.ren155 : Ren where
  f := fun x => match x with | 155 => 203 | 154 => 224 | 138 => 159 | 165 => 108 | 143 => 106 | 166 => 80 | 197 => 162 | 169 => 82 | 195 => 182 | 218 => 183 | 240 => 114 | 241 => 143 | 219 => 142 | 260 => 184 | 276 => 146 | 277 => 170 | 217 => 166 | 225 => 167 | 224 => 168 | 267 => 169 | 266 => 193 | 314 => 194 | n => n
  t := fun x => match x with | 9 => 9 | 3 => 3 | 4 => 4 | 72 => 110 | 0 => 0 | 76 => 113 | 105 => 195 | 21 => 21 | 5 => 5 | 70 => 108 | 20 => 20 | 37 => 95 | 75 => 112 | 127 => 153 | 164 => 176 | 46 => 32 | 119 => 225 | 139 => 228 | 138 => 227 | 146 => 217 | 51 => 216 | 80 => 118 | n => n
  g := fun x => match x with | 1 => 0 | 3 => 1 | 4 => 2 | n => n
theorem Tryz.lays155 : Lays.n155 Tryz.prog Tryz.ren155 where
  mixed := by kernel_rfl
  f138 := Tryz.func159
  f143 := Tryz.func106
  f154 := Tryz.func224
  f155 := Tryz.func203
  f165 := Tryz.func108
  f166 := Tryz.func80
  f169 := Tryz.func82
  f195 := Tryz.func182
  f197 := Tryz.func162
  f217 := Tryz.func166
  f218 := Tryz.func183
  f219 := Tryz.func142
  f224 := Tryz.func168
  f225 := Tryz.func167
  f240 := Tryz.func114
  f241 := Tryz.func143
  f260 := Tryz.func184
  f266 := Tryz.func193
  f267 := Tryz.func169
  f276 := Tryz.func146
  f277 := Tryz.func170
  f314 := Tryz.func194
  t0 := Tryz.underlying0
  a0 := Tryz.isAgg0
  z0 := Tryz.sizeOf0
  v0 := Tryz.zeroValue0
  t3 := Tryz.underlying3
  a3 := Tryz.isAgg3
  z3 := Tryz.sizeOf3
  v3 := Tryz.zeroValue3
  t4 := Tryz.underlying4
  a4 := Tryz.isAgg4
  z4 := Tryz.sizeOf4
  v4 := Tryz.zeroValue4
  t5 := Tryz.underlying5
  a5 := Tryz.isAgg5
  z5 := Tryz.sizeOf5
  v5 := Tryz.zeroValue5
  t9 := Tryz.underlying9
  a9 := Tryz.isAgg9
  z9 := Tryz.sizeOf9
  v9 := Tryz.zeroValue9
  t20 := Tryz.underlying20
  a20 := Tryz.isAgg20
  z20 := Tryz.sizeOf20
  v20 := Tryz.zeroValue20
  t21 := Tryz.underlying21
  a21 := Tryz.isAgg21
  z21 := Tryz.sizeOf21
  v21 := Tryz.zeroValue21
  t37 := Tryz.underlying95
  a37 := Tryz.isAgg95
  z37 := Tryz.sizeOf95
  v37 := Tryz.zeroValue95
  t46 := Tryz.underlying32
  a46 := Tryz.isAgg32
  z46 := Tryz.sizeOf32
  v46 := Tryz.zeroValue32
  t51 := Tryz.underlying216
  a51 := Tryz.isAgg216
  z51 := Tryz.sizeOf216
  v51 := Tryz.zeroValue216
  t70 := Tryz.underlying108
  a70 := Tryz.isAgg108
  z70 := Tryz.sizeOf108
  v70 := Tryz.zeroValue108
  t72 := Tryz.underlying110
  a72 := Tryz.isAgg110
  z72 := Tryz.sizeOf110
  v72 := Tryz.zeroValue110
  t75 := Tryz.underlying112
  a75 := Tryz.isAgg112
  z75 := Tryz.sizeOf112
  v75 := Tryz.zeroValue112
  t76 := Tryz.underlying113
  a76 := Tryz.isAgg113
  z76 := Tryz.sizeOf113
  v76 := Tryz.zeroValue113
  t105 := Tryz.underlying195
  a105 := Tryz.isAgg195
  z105 := Tryz.sizeOf195
  v105 := Tryz.zeroValue195
  t119 := Tryz.underlying225
  a119 := Tryz.isAgg225
  z119 := Tryz.sizeOf225
  t127 := Tryz.underlying153
  a127 := Tryz.isAgg153
  z127 := Tryz.sizeOf153
  v127 := Tryz.zeroValue153
  t138 := Tryz.underlying227
  a138 := Tryz.isAgg227
  z138 := Tryz.sizeOf227
  v138 := Tryz.zeroValue227
  t139 := Tryz.underlying228
  a139 := Tryz.isAgg228
  z139 := Tryz.sizeOf228
  v139 := Tryz.zeroValue228
  t146 := Tryz.underlying217
  a146 := Tryz.isAgg217
  z146 := Tryz.sizeOf217
  v146 := Tryz.zeroValue217
  t164 := Tryz.underlying176
  a164 := Tryz.isAgg176
  z164 := Tryz.sizeOf176
  v164 := Tryz.zeroValue176
  g1 := by kernel_rfl
  g3 := by kernel_rfl
  g4 := by kernel_rfl
def Tryz.ren156 : Ren where
  f := fun x => match x with | 156 => 70 | 165 => 108 | 166 => 80 | 169 => 82 | 240 => 114 | 241 => 143 | 276 => 146 | 277 => 170 | n => n
  t := fun x => match x with | 31 => 50 | 9 => 9 | 3 => 3 | 4 => 4 | 0 => 0 | 20 => 20 | 72 => 110 | 76 => 113 | 70 => 108 | 37 => 95 | 75 => 112 | 127 => 153 | 164 => 176 | 5 => 5 | 80 => 118 | n => n
  g := fun x => x
theorem Tryz.lays156 : Lays.n156 Tryz.prog Tryz.ren156 where
  mixed := by kernel_rfl
  f156 := Tryz.func70
  f165 := Tryz.func108
  f166 := Tryz.func80
  f169 := Tryz.func82
  f240 := Tryz.func114
  f241 := Tryz.func143
  f276 := Tryz.func146
  f277 := Tryz.func170
  t0 := Tryz.underlying0
  a0 := Tryz.isAgg0
  z0 := Tryz.sizeOf0
  v0 := Tryz.zeroValue0
  t3 := Tryz.underlying3
  a3 := Tryz.isAgg3
  z3 := Tryz.sizeOf3
  v3 := Tryz.zeroValue3
  t4 := Tryz.underlying4
  a4 := Tryz.isAgg4
  z4 := Tryz.sizeOf4
  v4 := Tryz.zeroValue4
  t9 := Tryz.underlying9
  a9 := Tryz.isAgg9
  z9 := Tryz.sizeOf9
  v9 := Tryz.zeroValue9
  t20 := Tryz.underlying20
  a20 := Tryz.isAgg20
  z20 := Tryz.sizeOf20
  v20 := Tryz.zeroValue20
  t31 := Tryz.underlying50
  a31 := Tryz.isAgg50
  z31 := Tryz.sizeOf50
  v31 := Tryz.zeroValue50
  t37 := Tryz.underlying95
  a37 := Tryz.isAgg95
  z37 := Tryz.sizeOf95
  v37 := Tryz.zeroValue95
  t70 := Tryz.underlying108
  a70 := Tryz.isAgg108
  z70 := Tryz.sizeOf108
  v70 := Tryz.zeroValue108
  t72 := Tryz.underlying110
  a72 := Tryz.isAgg110
  z72 := Tryz.sizeOf110
  v72 := Tryz.zeroValue110
  t75 := Tryz.underlying112
  a75 := Tryz.isAgg112
  z75 := Tryz.sizeOf112
  v75 := Tryz.zeroValue112
  t76 := Tryz.underlying113
  a76 := Tryz.isAgg113
  z76 := Tryz.sizeOf113
  v76 := Tryz.zeroValue113
  t127 := Tryz.underlying153
  a127 := Tryz.isAgg153
  z127 := Tryz.sizeOf153
  v127 := Tryz.zeroValue153
  t164 := Tryz.underlying176
  a164 := Tryz.isAgg176
  z164 := Tryz.sizeOf176
  v164 := Tryz.zeroValue176
def Tryz.ren174 : Ren where
  f := fun x => match x with | 174 => 213 | 247 => 232 | 245 => 233 | 287 => 248 | 279 => 249 | 280 => 250 | 281 => 251 | 282 => 252 | 321 => 261 | 322 => 262 | 316 => 263 | 171 => 265 | 205 => 264 | 243 => 274 | 246 => 245 | 283 => 255 | 284 => 256 | 285 => 257 | 286 => 258 | 129 => 269 | 317 => 268 | 318 => 270 | 319 => 271 | 320 => 272 | 337 => 278 | 338 => 279 | n => n
  t := fun x => match x with | 9 => 9 | 3 => 3 | 2 => 2 | 75 => 112 | 85 => 231 | 4 => 4 | 167 => 250 | 5 => 5 | 53 => 143 | 175 => 251 | 46 => 32 | 168 => 253 | 37 => 95 | 0 => 0 | 210 => 276 | 21 => 21 | 127 => 153 | 145 => 289 | 143 => 287 | 171 => 268 | 173 => 271 | 212 => 283 | 51 => 216 | 20 => 20 | 213 => 284 | 232 => 295 | 233 => 296 | 80 => 118 | n => n
  g := fun x => match x with | 15 => 4 | 16 => 3 | 17 => 5 | 18 => 6 | 19 => 7 | n => n
theorem Tryz.lays174 : LaysC.n174 Tryz.prog Tryz.ren174 where
  mixed := by kernel_rfl
  f129 := Tryz.func269
  f171 := Tryz.func265
  f174 := Tryz.func213
  f205 := Tryz.func264
  f243 := Tryz.func274
  f245 := Tryz.func233
  f246 := Tryz.func245
  f247 := Tryz.func232
  f279 := Tryz.func249
  f280 := Tryz.func250
  f281 := Tryz.func251
  f282 := Tryz.func252
  f283 := Tryz.func255
  f284 := Tryz.func256
  f285 := Tryz.func257
  f286 := Tryz.func258
  f287 := Tryz.func248
  f316 := Tryz.func263
  f317 := Tryz.func268
  f318 := Tryz.func270
  f319 := Tryz.func271
  f320 := Tryz.func272
  f321 := Tryz.func261
  f322 := Tryz.func262
  f337 := Tryz.func278
  f338 := Tryz.func279
  t0 := Tryz.underlying0
  a0 := Tryz.isAgg0
  z0 := Tryz.sizeOf0
  v0 := Tryz.zeroValue0
  t2 := Tryz.underlying2
  a2 := Tryz.isAgg2
  z2 := Tryz.sizeOf2
  v2 := Tryz.zeroValue2
  t3 := Tryz.underlying3
  a3 := Tryz.isAgg3
  z3 := Tryz.sizeOf3
  v3 := Tryz.zeroValue3
  t4 := Tryz.underlying4
  a4 := Tryz.isAgg4
  z4 := Tryz.sizeOf4
  v4 := Tryz.zeroValue4
  t5 := Tryz.underlying5
  a5 := Tryz.isAgg5
  z5 := Tryz.sizeOf5
  v5 := Tryz.zeroValue5
  t9 := Tryz.underlying9
  a9 := Tryz.isAgg9
  z9 := Tryz.sizeOf9
  v9 := Tryz.zeroValue9
  t20 := Tryz.underlying20
  a20 := Tryz.isAgg20
  z20 := Tryz.sizeOf20
  v20 := Tryz.zeroValue20
  t21 := Tryz.underlying21
  a21 := Tryz.isAgg21
  z21 := Tryz.sizeOf21
  v21 := Tryz.zeroValue21
  t37 := Tryz.underlying95
  a37 := Tryz.isAgg95
  z37 := Tryz.sizeOf95
  v37 := Tryz.zeroValue95
  t46 := Tryz.underlying32
  a46 := Tryz.isAgg32
  z46 := Tryz.sizeOf32
  v46 := Tryz.zeroValue32
  t51 := Tryz.underlying216
  a51 := Tryz.isAgg216
  z51 := Tryz.sizeOf216
  v51 := Tryz.zeroValue216
  t53 := Tryz.underlying143
  a53 := Tryz.isAgg143
  z53 := Tryz.sizeOf143
  v53 := Tryz.zeroValue143
  t75 := Tryz.underlying112
  a75 := Tryz.isAgg112
  z75 := Tryz.sizeOf112
  v75 := Tryz.zeroValue112
  t85 := Tryz.underlying231
  a85 := Tryz.isAgg231
  z85 := Tryz.sizeOf231
  v85 := Tryz.zeroValue231
  t127 := Tryz.underlying153
  a127 := Tryz.isAgg153
  z127 := Tryz.sizeOf153
  v127 := Tryz.zeroValue153
  t143 := Tryz.underlying287
  a143 := Tryz.isAgg287
  z143 := Tryz.sizeOf287
  v143 := Tryz.zeroValue287
  t145 := Tryz.underlying289
  a145 := Tryz.isAgg289
  z145 := Tryz.sizeOf289
  v145 := Tryz.zeroValue289
  t167 := Tryz.underlying250
  a167 := Tryz.isAgg250
  z167 := Tryz.sizeOf250
  v167 := Tryz.zeroValue250
  t168 := Tryz.underlying253
  a168 := Tryz.isAgg253
  z168 := Tryz.sizeOf253
  v168 := Tryz.zeroValue253
  t171 := Tryz.underlying268
  a171 := Tryz.isAgg268
  z171 := Tryz.sizeOf268
  v171 := Tryz.zeroValue268
  t173 := Tryz.underlying271
  a173 := Tryz.isAgg271
  z173 := Tryz.sizeOf271
  v173 := Tryz.zeroValue271
  t175 := Tryz.underlying251
  a175 := Tryz.isAgg251
  z175 := Tryz.sizeOf251
  v175 := Tryz.zeroValue251
  t210 := Tryz.underlying276
  a210 := Tryz.isAgg276
  z210 := Tryz.sizeOf276
  v210 := Tryz.zeroValue276
  t212 := Tryz.underlying283
  a212 := Tryz.isAgg283
  z212 := Tryz.sizeOf283
  v212 := Tryz.zeroValue283
  t213 := Tryz.underlying284
  a213 := Tryz.isAgg284
  z213 := Tryz.sizeOf284
  t232 := Tryz.underlying295
  a232 := Tryz.isAgg295
  z232 := Tryz.sizeOf295
  v232 := Tryz.zeroValue295
  t233 := Tryz.underlying296
  a233 := Tryz.isAgg296
  z233 := Tryz.sizeOf296
  v233 := Tryz.zeroValue296
  g15 := by kernel_rfl
  g16 := by kernel_rfl
  g17 := by kernel_rfl
  g18 := by kernel_rfl
  g19 := by kernel_rfl
  t80 := Tryz.underlying118
  a80 := Tryz.isAgg118
  z80 := Tryz.sizeOf118
  v80 := Tryz.zeroValue118
  i0 := by kernel_rfl
  i2 := by kernel_rfl
  i3 := by kernel_rfl
  i4 := by kernel_rfl
  i5 := by kernel_rfl
  i9 := by kernel_rfl
  i20 := by kernel_rfl
  i21 := by kernel_rfl
  i37 := by kernel_rfl
  i46 := by kernel_rfl
  i51 := by kernel_rfl
  i53 := by kernel_rfl
  i75 := by kernel_rfl
  i80 := by kernel_rfl
  i85 := by kernel_rfl
  i127 := by kernel_rfl
  i143 := by kernel_rfl
  i145 := by kernel_rfl
  i167 := by kernel_rfl
  i168 := by kernel_rfl
  i171 := by kernel_rfl
  i173 := by kernel_rfl
  i175 := by kernel_rfl
  i210 := by kernel_rfl
  i212 := by kernel_rfl
  i232 := by kernel_rfl
  i233 := by kernel_rfl
  m15 := by kernel_rfl
  m16 := by kernel_rfl
  m17 := by kernel_rfl
  m18 := by kernel_rfl
  m19 := by kernel_rfl
  c0 := by kernel_rfl
  c2 := by kernel_rfl
  c3 := by kernel_rfl
  c4 := by kernel_rfl
  c5 := by kernel_rfl
  c9 := by kernel_rfl
  c20 := by kernel_rfl
  c21 := by kernel_rfl
  c37 := by kernel_rfl
  c46 := by kernel_rfl
  c51 := by kernel_rfl
  c53 := by kernel_rfl
  c75 := by kernel_rfl
  c80 := by kernel_rfl
  c85 := by kernel_rfl
  c127 := by kernel_rfl
  c143 := by kernel_rfl
  c145 := by kernel_rfl
  c167 := by kernel_rfl
  c168 := by kernel_rfl
  c171 := by kernel_rfl
  c173 := by kernel_rfl
  c175 := by kernel_rfl
  c210 := by kernel_rfl
  c212 := by kernel_rfl
  c213 := by kernel_rfl
  c232 := by kernel_rfl
  c233 := by kernel_rfl
def Tryz.ren173 : Ren where
  f := fun x => match x with | 173 => 223 | 246 => 245 | 283 => 255 | 284 => 256 | 285 => 257 | 286 => 258 | 129 => 269 | 317 => 268 | 318 => 270 | 319 => 271 | 320 => 272 | 337 => 278 | 338 => 279 | n => n
  t := fun x => match x with | 2 => 2 | 3 => 3 | 9 => 9 | 4 => 4 | 171 => 268 | 0 => 0 | 53 => 143 | 37 => 95 | 5 => 5 | 173 => 271 | 212 => 283 | 51 => 216 | 20 => 20 | 213 => 284 | 46 => 32 | 232 => 295 | 233 => 296 | n => n
  g := fun x => match x with | 17 => 5 | 18 => 6 | 19 => 7 | n => n
theorem Tryz.lays173 : LaysM.n173 Tryz.prog Tryz.ren173 where
  mixed := by kernel_rfl
  f129 := Tryz.func269
  f173 := Tryz.func223
  f246 := Tryz.func245
  f283 := Tryz.func255
  f284 := Tryz.func256
  f285 := Tryz.func257
  f286 := Tryz.func258
  f317 := Tryz.func268
  f318 := Tryz.func270
  f319 := Tryz.func271
  f320 := Tryz.func272
  f337 := Tryz.func278
  f338 := Tryz.func279
  t0 := Tryz.underlying0
  a0 := Tryz.isAgg0
  z0 := Tryz.sizeOf0
  v0 := Tryz.zeroValue0
  t2 := Tryz.underlying2
  a2 := Tryz.isAgg2
  z2 := Tryz.sizeOf2
  v2 := Tryz.zeroValue2
  t3 := Tryz.underlying3
  a3 := Tryz.isAgg3
  z3 := Tryz.sizeOf3
  v3 := Tryz.zeroValue3
  t4 := Tryz.underlying4
  a4 := Tryz.isAgg4
  z4 := Tryz.sizeOf4
  v4 := Tryz.zeroValue4
  t5 := Tryz.underlying5
  a5 := Tryz.isAgg5
  z5 := Tryz.sizeOf5
  v5 := Tryz.zeroValue5
  t9 := Tryz.underlying9
  a9 := Tryz.isAgg9
  z9 := Tryz.sizeOf9
  v9 := Tryz.zeroValue9
  t20 := Tryz.underlying20
  a20 := Tryz.isAgg20
  z20 := Tryz.sizeOf20
  v20 := Tryz.zeroValue20
  t37 := Tryz.underlying95
  a37 := Tryz.isAgg95
  z37 := Tryz.sizeOf95
  v37 := Tryz.zeroValue95
  t46 := Tryz.underlying32
  a46 := Tryz.isAgg32
  z46 := Tryz.sizeOf32
  v46 := Tryz.zeroValue32
  t51 := Tryz.underlying216
  a51 := Tryz.isAgg216
  z51 := Tryz.sizeOf216
  v51 := Tryz.zeroValue216
  t53 := Tryz.underlying143
  a53 := Tryz.isAgg143
  z53 := Tryz.sizeOf143
  v53 := Tryz.zeroValue143
  t171 := Tryz.underlying268
  a171 := Tryz.isAgg268
  z171 := Tryz.sizeOf268
  v171 := Tryz.zeroValue268
  t173 := Tryz.underlying271
  a173 := Tryz.isAgg271
  z173 := Tryz.sizeOf271
  v173 := Tryz.zeroValue271
  t212 := Tryz.underlying283
  a212 := Tryz.isAgg283
  z212 := Tryz.sizeOf283
  v212 := Tryz.zeroValue283
  t213 := Tryz.underlying284
  a213 := Tryz.isAgg284
  z213 := Tryz.sizeOf284
  t232 := Tryz.underlying295
  a232 := Tryz.isAgg295
  z232 := Tryz.sizeOf295
  v232 := Tryz.zeroValue295
  t233 := Tryz.underlying296
  a233 := Tryz.isAgg296
  z233 := Tryz.sizeOf296
  v233 := Tryz.zeroValue296
  g17 := by kernel_rfl
  g18 := by kernel_rfl
  g19 := by kernel_rfl
  i0 := by kernel_rfl
  i2 := by kernel_rfl
  i3 := by kernel_rfl
  i4 := by kernel_rfl
  i5 := by kernel_rfl
  i9 := by kernel_rfl
  i20 := by kernel_rfl
  i37 := by kernel_rfl
  i46 := by kernel_rfl
  i51 := by kernel_rfl
  i53 := by kernel_rfl
  i171 := by kernel_rfl
  i173 := by kernel_rfl
  i212 := by kernel_rfl
  i232 := by kernel_rfl
  i233 := by kernel_rfl
  m17 := by kernel_rfl
  m18 := by kernel_rfl
  m19 := by kernel_rfl
def Tryz.ren137 : Ren where
  f := fun x => match x with | 137 => 165 | 217 => 166 | 266 => 193 | n => n
  t := fun x => match x with | 9 => 9 | 5 => 5 | 3 => 3 | n => n
  g := fun x => x
theorem Tryz.lays137 : Lays.n137 Tryz.prog Tryz.ren137 where
  mixed := by kernel_rfl
  f137 := Tryz.func165
  f217 := Tryz.func166
  f266 := Tryz.func193
  t3 := Tryz.underlying3
  a3 := Tryz.isAgg3
  z3 := Tryz.sizeOf3
  v3 := Tryz.zeroValue3
  t5 := Tryz.underlying5
  a5 := Tryz.isAgg5
  z5 := Tryz.sizeOf5
  v5 := Tryz.zeroValue5
  t9 := Tryz.underlying9
  a9 := Tryz.isAgg9
  z9 := Tryz.sizeOf9
  v9 := Tryz.zeroValue9
end Go.Proofs
namespace Go.SX.Nb
open Go Go.SX Go.Proofs Go.RowKit
variable [ErrAt]
set_option maxRecDepth 4000
theorem maxLen_of {w : World} (h : GlobIn w) : ∃ m, w.cell? ⟨0, 0, none⟩ = some (.int .i64 m) := by
  obtain ⟨_, a, m, t, f, rfl⟩ := h (0, fun o => ∃ m t f, o = .cells #[.int .i64 m] t f) (by simp [GlobInv.blocks, globs])
  exact ⟨m, by simp [World.cell?, a]⟩
theorem errRange_of {w : World} (h : GlobIn w) : w.cell? ⟨3, 0, none⟩ = some (.iface 287 (.pointer (some ErrAt.b))) := by
  obtain ⟨_, a, t, f, rfl⟩ := h (3, fun o => ∃ t f, o = .cells #[.iface 287 (.pointer (some ErrAt.b))] t f) (by simp [GlobInv.blocks, globs])
  simp [World.cell?, a]
theorem pow10_of {w : World} (h : GlobIn w) : Lib.TabIs Tryz.prog w "internal/strconv.uint64pow10" .u64 Lib.pow10Tab := by
  obtain ⟨_, a, t, f, rfl⟩ := h (5, fun o => ∃ t f, o = .cells (Lib.pow10Tab.map fun z => Value.int .u64 z).toArray t f) (by simp [GlobInv.blocks, globs])
  have hg : Tryz.prog.globalNamed "internal/strconv.uint64pow10" = some 5 := by kernel_rfl
  simp only at a
  simp [Lib.TabIs, World.var?, hg, a]
theorem drewN_below (w : World) (n : Nat) : Below w.heap.size w (w.drewN n) := ⟨rfl, rfl, rfl, Nat.le_refl _, fun _ _ => rfl⟩
theorem c67 (s t : Str) (hs : s.length < 4294967281) (Hp : List AObj) : AFun Tryz.prog 67 [strA s, strA t] Hp (boolA (Lib.contains s t)) := by
  refine AFun.lib (xs := [sv s, sv t]) (v := .bool (Lib.contains s t)) (fun G w => .v _ _) (fun w hg => ?_)
  obtain ⟨m, hm⟩ := maxLen_of hg
  refine (Any.strings_Contains Tryz.lays144 ⟨s.toArray⟩ ⟨t.toArray⟩ m w (by simpa [ByteArray.size] using hs) hm).mono ?_
  rintro e w' ⟨rfl, rfl⟩
  exact ⟨rfl, Below.refl _ _⟩
theorem c94 (s t : Str) (hs : s.length < 4294967281) (Hp : List AObj) : AFun Tryz.prog 94 [strA s, strA t] Hp (.tup [strA (Lib.cut s t).1, strA (Lib.cut s t).2.1, boolA (Lib.cut s t).2.2]) := by
  refine AFun.lib (xs := [sv s, sv t]) (v := .tuple #[sv (Lib.cut s t).1, sv (Lib.cut s t).2.1, .bool (Lib.cut s t).2.2]) (fun G w => rep_tup rfl (fun i y u hy hu => ?_)) (fun w hg => ?_)
  · match i with
    | 0 => simp at hy hu; subst hy; subst hu; exact .v _ _
    | 1 => simp at hy hu; subst hy; subst hu; exact .v _ _
    | 2 => simp at hy hu; subst hy; subst hu; exact .v _ _
    | i + 3 => simp at hy
  obtain ⟨m, hm⟩ := maxLen_of hg
  refine (Any.strings_Cut Tryz.lays145 ⟨s.toArray⟩ ⟨t.toArray⟩ m w (by simpa [ByteArray.size] using hs) hm).mono ?_
  rintro e w' ⟨rfl, n, rfl⟩
  exact ⟨rfl, drewN_below _ _⟩
theorem c102 (s t : Str) (ht : t.length < 4294967281) (ha : ∀ c ∈ t, c.toNat < 128) (Hp : List AObj) : AFun Tryz.prog 102 [strA s, strA t] Hp (strA (Lib.trimLeftS s t)) := by
  refine AFun.lib (xs := [sv s, sv t]) (v := sv (Lib.trimLeftS s t)) (fun G w => .v _ _) (fun w hg => ?_)
  refine (Any.strings_TrimLeft_laid Tryz.lays161 (by kernel_rfl) ⟨s.toArray⟩ ⟨t.toArray⟩ w (by simpa [ByteArray.size] using ht) (fun j b hj => ha b (List.mem_of_getElem? hj))).mono ?_
  rintro e w' ⟨rfl, hb⟩
  exact ⟨rfl, hb⟩
/-- The pieces of a split. -/
def splitM (s t : Str) : List Str := (Lib.splitB ⟨t.toArray⟩ 0 (Lib.countB ⟨s.toArray⟩ ⟨t.toArray⟩) ⟨s.toArray⟩).map (·.data.toList)
theorem c93 (s t : Str) (hs : s.length < 4294967281) (ht : 1 ≤ t.length) (Hp : List AObj) : AFun Tryz.prog 93 [strA s, strA t] Hp (strsA (splitM s t)) := by
  have := AFun.libSlice (P := Tryz.prog) (g := 93) (Hp := Hp) (xs := [sv s, sv t]) (ys := (splitM s t).map sv) (t := 9) (by intro y hy; obtain ⟨z, _, rfl⟩ := List.mem_map.1 hy; rfl) (fun w hg => by
    obtain ⟨m, hm⟩ := maxLen_of hg
    refine (Any.strings_Split Tryz.lays146 (by kernel_rfl) ⟨s.toArray⟩ ⟨t.toArray⟩ m w (by simpa [ByteArray.size] using hs) hm (by simpa [ByteArray.size] using ht)).mono ?_
    rintro e w' ⟨rfl, rfl⟩
    have hl : ((splitM s t).map sv).length = Lib.countB ⟨s.toArray⟩ ⟨t.toArray⟩ + 1 := by
      rw [List.length_map]
      unfold splitM
      rw [List.length_map]
      exact Lib.splitB_all _ (by simpa [ByteArray.size] using ht) _ _ _ rfl
    refine ⟨by rw [hl], ?_⟩
    unfold splitM
    rw [List.map_map]
    rfl)
  rw [List.map_map] at this
  exact this
end Go.SX.Nb
namespace Go.Proofs
open Go Go.RowKit Go.Extern.Stop Go.Stop Go.Extern
theorem Tryz.isTypeOf (v : Value) (w : World) : (Extern.ReflectliteType.typeOf #[.iface 287 v]).run Tryz.prog w = .ok (.iface 257 (.agg #[.pointer (some ⟨8, 287, none⟩)])) w := by kernel_rfl
def Tryz.cmpOf : Array Value → Sem Value := Extern.ReflectliteType.method fun t => do Extern.Rtype.noPackHeld "Comparable" t; pure (.bool (← typeInfo t).comparable)
theorem Tryz.isComparable (w : World) : (Tryz.cmpOf #[.agg #[.pointer (some ⟨8, 287, none⟩)]]).run Tryz.prog w = .ok (.bool true) w := by kernel_rfl
theorem Tryz.isMethodComparable (v : Value) (w : World) : (Go.method 429 257 v "Comparable").run Tryz.prog w = .ok (307, v) w := by kernel_rfl
theorem Tryz.isComp : (Tryz.prog.info? 287).map (·.comparable) = some true := by kernel_rfl
theorem Tryz.isSize : (Tryz.prog.info? 289).map (·.size) = some 1 := by kernel_rfl
theorem Tryz.noIsW (v : Value) (xT : TypeId) (w : World) : (Instr.typeAssert (.iface 253 v) xT 259 true).run Tryz.prog w = .ok (.tuple #[.nilIface, .bool false]) w := run_typeAssert_lacksB Tryz.underlying259 (by kernel_rfl) (by kernel_rfl) v xT w
theorem Tryz.hasUnwrapW (v : Value) (xT : TypeId) (w : World) : (Instr.typeAssert (.iface 253 v) xT 262 true).run Tryz.prog w = .ok (.tuple #[.iface 253 v, .bool true]) w := run_typeAssert_hasB Tryz.underlying262 (by kernel_rfl) v xT w
theorem Tryz.methodUnwrap (v : Value) (w : World) : (Go.method 429 253 v "Unwrap").run Tryz.prog w = .ok (303, v) w := by kernel_rfl
namespace Tryz
theorem is_nil (b : Addr) (w : World) :
    Calls Tryz.prog 214 #[.nilIface, .iface 287 (.pointer (some b))] w fun e w' => e = .returned (.bool false) ∧ w' = w := by
  have hn := run_eql_iface_nil_left (P := Tryz.prog) w 287 (.pointer (some b)) Tryz.underlying112
  go_enter Tryz.func214, Tryz.ntmps214
  go_wp2
  go_ret
  exact ⟨rfl, rfl⟩
set_option maxRecDepth 100000 in
theorem is_range (pb po : Nat) (b : Addr) (w : World) (h1 : w.cell? ⟨pb, po + 2, none⟩ = some (.iface 287 (.pointer (some b)))) :
    Calls Tryz.prog 214 #[.iface 253 (.pointer (some ⟨pb, po, none⟩)), .iface 287 (.pointer (some b))] w fun e w' => e = .returned (.bool true) ∧ w' = w := by
  obtain ⟨i, hi, hcmp⟩ := Option.map_eq_some_iff.1 Tryz.isComp
  obtain ⟨j, hj, hjs⟩ := Option.map_eq_some_iff.1 Tryz.isSize
  have h8 := @run_callFunc_extern Tryz.prog 234 _ Extern.ReflectliteType.typeOf Tryz.func234 (by kernel_rfl) (by kernel_rfl) (by kernel_rfl) (by kernel_rfl)
  have h32 := @run_callFunc_extern Tryz.prog 307 _ Tryz.cmpOf Tryz.func307 (by kernel_rfl) (by kernel_rfl) (by kernel_rfl) (by kernel_rfl)
  have tT := Tryz.isTypeOf
  have cT := Tryz.isComparable
  have mR := Tryz.isMethodComparable
  have nW := Tryz.noIsW
  have uW := Tryz.hasUnwrapW
  have mU := Tryz.methodUnwrap
  have heq := run_eql_iface_ptr_same (P := Tryz.prog) w b Tryz.underlying112 Tryz.underlying287 hi hcmp hj
  have hty := run_eql_iface_types (P := Tryz.prog) 253 287 (.pointer (some ⟨pb, po, none⟩)) (.pointer (some b)) Tryz.underlying112 (by decide) w
  go_enter Tryz.func214, Tryz.ntmps214
  go_wp2
  refine wp_loop_rounds 2 ?_
  rw [rounds_succ]
  go_wp2
  rw [rounds_succ]
  go_wp2
  go_ret
  exact ⟨rfl, rfl⟩
end Tryz
end Go.Proofs
namespace Go.SX.Nb
open Go Go.SX Go.Proofs Go.RowKit Go.Sort
variable [ErrAt]
set_option maxRecDepth 4000
theorem c188 (s t : Str) (Hp : List AObj) : AFun Tryz.prog 188 [strA s, strA t] Hp (boolA (Lib.hasPrefix s t)) := by
  refine AFun.lib (xs := [sv s, sv t]) (v := .bool (Lib.hasPrefix s t)) (fun G w => .v _ _) (fun w hg => ?_)
  refine (Any.strings_HasPrefix Tryz.lays99 ⟨s.toArray⟩ ⟨t.toArray⟩ w).mono ?_
  rintro e w' ⟨rfl, rfl⟩
  exact ⟨rfl, Below.refl _ _⟩
theorem c189 (s t : Str) (hs : s.length ≤ 9223372036854775807) (Hp : List AObj) : AFun Tryz.prog 189 [strA s, strA t] Hp (boolA (Lib.hasSuffix s t)) := by
  refine AFun.lib (xs := [sv s, sv t]) (v := .bool (Lib.hasSuffix s t)) (fun G w => .v _ _) (fun w hg => ?_)
  refine (Any.strings_HasSuffix Tryz.lays100 ⟨s.toArray⟩ ⟨t.toArray⟩ w (by simpa [ByteArray.size] using hs)).mono ?_
  rintro e w' ⟨rfl, rfl⟩
  exact ⟨rfl, Below.refl _ _⟩
theorem c165 (s : Str) (c : UInt8) (Hp : List AObj) : AFun Tryz.prog 165 [strA s, .v (.int .u8 (c.toNat : Int))] Hp (intA (Lib.indexByte s c)) := by
  refine AFun.lib (xs := [sv s, .int .u8 (c.toNat : Int)]) (v := .int .i64 (Lib.indexByte s c)) (fun G w => .v _ _) (fun w hg => ?_)
  refine (Any.strings_IndexByte Tryz.lays137 ⟨s.toArray⟩ (c.toNat : Int) w).mono ?_
  rintro e w' ⟨rfl, rfl⟩
  exact ⟨by simp, Below.refl _ _⟩
theorem xRep : Builder.Extra Tryz.prog Tryz.ren155 := { sizeBuilder := by kernel_rfl, liesBuilder := by kernel_rfl, t5 := Tryz.underlying5, a5 := Tryz.isAgg5, z5 := Tryz.sizeOf5, v5 := Tryz.zeroValue5, infoByte := by kernel_rfl, cellsByte := by kernel_rfl, sizeByte := by kernel_rfl, neB5 := by decide }
theorem xJoin : Builder.Extra Tryz.prog Tryz.ren156 := { sizeBuilder := by kernel_rfl, liesBuilder := by kernel_rfl, t5 := Tryz.underlying5, a5 := Tryz.isAgg5, z5 := Tryz.sizeOf5, v5 := Tryz.zeroValue5, infoByte := by kernel_rfl, cellsByte := by kernel_rfl, sizeByte := by kernel_rfl, neB5 := by decide }
theorem c203 (s o n : Str) (hs : s.length < 4294967281) (ho : 1 ≤ o.length) (hl : s.length + Lib.countB ⟨s.toArray⟩ ⟨o.toArray⟩ * n.length ≤ 140737488355328) (Hp : List AObj) : AFun Tryz.prog 203 [strA s, strA o, strA n] Hp (strA (Lib.replaceAll s o n)) := by
  refine AFun.lib (xs := [sv s, sv o, sv n]) (v := sv (Lib.replaceAll s o n)) (fun G w => .v _ _) (fun w hg => ?_)
  obtain ⟨m, hm⟩ := maxLen_of hg
  refine (Any.strings_ReplaceAll Tryz.lays155 xRep ⟨s.toArray⟩ ⟨o.toArray⟩ ⟨n.toArray⟩ m w (by simpa [ByteArray.size] using hs) hm (by simpa [ByteArray.size] using ho) (by simpa [ByteArray.size] using hl)).mono ?_
  rintro e w' ⟨rfl, hb⟩
  exact ⟨rfl, hb⟩
theorem grow_below (w : World) (k : Nat) (os : Array Obj) : Below w.heap.size w (grow (w.drewN k) os) := by
  refine ⟨rfl, rfl, rfl, by simp [grow], fun b hb => ?_⟩
  show ((w.drewN k).heap ++ os)[b]? = w.heap[b]?
  rw [Array.getElem?_append_left (by exact hb)]
  rfl
theorem c223 (n : Int) (h0 : -9223372036854775808 ≤ n) (h1 : n ≤ 9223372036854775807) (Hp : List AObj) : AFun Tryz.prog 223 [.v (.int .i64 n), intA 10] Hp (strA (Lib.itoa n)) := by
  refine AFun.lib (xs := [.int .i64 n, .int .i64 10]) (v := sv (Lib.itoa n)) (fun G w => .v _ _) (fun w hg => ?_)
  refine (Any.strconv_FormatInt_10 Tryz.lays173 n h0 h1 w (pow10_of hg)).mono ?_
  rintro e w' ⟨rfl, k, os, rfl⟩
  exact ⟨rfl, grow_below _ _ _⟩
end Go.SX.Nb
namespace Go.SX.Nb
open Go Go.SX Go.Proofs Go.RowKit
variable [ErrAt]
set_option maxRecDepth 4000
def digs : Str := [48, 49, 50, 51, 52, 53, 54, 55, 56, 57]
def numDs (s : Str) : Str := Lib.trimPrefix s [45]
def numBad (s : Str) : Bool := (numDs s == []) || !(Lib.trimS (numDs s) digs == []) || (((numDs s).headD 0 == 48) && decide (1 < s.length))
def numReadM (s : Str) : Int × Int := if numBad s then (0, 6) else match Lib.parseIntB 64 s with | .ok v => (v, 0) | .range => (0, 4) | _ => (0, 0)
def badN {α : Type} : Lib.NumEnd α → Bool | .ok _ => false | .range => false | _ => true
theorem dw_nil {p : UInt8 → Bool} : ∀ {l : Str}, l.dropWhile p = [] ↔ ∀ b ∈ l, p b = true
  | [] => by simp
  | b :: r => by
    rw [List.dropWhile_cons]
    by_cases h : p b = true
    · rw [if_pos h, dw_nil]
      simp [h]
    · rw [if_neg h]
      simp [h]
theorem dw_mem {p : UInt8 → Bool} : ∀ {l : Str} {b : UInt8}, b ∈ l → p b = false → b ∈ l.dropWhile p
  | x :: r, b, h, hb => by
    rw [List.dropWhile_cons]
    by_cases hx : p x = true
    · rw [if_pos hx]
      rcases List.mem_cons.1 h with rfl | h
      · rw [hb] at hx; cases hx
      · exact dw_mem h hb
    · rw [if_neg hx]; exact h
theorem trimS_nil {l cs : Str} : Lib.trimS l cs = [] ↔ ∀ b ∈ l, cs.contains b = true := by
  unfold Lib.trimS Lib.trimLeftS Lib.trimRightS
  rw [dw_nil]
  constructor
  · intro h b hb
    cases hc : cs.contains b with
    | true => rfl
    | false =>
      have := h b (List.mem_reverse.2 (dw_mem (p := (cs.contains ·)) (List.mem_reverse.2 hb) hc))
      rw [hc] at this; exact this
  · intro h b hb
    exact h b (List.mem_reverse.1 ((List.dropWhile_sublist (cs.contains ·)).subset (List.mem_reverse.1 hb)))
theorem digs_contains (c : UInt8) : digs.contains c = (decide (48 ≤ c.toNat) && decide (c.toNat ≤ 57)) := by
  have h : ((List.range 256).all fun n => digs.contains (UInt8.ofNat n) == (decide (48 ≤ (UInt8.ofNat n).toNat) && decide ((UInt8.ofNat n).toNat ≤ 57))) = true := by kernel_rfl
  have := List.all_eq_true.1 h c.toNat (List.mem_range.2 c.toNat_lt)
  simpa using this
theorem parseU_ok (M : Nat) : ∀ (l : Str) (acc : Nat), (∀ b ∈ l, digs.contains b = true) → badN (Lib.parseUintM M acc l) = false
  | [], acc, _ => by rw [Lib.parseUintM]; rfl
  | c :: r, acc, h => by
    have hc := h c (by simp)
    rw [digs_contains] at hc
    simp only [Bool.and_eq_true, decide_eq_true_eq] at hc
    rw [Lib.parseUintM, if_pos hc]
    split
    · rfl
    · split
      · rfl
      · exact parseU_ok M r _ (fun b hb => h b (by simp [hb]))
theorem numDs_cases (s : Str) : (s.head? ≠ some 45 ∧ numDs s = s) ∨ ∃ r, s = 45 :: r ∧ numDs s = r := by
  unfold numDs Lib.trimPrefix Lib.hasPrefix
  cases s with
  | nil => exact .inl ⟨by simp, rfl⟩
  | cons c r =>
    by_cases hc : c = 45
    · subst hc; exact .inr ⟨r, rfl, by simp [List.isPrefixOf]⟩
    · refine .inl ⟨by simpa using hc, ?_⟩
      rw [if_neg]
      simp [List.isPrefixOf, Ne.symm hc]
theorem num_not_syntax {s : Str} (h : numBad s = false) : badN (Lib.parseIntB 64 s) = false := by
  unfold numBad at h
  simp only [Bool.or_eq_false_iff, Bool.not_eq_false', beq_iff_eq, beq_eq_false_iff_ne] at h
  obtain ⟨⟨h1, h2⟩, _⟩ := h
  rw [trimS_nil] at h2
  have key : ∀ l : Str, l ≠ [] → (∀ b ∈ l, digs.contains b = true) → badN (Lib.parseUintB 64 l) = false := fun l hl ha => by
    unfold Lib.parseUintB
    rw [if_neg hl]
    exact parseU_ok _ l 0 ha
  rcases numDs_cases s with ⟨h3, h4⟩ | ⟨r, rfl, h4⟩
  · rw [h4] at h1 h2
    cases s with
    | nil => exact absurd rfl h1
    | cons c r =>
      have hcd := h2 c (by simp)
      rw [digs_contains] at hcd
      simp only [Bool.and_eq_true, decide_eq_true_eq] at hcd
      have e1 : ¬ (c.toNat = 43 ∨ c.toNat = 45) := by omega
      have := key (c :: r) (by simp) h2
      simp only [Lib.parseIntB, if_neg e1]
      revert this
      cases Lib.parseUintB 64 (c :: r) with
      | range => intro _; rfl
      | ok u => intro _; simp only; split <;> (try split) <;> rfl
      | _ => intro h; cases h
  · rw [h4] at h1 h2
    have := key r h1 h2
    have e1 : ((45 : UInt8).toNat = 43 ∨ (45 : UInt8).toNat = 45) := .inr rfl
    simp only [Lib.parseIntB, if_pos e1]
    revert this
    cases Lib.parseUintB 64 r with
    | range => intro _; rfl
    | ok u => intro _; simp only; split <;> (try split) <;> rfl
    | _ => intro h; cases h
end Go.SX.Nb
namespace Go.SX.Nb
open Go Go.SX Go.Proofs
variable [ErrAt]
set_option maxRecDepth 4000
def letterM (c : UInt8) : Bool := decide ((97 : Int) ≤ c.toNat) && decide ((c.toNat : Int) ≤ 122)
def digitM (c : UInt8) : Bool := decide ((48 : Int) ≤ c.toNat) && decide ((c.toNat : Int) ≤ 57)
theorem c65 (c : UInt8) (Hp : List AObj) : AFun Tryz.prog 65 [.v (.int .u8 (c.toNat : Int))] Hp (.v (.bool (letterM c))) := by
  refine ACall.body [.tmp 2] [0] Tryz.func65 Tryz.ntmps65 (fun d => ?_)
  refine AW.seqR ?_
  refine R.assign ?_
  refine R.fin [0] ?_
  refine AW.seqR ?_
  refine R.move ?_
  refine R.geq ?_
  refine R.move ?_
  refine G.move ?_
  refine G.leq ?_
  refine R.pickAnd ?_
  refine R.assign ?_
  refine R.fin [2] ?_
  refine AW.ret ?_
  exact K.fin (V.one V.tmp)

theorem c66 (c : UInt8) (Hp : List AObj) : AFun Tryz.prog 66 [.v (.int .u8 (c.toNat : Int))] Hp (.v (.bool (digitM c))) := by
  refine ACall.body [.tmp 2] [0] Tryz.func66 Tryz.ntmps66 (fun d => ?_)
  refine AW.seqR ?_
  refine R.assign ?_
  refine R.fin [0] ?_
  refine AW.seqR ?_
  refine R.move ?_
  refine R.geq ?_
  refine R.move ?_
  refine G.move ?_
  refine G.leq ?_
  refine R.pickAnd ?_
  refine R.assign ?_
  refine R.fin [2] ?_
  refine AW.ret ?_
  exact K.fin (V.one V.tmp)

def words : List Str := [[97, 100, 100], [100, 114, 111, 112], [114, 101, 110, 97, 109, 101], [115, 112, 108, 105, 116], [109, 101, 114, 103, 101], [114, 101, 116, 121, 112, 101], [105, 110, 116, 111], [116, 111], [98, 97, 99, 107], [97, 110, 100], [111, 114], [110, 111, 116], [116, 114, 117, 101], [102, 97, 108, 115, 101], [110, 117, 108, 108], [105, 110, 116], [116, 101, 120, 116], [98, 111, 111, 108], [115, 101, 108, 101, 99, 116], [119, 104, 101, 114, 101], [102, 114, 111, 109], [108, 105, 109, 105, 116]]
def reservedM (s : Str) : Bool := words.any (· == s)
theorem words_len : words.length = 22 := rfl
theorem any_at {α : Type} {p : α → Bool} {l : List α} {i : Nat} (h : i < l.length) (hp : p l[i] = true) : l.any p = true := by
  rw [List.any_eq_true]; exact ⟨l[i], List.getElem_mem h, hp⟩
theorem any_none {α : Type} {p : α → Bool} {l : List α} (h : ∀ (j : Nat) (y : α), l[j]? = some y → p y = false) : l.any p = false := by
  rw [List.any_eq_false]
  intro x hx
  obtain ⟨j, hj⟩ := List.getElem?_of_mem hx
  simp [h j x hj]
theorem upto_succ {α : Type} {l : List α} {x : Nat} {p : α → Prop} (hlt : x < l.length) (h : ∀ (j : Nat) (y : α), j < x → l[j]? = some y → p y) (hx : p l[x]) : ∀ (j : Nat) (y : α), j < x + 1 → l[j]? = some y → p y := by
  intro j y hj hy
  rcases Nat.lt_or_ge j x with h' | h'
  · exact h j y h' hy
  · have : j = x := by omega
    subst this
    rw [List.getElem?_eq_getElem hlt] at hy
    injection hy with hy
    subst hy
    exact hx
theorem upto_all {α : Type} {l : List α} {x : Nat} {p : α → Prop} (hge : l.length ≤ x) (h : ∀ (j : Nat) (y : α), j < x → l[j]? = some y → p y) : ∀ (j : Nat) (y : α), l[j]? = some y → p y :=
  fun j y hy => h j y (by have := (List.getElem?_eq_some_iff.1 hy).1; omega) hy
theorem c18 (s : Str) (Hp : List AObj) : AFun Tryz.prog 18 [strA s] Hp (boolA (reservedM s)) := by
  refine ACall.body [.tmp 2] [0] Tryz.func18 Tryz.ntmps18 (fun d => ?_)
  refine AW.seqR ?_
  refine R.assign ?_
  refine R.fin [0] ?_
  refine AW.seqR ?_
  refine R.buildSlice Tryz.underlying50 Tryz.sizeOf9 Tryz.zeroValue9 ?_
  refine R.assignT ?_
  refine R.fin [0, 3] ?_
  refine W.seq ?_
  refine AW.seqR ?_
  refine R.assign ?_
  refine R.fin [0, 3, 4] ?_
  refine AW.loopC (α := Nat) (fun x => ⟨18, setF 0 (strA s) (setF 3 (.slice true 1 (words.map strA)) (setF 4 (intA (x : Nat)) (fun _ => .any))), Hp, [], [], none⟩) (fun x => x ≤ words.length ∧ ∀ (j : Nat) (y : Str), j < x → words[j]? = some y → (y == s) = false) (fun x => words.length - x) (0) (by simp) (StLe.refl _) rfl (fun x hx => ?_)
  refine W.seq ?_
  refine AW.seqR ?_
  refine R.move ?_
  refine R.move ?_
  refine R.len Tryz.underlying50 ?_
  refine R.lss ?_
  refine R.fin [0, 3, 4, 9] ?_
  refine W.cond (fun ht9 => ?_) (fun ht9 => ?_)
  · skip
    have hlt : x < words.length := by simpa using ht9
    have hwl := words_len
    refine AW.skip ?_
    refine K.thN ?_
    refine W.seq ?_
    refine AW.block ?_
    refine AW.seqR ?_
    refine R.move ?_
    refine R.move ?_
    refine R.indexAddr (x) (strA words[x]) Tryz.underlying50 Tryz.sizeOf9 (getMap hlt) ?_
    refine R.loadRo Tryz.isAgg9 ?_
    refine R.move ?_
    refine R.seql ?_
    refine R.fin [0, 3, 4, 17] ?_
    refine W.cond (fun ht17 => ?_) (fun ht17 => ?_)
    · skip
      refine AW.seqR ?_
      refine R.assign ?_
      refine R.fin [2] ?_
      refine AW.ret ?_
      refine K.blR ?_
      refine K.thR ?_
      refine K.lpR ?_
      refine K.thR ?_
      exact K.fin (V.one V.tmp) ⟨by rw [show reservedM s = true from any_at hlt ht17], rfl⟩
    · skip
      refine AW.skip ?_
      refine K.blN ?_
      refine K.thN ?_
      refine AW.region ?_
      refine R.move ?_
      refine R.add64 ?_
      refine R.assign ?_
      refine R.fin [0, 3, 4] ?_
      exact K.lpN (x + 1) ⟨hlt, upto_succ hlt hx.2 ht17⟩ (by have := words_len; omega) (StCut.of_eq rfl)
  · skip
    refine AW.exit ?_
    refine K.thE ?_
    refine K.lpE ?_
    refine K.thN ?_
    refine AW.seqR ?_
    refine R.assign ?_
    refine R.fin [2] ?_
    refine AW.ret ?_
    exact K.fin (V.one V.tmp) ⟨by rw [show reservedM s = false from any_none (upto_all (by simp at ht9; omega) hx.2)], rfl⟩

end Go.SX.Nb
namespace Go.SX.Nb
open Go Go.SX Go.Proofs
variable [ErrAt]
set_option maxRecDepth 4000
def charM (c : UInt8) : Bool := letterM c || digitM c || c == 95
def nameM (s : Str) : Bool := match s with
  | [] => false
  | c :: _ => decide (s.length ≤ 16) && letterM c && !reservedM s && s.all charM
theorem not_none {α : Type} {p : α → Bool} {l : List α} {i : Nat} (h : i < l.length) (hp : p l[i] = false) : l.all p = false := by
  rw [List.all_eq_false]; exact ⟨l[i], List.getElem_mem h, by simp [hp]⟩
theorem all_of {α : Type} {p : α → Bool} {l : List α} (h : ∀ (j : Nat) (y : α), l[j]? = some y → p y = true) : l.all p = true := by
  rw [List.all_eq_true]
  intro x hx
  obtain ⟨j, hj⟩ := List.getElem?_of_mem hx
  exact h j x hj
theorem nn {s : Str} {b : Bool} (h : ((((s.length : Int) == 0) || b) == false) = true) : s ≠ [] := by rintro rfl; simp at h
theorem headD_get {s : Str} (h : s ≠ []) : s[0]? = some (s.headD 0) := by cases s with
  | nil => exact absurd rfl h
  | cons c r => rfl
theorem nameM_eq (s : Str) : nameM s = (!((s.length : Int) == 0 || decide ((16 : Int) < s.length) || !letterM (s.headD 0) || reservedM s) && s.all charM) := by
  cases s with
  | nil => rfl
  | cons c r =>
    have h1 : (((c :: r).length : Int) == 0) = false := by simp; omega
    have h2 : decide ((c :: r).length ≤ 16) = !decide ((16 : Int) < (c :: r).length) := by
      by_cases h : (c :: r).length ≤ 16
      · have : ¬ ((16 : Int) < (c :: r).length) := by omega
        simp only [h, this, decide_true, decide_false, Bool.not_false]
      · have : ((16 : Int) < (c :: r).length) := by omega
        simp only [h, this, decide_true, decide_false, Bool.not_true]
    simp only [nameM, h1, h2, List.headD_cons, Bool.not_or, Bool.not_not, Bool.false_or]
theorem char_ok {c : UInt8} (h : ((!letterM c && !digitM c) && ((c.toNat : Int) != 95)) = false) : charM c = true := by
  unfold charM
  have e : ((c.toNat : Int) != 95) = !(c == 95) := by
    by_cases hc : c = 95
    · subst hc; rfl
    · have : c.toNat ≠ 95 := fun h => hc (UInt8.toNat_inj.1 h)
      have : (c.toNat : Int) ≠ 95 := by omega
      rw [bne_iff_ne.2 this, beq_eq_false_iff_ne.2 hc]; rfl
  rw [e] at h
  revert h
  cases letterM c <;> cases digitM c <;> cases (c == 95) <;> simp
theorem char_no {c : UInt8} (h : ((!letterM c && !digitM c) && ((c.toNat : Int) != 95)) = true) : charM c = false := by
  unfold charM
  have e : ((c.toNat : Int) != 95) = !(c == 95) := by
    by_cases hc : c = 95
    · subst hc; rfl
    · have : c.toNat ≠ 95 := fun h => hc (UInt8.toNat_inj.1 h)
      have : (c.toNat : Int) ≠ 95 := by omega
      rw [bne_iff_ne.2 this, beq_eq_false_iff_ne.2 hc]; rfl
  rw [e] at h
  revert h
  cases letterM c <;> cases digitM c <;> cases (c == 95) <;> simp
theorem c16 (s : Str) (hs : s.length ≤ 1048576) (Hp : List AObj) : AFun Tryz.prog 16 [strA s] Hp (boolA (nameM s)) := by
  refine ACall.body [.tmp 2] [0] Tryz.func16 Tryz.ntmps16 (fun d => ?_)
  refine AW.seqR ?_
  refine R.assign ?_
  refine R.fin [0] ?_
  refine W.seq ?_
  refine AW.seqR ?_
  refine R.move ?_
  refine R.slen Tryz.underlying9 ?_
  refine R.eql ?_
  refine R.move ?_
  refine G.move ?_
  refine G.slen Tryz.underlying9 ?_
  refine G.gtr ?_
  refine R.pickOr ?_
  refine R.move ?_
  refine G.move ?_
  refine G.sindex 0 (s.headD 0) Tryz.underlying9 (fun hB => headD_get (nn hB))  ?_
  refine G.call Tryz.call65 (fun hB => c65 (s.headD 0) _) ?_
  refine G.not ?_
  refine R.pickOr ?_
  refine R.move ?_
  refine G.move ?_
  refine G.call Tryz.call18 (fun hB => c18 s _) ?_
  refine R.pickOr ?_
  refine R.fin [0, 21] ?_
  refine W.cond (fun ht21 => ?_) (fun ht21 => ?_)
  · skip
    refine AW.seqR ?_
    refine R.assign ?_
    refine R.fin [2] ?_
    refine AW.ret ?_
    refine K.thR ?_
    exact K.fin (V.one V.tmp) ⟨by rw [nameM_eq, ht21]; rfl, rfl⟩
  · skip
    refine AW.skip ?_
    refine K.thN ?_
    refine W.seq ?_
    refine AW.seqR ?_
    refine R.assign ?_
    refine R.fin [0, 3] ?_
    refine AW.loopC (α := Nat) (fun x => ⟨46, setF 0 (strA s) (setF 3 (intA (x : Nat)) (fun _ => .any)), Hp, [], [], none⟩) (fun x => x ≤ s.length ∧ ∀ (j : Nat) (y : UInt8), j < x → s[j]? = some y → charM y = true) (fun x => s.length - x) (0) (by simp) (StLe.refl _) rfl (fun x hx => ?_)
    refine W.seq ?_
    refine AW.seqR ?_
    refine R.move ?_
    refine R.move ?_
    refine R.slen Tryz.underlying9 ?_
    refine R.lss ?_
    refine R.fin [0, 3, 25] ?_
    refine W.cond (fun ht25 => ?_) (fun ht25 => ?_)
    · skip
      have hlt : x < s.length := by simpa using ht25
      refine AW.skip ?_
      refine K.thN ?_
      refine W.seq ?_
      refine AW.block ?_
      refine AW.seqR ?_
      refine R.move ?_
      refine R.move ?_
      refine R.sindex x s[x] Tryz.underlying9 (List.getElem?_eq_getElem hlt)  ?_
      refine R.call Tryz.call65 (c65 s[x] _) ?_
      refine R.not ?_
      refine R.move ?_
      refine G.move ?_
      refine G.move ?_
      refine G.sindex x s[x] Tryz.underlying9 (fun _ => List.getElem?_eq_getElem hlt)  ?_
      refine G.call Tryz.call66 (fun hB => c66 s[x] _) ?_
      refine G.not ?_
      refine R.pickAnd ?_
      refine R.move ?_
      refine G.move ?_
      refine G.move ?_
      refine G.sindex x s[x] Tryz.underlying9 (fun _ => List.getElem?_eq_getElem hlt)  ?_
      refine G.neq ?_
      refine R.pickAnd ?_
      refine R.fin [0, 3, 45] ?_
      refine W.cond (fun ht45 => ?_) (fun ht45 => ?_)
      · skip
        refine AW.seqR ?_
        refine R.assign ?_
        refine R.fin [2] ?_
        refine AW.ret ?_
        refine K.blR ?_
        refine K.thR ?_
        refine K.lpR ?_
        refine K.thR ?_
        exact K.fin (V.one V.tmp) ⟨by rw [nameM_eq, ht21, not_none hlt (char_no ht45)]; rfl, rfl⟩
      · skip
        refine AW.skip ?_
        refine K.blN ?_
        refine K.thN ?_
        refine AW.region ?_
        refine R.move ?_
        refine R.add64 ?_
        refine R.assign ?_
        refine R.fin [0, 3] ?_
        exact K.lpN (x + 1) ⟨hlt, upto_succ hlt hx.2 (char_ok ht45)⟩ (by omega) (StCut.of_eq rfl)
    · skip
      refine AW.exit ?_
      refine K.thE ?_
      refine K.lpE ?_
      refine K.thN ?_
      refine AW.seqR ?_
      refine R.assign ?_
      refine R.fin [2] ?_
      refine AW.ret ?_
      exact K.fin (V.one V.tmp) ⟨by rw [nameM_eq, ht21, all_of (upto_all (by simp at ht25; omega) hx.2)]; rfl, rfl⟩

end Go.SX.Nb
namespace Go.SX.Nb
open Go Go.SX Go.Proofs
variable [ErrAt]
set_option maxRecDepth 4000
def findM (nm : Str) (c : List Col) : Int := match c.findIdx? (fun y => y.name == nm) with | some i => i | none => -1
theorem findM_at {nm : List UInt8} {c : List Col} {x : Nat} (h : x < c.length) (h1 : c[x].name = nm) (h2 : ∀ (j : Nat) (y : Col), j < x → c[j]? = some y → ¬ (y.name = nm)) : findM nm c = x := by
  have : c.findIdx? (fun y => y.name == nm) = some x := by
    rw [List.findIdx?_eq_some_iff_getElem]
    exact ⟨h, by simpa using h1, fun j hj => by simpa using h2 j c[j] hj (List.getElem?_eq_getElem _)⟩
  simp [findM, this]
theorem findM_none {nm : List UInt8} {c : List Col} (h : ∀ (j : Nat) (y : Col), c[j]? = some y → ¬ (y.name = nm)) : findM nm c = -1 := by
  have : c.findIdx? (fun y => y.name == nm) = none := by
    rw [List.findIdx?_eq_none_iff]
    intro y hy
    obtain ⟨j, hj⟩ := List.getElem?_of_mem hy
    simpa using h j y hj
  simp [findM, this]
structure OkCols (c : List Col) : Prop where
  len : c.length ≤ 1048576
  names : ∀ y ∈ c, y.name.length ≤ 1048576
def colAt (c : List Col) (x : Nat) (y : Col) : Bool := !(((!nameM y.name || decide (y.kind < 1)) || decide ((3 : Int) < y.kind)) || (findM y.name c != (x : Int)))
def colsM (c : List Col) : Bool := c.zipIdx.all fun x => colAt c x.2 x.1
theorem colsM_true {c : List Col} : colsM c = true ↔ ∀ (j : Nat) (y : Col), c[j]? = some y → colAt c j y = true := by
  unfold colsM
  rw [List.all_eq_true]
  constructor
  · intro h j y hj
    exact h (y, j) (by rw [List.mem_zipIdx_iff_getElem?]; exact hj)
  · rintro h ⟨y, j⟩ hx
    rw [List.mem_zipIdx_iff_getElem?] at hx
    exact h j y hx
theorem uptoI_succ {α : Type} {l : List α} {x : Nat} {p : Nat → α → Prop} (hlt : x < l.length) (h : ∀ (j : Nat) (y : α), j < x → l[j]? = some y → p j y) (hx : p x l[x]) : ∀ (j : Nat) (y : α), j < x + 1 → l[j]? = some y → p j y := by
  intro j y hj hy
  rcases Nat.lt_or_ge j x with h' | h'
  · exact h j y h' hy
  · have : j = x := by omega
    subst this
    rw [List.getElem?_eq_getElem hlt] at hy
    injection hy with hy
    subst hy
    exact hx
theorem uptoI_all {α : Type} {l : List α} {x : Nat} {p : Nat → α → Prop} (hge : l.length ≤ x) (h : ∀ (j : Nat) (y : α), j < x → l[j]? = some y → p j y) : ∀ (j : Nat) (y : α), l[j]? = some y → p j y :=
  fun j y hy => h j y (by have := (List.getElem?_eq_some_iff.1 hy).1; omega) hy
def rightM (c : List Col) : Bool := decide ((c.length : Int) ≤ 12) && colsM c
def plainM (v : Val) : Bool := if v.kind == 0 then v.n == 0 && v.s == [] else if v.kind == 1 then v.s == [] else if v.kind == 2 then v.n == 0 && decide ((v.s.length : Int) ≤ 200) else v.kind == 3 && v.s == [] && decide (0 ≤ v.n) && decide (v.n ≤ 1)
theorem c157 (v : Val) (Hp : List AObj) : AFun Tryz.prog 157 [valA v] Hp (boolA (plainM v)) := by
  refine ACall.body [.tmp 2] [0] Tryz.func157 Tryz.ntmps157 (fun d => ?_)
  refine AW.seqR ?_
  refine R.box ?_
  refine R.assign ?_
  refine R.fin [1] ?_
  refine W.seq ?_
  refine AW.seqR ?_
  refine R.fieldAddrPtr (fo := 0) Tryz.underlying36 Tryz.sizeOf3 ?_
  refine R.loadOwn Tryz.isAgg3 ?_
  refine R.eql ?_
  refine R.fin [1, 5] ?_
  refine W.cond (fun ht5 => ?_) (fun ht5 => ?_)
  · skip
    refine AW.seqR ?_
    refine R.fieldAddrPtr (fo := 1) Tryz.underlying36 Tryz.sizeOf2 ?_
    refine R.loadOwn Tryz.isAgg2 ?_
    refine R.eql ?_
    refine R.move ?_
    refine G.fieldAddrPtr (fo := 2) Tryz.underlying36 Tryz.sizeOf9 ?_
    refine G.loadOwn Tryz.isAgg9 ?_
    refine G.seql ?_
    refine R.pickAnd ?_
    refine R.assign ?_
    refine R.fin [2] ?_
    refine AW.ret ?_
    refine K.thR ?_
    exact K.fin (V.one V.tmp) ⟨by simp [plainM, ht5], rfl⟩
  · skip
    refine AW.skip ?_
    refine K.thN ?_
    refine W.seq ?_
    refine AW.seqR ?_
    refine R.fieldAddrPtr (fo := 0) Tryz.underlying36 Tryz.sizeOf3 ?_
    refine R.loadOwn Tryz.isAgg3 ?_
    refine R.eql ?_
    refine R.fin [1, 16] ?_
    refine W.cond (fun ht16 => ?_) (fun ht16 => ?_)
    · skip
      refine AW.seqR ?_
      refine R.fieldAddrPtr (fo := 2) Tryz.underlying36 Tryz.sizeOf9 ?_
      refine R.loadOwn Tryz.isAgg9 ?_
      refine R.seql ?_
      refine R.assign ?_
      refine R.fin [2] ?_
      refine AW.ret ?_
      refine K.thR ?_
      exact K.fin (V.one V.tmp) ⟨by simp [plainM, ht5, ht16], rfl⟩
    · skip
      refine AW.skip ?_
      refine K.thN ?_
      refine W.seq ?_
      refine AW.seqR ?_
      refine R.fieldAddrPtr (fo := 0) Tryz.underlying36 Tryz.sizeOf3 ?_
      refine R.loadOwn Tryz.isAgg3 ?_
      refine R.eql ?_
      refine R.fin [1, 22] ?_
      refine W.cond (fun ht22 => ?_) (fun ht22 => ?_)
      · skip
        refine AW.seqR ?_
        refine R.fieldAddrPtr (fo := 1) Tryz.underlying36 Tryz.sizeOf2 ?_
        refine R.loadOwn Tryz.isAgg2 ?_
        refine R.eql ?_
        refine R.move ?_
        refine G.fieldAddrPtr (fo := 2) Tryz.underlying36 Tryz.sizeOf9 ?_
        refine G.loadOwn Tryz.isAgg9 ?_
        refine G.slen Tryz.underlying9 ?_
        refine G.leq ?_
        refine R.pickAnd ?_
        refine R.assign ?_
        refine R.fin [2] ?_
        refine AW.ret ?_
        refine K.thR ?_
        exact K.fin (V.one V.tmp) ⟨by simp [plainM, ht5, ht16, ht22], rfl⟩
      · skip
        refine AW.skip ?_
        refine K.thN ?_
        refine AW.seqR ?_
        refine R.fieldAddrPtr (fo := 0) Tryz.underlying36 Tryz.sizeOf3 ?_
        refine R.loadOwn Tryz.isAgg3 ?_
        refine R.eql ?_
        refine R.move ?_
        refine G.fieldAddrPtr (fo := 2) Tryz.underlying36 Tryz.sizeOf9 ?_
        refine G.loadOwn Tryz.isAgg9 ?_
        refine G.seql ?_
        refine R.pickAnd ?_
        refine R.move ?_
        refine G.fieldAddrPtr (fo := 1) Tryz.underlying36 Tryz.sizeOf2 ?_
        refine G.loadOwn Tryz.isAgg2 ?_
        refine G.geq ?_
        refine R.pickAnd ?_
        refine R.move ?_
        refine G.fieldAddrPtr (fo := 1) Tryz.underlying36 Tryz.sizeOf2 ?_
        refine G.loadOwn Tryz.isAgg2 ?_
        refine G.leq ?_
        refine R.pickAnd ?_
        refine R.assign ?_
        refine R.fin [2] ?_
        refine AW.ret ?_
        exact K.fin (V.one V.tmp) ⟨by simp [plainM, ht5, ht16, ht22], rfl⟩

end Go.SX.Nb
namespace Go.SX.Nb
open Go Go.SX Go.Proofs
variable [ErrAt]
set_option maxRecDepth 4000
theorem plain3 (e : Bool) (n : Int) : (e && (n == 0 || n == 1)) = (e && decide (0 ≤ n) && decide (n ≤ 1)) := by
  cases e
  · rfl
  · rw [Bool.eq_iff_iff]
    simp
    omega
theorem c124 (v : Val) (Hp : List AObj) : AFun Tryz.prog 124 [valA v] Hp (boolA (plainM v)) := by
  refine ACall.body [.tmp 2] [0] Tryz.func124 Tryz.ntmps124 (fun d => ?_)
  refine AW.seqR ?_
  refine R.box ?_
  refine R.assign ?_
  refine R.fin [1] ?_
  refine W.seq ?_
  refine AW.seqR ?_
  refine R.fieldAddrPtr (fo := 0) Tryz.underlying36 Tryz.sizeOf3 ?_
  refine R.loadOwn Tryz.isAgg3 ?_
  refine R.fin [1, 4] ?_
  refine AW.block ?_
  refine AW.seqR ?_
  refine R.eql ?_
  refine R.assign ?_
  refine R.fin [1, 4, 5] ?_
  refine W.cond (fun ht5 => ?_) (fun ht5 => ?_)
  · skip
    refine AW.seqR ?_
    refine R.loadOwnN Tryz.isAgg36 Tryz.sizeOf36 ?_
    refine R.build (places := #[(0, 1), (1, 1), (2, 1)]) Tryz.underlying36 (fun w => by simp) Tryz.zeroValue36 ?_
    refine R.eqlAgg eg36 (equal36 v.kind v.n 0 0 v.s []) ?_
    refine R.assign ?_
    refine R.fin [2] ?_
    refine AW.ret ?_
    refine K.blR ?_
    refine K.thR ?_
    exact K.fin (V.one V.tmp) ⟨by simp [plainM, ht5], rfl⟩
  · skip
    refine AW.seqR ?_
    refine R.eql ?_
    refine R.assign ?_
    refine R.fin [1, 4, 10] ?_
    refine W.cond (fun ht10 => ?_) (fun ht10 => ?_)
    · skip
      refine AW.seqR ?_
      refine R.fieldAddrPtr (fo := 2) Tryz.underlying36 Tryz.sizeOf9 ?_
      refine R.loadOwn Tryz.isAgg9 ?_
      refine R.seql ?_
      refine R.assign ?_
      refine R.fin [2] ?_
      refine AW.ret ?_
      refine K.blR ?_
      refine K.thR ?_
      exact K.fin (V.one V.tmp) ⟨by simp [plainM, ht5, ht10], rfl⟩
    · skip
      refine AW.seqR ?_
      refine R.eql ?_
      refine R.assign ?_
      refine R.fin [1, 4, 15] ?_
      refine W.cond (fun ht15 => ?_) (fun ht15 => ?_)
      · skip
        refine AW.seqR ?_
        refine R.fieldAddrPtr (fo := 1) Tryz.underlying36 Tryz.sizeOf2 ?_
        refine R.loadOwn Tryz.isAgg2 ?_
        refine R.eql ?_
        refine R.move ?_
        refine G.fieldAddrPtr (fo := 2) Tryz.underlying36 Tryz.sizeOf9 ?_
        refine G.loadOwn Tryz.isAgg9 ?_
        refine G.slen Tryz.underlying9 ?_
        refine G.leq ?_
        refine R.pickAnd ?_
        refine R.assign ?_
        refine R.fin [2] ?_
        refine AW.ret ?_
        refine K.blR ?_
        refine K.thR ?_
        exact K.fin (V.one V.tmp) ⟨by simp [plainM, ht5, ht10, ht15], rfl⟩
      · skip
        refine AW.seqR ?_
        refine R.eql ?_
        refine R.assign ?_
        refine R.fin [1, 26] ?_
        refine W.cond (fun ht26 => ?_) (fun ht26 => ?_)
        · skip
          refine AW.seqR ?_
          refine R.fieldAddrPtr (fo := 2) Tryz.underlying36 Tryz.sizeOf9 ?_
          refine R.loadOwn Tryz.isAgg9 ?_
          refine R.seql ?_
          refine R.move ?_
          refine G.fieldAddrPtr (fo := 1) Tryz.underlying36 Tryz.sizeOf2 ?_
          refine G.loadOwn Tryz.isAgg2 ?_
          refine G.eql ?_
          refine G.move ?_
          refine G.fieldAddrPtr (fo := 1) Tryz.underlying36 Tryz.sizeOf2 ?_
          refine G.loadOwn Tryz.isAgg2 ?_
          refine G.eql ?_
          refine G.pickOr ?_
          refine R.pickAnd ?_
          refine R.assign ?_
          refine R.fin [2] ?_
          refine AW.ret ?_
          refine K.blR ?_
          refine K.thR ?_
          exact K.fin (V.one V.tmp) ⟨by simp [plainM, ht5, ht10, ht15, ht26]; rw [plain3], rfl⟩
        · skip
          refine AW.skip ?_
          refine K.blN ?_
          refine K.thN ?_
          refine AW.seqR ?_
          refine R.assign ?_
          refine R.fin [2] ?_
          refine AW.ret ?_
          exact K.fin (V.one V.tmp) ⟨by simp [plainM, ht5, ht10, ht15, ht26], rfl⟩

def manyM (c : List Col) : Bool := decide ((50 : Int) < c.length) || c.any fun y => decide ((100 : Int) < y.name.length)
theorem c21 (c : List Col) (hc : OkCols c) (Hp : List AObj) : AFun Tryz.prog 21 [colsA c] Hp (boolA (manyM c)) := by
  refine ACall.body [.tmp 2] [0] Tryz.func21 Tryz.ntmps21 (fun d => ?_)
  refine AW.seqR ?_
  refine R.assign ?_
  refine R.fin [0] ?_
  refine W.seq ?_
  refine AW.seqR ?_
  refine R.move ?_
  refine R.len Tryz.underlying37 ?_
  refine R.gtr ?_
  refine R.fin [0, 6] ?_
  refine W.cond (fun ht6 => ?_) (fun ht6 => ?_)
  · skip
    refine AW.seqR ?_
    refine R.assign ?_
    refine R.fin [2] ?_
    refine AW.ret ?_
    refine K.thR ?_
    exact K.fin (V.one V.tmp) ⟨by simp [manyM] at ht6 ⊢; omega, rfl⟩
  · skip
    refine AW.skip ?_
    refine K.thN ?_
    refine W.seq ?_
    refine AW.seqR ?_
    refine R.assign ?_
    refine R.fin [0, 3] ?_
    refine AW.loopC (α := Nat) (fun x => ⟨20, setF 0 (colsA c) (setF 3 (intA (x : Nat)) (fun _ => .any)), Hp, [], [], none⟩) (fun x => x ≤ c.length ∧ ∀ (j : Nat) (y : Col), j < x → c[j]? = some y → decide ((100 : Int) < y.name.length) = false) (fun x => c.length - x) (0) (by simp) (StLe.refl _) rfl (fun x hx => ?_)
    refine W.seq ?_
    refine AW.seqR ?_
    refine R.move ?_
    refine R.move ?_
    refine R.len Tryz.underlying37 ?_
    refine R.lss ?_
    refine R.fin [0, 3, 10] ?_
    refine W.cond (fun ht10 => ?_) (fun ht10 => ?_)
    · skip
      have hlt : x < c.length := by simpa using ht10
      have hcl := hc.len
      refine AW.skip ?_
      refine K.thN ?_
      refine W.seq ?_
      refine AW.block ?_
      refine AW.seqR ?_
      refine R.move ?_
      refine R.move ?_
      refine R.indexAddr (x) (colA c[x]) Tryz.underlying37 Tryz.sizeOf65 (getMap hlt) ?_
      refine R.fieldAddrRo (off := 0) Tryz.underlying65 Tryz.sizeOf9 ?_
      refine R.loadRo Tryz.isAgg9 ?_
      refine R.slen Tryz.underlying9 ?_
      refine R.gtr ?_
      refine R.fin [0, 3, 19] ?_
      refine W.cond (fun ht19 => ?_) (fun ht19 => ?_)
      · skip
        refine AW.seqR ?_
        refine R.assign ?_
        refine R.fin [2] ?_
        refine AW.ret ?_
        refine K.blR ?_
        refine K.thR ?_
        refine K.lpR ?_
        refine K.thR ?_
        exact K.fin (V.one V.tmp) ⟨by rw [show manyM c = true from by unfold manyM; rw [any_at (p := fun y : Col => decide ((100 : Int) < y.name.length)) hlt ht19, Bool.or_true]], rfl⟩
      · skip
        refine AW.skip ?_
        refine K.blN ?_
        refine K.thN ?_
        refine AW.region ?_
        refine R.move ?_
        refine R.add64 ?_
        refine R.assign ?_
        refine R.fin [0, 3] ?_
        exact K.lpN (x + 1) ⟨hlt, upto_succ hlt hx.2 ht19⟩ (by omega) (StCut.of_eq rfl)
    · skip
      refine AW.exit ?_
      refine K.thE ?_
      refine K.lpE ?_
      refine K.thN ?_
      refine AW.seqR ?_
      refine R.assign ?_
      refine R.fin [2] ?_
      refine AW.ret ?_
      exact K.fin (V.one V.tmp) ⟨by rw [show manyM c = false from by unfold manyM; rw [any_none (upto_all (by simp at ht10; omega) hx.2)]; simpa using ht6], rfl⟩

def OkRows (l : List Row) : Prop := l.length ≤ 1048576 ∧ ∀ y ∈ l, y.l.length ≤ 1048576
def rowAt (c : List Col) (j : Nat) (v : Val) : Bool := !(!plainM v || ((v.kind != 0) && (v.kind != ((c[j]?).map (·.kind)).getD 0)))
def rowM (c : List Col) (l : List Val) : Bool := colsM c && decide (l.length = c.length) && l.zipIdx.all fun x => rowAt c x.2 x.1
theorem zipIdx_all {α : Type} {c : List α} {p : Nat → α → Bool} : (c.zipIdx.all fun x => p x.2 x.1) = true ↔ ∀ (j : Nat) (y : α), c[j]? = some y → p j y = true := by
  rw [List.all_eq_true]
  constructor
  · intro h j y hj
    exact h (y, j) (by rw [List.mem_zipIdx_iff_getElem?]; exact hj)
  · rintro h ⟨y, j⟩ hx
    rw [List.mem_zipIdx_iff_getElem?] at hx
    exact h j y hx
end Go.SX.Nb
namespace Go.SX.Nb
open Go Go.SX Go.Proofs
variable [ErrAt]
set_option maxRecDepth 4000
theorem c133 (y : Col) (nm : Str) (Hp : List AObj) : AFun Tryz.prog 133 [colA y, .ro [strA nm]] Hp (boolA (y.name == nm)) := by
  refine ACall.body [.tmp 3] [0, 1] Tryz.func133 Tryz.ntmps133 (fun d => ?_)
  refine AW.seqR ?_
  refine R.boxRo ?_
  refine R.assign ?_
  refine R.fin [1, 2] ?_
  refine AW.seqR ?_
  refine R.fieldAddrRo (off := 0) Tryz.underlying65 Tryz.sizeOf9 ?_
  refine R.loadRo Tryz.isAgg9 ?_
  refine R.loadRo Tryz.isAgg9 ?_
  refine R.seql ?_
  refine R.assign ?_
  refine R.fin [3] ?_
  refine AW.ret ?_
  exact K.fin (V.one V.tmp)

theorem c132 (c : List Col) (hc : OkCols c) (nm : Str) (Hp : List AObj) : AFun Tryz.prog 132 [colsA c, .fn (.func 133) [] [.ro [strA nm]]] Hp (intA (findM nm c)) := by
  refine ACall.body [.tmp 4] [0, 1] Tryz.func132 Tryz.ntmps132 (fun d => ?_)
  refine AW.seqR ?_
  refine R.assign ?_
  refine R.fin [0, 1] ?_
  refine W.seq ?_
  refine AW.seqR ?_
  refine R.move ?_
  refine R.len Tryz.underlying37 ?_
  refine R.move ?_
  refine R.fin [0, 1, 7, 8] ?_
  refine AW.loopC (α := Nat) (fun x => ⟨19, setF 0 (colsA c) (setF 1 (.fn (.func 133) [] [.ro [strA nm]]) (setF 7 (intA c.length) (setF 8 (intA (x : Nat)) (fun _ => .any)))), Hp, [], [], none⟩) (fun x => x ≤ c.length ∧ ∀ (j : Nat) (y : Col), j < x → c[j]? = some y → ¬ (y.name = nm)) (fun x => c.length - x) (0) (by simp) (StLe.of_eq (by simp)) rfl (fun x hx => ?_)
  refine AW.seqR ?_
  refine R.lss ?_
  refine R.fin [0, 1, 7, 8, 9] ?_
  refine W.condX (fun ht9 => ?_) (fun ht9 => ?_)
  · skip
    have hlt : x < c.length := by simpa using ht9
    have hcl := hc.len
    refine W.seq ?_
    refine AW.block ?_
    refine AW.seqR ?_
    refine R.move ?_
    refine R.assign ?_
    refine R.fin [0, 1, 5, 7, 8] ?_
    refine AW.seqR ?_
    refine R.move ?_
    refine R.move ?_
    refine R.move ?_
    refine R.indexAddr (x) (colA c[x]) Tryz.underlying37 Tryz.sizeOf65 (getMap hlt) ?_
    refine R.loadRoN Tryz.isAgg65 Tryz.sizeOf65 ?_
    refine R.callV Tryz.call133 (c133 c[x] nm _) ?_
    refine R.fin [0, 1, 5, 7, 8, 16] ?_
    refine W.cond (fun ht16 => ?_) (fun ht16 => ?_)
    · skip
      refine AW.seqR ?_
      refine R.move ?_
      refine R.assign ?_
      refine R.fin [4] ?_
      refine AW.ret ?_
      refine K.blR ?_
      refine K.thR ?_
      refine K.lpR ?_
      refine K.thR ?_
      exact K.fin (V.one V.tmp) ⟨by rw [findM_at hlt (by simpa using ht16) hx.2], rfl⟩
    · skip
      refine AW.skip ?_
      refine K.blN ?_
      refine K.thN ?_
      refine AW.region ?_
      refine R.add64 ?_
      refine R.move ?_
      refine R.fin [0, 1, 7, 8] ?_
      exact K.lpN (x + 1) ⟨hlt, upto_succ hlt hx.2 (by simpa using ht16)⟩ (by omega) (StCut.of_eq rfl)
  · skip
    refine K.lpE ?_
    refine K.thN ?_
    refine AW.seqR ?_
    refine R.assign ?_
    refine R.fin [4] ?_
    refine AW.ret ?_
    exact K.fin (V.one V.tmp) ⟨by rw [findM_none (upto_all (by simp at ht9; omega) hx.2)], rfl⟩

theorem c100 (c : List Col) (hc : OkCols c) (nm : Str) (Hp : List AObj) : AFun Tryz.prog 100 [colsA c, strA nm] Hp (intA (findM nm c)) := by
  refine ACall.body [.tmp 4] [0, 1] Tryz.func100 Tryz.ntmps100 (fun d => ?_)
  refine AW.seqR ?_
  refine R.boxRo ?_
  refine R.assign ?_
  refine R.fin [0, 3] ?_
  refine AW.seqR ?_
  refine R.move ?_
  refine R.makeFunc ?_
  refine R.call Tryz.call132 (c132 c hc nm _) ?_
  refine R.assign ?_
  refine R.fin [4] ?_
  refine AW.ret ?_
  exact K.fin (V.one V.tmp)

end Go.SX.Nb
namespace Go.SX.Nb
open Go Go.SX Go.Proofs
variable [ErrAt]
set_option maxRecDepth 4000
def runM (s of : Str) : Int := (s.length : Int) - (Lib.trimLeftS s of).length
theorem trim_le (s of : Str) : (Lib.trimLeftS s of).length ≤ s.length := by
  unfold Lib.trimLeftS
  exact (List.dropWhile_sublist _).length_le
def reservedText : Str := [32, 97, 100, 100, 32, 100, 114, 111, 112, 32, 114, 101, 110, 97, 109, 101, 32, 115, 112, 108, 105, 116, 32, 109, 101, 114, 103, 101, 32, 114, 101, 116, 121, 112, 101, 32, 105, 110, 116, 111, 32, 116, 111, 32, 98, 97, 99, 107, 32, 97, 110, 100, 32, 111, 114, 32, 110, 111, 116, 32, 116, 114, 117, 101, 32, 102, 97, 108, 115, 101, 32, 110, 117, 108, 108, 32, 105, 110, 116, 32, 116, 101, 120, 116, 32, 98, 111, 111, 108, 32, 115, 101, 108, 101, 99, 116, 32, 119, 104, 101, 114, 101, 32, 102, 114, 111, 109, 32, 108, 105, 109, 105, 116, 32]
def letters : Str := [97, 98, 99, 100, 101, 102, 103, 104, 105, 106, 107, 108, 109, 110, 111, 112, 113, 114, 115, 116, 117, 118, 119, 120, 121, 122]
def tails : Str := [97, 98, 99, 100, 101, 102, 103, 104, 105, 106, 107, 108, 109, 110, 111, 112, 113, 114, 115, 116, 117, 118, 119, 120, 121, 122, 48, 49, 50, 51, 52, 53, 54, 55, 56, 57, 95]
theorem c63 (s of : Str) (hs : s.length ≤ 1048576) (ho : of.length ≤ 1048576) (ha : ∀ c ∈ of, c.toNat < 128) (Hp : List AObj) : AFun Tryz.prog 63 [strA s, strA of] Hp (intA (runM s of)) := by
  refine ACall.body [.tmp 4] [0, 1] Tryz.func63 Tryz.ntmps63 (fun d => ?_)
  refine AW.seqR ?_
  refine R.assign ?_
  refine R.fin [0, 1] ?_
  refine AW.seqR ?_
  refine R.move ?_
  refine R.slen Tryz.underlying9 ?_
  refine R.move ?_
  refine R.move ?_
  refine R.call Tryz.call102 (c102 s of (by omega) ha _) ?_
  refine R.slen Tryz.underlying9 ?_
  have htl := trim_le s of
  refine R.sub64 ?_
  refine R.assign ?_
  refine R.fin [4] ?_
  refine AW.ret ?_
  exact K.fin (V.one V.tmp)

def lexReservedM (s : Str) : Bool := (!(s == []) && !Lib.contains s [32]) && Lib.contains reservedText ([32] ++ s ++ [32])
theorem c17 (s : Str) (hs : s.length ≤ 1048576) (Hp : List AObj) : AFun Tryz.prog 17 [strA s] Hp (boolA (lexReservedM s)) := by
  refine ACall.body [.tmp 2] [0] Tryz.func17 Tryz.ntmps17 (fun d => ?_)
  refine AW.seqR ?_
  refine R.assign ?_
  refine R.fin [0] ?_
  refine AW.seqR ?_
  refine R.move ?_
  refine R.sneq ?_
  refine R.move ?_
  refine G.move ?_
  refine G.call Tryz.call67 (fun hB => c67 s [32] (by omega) _) ?_
  refine G.not ?_
  refine R.pickAnd ?_
  refine R.move ?_
  refine G.move ?_
  refine G.sadd ?_
  refine G.sadd ?_
  refine G.call Tryz.call67 (fun hB => c67 reservedText ([32] ++ s ++ [32]) (by decide) _) ?_
  refine R.pickAnd ?_
  refine R.assign ?_
  refine R.fin [2] ?_
  refine AW.ret ?_
  exact K.fin (V.one V.tmp)

theorem one_le {s : Str} {b c : Bool} (h : (((!(s == []) && b) && c) == true) = true) : 1 ≤ s.length := by
  cases s with
  | nil => simp at h
  | cons x r => simp
def lexNameM (s : Str) : Bool := ((((!(s == []) && decide ((s.length : Int) ≤ 16)) && (runM s tails == (s.length : Int))) && (runM (s.take 1) letters == 1)) && !lexReservedM s)
theorem c14 (s : Str) (hs : s.length ≤ 1048576) (Hp : List AObj) : AFun Tryz.prog 14 [strA s] Hp (boolA (lexNameM s)) := by
  refine ACall.body [.tmp 2] [0] Tryz.func14 Tryz.ntmps14 (fun d => ?_)
  refine AW.seqR ?_
  refine R.assign ?_
  refine R.fin [0] ?_
  refine AW.seqR ?_
  refine R.move ?_
  refine R.sneq ?_
  refine R.move ?_
  refine G.move ?_
  refine G.slen Tryz.underlying9 ?_
  refine G.leq ?_
  refine R.pickAnd ?_
  refine R.move ?_
  refine G.move ?_
  refine G.call Tryz.call63 (fun hB => c63 s tails hs (by decide) (by decide) _) ?_
  refine G.move ?_
  refine G.slen Tryz.underlying9 ?_
  refine G.eql ?_
  refine R.pickAnd ?_
  refine R.move ?_
  refine G.move ?_
  refine G.scutH 1 Tryz.underlying9 (fun _ => Nat.zero_le _) (fun hB => one_le hB) ?_
  refine G.call Tryz.call63 (fun hB => c63 (s.take 1) letters (by simp; omega) (by decide) (by decide) _) ?_
  refine G.eql ?_
  refine R.pickAnd ?_
  refine R.move ?_
  refine G.move ?_
  refine G.call Tryz.call17 (fun hB => c17 s hs _) ?_
  refine G.not ?_
  refine R.pickAnd ?_
  refine R.assign ?_
  refine R.fin [2] ?_
  refine AW.ret ?_
  exact K.fin (V.one V.tmp)

end Go.SX.Nb
namespace Go.SX.Nb
open Go Go.SX Go.Proofs Go.RowKit
variable [ErrAt]
set_option maxRecDepth 4000
theorem c211 (s t : Str) (Hp : List AObj) : AFun Tryz.prog 211 [strA s, strA t] Hp (strA (Lib.trimPrefix s t)) := by
  refine AFun.lib (xs := [sv s, sv t]) (v := sv (Lib.trimPrefix s t)) (fun G w => .v _ _) (fun w hg => ?_)
  refine (Any.strings_TrimPrefix Tryz.lays101 ⟨s.toArray⟩ ⟨t.toArray⟩ w).mono ?_
  rintro e w' ⟨rfl, rfl⟩
  exact ⟨rfl, Below.refl _ _⟩
theorem c212 (s t : Str) (hs : s.length ≤ 9223372036854775807) (ht : t.length < 4294967281) (ha : ∀ c ∈ t, c.toNat < 128) (Hp : List AObj) : AFun Tryz.prog 212 [strA s, strA t] Hp (strA (Lib.trimS s t)) := by
  refine AFun.lib (xs := [sv s, sv t]) (v := sv (Lib.trimS s t)) (fun G w => .v _ _) (fun w hg => ?_)
  refine (Any.strings_Trim_laid Tryz.lays160 (by kernel_rfl) ⟨s.toArray⟩ ⟨t.toArray⟩ w (by simpa [ByteArray.size] using hs) (by simpa [ByteArray.size] using ht) (fun j b hj => ha b (List.mem_of_getElem? hj))).mono ?_
  rintro e w' ⟨rfl, hb⟩
  exact ⟨rfl, hb⟩
theorem c213_ok (s : Str) (hs : s.length ≤ 1048576) (v : Int) (h : Lib.parseIntB 64 s = .ok v) (Hp : List AObj) : AFun Tryz.prog 213 [strA s, intA 10, intA 64] Hp (.tup [intA v, .v .nilIface]) := by
  refine AFun.lib (xs := [sv s, .int .i64 10, .int .i64 64]) (v := .tuple #[.int .i64 v, .nilIface]) (fun G w => rep_tup rfl (fun i y u hy hu => ?_)) (fun w hg => ?_)
  · match i with
    | 0 => simp at hy hu; subst hy; subst hu; exact .v _ _
    | 1 => simp at hy hu; subst hy; subst hu; exact .v _ _
    | i + 2 => simp at hy
  refine (Any.strconv_ParseInt_10_at64_ok Tryz.lays174 ⟨s.toArray⟩ (by simp [ByteArray.size]; omega) v h w).mono ?_
  rintro e w' ⟨rfl, rfl | ⟨t, rfl⟩⟩
  · exact ⟨rfl, Below.refl _ _⟩
  · exact ⟨rfl, Lib.bytesWorld_below _ _ _⟩
def rangeE (s : Str) : AV := .iface 253 (.ro [.v (sv [80, 97, 114, 115, 101, 73, 110, 116]), .v (sv s), .v (.iface 287 (.pointer (some ErrAt.b)))])
theorem c213_range (s : Str) (hs : s.length ≤ 1048576) (h : Lib.parseIntB 64 s = .range) (Hp : List AObj) : AFun Tryz.prog 213 [strA s, intA 10, intA 64] Hp (.tup [intA (Lib.intSat 64 s), rangeE s]) := by
  refine AFun.libErr (xs := [sv s, .int .i64 10, .int .i64 64]) (n := .int .i64 (Lib.intSat 64 s)) (cs := [sv [80, 97, 114, 115, 101, 73, 110, 116], sv s, .iface 287 (.pointer (some ErrAt.b))]) (te := 276) (fun y hy => ?_) (fun w hg => ?_)
  · simp only [List.mem_cons, List.mem_nil_iff, or_false] at hy
    rcases hy with rfl | rfl | rfl <;> rfl
  · refine (Any.strconv_ParseInt_10_at64_range Tryz.lays174 ⟨s.toArray⟩ (by simp [ByteArray.size]; omega) h (.iface 287 (.pointer (some ErrAt.b))) w (errRange_of hg) (.inr ⟨_, _, rfl⟩)).mono ?_
    rintro e w' ⟨N, rfl, h1, h2, h3⟩
    exact ⟨N, rfl, h1, h2, h3⟩
theorem c214_nil (Hp : List AObj) : AFun Tryz.prog 214 [.v .nilIface, .v (.iface 287 (.pointer (some ErrAt.b)))] Hp (boolA false) := by
  refine AFun.lib (xs := [.nilIface, .iface 287 (.pointer (some ErrAt.b))]) (v := .bool false) (fun G w => .v _ _) (fun w hg => ?_)
  refine (Tryz.is_nil _ w).mono ?_
  rintro e w' ⟨rfl, rfl⟩
  exact ⟨rfl, Below.refl _ _⟩
theorem c214_range (s : Str) (Hp : List AObj) : AFun Tryz.prog 214 [rangeE s, .v (.iface 287 (.pointer (some ErrAt.b)))] Hp (boolA true) := by
  intro d G w vs hn hv hH hT
  have hsz : vs.size = 2 := hn
  have h0 := hv 0 (rangeE s) vs[0] rfl (Array.getElem?_eq_getElem (by omega))
  have h1 := rep_v (hv 1 (.v (.iface 287 (.pointer (some ErrAt.b)))) vs[1] rfl (Array.getElem?_eq_getElem (by omega)))
  have hvs : vs = #[vs[0], vs[1]] := by
    apply Array.ext
    · exact hsz
    · intro i hi1 hi2
      match i with
      | 0 => rfl
      | 1 => rfl
      | i + 2 => omega
  unfold rangeE at h0
  generalize vs[0] = u0 at h0 hvs
  cases h0 with
  | iface _ _ _ u h =>
    cases h with
    | ro _ _ ad f hs h1' hf hr =>
      obtain ⟨ab, ao, asp⟩ := ad
      simp only at hs
      subst hs
      have hc := (hf 2 _ rfl).2
      have he := rep_v (hr 2 _ rfl)
      rw [he] at hc
      rw [hvs, h1]
      refine (callsIn_wide.2 (Tryz.is_range ab ao ErrAt.b w hc)).mono ?_
      rintro e w' ⟨rfl, rfl⟩
      exact ⟨_, G, _, Hp, rfl, .v _ _, hH, hT, Keep.refl _ _ _, rfl, rfl, rfl⟩
end Go.SX.Nb
namespace Go.SX.Nb
open Go Go.SX Go.Proofs
variable [ErrAt]
set_option maxRecDepth 4000
def kindText : Str := [32, 105, 110, 116, 32, 116, 101, 120, 116, 32, 98, 111, 111, 108]
def kindNames : List Str := [[], [105, 110, 116], [116, 101, 120, 116], [98, 111, 111, 108]]
theorem kindSplit : splitM kindText [32] = kindNames := by kernel_rfl
def kindNameM (k : Int) : Str := if k < 1 ∨ 3 < k then [] else kindNames.getD k.toNat []
theorem c69 (k : Int) (Hp : List AObj) : AFun Tryz.prog 69 [intA k] Hp (strA (kindNameM k)) := by
  refine ACall.body [.tmp 2] [0] Tryz.func69 Tryz.ntmps69 (fun d => ?_)
  refine AW.seqR ?_
  refine R.assign ?_
  refine R.fin [0] ?_
  refine W.seq ?_
  refine AW.seqR ?_
  refine R.move ?_
  refine R.lss ?_
  refine R.move ?_
  refine G.move ?_
  refine G.gtr ?_
  refine R.pickOr ?_
  refine R.fin [0, 8] ?_
  refine W.cond (fun ht8 => ?_) (fun ht8 => ?_)
  · skip
    refine AW.seqR ?_
    refine R.assign ?_
    refine R.fin [2] ?_
    refine AW.ret ?_
    refine K.thR ?_
    exact K.fin (V.one V.tmp) ⟨by rw [show kindNameM k = [] from if_pos (by simpa using ht8)], rfl⟩
  · skip
    refine AW.skip ?_
    refine K.thN ?_
    refine AW.seqR ?_
    have hk : 1 ≤ k ∧ k ≤ 3 := by simp at ht8; omega
    have hget : (kindNames.map strA)[k.toNat]? = some (strA (kindNames.getD k.toNat [])) := by
      have hlt : k.toNat < kindNames.length := by show k.toNat < 4; omega
      rw [List.getElem?_map, List.getElem?_eq_getElem hlt, List.getD_eq_getElem?_getD, List.getElem?_eq_getElem hlt]
      rfl
    refine R.call Tryz.call93 (kindSplit ▸ c93 kindText [32] (by decide) (by decide) _) ?_
    refine R.move ?_
    refine R.indexAddr (k.toNat) (strA (kindNames.getD k.toNat [])) Tryz.underlying50 Tryz.sizeOf9 hget ?_
    refine R.loadRo Tryz.isAgg9 ?_
    refine R.assign ?_
    refine R.fin [2] ?_
    refine AW.ret ?_
    exact K.fin (V.one V.tmp) ⟨by rw [show kindNameM k = kindNames.getD k.toNat [] from if_neg (by omega)], rfl⟩

def isMarkM (s of : Str) : Bool := (!(s == []) && !Lib.contains s [32]) && Lib.contains of ([32] ++ s ++ [32])
theorem c125 (s of : Str) (hs : s.length ≤ 1048576) (ho : of.length ≤ 1048576) (Hp : List AObj) : AFun Tryz.prog 125 [strA s, strA of] Hp (boolA (isMarkM s of)) := by
  refine ACall.body [.tmp 4] [0, 1] Tryz.func125 Tryz.ntmps125 (fun d => ?_)
  refine AW.seqR ?_
  refine R.assign ?_
  refine R.fin [0, 1] ?_
  refine AW.seqR ?_
  refine R.move ?_
  refine R.sneq ?_
  refine R.move ?_
  refine G.move ?_
  refine G.call Tryz.call67 (fun hB => c67 s [32] (by omega) _) ?_
  refine G.not ?_
  refine R.pickAnd ?_
  refine R.move ?_
  refine G.move ?_
  refine G.move ?_
  refine G.sadd ?_
  refine G.sadd ?_
  refine G.call Tryz.call67 (fun hB => c67 of ([32] ++ s ++ [32]) (by omega) _) ?_
  refine R.pickAnd ?_
  refine R.assign ?_
  refine R.fin [4] ?_
  refine AW.ret ?_
  exact K.fin (V.one V.tmp)

def arityText : Str := [108, 101, 110, 58, 49, 32, 115, 116, 114, 58, 49, 32, 110, 117, 109, 58, 49, 32, 105, 115, 110, 117, 108, 108, 58, 49, 32, 110, 118, 108, 58, 50, 32, 108, 101, 102, 116, 58, 50, 32, 114, 105, 103, 104, 116, 58, 50, 32, 105, 102, 58, 51]
def arityList : List (Str × UInt8) := [([108, 101, 110], 49), ([115, 116, 114], 49), ([110, 117, 109], 49), ([105, 115, 110, 117, 108, 108], 49), ([110, 118, 108], 50), ([108, 101, 102, 116], 50), ([114, 105, 103, 104, 116], 50), ([105, 102], 51)]
def pieceOf (p : Str × UInt8) : Str := p.1 ++ [58, p.2]
theorem aritySplit : splitM arityText [32] = arityList.map pieceOf := by kernel_rfl
theorem arityCut {p : Str × UInt8} (hp : p ∈ arityList) : Lib.cut (pieceOf p) [58] = (p.1, [p.2], true) := by
  have h : (arityList.all fun p => decide (Lib.cut (pieceOf p) [58] = (p.1, [p.2], true))) = true := by kernel_rfl
  exact of_decide_eq_true (List.all_eq_true.1 h p hp)
def arityV (p : Str × UInt8) : Int := IntKind.i64.wrap (IntKind.u8.wrap ((p.2.toNat : Int) - 48))
def arityM (nm : Str) : Int := match arityList.find? (fun p => p.1 == nm) with | some p => arityV p | none => -1
theorem find_at {α : Type} {p : α → Bool} {l : List α} {x : Nat} (h : x < l.length) (hp : p l[x] = true) (h2 : ∀ (j : Nat) (y : α), j < x → l[j]? = some y → p y = false) : l.find? p = some l[x] := by
  rw [List.find?_eq_some_iff_getElem]
  exact ⟨hp, x, h, rfl, fun j hj => by simpa using h2 j l[j] hj (List.getElem?_eq_getElem _)⟩
theorem find_none {α : Type} {p : α → Bool} {l : List α} (h : ∀ (j : Nat) (y : α), l[j]? = some y → p y = false) : l.find? p = none := by
  rw [List.find?_eq_none]
  intro y hy
  obtain ⟨j, hj⟩ := List.getElem?_of_mem hy
  simpa using h j y hj
theorem arity_len : arityList.length = 8 := rfl
theorem piece_len {p : Str × UInt8} (hp : p ∈ arityList) : (pieceOf p).length < 4294967281 := by
  have h : (arityList.all fun p => decide ((pieceOf p).length < 4294967281)) = true := by kernel_rfl
  exact of_decide_eq_true (List.all_eq_true.1 h p hp)
theorem c50 (nm : Str) (Hp : List AObj) : AFun Tryz.prog 50 [strA nm] Hp (intA (arityM nm)) := by
  refine ACall.body [.tmp 2] [0] Tryz.func50 Tryz.ntmps50 (fun d => ?_)
  refine AW.seqR ?_
  refine R.assign ?_
  refine R.fin [0] ?_
  refine W.seq ?_
  refine AW.seqR ?_
  refine R.call Tryz.call93 (aritySplit ▸ c93 arityText [32] (by decide) (by decide) _) ?_
  refine R.len Tryz.underlying50 ?_
  refine R.move ?_
  refine R.fin [0, 8, 9, 10] ?_
  refine AW.loopC (α := Nat) (fun x => ⟨28, setF 0 (strA nm) (setF 8 (strsA (arityList.map pieceOf)) (setF 9 (intA 8) (setF 10 (intA (x : Nat)) (fun _ => .any)))), Hp, [], [], none⟩) (fun x => x ≤ 8 ∧ ∀ (j : Nat) (y : Str × UInt8), j < x → arityList[j]? = some y → (y.1 == nm) = false) (fun x => 8 - x) (0) (by simp) (StLe.refl _) rfl (fun x hx => ?_)
  refine AW.seqR ?_
  refine R.lss ?_
  refine R.fin [0, 8, 9, 10, 11] ?_
  refine W.condX (fun ht11 => ?_) (fun ht11 => ?_)
  · skip
    have hlt : x < arityList.length := by rw [arity_len]; simp at ht11; omega
    have hal := arity_len
    have hget : ((arityList.map pieceOf).map strA)[x]? = some (strA (pieceOf arityList[x])) := by rw [List.map_map]; exact getMap hlt
    refine W.seq ?_
    refine AW.block ?_
    refine AW.seqR ?_
    refine R.indexAddr (x) (strA (pieceOf arityList[x])) Tryz.underlying50 Tryz.sizeOf9 hget ?_
    refine R.loadRo Tryz.isAgg9 ?_
    refine R.assign ?_
    refine R.fin [0, 4, 8, 9, 10] ?_
    refine AW.seqR ?_
    refine R.move ?_
    refine R.call Tryz.call94 ((arityCut (List.getElem_mem hlt)) ▸ c94 (pieceOf arityList[x]) [58] (piece_len (List.getElem_mem hlt)) _) ?_
    refine R.move ?_
    refine R.extract ?_
    refine R.extract ?_
    refine R.extract ?_
    refine R.assign ?_
    refine R.assign ?_
    refine R.assign ?_
    refine R.fin [0, 5, 6, 8, 9, 10] ?_
    refine AW.seqR ?_
    refine R.move ?_
    refine R.move ?_
    refine R.seql ?_
    refine R.fin [0, 6, 8, 9, 10, 22] ?_
    refine W.cond (fun ht22 => ?_) (fun ht22 => ?_)
    · skip
      refine AW.seqR ?_
      refine R.move ?_
      refine R.sindex 0 arityList[x].2 Tryz.underlying9 rfl  ?_
      refine R.sub ?_
      refine R.iconv Tryz.underlying5 Tryz.underlying3 ?_
      refine R.assign ?_
      refine R.fin [2] ?_
      refine AW.ret ?_
      refine K.blR ?_
      refine K.thR ?_
      refine K.lpR ?_
      refine K.thR ?_
      exact K.fin (V.one V.tmp) ⟨by rw [arityM, find_at hlt ht22 hx.2]; rfl, rfl⟩
    · skip
      refine AW.skip ?_
      refine K.blN ?_
      refine K.thN ?_
      refine AW.region ?_
      refine R.add64 ?_
      refine R.move ?_
      refine R.fin [0, 8, 9, 10] ?_
      exact K.lpN (x + 1) ⟨by omega, upto_succ hlt hx.2 ht22⟩ (by omega) (StCut.of_eq rfl)
  · skip
    have hal := arity_len
    refine K.lpE ?_
    refine K.thN ?_
    refine AW.seqR ?_
    refine R.assign ?_
    refine R.fin [2] ?_
    refine AW.ret ?_
    exact K.fin (V.one V.tmp) ⟨by rw [arityM, find_none (upto_all (by simp at ht11; omega) hx.2)], rfl⟩

end Go.SX.Nb
namespace Go.SX.Nb
open Go Go.SX Go.Proofs
variable [ErrAt]
set_option maxRecDepth 4000
def parV (s : Str) : Int := match Lib.parseIntB 64 s with | .ok v => v | _ => Lib.intSat 64 s
def parR (s : Str) : Bool := match Lib.parseIntB 64 s with | .ok _ => false | _ => true
def parE (s : Str) : AV := bif parR s then rangeE s else .v .nilIface
theorem strip_parE (s : Str) : (parE s).strip = parE s := by unfold parE; cases parR s <;> rfl
attribute [go_sem] strip_parE
theorem c213 (s : Str) (hs : s.length ≤ 1048576) (h : badN (Lib.parseIntB 64 s) = false) (Hp : List AObj) : AFun Tryz.prog 213 [strA s, intA 10, intA 64] Hp (.tup [intA (parV s), parE s]) := by
  cases hp : Lib.parseIntB 64 s with
  | ok v =>
    have := c213_ok s hs v hp Hp
    rwa [show v = parV s by unfold parV; rw [hp], show AV.v .nilIface = parE s by unfold parE parR; rw [hp]; rfl] at this
  | range =>
    have := c213_range s hs hp Hp
    rwa [show Lib.intSat 64 s = parV s by unfold parV; rw [hp], show rangeE s = parE s by unfold parE parR; rw [hp]; rfl] at this
  | _ => rw [hp] at h; cases h
theorem c214 (s : Str) (Hp : List AObj) : AFun Tryz.prog 214 [parE s, .v (.iface 287 (.pointer (some ErrAt.b)))] Hp (boolA (parR s)) := by
  unfold parE
  cases parR s
  · exact c214_nil Hp
  · exact c214_range s Hp
theorem trimP_le (s t : Str) : (Lib.trimPrefix s t).length ≤ s.length := by
  unfold Lib.trimPrefix; split <;> simp
theorem num_guard {d : Str} {b : Bool} (h : (((d == []) || b) == false) = true) : d ≠ [] := by rintro rfl; simp at h
theorem digs_ascii : ∀ c ∈ digs, c.toNat < 128 := by decide
theorem num_bad_eq (s : Str) : ((((Lib.trimPrefix s [45] == []) || (Lib.trimS (Lib.trimPrefix s [45]) digs != [])) || ((((Lib.trimPrefix s [45]).headD 0).toNat : Int) == 48 && decide ((1 : Int) < s.length)))) = numBad s := by
  unfold numBad numDs
  have e1 : ((((Lib.trimPrefix s [45]).headD 0).toNat : Int) == 48) = ((Lib.trimPrefix s [45]).headD 0 == 48) := by
    rw [Bool.eq_iff_iff]
    simp only [beq_iff_eq]
    constructor
    · intro h
      exact UInt8.toNat_inj.1 (by have : (48 : UInt8).toNat = 48 := rfl; omega)
    · intro h; rw [h]; rfl
  have e2 : decide ((1 : Int) < s.length) = decide (1 < s.length) := by rw [decide_eq_decide]; omega
  rw [e1, e2]
  rfl
theorem num_range {s : Str} (hb : numBad s = false) (h : parR s = true) : numReadM s = (0, 4) := by
  unfold numReadM
  rw [hb]
  have := num_not_syntax hb
  unfold parR at h
  revert h this
  cases Lib.parseIntB 64 s with
  | ok v => intro h; cases h
  | range => intro _ _; rfl
  | _ => intro _ h; cases h
theorem num_ok {s : Str} (hb : numBad s = false) (h : parR s = false) : numReadM s = (parV s, 0) := by
  unfold numReadM parV
  rw [hb]
  unfold parR at h
  revert h
  cases Lib.parseIntB 64 s with
  | ok v => intro h; rfl
  | _ => intro h; cases h
theorem take_min (s : Str) : s.take (min s.length 200) = s.take 200 := by
  rcases Nat.le_total s.length 200 with h | h
  · rw [Nat.min_eq_left h, List.take_of_length_le (Nat.le_refl _), List.take_of_length_le h]
  · rw [Nat.min_eq_right h]
theorem c191 (s : Str) (hs : s.length ≤ 1048576) (Hp : List AObj) : AFun Tryz.prog 191 [strA s] Hp (.tup [intA (numReadM s).1, intA (numReadM s).2]) := by
  refine ACall.body [.tmp 2, .tmp 3] [0] Tryz.func191 Tryz.ntmps191 (fun d => ?_)
  refine AW.seqR ?_
  refine R.assign ?_
  refine R.assign ?_
  refine R.fin [0] ?_
  refine AW.seqR ?_
  refine R.move ?_
  refine R.call Tryz.call211 (c211 s [45] _) ?_
  refine R.assign ?_
  refine R.fin [0, 4] ?_
  refine W.seq ?_
  refine AW.seqR ?_
  refine R.move ?_
  refine R.seql ?_
  refine R.move ?_
  refine G.move ?_
  refine G.call Tryz.call212 (fun hB => c212 (Lib.trimPrefix s [45]) digs (by have := trimP_le s [45]; omega) (by decide) digs_ascii _) ?_
  refine G.sneq ?_
  refine R.pickOr ?_
  refine R.move ?_
  refine G.move ?_
  refine G.sindex 0 ((Lib.trimPrefix s [45]).headD 0) Tryz.underlying9 (fun hB => headD_get (num_guard hB))  ?_
  refine G.eql ?_
  refine G.move ?_
  refine G.move ?_
  refine G.slen Tryz.underlying9 ?_
  refine G.gtr ?_
  refine G.pickAnd ?_
  refine R.pickOr ?_
  refine R.fin [0, 25] ?_
  refine W.cond (fun ht25 => ?_) (fun ht25 => ?_)
  · skip
    have hb : numBad s = true := by rw [← num_bad_eq]; exact ht25
    refine AW.seqR ?_
    refine R.assign ?_
    refine R.assign ?_
    refine R.fin [2, 3] ?_
    refine AW.ret ?_
    refine K.thR ?_
    exact K.fin (V.two V.tmp V.tmp) ⟨by rw [numReadM, hb]; rfl, rfl⟩
  · skip
    have hb : numBad s = false := by rw [← num_bad_eq]; exact ht25
    refine AW.skip ?_
    refine K.thN ?_
    refine AW.seqR ?_
    refine R.move ?_
    refine R.call Tryz.call213 (c213 s hs (num_not_syntax hb) _) ?_
    refine R.move ?_
    refine R.extract ?_
    refine R.extract ?_
    refine R.assign ?_
    refine R.assign ?_
    refine R.fin [5, 6] ?_
    refine W.seq ?_
    refine AW.seqR ?_
    refine R.move ?_
    refine R.loadGlob Tryz.isAgg112 (fun w hg => errRange_of hg) ?_
    refine R.call Tryz.call214 (c214 s _) ?_
    refine R.fin [5, 33] ?_
    refine W.cond (fun ht33 => ?_) (fun ht33 => ?_)
    · skip
      refine AW.seqR ?_
      refine R.assign ?_
      refine R.assign ?_
      refine R.fin [2, 3] ?_
      refine AW.ret ?_
      refine K.thR ?_
      exact K.fin (V.two V.tmp V.tmp) ⟨by rw [num_range hb ht33], rfl⟩
    · skip
      refine AW.skip ?_
      refine K.thN ?_
      refine AW.seqR ?_
      refine R.move ?_
      refine R.assign ?_
      refine R.assign ?_
      refine R.fin [2, 3] ?_
      refine AW.ret ?_
      exact K.fin (V.two V.tmp V.tmp) ⟨by rw [num_ok hb ht33], rfl⟩

theorem c202 (n : Int) (h0 : -9223372036854775808 ≤ n) (h1 : n ≤ 9223372036854775807) (Hp : List AObj) : AFun Tryz.prog 202 [intA n] Hp (strA (Lib.itoa n)) := by
  refine ACall.body [.tmp 2] [0] Tryz.func202 Tryz.ntmps202 (fun d => ?_)
  refine AW.seqR ?_
  refine R.assign ?_
  refine R.fin [0] ?_
  refine AW.seqR ?_
  refine R.move ?_
  refine R.call Tryz.call223 (c223 n h0 h1 _) ?_
  refine R.assign ?_
  refine R.fin [2] ?_
  refine AW.ret ?_
  exact K.fin (V.one V.tmp)

theorem c186 (Hp : List AObj) : AFun Tryz.prog 186 [] Hp (valA ⟨0, 0, []⟩) := by
  refine ACall.body [.cell 0 36] [] Tryz.func186 Tryz.ntmps186 (fun d => ?_)
  refine AW.seqR ?_
  refine R.alloc Tryz.zeroValue36 ?_
  refine R.fin [0] ?_
  refine AW.seqR ?_
  refine R.build (places := #[(0, 1), (1, 1), (2, 1)]) Tryz.underlying36 (fun w => by simp) Tryz.zeroValue36 ?_
  refine R.storeOwn Tryz.sizeOf36 ?_
  refine R.fin [0] ?_
  refine AW.ret ?_
  exact K.fin (V.one (V.cellN Tryz.isAgg36 Tryz.sizeOf36))

theorem c192 (n : Int) (Hp : List AObj) : AFun Tryz.prog 192 [intA n] Hp (valA ⟨1, n, []⟩) := by
  refine ACall.body [.cell 2 36] [0] Tryz.func192 Tryz.ntmps192 (fun d => ?_)
  refine AW.seqR ?_
  refine R.alloc Tryz.zeroValue36 ?_
  refine R.fin [0, 2] ?_
  refine AW.seqR ?_
  refine R.move ?_
  refine R.build (places := #[(0, 1), (1, 1), (2, 1)]) Tryz.underlying36 (fun w => by simp) Tryz.zeroValue36 ?_
  refine R.storeOwn Tryz.sizeOf36 ?_
  refine R.fin [2] ?_
  refine AW.ret ?_
  exact K.fin (V.one (V.cellN Tryz.isAgg36 Tryz.sizeOf36))

theorem c187 (b : Bool) (Hp : List AObj) : AFun Tryz.prog 187 [boolA b] Hp (valA ⟨3, if b then 1 else 0, []⟩) := by
  refine ACall.body [.cell 2 36] [0] Tryz.func187 Tryz.ntmps187 (fun d => ?_)
  refine AW.seqR ?_
  refine R.alloc Tryz.zeroValue36 ?_
  refine R.fin [0, 2] ?_
  refine AW.seqR ?_
  refine R.build (places := #[(0, 1), (1, 1), (2, 1)]) Tryz.underlying36 (fun w => by simp) Tryz.zeroValue36 ?_
  refine R.alloc Tryz.zeroValue36 ?_
  refine R.storeOwn Tryz.sizeOf36 ?_
  refine R.fin [0, 2, 3] ?_
  refine W.seq ?_
  refine AW.seqR ?_
  refine R.move ?_
  refine R.fin [2, 3, 5] ?_
  refine W.cond (fun ht5 => ?_) (fun ht5 => ?_)
  · skip
    refine AW.region ?_
    refine R.fieldAddrPtr (fo := 1) Tryz.underlying36 Tryz.sizeOf2 ?_
    refine R.storeOwn Tryz.sizeOf2 ?_
    refine R.fin [2, 3] ?_
    refine K.thN ?_
    refine AW.seqR ?_
    refine R.loadOwnN Tryz.isAgg36 Tryz.sizeOf36 ?_
    refine R.storeOwn Tryz.sizeOf36 ?_
    refine R.fin [2] ?_
    refine AW.ret ?_
    exact K.fin (V.one (V.cellN Tryz.isAgg36 Tryz.sizeOf36)) ⟨by simp [ht5], rfl⟩
  · skip
    refine AW.skip ?_
    refine K.thN ?_
    refine AW.seqR ?_
    refine R.loadOwnN Tryz.isAgg36 Tryz.sizeOf36 ?_
    refine R.storeOwn Tryz.sizeOf36 ?_
    refine R.fin [2] ?_
    refine AW.ret ?_
    exact K.fin (V.one (V.cellN Tryz.isAgg36 Tryz.sizeOf36)) ⟨by simp [ht5], rfl⟩

theorem c210 (s : Str) (Hp : List AObj) : AFun Tryz.prog 210 [strA s] Hp (valA ⟨2, 0, s.take 200⟩) := by
  refine ACall.body [.cell 2 36] [0] Tryz.func210 Tryz.ntmps210 (fun d => ?_)
  refine AW.seqR ?_
  refine R.alloc Tryz.zeroValue36 ?_
  refine R.fin [0, 2] ?_
  refine AW.seqR ?_
  refine R.move ?_
  refine R.move ?_
  refine R.slen Tryz.underlying9 ?_
  refine R.minI ?_
  refine R.scutH (min s.length 200) Tryz.underlying9 (Nat.zero_le _) (Nat.min_le_left _ _) (hb := by split <;> omega) ?_
  refine R.build (places := #[(0, 1), (1, 1), (2, 1)]) Tryz.underlying36 (fun w => by simp) Tryz.zeroValue36 ?_
  refine R.storeOwn Tryz.sizeOf36 ?_
  refine R.fin [2] ?_
  refine AW.ret ?_
  exact K.fin (V.one (V.cellN Tryz.isAgg36 Tryz.sizeOf36)) ⟨by rw [take_min], rfl⟩

end Go.SX.Nb
namespace Go.SX.Nb
open Go Go.SX Go.Proofs
variable [ErrAt]
set_option maxRecDepth 4000
theorem prefix_len {p s : Str} (h : p.isPrefixOf s = true) : p.length ≤ s.length := (List.isPrefixOf_iff_prefix.1 h).length_le
theorem index_fits (s o : Str) (h : 0 ≤ Lib.index s o) : (Lib.index s o).toNat + o.length ≤ s.length := by
  induction s with
  | nil =>
    unfold Lib.index at h ⊢
    split at h
    · rename_i he
      rw [if_pos he]
      cases o with
      | nil => simp
      | cons a b => simp at he
    · omega
  | cons b l ih =>
    unfold Lib.index at h ⊢
    split at h
    · rename_i hp
      rw [if_pos hp]
      have := prefix_len hp
      simpa using this
    · rename_i hp
      rw [if_neg hp]
      split at h
      · omega
      · rename_i hi
        rw [if_neg hi]
        have hg := Lib.index_ge l o
        have hi' : Lib.index l o ≠ -1 := by simpa using hi
        have := ih (by omega)
        simp only [List.length_cons]
        omega
def nullV : Val := ⟨0, 0, []⟩
def boolV (b : Bool) : Val := ⟨3, if b then 1 else 0, []⟩
def i64R (n : Int) : Prop := -9223372036854775808 ≤ n ∧ n ≤ 9223372036854775807
def printM (v : Val) : Str :=
  if !plainM v then [] else if v.kind == 1 then Lib.itoa v.n else if v.kind == 2 then [39] ++ Lib.replaceAll v.s [39] [39, 39] ++ [39]
  else if v.kind == 0 then [110, 117, 108, 108] else if v.n == 1 then [116, 114, 117, 101] else [102, 97, 108, 115, 101]
theorem plain_len {v : Val} (h : plainM v = true) (h2 : (v.kind == 2) = true) : v.s.length ≤ 200 := by
  have e : v.kind = 2 := by simpa using h2
  unfold plainM at h
  rw [e] at h
  simp at h
  omega
theorem count_bd (s o : Str) (ho : 1 ≤ o.length) : Lib.countB ⟨s.toArray⟩ ⟨o.toArray⟩ ≤ s.length := Lib.countB_le ⟨o.toArray⟩ (by simpa [ByteArray.size] using ho) s.length ⟨s.toArray⟩ (by simp [ByteArray.size])
theorem replaceK_le (o n : Str) (B : Nat) (hn : n.length ≤ B * o.length) (hB : 1 ≤ B) : ∀ (k : Nat) (s : Str), (Lib.replaceK o n k s).length ≤ B * s.length
  | 0, s => by rw [Lib.replaceK]; exact Nat.le_mul_of_pos_left _ hB
  | k + 1, s => by
    rw [Lib.replaceK]
    split
    · exact Nat.le_mul_of_pos_left _ hB
    · rename_i h
      have ih := replaceK_le o n B hn hB k (s.drop ((Lib.index s o).toNat + o.length))
      have hx : (Lib.index s o).toNat + o.length ≤ s.length := by
        have hg := Lib.index_ge s o
        have hi : Lib.index s o ≠ -1 := by simpa using h
        exact index_fits s o (by omega)
      simp only [List.length_append, List.length_drop, List.length_take] at ih ⊢
      have h1 : min (Lib.index s o).toNat s.length ≤ B * (Lib.index s o).toNat := Nat.le_trans (Nat.min_le_left _ _) (Nat.le_mul_of_pos_left _ hB)
      have h2 : B * s.length = B * (Lib.index s o).toNat + B * o.length + B * (s.length - ((Lib.index s o).toNat + o.length)) := by
        rw [← Nat.mul_add, ← Nat.mul_add]; congr 1; omega
      omega
theorem replaceAll_le (s o n : Str) (B : Nat) (hn : n.length ≤ B * o.length) (hB : 1 ≤ B) : (Lib.replaceAll s o n).length ≤ B * s.length := by
  unfold Lib.replaceAll Lib.replace
  split
  · exact Nat.le_mul_of_pos_left _ hB
  · exact replaceK_le o n B hn hB _ s
theorem c178 (v : Val) (hn : i64R v.n) (Hp : List AObj) : AFun Tryz.prog 178 [valA v] Hp (strA (printM v)) := by
  refine ACall.body [.tmp 2] [0] Tryz.func178 Tryz.ntmps178 (fun d => ?_)
  refine AW.seqR ?_
  refine R.boxRo ?_
  refine R.assign ?_
  refine R.fin [1] ?_
  refine W.seq ?_
  refine AW.block ?_
  refine AW.seqR ?_
  refine R.loadRoN Tryz.isAgg36 Tryz.sizeOf36 ?_
  refine R.call Tryz.call124 (c124 v _) ?_
  refine R.not ?_
  refine R.assign ?_
  refine R.fin [1, 3] ?_
  refine W.cond (fun ht3 => ?_) (fun ht3 => ?_)
  · skip
    refine AW.seqR ?_
    refine R.assign ?_
    refine R.fin [2] ?_
    refine AW.ret ?_
    refine K.blR ?_
    refine K.thR ?_
    exact K.fin (V.one V.tmp) ⟨by simp only [printM, ht3, if_true], rfl⟩
  · skip
    have hp : plainM v = true := by simpa using ht3
    refine AW.seqR ?_
    refine R.fieldAddrRo (off := 0) Tryz.underlying36 Tryz.sizeOf3 ?_
    refine R.loadRo Tryz.isAgg3 ?_
    refine R.eql ?_
    refine R.assign ?_
    refine R.fin [1, 7] ?_
    refine W.cond (fun ht7 => ?_) (fun ht7 => ?_)
    · skip
      refine AW.seqR ?_
      refine R.fieldAddrRo (off := 1) Tryz.underlying36 Tryz.sizeOf2 ?_
      refine R.loadRo Tryz.isAgg2 ?_
      refine R.call Tryz.call202 (c202 v.n hn.1 hn.2 _) ?_
      refine R.assign ?_
      refine R.fin [2] ?_
      refine AW.ret ?_
      refine K.blR ?_
      refine K.thR ?_
      exact K.fin (V.one V.tmp) ⟨by simp only [printM, hp, ht7, Bool.not_true, Bool.false_eq_true, if_false, if_true]; try rfl, rfl⟩
    · skip
      refine AW.seqR ?_
      refine R.fieldAddrRo (off := 0) Tryz.underlying36 Tryz.sizeOf3 ?_
      refine R.loadRo Tryz.isAgg3 ?_
      refine R.eql ?_
      refine R.assign ?_
      refine R.fin [1, 14] ?_
      refine W.cond (fun ht14 => ?_) (fun ht14 => ?_)
      · skip
        refine AW.seqR ?_
        refine R.fieldAddrRo (off := 2) Tryz.underlying36 Tryz.sizeOf9 ?_
        refine R.loadRo Tryz.isAgg9 ?_
        have hl := plain_len hp ht14
        have hrl := replaceAll_le v.s [39] [39, 39] 2 (by decide) (by decide)
        refine R.call Tryz.call203 (c203 v.s [39] [39, 39] (by omega) (by decide) (by have := count_bd v.s [39] (by decide); simp; omega) _) ?_
        refine R.sadd ?_
        refine R.sadd ?_
        refine R.assign ?_
        refine R.fin [2] ?_
        refine AW.ret ?_
        refine K.blR ?_
        refine K.thR ?_
        exact K.fin (V.one V.tmp) ⟨by simp only [printM, hp, ht7, ht14, Bool.not_true, Bool.false_eq_true, if_false, if_true]; try rfl, rfl⟩
      · skip
        refine AW.seqR ?_
        refine R.fieldAddrRo (off := 0) Tryz.underlying36 Tryz.sizeOf3 ?_
        refine R.loadRo Tryz.isAgg3 ?_
        refine R.eql ?_
        refine R.assign ?_
        refine R.fin [1, 23] ?_
        refine W.cond (fun ht23 => ?_) (fun ht23 => ?_)
        · skip
          refine AW.seqR ?_
          refine R.assign ?_
          refine R.fin [2] ?_
          refine AW.ret ?_
          refine K.blR ?_
          refine K.thR ?_
          exact K.fin (V.one V.tmp) ⟨by simp only [printM, hp, ht7, ht14, ht23, Bool.not_true, Bool.false_eq_true, if_false, if_true]; try rfl, rfl⟩
        · skip
          refine AW.seqR ?_
          refine R.fieldAddrRo (off := 1) Tryz.underlying36 Tryz.sizeOf2 ?_
          refine R.loadRo Tryz.isAgg2 ?_
          refine R.eql ?_
          refine R.assign ?_
          refine R.fin [27] ?_
          refine W.cond (fun ht27 => ?_) (fun ht27 => ?_)
          · skip
            refine AW.seqR ?_
            refine R.assign ?_
            refine R.fin [2] ?_
            refine AW.ret ?_
            refine K.blR ?_
            refine K.thR ?_
            exact K.fin (V.one V.tmp) ⟨by simp only [printM, hp, ht7, ht14, ht23, ht27, Bool.not_true, Bool.false_eq_true, if_false, if_true]; try rfl, rfl⟩
          · skip
            refine AW.skip ?_
            refine K.blN ?_
            refine K.thN ?_
            refine AW.seqR ?_
            refine R.assign ?_
            refine R.fin [2] ?_
            refine AW.ret ?_
            exact K.fin (V.one V.tmp) ⟨by simp only [printM, hp, ht7, ht14, ht23, ht27, Bool.not_true, Bool.false_eq_true, if_false, if_true]; try rfl, rfl⟩

def innerM (s : Str) : Str := Lib.replaceAll ((s.take (s.length - 1)).drop 1) [39, 39] [39]
def textV (s : Str) : Val := ⟨2, 0, (innerM s).take 200⟩
def textR (s : Str) : Val × Int := if !(printM (textV s) == s) then (nullV, 7) else (textV s, 0)
theorem c190 (s : Str) (h2 : 2 ≤ s.length) (hs : s.length ≤ 1048576) (Hp : List AObj) : AFun Tryz.prog 190 [strA s] Hp (.tup [valA (textR s).1, intA (textR s).2]) := by
  refine ACall.body [.cell 2 36, .tmp 3] [0] Tryz.func190 Tryz.ntmps190 (fun d => ?_)
  refine AW.seqR ?_
  refine R.alloc Tryz.zeroValue36 ?_
  refine R.assign ?_
  refine R.fin [0, 2] ?_
  refine AW.seqR ?_
  refine R.move ?_
  refine R.move ?_
  refine R.slen Tryz.underlying9 ?_
  refine R.sub64 ?_
  refine R.scutLH 1 (s.length - 1) Tryz.underlying9 (show 1 ≤ s.length - 1 by omega) (show s.length - 1 ≤ s.length by omega) ?_
  refine R.call Tryz.call203 (c203 ((s.take (s.length - 1)).drop 1) [39, 39] [39] (by simp; omega) (by decide) (by have := count_bd ((s.take (s.length - 1)).drop 1) [39, 39] (by decide); simp at this ⊢; omega) _) ?_
  refine R.assign ?_
  refine R.fin [0, 2, 4] ?_
  refine AW.seqR ?_
  refine R.move ?_
  refine R.call Tryz.call210 (c210 (innerM s) _) ?_
  refine R.alloc Tryz.zeroValue36 ?_
  refine R.storeOwn Tryz.sizeOf36 ?_
  refine R.fin [0, 2, 5] ?_
  refine W.seq ?_
  refine AW.seqR ?_
  refine R.loadOwnN Tryz.isAgg36 Tryz.sizeOf36 ?_
  refine R.call Tryz.call178 (c178 (textV s) ⟨by show (-9223372036854775808 : Int) ≤ 0; decide, by show (0 : Int) ≤ 9223372036854775807; decide⟩ _) ?_
  refine R.move ?_
  refine R.sneq ?_
  refine R.fin [2, 5, 17] ?_
  refine W.cond (fun ht17 => ?_) (fun ht17 => ?_)
  · skip
    refine AW.seqR ?_
    refine R.build (places := #[(0, 1), (1, 1), (2, 1)]) Tryz.underlying36 (fun w => by simp) Tryz.zeroValue36 ?_
    refine R.storeOwn Tryz.sizeOf36 ?_
    refine R.assign ?_
    refine R.fin [2, 3] ?_
    refine AW.ret ?_
    refine K.thR ?_
    exact K.fin (V.two (V.cellN Tryz.isAgg36 Tryz.sizeOf36) V.tmp) ⟨by simp only [textR, ht17, if_true, if_false, Bool.false_eq_true]; rfl, rfl⟩
  · skip
    refine AW.skip ?_
    refine K.thN ?_
    refine AW.seqR ?_
    refine R.loadOwnN Tryz.isAgg36 Tryz.sizeOf36 ?_
    refine R.storeOwn Tryz.sizeOf36 ?_
    refine R.assign ?_
    refine R.fin [2, 3] ?_
    refine AW.ret ?_
    exact K.fin (V.two (V.cellN Tryz.isAgg36 Tryz.sizeOf36) V.tmp) ⟨by simp only [textR, ht17, if_true, if_false, Bool.false_eq_true]; rfl, rfl⟩

def quotM (s : Str) : Bool := (decide ((1 : Int) < s.length) && Lib.hasPrefix s [39]) && Lib.hasSuffix s [39]
def readM (s : Str) : Val × Int :=
  if s == [110, 117, 108, 108] then (nullV, 0) else if (s == [116, 114, 117, 101]) || (s == [102, 97, 108, 115, 101]) then (boolV (s == [116, 114, 117, 101]), 0)
  else if quotM s then textR s else if (numReadM s).2 == 0 then (⟨1, (numReadM s).1, []⟩, 0) else if (numReadM s).2 == 4 then (nullV, 4) else (nullV, 7)
theorem quot_len {s : Str} (h : quotM s = true) : 2 ≤ s.length := by
  unfold quotM at h
  simp only [Bool.and_eq_true, decide_eq_true_eq] at h
  omega
theorem c164 (s : Str) (hs : s.length ≤ 1048576) (Hp : List AObj) : AFun Tryz.prog 164 [strA s] Hp (.tup [valA (readM s).1, intA (readM s).2]) := by
  refine ACall.body [.cell 2 36, .tmp 3] [0] Tryz.func164 Tryz.ntmps164 (fun d => ?_)
  refine AW.seqR ?_
  refine R.alloc Tryz.zeroValue36 ?_
  refine R.assign ?_
  refine R.fin [0, 2] ?_
  refine W.seq ?_
  refine AW.block ?_
  refine AW.seqR ?_
  refine R.move ?_
  refine R.seql ?_
  refine R.assign ?_
  refine R.fin [0, 2, 6] ?_
  refine W.cond (fun ht6 => ?_) (fun ht6 => ?_)
  · skip
    refine AW.seqR ?_
    refine R.call Tryz.call186 (c186 _) ?_
    refine R.storeOwn Tryz.sizeOf36 ?_
    refine R.assign ?_
    refine R.fin [2, 3] ?_
    refine AW.ret ?_
    refine K.blR ?_
    refine K.thR ?_
    exact K.fin (V.two (V.cellN Tryz.isAgg36 Tryz.sizeOf36) V.tmp) ⟨by simp only [readM, ht6, if_true, if_false, Bool.false_eq_true]; try rfl, rfl⟩
  · skip
    refine AW.seqR ?_
    refine R.move ?_
    refine R.seql ?_
    refine R.move ?_
    refine G.move ?_
    refine G.seql ?_
    refine R.pickOr ?_
    refine R.assign ?_
    refine R.fin [0, 2, 10] ?_
    refine W.cond (fun ht10 => ?_) (fun ht10 => ?_)
    · skip
      refine AW.seqR ?_
      refine R.move ?_
      refine R.seql ?_
      refine R.call Tryz.call187 (c187 (s == [116, 114, 117, 101]) _) ?_
      refine R.storeOwn Tryz.sizeOf36 ?_
      refine R.assign ?_
      refine R.fin [2, 3] ?_
      refine AW.ret ?_
      refine K.blR ?_
      refine K.thR ?_
      exact K.fin (V.two (V.cellN Tryz.isAgg36 Tryz.sizeOf36) V.tmp) ⟨by simp only [readM, ht6, ht10, if_true, if_false, Bool.false_eq_true]; try rfl, rfl⟩
    · skip
      refine AW.seqR ?_
      refine R.move ?_
      refine R.slen Tryz.underlying9 ?_
      refine R.gtr ?_
      refine R.move ?_
      refine G.move ?_
      refine G.call Tryz.call188 (fun hB => c188 s [39] _) ?_
      refine R.pickAnd ?_
      refine R.move ?_
      refine G.move ?_
      refine G.call Tryz.call189 (fun hB => c189 s [39] (by omega) _) ?_
      refine R.pickAnd ?_
      refine R.assign ?_
      refine R.fin [0, 2, 20] ?_
      refine W.cond (fun ht20 => ?_) (fun ht20 => ?_)
      · skip
        have hq : quotM s = true := ht20
        refine AW.seqR ?_
        refine R.move ?_
        refine R.call Tryz.call190 (c190 s (quot_len hq) hs _) ?_
        refine R.extract ?_
        refine R.extract ?_
        refine R.storeOwn Tryz.sizeOf36 ?_
        refine R.assign ?_
        refine R.fin [2, 3] ?_
        refine AW.ret ?_
        refine K.blR ?_
        refine K.thR ?_
        exact K.fin (V.two (V.cellN Tryz.isAgg36 Tryz.sizeOf36) V.tmp) ⟨by simp only [readM, ht6, ht10, hq, if_true, if_false, Bool.false_eq_true]; try rfl, rfl⟩
      · skip
        have hq : quotM s = false := ht20
        refine AW.skip ?_
        refine K.blN ?_
        refine K.thN ?_
        refine AW.seqR ?_
        refine R.move ?_
        refine R.call Tryz.call191 (c191 s hs _) ?_
        refine R.move ?_
        refine R.extract ?_
        refine R.extract ?_
        refine R.assign ?_
        refine R.assign ?_
        refine R.fin [2, 4, 5] ?_
        refine W.seq ?_
        refine AW.seqR ?_
        refine R.move ?_
        refine R.fin [2, 4, 5, 41] ?_
        refine AW.block ?_
        refine AW.seqR ?_
        refine R.eql ?_
        refine R.assign ?_
        refine R.fin [2, 4, 5, 41, 42] ?_
        refine W.cond (fun ht42 => ?_) (fun ht42 => ?_)
        · skip
          refine AW.seqR ?_
          refine R.move ?_
          refine R.call Tryz.call192 (c192 (numReadM s).1 _) ?_
          refine R.storeOwn Tryz.sizeOf36 ?_
          refine R.assign ?_
          refine R.fin [2, 3] ?_
          refine AW.ret ?_
          refine K.blR ?_
          refine K.thR ?_
          exact K.fin (V.two (V.cellN Tryz.isAgg36 Tryz.sizeOf36) V.tmp) ⟨by simp only [readM, ht6, ht10, hq, ht42, if_true, if_false, Bool.false_eq_true]; try rfl, rfl⟩
        · skip
          refine AW.seqR ?_
          refine R.eql ?_
          refine R.assign ?_
          refine R.fin [2, 5, 46] ?_
          refine W.cond (fun ht46 => ?_) (fun ht46 => ?_)
          · skip
            refine AW.seqR ?_
            refine R.build (places := #[(0, 1), (1, 1), (2, 1)]) Tryz.underlying36 (fun w => by simp) Tryz.zeroValue36 ?_
            refine R.move ?_
            refine R.storeOwn Tryz.sizeOf36 ?_
            refine R.assign ?_
            refine R.fin [2, 3] ?_
            refine AW.ret ?_
            refine K.blR ?_
            refine K.thR ?_
            exact K.fin (V.two (V.cellN Tryz.isAgg36 Tryz.sizeOf36) V.tmp) ⟨by simp only [readM, ht6, ht10, hq, ht42, ht46, if_true, if_false, Bool.false_eq_true]; rw [show (numReadM s).2 = 4 by simpa using ht46]; rfl, rfl⟩
          · skip
            refine AW.skip ?_
            refine K.blN ?_
            refine K.thN ?_
            refine AW.seqR ?_
            refine R.build (places := #[(0, 1), (1, 1), (2, 1)]) Tryz.underlying36 (fun w => by simp) Tryz.zeroValue36 ?_
            refine R.storeOwn Tryz.sizeOf36 ?_
            refine R.assign ?_
            refine R.fin [2, 3] ?_
            refine AW.ret ?_
            exact K.fin (V.two (V.cellN Tryz.isAgg36 Tryz.sizeOf36) V.tmp) ⟨by simp only [readM, ht6, ht10, hq, ht42, ht46, if_true, if_false, Bool.false_eq_true]; try rfl, rfl⟩

end Go.SX.Nb
namespace Go.SX.Nb
open Go Go.SX Go.Proofs
variable [ErrAt]
set_option maxRecDepth 4000
def blanks : Str := [32, 9, 10]
/-- What stands behind blanks and notes. -/
def skipB : Str → Bool → Str
  | [], _ => []
  | c :: r, false => if blanks.contains c then skipB r false else if c == 35 then skipB r true else c :: r
  | c :: r, true => if c == 10 then skipB r false else skipB r true
def runN (s of : Str) : Nat := s.length - (Lib.trimLeftS s of).length
theorem runM_eq (s of : Str) : runM s of = (runN s of : Int) := by
  have := trim_le s of
  unfold runM runN
  omega
theorem runN_le (s of : Str) : runN s of ≤ s.length := Nat.sub_le _ _
theorem drop_run (s of : Str) : s.drop (runN s of) = Lib.trimLeftS s of := by
  unfold runN Lib.trimLeftS
  have h : ∀ l : Str, l.drop (l.length - (l.dropWhile (of.contains ·)).length) = l.dropWhile (of.contains ·) := by
    intro l
    have e := List.takeWhile_append_dropWhile (p := (of.contains ·)) (l := l)
    have hl : l.length - (l.dropWhile (of.contains ·)).length = (l.takeWhile (of.contains ·)).length := by
      have := congrArg List.length e
      simp only [List.length_append] at this
      omega
    rw [hl]
    conv => lhs; rw [← e]
    rw [List.drop_left']
    rw [e]
  exact h s
theorem take_run (s of : Str) : s.take (runN s of) = s.takeWhile (of.contains ·) := by
  have e := List.takeWhile_append_dropWhile (p := (of.contains ·)) (l := s)
  have hl : runN s of = (s.takeWhile (of.contains ·)).length := by
    unfold runN Lib.trimLeftS
    have := congrArg List.length e
    simp only [List.length_append] at this
    omega
  rw [hl]
  conv => lhs; rw [← e]
  rw [List.take_left']
  rw [e]
theorem skip_trim : ∀ s : Str, skipB (Lib.trimLeftS s blanks) false = skipB s false
  | [] => rfl
  | c :: r => by
    unfold Lib.trimLeftS
    rw [List.dropWhile_cons]
    by_cases h : blanks.contains c = true
    · rw [if_pos h, skipB, if_pos h]
      exact skip_trim r
    · rw [if_neg h]
theorem trim_head (of : Str) : ∀ (s : Str) (c : UInt8) (t : Str), Lib.trimLeftS s of = c :: t → of.contains c = false
  | [], c, t, h => by cases h
  | b :: r, c, t, h => by
    unfold Lib.trimLeftS at h
    rw [List.dropWhile_cons] at h
    split at h
    · exact trim_head of r c t h
    · rename_i hb
      injection h with h1 h2
      subst h1
      simpa using hb
def afterNl : Str → Str
  | [] => []
  | c :: r => if c == 10 then r else afterNl r
theorem cut_nl (s : Str) : (Lib.cut s [10]).2.1 = afterNl s := by
  unfold Lib.cut
  induction s with
  | nil => rfl
  | cons c r ih =>
    have hg := Lib.index_ge r [10]
    rw [afterNl]
    unfold Lib.index
    by_cases hc : c = 10
    · subst hc
      simp [List.isPrefixOf]
    · have h1 : ([10] : Str).isPrefixOf (c :: r) = false := by simp [List.isPrefixOf, Ne.symm hc]
      have h2 : (c == 10) = false := by simpa using hc
      rw [h1, h2]
      simp only [Bool.false_eq_true, if_false]
      by_cases hi : Lib.index r [10] = -1
      · rw [hi] at ih ⊢
        simpa using ih
      · have h3 : (Lib.index r [10] == -1) = false := by simpa using hi
        rw [h3]
        simp only [Bool.false_eq_true, if_false]
        rw [if_pos (by omega)] at ih ⊢
        have e : (Lib.index r [10] + 1).toNat = (Lib.index r [10]).toNat + 1 := by omega
        rw [e]
        rw [← ih]
        show (c :: r).drop _ = _
        rw [show (Lib.index r [10]).toNat + 1 + ([10] : Str).length = ((Lib.index r [10]).toNat + ([10] : Str).length) + 1 by omega, List.drop_succ_cons]
theorem skip_note : ∀ t : Str, skipB t true = skipB (afterNl t) false
  | [] => rfl
  | c :: r => by
    rw [skipB, afterNl]
    split
    · rfl
    · exact skip_note r
theorem afterNl_le : ∀ t : Str, (afterNl t).length ≤ t.length
  | [] => Nat.le_refl _
  | c :: r => by
    rw [afterNl]
    split
    · simp
    · have := afterNl_le r; simp only [List.length_cons]; omega
theorem skip_le : ∀ (s : Str) (b : Bool), (skipB s b).length ≤ s.length
  | [], b => by simp [skipB]
  | c :: r, false => by
    rw [skipB]
    split
    · have := skip_le r false; simp only [List.length_cons]; omega
    · split
      · have := skip_le r true; simp only [List.length_cons]; omega
      · exact Nat.le_refl _
  | c :: r, true => by
    rw [skipB]
    split
    · have := skip_le r false; simp only [List.length_cons]; omega
    · have := skip_le r true; simp only [List.length_cons]; omega
def gapM (s : Str) : Nat := s.length - (skipB s false).length
theorem emp_guard {d : Str} (h : ((d == []) == false) = true) : d ≠ [] := by rintro rfl; simp at h
theorem blanks_ascii : ∀ c ∈ blanks, c.toNat < 128 := by decide
/-- The gap is at its end. -/
theorem gap_end {x s : Str} (hx : skipB x false = skipB s false) (h : ((Lib.trimLeftS x blanks == []) || ((((Lib.trimLeftS x blanks).headD 0).toNat : Int) != 35)) = true) : skipB s false = Lib.trimLeftS x blanks := by
  rw [← hx, ← skip_trim]
  cases ht : Lib.trimLeftS x blanks with
  | nil => rfl
  | cons c t =>
    rw [ht] at h
    have hb := trim_head blanks x c t ht
    have hc : (c == 35) = false := by
      simp at h
      rw [beq_eq_false_iff_ne]
      rintro rfl
      exact h rfl
    rw [skipB, hb, hc]
    rfl
theorem gap_on {x s : Str} (hx : skipB x false = skipB s false) (h : ((Lib.trimLeftS x blanks == []) || ((((Lib.trimLeftS x blanks).headD 0).toNat : Int) != 35)) = false) :
    skipB (Lib.cut (Lib.trimLeftS x blanks) [10]).2.1 false = skipB s false ∧ (Lib.cut (Lib.trimLeftS x blanks) [10]).2.1.length < x.length := by
  have hl := trim_le x blanks
  rw [cut_nl, ← hx, ← skip_trim x]
  cases ht : Lib.trimLeftS x blanks with
  | nil => rw [ht] at h; simp at h
  | cons c t =>
    rw [ht] at h hl
    have hc : c = 35 := by
      simp at h
      exact UInt8.toNat_inj.1 (by have : (35 : UInt8).toNat = 35 := rfl; omega)
    subst hc
    have ha := afterNl_le t
    refine ⟨?_, ?_⟩
    · rw [afterNl, skipB]
      have e1 : blanks.contains 35 = false := by decide
      rw [e1]
      exact (skip_note t).symm
    · rw [afterNl]
      simp only [List.length_cons] at hl
      show (afterNl t).length < _
      omega
theorem c104 (s : Str) (hs : s.length ≤ 1048576) (Hp : List AObj) : AFun Tryz.prog 104 [strA s] Hp (intA (gapM s)) := by
  refine ACall.body [.tmp 2] [0] Tryz.func104 Tryz.ntmps104 (fun d => ?_)
  refine AW.seqR ?_
  refine R.assign ?_
  refine R.fin [0] ?_
  refine AW.seqR ?_
  refine R.move ?_
  refine R.assign ?_
  refine R.fin [0, 3] ?_
  refine AW.loopC (α := Str) (fun x => ⟨27, setF 0 (strA s) (setF 3 (strA x) (fun _ => .any)), Hp, [], [], none⟩) (fun x => skipB x false = skipB s false ∧ x.length ≤ s.length) (fun x => x.length) (s) (by simp) (StLe.refl _) rfl (fun x hx => ?_)
  refine AW.block ?_
  refine AW.seqR ?_
  have hx2 := hx.2
  have htl := trim_le x blanks
  refine R.move ?_
  refine R.move ?_
  refine R.call Tryz.call63 (c63 x blanks (by omega) (by decide) blanks_ascii _) ?_
  refine R.scutL (runN x blanks) Tryz.underlying9 (runN_le _ _) (Nat.le_refl _) (ha := runM_eq x blanks) ?_
  rw [drop_run]
  refine R.assign ?_
  refine R.fin [0, 3] ?_
  refine W.seq ?_
  refine AW.seqR ?_
  refine R.move ?_
  refine R.seql ?_
  refine R.move ?_
  refine G.move ?_
  refine G.sindex 0 ((Lib.trimLeftS x blanks).headD 0) Tryz.underlying9 (fun hB => headD_get (emp_guard hB))  ?_
  refine G.neq ?_
  refine R.pickOr ?_
  refine R.fin [0, 3, 15] ?_
  refine W.cond (fun ht15 => ?_) (fun ht15 => ?_)
  · skip
    have he := gap_end hx.1 ht15
    refine AW.seqR ?_
    refine R.move ?_
    refine R.slen Tryz.underlying9 ?_
    refine R.move ?_
    refine R.slen Tryz.underlying9 ?_
    skip
    refine R.sub64 ?_
    refine R.assign ?_
    refine R.fin [2] ?_
    refine AW.ret ?_
    refine K.thR ?_
    refine K.blR ?_
    refine K.lpR ?_
    exact K.fin (V.one V.tmp) ⟨by rw [show ((s.length : Int) - (Lib.trimLeftS x blanks).length) = (gapM s : Int) by unfold gapM; rw [he]; omega], rfl⟩
  · skip
    have he := gap_on hx.1 ht15
    refine AW.skip ?_
    refine K.thN ?_
    refine AW.region ?_
    refine R.move ?_
    refine R.call Tryz.call94 (c94 (Lib.trimLeftS x blanks) [10] (by omega) _) ?_
    refine R.move ?_
    refine R.extract ?_
    refine R.extract ?_
    refine R.extract ?_
    refine R.assign ?_
    refine R.fin [0, 3] ?_
    refine K.blN ?_
    exact K.lpN _ ⟨he.1, by omega⟩ he.2 (StCut.of_eq rfl)

def wordOf (s of : Str) : Str := s.take (runN s of)
theorem wordOf_le (s of : Str) : (wordOf s of).length ≤ s.length := by unfold wordOf; simp; omega
def namedM (s : Str) : Int × Str × Int × Int :=
  if lexReservedM (wordOf s tails) then (2, wordOf s tails, (wordOf s tails).length, 0) else if !lexNameM (wordOf s tails) then (0, [], 0, 3) else (1, wordOf s tails, (wordOf s tails).length, 0)
abbrev lexA (r : Int × Str × Int × Int) : AV := .tup [intA r.1, strA r.2.1, intA r.2.2.1, intA r.2.2.2]
theorem tails_ascii : ∀ c ∈ tails, c.toNat < 128 := by decide
theorem letters_ascii : ∀ c ∈ letters, c.toNat < 128 := by decide
theorem c138 (s : Str) (hs : s.length ≤ 1048576) (Hp : List AObj) : AFun Tryz.prog 138 [strA s] Hp (lexA (namedM s)) := by
  refine ACall.body [.tmp 2, .tmp 3, .tmp 4, .tmp 5] [0] Tryz.func138 Tryz.ntmps138 (fun d => ?_)
  refine AW.seqR ?_
  refine R.assign ?_
  refine R.assign ?_
  refine R.assign ?_
  refine R.assign ?_
  refine R.fin [0] ?_
  refine AW.seqR ?_
  refine R.move ?_
  refine R.move ?_
  refine R.call Tryz.call63 (c63 s tails hs (by decide) tails_ascii _) ?_
  refine R.scutH (runN s tails) Tryz.underlying9 (Nat.zero_le _) (runN_le _ _) (hb := runM_eq s tails) ?_
  refine R.assign ?_
  refine R.fin [6] ?_
  refine W.seq ?_
  refine AW.block ?_
  refine AW.seqR ?_
  refine R.move ?_
  refine R.call Tryz.call17 (c17 (wordOf s tails) (by have := wordOf_le s tails; omega) _) ?_
  refine R.assign ?_
  refine R.fin [6, 11] ?_
  refine W.cond (fun ht11 => ?_) (fun ht11 => ?_)
  · skip
    refine AW.seqR ?_
    have hwl := wordOf_le s tails
    refine R.move ?_
    refine R.move ?_
    refine R.slen Tryz.underlying9 ?_
    refine R.assign ?_
    refine R.assign ?_
    refine R.assign ?_
    refine R.assign ?_
    refine R.fin [2, 3, 4, 5] ?_
    refine AW.ret ?_
    refine K.blR ?_
    refine K.thR ?_
    exact K.fin (V.four V.tmp V.tmp V.tmp V.tmp) ⟨by simp only [namedM, ht11, if_true, if_false, Bool.false_eq_true]; try rfl, rfl⟩
  · skip
    refine AW.seqR ?_
    refine R.move ?_
    refine R.call Tryz.call14 (c14 (wordOf s tails) (by have := wordOf_le s tails; omega) _) ?_
    refine R.not ?_
    refine R.assign ?_
    refine R.fin [6, 17] ?_
    refine W.cond (fun ht17 => ?_) (fun ht17 => ?_)
    · skip
      refine AW.seqR ?_
      refine R.assign ?_
      refine R.assign ?_
      refine R.assign ?_
      refine R.assign ?_
      refine R.fin [2, 3, 4, 5] ?_
      refine AW.ret ?_
      refine K.blR ?_
      refine K.thR ?_
      exact K.fin (V.four V.tmp V.tmp V.tmp V.tmp) ⟨by simp only [namedM, ht11, ht17, if_true, if_false, Bool.false_eq_true]; try rfl, rfl⟩
    · skip
      refine AW.skip ?_
      refine K.blN ?_
      refine K.thN ?_
      refine AW.seqR ?_
      have hwl := wordOf_le s tails
      refine R.move ?_
      refine R.move ?_
      refine R.slen Tryz.underlying9 ?_
      refine R.assign ?_
      refine R.assign ?_
      refine R.assign ?_
      refine R.assign ?_
      refine R.fin [2, 3, 4, 5] ?_
      refine AW.ret ?_
      exact K.fin (V.four V.tmp V.tmp V.tmp V.tmp) ⟨by simp only [namedM, ht11, ht17, if_true, if_false, Bool.false_eq_true]; try rfl, rfl⟩

def numberM (s : Str) : Int × Str × Int × Int := (3, wordOf s digs, (wordOf s digs).length, (readM (wordOf s digs)).2)
theorem c139 (s : Str) (hs : s.length ≤ 1048576) (Hp : List AObj) : AFun Tryz.prog 139 [strA s] Hp (lexA (numberM s)) := by
  refine ACall.body [.tmp 2, .tmp 3, .tmp 4, .tmp 5] [0] Tryz.func139 Tryz.ntmps139 (fun d => ?_)
  refine AW.seqR ?_
  refine R.assign ?_
  refine R.assign ?_
  refine R.assign ?_
  refine R.assign ?_
  refine R.fin [0] ?_
  refine AW.seqR ?_
  refine R.move ?_
  refine R.move ?_
  refine R.call Tryz.call63 (c63 s digs hs (by decide) digs_ascii _) ?_
  refine R.scutH (runN s digs) Tryz.underlying9 (Nat.zero_le _) (runN_le _ _) (hb := runM_eq s digs) ?_
  refine R.assign ?_
  refine R.fin [6] ?_
  refine AW.seqR ?_
  refine R.move ?_
  refine R.call Tryz.call164 (c164 (wordOf s digs) (by have := wordOf_le s digs; omega) _) ?_
  refine R.move ?_
  refine R.extract ?_
  refine R.extract ?_
  refine R.alloc Tryz.zeroValue36 ?_
  refine R.storeOwn Tryz.sizeOf36 ?_
  refine R.assign ?_
  refine R.fin [6, 8] ?_
  refine AW.seqR ?_
  refine R.move ?_
  refine R.move ?_
  refine R.slen Tryz.underlying9 ?_
  refine R.move ?_
  refine R.assign ?_
  refine R.assign ?_
  refine R.assign ?_
  refine R.assign ?_
  refine R.fin [2, 3, 4, 5] ?_
  refine AW.ret ?_
  exact K.fin (V.four V.tmp V.tmp V.tmp V.tmp) ⟨rfl, rfl⟩

end Go.SX.Nb
namespace Go.SX.Nb
open Go Go.SX Go.Proofs
variable [ErrAt]
set_option maxRecDepth 4000
/-- Behind a mark: how many bytes up to the one that closes, it too. -/
def closeQ : Str → Option Nat
  | [] => none
  | [c] => if c == 39 then some 1 else none
  | c :: d :: t => if c == 39 then (if d == 39 then (closeQ t).map (· + 2) else some 1) else (closeQ (d :: t)).map (· + 1)
theorem close_other {c : UInt8} (h : ¬ (c == 39) = true) (r : Str) : closeQ (c :: r) = (closeQ r).map (· + 1) := by
  cases r with
  | nil => simp [closeQ, h]
  | cons d t => rw [closeQ, if_neg h]
theorem close_mark (r : Str) : closeQ (39 :: r) = match r with
      | [] => some 1
      | d :: t => if d == 39 then (closeQ t).map (· + 2) else some 1 := by
  cases r with
  | nil => rfl
  | cons d t => rw [closeQ]; simp
def quotedM (s : Str) : Int × Str × Int × Int :=
  match closeQ (s.drop 1) with
  | none => (0, [], 0, 7)
  | some n => if (readM (s.take (n + 1))).2 != 0 then (0, [], 0, 3) else (4, (readM (s.take (n + 1))).1.s, ((n + 1 : Nat) : Int), 0)
theorem close_none : ∀ l : Str, Lib.indexByte l 39 = -1 → closeQ l = none
  | [], _ => by rw [closeQ]
  | c :: r, h => by
    rw [Lib.indexByte] at h
    split at h
    · omega
    · rename_i hc
      rw [close_other hc]
      split at h
      · rename_i hi
        rw [close_none r (by simpa using hi)]
        rfl
      · have := Lib.indexByte_ge r 39; omega
theorem close_at : ∀ (l : Str) (k : Nat), Lib.indexByte l 39 = (k : Int) → k < l.length ∧ closeQ l = (closeQ (l.drop k)).map (· + k) ∧ l[k]? = some 39
  | [], k, h => by rw [Lib.indexByte] at h; omega
  | c :: r, k, h => by
    rw [Lib.indexByte] at h
    split at h
    · rename_i hc
      have : k = 0 := by omega
      subst this
      refine ⟨by simp, ?_, by simpa using hc⟩
      rw [List.drop_zero]
      cases closeQ (c :: r) <;> simp
    · rename_i hc
      split at h
      · omega
      · have hg := Lib.indexByte_ge r 39
        rename_i hi
        have hi' : Lib.indexByte r 39 ≠ -1 := by simpa using hi
        obtain ⟨m, rfl⟩ : ∃ m, k = m + 1 := ⟨k - 1, by omega⟩
        obtain ⟨h1, h2, h3⟩ := close_at r m (by omega)
        refine ⟨by simpa using h1, ?_, by simpa using h3⟩
        rw [close_other hc, List.drop_succ_cons, h2]
        cases closeQ (r.drop m) <;> simp [Nat.add_assoc]
theorem drop_cons_at {s : Str} {n : Nat} {c : UInt8} (h : s[n]? = some c) : s.drop n = c :: s.drop (n + 1) := by
  obtain ⟨hlt, he⟩ := List.getElem?_eq_some_iff.1 h
  rw [List.drop_eq_getElem_cons hlt, he]
theorem getD_at {s : Str} {n : Nat} (h : n < s.length) : s[n]? = some (s.getD n 0) := by
  rw [List.getD_eq_getElem?_getD, List.getElem?_eq_getElem h]; rfl
theorem at_guard {s : Str} {x k : Nat} (h : (decide (((x : Int) + ((k : Int) + 1)) < s.length) == true) = true) : x + (k + 1) < s.length := by
  have := of_decide_eq_true (by simpa using h : decide (((x : Int) + ((k : Int) + 1)) < s.length) = true)
  omega
/-- What a round of the search for the mark that closes comes to. -/
theorem close_step {s : Str} {x k : Nat} (h1 : 1 ≤ x) (hx : closeQ (s.drop 1) = (closeQ (s.drop x)).map (· + (x - 1))) (hk : Lib.indexByte (s.drop x) 39 = (k : Int)) :
    x + (k + 1) ≤ s.length ∧
      ((decide (((x : Int) + ((k : Int) + 1)) < s.length) && (((s.getD (x + (k + 1)) 0).toNat : Int) == 39)) = true → x + (k + 1) + 1 ≤ s.length ∧ closeQ (s.drop 1) = (closeQ (s.drop (x + (k + 1) + 1))).map (· + (x + (k + 1) + 1 - 1))) ∧
      ((decide (((x : Int) + ((k : Int) + 1)) < s.length) && (((s.getD (x + (k + 1)) 0).toNat : Int) == 39)) = false → closeQ (s.drop 1) = some (x + k)) := by
  obtain ⟨g1, g2, g3⟩ := close_at _ k hk
  rw [List.length_drop] at g1
  rw [List.getElem?_drop] at g3
  have e0 : (s.drop x).drop k = 39 :: s.drop (x + (k + 1)) := by rw [List.drop_drop, drop_cons_at g3, Nat.add_assoc]
  rw [e0] at g2
  refine ⟨by omega, fun h => ?_, fun h => ?_⟩
  · simp only [Bool.and_eq_true, decide_eq_true_eq, beq_iff_eq] at h
    have hlt : x + (k + 1) < s.length := by omega
    have hc : s.getD (x + (k + 1)) 0 = 39 := UInt8.toNat_inj.1 (by have : (39 : UInt8).toNat = 39 := rfl; omega)
    have hd := drop_cons_at (getD_at hlt)
    rw [hc] at hd
    refine ⟨by omega, ?_⟩
    rw [hx, g2, hd, close_mark]
    simp only [beq_self_eq_true, if_true]
    cases closeQ (s.drop (x + (k + 1) + 1)) with
    | none => rfl
    | some m => simp; omega
  · rw [hx, g2, close_mark]
    cases hd : s.drop (x + (k + 1)) with
    | nil => simp; omega
    | cons d t =>
      have hlt : x + (k + 1) < s.length := by
        have := congrArg List.length hd
        simp at this; omega
      have hg := drop_cons_at (getD_at hlt)
      rw [hd] at hg
      injection hg with hg1 hg2
      have hne : (d == 39) = false := by
        rw [hg1, beq_eq_false_iff_ne]
        intro e
        rw [e] at h
        simp at h
        omega
      simp [hne]; omega
theorem c140 (s : Str) (h0 : 1 ≤ s.length) (hs : s.length ≤ 1048576) (Hp : List AObj) : AFun Tryz.prog 140 [strA s] Hp (lexA (quotedM s)) := by
  refine ACall.body [.tmp 2, .tmp 3, .tmp 4, .tmp 5] [0] Tryz.func140 Tryz.ntmps140 (fun d => ?_)
  refine AW.seqR ?_
  refine R.assign ?_
  refine R.assign ?_
  refine R.assign ?_
  refine R.assign ?_
  refine R.fin [0] ?_
  refine AW.seqR ?_
  refine R.assign ?_
  refine R.fin [0, 6] ?_
  refine AW.loopC (α := Nat) (fun x => ⟨44, setF 0 (strA s) (setF 6 (intA (x : Nat)) (fun _ => .any)), Hp, [], [], none⟩) (fun x => 1 ≤ x ∧ x ≤ s.length ∧ closeQ (s.drop 1) = (closeQ (s.drop x)).map (· + (x - 1))) (fun x => s.length - x) (1) ⟨Nat.le_refl _, h0, by cases closeQ (s.drop 1) <;> rfl⟩ (StLe.refl _) rfl (fun x hx => ?_)
  refine AW.block ?_
  refine AW.seqR ?_
  refine R.move ?_
  refine R.move ?_
  refine R.scutL x Tryz.underlying9 hx.2.1 (Nat.le_refl _) ?_
  refine R.call Tryz.call165 (c165 (s.drop x) 39 _) ?_
  refine R.assign ?_
  refine R.fin [0, 6, 7] ?_
  refine W.seq ?_
  refine AW.seqR ?_
  refine R.move ?_
  refine R.lss ?_
  refine R.fin [0, 6, 7, 15] ?_
  refine W.cond (fun ht15 => ?_) (fun ht15 => ?_)
  · skip
    have hk : Lib.indexByte (s.drop x) 39 = -1 := by have := Lib.indexByte_ge (s.drop x) 39; simp at ht15; omega
    have hcq : closeQ (s.drop 1) = none := by rw [hx.2.2, close_none _ hk]; rfl
    refine AW.seqR ?_
    refine R.assign ?_
    refine R.assign ?_
    refine R.assign ?_
    refine R.assign ?_
    refine R.fin [2, 3, 4, 5] ?_
    refine AW.ret ?_
    refine K.thR ?_
    refine K.blR ?_
    refine K.lpR ?_
    exact K.fin (V.four V.tmp V.tmp V.tmp V.tmp) ⟨by simp only [quotedM, hcq], rfl⟩
  · skip
    obtain ⟨k0, hk⟩ := Int.eq_ofNat_of_zero_le (show 0 ≤ Lib.indexByte (s.drop x) 39 by simp at ht15; omega)
    rw [hk]
    refine AW.skip ?_
    refine K.thN ?_
    refine AW.seqR ?_
    have hst := close_step hx.1 hx.2.2 hk
    refine R.move ?_
    refine R.move ?_
    refine R.add64 ?_
    refine R.add64 ?_
    refine R.assign ?_
    refine R.fin [0, 6] ?_
    refine W.seq ?_
    refine AW.seqR ?_
    refine R.move ?_
    refine R.move ?_
    refine R.slen Tryz.underlying9 ?_
    refine R.lss ?_
    refine R.move ?_
    refine G.move ?_
    refine G.move ?_
    refine G.sindex (x + (k0 + 1)) (s.getD (x + (k0 + 1)) 0) Tryz.underlying9 (fun hB => getD_at (at_guard hB))  ?_
    refine G.eql ?_
    refine R.pickAnd ?_
    refine R.fin [0, 6, 29] ?_
    refine W.cond (fun ht29 => ?_) (fun ht29 => ?_)
    · skip
      have hon := hst.2.1 ht29
      refine AW.seqR ?_
      refine R.move ?_
      refine R.add64 ?_
      refine R.assign ?_
      refine R.fin [0, 6] ?_
      refine AW.exit ?_
      refine K.thE ?_
      refine K.blE ?_
      exact K.lpN ((x + (k0 + 1)) + 1) ⟨by omega, hon.1, hon.2⟩ (by omega) (StCut.of_eq rfl)
    · skip
      have hcq := hst.2.2 ht29
      refine AW.skip ?_
      refine K.thN ?_
      refine AW.seqR ?_
      refine R.move ?_
      refine R.move ?_
      refine R.scutH (x + (k0 + 1)) Tryz.underlying9 (Nat.zero_le _) hst.1 ?_
      refine R.call Tryz.call164 (c164 (s.take (x + (k0 + 1))) (by simp; omega) _) ?_
      refine R.move ?_
      refine R.extract ?_
      refine R.extract ?_
      refine R.alloc Tryz.zeroValue36 ?_
      refine R.storeOwn Tryz.sizeOf36 ?_
      refine R.assign ?_
      refine R.fin [6, 8, 9] ?_
      refine W.seq ?_
      refine AW.seqR ?_
      refine R.move ?_
      refine R.neq ?_
      refine R.fin [6, 8, 40] ?_
      refine W.cond (fun ht40 => ?_) (fun ht40 => ?_)
      · skip
        refine AW.seqR ?_
        refine R.assign ?_
        refine R.assign ?_
        refine R.assign ?_
        refine R.assign ?_
        refine R.fin [2, 3, 4, 5] ?_
        refine AW.ret ?_
        refine K.thR ?_
        refine K.blR ?_
        refine K.lpR ?_
        exact K.fin (V.four V.tmp V.tmp V.tmp V.tmp) ⟨by simp only [quotedM, hcq, show x + k0 + 1 = x + (k0 + 1) by omega]; rw [if_pos ht40], rfl⟩
      · skip
        refine AW.skip ?_
        refine K.thN ?_
        refine W.draw [0, 1, 0, 0, 11, 31, 63] 5 Tryzmixed (by kernel_rfl) ?_
        refine D.fieldAddrPtr (fo := 2) Tryz.underlying36 Tryz.sizeOf9 ?_
        refine D.loadOwn Tryz.isAgg9 ?_
        refine D.move ?_
        refine D.assign ?_
        refine D.assign ?_
        refine D.tail ?_
        refine R.assign ?_
        refine R.assign ?_
        refine R.fin [2, 3, 4, 5] ?_
        refine AW.ret ?_
        refine K.blR ?_
        refine K.lpR ?_
        exact K.fin (V.four V.tmp V.tmp V.tmp V.tmp) ⟨by simp only [quotedM, hcq, show x + k0 + 1 = x + (k0 + 1) by omega]; rw [if_neg (by rw [ht40]; simp)]; rfl, rfl⟩

def doubles : Str := [60, 61, 32, 62, 61, 32, 33, 61]
def singles : Str := [40, 41, 44, 59, 61, 60, 62, 43, 45, 42, 47, 37, 38, 58]
def signM (s : Str) : Int × Str × Int × Int :=
  if (decide ((1 : Int) < s.length) && Lib.contains doubles (s.take 2)) && (((s.getD 1 0).toNat : Int) == 61) then (5, s.take 2, 2, 0)
  else if Lib.contains singles (s.take 1) then (5, s.take 1, 1, 0) else (0, [], 0, 7)
theorem two_guard {s : Str} {b c : Bool} (h : (((decide ((1 : Int) < s.length) && b) && c) == true) = true) : 1 < s.length := by
  revert h
  cases hd : decide ((1 : Int) < s.length) with
  | true => intro _; have := of_decide_eq_true hd; omega
  | false => intro h; simp at h
theorem two_guard' {s : Str} {b : Bool} (h : ((decide ((1 : Int) < s.length) && b) == true) = true) : 1 < s.length := two_guard (c := true) (by rw [Bool.and_true]; exact h)
theorem two_guard0 {s : Str} (h : (decide ((1 : Int) < s.length) == true) = true) : 2 ≤ s.length := two_guard' (b := true) (by rw [Bool.and_true]; exact h)
theorem c141 (s : Str) (h0 : 1 ≤ s.length) (Hp : List AObj) : AFun Tryz.prog 141 [strA s] Hp (lexA (signM s)) := by
  refine ACall.body [.tmp 2, .tmp 3, .tmp 4, .tmp 5] [0] Tryz.func141 Tryz.ntmps141 (fun d => ?_)
  refine AW.seqR ?_
  refine R.assign ?_
  refine R.assign ?_
  refine R.assign ?_
  refine R.assign ?_
  refine R.fin [0] ?_
  refine W.seq ?_
  refine AW.seqR ?_
  refine R.move ?_
  refine R.slen Tryz.underlying9 ?_
  refine R.gtr ?_
  refine R.move ?_
  refine G.move ?_
  refine G.scutH 2 Tryz.underlying9 (fun _ => Nat.zero_le _) (fun hB => two_guard0 hB) ?_
  refine G.call Tryz.call67 (fun hB => c67 doubles (s.take 2) (by decide) _) ?_
  refine R.pickAnd ?_
  refine R.move ?_
  refine G.move ?_
  refine G.sindex 1 (s.getD 1 0) Tryz.underlying9 (fun hB => getD_at (two_guard' hB))  ?_
  refine G.eql ?_
  refine R.pickAnd ?_
  refine R.fin [0, 18] ?_
  refine W.cond (fun ht18 => ?_) (fun ht18 => ?_)
  · skip
    have h2 : 2 ≤ s.length := by revert ht18; cases hd : decide ((1 : Int) < s.length) with
      | true => intro _; have := of_decide_eq_true hd; omega
      | false => intro h; simp at h
    refine W.draw [0, 1, 0, 7, 15, 31] 3 Tryzmixed (by kernel_rfl) ?_
    refine D.move ?_
    refine D.scutH 2 Tryz.underlying9 (Nat.zero_le _) h2 ?_
    refine D.assign ?_
    refine D.tail ?_
    refine R.assign ?_
    refine R.assign ?_
    refine R.assign ?_
    refine R.fin [2, 3, 4, 5] ?_
    refine AW.ret ?_
    refine K.thR ?_
    exact K.fin (V.four V.tmp V.tmp V.tmp V.tmp) ⟨by simp only [signM, ht18, if_true, if_false, Bool.false_eq_true]; try rfl, rfl⟩
  · skip
    refine AW.skip ?_
    refine K.thN ?_
    refine W.seq ?_
    refine AW.seqR ?_
    refine R.move ?_
    refine R.scutH 1 Tryz.underlying9 (Nat.zero_le _) h0 ?_
    refine R.call Tryz.call67 (c67 singles (s.take 1) (by decide) _) ?_
    refine R.fin [0, 23] ?_
    refine W.cond (fun ht23 => ?_) (fun ht23 => ?_)
    · skip
      refine W.draw [0, 1, 0, 7, 15, 31] 3 Tryzmixed (by kernel_rfl) ?_
      refine D.move ?_
      refine D.scutH 1 Tryz.underlying9 (Nat.zero_le _) h0 ?_
      refine D.assign ?_
      refine D.tail ?_
      refine R.assign ?_
      refine R.assign ?_
      refine R.assign ?_
      refine R.fin [2, 3, 4, 5] ?_
      refine AW.ret ?_
      refine K.thR ?_
      exact K.fin (V.four V.tmp V.tmp V.tmp V.tmp) ⟨by simp only [signM, ht18, ht23, if_true, if_false, Bool.false_eq_true]; try rfl, rfl⟩
    · skip
      refine AW.skip ?_
      refine K.thN ?_
      refine AW.seqR ?_
      refine R.assign ?_
      refine R.assign ?_
      refine R.assign ?_
      refine R.assign ?_
      refine R.fin [2, 3, 4, 5] ?_
      refine AW.ret ?_
      exact K.fin (V.four V.tmp V.tmp V.tmp V.tmp) ⟨by simp only [signM, ht18, ht23, if_true, if_false, Bool.false_eq_true]; try rfl, rfl⟩

def wordM (s : Str) : Int × Str × Int × Int :=
  if decide (0 < runM (s.take 1) letters) then namedM s else if decide (0 < runM (s.take 1) digs) then numberM s else if ((s.getD 0 0).toNat : Int) == 39 then quotedM s else signM s
theorem c105 (s : Str) (h0 : 1 ≤ s.length) (hs : s.length ≤ 1048576) (Hp : List AObj) : AFun Tryz.prog 105 [strA s] Hp (lexA (wordM s)) := by
  refine ACall.body [.tmp 2, .tmp 3, .tmp 4, .tmp 5] [0] Tryz.func105 Tryz.ntmps105 (fun d => ?_)
  refine AW.seqR ?_
  refine R.assign ?_
  refine R.assign ?_
  refine R.assign ?_
  refine R.assign ?_
  refine R.fin [0] ?_
  refine W.seq ?_
  refine AW.block ?_
  refine AW.seqR ?_
  refine R.move ?_
  refine R.scutH 1 Tryz.underlying9 (Nat.zero_le _) h0 ?_
  refine R.call Tryz.call63 (c63 (s.take 1) letters (by simp; omega) (by decide) letters_ascii _) ?_
  refine R.gtr ?_
  refine R.assign ?_
  refine R.fin [0, 6] ?_
  refine W.cond (fun ht6 => ?_) (fun ht6 => ?_)
  · skip
    refine AW.seqR ?_
    refine R.move ?_
    refine R.call Tryz.call138 (c138 s hs _) ?_
    refine R.extract ?_
    refine R.extract ?_
    refine R.extract ?_
    refine R.extract ?_
    refine R.assign ?_
    refine R.assign ?_
    refine R.assign ?_
    refine R.assign ?_
    refine R.fin [2, 3, 4, 5] ?_
    refine AW.ret ?_
    refine K.blR ?_
    refine K.thR ?_
    exact K.fin (V.four V.tmp V.tmp V.tmp V.tmp) ⟨by simp only [wordM, ht6, if_true, if_false, Bool.false_eq_true], rfl⟩
  · skip
    refine AW.seqR ?_
    refine R.move ?_
    refine R.scutH 1 Tryz.underlying9 (Nat.zero_le _) h0 ?_
    refine R.call Tryz.call63 (c63 (s.take 1) digs (by simp; omega) (by decide) digs_ascii _) ?_
    refine R.gtr ?_
    refine R.assign ?_
    refine R.fin [0, 17] ?_
    refine W.cond (fun ht17 => ?_) (fun ht17 => ?_)
    · skip
      refine AW.seqR ?_
      refine R.move ?_
      refine R.call Tryz.call139 (c139 s hs _) ?_
      refine R.extract ?_
      refine R.extract ?_
      refine R.extract ?_
      refine R.extract ?_
      refine R.assign ?_
      refine R.assign ?_
      refine R.assign ?_
      refine R.assign ?_
      refine R.fin [2, 3, 4, 5] ?_
      refine AW.ret ?_
      refine K.blR ?_
      refine K.thR ?_
      exact K.fin (V.four V.tmp V.tmp V.tmp V.tmp) ⟨by simp only [wordM, ht6, ht17, if_true, if_false, Bool.false_eq_true], rfl⟩
    · skip
      refine AW.seqR ?_
      refine R.move ?_
      refine R.sindex 0 (s.getD 0 0) Tryz.underlying9 (getD_at h0)  ?_
      refine R.eql ?_
      refine R.assign ?_
      refine R.fin [0, 28] ?_
      refine W.cond (fun ht28 => ?_) (fun ht28 => ?_)
      · skip
        refine AW.seqR ?_
        refine R.move ?_
        refine R.call Tryz.call140 (c140 s h0 hs _) ?_
        refine R.extract ?_
        refine R.extract ?_
        refine R.extract ?_
        refine R.extract ?_
        refine R.assign ?_
        refine R.assign ?_
        refine R.assign ?_
        refine R.assign ?_
        refine R.fin [2, 3, 4, 5] ?_
        refine AW.ret ?_
        refine K.blR ?_
        refine K.thR ?_
        exact K.fin (V.four V.tmp V.tmp V.tmp V.tmp) ⟨by simp only [wordM, ht6, ht17, ht28, if_true, if_false, Bool.false_eq_true], rfl⟩
      · skip
        refine AW.skip ?_
        refine K.blN ?_
        refine K.thN ?_
        refine AW.seqR ?_
        refine R.move ?_
        refine R.call Tryz.call141 (c141 s h0 _) ?_
        refine R.extract ?_
        refine R.extract ?_
        refine R.extract ?_
        refine R.extract ?_
        refine R.assign ?_
        refine R.assign ?_
        refine R.assign ?_
        refine R.assign ?_
        refine R.fin [2, 3, 4, 5] ?_
        refine AW.ret ?_
        exact K.fin (V.four V.tmp V.tmp V.tmp V.tmp) ⟨by simp only [wordM, ht6, ht17, ht28, if_true, if_false, Bool.false_eq_true], rfl⟩

end Go.SX.Nb
namespace Go.SX.Nb
open Go Go.SX Go.Proofs
variable [ErrAt]
set_option maxRecDepth 4000
structure Tok where
  kind : Int
  text : Str
  at_ : Nat
  deriving DecidableEq
abbrev tokA (t : Tok) : AV := .agg [.v (.int .i64 t.kind), .v (sv t.text), .v (.int .i64 (t.at_ : Int))]
abbrev toksA (l : List Tok) : AV := .slice false 3 (l.map tokA)
theorem run_pos {c : UInt8} {of : Str} (h : decide (0 < runM ([c] : Str) of) = true) : of.contains c = true := by
  have := of_decide_eq_true h
  unfold runM Lib.trimLeftS at this
  rw [List.dropWhile_cons] at this
  cases hc : of.contains c with
  | true => rfl
  | false => rw [hc] at this; simp at this
theorem wordOf_pos {c : UInt8} {r of : Str} (h : of.contains c = true) : 1 ≤ (wordOf (c :: r) of).length := by
  unfold wordOf
  rw [take_run, List.takeWhile_cons, h]
  simp
theorem letters_tails : ∀ c : UInt8, letters.contains c = true → tails.contains c = true := by
  have h : ((List.range 256).all fun n => !letters.contains (UInt8.ofNat n) || tails.contains (UInt8.ofNat n)) = true := by kernel_rfl
  intro c hc
  have := List.all_eq_true.1 h c.toNat (List.mem_range.2 c.toNat_lt)
  rw [show UInt8.ofNat c.toNat = c by simp, hc] at this
  simpa using this
theorem close_bd : ∀ (l : Str) (n : Nat), closeQ l = some n → 1 ≤ n ∧ n ≤ l.length
  | [], n, h => by cases h
  | [c], n, h => by
    rw [closeQ] at h
    split at h
    · injection h with h; subst h; simp
    · cases h
  | c :: d :: t, n, h => by
    rw [closeQ] at h
    split at h
    · split at h
      · rw [Option.map_eq_some_iff] at h
        obtain ⟨m, hm, rfl⟩ := h
        have := close_bd t m hm
        simp only [List.length_cons]; omega
      · injection h with h; subst h; simp
    · rw [Option.map_eq_some_iff] at h
      obtain ⟨m, hm, rfl⟩ := h
      have := close_bd (d :: t) m hm
      simp only [List.length_cons] at this ⊢; omega
theorem word_ok {s : Str} (h0 : 1 ≤ s.length) (h : (wordM s).2.2.2 = 0) : ∃ n : Nat, (wordM s).2.2.1 = (n : Int) ∧ 1 ≤ n ∧ n ≤ s.length := by
  cases s with
  | nil => simp at h0
  | cons c r =>
    unfold wordM at h ⊢
    split at h
    · rename_i h1
      rw [if_pos h1]
      have hc := letters_tails c (run_pos h1)
      have hw := wordOf_pos (r := r) hc
      have hl := wordOf_le (c :: r) tails
      unfold namedM at h ⊢
      split at h
      · rename_i h2; rw [if_pos h2]; exact ⟨_, rfl, hw, hl⟩
      · rename_i h2
        rw [if_neg h2]
        split at h
        · exact absurd h (by decide)
        · rename_i h3; rw [if_neg h3]; exact ⟨_, rfl, hw, hl⟩
    · rename_i h1
      rw [if_neg h1]
      split at h
      · rename_i h2
        rw [if_pos h2]
        exact ⟨_, rfl, wordOf_pos (r := r) (run_pos h2), wordOf_le _ _⟩
      · rename_i h2
        rw [if_neg h2]
        split at h
        · rename_i h3
          rw [if_pos h3]
          unfold quotedM at h ⊢
          split at h
          · exact absurd h (by decide)
          · rename_i n hn
            split at h
            · exact absurd h (by decide)
            · rename_i h4
              simp only [if_neg h4]
              have := close_bd _ n hn
              simp at this
              exact ⟨n + 1, rfl, by omega, by simp only [List.length_cons]; omega⟩
        · rename_i h3
          rw [if_neg h3]
          unfold signM at h ⊢
          split at h
          · rename_i h4
            rw [if_pos h4]
            refine ⟨2, rfl, by omega, ?_⟩
            simp only [Bool.and_eq_true, decide_eq_true_eq] at h4
            have := h4.1.1
            omega
          · rename_i h4
            rw [if_neg h4]
            split at h
            · rename_i h5; rw [if_pos h5]; exact ⟨1, rfl, by omega, h0⟩
            · exact absurd h (by decide)
/-- The words from a place on, up to one that is wrong. -/
def itemsF : Nat → Nat → Str → List (Tok × Int)
  | 0, _, _ => []
  | f + 1, k, s => if s == [] then [] else
    (⟨(wordM s).1, (wordM s).2.1, k⟩, (wordM s).2.2.2) :: (if (wordM s).2.2.2 == 0 then itemsF f (k + (wordM s).2.2.1.toNat + gapM (s.drop (wordM s).2.2.1.toNat)) ((s.drop (wordM s).2.2.1.toNat).drop (gapM (s.drop (wordM s).2.2.1.toNat))) else [])
def itemsT (s : Str) : List (Tok × Int) := itemsF (s.length + 1) (gapM s) (s.drop (gapM s))
theorem gap_le (s : Str) : gapM s ≤ s.length := Nat.sub_le _ _
end Go.SX.Nb
namespace Go.SX
variable [GI : GlobInv]
open Classical
section
variable {P : Program} {d : Nat}
variable {sz : Nat} {up own up' own' : List AObj} {dfs : List Nat} {rnd : Option Nat}

theorem frL_shift : ∀ (D : List (Nat × AV)) (i j : Nat) (f : Nat → AV), frL (fun _ => true) i D f = frL (fun _ => true) j D f
  | [], _, _, _ => rfl
  | x :: r, i, j, f => by unfold frL; exact frL_shift r _ _ _
theorem frL_cons (L : Nat → Bool) (i : Nat) (x : Nat × AV) (r : List (Nat × AV)) (f : Nat → AV) : frL L i (x :: r) f = frL L (i + 1) r (if L i then setF x.1 x.2 f else f) := rfl
theorem frL_app : ∀ (A B : List (Nat × AV)) (i : Nat) (f : Nat → AV), frL (fun _ => true) i (A ++ B) f = frL (fun _ => true) 0 B (frL (fun _ => true) i A f)
  | [], B, i, f => frL_shift B i 0 f
  | x :: r, B, i, f => by
    rw [List.cons_append, frL_cons, frL_cons]
    exact frL_app r B (i + 1) _
/-- Of what is drawn, what stands in each slot at the end tells what each yields. -/
theorem draw_same {D D' : List (Nat × AV)} {f : Nat → AV} (hn : D.length = D'.length) (hs : ∀ (i s s' : Nat) (y y' : AV), D[i]? = some (s, y) → D'[i]? = some (s', y') → s = s')
    (hu : ∀ (i j s : Nat) (y y' : AV), D[i]? = some (s, y) → D[j]? = some (s, y') → i = j) (he : frL (fun _ => true) 0 D f = frL (fun _ => true) 0 D' f) : D = D' := by
  apply List.ext_getElem?
  intro i
  by_cases hi : i < D.length
  · have e1 : D[i]? = some D[i] := List.getElem?_eq_getElem hi
    have e2 : D'[i]? = some (D'[i]'(by omega)) := List.getElem?_eq_getElem (by omega)
    have hss := hs i D[i].1 (D'[i]'(by omega)).1 _ _ e1 e2
    have hu' : ∀ (j s : Nat) (y : AV), D'[j]? = some (s, y) → s = (D'[i]'(by omega)).1 → j = i := by
      intro j s y hj hsj
      have hjl := (List.getElem?_eq_some_iff.1 hj).1
      have e3 : D[j]? = some (D[j]'(by omega)) := List.getElem?_eq_getElem (by omega)
      have h3 := hs j (D[j]'(by omega)).1 s _ _ e3 hj
      refine hu j i D[i].1 (D[j]'(by omega)).2 _ ?_ e1
      rw [e3, hss, ← hsj, ← h3]
    have v1 : frL (fun _ => true) 0 D f D[i].1 = D[i].2 := frL_some (L := fun _ => true) D 0 i f e1 rfl (fun j y hj => hu j i _ _ _ hj e1)
    have v2 : frL (fun _ => true) 0 D' f (D'[i]'(by omega)).1 = (D'[i]'(by omega)).2 := frL_some (L := fun _ => true) D' 0 i f e2 rfl (fun j y hj => hu' j _ y hj rfl)
    rw [e1, e2, Prod.ext_iff.2 ⟨hss, by rw [← v1, ← v2, he, hss]⟩]
  · rw [List.getElem?_eq_none (by omega), List.getElem?_eq_none (by omega)]

/-- What is asked of the one that turns the heap, of the text alone. se: the slot that it writes; where it writes none, one that nobody looks at. -/
def okX (sz : Nat) (l : List Oper) (oe : Oper) (se : Nat) : Bool := oe.guard.isNone && match oe.dst with
  | some s => Nat.beq s se && Nat.blt s sz
  | none => Nat.ble sz se && l.all fun o => !(lk l o).elem se

/-- **A region whose order is drawn, with one operation that turns the heap in whatever place among those drawn.** -/
theorem AW.drawX {id k ei n2 : Nat} {l l2 l3 : List Oper} {oe : Oper} {se : Nat} {ye : AV} {fr F1 F2 : Nat → AV} {K : Exit → St → Prop} (M : List Nat) (hm : P.follows .mixedOrders = true) (hok : okDraw l k M = true)
    (hx : okX sz l oe se = true) (hlen : up'.length = up.length) (hk : ei + 1 + n2 = k)
    (h1 : ∀ b : Bool, ADraw P d l sz (bif b then up' else up) (bif b then own' else own) dfs rnd (fun l' f => l' = oe :: l2 ∧ f = F1) ei l fr)
    (h2 : ∀ b : Bool, ADraw P d l sz (bif b then up' else up) (bif b then own' else own) dfs rnd (fun l' f => l' = l3 ∧ f = F2) n2 l2 (setF se ye F1))
    (hE : ∀ f, (∀ t, (lk l oe).elem t = true → f t = F1 t) → AOp P d oe ⟨sz, f, up, own, dfs, rnd⟩ (· = ⟨sz, setF se ye f, up', own', dfs, rnd⟩))
    (h : ARun P d l.toArray l3 ⟨sz, F2, up', own', dfs, rnd⟩ (K .normal)) :
    AW P d (.region id l.toArray true) ⟨sz, fr, up, own, dfs, rnd⟩ K := by
  have ok := okDraw_spec hok
  obtain ⟨D1, hD1, hk1, ho1, hl1, hF1⟩ := ADraw.data ei l fr (h1 true)
  obtain ⟨D1', hD1', _, ho1', _, hF1'⟩ := ADraw.data ei l fr (h1 false)
  obtain ⟨D2, hD2, hk2, ho2, hl2, hF2⟩ := ADraw.data n2 l2 _ (h2 true)
  obtain ⟨D2', hD2', _, ho2', _, hF2'⟩ := ADraw.data n2 l2 _ (h2 false)
  have hll : l = l.take ei ++ oe :: l2 := by rw [← hl1, List.take_append_drop]
  have hoe : l[ei]? = some oe := by
    have := congrArg (·[0]?) hl1
    simpa using this
  have hl2' : ∀ j, l2[j]? = l[ei + 1 + j]? := fun j => by
    have := congrArg (·[j + 1]?) hl1
    simp only [List.getElem?_drop, List.getElem?_cons_succ] at this
    rw [← this]
    congr 1
    omega
  have hll2 : l2.length = l.length - (ei + 1) := by
    have := congrArg List.length hl1
    simp at this
    omega
  have hel := (List.getElem?_eq_some_iff.1 hoe).1
  have hek : ei < k := by omega
  have hkl : k ≤ l.length := by omega
  -- the same is yielded on either heap
  have same1 : D1 = D1' := by
    refine draw_same (f := fr) (by omega) (fun i s s' y y' e1 e2 => ?_) (fun i j s y y' e1 e2 => ?_) (by rw [hF1, hF1'])
    · have hi := (List.getElem?_eq_some_iff.1 e1).1
      have hz : l[i]? = some (l[i]'(by omega)) := List.getElem?_eq_getElem (by omega)
      obtain ⟨a, b, c1, c2, _⟩ := ho1 i _ (by omega) hz
      obtain ⟨a', b', c1', c2', _⟩ := ho1' i _ (by omega) hz
      rw [e1] at c1; rw [e2] at c1'; rw [c2] at c2'
      simp only [Option.some.injEq, Prod.mk.injEq] at c1 c1' c2'
      omega
    · have hi := (List.getElem?_eq_some_iff.1 e1).1
      have hj := (List.getElem?_eq_some_iff.1 e2).1
      have hz : l[i]? = some (l[i]'(by omega)) := List.getElem?_eq_getElem (by omega)
      have hz' : l[j]? = some (l[j]'(by omega)) := List.getElem?_eq_getElem (by omega)
      obtain ⟨a, b, c1, c2, _⟩ := ho1 i _ (by omega) hz
      obtain ⟨a', b', c1', c2', _⟩ := ho1 j _ (by omega) hz'
      rw [e1] at c1; rw [e2] at c1'
      simp only [Option.some.injEq, Prod.mk.injEq] at c1 c1'
      refine ok.uniq j i _ _ (by omega) (by omega) hz' hz ?_
      rw [c2, c2', ← c1.1, ← c1'.1]
  have same2 : D2 = D2' := by
    refine draw_same (f := setF se ye F1) (by omega) (fun i s s' y y' e1 e2 => ?_) (fun i j s y y' e1 e2 => ?_) (by rw [hF2, hF2'])
    · have hi := (List.getElem?_eq_some_iff.1 e1).1
      have hz : l2[i]? = some (l2[i]'(by omega)) := List.getElem?_eq_getElem (by omega)
      obtain ⟨a, b, c1, c2, _⟩ := ho2 i _ (by omega) hz
      obtain ⟨a', b', c1', c2', _⟩ := ho2' i _ (by omega) hz
      rw [e1] at c1; rw [e2] at c1'; rw [c2] at c2'
      simp only [Option.some.injEq, Prod.mk.injEq] at c1 c1' c2'
      omega
    · have hi := (List.getElem?_eq_some_iff.1 e1).1
      have hj := (List.getElem?_eq_some_iff.1 e2).1
      have hz : l2[i]? = some (l2[i]'(by omega)) := List.getElem?_eq_getElem (by omega)
      have hz' : l2[j]? = some (l2[j]'(by omega)) := List.getElem?_eq_getElem (by omega)
      obtain ⟨a, b, c1, c2, _⟩ := ho2 i _ (by omega) hz
      obtain ⟨a', b', c1', c2', _⟩ := ho2 j _ (by omega) hz'
      rw [e1] at c1; rw [e2] at c1'
      simp only [Option.some.injEq, Prod.mk.injEq] at c1 c1'
      rw [hl2'] at hz hz'
      have := ok.uniq (ei + 1 + j) (ei + 1 + i) _ _ (by omega) (by omega) hz' hz (by rw [c2, c2', ← c1.1, ← c1'.1])
      omega
  subst same1
  subst same2
  obtain ⟨D, hDd⟩ : ∃ D, D = D1 ++ (se, ye) :: D2 := ⟨_, rfl⟩
  have hD : D.length = k := by rw [hDd]; simp; omega
  have hDe : D[ei]? = some (se, ye) := by rw [hDd, List.getElem?_append_right (by omega), hD1]; simp
  have htk : ∀ i, i ≤ ei → D.take i = D1.take i := fun i hi => by rw [hDd, List.take_append_of_le_length (by omega)]
  have htke : frL (fun _ => true) 0 (D.take ei) fr = F1 := by rw [htk ei (Nat.le_refl _), List.take_of_length_le (by omega), hF1]
  have hops : ∀ (i : Nat) (o : Oper), i < k → i ≠ ei → l[i]? = some o → ∃ s y, D[i]? = some (s, y) ∧ o.dst = some s ∧ s < sz ∧ ∀ b : Bool, OpD P d l o sz (frL (fun _ => true) 0 (D.take i) fr) (bif b then up' else up) (bif b then own' else own) dfs rnd y := by
    intro i o hi hne ho
    by_cases hlt : i < ei
    · obtain ⟨s, y, c1, c2, c3, c4⟩ := ho1 i o hlt ho
      obtain ⟨s', y', c1', _, _, c4'⟩ := ho1' i o hlt ho
      rw [c1] at c1'
      simp only [Option.some.injEq, Prod.mk.injEq] at c1'
      obtain ⟨rfl, rfl⟩ := c1'
      refine ⟨s, y, by rw [hDd, List.getElem?_append_left (by omega)]; exact c1, c2, c3, fun b => ?_⟩
      rw [htk i (by omega)]
      cases b
      · exact c4'
      · exact c4
    · obtain ⟨j, rfl⟩ : ∃ j, i = ei + 1 + j := ⟨i - ei - 1, by omega⟩
      rw [← hl2'] at ho
      obtain ⟨s, y, c1, c2, c3, c4⟩ := ho2 j o (by omega) ho
      obtain ⟨s', y', c1', _, _, c4'⟩ := ho2' j o (by omega) ho
      rw [c1] at c1'
      simp only [Option.some.injEq, Prod.mk.injEq] at c1'
      obtain ⟨rfl, rfl⟩ := c1'
      have hf : frL (fun _ => true) 0 (D.take (ei + 1 + j)) fr = frL (fun _ => true) 0 (D2.take j) (setF se ye F1) := by
        rw [hDd, List.take_append, List.take_of_length_le (by omega), hD1, show ei + 1 + j - ei = j + 1 by omega, List.take_succ_cons, frL_app, hF1]
        rw [frL_cons, if_pos rfl]
        exact frL_shift _ _ _ _
      refine ⟨s, y, by rw [hDd, List.getElem?_append_right (by omega), hD1, show ei + 1 + j - ei = j + 1 by omega]; exact c1, c2, c3, fun b => ?_⟩
      rw [hf]
      cases b
      · exact c4'
      · exact c4
  have hFF : frL (fun _ => true) 0 D fr = F2 := by
    rw [hDd, frL_app, hF1, frL_cons, if_pos rfl]
    exact (frL_shift _ _ _ _).trans hF2
  have hl3 : l.drop k = l3 := by
    rw [← hl2, ← hk]
    apply List.ext_getElem?
    intro j
    rw [List.getElem?_drop, List.getElem?_drop, hl2']
    congr 1
    omega
  have hge : oe.guard = none := by
    unfold okX at hx
    simp only [Bool.and_eq_true] at hx
    simpa using hx.1
  have hse : (oe.dst = some se ∧ se < sz) ∨ (oe.dst = none ∧ sz ≤ se ∧ ∀ o ∈ l, se ∉ lk l o) := by
    unfold okX at hx
    simp only [Bool.and_eq_true] at hx
    cases hd : oe.dst with
    | some s =>
      have := hx.2
      simp only [hd, Bool.and_eq_true] at this
      have e := Nat.eq_of_beq_eq_true this.1
      subst e
      exact .inl ⟨rfl, by simpa using this.2⟩
    | none =>
      have := hx.2
      simp only [hd, Bool.and_eq_true] at this
      refine .inr ⟨rfl, Nat.le_of_ble_eq_true this.1, fun o ho hm => ?_⟩
      have h := List.all_eq_true.1 this.2 o ho
      rw [List.elem_iff.2 hm] at h
      cases h
  have hall' : ∀ (i : Nat) (o : Oper), i < k → l[i]? = some o → ∃ s y, D[i]? = some (s, y) ∧ ((o.dst = some s ∧ s < sz) ∨ (sz ≤ s ∧ ∀ o' ∈ l, s ∉ lk l o')) := by
    intro i o hi ho
    by_cases hie : i = ei
    · subst hie
      have : o = oe := by rw [hoe] at ho; injection ho with ho; exact ho.symm
      subst this
      exact ⟨se, ye, hDe, hse.imp (fun h => h) (fun h => h.2)⟩
    · obtain ⟨s, y, c1, c2, c3, _⟩ := hops i o hi hie ho
      exact ⟨s, y, c1, .inl ⟨c2, c3⟩⟩
  have hrest : ARun P d l.toArray (l.drop k) ⟨sz, frL (fun _ => true) 0 D fr, up', own', dfs, rnd⟩ (K .normal) := by rw [hl3, hFF]; exact h
  replace hE : ∀ f, (∀ t, (lk l oe).elem t = true → f t = frL (fun _ => true) 0 (D.take ei) fr t) → AOp P d oe ⟨sz, f, up, own, dfs, rnd⟩ (· = ⟨sz, setF se ye f, up', own', dfs, rnd⟩) := by rw [htke]; exact hE
  clear h1 h2 ho1 ho2 ho1' ho2' h hF1 hF1' hF2 hF2'
  intro G0 a0 w0 hr0
  refine wpIn_region_any hm ?_
  generalize hF : Fr ((St.mk sz fr up own dfs rnd).rnd.map G0.blk) = F
  -- each slot has one writer
  have hu : ∀ (i j : Nat) (t : Nat) (y y' : AV), D[i]? = some (t, y) → D[j]? = some (t, y') → j = i := by
    intro i j t y y' h1 h2
    have hi : i < k := by rw [← hD]; exact (List.getElem?_eq_some_iff.1 h1).1
    have hj : j < k := by rw [← hD]; exact (List.getElem?_eq_some_iff.1 h2).1
    by_cases hie : i = ei
    · by_cases hje : j = ei
      · omega
      · have e2 : l[j]? = some (l[j]'(by omega)) := List.getElem?_eq_getElem (by omega)
        obtain ⟨s', z', b1, b2, b3, _⟩ := hops j _ hj hje e2
        subst hie
        rw [hDe] at h1
        rw [h2] at b1
        simp only [Option.some.injEq, Prod.mk.injEq] at h1 b1
        rcases hse with ⟨q, _⟩ | ⟨_, q, _⟩
        · exact ok.uniq i j _ _ hi hj hoe e2 (by rw [q, b2, h1.1, b1.1])
        · omega
    · have e1 : l[i]? = some (l[i]'(by omega)) := List.getElem?_eq_getElem (by omega)
      obtain ⟨s, z, a1, a2, a3, _⟩ := hops i _ hi hie e1
      rw [h1] at a1
      simp only [Option.some.injEq, Prod.mk.injEq] at a1
      by_cases hje : j = ei
      · subst hje
        rw [hDe] at h2
        simp only [Option.some.injEq, Prod.mk.injEq] at h2
        rcases hse with ⟨q, _⟩ | ⟨_, q, _⟩
        · exact ok.uniq i j _ _ hi hj e1 hoe (by rw [q, a2, h2.1, a1.1])
        · omega
      · have e2 : l[j]? = some (l[j]'(by omega)) := List.getElem?_eq_getElem (by omega)
        obtain ⟨s', z', b1, b2, _⟩ := hops j _ hj hje e2
        rw [h2] at b1
        simp only [Option.some.injEq, Prod.mk.injEq] at b1
        exact ok.uniq i j _ _ hi hj e1 e2 (by rw [a2, b2, ← a1.1, ← b1.1])
  have key : ∀ (fuel : Nat) (listed : Array Bool) (a : Act) (w : World) (G : Gh), listed.size = l.length → listed.toList.countP (fun b => !b) = fuel →
      (∀ j, k ≤ j → j < l.length → listed.getD j false = false) →
      (∀ (i : Nat) (o : Oper), listed.getD i false = true → l[i]? = some o → ∀ e ∈ o.after, Region.binds .any e = true → listed.getD e.on false = true) →
      StRel d G ⟨sz, frL (fun j => listed.getD j false) 0 D fr, (bif listed.getD ei false then up' else up), (bif listed.getD ei false then own' else own), dfs, rnd⟩ a w → Keep d G0 w0 G w →
      wpAnyIn F 0 P .any l.toArray (fun e => Post d ⟨sz, fr, up, own, dfs, rnd⟩ G0 w0 (K e)) fuel listed a w := by
    intro fuel
    induction fuel with
    | zero =>
      intro listed a w G hsz hcnt htl hcl hst hkp
      have hall : ∀ j, j < l.length → listed.getD j false = true := fun j hj => by
        have hz : listed.toList.all (fun b => b) = true := by
          rw [List.countP_eq_zero] at hcnt
          exact List.all_eq_true.2 fun b hb => by simpa using hcnt b hb
        have hj' : j < listed.size := by omega
        have := List.all_eq_true.1 hz (listed[j]) (by simp)
        simpa [hj'] using this
      have hkeq : k = l.length := by
        refine Classical.byContradiction fun hne => ?_
        have h1 := htl k (Nat.le_refl _) (by omega)
        rw [hall k (by omega)] at h1
        cases h1
      refine draw_tail ok.toEdgeOK 0 l.length listed a w (by omega) (by omega) hsz (fun j hj => by rw [hall j hj]; simpa using hj) ?_
      have hfe : frL (fun j => listed.getD j false) 0 D fr = frL (fun _ => true) 0 D fr := frL_congr D 0 fr (fun j hj => by rw [Nat.zero_add]; exact hall j (by omega))
      rw [hfe, hall ei (by omega)] at hst
      have hz := hrest G a w hst [] (by simp [hkeq])
      rw [fr_keep (st' := ⟨sz, frL (fun _ => true) 0 D fr, up', own', dfs, rnd⟩) hr0 hkp rfl, hF] at hz
      exact opsIn_mono (fun e a' w' ⟨he, hp⟩ => by subst he; exact hp.next hkp hlen rfl rfl) _ _ _ hz
    | succ fuel ih =>
      intro listed a w G hsz hcnt htl hcl hst hkp
      by_cases hpre : ∀ j, j < k → listed.getD j false = true
      · -- the rest, in a row
        have hfe : frL (fun j => listed.getD j false) 0 D fr = frL (fun _ => true) 0 D fr := frL_congr D 0 fr (fun j hj => by rw [Nat.zero_add]; exact hpre j (by omega))
        rw [hfe, hpre ei hek] at hst
        have hle : ∀ j, j < l.length → listed.getD j false = decide (j < k) := fun j hj => by
          by_cases hjk : j < k
          · rw [hpre j hjk]; simpa using hjk
          · rw [htl j (by omega) hj]; simpa using hjk
        have hcnt' : fuel + 1 = l.length - k := by
          rw [← hcnt]
          have e1 : listed.toList = (List.range l.length).map (fun j => decide (j < k)) := by
            apply List.ext_getElem
            · simp [hsz]
            · intro j h1 h2
              have hj : j < l.length := by simpa [hsz] using h1
              have := hle j hj
              simp only [List.getElem_map, List.getElem_range, Array.getElem_toList]
              rw [← this]
              have hj' : j < listed.size := by omega
              simp [hj']
          rw [e1, List.countP_map]
          have e2 : ((fun b => !b) ∘ fun j => decide (j < k)) = fun j => decide (k ≤ j) := by
            funext j
            simp only [Function.comp_apply]
            by_cases hjk : j < k
            · have h2 : ¬ k ≤ j := by omega
              simp [hjk, h2]
            · have h2 : k ≤ j := by omega
              simp [hjk, h2]
          rw [e2]
          have : ∀ n, (List.range n).countP (fun j => decide (k ≤ j)) = n - k := by
            intro n
            induction n with
            | zero => simp
            | succ n ihn =>
              rw [List.range_succ, List.countP_append, ihn]
              by_cases hkn : k ≤ n
              · simp [hkn]; omega
              · simp [hkn]; omega
          rw [this]
        rw [hcnt']
        refine draw_tail ok.toEdgeOK (l.length - k) k listed a w (Nat.le_refl _) (by omega) hsz hle ?_
        have hz := hrest G a w hst (List.range' k (l.length - k)) (by
          apply List.ext_getElem?
          intro i
          simp only [List.getElem?_map, List.getElem?_drop]
          by_cases hi : i < l.length - k
          · rw [List.getElem?_range' (by omega), List.getElem?_eq_getElem (l := l) (by omega)]
            simp
          · rw [List.getElem?_eq_none (by simp; omega), List.getElem?_eq_none (by omega)]; rfl)
        rw [fr_keep (st' := ⟨sz, frL (fun _ => true) 0 D fr, up', own', dfs, rnd⟩) hr0 hkp rfl, hF] at hz
        exact opsIn_mono (fun e a' w' ⟨he, hp⟩ => by subst he; exact hp.next hkp hlen rfl rfl) _ _ _ hz
      · obtain ⟨j0, hj0k, hj0⟩ : ∃ j, j < k ∧ listed.getD j false = false := by
          refine Classical.byContradiction fun hne => hpre fun j hj => ?_
          cases hv : listed.getD j false with
          | true => rfl
          | false => exact absurd ⟨j, hj, hv⟩ hne
        refine ⟨fun h0 => ?_, fun i hi => ?_⟩
        · -- the least that is not listed is ready
          obtain ⟨m, hm, hmin⟩ := exists_least (S := fun j => j < k ∧ listed.getD j false = false) ⟨j0, hj0k, hj0⟩
          have hml : m < l.length := by omega
          have : m ∈ Region.ready .any l.toArray listed := by
            refine mem_ready.2 ⟨?_, l[m], by simp [hml], fun e he hb => ?_⟩
            · have := hm.2; have hj' : m < listed.size := by omega
              simpa [hj'] using this
            · have hlt := ok.fwd m _ (List.getElem?_eq_getElem hml) e he hb
              cases hv : listed.getD e.on false with
              | true => rfl
              | false => have := hmin e.on ⟨by omega, hv⟩; omega
          rw [h0] at this
          cases this
        · obtain ⟨h1, o, ho, he⟩ := mem_ready.1 hi
          have ho' : l[i]? = some o := by simpa using ho
          have hil := (List.getElem?_eq_some_iff.1 ho').1
          have hLi : listed.getD i false = false := by
            have h3 : listed.getD i true = listed.getD i false := by simp [hsz, hil]
            rw [← h3]; exact h1
          have hbits := listed_bits ok.toEdgeOK (L := fun j => listed.getD j false) hcl i o ho' he
          have hik : i < k := by
            refine Classical.byContradiction fun hge => ?_
            have := hbits j0 (ok.tail i j0 o ho' (by omega) (by omega))
            simp only [hj0] at this
            cases this
          obtain ⟨s, y, hDi, hdstX⟩ := hall' i o hik ho'
          -- what it looks at is as in the text's order
          have hag : ∀ t ∈ lk l o, frL (fun j => listed.getD j false) 0 D fr t = frL (fun _ => true) 0 (D.take i) fr t := by
            intro t ht
            by_cases hw : ∃ (j : Nat) (y : AV), D[j]? = some (t, y)
            · obtain ⟨j, z, hj⟩ := hw
              have hjk : j < k := by rw [← hD]; exact (List.getElem?_eq_some_iff.1 hj).1
              have ez : l[j]? = some (l[j]'(by omega)) := List.getElem?_eq_getElem (by omega)
              obtain ⟨s', z', b1, b2'⟩ := hall' j _ hjk ez
              rw [hj] at b1
              injection b1 with b1
              injection b1 with b1 b1'
              subst b1
              have b2 : (l[j]'(by omega)).dst = some t := by
                rcases b2' with ⟨b2, _⟩ | ⟨_, b3⟩
                · exact b2
                · exact absurd ht (b3 o (List.mem_of_getElem? ho'))
              rcases ok.look i j o _ t hik hjk ho' ez ht b2 with rfl | ⟨hb, hlt⟩ | ⟨hb, hlt⟩
              · rw [frL_none D 0 fr (fun q y hq => by rw [hu j q t z y hj hq, Nat.zero_add]; exact hLi), frL_none (D.take j) 0 fr (fun q y hq => by
                  rw [List.getElem?_take] at hq
                  split at hq
                  · rename_i hlt; have := hu j q t z y hj hq; omega
                  · cases hq)]
              · rw [frL_some D 0 j fr hj (by rw [Nat.zero_add]; exact hbits j hb) (fun q y hq => hu j q t z y hj hq), frL_some (D.take i) 0 j fr (by rw [List.getElem?_take, if_pos hlt]; exact hj) rfl (fun q y hq => by
                  rw [List.getElem?_take] at hq
                  split at hq
                  · exact hu j q t z y hj hq
                  · cases hq)]
              · have hLj : listed.getD j false = false := by
                  cases hv : listed.getD j false with
                  | false => rfl
                  | true =>
                    have := listed_bits ok.toEdgeOK (L := fun j => listed.getD j false) hcl j _ ez (hcl j _ hv ez) i hb
                    simp only [hLi] at this
                    cases this
                rw [frL_none D 0 fr (fun q y hq => by rw [hu j q t z y hj hq, Nat.zero_add]; exact hLj), frL_none (D.take i) 0 fr (fun q y hq => by
                  rw [List.getElem?_take] at hq
                  split at hq
                  · rename_i hlt'; have := hu j q t z y hj hq; omega
                  · cases hq)]
            · rw [frL_none D 0 fr (fun q y hq => absurd ⟨q, y, hq⟩ hw), frL_none (D.take i) 0 fr (fun q y hq => by
                  rw [List.getElem?_take] at hq
                  split at hq
                  · exact absurd ⟨q, y, hq⟩ hw
                  · cases hq)]
          -- on from there
          have hgd : ∀ j, (listed.setIfInBounds i true).getD j false = if j = i then true else listed.getD j false := fun j => by
            by_cases hj : j = i
            · subst hj; simp [hsz, hil]
            · rw [getD_set_ne false (Ne.symm hj), if_neg hj]
          have hfr : frL (fun j => (listed.setIfInBounds i true).getD j false) 0 D fr = setF s y (frL (fun j => listed.getD j false) 0 D fr) := by
            funext t
            unfold setF
            by_cases ht : t = s
            · subst ht
              rw [if_pos rfl]
              exact frL_some D 0 i fr hDi (by rw [Nat.zero_add, hgd, if_pos rfl]) (fun q z hq => hu i q t y z hDi hq)
            · rw [if_neg ht]
              by_cases hw : ∃ (j : Nat) (y : AV), D[j]? = some (t, y)
              · obtain ⟨j, z, hj⟩ := hw
                have hji : j ≠ i := fun e => by subst e; rw [hDi] at hj; injection hj with hj; injection hj with hj _; exact ht hj.symm
                cases hv : listed.getD j false with
                | true => rw [frL_some D 0 j fr hj (by rw [Nat.zero_add, hgd, if_neg hji]; exact hv) (fun q y hq => hu j q t z y hj hq), frL_some D 0 j fr hj (by rw [Nat.zero_add]; exact hv) (fun q y hq => hu j q t z y hj hq)]
                | false => rw [frL_none D 0 fr (fun q y hq => by rw [hu j q t z y hj hq, Nat.zero_add, hgd, if_neg hji]; exact hv), frL_none D 0 fr (fun q y hq => by rw [hu j q t z y hj hq, Nat.zero_add]; exact hv)]
              · rw [frL_none D 0 fr (fun q y hq => absurd ⟨q, y, hq⟩ hw), frL_none D 0 fr (fun q y hq => absurd ⟨q, y, hq⟩ hw)]
          have hnext : ∀ (G1 : Gh) (a1 : Act) (w1 : World), StRel d G1 ⟨sz, frL (fun j => (listed.setIfInBounds i true).getD j false) 0 D fr, (bif (listed.setIfInBounds i true).getD ei false then up' else up), (bif (listed.setIfInBounds i true).getD ei false then own' else own), dfs, rnd⟩ a1 w1 → Keep d G w G1 w1 →
              wpAnyIn F 0 P .any l.toArray (fun e => Post d ⟨sz, fr, up, own, dfs, rnd⟩ G0 w0 (K e)) fuel (listed.setIfInBounds i true) a1 w1 := by
            intro G1 a1 w1 hr1 hk1
            refine ih _ _ w1 G1 (by simpa using hsz) ?_ (fun j hj hjl => by rw [hgd, if_neg (by omega)]; exact htl j hj hjl) (fun q oq hq hoq e hmem hb => ?_) ?_ (hkp.trans hk1)
            · rw [Array.toList_setIfInBounds, List.countP_set (by simpa [hsz] using hil), hcnt]
              have hil' : i < listed.size := by omega
              have : listed[i] = false := by simpa [hil'] using hLi
              simp [this]
            · rw [hgd] at hq ⊢
              split
              · rfl
              · by_cases hqi : q = i
                · subst hqi
                  rw [ho'] at hoq
                  injection hoq with hoq
                  subst hoq
                  exact he e hmem hb
                · rw [if_neg hqi] at hq
                  exact hcl q oq hq hoq e hmem hb
            · exact hr1
          have hFe : Fr (rnd.map G.blk) = F := by
            rw [← hF]; exact fr_keep (st' := ⟨sz, frL (fun j => listed.getD j false) 0 D fr, up, own, dfs, rnd⟩) hr0 hkp rfl
          unfold wpOpIn
          rw [ho]
          simp only
          by_cases hie : i = ei
          · subst hie
            have : o = oe := by rw [hoe] at ho'; injection ho' with ho'; exact ho'.symm
            subst this
            have hsy : s = se ∧ y = ye := by rw [hDe] at hDi; injection hDi with hDi; injection hDi with h1 h2; exact ⟨h1.symm, h2.symm⟩
            obtain ⟨rfl, rfl⟩ := hsy
            have hw : Region.wanted o (yielded l.toArray a.tmps) = true := by simp [Region.wanted, hge]
            rw [if_pos hw]
            rw [hLi] at hst
            have := hE _ (fun t ht => hag t (List.elem_iff.1 ht)) G a w hst (fun e => Post d ⟨sz, fr, up, own, dfs, rnd⟩ G0 w0 (K e))
            rw [show Fr ((St.mk sz (frL (fun j => listed.getD j false) 0 D fr) up own dfs rnd).rnd.map G.blk) = F from hFe] at this
            refine Oper.wpIn_mono ?_ this
            rintro a1 w1 ⟨G1, st1, hr1, hk1, _, _, _, rfl⟩
            refine hnext G1 a1 w1 ?_ hk1
            rw [hfr, hgd, if_pos rfl]
            exact hr1
          · obtain ⟨s', y', hDi', hdst, hssz, hOb⟩ := hops i o hik hie ho'
            have hsy : s' = s ∧ y' = y := by rw [hDi] at hDi'; injection hDi' with hDi'; injection hDi' with h1 h2; exact ⟨h1.symm, h2.symm⟩
            obtain ⟨rfl, rfl⟩ := hsy
            have hO := hOb (listed.getD ei false)
            have hput : ∀ (G1 : Gh) (v : Value) (w1 : World), StRel d G1 ⟨sz, frL (fun j => listed.getD j false) 0 D fr, (bif listed.getD ei false then up' else up), (bif listed.getD ei false then own' else own), dfs, rnd⟩ a w1 → Keep d G w G1 w1 → Rep G1 w1 none y' v →
                wpAnyIn F 0 P .any l.toArray (fun e => Post d ⟨sz, fr, up, own, dfs, rnd⟩ G0 w0 (K e)) fuel (listed.setIfInBounds i true) (a.put o.dst v) w1 := by
              intro G1 v w1 hr1 hk1 hv
              refine hnext G1 _ w1 ?_ hk1
              rw [hfr, hgd, if_neg (fun e => hie e.symm), hdst]
              exact hr1.put (st := ⟨sz, frL (fun j => listed.getD j false) 0 D fr, (bif listed.getD ei false then up' else up), (bif listed.getD ei false then own' else own), dfs, rnd⟩) hssz hv.lift
            unfold OpD at hO
            cases hg : o.guard with
            | none =>
              rw [hg] at hO
              have hw : Region.wanted o (yielded l.toArray a.tmps) = true := by simp [Region.wanted, hg]
              rw [if_pos hw]
              have := hO _ hag G a w hst (fun e => Post d ⟨sz, fr, up, own, dfs, rnd⟩ G0 w0 (K e))
              rw [show Fr ((St.mk sz (frL (fun j => listed.getD j false) 0 D fr) (bif listed.getD ei false then up' else up) (bif listed.getD ei false then own' else own) dfs rnd).rnd.map G.blk) = F from hFe] at this
              refine Oper.wpIn_mono ?_ this
              rintro a1 w1 ⟨G1, v, rfl, hr1, hk1, hv⟩
              exact hput G1 v w1 hr1 hk1 hv
            | some jw =>
              obtain ⟨j, want⟩ := jw
              rw [hg] at hO
              obtain ⟨oj, g, C, y'', hj, hdj, hgB, rfl, hO⟩ := hO
              have hgf : GIs (frL (fun j => listed.getD j false) 0 D fr g) want C := by
                rw [hag g (by unfold lk; rw [hg]; simp [hj, hdj])]
                exact hgB
              have hw : Region.wanted o (yielded l.toArray a.tmps) = C := wanted_is hst hg (by simpa using hj) hdj hgf
              rw [hw]
              cases hBw : C with
              | true =>
                rw [if_pos rfl]
                have := hO hBw _ hag G a w hst (fun e => Post d ⟨sz, fr, up, own, dfs, rnd⟩ G0 w0 (K e))
                rw [show Fr ((St.mk sz (frL (fun j => listed.getD j false) 0 D fr) (bif listed.getD ei false then up' else up) (bif listed.getD ei false then own' else own) dfs rnd).rnd.map G.blk) = F from hFe] at this
                refine Oper.wpIn_mono ?_ this
                rintro a1 w1 ⟨G1, v, rfl, hr1, hk1, hv⟩
                exact hput G1 v w1 hr1 hk1 (by rw [hBw]; exact hv)
              | false =>
                rw [if_neg (by simp)]
                refine ⟨fun _ _ => by rw [← hFe]; trivial, ?_⟩
                exact hput G undef w hst (Keep.refl _ _ _) (by rw [hBw]; exact .v _ _)
  have hz : frL (fun j => (Array.replicate l.toArray.size false).getD j false) 0 D fr = fr := by
    funext t
    refine frL_none D 0 fr fun j y hj => ?_
    rw [Array.getD_eq_getD_getElem?, Array.getElem?_replicate]
    split <;> rfl
  refine key _ _ _ _ G0 (by simp) ?_ (fun j hj hjl => ?_) (fun i o hi => ?_) ?_ ?_
  · simp [List.countP_replicate]
  · rw [Array.getD_eq_getD_getElem?, Array.getElem?_replicate]; split <;> rfl
  · rw [Array.getD_eq_getD_getElem?, Array.getElem?_replicate] at hi
    split at hi <;> simp at hi
  · rw [hz]
    have he : (Array.replicate l.toArray.size false).getD ei false = false := by
      rw [Array.getD_eq_getD_getElem?, Array.getElem?_replicate]; split <;> rfl
    rw [he]
    exact hr0.drew _
  · exact (drew_turn G0 w0 _).keep d
theorem W.drawX {id : Nat} {l l2 l3 : List Oper} {oe : Oper} {fr F1 F2 : Nat → AV} {y : Code} {K : Exit → St → Prop} (M : List Nat) (ei n2 se : Nat) (ye : AV) (up' own' : List AObj) (hm : P.follows .mixedOrders = true) (hok : okDraw l (ei + 1 + n2) M = true)
    (h1 : ∀ b : Bool, ADraw P d l sz (bif b then up' else up) (bif b then own' else own) dfs rnd (fun l' f => l' = oe :: l2 ∧ f = F1) ei l fr)
    (h2 : ∀ b : Bool, ADraw P d l sz (bif b then up' else up) (bif b then own' else own) dfs rnd (fun l' f => l' = l3 ∧ f = F2) n2 l2 (setF se ye F1))
    (hE : ∀ f, (∀ t, (lk l oe).elem t = true → f t = F1 t) → AOp P d oe ⟨sz, f, up, own, dfs, rnd⟩ (· = ⟨sz, setF se ye f, up', own', dfs, rnd⟩))
    (h : ARun P d l.toArray l3 ⟨sz, F2, up', own', dfs, rnd⟩ (fun s => AW P d y s K)) (hx : okX sz l oe se = true) (hlen : up'.length = up.length) :
    AW P d (.seq (.region id l.toArray true) y) ⟨sz, fr, up, own, dfs, rnd⟩ K := AW.seq (AW.drawX M hm hok hx hlen rfl h1 h2 hE h)
theorem W.drawXU {id : Nat} {l l2 l3 : List Oper} {oe : Oper} {fr F1 F2 : Nat → AV} {y : Code} {K : Exit → St → Prop} (M : List Nat) (ei n2 se : Nat) (ye : AV) (up' : List AObj) (hm : P.follows .mixedOrders = true) (hok : okDraw l (ei + 1 + n2) M = true)
    (h1 : ∀ b : Bool, ADraw P d l sz (bif b then up' else up) own dfs rnd (fun l' f => l' = oe :: l2 ∧ f = F1) ei l fr)
    (h2 : ∀ b : Bool, ADraw P d l sz (bif b then up' else up) own dfs rnd (fun l' f => l' = l3 ∧ f = F2) n2 l2 (setF se ye F1))
    (hE : ∀ f, (∀ t, (lk l oe).elem t = true → f t = F1 t) → AOp P d oe ⟨sz, f, up, own, dfs, rnd⟩ (· = ⟨sz, setF se ye f, up', own, dfs, rnd⟩))
    (h : ARun P d l.toArray l3 ⟨sz, F2, up', own, dfs, rnd⟩ (fun s => AW P d y s K)) (hx : okX sz l oe se = true) (hlen : up'.length = up.length) :
    AW P d (.seq (.region id l.toArray true) y) ⟨sz, fr, up, own, dfs, rnd⟩ K :=
  W.drawX M ei n2 se ye up' own hm hok (fun b => by have := h1 b; cases b <;> exact this) (fun b => by have := h2 b; cases b <;> exact this) hE h hx hlen
theorem W.drawXO {id : Nat} {l l2 l3 : List Oper} {oe : Oper} {fr F1 F2 : Nat → AV} {y : Code} {K : Exit → St → Prop} (M : List Nat) (ei n2 se : Nat) (ye : AV) (own' : List AObj) (hm : P.follows .mixedOrders = true) (hok : okDraw l (ei + 1 + n2) M = true)
    (h1 : ∀ b : Bool, ADraw P d l sz up (bif b then own' else own) dfs rnd (fun l' f => l' = oe :: l2 ∧ f = F1) ei l fr)
    (h2 : ∀ b : Bool, ADraw P d l sz up (bif b then own' else own) dfs rnd (fun l' f => l' = l3 ∧ f = F2) n2 l2 (setF se ye F1))
    (hE : ∀ f, (∀ t, (lk l oe).elem t = true → f t = F1 t) → AOp P d oe ⟨sz, f, up, own, dfs, rnd⟩ (· = ⟨sz, setF se ye f, up, own', dfs, rnd⟩))
    (h : ARun P d l.toArray l3 ⟨sz, F2, up, own', dfs, rnd⟩ (fun s => AW P d y s K)) (hx : okX sz l oe se = true) (hlen : up.length = up.length) :
    AW P d (.seq (.region id l.toArray true) y) ⟨sz, fr, up, own, dfs, rnd⟩ K :=
  W.drawX M ei n2 se ye up own' hm hok (fun b => by have := h1 b; cases b <;> exact this) (fun b => by have := h2 b; cases b <;> exact this) hE h hx hlen
theorem AOp.to {o : Oper} {st s1 s2 : St} (h : AOp P d o st (· = s1)) (hl : StLe d s1 s2) : AOp P d o st (· = s2) := by
  intro G a w hr Q'
  refine wpIn_kmono ?_ (h G a w hr Q')
  rintro a' w' ⟨G', st', b1, b2, b3, b4, b5, rfl⟩
  exact ⟨G', s2, hl.1 _ _ _ b1, b2, hl.2.1.trans b3, hl.2.2.1.trans b4, hl.2.2.2.trans b5, rfl⟩
theorem StLe.slotAny {f : Nat → AV} {s : Nat} : StLe d ⟨sz, f, up, own, dfs, rnd⟩ ⟨sz, setF s .any f, up, own, dfs, rnd⟩ :=
  StLe.frame (s := ⟨sz, f, up, own, dfs, rnd⟩) (f := setF s .any f) (fun i => by unfold setF; split; exact .any _; exact .refl _)
theorem X.storeUp {t t' : TypeId} {p x : Operand} {o off k se : Nat} {y : AV} {ys cs cs' : List AV} {f : Nat → AV} {ty : TypeId} {pos : String} {aft : Array Edge} (hsz : ∀ w, (Go.sizeOf t).run P w = .ok k w) (hp : frEv f p = .ptr o off) (hx : frEv f x = y) (ho : up[o]? = some (.cells t' cs)) (hc : y.cells = ys) (hk : ys.length = k)
    (h1 : ys.all AV.one = true) (hfit : off + k ≤ cs.length) (hput : putCells cs off ys = cs') (hlow : ∀ z ∈ ys, Low up.length z) :
    AOp P d ⟨none, .store t p x, ty, pos, aft, none⟩ ⟨sz, f, up, own, dfs, rnd⟩ (· = ⟨sz, setF se .any f, up.set o (.cells t' cs'), own, dfs, rnd⟩) := by
  subst hput
  subst hc
  exact AOp.to (AOp.storeUp (st := ⟨sz, f, up, own, dfs, rnd⟩) hsz hp ho hx hk h1 hfit hlow) StLe.slotAny
theorem X.alloc {t : TypeId} {z : Value} {zs : List AV} {s n : Nat} {f : Nat → AV} {ty : TypeId} {pos : String} {aft : Array Edge} (hz : ∀ w, (zeroValue t).run P w = .ok z w) (hzs : zs = z.cells.toList.map constAV) (hn : own.length = n) (hs : s < sz) :
    AOp P d ⟨some s, .alloc t, ty, pos, aft, none⟩ ⟨sz, f, up, own, dfs, rnd⟩ (· = ⟨sz, setF s (.ptr (oid up.length n) 0) f, up, own ++ [.cells t zs], dfs, rnd⟩) :=
  AOp.alloc (st := ⟨sz, f, up, own, dfs, rnd⟩) hz hzs hn hs
end
end Go.SX
