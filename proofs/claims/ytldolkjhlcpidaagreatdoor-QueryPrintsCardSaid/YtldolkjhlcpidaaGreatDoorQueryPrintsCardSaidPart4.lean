/- Texts on the way to this: QueryPrints answers true for whatever it is handed: what is printed of a query is parsed as the same, unless brackets nest too deep, any query that is right has the text that the reference says, and any other one has none. (part 4) -/
import Derived.Below
import Derived.Test.YtldolkjhlcpidaaGreatDoorProg
import Derived.KernelRfl
import Derived.Shelf.Strconv.Itoa4
import Derived.Shelf.Strings.SplitShaped
import Derived.Shelf.Strings.SlTrimAscii
import Derived.Shelf.Strings.OnBuilder
import Derived.Shelf.Strings.Replace
import Derived.Shelf.Small.Strs
import Derived.Shelf.Strings.Prefix
import Derived.Shelf.Strconv.ErrVarParseInt
import Derived.Shelf.Strconv.AtoiAll
import Derived.Shelf.Strings.Builder1
import Derived.Shelf.Strings.Cut
import Derived.Lib.SplitLaws
import Derived.LaidEql
import Derived.Stop.Asserts
import Derived.RowKitTokens
import Derived.WalkKit
import Derived.Lib.AtoiErrMem
import Derived.Lib.Strings
import Derived.BigCall
import Derived.Lib.ParseIntB
import Derived.Test.YtldolkjhlcpidaaGreatDoorQueryPrintsCardSaidPart3
set_option linter.all false
namespace Go.SX
variable [GI : GlobInv]
open Classical Go.RowKit
section
variable {P : Program} {g : FuncId} {Hp : List AObj}

/-- What is known of package-level variables, of a world alone. -/
def GlobIn (w : World) : Prop := ∀ x ∈ GI.blocks, ∃ o, w.heap[x.1]? = some o ∧ x.2 o

theorem vals_of {G : Gh} {w : World} {xs : List Value} {vs : Array Value} (hn : vs.size = (xs.map AV.v).length) (h : ∀ (i : Nat) (y : AV) (u : Value), (xs.map AV.v)[i]? = some y → vs[i]? = some u → ∃ l, Rep G w l y u) : vs = xs.toArray := by
 apply Array.ext
 ·simpa using hn
 intro i h1 h2
 have hi : i < xs.length := by simpa using h2
 obtain ⟨l, hr⟩ := h i (.v xs[i]) vs[i] (by simp [hi]) (Array.getElem?_eq_getElem h1)
 have := rep_v hr
 simpa using this

theorem below_cell {G : Gh} {w w' : World} (hT : TagOK G w) (hb : Below w.heap.size w w') {b o : Nat} (h : G.tag b o ≠ .free) : w'.cell? ⟨b, o, none⟩ = w.cell? ⟨b, o, none⟩ ∧ w'.frozen? ⟨b, o, none⟩ = w.frozen? ⟨b, o, none⟩ := by
 obtain ⟨u, hu⟩ := hT.ex b o h
 have hlt : b < w.heap.size := World.block_lt_of_cell? _ _ hu
 have := hb.block b hlt
 exact ⟨cell_of_blk this, frozen_of_blk this⟩

theorem below_turn {G : Gh} {w w' : World} (hT : TagOK G w) (hb : Below w.heap.size w w') : Turn G w G w' :=
 ⟨fun b o h => ⟨h, (below_cell hT hb (by rw [h]; simp)).1⟩, fun _ _ _ h => h, fun _ _ _ h => h, Nat.le_refl _, fun _ _ => rfl, hb.os, hb.tape, hb.output, hb.size, Still.tags (fun b hv => hb.block b hv.1) hb.size (fun _ _ _ => .inl rfl) (fun _ hi => .inl ⟨hi, rfl⟩)⟩

theorem below_heap {G : Gh} {H : List AObj} {w w' : World} (hH : HeapRel G H w) (hT : TagOK G w) (hb : Below w.heap.size w w') : HeapRel G H w' ∧ TagOK G w' := by
 have T := below_turn hT hb
 refine ⟨⟨fun i x hx => ?_, hH.n, hH.inj⟩, ⟨fun b o h => ?_, fun b o i h => ?_, fun b o L h => ?_, hT.globKeep T.old⟩⟩
 ·have hi : i < G.n := by rw [hH.n]; exact (List.getElem?_eq_some_iff.1 hx).1
  exact T.objRel hi (hb.block _ (heapRel_blt hH i hi)) (hH.obj i x hx) (fun b h => hb.block b h.lt)
 ·rw [(below_cell hT hb h).1]; exact hT.ex b o h
 ·rw [(below_cell hT hb (by rw [h]; simp)).2]; exact hT.obj b o i h
 rw [(below_cell hT hb (by rw [h]; simp)).2]; exact hT.tail b o L h

/-- A function of plain values that hands back a plain value. -/
theorem AFun.lib {xs : List Value} {r : AV} {v : Value} (hr : ∀ G w, Rep G w none r v) (h : ∀ w, GlobIn w → Calls P g xs.toArray w (fun e w' => e = .returned v ∧ Below w.heap.size w w')) : AFun P g (xs.map .v) Hp r := by
 intro d G w vs hn hv hH hT
 have hvs := vals_of hn (fun i y u a b => ⟨_, hv i y u a b⟩)
 subst hvs
 refine (callsIn_wide.2 (h w (fun x hx => let ⟨_, u, a, b⟩ := hT.glob x hx; ⟨u, a, b⟩))).mono ?_
 rintro e w' ⟨rfl, hb⟩
 obtain ⟨h1, h2⟩ := below_heap hH hT hb
 exact ⟨v, G, r, Hp, rfl, (hr G w').lift, h1, h2, (below_turn hT hb).keep _, rfl, rfl, rfl⟩


/-- A function of plain values that hands back a new slice of plain values. -/
theorem AFun.libSlice {xs ys : List Value} {t : TypeId} (hone : ∀ y ∈ ys, y.oneCell' = true) (h : ∀ w, GlobIn w → Calls P g xs.toArray w (fun e w' => e = .returned (.slice (some ⟨w.heap.size, 0, none⟩) ys.length ys.length) ∧ w' = w.alloc (.cells ys.toArray t))) :
  AFun P g (xs.map .v) Hp (.slice false 1 (ys.map .v)) := by
 intro d G w vs hn hv hH hT
 have hvs := vals_of hn (fun i y u a b => ⟨_, hv i y u a b⟩)
 subst hvs
 refine (callsIn_wide.2 (h w (fun x hx => let ⟨_, u, a, b⟩ := hT.glob x hx; ⟨u, a, b⟩))).mono ?_
 rintro e w' ⟨rfl, rfl⟩
 have hst : StRel 0 G ⟨0, fun _ => .any, Hp, [], [], none⟩ { tmps := #[], defers := [] } w :=
  ⟨rfl, fun s => .any _ _, by simpa using hH, rfl, (fun o ho => by simp at ho), List.nodup_nil, (fun o ho => by simp at ho), hT, (fun l hl => by cases hl), objs_low hH⟩
 obtain ⟨G', g1, T, g2⟩ := alloc_fix hst t ys.toArray
 refine ⟨_, G', _, Hp, rfl, ?_, by simpa using g1.heap, g1.tags, T.keep _, rfl, rfl, rfl⟩
 refine .slice _ false 1 _ _ _ _ (fun i j => ys.toArray.getD i undef) rfl (by simp) (Nat.le_refl _) (fun x hx => ?_) (fun x hx y hy => ?_) (fun i x j y hx hy => ?_) (fun i x j y hx hy => ?_) (fun h => by cases h)
 ·obtain ⟨z, _, rfl⟩ := List.mem_map.1 hx
  rfl
 ·obtain ⟨z, hz, rfl⟩ := List.mem_map.1 hx
  have : y = .v z := by simpa [AV.cells] using hy
  subst this
  exact hone z hz
 all_goals
  rw [List.getElem?_map, Option.map_eq_some_iff] at hx
  obtain ⟨z, hz, rfl⟩ := hx
  have hlt : i < ys.length := (List.getElem?_eq_some_iff.1 hz).1
  have hj : j = 0 := by
   match j, hy with
   | 0, _ => rfl
   | j + 1, hy => simp [AV.cells] at hy
  subst hj
 ·refine ⟨by simpa using g2 i (by simpa using hlt), ?_⟩
  rw [World.cell?_alloc_new]
  simp [hlt]
 have : y = .v z := by simpa [AV.cells] using hy.symm
 subst this
 have e : ys.toArray.getD i undef = z := by
  have := List.getElem?_eq_getElem hlt
  rw [this] at hz
  injection hz with hz
  simp [hlt, hz]
 rw [e]
 exact .v _ _
/-- A function that hands back a plain value and, behind an interface value, a new record of plain values. -/
theorem AFun.libErr {xs cs : List Value} {n : Value} {T te : TypeId} (hone : ∀ y ∈ cs, y.oneCell' = true) (h : ∀ w, GlobIn w → Calls P g xs.toArray w (fun e w' => ∃ N, e = .returned (.tuple #[n, .iface T (.pointer (some ⟨N, 0, none⟩))]) ∧ w.heap.size ≤ N ∧ w'.heap[N]? = some (.cells cs.toArray te (0, 0)) ∧ Below w.heap.size w w')) :
  AFun P g (xs.map .v) Hp (.tup [.v n, .iface T (.ro (cs.map .v))]) := by
 intro d G w vs hn hv hH hT
 have hvs := vals_of hn (fun i y u a b => ⟨_, hv i y u a b⟩)
 subst hvs
 refine (callsIn_wide.2 (h w (fun x hx => let ⟨_, u, a, b⟩ := hT.glob x hx; ⟨u, a, b⟩))).mono ?_
 rintro e w' ⟨N, rfl, hN, hcell, hb⟩
 have hfree : ∀ o, G.tag N o = .free := fun o => tag_free_new hT _ o hN
 let G' : Gh := { G with tag := fun b o => if b = N ∧ o < cs.length then .fix else G.tag b o }
 have hne : ∀ b o, G.tag b o ≠ .free → ¬ (b = N ∧ o < cs.length) := fun b o hb hc => by rw [hc.1] at hb; exact hb (hfree o)
 have hnew : ∀ o, o < cs.length → w'.cell? ⟨N, o, none⟩ = cs[o]? := fun o ho => by simp [World.cell?, hcell, ho]
 have T1 : Turn G w G' w' := by
  refine ⟨fun b o h => ⟨?_, (below_cell hT hb (by rw [h]; simp)).1⟩, fun b o L h => ?_, fun b o i h => ?_, Nat.le_refl _, fun _ _ => rfl, hb.os, hb.tape, hb.output, hb.size,
   Still.tags (fun b hv => hb.block b hv.1) hb.size (fun b o hlt => .inl ?_) (fun _ hi => .inl ⟨hi, rfl⟩)⟩
  ·simp only [G']; rw [if_neg (hne b o (by rw [h]; simp))]; exact h
  ·simp only [G']; rw [if_neg (hne b o (by rw [h]; simp))]; exact h
  ·simp only [G']; rw [if_neg (hne b o (by rw [h]; simp))]; exact h
  simp only [G']; rw [if_neg (by omega)]
 have hH' : HeapRel G' Hp w' := ⟨fun i x hx => by
  have hi : i < G.n := by rw [hH.n]; exact (List.getElem?_eq_some_iff.1 hx).1
  exact T1.objRel hi (hb.block _ (heapRel_blt hH i hi)) (hH.obj i x hx) (fun b h => hb.block b h.lt), hH.n, hH.inj⟩
 have hT' : TagOK G' w' := by
  refine ⟨fun b o h => ?_, fun b o i h => ?_, fun b o L h => ?_, hT.globKeep T1.old⟩
  ·simp only [G'] at h
   split at h
   ·rename_i hc; obtain ⟨rfl, ho⟩ := hc; exact ⟨_, (hnew o ho).trans (List.getElem?_eq_getElem ho)⟩
   rw [(below_cell hT hb h).1]; exact hT.ex b o h
  ·simp only [G'] at h
   split at h
   ·cases h
   rw [(below_cell hT hb (by rw [h]; simp)).2]; exact hT.obj b o i h
  simp only [G'] at h
  split at h
  ·cases h
  rw [(below_cell hT hb (by rw [h]; simp)).2]; exact hT.tail b o L h
 refine ⟨_, G', _, Hp, rfl, ?_, hH', hT', T1.keep _, rfl, rfl, rfl⟩
 refine .tup _ _ _ rfl (fun i y u hy hu => ?_)
 match i with
 | 0 => simp at hy hu; subst hy; subst hu; exact .v _ _
 | 1 =>
  simp at hy hu; subst hy; subst hu
  refine .iface _ _ _ _ (.ro _ _ ⟨N, 0, none⟩ (fun j => cs.getD j undef) rfl (fun y hy => ?_) (fun j y hy => ?_) (fun j y hy => ?_))
  ·obtain ⟨z, hz, rfl⟩ := List.mem_map.1 hy
   exact hone z hz
  all_goals
   rw [List.getElem?_map, Option.map_eq_some_iff] at hy
   obtain ⟨z, hz, rfl⟩ := hy
   have hlt : j < cs.length := (List.getElem?_eq_some_iff.1 hz).1
   have e : cs.getD j undef = z := by rw [List.getD_eq_getElem?_getD, hz]; rfl
  ·refine ⟨by simp [G', hlt], ?_⟩
   rw [Nat.zero_add, hnew j hlt, hz, e]
  rw [e]; exact .v _ _
 | i + 2 => simp at hy
theorem TagOK.globIn {G : Gh} {w : World} (h : TagOK G w) : GlobIn w := fun x hx => (h.glob x hx).2
/-- A package-level variable of which something is known. -/
theorem R.loadGlob {d : Nat} {ops : Array Oper} {rest : List Oper} {sz : Nat} {fr : Nat → AV} {up own : List AObj} {dfs : List Nat} {rnd : Option Nat} {Q : St → Prop} {s : Nat} {ty : TypeId} {pos : String} {aft : Array Edge} {t : TypeId} {gl : Nat} {v : Value}
  (hagg : ∀ w, (isAgg t).run P w = .ok false w) (hv : ∀ w, GlobIn w → w.cell? ⟨gl, 0, none⟩ = some v) (hr : ARun P d ops rest ⟨sz, setF s (.v v) fr, up, own, dfs, rnd⟩ Q) (hs : Nat.blt s sz = true := by rfl) :
  ARun P d ops (⟨some s, .load t (.global gl), ty, pos, aft, none⟩ :: rest) ⟨sz, fr, up, own, dfs, rnd⟩ Q := by
 refine ARun.v rfl rfl (by simpa using hs) (OpV.pure (by intro c h; cases h) fun G a w h => ⟨v, ?_, .v _ _⟩) hr
 have hc := hv w h.tags.globIn
 have e : a.eval (.global gl) = .pointer (some ⟨gl, 0, none⟩) := rfl
 simp [execOp, e, Instr.loadAt, Instr.sureAddr, loadVar, hagg, hc]
end
end Go.SX
namespace Go.SX.Nb
open Go Go.SX Go.Proofs
class JU (t : TypeId) (u : outParam TypeDesc) : Prop where h : Tryz.prog.underlying t = some u
theorem jU {t : TypeId} {u : TypeDesc} [i : JU t u] : Tryz.prog.underlying t = some u := i.h
@[reducible, instance] def JU2 := JU.mk Tryz.underlying2
@[reducible, instance] def JU3 := JU.mk Tryz.underlying3
@[reducible, instance] def JU4 := JU.mk Tryz.underlying4
@[reducible, instance] def JU5 := JU.mk Tryz.underlying5
@[reducible, instance] def JU9 := JU.mk Tryz.underlying9
@[reducible, instance] def JU23 := JU.mk Tryz.underlying23
@[reducible, instance] def JU25 := JU.mk Tryz.underlying25
@[reducible, instance] def JU26 := JU.mk Tryz.underlying26
@[reducible, instance] def JU28 := JU.mk Tryz.underlying28
@[reducible, instance] def JU30 := JU.mk Tryz.underlying30
@[reducible, instance] def JU33 := JU.mk Tryz.underlying33
@[reducible, instance] def JU42 := JU.mk Tryz.underlying42
@[reducible, instance] def JU47 := JU.mk Tryz.underlying47
@[reducible, instance] def JU52 := JU.mk Tryz.underlying52
@[reducible, instance] def JU80 := JU.mk Tryz.underlying80
@[reducible, instance] def JU81 := JU.mk Tryz.underlying81
@[reducible, instance] def JU82 := JU.mk Tryz.underlying82
@[reducible, instance] def JU84 := JU.mk Tryz.underlying84
@[reducible, instance] def JU94 := JU.mk Tryz.underlying94
@[reducible, instance] def JU112 := JU.mk Tryz.underlying112
@[reducible, instance] def JU157 := JU.mk Tryz.underlying157
class JS (t : TypeId) (u : outParam Nat) : Prop where h : ∀ w, (Go.sizeOf t).run Tryz.prog w = .ok u w
theorem jS {t : TypeId} {u : Nat} [i : JS t u] : ∀ w, (Go.sizeOf t).run Tryz.prog w = .ok u w := i.h
@[reducible, instance] def JS2 := JS.mk Tryz.sizeOf2
@[reducible, instance] def JS3 := JS.mk Tryz.sizeOf3
@[reducible, instance] def JS4 := JS.mk Tryz.sizeOf4
@[reducible, instance] def JS5 := JS.mk Tryz.sizeOf5
@[reducible, instance] def JS9 := JS.mk Tryz.sizeOf9
@[reducible, instance] def JS23 := JS.mk Tryz.sizeOf23
@[reducible, instance] def JS25 := JS.mk Tryz.sizeOf25
@[reducible, instance] def JS26 := JS.mk Tryz.sizeOf26
@[reducible, instance] def JS28 := JS.mk Tryz.sizeOf28
@[reducible, instance] def JS30 := JS.mk Tryz.sizeOf30
@[reducible, instance] def JS33 := JS.mk Tryz.sizeOf33
@[reducible, instance] def JS42 := JS.mk Tryz.sizeOf42
@[reducible, instance] def JS52 := JS.mk Tryz.sizeOf52
@[reducible, instance] def JS81 := JS.mk Tryz.sizeOf81
@[reducible, instance] def JS84 := JS.mk Tryz.sizeOf84
class JA (t : TypeId) (u : outParam Bool) : Prop where h : ∀ w, (Go.isAgg t).run Tryz.prog w = .ok u w
theorem jA {t : TypeId} {u : Bool} [i : JA t u] : ∀ w, (Go.isAgg t).run Tryz.prog w = .ok u w := i.h
@[reducible, instance] def JA2 := JA.mk Tryz.isAgg2
@[reducible, instance] def JA3 := JA.mk Tryz.isAgg3
@[reducible, instance] def JA4 := JA.mk Tryz.isAgg4
@[reducible, instance] def JA9 := JA.mk Tryz.isAgg9
@[reducible, instance] def JA23 := JA.mk Tryz.isAgg23
@[reducible, instance] def JA25 := JA.mk Tryz.isAgg25
@[reducible, instance] def JA26 := JA.mk Tryz.isAgg26
@[reducible, instance] def JA28 := JA.mk Tryz.isAgg28
@[reducible, instance] def JA30 := JA.mk Tryz.isAgg30
@[reducible, instance] def JA31 := JA.mk Tryz.isAgg31
@[reducible, instance] def JA33 := JA.mk Tryz.isAgg33
@[reducible, instance] def JA42 := JA.mk Tryz.isAgg42
@[reducible, instance] def JA52 := JA.mk Tryz.isAgg52
@[reducible, instance] def JA81 := JA.mk Tryz.isAgg81
@[reducible, instance] def JA84 := JA.mk Tryz.isAgg84
@[reducible, instance] def JA110 := JA.mk Tryz.isAgg110
class JZ (t : TypeId) (u : outParam Value) : Prop where h : ∀ w, (Go.zeroValue t).run Tryz.prog w = .ok u w
theorem jZ {t : TypeId} {u : Value} [i : JZ t u] : ∀ w, (Go.zeroValue t).run Tryz.prog w = .ok u w := i.h
@[reducible, instance] def JZ3 := JZ.mk Tryz.zeroValue3
@[reducible, instance] def JZ4 := JZ.mk Tryz.zeroValue4
@[reducible, instance] def JZ5 := JZ.mk Tryz.zeroValue5
@[reducible, instance] def JZ9 := JZ.mk Tryz.zeroValue9
@[reducible, instance] def JZ23 := JZ.mk Tryz.zeroValue23
@[reducible, instance] def JZ25 := JZ.mk Tryz.zeroValue25
@[reducible, instance] def JZ28 := JZ.mk Tryz.zeroValue28
@[reducible, instance] def JZ30 := JZ.mk Tryz.zeroValue30
@[reducible, instance] def JZ33 := JZ.mk Tryz.zeroValue33
@[reducible, instance] def JZ42 := JZ.mk Tryz.zeroValue42
@[reducible, instance] def JZ47 := JZ.mk Tryz.zeroValue47
@[reducible, instance] def JZ52 := JZ.mk Tryz.zeroValue52
@[reducible, instance] def JZ84 := JZ.mk Tryz.zeroValue84
@[reducible, instance] def JZ94 := JZ.mk Tryz.zeroValue94
@[reducible, instance] def JZ112 := JZ.mk Tryz.zeroValue112
structure Hk (q : Prop) : Prop where h : q
variable {p q : Prop}
theorem Z0(k:q)(h:Hk q→p:=by intro qk;refine Z252 ?_;refine Z257 ?_;exact qk.h):p:=h ⟨k⟩
theorem Z1(k:q)(h:Hk q→p:=by intro qk;refine R.fin [2] ?_;refine AW.ret ?_;exact qk.h):p:=h ⟨k⟩
theorem Z2(k:q)(h:Hk q→p:=by intro qk;refine Z252 ?_;refine Z258 ?_;exact qk.h):p:=h ⟨k⟩
theorem Z3(k:q)(h:Hk q→p:=by intro qk;refine AW.skip ?_;refine K.thN ?_;exact qk.h):p:=h ⟨k⟩
theorem Z4(k:q)(h:Hk q→p:=by intro qk;refine K.blR ?_;refine K.thR ?_;exact qk.h):p:=h ⟨k⟩
theorem Z6(k:q)(h:Hk q→p:=by intro qk;refine Z261 ?_;refine Z257 ?_;exact qk.h):p:=h ⟨k⟩
theorem Z7(k:q)(h:Hk q→p:=by intro qk;refine R.fieldAddrRo (off := 5) jU Tryz.sizeOf26 ?_;refine Z259 ?_;exact qk.h):p:=h ⟨k⟩
theorem Z8(k:q)(h:Hk q→p:=by intro qk;refine R.fieldAddrRo (off := 0) jU Tryz.sizeOf3 ?_;refine Z259 ?_;exact qk.h):p:=h ⟨k⟩
theorem Z9(k:q)(h:Hk q→p:=by intro qk;refine Z258 ?_;refine Z1 ?_;exact qk.h):p:=h ⟨k⟩
theorem Z10(k:q)(h:Hk q→p:=by intro qk;refine W.seq ?_;refine Z0 ?_;exact qk.h):p:=h ⟨k⟩
theorem Z11(k:q)(h:Hk q→p:=by intro qk;refine K.blN ?_;refine K.thN ?_;exact qk.h):p:=h ⟨k⟩
theorem Z12(k:q)(h:Hk q→p:=by intro qk;refine Z2 ?_;refine Z1 ?_;exact qk.h):p:=h ⟨k⟩
theorem Z13(k:q)(h:Hk q→p:=by intro qk;refine Z258 ?_;refine Z258 ?_;exact qk.h):p:=h ⟨k⟩
theorem Z14(k:q)(h:Hk q→p:=by intro qk;refine R.eql ?_;refine Z258 ?_;exact qk.h):p:=h ⟨k⟩
theorem Z15(k:q)(h:Hk q→p:=by intro qk;refine R.fieldAddrRo (off := 1) jU Tryz.sizeOf9 ?_;refine Z259 ?_;exact qk.h):p:=h ⟨k⟩
theorem Z16(k:q)(h:Hk q→p:=by intro qk;refine W.seq ?_;refine Z252 ?_;exact qk.h):p:=h ⟨k⟩
theorem Z18(k:q)(h:Hk q→p:=by intro qk;refine Z257 ?_;refine G.move ?_;exact qk.h):p:=h ⟨k⟩
theorem Z19(k:q)(h:Hk q→p:=by intro qk;refine R.seql ?_;refine Z258 ?_;exact qk.h):p:=h ⟨k⟩
theorem Z20(k:q)(h:Hk q→p:=by intro qk;refine R.alloc jZ ?_;refine Z260 ?_;exact qk.h):p:=h ⟨k⟩
theorem Z21(k:q)(h:Hk q→p:=by intro qk;refine G.fieldAddrRo (off := 1) jU Tryz.sizeOf9 ?_;refine G.loadRo jA ?_;exact qk.h):p:=h ⟨k⟩
theorem Z22(k:q)(h:Hk q→p:=by intro qk;refine AW.skip ?_;refine Z11 ?_;exact qk.h):p:=h ⟨k⟩
theorem Z23(k:q)(h:Hk q→p:=by intro qk;refine AW.ret ?_;refine K.thR ?_;exact qk.h):p:=h ⟨k⟩
theorem Z24(k:q)(h:Hk q→p:=by intro qk;refine G.fieldAddrRo (off := 5) jU Tryz.sizeOf26 ?_;refine G.loadRo jA ?_;exact qk.h):p:=h ⟨k⟩
theorem Z25(k:q)(h:Hk q→p:=by intro qk;refine Z252 ?_;refine R.boxRo ?_;exact qk.h):p:=h ⟨k⟩
theorem Z28(h:p:=by refine Z23 ?_;exact Z298):p:=h
theorem Z29(k:q)(h:Hk q→p:=by intro qk;refine Z252 ?_;refine Z14 ?_;exact qk.h):p:=h ⟨k⟩
theorem Z30(k:q)(h:Hk q→p:=by intro qk;refine R.fieldAddrRo (off := 1) jU Tryz.sizeOf23 ?_;refine Z259 ?_;exact qk.h):p:=h ⟨k⟩
theorem Z31(k:q)(h:Hk q→p:=by intro qk;refine R.extract ?_;refine R.extract ?_;exact qk.h):p:=h ⟨k⟩
theorem Z32(k:q)(h:Hk q→p:=by intro qk;refine Z260 ?_;refine Z1 ?_;exact qk.h):p:=h ⟨k⟩
theorem Z33(k:q)(h:Hk q→p:=by intro qk;refine R.add64 ?_;refine Z258 ?_;exact qk.h):p:=h ⟨k⟩
theorem Z34(k:q)(h:Hk q→p:=by intro qk;refine W.seq ?_;refine AW.block ?_;exact qk.h):p:=h ⟨k⟩
theorem Z35(k:q)(h:Hk q→p:=by intro qk;refine Z252 ?_;refine R.alloc jZ ?_;exact qk.h):p:=h ⟨k⟩
theorem Z36(k:q)(h:Hk q→p:=by intro qk;refine Z252 ?_;refine Z263 ?_;exact qk.h):p:=h ⟨k⟩
theorem Z37(k:q)(h:Hk q→p:=by intro qk;refine Z258 ?_;refine R.fin [1] ?_;exact qk.h):p:=h ⟨k⟩
theorem Z38(k:q)(h:Hk q→p:=by intro qk;refine Z7 ?_;refine R.indexAddr (0) (exprA (e.kids.getD 0 nullX)) jU jS (kidD (by omega)).1 ?_;exact qk.h):p:=h ⟨k⟩
theorem Z39(k:q)(h:Hk q→p:=by intro qk;refine R.nilPtr ?_;refine R.fieldAddrPtr (fo := 1) jU Tryz.sizeOf3 ?_;exact qk.h):p:=h ⟨k⟩
theorem Z40(k:q)(h:Hk q→p:=by intro qk;refine Z252 ?_;refine Z19 ?_;exact qk.h):p:=h ⟨k⟩
theorem Z41(k:q)(h:Hk q→p:=by intro qk;refine D.move ?_;refine D.nilPtr ?_;exact qk.h):p:=h ⟨k⟩
theorem Z42(k:q)(h:Hk q→p:=by intro qk;refine G.eql ?_;refine R.pickAnd ?_;exact qk.h):p:=h ⟨k⟩
theorem Z43(k:q)(h:Hk q→p:=by intro qk;refine R.fieldAddrPtr (fo := 0) jU Tryz.sizeOf3 ?_;refine Z279 ?_;exact qk.h):p:=h ⟨k⟩
theorem Z44(h:p:=by refine Z4 ?_;exact Z299):p:=h
theorem Z45(k:q)(h:Hk q→p:=by intro qk;refine Z258 ?_;refine R.fin [2, 3] ?_;exact qk.h):p:=h ⟨k⟩
theorem Z47(k:q)(h:Hk q→p:=by intro qk;refine Z0 ?_;refine Z257 ?_;exact qk.h):p:=h ⟨k⟩
theorem Z48(h:p:=by refine Z12 ?_;refine Z4 ?_;exact K.fin (V.one V.tmp) ⟨by simp_all [refArM], rfl⟩):p:=h
theorem Z49(h:p:=by refine K.thJ ?_;exact StLe.of_eq (by simp [*])):p:=h
theorem Z50(k:q)(h:Hk q→p:=by intro qk;refine R.fin [4] ?_;refine AW.ret ?_;exact qk.h):p:=h ⟨k⟩
theorem Z51(k:q)(h:Hk q→p:=by intro qk;refine R.indexAddr (x) (exprA e.kids[x]) jU jS (getMap hlt) ?_;refine Z272 ?_;exact qk.h):p:=h ⟨k⟩
theorem Z52(k:q)(h:Hk q→p:=by intro qk;refine AW.exit ?_;refine K.thE ?_;exact qk.h):p:=h ⟨k⟩
theorem Z53(k:q)(h:Hk q→p:=by intro qk;refine K.lpE ?_;refine K.thN ?_;exact qk.h):p:=h ⟨k⟩
theorem Z54(k:q)(h:Hk q→p:=by intro qk;refine Z0 ?_;refine R.callUp Tryz.call141 ho (by simp) low_pr (c141 l S o _ (get_up ho) hi hll) ?_;exact qk.h):p:=h ⟨k⟩
theorem Z55(k:q)(h:Hk q→p:=by intro qk;refine R.fieldAddrRo (off := 0) jU Tryz.sizeOf4 ?_;refine Z259 ?_;exact qk.h):p:=h ⟨k⟩
theorem Z56(k:q)(h:Hk q→p:=by intro qk;refine G.fieldAddrRo (off := 8) jU Tryz.sizeOf3 ?_;refine G.loadRo jA ?_;exact qk.h):p:=h ⟨k⟩
theorem Z57(k:q)(h:Hk q→p:=by intro qk;refine R.nilPtr ?_;refine R.fieldAddrPtr (fo := 0) jU Tryz.sizeOf90 ?_;exact qk.h):p:=h ⟨k⟩
theorem Z58(k:q)(h:Hk q→p:=by intro qk;refine G.fieldAddrRo (off := 2) jU Tryz.sizeOf28 ?_;refine G.loadRoN jA jS ?_;exact qk.h):p:=h ⟨k⟩
theorem Z59(h:p:=by refine R.fin [] ?_;exact K.finN .nores (hp := ⟨rfl, by first | (rw [e]; exact (same2 hne ho hoq).symm) | (rw [e]; exact (set_same (getQ hne hoq)).symm) | (rw [e]; simp only [List.set_set]; exact (set_same (getQ hne hoq)).symm) | (rw [e]; simp only [List.set_set]; rw [setQ hne]; rfl) | (rw [e]; simp only [List.set_set]; rw [List.set_comm _ _ hne]; rfl)⟩)):p:=h
theorem Z60(h:p:=by refine Z4 ?_;exact Z298):p:=h
theorem Z61(k:q)(h:Hk q→p:=by intro qk;refine R.pickAnd ?_;refine Z257 ?_;exact qk.h):p:=h ⟨k⟩
theorem Z62(k:q)(h:Hk q→p:=by intro qk;refine Z41 ?_;refine D.fieldAddrPtr (fo := 1) jU Tryz.sizeOf3 ?_;exact qk.h):p:=h ⟨k⟩
theorem Z65(k:q)(h:Hk q→p:=by intro qk;refine Z252 ?_;refine Z256 ?_;exact qk.h):p:=h ⟨k⟩
theorem Z66(h:p:=by refine Z9 ?_;exact K.fin (V.one V.tmp)):p:=h
theorem Z67(k:q)(h:Hk q→p:=by intro qk;refine Z41 ?_;refine D.fieldAddrPtr (fo := 0) jU Tryz.sizeOf42 ?_;exact qk.h):p:=h ⟨k⟩
theorem Z68(k:q)(h:Hk q→p:=by intro qk;refine K.lpR ?_;refine K.thR ?_;exact qk.h):p:=h ⟨k⟩
theorem Z69(k:q)(h:Hk q→p:=by intro qk;refine Z260 ?_;refine R.fin [2, 3] ?_;exact qk.h):p:=h ⟨k⟩
theorem Z70(k:q)(h:Hk q→p:=by intro qk;refine Z25 ?_;refine Z37 ?_;exact qk.h):p:=h ⟨k⟩
theorem Z71(k:q)(h:Hk q→p:=by intro qk;refine Z35 ?_;refine R.fin [0, 2] ?_;exact qk.h):p:=h ⟨k⟩
theorem Z72(k:q)(h:Hk q→p:=by intro qk;refine Z252 ?_;refine Z272 ?_;exact qk.h):p:=h ⟨k⟩
theorem Z73(k:q)(h:Hk q→p:=by intro qk;refine D.fieldAddrRo (off := 5) jU Tryz.sizeOf26 ?_;refine Z280 ?_;exact qk.h):p:=h ⟨k⟩
theorem Z74(k:q)(h:Hk q→p:=by intro qk;refine Z6 ?_;refine Z33 ?_;exact qk.h):p:=h ⟨k⟩
theorem Z75(k:q)(h:Hk q→p:=by intro qk;refine R.fieldAddrPtr (fo := 2) jU Tryz.sizeOf3 ?_;refine Z279 ?_;exact qk.h):p:=h ⟨k⟩
theorem Z76(k:q)(h:Hk q→p:=by intro qk;refine G.fieldAddrRo (off := 1) jU Tryz.sizeOf23 ?_;refine G.loadRo jA ?_;exact qk.h):p:=h ⟨k⟩
theorem Z77(k:q)(h:Hk q→p:=by intro qk;refine R.fin [2, 3, 4, 5] ?_;refine AW.ret ?_;exact qk.h):p:=h ⟨k⟩
theorem Z78(k:q)(h:Hk q→p:=by intro qk;refine Z286 ?_;refine Y.tail (tn := [5])  ?_;exact qk.h):p:=h ⟨k⟩
theorem Z80(k:q)(h:Hk q→p:=by intro qk;refine D.fieldAddrPtr (fo := 0) jU Tryz.sizeOf90 ?_;refine D.fieldAddrRo (off := 1) jU Tryz.sizeOf9 ?_;exact qk.h):p:=h ⟨k⟩
theorem Z81(k:q)(h:Hk q→p:=by intro qk;refine R.len jU ?_;refine R.lss ?_;exact qk.h):p:=h ⟨k⟩
theorem Z82(k:q)(h:Hk q→p:=by intro qk;refine R.fieldAddrRo (off := 2) jU Tryz.sizeOf25 ?_;refine Z272 ?_;exact qk.h):p:=h ⟨k⟩
theorem Z83(k:q)(h:Hk q→p:=by intro qk;refine Z2 ?_;refine R.fin [0] ?_;exact qk.h):p:=h ⟨k⟩
theorem Z84(k:q)(h:Hk q→p:=by intro qk;refine Z252 ?_;refine Z15 ?_;exact qk.h):p:=h ⟨k⟩
theorem Z85(k:q)(h:Hk q→p:=by intro qk;refine Z40 ?_;refine R.fin [13] ?_;exact qk.h):p:=h ⟨k⟩
theorem Z86(k:q)(h:Hk q→p:=by intro qk;refine Z257 ?_;refine Z31 ?_;exact qk.h):p:=h ⟨k⟩
theorem Z87(k:q)(h:Hk q→p:=by intro qk;refine Z52 ?_;refine Z53 ?_;exact qk.h):p:=h ⟨k⟩
theorem Z88(k:q)(h:Hk q→p:=by intro qk;refine Z13 ?_;refine Z258 ?_;exact qk.h):p:=h ⟨k⟩
theorem Z89(k:q)(h:Hk q→p:=by intro qk;refine R.fieldAddrRo (off := 2) jU Tryz.sizeOf9 ?_;refine Z259 ?_;exact qk.h):p:=h ⟨k⟩
theorem Z90(k:q)(h:Hk q→p:=by intro qk;refine Z3 ?_;refine Z34 ?_;exact qk.h):p:=h ⟨k⟩
theorem Z91(k:q)(h:Hk q→p:=by intro qk;refine Z257 ?_;refine Z257 ?_;exact qk.h):p:=h ⟨k⟩
theorem Z92(h:p:=by refine K.thR ?_;exact Z283):p:=h
theorem Z93(h:p:=by refine Z4 ?_;exact K.fin (V.one V.tmp) ⟨by simp [printM, hp, *], rfl⟩):p:=h
theorem Z94(k:q)(h:Hk q→p:=by intro qk;refine G.gtr ?_;refine Z253 ?_;exact qk.h):p:=h ⟨k⟩
theorem Z95(k:q)(h:Hk q→p:=by intro qk;refine Z3 ?_;refine Z0 ?_;exact qk.h):p:=h ⟨k⟩
theorem Z96(k:q)(h:Hk q→p:=by intro qk;refine R.nilPtr ?_;refine R.fieldAddrPtr (fo := 2) jU Tryz.sizeOf3 ?_;exact qk.h):p:=h ⟨k⟩
theorem Z97(h:p:=by refine AW.ret ?_;exact K.fin (V.two (V.cellN jA jS) (V.cellN jA jS)) ⟨by rw [e] <;> rfl, rfl⟩ (hlow := by have := low_qry (n := Hp.length) (q := (r3Q (lexM s).1).1); simp at this ⊢; exact this)):p:=h
theorem Z98(k:q)(h:Hk q→p:=by intro qk;refine R.eql ?_;refine Z257 ?_;exact qk.h):p:=h ⟨k⟩
theorem Z100(k:q)(h:Hk q→p:=by intro qk;refine R.sadd ?_;refine Z258 ?_;exact qk.h):p:=h ⟨k⟩
theorem Z101(k:q)(h:Hk q→p:=by intro qk;refine R.indexAddr (x) (strA q.cols[x]) jU jS (getMap hlt) ?_;refine Z259 ?_;exact qk.h):p:=h ⟨k⟩
theorem Z102(h:p:=by refine Z22 ?_;refine Z12 ?_;exact K.fin (V.one V.tmp) ⟨by simp_all [refArM], rfl⟩):p:=h
theorem Z103(h:p:=by refine D.buildSlice jU jS jZ ?_;exact Z269):p:=h
theorem Z104(k:q)(h:Hk q→p:=by intro qk;refine Z4 ?_;refine Z68 ?_;exact qk.h):p:=h ⟨k⟩
theorem Z105(h:p:=by refine Z23 ?_;exact K.fin (V.two (V.cellN jA jS) (V.cellN jA jS)) ⟨by rw [e] <;> rfl, rfl⟩):p:=h
theorem Z106(k:q)(h:Hk q→p:=by intro qk;refine W.seq ?_;refine Z2 ?_;exact qk.h):p:=h ⟨k⟩
theorem Z107(k:q)(h:Hk q→p:=by intro qk;refine R.pickAnd ?_;refine Z258 ?_;exact qk.h):p:=h ⟨k⟩
theorem Z108(h:p:=by refine AW.skip ?_;exact Z49):p:=h
theorem Z109(k:q)(h:Hk q→p:=by intro qk;refine Z42 ?_;refine Z9 ?_;exact qk.h):p:=h ⟨k⟩
theorem Z110(h:p:=by refine K.thR ?_;exact Z288):p:=h
theorem Z111(k:q)(h:Hk q→p:=by intro qk;refine R.fieldAddrRo (off := 2) jU Tryz.sizeOf28 ?_;refine Z272 ?_;exact qk.h):p:=h ⟨k⟩
theorem Z112(k:q)(h:Hk q→p:=by intro qk;refine G.fieldAddrRo (off := 2) jU Tryz.sizeOf25 ?_;refine G.loadRoN jA jS ?_;exact qk.h):p:=h ⟨k⟩
theorem Z113(k:q)(h:Hk q→p:=by intro qk;refine R.fieldAddrPtr (fo := 1) jU Tryz.sizeOf82 ?_;refine R.indexArrPtr (0) jU Tryz.sizeOf81 (by decide) ?_;exact qk.h):p:=h ⟨k⟩
theorem Z114(k:q)(h:Hk q→p:=by intro qk;refine R.fieldAddrPtr (fo := 1) jU Tryz.sizeOf82 ?_;refine R.indexArrPtr (1) jU Tryz.sizeOf81 (by decide) ?_;exact qk.h):p:=h ⟨k⟩
theorem Z115(k:q)(h:Hk q→p:=by intro qk;refine Z24 ?_;refine G.indexAddr (0) (exprA (e.kids.getD 0 nullX)) jU jS (fun _ => (kidD (by omega)).1) ?_;exact qk.h):p:=h ⟨k⟩
theorem Z116(k:q)(h:Hk q→p:=by intro qk;refine Z252 ?_;refine Z278 ?_;exact qk.h):p:=h ⟨k⟩
theorem Z117(k:q)(h:Hk q→p:=by intro qk;refine G.fieldAddrPtr (fo := 2) jU Tryz.sizeOf9 ?_;refine G.loadOwn jA ?_;exact qk.h):p:=h ⟨k⟩
theorem Z118(k:q)(h:Hk q→p:=by intro qk;refine R.fieldAddrRo (off := 2) jU Tryz.sizeOf3 ?_;refine Z259 ?_;exact qk.h):p:=h ⟨k⟩
theorem Z119(k:q)(h:Hk q→p:=by intro qk;refine R.fieldAddrRo (off := 8) jU Tryz.sizeOf3 ?_;refine Z259 ?_;exact qk.h):p:=h ⟨k⟩
theorem Z120(k:q)(h:Hk q→p:=by intro qk;refine Z10 ?_;refine Z257 ?_;exact qk.h):p:=h ⟨k⟩
theorem Z121(k:q)(h:Hk q→p:=by intro qk;refine G.fieldAddrPtr (fo := 1) jU Tryz.sizeOf2 ?_;refine G.loadOwn jA ?_;exact qk.h):p:=h ⟨k⟩
theorem Z122(k:q)(h:Hk q→p:=by intro qk;refine R.len jU ?_;refine Z257 ?_;exact qk.h):p:=h ⟨k⟩
theorem Z123(k:q)(h:Hk q→p:=by intro qk;refine Z2 ?_;refine R.fin [0, 1] ?_;exact qk.h):p:=h ⟨k⟩
theorem Z124(k:q)(h:Hk q→p:=by intro qk;refine R.fieldAddrRo (off := 1) jU Tryz.sizeOf2 ?_;refine Z259 ?_;exact qk.h):p:=h ⟨k⟩
theorem Z125(k:q)(h:Hk q→p:=by intro qk;refine R.call Tryz.call167 (c167 l S o _ (get_up ho) hi) ?_;refine Z20 ?_;exact qk.h):p:=h ⟨k⟩
theorem Z126(k:q)(h:Hk q→p:=by intro qk;refine Z260 ?_;refine Z45 ?_;exact qk.h):p:=h ⟨k⟩
theorem Z127(k:q)(h:Hk q→p:=by intro qk;refine G.fieldAddrRo (off := 0) jU Tryz.sizeOf3 ?_;refine G.loadRo jA ?_;exact qk.h):p:=h ⟨k⟩
theorem Z128(k:q)(h:Hk q→p:=by intro qk;refine Z278 ?_;refine Z32 ?_;exact qk.h):p:=h ⟨k⟩
theorem Z129(h:p:=by refine Z9 ?_;refine Z4 ?_;exact Z289):p:=h
theorem Z130(k:q)(h:Hk q→p:=by intro qk;refine Z19 ?_;refine R.fin [3, 9] ?_;exact qk.h):p:=h ⟨k⟩
theorem Z131(k:q)(h:Hk q→p:=by intro qk;refine R.fin [6] ?_;refine AW.ret ?_;exact qk.h):p:=h ⟨k⟩
theorem Z133(k:q)(h:Hk q→p:=by intro qk;refine Z74 ?_;refine R.fin [1, 3, 4] ?_;exact qk.h):p:=h ⟨k⟩
theorem Z134(k:q)(h:Hk q→p:=by intro qk;refine Z18 ?_;refine G.move ?_;exact qk.h):p:=h ⟨k⟩
theorem Z135(k:q)(h:Hk q→p:=by intro qk;refine Z271 ?_;refine Z260 ?_;exact qk.h):p:=h ⟨k⟩
theorem Z136(k:q)(h:Hk q→p:=by intro qk;refine Z24 ?_;refine G.len jU ?_;exact qk.h):p:=h ⟨k⟩
theorem Z137(h:p:=by refine R.fin [1, 10, 11] ?_;exact K.lpN (x + 1) hlt (by omega) (StCut.of_eq (by simp only [hst, List.append_assoc, List.append_nil] <;> rfl))):p:=h
theorem Z138(k:q)(h:Hk q→p:=by intro qk;refine Z252 ?_;refine Z259 ?_;exact qk.h):p:=h ⟨k⟩
theorem Z139(k:q)(h:Hk q→p:=by intro qk;refine R.add64 ?_;refine Z257 ?_;exact qk.h):p:=h ⟨k⟩
theorem Z140(h:p:=by refine R.fin [] ?_;exact Z301):p:=h
theorem Z141(k:q)(h:Hk q→p:=by intro qk;refine AW.ret ?_;refine Z4 ?_;exact qk.h):p:=h ⟨k⟩
theorem Z142(k:q)(h:Hk q→p:=by intro qk;refine R.nilPtr ?_;refine R.fieldAddrPtr (fo := 3) jU Tryz.sizeOf33 ?_;refine Z285 ?_;exact qk.h):p:=h ⟨k⟩
theorem Z143(k:q)(h:Hk q→p:=by intro qk;refine D.loadUp jA ho ?_;refine D.indexAddr (S.i) (tokA (tokAt l S.i)) jU jS (getTok hi) ?_;exact qk.h):p:=h ⟨k⟩
theorem Z144(h:p:=by refine AW.skip ?_;exact Z301):p:=h
theorem Z145(k:q)(h:Hk q→p:=by intro qk;refine AW.block ?_;refine Z29 ?_;exact qk.h):p:=h ⟨k⟩
theorem Z146(h:p:=by refine Z50 ?_;exact K.fin (V.one V.tmp) ⟨by rw [decide_eq_true (list_ext_upto hlen fun j y hj hy => hx.2 j y (by omega) hy)], rfl⟩):p:=h
theorem Z147(h:p:=by refine Z50 ?_;exact K.fin (V.one V.tmp)):p:=h
theorem Z148(h:p:=by refine Z109 ?_;refine Z4 ?_;exact Z300):p:=h
theorem Z149(h:p:=by refine D.loadOwnN jA jS ?_;exact Z269):p:=h
theorem Z150(h:p:=by refine Z4 ?_;exact K.fin (V.one V.tmp) ⟨by simp_all [levI], rfl⟩):p:=h
theorem Z151(k:q)(h:Hk q→p:=by intro qk;refine Z272 ?_;refine Z257 ?_;exact qk.h):p:=h ⟨k⟩
theorem Z152(h:p:=by refine Z50 ?_;exact K.fin (V.one V.tmp) ⟨rfl, by first | (rw [e]; done) | (rw [e]; rfl) | (rw [e]; exact (set_same ho).symm)⟩):p:=h
theorem Z153(k:q)(h:Hk q→p:=by intro qk;refine Z134 ?_;refine G.indexAddr (y) (exprA x.1[y]) jU jS (fun _ => getMap hlt) ?_;exact qk.h):p:=h ⟨k⟩
theorem Z154(h:p:=by refine W.keep [3, 8] ?_;exact Z108):p:=h
theorem Z155(k:q)(h:Hk q→p:=by intro qk;refine R.fin [1, 3, 4] ?_;refine Z11 ?_;exact qk.h):p:=h ⟨k⟩
theorem Z156(k:q)(h:Hk q→p:=by intro qk;refine Z261 ?_;refine Z139 ?_;exact qk.h):p:=h ⟨k⟩
theorem Z157(h:p:=by refine R.fin [] ?_;refine K.blN ?_;exact K.finN .nores ⟨rfl, by rw [pe] <;> simp [notW]⟩):p:=h
theorem Z158(k:q)(h:Hk q→p:=by intro qk;refine Z16 ?_;refine Z8 ?_;exact qk.h):p:=h ⟨k⟩
theorem Z159(k:q)(h:Hk q→p:=by intro qk;refine R.fin [4] ?_;refine Z23 ?_;exact qk.h):p:=h ⟨k⟩
theorem Z160(k:q)(h:Hk q→p:=by intro qk;refine D.move ?_;refine D.move ?_;exact qk.h):p:=h ⟨k⟩
theorem Z161(k:q)(h:Hk q→p:=by intro qk;refine R.seql ?_;refine Z18 ?_;exact qk.h):p:=h ⟨k⟩
theorem Z162(k:q)(h:Hk q→p:=by intro qk;refine R.fin [0, 2, 3] ?_;refine Z0 ?_;exact qk.h):p:=h ⟨k⟩
theorem Z164(k:q)(h:Hk q→p:=by intro qk;refine K.thN ?_;refine Z0 ?_;exact qk.h):p:=h ⟨k⟩
theorem Z165(k:q)(h:Hk q→p:=by intro qk;refine R.fieldAddrPtr (fo := 1) jU Tryz.sizeOf2 ?_;refine Z279 ?_;exact qk.h):p:=h ⟨k⟩
theorem Z166(k:q)(h:Hk q→p:=by intro qk;refine R.fieldAddrPtr (fo := 2) jU Tryz.sizeOf9 ?_;refine Z279 ?_;exact qk.h):p:=h ⟨k⟩
theorem Z167(h:p:=by refine Z32 ?_;exact K.fin (V.one (V.cellN jA jS)) ⟨by simp only [wideC, hm] <;> simp_all, rfl⟩):p:=h
theorem Z168(k:q)(h:Hk q→p:=by intro qk;refine R.pickAnd ?_;refine Z9 ?_;exact qk.h):p:=h ⟨k⟩
theorem Z169(h:p:=by refine D.build (places := #[(0, 1), (1, 1)]) jU (fun w => by simp) jZ ?_;exact Z269):p:=h
theorem Z170(h:p:=by refine Z61 ?_;refine Z136 ?_;exact Z148):p:=h
theorem Z171(h:p:=by refine Z133 ?_;exact K.lpN (x + 1) hlt (by omega) (by simp only [em]; exact StCut.of_eq rfl)):p:=h
theorem Z172(h:p:=by refine K.thR ?_;exact Z299):p:=h
theorem Z173(h:p:=by refine G.call Tryz.call100 (fun hB => c100 e.text marksText hs (by decide) _) ?_;exact Z170):p:=h
theorem Z174(k:q)(h:Hk q→p:=by intro qk;refine Z270 ?_;refine R.assignT ?_;exact qk.h):p:=h ⟨k⟩
theorem Z175(h:p:=by refine Z12 ?_;exact Z299):p:=h
theorem Z176(h:p:=by refine Z32 ?_;exact K.fin (V.one (V.cellN jA jS))):p:=h
theorem Z177(k:q)(h:Hk q→p:=by intro qk;refine R.slen jU ?_;refine R.gtr ?_;exact qk.h):p:=h ⟨k⟩
theorem Z178(k:q)(h:Hk q→p:=by intro qk;refine Z2 ?_;refine Z88 ?_;exact qk.h):p:=h ⟨k⟩
theorem Z179(k:q)(h:Hk q→p:=by intro qk;refine Z21 ?_;refine G.seql ?_;exact qk.h):p:=h ⟨k⟩
theorem Z180(k:q)(h:Hk q→p:=by intro qk;refine Z22 ?_;refine Z74 ?_;exact qk.h):p:=h ⟨k⟩
theorem Z181(k:q)(h:Hk q→p:=by intro qk;refine Z70 ?_;refine Z252 ?_;exact qk.h):p:=h ⟨k⟩
theorem Z182(k:q)(h:Hk q→p:=by intro qk;refine Y.allocP Tryz.zeroValue52 ?_;refine Y.storeP Tryz.sizeOf52 ?_;exact qk.h):p:=h ⟨k⟩
theorem Z183(h:p:=by refine D.loadRoN jA jS ?_;exact Z269):p:=h
theorem Z184(k:q)(h:Hk q→p:=by intro qk;refine AW.skip ?_;refine K.thJ ?_;exact qk.h):p:=h ⟨k⟩
theorem Z185(k:q)(h:Hk q→p:=by intro qk;refine Z13 ?_;refine Z13 ?_;exact qk.h):p:=h ⟨k⟩
theorem Z186(h:p:=by refine Z104 ?_;exact Z302):p:=h
theorem Z187(k:q)(h:Hk q→p:=by intro qk;refine Z252 ?_;refine Z8 ?_;exact qk.h):p:=h ⟨k⟩
theorem Z188(k:q)(h:Hk q→p:=by intro qk;refine Z16 ?_;refine Z272 ?_;exact qk.h):p:=h ⟨k⟩
theorem Z189(h:p:=by refine Z159 ?_;exact Z302):p:=h
theorem Z190(k:q)(h:Hk q→p:=by intro qk;refine Z252 ?_;refine R.lss ?_;exact qk.h):p:=h ⟨k⟩
theorem Z191(k:q)(h:Hk q→p:=by intro qk;refine Z279 ?_;refine R.neq ?_;exact qk.h):p:=h ⟨k⟩
theorem Z192(h:p:=by refine Z109 ?_;exact Z44):p:=h
theorem Z193(h:p:=by refine Z12 ?_;exact Z300):p:=h
theorem Z194(k:q)(h:Hk q→p:=by intro qk;refine Z272 ?_;refine R.call Tryz.call68 (c68 e _) ?_;exact qk.h):p:=h ⟨k⟩
theorem Z195(h:p:=by refine Z23 ?_;exact Z290):p:=h
theorem Z196(k:q)(h:Hk q→p:=by intro qk;refine Z278 ?_;refine R.wk 5 _ nullX_le ?_;exact qk.h):p:=h ⟨k⟩
theorem Z197(k:q)(h:Hk q→p:=by intro qk;refine Z34 ?_;refine Z0 ?_;exact qk.h):p:=h ⟨k⟩
theorem Z198(k:q)(h:Hk q→p:=by intro qk;refine G.eql ?_;refine G.move ?_;exact qk.h):p:=h ⟨k⟩
theorem Z199(k:q)(h:Hk q→p:=by intro qk;refine Z270 ?_;refine Z270 ?_;exact qk.h):p:=h ⟨k⟩
theorem Z200(h:p:=by refine Z23 ?_;exact Z294):p:=h
theorem Z201(h:p:=by refine Z32 ?_;exact K.fin (V.one (V.cellN jA jS)) ⟨by simp [ht5], rfl⟩):p:=h
theorem Z202(k:q)(h:Hk q→p:=by intro qk;refine Z40 ?_;refine R.fin [3, 8] ?_;exact qk.h):p:=h ⟨k⟩
theorem Z203(k:q)(h:Hk q→p:=by intro qk;refine Z185 ?_;refine Z77 ?_;exact qk.h):p:=h ⟨k⟩
theorem Z204(h:p:=by refine D.fieldAddrPtr (fo := 5) jU Tryz.sizeOf26 ?_;exact Z269):p:=h
theorem Z205(k:q)(h:Hk q→p:=by intro qk;refine Z75 ?_;refine R.callUp Tryz.call82 ho (by simp) low_pr (c82 l S 8 (tokAt l S.i).at_ o _ (get_up ho)) ?_;exact qk.h):p:=h ⟨k⟩
theorem Z206(h:p:=by refine Z68 ?_;exact K.fin (V.one V.tmp) ⟨by rw [hx.eq, hw], rfl⟩):p:=h
theorem Z207(h:p:=by refine Z12 ?_;refine Z4 ?_;exact K.fin (V.one V.tmp) ⟨by simp_all [shLevM], rfl⟩):p:=h
theorem Z208(h:p:=by refine Z9 ?_;exact K.fin (V.one V.tmp) ⟨by rw [hm, hD] <;> rfl, rfl⟩):p:=h
theorem Z209(k:q)(h:Hk q→p:=by intro qk;refine Z83 ?_;refine Z0 ?_;exact qk.h):p:=h ⟨k⟩
theorem Z210(k:q)(h:Hk q→p:=by intro qk;refine Z3 ?_;refine Z6 ?_;exact qk.h):p:=h ⟨k⟩
theorem Z211(k:q)(h:Hk q→p:=by intro qk;refine H.call Tryz.call101 (fun hB => c101 e.text _) ?_;refine H.fieldAddrRo (off := 5) jU Tryz.sizeOf26 ?_;exact qk.h):p:=h ⟨k⟩
theorem Z212(k:q)(h:Hk q→p:=by intro qk;refine Z84 ?_;refine R.call Tryz.call103 (c103 e.text _) ?_;exact qk.h):p:=h ⟨k⟩
theorem Z213(h:p:=by refine D.assign ?_;exact Z269):p:=h
theorem Z214(h:p:=by refine K.thR ?_;exact Z291):p:=h
theorem Z215(h:p:=by refine R.pickAnd ?_;exact Z66):p:=h
theorem Z216(k:q)(h:Hk q→p:=by intro qk;refine D.indexAddr (0) (exprA (e.kids.getD 0 nullX)) jU jS (kidD (by omega)).1 ?_;refine D.loadRoN jA jS ?_;exact qk.h):p:=h ⟨k⟩
theorem Z217(k:q)(h:Hk q→p:=by intro qk;refine D.indexAddr (1) (exprA (e.kids.getD 1 nullX)) jU jS (kidD (by omega)).1 ?_;refine D.loadRoN jA jS ?_;exact qk.h):p:=h ⟨k⟩
theorem Z218(k:q)(h:Hk q→p:=by intro qk;refine Z272 ?_;refine R.call Tryz.call44 (hev (e.kids.getD 0 nullX) (kidD (by omega)).2.1 _) ?_;exact qk.h):p:=h ⟨k⟩
theorem Z219(k:q)(h:Hk q→p:=by intro qk;refine Z252 ?_;refine Z43 ?_;exact qk.h):p:=h ⟨k⟩
theorem Z220(h:p:=by refine K.blN ?_;refine K.thJ ?_;exact StLe.of_eq (by rw [e] <;> rfl)):p:=h
theorem Z221(k:q)(h:Hk q→p:=by intro qk;refine Z25 ?_;refine R.boxRo ?_;exact qk.h):p:=h ⟨k⟩
theorem Z222(k:q)(h:Hk q→p:=by intro qk;refine D.build (places := #[(0, 1), (1, 1), (2, 6), (8, 1)]) jU (fun w => by simp) jZ ?_;refine Z41 ?_;exact qk.h):p:=h ⟨k⟩
theorem Z223(k:q)(h:Hk q→p:=by intro qk;refine R.fin [2, 3, 4, 5] ?_;refine Z23 ?_;exact qk.h):p:=h ⟨k⟩
theorem Z224(k:q)(h:Hk q→p:=by intro qk;refine W.draw [0, 1, 3, 7, 15, 3, 35, 99, 255, 511, 1023] 8 Tryzmixed (by kernel_rfl) ?_;refine Z160 ?_;exact qk.h):p:=h ⟨k⟩
theorem Z225(h:p:=by refine D.fieldAddrPtr (fo := 2) jU Tryz.sizeOf33 ?_;exact Z149):p:=h
theorem Z226(k:q)(h:Hk q→p:=by intro qk;refine G.fieldAddrRo (off := 2) jU Tryz.sizeOf25 ?_;refine G.fieldAddrRo (off := 1) jU Tryz.sizeOf2 ?_;exact qk.h):p:=h ⟨k⟩
theorem Z227(k:q)(h:Hk q→p:=by intro qk;refine Z253 ?_;refine Z257 ?_;exact qk.h):p:=h ⟨k⟩
theorem Z228(h:p:=by refine Z104 ?_;exact Z281):p:=h
theorem Z229(k:q)(h:Hk q→p:=by intro qk;refine R.loadUp jA ho ?_;refine R.add64 ?_;exact qk.h):p:=h ⟨k⟩
theorem Z230(k:q)(h:Hk q→p:=by intro qk;refine R.gtr ?_;refine Z258 ?_;exact qk.h):p:=h ⟨k⟩
theorem Z231(k:q)(h:Hk q→p:=by intro qk;refine R.fin [0, 3, 4] ?_;refine W.draw [0, 1, 3, 0, 8, 24, 56, 127] 7 Tryzmixed (by kernel_rfl) ?_;exact qk.h):p:=h ⟨k⟩
theorem Z232(k:q)(h:Hk q→p:=by intro qk;refine Z258 ?_;refine Z276 ?_;exact qk.h):p:=h ⟨k⟩
theorem Z233(k:q)(h:Hk q→p:=by intro qk;refine Z178 ?_;refine R.fin [0] ?_;exact qk.h):p:=h ⟨k⟩
theorem Z234(k:q)(h:Hk q→p:=by intro qk;refine R.fin [2, 3, 6, 7] ?_;refine Z0 ?_;exact qk.h):p:=h ⟨k⟩
theorem Z235(k:q)(h:Hk q→p:=by intro qk;refine R.indexAddr (1) (exprA (e.kids.getD 1 nullX)) jU jS (kidD (by omega)).1 ?_;refine Z151 ?_;exact qk.h):p:=h ⟨k⟩
theorem Z236(k:q)(h:Hk q→p:=by intro qk;refine R.pickAnd ?_;refine Z18 ?_;exact qk.h):p:=h ⟨k⟩
theorem Z237(h:p:=by refine Z107 ?_;exact Z147):p:=h
theorem Z238(k:q)(h:Hk q→p:=by intro qk;refine Z259 ?_;refine Z257 ?_;exact qk.h):p:=h ⟨k⟩
theorem Z239(k:q)(h:Hk q→p:=by intro qk;refine Z106 ?_;refine R.fin [1, 3, 4] ?_;exact qk.h):p:=h ⟨k⟩
theorem Z240(k:q)(h:Hk q→p:=by intro qk;refine R.fin [0, 2, 3] ?_;refine Z10 ?_;exact qk.h):p:=h ⟨k⟩
theorem Z241(k:q)(h:Hk q→p:=by intro qk;refine Z82 ?_;refine Z256 ?_;exact qk.h):p:=h ⟨k⟩
theorem Z242(k:q)(h:Hk q→p:=by intro qk;refine Z261 ?_;refine R.moveT ?_;exact qk.h):p:=h ⟨k⟩
theorem Z243(k:q)(h:Hk q→p:=by intro qk;refine W.draw [0, 0, 3, 7, 0, 0, 48, 112, 255] 8 Tryzmixed (by kernel_rfl) ?_;refine Z160 ?_;exact qk.h):p:=h ⟨k⟩
theorem Z244(k:q)(h:Hk q→p:=by intro qk;refine R.nilCell 0 1 1 ?_;refine R.nilCell 0 7 6 ?_;exact qk.h):p:=h ⟨k⟩
theorem Z245(k:q)(h:Hk q→p:=by intro qk;refine Z67 ?_;refine D.loadUp jA ho ?_;exact qk.h):p:=h ⟨k⟩
theorem Z246(k:q)(h:Hk q→p:=by intro qk;refine Z3 ?_;refine AW.block ?_;exact qk.h):p:=h ⟨k⟩
theorem Z247(k:q)(h:Hk q→p:=by intro qk;refine R.nilPtr ?_;refine R.fieldAddrPtr (fo := 2) jU Tryz.sizeOf33 ?_;refine Z285 ?_;exact qk.h):p:=h ⟨k⟩
theorem Z248(k:q)(h:Hk q→p:=by intro qk;refine Z10 ?_;refine Z122 ?_;exact qk.h):p:=h ⟨k⟩
theorem Z249(k:q)(h:Hk q→p:=by intro qk;refine Z260 ?_;refine Z131 ?_;exact qk.h):p:=h ⟨k⟩
theorem Z250(h:p:=by refine R.fin [4] ?_;refine Z23 ?_;exact Z297):p:=h
theorem Z251(h:p:=by exact ⟨rfl, Below.refl _ _⟩):p:=h
theorem Z252(k:q)(h:Hk q→p:=by intro qk;refine AW.seqR ?_;exact qk.h):p:=h ⟨k⟩
theorem Z253(k:q)(h:Hk q→p:=by intro qk;refine R.pickOr ?_;exact qk.h):p:=h ⟨k⟩
theorem Z254(h:p:=by exact K.fin (V.one V.tmp) ⟨by simp [plainM, ht5], rfl⟩):p:=h
theorem Z255(h:p:=by exact K.fin (V.one V.tmp) ⟨by simp [plainM, ht5, ht16, ht22], rfl⟩):p:=h
theorem Z256(k:q)(h:Hk q→p:=by intro qk;refine R.build (places := #[(0, 1), (1, 1), (2, 1)]) jU (fun w => by simp) jZ ?_;exact qk.h):p:=h ⟨k⟩
theorem Z257(k:q)(h:Hk q→p:=by intro qk;refine R.move ?_;exact qk.h):p:=h ⟨k⟩
theorem Z258(k:q)(h:Hk q→p:=by intro qk;refine R.assign ?_;exact qk.h):p:=h ⟨k⟩
theorem Z259(k:q)(h:Hk q→p:=by intro qk;refine R.loadRo jA ?_;exact qk.h):p:=h ⟨k⟩
theorem Z260(k:q)(h:Hk q→p:=by intro qk;refine R.storeOwn jS ?_;exact qk.h):p:=h ⟨k⟩
theorem Z261(k:q)(h:Hk q→p:=by intro qk;refine AW.region ?_;exact qk.h):p:=h ⟨k⟩
theorem Z262(h:p:=by exact K.fin (V.one V.tmp) ⟨by simp only [printM, hp, ht7, ht14, ht23, ht27, Bool.not_true, Bool.false_eq_true, if_false, if_true]; try rfl, rfl⟩):p:=h
theorem Z263(k:q)(h:Hk q→p:=by intro qk;refine R.loadOwnN jA jS ?_;exact qk.h):p:=h ⟨k⟩
theorem Z264(h:p:=by exact K.fin (V.two (V.cellN jA jS) V.tmp) ⟨by simp only [textR, ht17, if_true, if_false, Bool.false_eq_true]; rfl, rfl⟩):p:=h
theorem Z265(h:p:=by exact K.fin (V.four V.tmp V.tmp V.tmp V.tmp) ⟨by simp only [namedM, ht11, ht17, if_true, if_false, Bool.false_eq_true]; try rfl, rfl⟩):p:=h
theorem Z266(h:p:=by exact K.fin (V.four V.tmp V.tmp V.tmp V.tmp) ⟨by simp only [signM, ht18, ht23, if_true, if_false, Bool.false_eq_true]; try rfl, rfl⟩):p:=h
theorem Z267(h:p:=by exact K.fin (V.four V.tmp V.tmp V.tmp V.tmp) ⟨by simp only [wordM, ht6, ht17, ht28, if_true, if_false, Bool.false_eq_true], rfl⟩):p:=h
theorem Z268(h:p:=by exact absurd h (by decide)):p:=h
theorem Z269(h:p:=by exact D.end rfl rfl):p:=h
theorem Z270(k:q)(h:Hk q→p:=by intro qk;refine R.buildSlice jU jS jZ ?_;exact qk.h):p:=h ⟨k⟩
theorem Z271(k:q)(h:Hk q→p:=by intro qk;refine R.build (places := #[(0, 1), (1, 1)]) jU (fun w => by simp) jZ ?_;exact qk.h):p:=h ⟨k⟩
theorem Z272(k:q)(h:Hk q→p:=by intro qk;refine R.loadRoN jA jS ?_;exact qk.h):p:=h ⟨k⟩
theorem Z273(h:p:=by exact List.eq_nil_of_length_eq_zero (by omega)):p:=h
theorem Z274(h:p:=by exact ⟨hFRl, by simp [oid]⟩):p:=h
theorem Z275(h:p:=by exact low_app (fun x hx => ObjLow.le (by omega) (hlow x hx)) hOl x hx):p:=h
theorem Z276(k:q)(h:Hk q→p:=by intro qk;refine R.fin [1, 3] ?_;exact qk.h):p:=h ⟨k⟩
theorem Z277(h:p:=by exact ha.2 own S _ hl hla h0 hna hs' (stops_op ht (by omega))):p:=h
theorem Z278(k:q)(h:Hk q→p:=by intro qk;refine R.build (places := #[(0, 1), (1, 1), (2, 3), (5, 1)]) jU (fun w => by simp) jZ ?_;exact qk.h):p:=h ⟨k⟩
theorem Z279(k:q)(h:Hk q→p:=by intro qk;refine R.loadOwn jA ?_;exact qk.h):p:=h ⟨k⟩
theorem Z280(k:q)(h:Hk q→p:=by intro qk;refine D.loadRo jA ?_;exact qk.h):p:=h ⟨k⟩
theorem Z281(h:p:=by exact K.fin (V.one V.tmp) ⟨by rw [hf], rfl⟩):p:=h
theorem Z282(h:p:=by exact mark1_L (by kernel_rfl) h61):p:=h
theorem Z283(h:p:=by exact K.fin (V.one (V.cellN jA jS)) ⟨by rw [e, exprA_eq], by rw [e]⟩ (hlow := low_agg _)):p:=h
theorem Z284(h:p:=by exact ⟨Nat.le_of_eq (failQ_i _ _ _).symm, by rw [failQ_i]; exact hi, hc⟩):p:=h
theorem Z285(k:q)(h:Hk q→p:=by intro qk;refine R.fieldAddrPtr (fo := 0) jU Tryz.sizeOf31 ?_;exact qk.h):p:=h ⟨k⟩
theorem Z286(k:q)(h:Hk q→p:=by intro qk;refine Y.storeOwn (u := Hp.length) (n := 0) (t' := 30) (cs := [boolA false, .nil, intA 0, strA [], intA 0, intA 0, strA [], .nil, intA 0]) (cs' := [boolA false, .nil, intA 0, strA [], intA 0, intA 0, strA [], .nil, intA 0]) Tryz.sizeOf30 (fun B hB => ⟨rfl, rfl, rfl, rfl⟩) ?_;exact qk.h):p:=h ⟨k⟩
theorem Z287(k:q)(h:Hk q→p:=by intro qk;refine W.drawY [0, 0, 2, 6, 14, 1, 63] [5] [.q 5 [] [], .s [] (some 0) [] []] (fun _ => Hp) (fun _ => [.cells 30 [boolA false, .nil, intA 0, strA [], intA 0, intA 0, strA [], .nil, intA 0], .cells 33 [intA 0, intA 0], .cells 33 [intA (lexM s).2.1, intA ((lexM s).2.2 : Nat)], prq (lexM s).1 (s5Q (lexM s).1), qo true (r3Q (lexM s).1).1]) Tryzmixed (by kernel_rfl) rfl rfl (fun _ => rfl) ?_;exact qk.h):p:=h ⟨k⟩
theorem Z288(h:p:=by exact K.fin (V.one V.tmp) ⟨by first | rw [hz] | simp_all [levI], rfl⟩):p:=h
theorem Z289(h:p:=by exact K.fin (V.one V.tmp) ⟨by first | (rw [pe, hxe]; simp; done) | (rw [pe] <;> simp [notW]), rfl⟩):p:=h
theorem Z290(h:p:=by exact K.fin (V.two V.tmp V.tmp) ⟨by rw [hsh] <;> rfl, rfl⟩):p:=h
theorem Z291(h:p:=by exact K.fin (V.one V.tmp) ⟨by rw [e] <;> rfl, rfl⟩):p:=h
theorem Z292(h:p:=by exact K.fin (V.one V.tmp) ⟨by rw [e], rfl⟩):p:=h
theorem Z293(h:p:=by exact StLe.of_eq (by rw [ej] <;> rfl)):p:=h
theorem Z294(h:p:=by exact K.fin (V.two V.tmp V.tmp) ⟨by rw [e] <;> rfl, rfl⟩):p:=h
theorem Z295(h:p:=by exact StLe.of_eq (by rw [ej2] <;> rfl)):p:=h
theorem Z296(h:p:=by exact StLe.of_eq (by rw [ej3] <;> rfl)):p:=h
theorem Z297(h:p:=by exact K.fin (V.one V.tmp) ⟨by first | rfl | (simp; done) | (rw [hlaw.2]; simp), rfl⟩):p:=h
theorem Z298(h:p:=by exact K.fin .nores (hp := ⟨rfl, by first | (rw [e]; exact (same2 hne ho hoq).symm) | (rw [e]; exact (set_same (getQ hne hoq)).symm) | (rw [e]; simp only [List.set_set]; exact (set_same (getQ hne hoq)).symm) | (rw [e]; simp only [List.set_set]; rw [setQ hne]; rfl) | (rw [e]; simp only [List.set_set]; rw [List.set_comm _ _ hne]; rfl)⟩)):p:=h
theorem Z299(h:p:=by exact K.fin (V.one V.tmp) ⟨by simp_all [nodeOneM, bareM, arity_ref], rfl⟩):p:=h
theorem Z300(h:p:=by exact K.fin (V.one V.tmp) ⟨by simp_all [nodeM, bareM], rfl⟩):p:=h
theorem Z301(h:p:=by exact K.finN .nores (hp := ⟨rfl, by first | (rw [e]; done) | (rw [e]; rfl) | (rw [e]; exact (set_same ho).symm)⟩)):p:=h
theorem Z302(h:p:=by exact K.fin (V.one V.tmp) ⟨by rw [decide_eq_false hne], rfl⟩):p:=h
end Go.SX.Nb
namespace Go.SX.Nb
open Go Go.SX Go.Proofs
set_option maxRecDepth 4000

/-- Where strconv.ErrRange and strconv.ErrSyntax point. -/
class ErrAt where
 b : Addr
 bs : Addr
/-- The package-level variables of which something is known: bytealg.MaxLen is a number; strconv.ErrRange is an error of errors.New's make; the table of powers of ten. -/
def globs [E : ErrAt] : List (Nat × (Obj → Prop)) := [(2, fun o => ∃ m t f, o = .cells #[.int .i64 m] t f), (1, fun o => ∃ t f, o = .cells #[.iface 185 (.pointer (some E.b))] t f), (0, fun o => ∃ t f, o = .cells #[.iface 185 (.pointer (some E.bs))] t f), (3, fun o => ∃ t f, o = .cells (Lib.pow10Tab.map fun z => Value.int .u64 z).toArray t f)]
instance globInv [ErrAt] : GlobInv := ⟨globs⟩
variable [ErrAt]

abbrev Str := List UInt8
structure Col where
 name : Str
 kind : Int
 deriving DecidableEq
structure Val where
 kind : Int
 n : Int
 s : Str
 deriving DecidableEq
structure Row where
 key : Int
 l : List Val
 deriving DecidableEq
abbrev strA (s : Str) : AV := .v (sv s)
abbrev intA (n : Int) : AV := .v (.int .i64 n)
abbrev u64A (n : Int) : AV := .v (.int .u64 n)
abbrev boolA (b : Bool) : AV := .v (.bool b)
abbrev colA (c : Col) : AV := .agg [.v (sv c.name), .v (.int .i64 c.kind)]
abbrev colsA (c : List Col) : AV := .slice false 2 (c.map colA)
abbrev valA (v : Val) : AV := .agg [.v (.int .i64 v.kind), .v (.int .i64 v.n), .v (sv v.s)]
abbrev valsA (l : List Val) : AV := .slice false 3 (l.map valA)
abbrev rowA (r : Row) : AV := .agg [.v (.int .i64 r.key), .slice false 3 (r.l.map valA)]
abbrev rowsA (l : List Row) : AV := .slice false 2 (l.map rowA)
abbrev strsA (l : List Str) : AV := .slice false 1 (l.map strA)
theorem getMap {α β : Type} {f : α → β} {l : List α} {i : Nat} (h : i < l.length) : (l.map f)[i]? = some (f l[i]) := by simp [h]
theorem Tryzmixed : Tryz.prog.follows .mixedOrders = true := by kernel_rfl
theorem eg25 : Tryz.prog.eqGuardType Tryz.prog.depth 25 = false := by kernel_rfl
theorem equal25 (k n k' n' : Int) (s s' : List UInt8) (w : World) : (Op.equal 25 (.agg #[.int .i64 k, .int .i64 n, .string ⟨s.toArray⟩]) (.agg #[.int .i64 k', .int .i64 n', .string ⟨s'.toArray⟩])).run Tryz.prog w = .ok (k == k' && n == n' && s == s') w := by
 have h1 : Tryz.prog.stoodInHeld 25 = false := by kernel_rfl
 show (Op.equalIn (9999 + 1) _ _ _).run _ _ = _
 rw [Op.equalIn]
 generalize hd : (9999 : Nat) = d
 obtain ⟨d, rfl⟩ : ∃ e, d = e + 1 := ⟨9998, hd.symm⟩
 clear hd
 simp [run_underlying Tryz.underlying25, h1, part, eqInt _ _ _ _ _ _ Tryz.underlying3, eqInt _ _ _ _ _ _ Tryz.underlying2, eqStr _ _ _ _ _ Tryz.underlying9, Tryz.isAgg3, Tryz.isAgg2, Tryz.isAgg9]
 by_cases e1 : k = k' <;> by_cases e2 : n = n' <;> by_cases e3 : s = s' <;> simp [e1, e2, e3]
end Go.SX.Nb
namespace Go.Proofs
open Go Go.Shelf
def Tryz.ren144 : Ren where
 f := fun x => match x with | 144 => 96 | 143 => 133 | 219 => 157 | 217 => 166 | 225 => 177 | 224 => 178 | 267 => 179 | 266 => 188 | 314 => 193 | n => n
 t := fun x => match x with | 9 => 9 | 4 => 4 | 3 => 3 | 5 => 5 | 46 => 164 | 146 => 200 | 51 => 173 | n => n
 g := fun x => match x with | 1 => 2 | n => n
theorem Tryz.lays144 : Lays.n144 Tryz.prog Tryz.ren144 where
 mixed := by kernel_rfl
 f143 := Tryz.func133
 f144 := Tryz.func96
 f217 := Tryz.func166
 f219 := Tryz.func157
 f224 := Tryz.func178
 f225 := Tryz.func177
 f266 := Tryz.func188
 f267 := Tryz.func179
 f314 := Tryz.func193
 t3 := Tryz.underlying3
 a3 := Tryz.isAgg3
 z3 := Tryz.sizeOf3
 v3 := Tryz.zeroValue3
 t4 := Tryz.underlying4
 a4 := Tryz.isAgg4
 z4 := Tryz.sizeOf4
 v4 := Tryz.zeroValue4
 t5 := Tryz.underlying5
 a5 := Tryz.isAgg5
 z5 := Tryz.sizeOf5
 v5 := Tryz.zeroValue5
 t9 := Tryz.underlying9
 a9 := Tryz.isAgg9
 z9 := Tryz.sizeOf9
 v9 := Tryz.zeroValue9
 t46 := Tryz.underlying164
 a46 := Tryz.isAgg164
 z46 := Tryz.sizeOf164
 v46 := Tryz.zeroValue164
 t51 := Tryz.underlying173
 a51 := Tryz.isAgg173
 z51 := Tryz.sizeOf173
 v51 := Tryz.zeroValue173
 t146 := Tryz.underlying200
 a146 := Tryz.isAgg200
 z146 := Tryz.sizeOf200
 v146 := Tryz.zeroValue200
 g1 := by kernel_rfl
def Tryz.ren145 : Ren where
 f := fun x => match x with | 145 => 104 | 220 => 137 | 219 => 157 | 217 => 166 | 225 => 177 | 224 => 178 | 267 => 179 | 266 => 188 | 314 => 193 | n => n
 t := fun x => match x with | 9 => 9 | 4 => 4 | 59 => 129 | 3 => 3 | 5 => 5 | 46 => 164 | 146 => 200 | 51 => 173 | n => n
 g := fun x => match x with | 1 => 2 | n => n
theorem Tryz.lays145 : Lays.n145 Tryz.prog Tryz.ren145 where
 mixed := by kernel_rfl
 f145 := Tryz.func104
 f217 := Tryz.func166
 f219 := Tryz.func157
 f220 := Tryz.func137
 f224 := Tryz.func178
 f225 := Tryz.func177
 f266 := Tryz.func188
 f267 := Tryz.func179
 f314 := Tryz.func193
 t3 := Tryz.underlying3
 a3 := Tryz.isAgg3
 z3 := Tryz.sizeOf3
 v3 := Tryz.zeroValue3
 t4 := Tryz.underlying4
 a4 := Tryz.isAgg4
 z4 := Tryz.sizeOf4
 v4 := Tryz.zeroValue4
 t5 := Tryz.underlying5
 a5 := Tryz.isAgg5
 z5 := Tryz.sizeOf5
 v5 := Tryz.zeroValue5
 t9 := Tryz.underlying9
 a9 := Tryz.isAgg9
 z9 := Tryz.sizeOf9
 v9 := Tryz.zeroValue9
 t46 := Tryz.underlying164
 a46 := Tryz.isAgg164
 z46 := Tryz.sizeOf164
 v46 := Tryz.zeroValue164
 t51 := Tryz.underlying173
 a51 := Tryz.isAgg173
 z51 := Tryz.sizeOf173
 v51 := Tryz.zeroValue173
 t59 := Tryz.underlying129
 a59 := Tryz.isAgg129
 z59 := Tryz.sizeOf129
 v59 := Tryz.zeroValue129
 t146 := Tryz.underlying200
 a146 := Tryz.isAgg200
 z146 := Tryz.sizeOf200
 v146 := Tryz.zeroValue200
 g1 := by kernel_rfl
def Tryz.ren146 : Ren where
 f := fun x => match x with | 146 => 134 | 221 => 158 | 268 => 180 | 138 => 172 | 143 => 133 | 195 => 190 | 197 => 155 | 218 => 191 | 219 => 157 | 260 => 175 | 217 => 166 | 225 => 177 | 224 => 178 | 267 => 179 | 266 => 188 | 314 => 193 | n => n
 t := fun x => match x with | 9 => 9 | 31 => 23 | 3 => 3 | 4 => 4 | 0 => 0 | 105 => 176 | 21 => 21 | 5 => 5 | 46 => 164 | 119 => 195 | 139 => 198 | 138 => 197 | 146 => 200 | 51 => 173 | n => n
 g := fun x => match x with | 1 => 2 | 3 => 6 | 4 => 7 | n => n
theorem Tryz.lays146 : Lays.n146 Tryz.prog Tryz.ren146 where
 mixed := by kernel_rfl
 f138 := Tryz.func172
 f143 := Tryz.func133
 f146 := Tryz.func134
 f195 := Tryz.func190
 f197 := Tryz.func155
 f217 := Tryz.func166
 f218 := Tryz.func191
 f219 := Tryz.func157
 f221 := Tryz.func158
 f224 := Tryz.func178
 f225 := Tryz.func177
 f260 := Tryz.func175
 f266 := Tryz.func188
 f267 := Tryz.func179
 f268 := Tryz.func180
 f314 := Tryz.func193
 t0 := Tryz.underlying0
 a0 := Tryz.isAgg0
 z0 := Tryz.sizeOf0
 v0 := Tryz.zeroValue0
 t3 := Tryz.underlying3
 a3 := Tryz.isAgg3
 z3 := Tryz.sizeOf3
 v3 := Tryz.zeroValue3
 t4 := Tryz.underlying4
 a4 := Tryz.isAgg4
 z4 := Tryz.sizeOf4
 v4 := Tryz.zeroValue4
 t5 := Tryz.underlying5
 a5 := Tryz.isAgg5
 z5 := Tryz.sizeOf5
 v5 := Tryz.zeroValue5
 t9 := Tryz.underlying9
 a9 := Tryz.isAgg9
 z9 := Tryz.sizeOf9
 v9 := Tryz.zeroValue9
 t21 := Tryz.underlying21
 a21 := Tryz.isAgg21
 z21 := Tryz.sizeOf21
 v21 := Tryz.zeroValue21
 t31 := Tryz.underlying23
 a31 := Tryz.isAgg23
 z31 := Tryz.sizeOf23
 v31 := Tryz.zeroValue23
 t46 := Tryz.underlying164
 a46 := Tryz.isAgg164
 z46 := Tryz.sizeOf164
 v46 := Tryz.zeroValue164
 t51 := Tryz.underlying173
 a51 := Tryz.isAgg173
 z51 := Tryz.sizeOf173
 v51 := Tryz.zeroValue173
 t105 := Tryz.underlying176
 a105 := Tryz.isAgg176
 z105 := Tryz.sizeOf176
 v105 := Tryz.zeroValue176
 t119 := Tryz.underlying195
 a119 := Tryz.isAgg195
 z119 := Tryz.sizeOf195
 t138 := Tryz.underlying197
 a138 := Tryz.isAgg197
 z138 := Tryz.sizeOf197
 v138 := Tryz.zeroValue197
 t139 := Tryz.underlying198
 a139 := Tryz.isAgg198
 z139 := Tryz.sizeOf198
 v139 := Tryz.zeroValue198
 t146 := Tryz.underlying200
 a146 := Tryz.isAgg200
 z146 := Tryz.sizeOf200
 v146 := Tryz.zeroValue200
 g1 := by kernel_rfl
 g3 := by kernel_rfl
 g4 := by kernel_rfl
def Tryz.ren161 : Ren where
 f := fun x => match x with | 161 => 95 | 231 => 129 | 227 => 130 | 233 => 131 | 235 => 132 | 228 => 154 | 197 => 155 | 151 => 156 | 260 => 175 | 152 => 176 | 137 => 139 | 119 => 192 | 224 => 178 | 225 => 177 | 217 => 166 | 266 => 188 | n => n
 t := fun x => match x with | 9 => 9 | 4 => 4 | 3 => 3 | 5 => 5 | 117 => 152 | 116 => 151 | 0 => 0 | 124 => 155 | 105 => 176 | 21 => 21 | 119 => 195 | 46 => 164 | 139 => 198 | 138 => 197 | n => n
 g := fun x => match x with | 3 => 6 | 4 => 7 | n => n
theorem Tryz.lays161 : Lays.n161 Tryz.prog Tryz.ren161 where
 mixed := by kernel_rfl
 f119 := Tryz.func192
 f137 := Tryz.func139
 f151 := Tryz.func156
 f152 := Tryz.func176
 f161 := Tryz.func95
 f197 := Tryz.func155
 f217 := Tryz.func166
 f224 := Tryz.func178
 f225 := Tryz.func177
 f227 := Tryz.func130
 f228 := Tryz.func154
 f231 := Tryz.func129
 f233 := Tryz.func131
 f235 := Tryz.func132
 f260 := Tryz.func175
 f266 := Tryz.func188
 t0 := Tryz.underlying0
 a0 := Tryz.isAgg0
 z0 := Tryz.sizeOf0
 v0 := Tryz.zeroValue0
 t3 := Tryz.underlying3
 a3 := Tryz.isAgg3
 z3 := Tryz.sizeOf3
 v3 := Tryz.zeroValue3
 t4 := Tryz.underlying4
 a4 := Tryz.isAgg4
 z4 := Tryz.sizeOf4
 v4 := Tryz.zeroValue4
 t5 := Tryz.underlying5
 a5 := Tryz.isAgg5
 z5 := Tryz.sizeOf5
 v5 := Tryz.zeroValue5
 t9 := Tryz.underlying9
 a9 := Tryz.isAgg9
 z9 := Tryz.sizeOf9
 v9 := Tryz.zeroValue9
 t21 := Tryz.underlying21
 a21 := Tryz.isAgg21
 z21 := Tryz.sizeOf21
 v21 := Tryz.zeroValue21
 t46 := Tryz.underlying164
 a46 := Tryz.isAgg164
 z46 := Tryz.sizeOf164
 v46 := Tryz.zeroValue164
 t105 := Tryz.underlying176
 a105 := Tryz.isAgg176
 z105 := Tryz.sizeOf176
 v105 := Tryz.zeroValue176
 t116 := Tryz.underlying151
 a116 := Tryz.isAgg151
 z116 := Tryz.sizeOf151
 t117 := Tryz.underlying152
 a117 := Tryz.isAgg152
 z117 := Tryz.sizeOf152
 v117 := Tryz.zeroValue152
 t119 := Tryz.underlying195
 a119 := Tryz.isAgg195
 z119 := Tryz.sizeOf195
 t124 := Tryz.underlying155
 a124 := Tryz.isAgg155
 z124 := Tryz.sizeOf155
 v124 := Tryz.zeroValue155
 t138 := Tryz.underlying197
 a138 := Tryz.isAgg197
 z138 := Tryz.sizeOf197
 v138 := Tryz.zeroValue197
 t139 := Tryz.underlying198
 a139 := Tryz.isAgg198
 z139 := Tryz.sizeOf198
 v139 := Tryz.zeroValue198
 g3 := by kernel_rfl
 g4 := by kernel_rfl
def Tryz.ren99 : Ren where
 f := fun x => match x with | 99 => 161 | 206 => 181 | n => n
 t := fun x => match x with | 9 => 9 | 4 => 4 | 3 => 3 | n => n
 g := fun x => x
theorem Tryz.lays99 : Lays.n99 Tryz.prog Tryz.ren99 where
 mixed := by kernel_rfl
 f99 := Tryz.func161
 f206 := Tryz.func181
 t3 := Tryz.underlying3
 a3 := Tryz.isAgg3
 z3 := Tryz.sizeOf3
 v3 := Tryz.zeroValue3
 t4 := Tryz.underlying4
 a4 := Tryz.isAgg4
 z4 := Tryz.sizeOf4
 v4 := Tryz.zeroValue4
 t9 := Tryz.underlying9
 a9 := Tryz.isAgg9
 z9 := Tryz.sizeOf9
 v9 := Tryz.zeroValue9
def Tryz.ren100 : Ren where
 f := fun x => match x with | 100 => 162 | 207 => 182 | n => n
 t := fun x => match x with | 9 => 9 | 4 => 4 | 3 => 3 | n => n
 g := fun x => x
theorem Tryz.lays100 : Lays.n100 Tryz.prog Tryz.ren100 where
 mixed := by kernel_rfl
 f100 := Tryz.func162
 f207 := Tryz.func182
 t3 := Tryz.underlying3
 a3 := Tryz.isAgg3
 z3 := Tryz.sizeOf3
 v3 := Tryz.zeroValue3
 t4 := Tryz.underlying4
 a4 := Tryz.isAgg4
 z4 := Tryz.sizeOf4
 v4 := Tryz.zeroValue4
 t9 := Tryz.underlying9
 a9 := Tryz.isAgg9
 z9 := Tryz.sizeOf9
 v9 := Tryz.zeroValue9
def Tryz.ren101 : Ren where
 f := fun x => match x with | 101 => 184 | 208 => 194 | 206 => 181 | n => n
 t := fun x => match x with | 9 => 9 | 4 => 4 | 3 => 3 | n => n
 g := fun x => x
theorem Tryz.lays101 : Lays.n101 Tryz.prog Tryz.ren101 where
 mixed := by kernel_rfl
 f101 := Tryz.func184
 f206 := Tryz.func181
 f208 := Tryz.func194
 t3 := Tryz.underlying3
 a3 := Tryz.isAgg3
 z3 := Tryz.sizeOf3
 v3 := Tryz.zeroValue3
 t4 := Tryz.underlying4
 a4 := Tryz.isAgg4
 z4 := Tryz.sizeOf4
 v4 := Tryz.zeroValue4
 t9 := Tryz.underlying9
 a9 := Tryz.isAgg9
 z9 := Tryz.sizeOf9
 v9 := Tryz.zeroValue9
def Tryz.ren160 : Ren where
 f := fun x => match x with | 160 => 185 | 232 => 195 | 231 => 129 | 227 => 130 | 234 => 196 | 233 => 131 | 236 => 197 | 235 => 132 | 228 => 154 | 271 => 201 | 151 => 156 | 197 => 155 | 120 => 203 | 152 => 176 | 260 => 175 | 137 => 139 | 119 => 192 | 224 => 178 | 225 => 177 | 217 => 166 | 266 => 188 | n => n
 t := fun x => match x with | 9 => 9 | 4 => 4 | 3 => 3 | 5 => 5 | 117 => 152 | 116 => 151 | 0 => 0 | 124 => 155 | 21 => 21 | 105 => 176 | 46 => 164 | 119 => 195 | 139 => 198 | 138 => 197 | n => n
 g := fun x => match x with | 3 => 6 | 4 => 7 | n => n
theorem Tryz.lays160 : Lays.n160 Tryz.prog Tryz.ren160 where
 mixed := by kernel_rfl
 f119 := Tryz.func192
 f120 := Tryz.func203
 f137 := Tryz.func139
 f151 := Tryz.func156
 f152 := Tryz.func176
 f160 := Tryz.func185
 f197 := Tryz.func155
 f217 := Tryz.func166
 f224 := Tryz.func178
 f225 := Tryz.func177
 f227 := Tryz.func130
 f228 := Tryz.func154
 f231 := Tryz.func129
 f232 := Tryz.func195
 f233 := Tryz.func131
 f234 := Tryz.func196
 f235 := Tryz.func132
 f236 := Tryz.func197
 f260 := Tryz.func175
 f266 := Tryz.func188
 f271 := Tryz.func201
 t0 := Tryz.underlying0
 a0 := Tryz.isAgg0
 z0 := Tryz.sizeOf0
 v0 := Tryz.zeroValue0
 t3 := Tryz.underlying3
 a3 := Tryz.isAgg3
 z3 := Tryz.sizeOf3
 v3 := Tryz.zeroValue3
 t4 := Tryz.underlying4
 a4 := Tryz.isAgg4
 z4 := Tryz.sizeOf4
 v4 := Tryz.zeroValue4
 t5 := Tryz.underlying5
 a5 := Tryz.isAgg5
 z5 := Tryz.sizeOf5
 v5 := Tryz.zeroValue5
 t9 := Tryz.underlying9
 a9 := Tryz.isAgg9
 z9 := Tryz.sizeOf9
 v9 := Tryz.zeroValue9
 t21 := Tryz.underlying21
 a21 := Tryz.isAgg21
 z21 := Tryz.sizeOf21
 v21 := Tryz.zeroValue21
 t46 := Tryz.underlying164
 a46 := Tryz.isAgg164
 z46 := Tryz.sizeOf164
 v46 := Tryz.zeroValue164
 t105 := Tryz.underlying176
 a105 := Tryz.isAgg176
 z105 := Tryz.sizeOf176
 v105 := Tryz.zeroValue176
 t116 := Tryz.underlying151
 a116 := Tryz.isAgg151
 z116 := Tryz.sizeOf151
 t117 := Tryz.underlying152
 a117 := Tryz.isAgg152
 z117 := Tryz.sizeOf152
 v117 := Tryz.zeroValue152
 t119 := Tryz.underlying195
 a119 := Tryz.isAgg195
 z119 := Tryz.sizeOf195
 t124 := Tryz.underlying155
 a124 := Tryz.isAgg155
 z124 := Tryz.sizeOf155
 v124 := Tryz.zeroValue155
 t138 := Tryz.underlying197
 a138 := Tryz.isAgg197
 z138 := Tryz.sizeOf197
 v138 := Tryz.zeroValue197
 t139 := Tryz.underlying198
 a139 := Tryz.isAgg198
 z139 := Tryz.sizeOf198
 v139 := Tryz.zeroValue198
 g3 := by kernel_rfl
 g4 := by kernel_rfl
def Tryz.ren155 : Ren where
 f := fun x => match x with | 155 => 124 | 154 => 148 | 138 => 172 | 165 => 59 | 143 => 133 | 166 => 60 | 197 => 155 | 169 => 61 | 195 => 190 | 218 => 191 | 240 => 89 | 241 => 90 | 219 => 157 | 260 => 175 | 276 => 120 | 277 => 121 | 217 => 166 | 225 => 177 | 224 => 178 | 267 => 179 | 266 => 188 | 314 => 193 | n => n
 t := fun x => match x with | 9 => 9 | 3 => 3 | 4 => 4 | 72 => 90 | 0 => 0 | 76 => 77 | 105 => 176 | 21 => 21 | 5 => 5 | 70 => 88 | 20 => 20 | 37 => 80 | 75 => 76 | 127 => 121 | 164 => 140 | 46 => 164 | 119 => 195 | 139 => 198 | 138 => 197 | 146 => 200 | 51 => 173 | 80 => 57 | n => n
 g := fun x => match x with | 1 => 2 | 3 => 6 | 4 => 7 | n => n
theorem Tryz.lays155 : Lays.n155 Tryz.prog Tryz.ren155 where
 mixed := by kernel_rfl
 f138 := Tryz.func172
 f143 := Tryz.func133
 f154 := Tryz.func148
 f155 := Tryz.func124
 f165 := Tryz.func59
 f166 := Tryz.func60
 f169 := Tryz.func61
 f195 := Tryz.func190
 f197 := Tryz.func155
 f217 := Tryz.func166
 f218 := Tryz.func191
 f219 := Tryz.func157
 f224 := Tryz.func178
 f225 := Tryz.func177
 f240 := Tryz.func89
 f241 := Tryz.func90
 f260 := Tryz.func175
 f266 := Tryz.func188
 f267 := Tryz.func179
 f276 := Tryz.func120
 f277 := Tryz.func121
 f314 := Tryz.func193
 t0 := Tryz.underlying0
 a0 := Tryz.isAgg0
 z0 := Tryz.sizeOf0
 v0 := Tryz.zeroValue0
 t3 := Tryz.underlying3
 a3 := Tryz.isAgg3
 z3 := Tryz.sizeOf3
 v3 := Tryz.zeroValue3
 t4 := Tryz.underlying4
 a4 := Tryz.isAgg4
 z4 := Tryz.sizeOf4
 v4 := Tryz.zeroValue4
 t5 := Tryz.underlying5
 a5 := Tryz.isAgg5
 z5 := Tryz.sizeOf5
 v5 := Tryz.zeroValue5
 t9 := Tryz.underlying9
 a9 := Tryz.isAgg9
 z9 := Tryz.sizeOf9
 v9 := Tryz.zeroValue9
 t20 := Tryz.underlying20
 a20 := Tryz.isAgg20
 z20 := Tryz.sizeOf20
 v20 := Tryz.zeroValue20
 t21 := Tryz.underlying21
 a21 := Tryz.isAgg21
 z21 := Tryz.sizeOf21
 v21 := Tryz.zeroValue21
 t37 := Tryz.underlying80
 a37 := Tryz.isAgg80
 z37 := Tryz.sizeOf80
 v37 := Tryz.zeroValue80
 t46 := Tryz.underlying164
 a46 := Tryz.isAgg164
 z46 := Tryz.sizeOf164
 v46 := Tryz.zeroValue164
 t51 := Tryz.underlying173
 a51 := Tryz.isAgg173
 z51 := Tryz.sizeOf173
 v51 := Tryz.zeroValue173
 t70 := Tryz.underlying88
 a70 := Tryz.isAgg88
 z70 := Tryz.sizeOf88
 v70 := Tryz.zeroValue88
 t72 := Tryz.underlying90
 a72 := Tryz.isAgg90
 z72 := Tryz.sizeOf90
 v72 := Tryz.zeroValue90
 t75 := Tryz.underlying76
 a75 := Tryz.isAgg76
 z75 := Tryz.sizeOf76
 v75 := Tryz.zeroValue76
 t76 := Tryz.underlying77
 a76 := Tryz.isAgg77
 z76 := Tryz.sizeOf77
 v76 := Tryz.zeroValue77
 t105 := Tryz.underlying176
 a105 := Tryz.isAgg176
 z105 := Tryz.sizeOf176
 v105 := Tryz.zeroValue176
 t119 := Tryz.underlying195
 a119 := Tryz.isAgg195
 z119 := Tryz.sizeOf195
 t127 := Tryz.underlying121
 a127 := Tryz.isAgg121
 z127 := Tryz.sizeOf121
 v127 := Tryz.zeroValue121
 t138 := Tryz.underlying197
 a138 := Tryz.isAgg197
 z138 := Tryz.sizeOf197
 v138 := Tryz.zeroValue197
 t139 := Tryz.underlying198
 a139 := Tryz.isAgg198
 z139 := Tryz.sizeOf198
 v139 := Tryz.zeroValue198
 t146 := Tryz.underlying200
 a146 := Tryz.isAgg200
 z146 := Tryz.sizeOf200
 v146 := Tryz.zeroValue200
 t164 := Tryz.underlying140
 a164 := Tryz.isAgg140
 z164 := Tryz.sizeOf140
 v164 := Tryz.zeroValue140
 g1 := by kernel_rfl
 g3 := by kernel_rfl
 g4 := by kernel_rfl
def Tryz.ren156 : Ren where
 f := fun x => match x with | 156 => 30 | 165 => 59 | 166 => 60 | 169 => 61 | 240 => 89 | 241 => 90 | 276 => 120 | 277 => 121 | n => n
 t := fun x => match x with | 31 => 23 | 9 => 9 | 3 => 3 | 4 => 4 | 0 => 0 | 20 => 20 | 72 => 90 | 76 => 77 | 70 => 88 | 37 => 80 | 75 => 76 | 127 => 121 | 164 => 140 | 5 => 5 | 80 => 57 | n => n
 g := fun x => x
theorem Tryz.lays156 : Lays.n156 Tryz.prog Tryz.ren156 where
 mixed := by kernel_rfl
 f156 := Tryz.func30
 f165 := Tryz.func59
 f166 := Tryz.func60
 f169 := Tryz.func61
 f240 := Tryz.func89
 f241 := Tryz.func90
 f276 := Tryz.func120
 f277 := Tryz.func121
 t0 := Tryz.underlying0
 a0 := Tryz.isAgg0
 z0 := Tryz.sizeOf0
 v0 := Tryz.zeroValue0
 t3 := Tryz.underlying3
 a3 := Tryz.isAgg3
 z3 := Tryz.sizeOf3
 v3 := Tryz.zeroValue3
 t4 := Tryz.underlying4
 a4 := Tryz.isAgg4
 z4 := Tryz.sizeOf4
 v4 := Tryz.zeroValue4
 t9 := Tryz.underlying9
 a9 := Tryz.isAgg9
 z9 := Tryz.sizeOf9
 v9 := Tryz.zeroValue9
 t20 := Tryz.underlying20
 a20 := Tryz.isAgg20
 z20 := Tryz.sizeOf20
 v20 := Tryz.zeroValue20
 t31 := Tryz.underlying23
 a31 := Tryz.isAgg23
 z31 := Tryz.sizeOf23
 v31 := Tryz.zeroValue23
 t37 := Tryz.underlying80
 a37 := Tryz.isAgg80
 z37 := Tryz.sizeOf80
 v37 := Tryz.zeroValue80
 t70 := Tryz.underlying88
 a70 := Tryz.isAgg88
 z70 := Tryz.sizeOf88
 v70 := Tryz.zeroValue88
 t72 := Tryz.underlying90
 a72 := Tryz.isAgg90
 z72 := Tryz.sizeOf90
 v72 := Tryz.zeroValue90
 t75 := Tryz.underlying76
 a75 := Tryz.isAgg76
 z75 := Tryz.sizeOf76
 v75 := Tryz.zeroValue76
 t76 := Tryz.underlying77
 a76 := Tryz.isAgg77
 z76 := Tryz.sizeOf77
 v76 := Tryz.zeroValue77
 t127 := Tryz.underlying121
 a127 := Tryz.isAgg121
 z127 := Tryz.sizeOf121
 v127 := Tryz.zeroValue121
 t164 := Tryz.underlying140
 a164 := Tryz.isAgg140
 z164 := Tryz.sizeOf140
 v164 := Tryz.zeroValue140
def Tryz.ren174 : Ren where
 f := fun x => match x with | 174 => 186 | 247 => 111 | 245 => 85 | 287 => 143 | 279 => 112 | 280 => 113 | 281 => 114 | 282 => 115 | 321 => 170 | 322 => 171 | 316 => 144 | 171 => 33 | 205 => 145 | 243 => 64 | 246 => 94 | 283 => 125 | 284 => 126 | 285 => 127 | 286 => 128 | 129 => 150 | 317 => 149 | 318 => 151 | 319 => 152 | 320 => 153 | 337 => 173 | 338 => 174 | n => n
 t := fun x => match x with | 9 => 9 | 3 => 3 | 2 => 2 | 75 => 76 | 85 => 133 | 4 => 4 | 167 => 132 | 5 => 5 | 53 => 81 | 175 => 162 | 46 => 164 | 168 => 135 | 37 => 80 | 0 => 0 | 210 => 167 | 21 => 21 | 127 => 121 | 145 => 187 | 143 => 185 | 171 => 144 | 173 => 147 | 212 => 172 | 51 => 173 | 20 => 20 | 213 => 174 | 232 => 193 | 233 => 194 | 80 => 57 | n => n
 g := fun x => match x with | 15 => 0 | 16 => 1 | 17 => 3 | 18 => 4 | 19 => 5 | n => n
theorem Tryz.lays174 : LaysC.n174 Tryz.prog Tryz.ren174 where
 mixed := by kernel_rfl
 f129 := Tryz.func150
 f171 := Tryz.func33
 f174 := Tryz.func186
 f205 := Tryz.func145
 f243 := Tryz.func64
 f245 := Tryz.func85
 f246 := Tryz.func94
 f247 := Tryz.func111
 f279 := Tryz.func112
 f280 := Tryz.func113
 f281 := Tryz.func114
 f282 := Tryz.func115
 f283 := Tryz.func125
 f284 := Tryz.func126
 f285 := Tryz.func127
 f286 := Tryz.func128
 f287 := Tryz.func143
 f316 := Tryz.func144
 f317 := Tryz.func149
 f318 := Tryz.func151
 f319 := Tryz.func152
 f320 := Tryz.func153
 f321 := Tryz.func170
 f322 := Tryz.func171
 f337 := Tryz.func173
 f338 := Tryz.func174
 t0 := Tryz.underlying0
 a0 := Tryz.isAgg0
 z0 := Tryz.sizeOf0
 v0 := Tryz.zeroValue0
 t2 := Tryz.underlying2
 a2 := Tryz.isAgg2
 z2 := Tryz.sizeOf2
 v2 := Tryz.zeroValue2
 t3 := Tryz.underlying3
 a3 := Tryz.isAgg3
 z3 := Tryz.sizeOf3
 v3 := Tryz.zeroValue3
 t4 := Tryz.underlying4
 a4 := Tryz.isAgg4
 z4 := Tryz.sizeOf4
 v4 := Tryz.zeroValue4
 t5 := Tryz.underlying5
 a5 := Tryz.isAgg5
 z5 := Tryz.sizeOf5
 v5 := Tryz.zeroValue5
 t9 := Tryz.underlying9
 a9 := Tryz.isAgg9
 z9 := Tryz.sizeOf9
 v9 := Tryz.zeroValue9
 t20 := Tryz.underlying20
 a20 := Tryz.isAgg20
 z20 := Tryz.sizeOf20
 v20 := Tryz.zeroValue20
 t21 := Tryz.underlying21
 a21 := Tryz.isAgg21
 z21 := Tryz.sizeOf21
 v21 := Tryz.zeroValue21
 t37 := Tryz.underlying80
 a37 := Tryz.isAgg80
 z37 := Tryz.sizeOf80
 v37 := Tryz.zeroValue80
 t46 := Tryz.underlying164
 a46 := Tryz.isAgg164
 z46 := Tryz.sizeOf164
 v46 := Tryz.zeroValue164
 t51 := Tryz.underlying173
 a51 := Tryz.isAgg173
 z51 := Tryz.sizeOf173
 v51 := Tryz.zeroValue173
 t53 := Tryz.underlying81
 a53 := Tryz.isAgg81
 z53 := Tryz.sizeOf81
 v53 := Tryz.zeroValue81
 t75 := Tryz.underlying76
 a75 := Tryz.isAgg76
 z75 := Tryz.sizeOf76
 v75 := Tryz.zeroValue76
 t85 := Tryz.underlying133
 a85 := Tryz.isAgg133
 z85 := Tryz.sizeOf133
 v85 := Tryz.zeroValue133
 t127 := Tryz.underlying121
 a127 := Tryz.isAgg121
 z127 := Tryz.sizeOf121
 v127 := Tryz.zeroValue121
 t143 := Tryz.underlying185
 a143 := Tryz.isAgg185
 z143 := Tryz.sizeOf185
 v143 := Tryz.zeroValue185
 t145 := Tryz.underlying187
 a145 := Tryz.isAgg187
 z145 := Tryz.sizeOf187
 v145 := Tryz.zeroValue187
 t167 := Tryz.underlying132
 a167 := Tryz.isAgg132
 z167 := Tryz.sizeOf132
 v167 := Tryz.zeroValue132
 t168 := Tryz.underlying135
 a168 := Tryz.isAgg135
 z168 := Tryz.sizeOf135
 v168 := Tryz.zeroValue135
 t171 := Tryz.underlying144
 a171 := Tryz.isAgg144
 z171 := Tryz.sizeOf144
 v171 := Tryz.zeroValue144
 t173 := Tryz.underlying147
 a173 := Tryz.isAgg147
 z173 := Tryz.sizeOf147
 v173 := Tryz.zeroValue147
 t175 := Tryz.underlying162
 a175 := Tryz.isAgg162
 z175 := Tryz.sizeOf162
 v175 := Tryz.zeroValue162
 t210 := Tryz.underlying167
 a210 := Tryz.isAgg167
 z210 := Tryz.sizeOf167
 v210 := Tryz.zeroValue167
 t212 := Tryz.underlying172
 a212 := Tryz.isAgg172
 z212 := Tryz.sizeOf172
 v212 := Tryz.zeroValue172
 t213 := Tryz.underlying174
 a213 := Tryz.isAgg174
 z213 := Tryz.sizeOf174
 t232 := Tryz.underlying193
 a232 := Tryz.isAgg193
 z232 := Tryz.sizeOf193
 v232 := Tryz.zeroValue193
 t233 := Tryz.underlying194
 a233 := Tryz.isAgg194
 z233 := Tryz.sizeOf194
 v233 := Tryz.zeroValue194
 g15 := by kernel_rfl
 g16 := by kernel_rfl
 g17 := by kernel_rfl
 g18 := by kernel_rfl
 g19 := by kernel_rfl
 t80 := Tryz.underlying57
 a80 := Tryz.isAgg57
 z80 := Tryz.sizeOf57
 v80 := Tryz.zeroValue57
 i0 := by kernel_rfl
 i2 := by kernel_rfl
 i3 := by kernel_rfl
 i4 := by kernel_rfl
 i5 := by kernel_rfl
 i9 := by kernel_rfl
 i20 := by kernel_rfl
 i21 := by kernel_rfl
 i37 := by kernel_rfl
 i46 := by kernel_rfl
 i51 := by kernel_rfl
 i53 := by kernel_rfl
 i75 := by kernel_rfl
 i80 := by kernel_rfl
 i85 := by kernel_rfl
 i127 := by kernel_rfl
 i143 := by kernel_rfl
 i145 := by kernel_rfl
 i167 := by kernel_rfl
 i168 := by kernel_rfl
 i171 := by kernel_rfl
 i173 := by kernel_rfl
 i175 := by kernel_rfl
 i210 := by kernel_rfl
 i212 := by kernel_rfl
 i232 := by kernel_rfl
 i233 := by kernel_rfl
 m15 := by kernel_rfl
 m16 := by kernel_rfl
 m17 := by kernel_rfl
 m18 := by kernel_rfl
 m19 := by kernel_rfl
 c0 := by kernel_rfl
 c2 := by kernel_rfl
 c3 := by kernel_rfl
 c4 := by kernel_rfl
 c5 := by kernel_rfl
 c9 := by kernel_rfl
 c20 := by kernel_rfl
 c21 := by kernel_rfl
 c37 := by kernel_rfl
 c46 := by kernel_rfl
 c51 := by kernel_rfl
 c53 := by kernel_rfl
 c75 := by kernel_rfl
 c80 := by kernel_rfl
 c85 := by kernel_rfl
 c127 := by kernel_rfl
 c143 := by kernel_rfl
 c145 := by kernel_rfl
 c167 := by kernel_rfl
 c168 := by kernel_rfl
 c171 := by kernel_rfl
 c173 := by kernel_rfl
 c175 := by kernel_rfl
 c210 := by kernel_rfl
 c212 := by kernel_rfl
 c213 := by kernel_rfl
 c232 := by kernel_rfl
 c233 := by kernel_rfl
def Tryz.ren173 : Ren where
 f := fun x => match x with | 173 => 147 | 246 => 94 | 283 => 125 | 284 => 126 | 285 => 127 | 286 => 128 | 129 => 150 | 317 => 149 | 318 => 151 | 319 => 152 | 320 => 153 | 337 => 173 | 338 => 174 | n => n
 t := fun x => match x with | 2 => 2 | 3 => 3 | 9 => 9 | 4 => 4 | 171 => 144 | 0 => 0 | 53 => 81 | 37 => 80 | 5 => 5 | 173 => 147 | 212 => 172 | 51 => 173 | 20 => 20 | 213 => 174 | 46 => 164 | 232 => 193 | 233 => 194 | n => n
 g := fun x => match x with | 17 => 3 | 18 => 4 | 19 => 5 | n => n
theorem Tryz.lays173 : LaysM.n173 Tryz.prog Tryz.ren173 where
 mixed := by kernel_rfl
 f129 := Tryz.func150
 f173 := Tryz.func147
 f246 := Tryz.func94
 f283 := Tryz.func125
 f284 := Tryz.func126
 f285 := Tryz.func127
 f286 := Tryz.func128
 f317 := Tryz.func149
 f318 := Tryz.func151
 f319 := Tryz.func152
 f320 := Tryz.func153
 f337 := Tryz.func173
 f338 := Tryz.func174
 t0 := Tryz.underlying0
 a0 := Tryz.isAgg0
 z0 := Tryz.sizeOf0
 v0 := Tryz.zeroValue0
 t2 := Tryz.underlying2
 a2 := Tryz.isAgg2
 z2 := Tryz.sizeOf2
 v2 := Tryz.zeroValue2
 t3 := Tryz.underlying3
 a3 := Tryz.isAgg3
 z3 := Tryz.sizeOf3
 v3 := Tryz.zeroValue3
 t4 := Tryz.underlying4
 a4 := Tryz.isAgg4
 z4 := Tryz.sizeOf4
 v4 := Tryz.zeroValue4
 t5 := Tryz.underlying5
 a5 := Tryz.isAgg5
 z5 := Tryz.sizeOf5
 v5 := Tryz.zeroValue5
 t9 := Tryz.underlying9
 a9 := Tryz.isAgg9
 z9 := Tryz.sizeOf9
 v9 := Tryz.zeroValue9
 t20 := Tryz.underlying20
 a20 := Tryz.isAgg20
 z20 := Tryz.sizeOf20
 v20 := Tryz.zeroValue20
 t37 := Tryz.underlying80
 a37 := Tryz.isAgg80
 z37 := Tryz.sizeOf80
 v37 := Tryz.zeroValue80
 t46 := Tryz.underlying164
 a46 := Tryz.isAgg164
 z46 := Tryz.sizeOf164
 v46 := Tryz.zeroValue164
 t51 := Tryz.underlying173
 a51 := Tryz.isAgg173
 z51 := Tryz.sizeOf173
 v51 := Tryz.zeroValue173
 t53 := Tryz.underlying81
 a53 := Tryz.isAgg81
 z53 := Tryz.sizeOf81
 v53 := Tryz.zeroValue81
 t171 := Tryz.underlying144
 a171 := Tryz.isAgg144
 z171 := Tryz.sizeOf144
 v171 := Tryz.zeroValue144
 t173 := Tryz.underlying147
 a173 := Tryz.isAgg147
 z173 := Tryz.sizeOf147
 v173 := Tryz.zeroValue147
 t212 := Tryz.underlying172
 a212 := Tryz.isAgg172
 z212 := Tryz.sizeOf172
 v212 := Tryz.zeroValue172
 t213 := Tryz.underlying174
 a213 := Tryz.isAgg174
 z213 := Tryz.sizeOf174
 t232 := Tryz.underlying193
 a232 := Tryz.isAgg193
 z232 := Tryz.sizeOf193
 v232 := Tryz.zeroValue193
 t233 := Tryz.underlying194
 a233 := Tryz.isAgg194
 z233 := Tryz.sizeOf194
 v233 := Tryz.zeroValue194
 g17 := by kernel_rfl
 g18 := by kernel_rfl
 g19 := by kernel_rfl
 i0 := by kernel_rfl
 i2 := by kernel_rfl
 i3 := by kernel_rfl
 i4 := by kernel_rfl
 i5 := by kernel_rfl
 i9 := by kernel_rfl
 i20 := by kernel_rfl
 i37 := by kernel_rfl
 i46 := by kernel_rfl
 i51 := by kernel_rfl
 i53 := by kernel_rfl
 i171 := by kernel_rfl
 i173 := by kernel_rfl
 i212 := by kernel_rfl
 i232 := by kernel_rfl
 i233 := by kernel_rfl
 m17 := by kernel_rfl
 m18 := by kernel_rfl
 m19 := by kernel_rfl
def Tryz.ren137 : Ren where
 f := fun x => match x with | 137 => 139 | 217 => 166 | 266 => 188 | n => n
 t := fun x => match x with | 9 => 9 | 5 => 5 | 3 => 3 | n => n
 g := fun x => x
theorem Tryz.lays137 : Lays.n137 Tryz.prog Tryz.ren137 where
 mixed := by kernel_rfl
 f137 := Tryz.func139
 f217 := Tryz.func166
 f266 := Tryz.func188
 t3 := Tryz.underlying3
 a3 := Tryz.isAgg3
 z3 := Tryz.sizeOf3
 v3 := Tryz.zeroValue3
 t5 := Tryz.underlying5
 a5 := Tryz.isAgg5
 z5 := Tryz.sizeOf5
 v5 := Tryz.zeroValue5
 t9 := Tryz.underlying9
 a9 := Tryz.isAgg9
 z9 := Tryz.sizeOf9
 v9 := Tryz.zeroValue9
def Tryz.ren169 : Ren where
 f := fun x => match x with | 169 => 61 | n => n
 t := fun x => match x with | 70 => 88 | 9 => 9 | 0 => 0 | 72 => 90 | 37 => 80 | 127 => 121 | 3 => 3 | 5 => 5 | n => n
 g := fun x => x
def Tryz.ren170 : Ren where
 f := fun x => match x with | 170 => 63 | n => n
 t := fun x => match x with | 70 => 88 | 3 => 3 | 0 => 0 | 72 => 90 | 37 => 80 | 5 => 5 | n => n
 g := fun x => x
theorem Tryz.lays170 : Lays.n170 Tryz.prog Tryz.ren170 where
 mixed := by kernel_rfl
 f170 := Tryz.func63
 t0 := Tryz.underlying0
 a0 := Tryz.isAgg0
 z0 := Tryz.sizeOf0
 v0 := Tryz.zeroValue0
 t3 := Tryz.underlying3
 a3 := Tryz.isAgg3
 z3 := Tryz.sizeOf3
 v3 := Tryz.zeroValue3
 t37 := Tryz.underlying80
 a37 := Tryz.isAgg80
 z37 := Tryz.sizeOf80
 v37 := Tryz.zeroValue80
 t70 := Tryz.underlying88
 a70 := Tryz.isAgg88
 z70 := Tryz.sizeOf88
 v70 := Tryz.zeroValue88
 t72 := Tryz.underlying90
 a72 := Tryz.isAgg90
 z72 := Tryz.sizeOf90
 v72 := Tryz.zeroValue90
def Tryz.ren172 : Ren where
 f := fun x => match x with | 172 => 50 | 244 => 84 | 245 => 85 | 247 => 111 | 279 => 112 | 280 => 113 | 281 => 114 | 282 => 115 | 287 => 143 | 316 => 144 | 171 => 33 | 205 => 145 | 321 => 170 | 322 => 171 | 243 => 64 | 246 => 94 | 283 => 125 | 284 => 126 | 285 => 127 | 286 => 128 | 129 => 150 | 317 => 149 | 318 => 151 | 319 => 152 | 320 => 153 | 337 => 173 | 338 => 174 | n => n
 t := fun x => match x with | 9 => 9 | 3 => 3 | 75 => 76 | 76 => 77 | 4 => 4 | 5 => 5 | 167 => 132 | 37 => 80 | 0 => 0 | 85 => 133 | 2 => 2 | 168 => 135 | 53 => 81 | 175 => 162 | 46 => 164 | 210 => 167 | 127 => 121 | 145 => 187 | 143 => 185 | 21 => 21 | 171 => 144 | 173 => 147 | 212 => 172 | 51 => 173 | 20 => 20 | 213 => 174 | 232 => 193 | 233 => 194 | 80 => 57 | n => n
 g := fun x => match x with | 15 => 0 | 16 => 1 | 17 => 3 | 18 => 4 | 19 => 5 | n => n
theorem Tryz.lays172 : LaysC.n172 Tryz.prog Tryz.ren172 where
 mixed := by kernel_rfl
 f129 := Tryz.func150
 f171 := Tryz.func33
 f172 := Tryz.func50
 f205 := Tryz.func145
 f243 := Tryz.func64
 f244 := Tryz.func84
 f245 := Tryz.func85
 f246 := Tryz.func94
 f247 := Tryz.func111
 f279 := Tryz.func112
 f280 := Tryz.func113
 f281 := Tryz.func114
 f282 := Tryz.func115
 f283 := Tryz.func125
 f284 := Tryz.func126
 f285 := Tryz.func127
 f286 := Tryz.func128
 f287 := Tryz.func143
 f316 := Tryz.func144
 f317 := Tryz.func149
 f318 := Tryz.func151
 f319 := Tryz.func152
 f320 := Tryz.func153
 f321 := Tryz.func170
 f322 := Tryz.func171
 f337 := Tryz.func173
 f338 := Tryz.func174
 t0 := Tryz.underlying0
 a0 := Tryz.isAgg0
 z0 := Tryz.sizeOf0
 v0 := Tryz.zeroValue0
 t2 := Tryz.underlying2
 a2 := Tryz.isAgg2
 z2 := Tryz.sizeOf2
 v2 := Tryz.zeroValue2
 t3 := Tryz.underlying3
 a3 := Tryz.isAgg3
 z3 := Tryz.sizeOf3
 v3 := Tryz.zeroValue3
 t4 := Tryz.underlying4
 a4 := Tryz.isAgg4
 z4 := Tryz.sizeOf4
 v4 := Tryz.zeroValue4
 t5 := Tryz.underlying5
 a5 := Tryz.isAgg5
 z5 := Tryz.sizeOf5
 v5 := Tryz.zeroValue5
 t9 := Tryz.underlying9
 a9 := Tryz.isAgg9
 z9 := Tryz.sizeOf9
 v9 := Tryz.zeroValue9
 t20 := Tryz.underlying20
 a20 := Tryz.isAgg20
 z20 := Tryz.sizeOf20
 v20 := Tryz.zeroValue20
 t21 := Tryz.underlying21
 a21 := Tryz.isAgg21
 z21 := Tryz.sizeOf21
 v21 := Tryz.zeroValue21
 t37 := Tryz.underlying80
 a37 := Tryz.isAgg80
 z37 := Tryz.sizeOf80
 v37 := Tryz.zeroValue80
 t46 := Tryz.underlying164
 a46 := Tryz.isAgg164
 z46 := Tryz.sizeOf164
 v46 := Tryz.zeroValue164
 t51 := Tryz.underlying173
 a51 := Tryz.isAgg173
 z51 := Tryz.sizeOf173
 v51 := Tryz.zeroValue173
 t53 := Tryz.underlying81
 a53 := Tryz.isAgg81
 z53 := Tryz.sizeOf81
 v53 := Tryz.zeroValue81
 t75 := Tryz.underlying76
 a75 := Tryz.isAgg76
 z75 := Tryz.sizeOf76
 v75 := Tryz.zeroValue76
 t76 := Tryz.underlying77
 a76 := Tryz.isAgg77
 z76 := Tryz.sizeOf77
 v76 := Tryz.zeroValue77
 t85 := Tryz.underlying133
 a85 := Tryz.isAgg133
 z85 := Tryz.sizeOf133
 v85 := Tryz.zeroValue133
 t127 := Tryz.underlying121
 a127 := Tryz.isAgg121
 z127 := Tryz.sizeOf121
 v127 := Tryz.zeroValue121
 t143 := Tryz.underlying185
 a143 := Tryz.isAgg185
 z143 := Tryz.sizeOf185
 v143 := Tryz.zeroValue185
 t145 := Tryz.underlying187
 a145 := Tryz.isAgg187
 z145 := Tryz.sizeOf187
 v145 := Tryz.zeroValue187
 t167 := Tryz.underlying132
 a167 := Tryz.isAgg132
 z167 := Tryz.sizeOf132
 v167 := Tryz.zeroValue132
 t168 := Tryz.underlying135
 a168 := Tryz.isAgg135
 z168 := Tryz.sizeOf135
 v168 := Tryz.zeroValue135
 t171 := Tryz.underlying144
 a171 := Tryz.isAgg144
 z171 := Tryz.sizeOf144
 v171 := Tryz.zeroValue144
 t173 := Tryz.underlying147
 a173 := Tryz.isAgg147
 z173 := Tryz.sizeOf147
 v173 := Tryz.zeroValue147
 t175 := Tryz.underlying162
 a175 := Tryz.isAgg162
 z175 := Tryz.sizeOf162
 v175 := Tryz.zeroValue162
 t210 := Tryz.underlying167
 a210 := Tryz.isAgg167
 z210 := Tryz.sizeOf167
 v210 := Tryz.zeroValue167
 t212 := Tryz.underlying172
 a212 := Tryz.isAgg172
 z212 := Tryz.sizeOf172
 v212 := Tryz.zeroValue172
 t213 := Tryz.underlying174
 a213 := Tryz.isAgg174
 z213 := Tryz.sizeOf174
 t232 := Tryz.underlying193
 a232 := Tryz.isAgg193
 z232 := Tryz.sizeOf193
 v232 := Tryz.zeroValue193
 t233 := Tryz.underlying194
 a233 := Tryz.isAgg194
 z233 := Tryz.sizeOf194
 v233 := Tryz.zeroValue194
 g15 := by kernel_rfl
 g16 := by kernel_rfl
 g17 := by kernel_rfl
 g18 := by kernel_rfl
 g19 := by kernel_rfl
 t80 := Tryz.underlying57
 a80 := Tryz.isAgg57
 z80 := Tryz.sizeOf57
 v80 := Tryz.zeroValue57
 i0 := by kernel_rfl
 i2 := by kernel_rfl
 i3 := by kernel_rfl
 i4 := by kernel_rfl
 i5 := by kernel_rfl
 i9 := by kernel_rfl
 i20 := by kernel_rfl
 i21 := by kernel_rfl
 i37 := by kernel_rfl
 i46 := by kernel_rfl
 i51 := by kernel_rfl
 i53 := by kernel_rfl
 i75 := by kernel_rfl
 i76 := by kernel_rfl
 i80 := by kernel_rfl
 i85 := by kernel_rfl
 i127 := by kernel_rfl
 i143 := by kernel_rfl
 i145 := by kernel_rfl
 i167 := by kernel_rfl
 i168 := by kernel_rfl
 i171 := by kernel_rfl
 i173 := by kernel_rfl
 i175 := by kernel_rfl
 i210 := by kernel_rfl
 i212 := by kernel_rfl
 i232 := by kernel_rfl
 i233 := by kernel_rfl
 m15 := by kernel_rfl
 m16 := by kernel_rfl
 m17 := by kernel_rfl
 m18 := by kernel_rfl
 m19 := by kernel_rfl
 c0 := by kernel_rfl
 c2 := by kernel_rfl
 c3 := by kernel_rfl
 c4 := by kernel_rfl
 c5 := by kernel_rfl
 c9 := by kernel_rfl
 c20 := by kernel_rfl
 c21 := by kernel_rfl
 c37 := by kernel_rfl
 c46 := by kernel_rfl
 c51 := by kernel_rfl
 c53 := by kernel_rfl
 c75 := by kernel_rfl
 c76 := by kernel_rfl
 c80 := by kernel_rfl
 c85 := by kernel_rfl
 c127 := by kernel_rfl
 c143 := by kernel_rfl
 c145 := by kernel_rfl
 c167 := by kernel_rfl
 c168 := by kernel_rfl
 c171 := by kernel_rfl
 c173 := by kernel_rfl
 c175 := by kernel_rfl
 c210 := by kernel_rfl
 c212 := by kernel_rfl
 c213 := by kernel_rfl
 c232 := by kernel_rfl
 c233 := by kernel_rfl
theorem Tryz.lays166 : Lays.n166 Tryz.prog Tryz.ren155 := { Tryz.lays155 with }
end Go.Proofs
namespace Go.SX.Nb
open Go Go.SX Go.Proofs Go.RowKit
variable [ErrAt]
set_option maxRecDepth 4000
theorem maxLen_of {w : World} (h : GlobIn w) : ∃ m, w.cell? ⟨2, 0, none⟩ = some (.int .i64 m) := by
 obtain ⟨_, a, m, t, f, rfl⟩ := h (2, fun o => ∃ m t f, o = .cells #[.int .i64 m] t f) (by simp [GlobInv.blocks, globs])
 exact ⟨m, by simp [World.cell?, a]⟩
theorem errRange_of {w : World} (h : GlobIn w) : w.cell? ⟨1, 0, none⟩ = some (.iface 185 (.pointer (some ErrAt.b))) := by
 obtain ⟨_, a, t, f, rfl⟩ := h (1, fun o => ∃ t f, o = .cells #[.iface 185 (.pointer (some ErrAt.b))] t f) (by simp [GlobInv.blocks, globs])
 simp [World.cell?, a]
theorem errSyntax_of {w : World} (h : GlobIn w) : w.cell? ⟨0, 0, none⟩ = some (.iface 185 (.pointer (some ErrAt.bs))) := by
 obtain ⟨_, a, t, f, rfl⟩ := h (0, fun o => ∃ t f, o = .cells #[.iface 185 (.pointer (some ErrAt.bs))] t f) (by simp [GlobInv.blocks, globs])
 simp [World.cell?, a]
theorem pow10_of {w : World} (h : GlobIn w) : Lib.TabIs Tryz.prog w "internal/strconv.uint64pow10" .u64 Lib.pow10Tab := by
 obtain ⟨_, a, t, f, rfl⟩ := h (3, fun o => ∃ t f, o = .cells (Lib.pow10Tab.map fun z => Value.int .u64 z).toArray t f) (by simp [GlobInv.blocks, globs])
 have hg : Tryz.prog.globalNamed "internal/strconv.uint64pow10" = some 3 := by kernel_rfl
 simp only at a
 simp [Lib.TabIs, World.var?, hg, a]
theorem drewN_below (w : World) (n : Nat) : Below w.heap.size w (w.drewN n) := ⟨rfl, rfl, rfl, Nat.le_refl _, fun _ _ => rfl⟩
theorem c96 (s t : Str) (hs : s.length < 4294967281) (Hp : List AObj) : AFun Tryz.prog 96 [strA s, strA t] Hp (boolA (Lib.contains s t)) := by
 refine AFun.lib (xs := [sv s, sv t]) (v := .bool (Lib.contains s t)) (fun G w => .v _ _) (fun w hg => ?_)
 obtain ⟨m, hm⟩ := maxLen_of hg
 refine (Any.strings_Contains Tryz.lays144 ⟨s.toArray⟩ ⟨t.toArray⟩ m w (by simpa [ByteArray.size] using hs) hm).mono ?_
 rintro e w' ⟨rfl, rfl⟩
 exact Z251
theorem c104 (s t : Str) (hs : s.length < 4294967281) (Hp : List AObj) : AFun Tryz.prog 104 [strA s, strA t] Hp (.tup [strA (Lib.cut s t).1, strA (Lib.cut s t).2.1, boolA (Lib.cut s t).2.2]) := by
 refine AFun.lib (xs := [sv s, sv t]) (v := .tuple #[sv (Lib.cut s t).1, sv (Lib.cut s t).2.1, .bool (Lib.cut s t).2.2]) (fun G w => rep_tup rfl (fun i y u hy hu => ?_)) (fun w hg => ?_)
 ·match i with
  | 0 => simp at hy hu; subst hy; subst hu; exact .v _ _
  | 1 => simp at hy hu; subst hy; subst hu; exact .v _ _
  | 2 => simp at hy hu; subst hy; subst hu; exact .v _ _
  | i + 3 => simp at hy
 obtain ⟨m, hm⟩ := maxLen_of hg
 refine (Any.strings_Cut Tryz.lays145 ⟨s.toArray⟩ ⟨t.toArray⟩ m w (by simpa [ByteArray.size] using hs) hm).mono ?_
 rintro e w' ⟨rfl, n, rfl⟩
 exact ⟨rfl, drewN_below _ _⟩
theorem c95 (s t : Str) (ht : t.length < 4294967281) (ha : ∀ c ∈ t, c.toNat < 128) (Hp : List AObj) : AFun Tryz.prog 95 [strA s, strA t] Hp (strA (Lib.trimLeftS s t)) := by
 refine AFun.lib (xs := [sv s, sv t]) (v := sv (Lib.trimLeftS s t)) (fun G w => .v _ _) (fun w hg => ?_)
 refine (Any.strings_TrimLeft_laid Tryz.lays161 (by kernel_rfl) ⟨s.toArray⟩ ⟨t.toArray⟩ w (by simpa [ByteArray.size] using ht) (fun j b hj => ha b (List.mem_of_getElem? hj))).mono ?_
 rintro e w' ⟨rfl, hb⟩
 exact ⟨rfl, hb⟩
/-- The pieces of a split. -/
def splitM (s t : Str) : List Str := (Lib.splitB ⟨t.toArray⟩ 0 (Lib.countB ⟨s.toArray⟩ ⟨t.toArray⟩) ⟨s.toArray⟩).map (·.data.toList)
theorem c134 (s t : Str) (hs : s.length < 4294967281) (ht : 1 ≤ t.length) (Hp : List AObj) : AFun Tryz.prog 134 [strA s, strA t] Hp (strsA (splitM s t)) := by
 have := AFun.libSlice (P := Tryz.prog) (g := 134) (Hp := Hp) (xs := [sv s, sv t]) (ys := (splitM s t).map sv) (t := 9) (by intro y hy; obtain ⟨z, _, rfl⟩ := List.mem_map.1 hy; rfl) (fun w hg => by
  obtain ⟨m, hm⟩ := maxLen_of hg
  refine (Any.strings_Split Tryz.lays146 (by kernel_rfl) ⟨s.toArray⟩ ⟨t.toArray⟩ m w (by simpa [ByteArray.size] using hs) hm (by simpa [ByteArray.size] using ht)).mono ?_
  rintro e w' ⟨rfl, rfl⟩
  have hl : ((splitM s t).map sv).length = Lib.countB ⟨s.toArray⟩ ⟨t.toArray⟩ + 1 := by
   rw [List.length_map]
   unfold splitM
   rw [List.length_map]
   exact Lib.splitB_all _ (by simpa [ByteArray.size] using ht) _ _ _ rfl
  refine ⟨by rw [hl], ?_⟩
  unfold splitM
  rw [List.map_map]
  rfl)
 rw [List.map_map] at this
 exact this
end Go.SX.Nb
namespace Go.Proofs
open Go Go.RowKit Go.Extern.Stop Go.Stop Go.Extern
theorem Tryz.isTypeOf (v : Value) (w : World) : (Extern.ReflectliteType.typeOf #[.iface 185 v]).run Tryz.prog w = .ok (.iface 207 (.agg #[.pointer (some ⟨8, 185, none⟩)])) w := by kernel_rfl
def Tryz.cmpOf : Array Value → Sem Value := Extern.ReflectliteType.method fun t => do Extern.Rtype.noPackHeld "Comparable" t; pure (.bool (← typeInfo t).comparable)
theorem Tryz.isComparable (w : World) : (Tryz.cmpOf #[.agg #[.pointer (some ⟨8, 185, none⟩)]]).run Tryz.prog w = .ok (.bool true) w := by kernel_rfl
theorem Tryz.isMethodComparable (v : Value) (w : World) : (Go.method 348 207 v "Comparable").run Tryz.prog w = .ok (232, v) w := by kernel_rfl
theorem Tryz.isComp : (Tryz.prog.info? 185).map (·.comparable) = some true := by kernel_rfl
theorem Tryz.isSize : (Tryz.prog.info? 187).map (·.size) = some 1 := by kernel_rfl
theorem Tryz.noIsW (v : Value) (xT : TypeId) (w : World) : (Instr.typeAssert (.iface 135 v) xT 209 true).run Tryz.prog w = .ok (.tuple #[.nilIface, .bool false]) w := run_typeAssert_lacksB Tryz.underlying209 (by kernel_rfl) (by kernel_rfl) v xT w
theorem Tryz.hasUnwrapW (v : Value) (xT : TypeId) (w : World) : (Instr.typeAssert (.iface 135 v) xT 212 true).run Tryz.prog w = .ok (.tuple #[.iface 135 v, .bool true]) w := run_typeAssert_hasB Tryz.underlying212 (by kernel_rfl) v xT w
theorem Tryz.methodUnwrap (v : Value) (w : World) : (Go.method 348 135 v "Unwrap").run Tryz.prog w = .ok (227, v) w := by kernel_rfl
namespace Tryz
theorem is_nil (b : Addr) (w : World) :
  Calls Tryz.prog 187 #[.nilIface, .iface 185 (.pointer (some b))] w fun e w' => e = .returned (.bool false) ∧ w' = w := by
 have hn := run_eql_iface_nil_left (P := Tryz.prog) w 185 (.pointer (some b)) Tryz.underlying76
 go_enter Tryz.func187, Tryz.ntmps187
 go_wp2
 go_ret
 exact ⟨rfl, rfl⟩
set_option maxRecDepth 100000 in
theorem is_range (pb po : Nat) (b : Addr) (w : World) (h1 : w.cell? ⟨pb, po + 2, none⟩ = some (.iface 185 (.pointer (some b)))) :
  Calls Tryz.prog 187 #[.iface 135 (.pointer (some ⟨pb, po, none⟩)), .iface 185 (.pointer (some b))] w fun e w' => e = .returned (.bool true) ∧ w' = w := by
 obtain ⟨i, hi, hcmp⟩ := Option.map_eq_some_iff.1 Tryz.isComp
 obtain ⟨j, hj, hjs⟩ := Option.map_eq_some_iff.1 Tryz.isSize
 have h8 := @run_callFunc_extern Tryz.prog 198 _ Extern.ReflectliteType.typeOf Tryz.func198 (by kernel_rfl) (by kernel_rfl) (by kernel_rfl) (by kernel_rfl)
 have h32 := @run_callFunc_extern Tryz.prog 232 _ Tryz.cmpOf Tryz.func232 (by kernel_rfl) (by kernel_rfl) (by kernel_rfl) (by kernel_rfl)
 have tT := Tryz.isTypeOf
 have cT := Tryz.isComparable
 have mR := Tryz.isMethodComparable
 have nW := Tryz.noIsW
 have uW := Tryz.hasUnwrapW
 have mU := Tryz.methodUnwrap
 have heq := run_eql_iface_ptr_same (P := Tryz.prog) w b Tryz.underlying76 Tryz.underlying185 hi hcmp hj
 have hty := run_eql_iface_types (P := Tryz.prog) 135 185 (.pointer (some ⟨pb, po, none⟩)) (.pointer (some b)) Tryz.underlying76 (by decide) w
 go_enter Tryz.func187, Tryz.ntmps187
 go_wp2
 refine wp_loop_rounds 2 ?_
 rw [rounds_succ]
 go_wp2
 rw [rounds_succ]
 go_wp2
 go_ret
 exact ⟨rfl, rfl⟩
end Tryz
end Go.Proofs
namespace Go.SX.Nb
open Go Go.SX Go.Proofs Go.RowKit Go.Sort
variable [ErrAt]
set_option maxRecDepth 4000
theorem c161 (s t : Str) (Hp : List AObj) : AFun Tryz.prog 161 [strA s, strA t] Hp (boolA (Lib.hasPrefix s t)) := by
 refine AFun.lib (xs := [sv s, sv t]) (v := .bool (Lib.hasPrefix s t)) (fun G w => .v _ _) (fun w hg => ?_)
 refine (Any.strings_HasPrefix Tryz.lays99 ⟨s.toArray⟩ ⟨t.toArray⟩ w).mono ?_
 rintro e w' ⟨rfl, rfl⟩
 exact Z251
theorem c162 (s t : Str) (hs : s.length ≤ 9223372036854775807) (Hp : List AObj) : AFun Tryz.prog 162 [strA s, strA t] Hp (boolA (Lib.hasSuffix s t)) := by
 refine AFun.lib (xs := [sv s, sv t]) (v := .bool (Lib.hasSuffix s t)) (fun G w => .v _ _) (fun w hg => ?_)
 refine (Any.strings_HasSuffix Tryz.lays100 ⟨s.toArray⟩ ⟨t.toArray⟩ w (by simpa [ByteArray.size] using hs)).mono ?_
 rintro e w' ⟨rfl, rfl⟩
 exact Z251
theorem c139 (s : Str) (c : UInt8) (Hp : List AObj) : AFun Tryz.prog 139 [strA s, .v (.int .u8 (c.toNat : Int))] Hp (intA (Lib.indexByte s c)) := by
 refine AFun.lib (xs := [sv s, .int .u8 (c.toNat : Int)]) (v := .int .i64 (Lib.indexByte s c)) (fun G w => .v _ _) (fun w hg => ?_)
 refine (Any.strings_IndexByte Tryz.lays137 ⟨s.toArray⟩ (c.toNat : Int) w).mono ?_
 rintro e w' ⟨rfl, rfl⟩
 exact ⟨by simp, Below.refl _ _⟩
theorem xRep : Builder.Extra Tryz.prog Tryz.ren155 := { sizeBuilder := by kernel_rfl, liesBuilder := by kernel_rfl, t5 := Tryz.underlying5, a5 := Tryz.isAgg5, z5 := Tryz.sizeOf5, v5 := Tryz.zeroValue5, infoByte := by kernel_rfl, cellsByte := by kernel_rfl, sizeByte := by kernel_rfl, neB5 := by decide }
theorem xJoin : Builder.Extra Tryz.prog Tryz.ren156 := { sizeBuilder := by kernel_rfl, liesBuilder := by kernel_rfl, t5 := Tryz.underlying5, a5 := Tryz.isAgg5, z5 := Tryz.sizeOf5, v5 := Tryz.zeroValue5, infoByte := by kernel_rfl, cellsByte := by kernel_rfl, sizeByte := by kernel_rfl, neB5 := by decide }
theorem c124 (s o n : Str) (hs : s.length < 4294967281) (ho : 1 ≤ o.length) (hl : s.length + Lib.countB ⟨s.toArray⟩ ⟨o.toArray⟩ * n.length ≤ 140737488355328) (Hp : List AObj) : AFun Tryz.prog 124 [strA s, strA o, strA n] Hp (strA (Lib.replaceAll s o n)) := by
 refine AFun.lib (xs := [sv s, sv o, sv n]) (v := sv (Lib.replaceAll s o n)) (fun G w => .v _ _) (fun w hg => ?_)
 obtain ⟨m, hm⟩ := maxLen_of hg
 refine (Any.strings_ReplaceAll Tryz.lays155 xRep ⟨s.toArray⟩ ⟨o.toArray⟩ ⟨n.toArray⟩ m w (by simpa [ByteArray.size] using hs) hm (by simpa [ByteArray.size] using ho) (by simpa [ByteArray.size] using hl)).mono ?_
 rintro e w' ⟨rfl, hb⟩
 exact ⟨rfl, hb⟩
theorem grow_below (w : World) (k : Nat) (os : Array Obj) : Below w.heap.size w (grow (w.drewN k) os) := by
 refine ⟨rfl, rfl, rfl, by simp [grow], fun b hb => ?_⟩
 show ((w.drewN k).heap ++ os)[b]? = w.heap[b]?
 rw [Array.getElem?_append_left (by exact hb)]
 rfl
theorem c147 (n : Int) (h0 : -9223372036854775808 ≤ n) (h1 : n ≤ 9223372036854775807) (Hp : List AObj) : AFun Tryz.prog 147 [.v (.int .i64 n), intA 10] Hp (strA (Lib.itoa n)) := by
 refine AFun.lib (xs := [.int .i64 n, .int .i64 10]) (v := sv (Lib.itoa n)) (fun G w => .v _ _) (fun w hg => ?_)
 refine (Any.strconv_FormatInt_10 Tryz.lays173 n h0 h1 w (pow10_of hg)).mono ?_
 rintro e w' ⟨rfl, k, os, rfl⟩
 exact ⟨rfl, grow_below _ _ _⟩
end Go.SX.Nb
namespace Go.SX.Nb
open Go Go.SX Go.Proofs Go.RowKit
variable [ErrAt]
set_option maxRecDepth 4000
def digs : Str := [48, 49, 50, 51, 52, 53, 54, 55, 56, 57]
def numDs (s : Str) : Str := Lib.trimPrefix s [45]
def numBad (s : Str) : Bool := (numDs s == []) || !(Lib.trimS (numDs s) digs == []) || (((numDs s).headD 0 == 48) && decide (1 < s.length))
def numReadM (s : Str) : Int × Int := if numBad s then (0, 6) else match Lib.parseIntB 64 s with | .ok v => (v, 0) | .range => (0, 4) | _ => (0, 0)
def badN {α : Type} : Lib.NumEnd α → Bool | .ok _ => false | .range => false | _ => true
theorem dw_nil {p : UInt8 → Bool} : ∀ {l : Str}, l.dropWhile p = [] ↔ ∀ b ∈ l, p b = true
 | [] => by simp
 | b :: r => by
  rw [List.dropWhile_cons]
  by_cases h : p b = true
  ·rw [if_pos h, dw_nil]
   simp [h]
  rw [if_neg h]
  simp [h]
theorem dw_mem {p : UInt8 → Bool} : ∀ {l : Str} {b : UInt8}, b ∈ l → p b = false → b ∈ l.dropWhile p
 | x :: r, b, h, hb => by
  rw [List.dropWhile_cons]
  by_cases hx : p x = true
  ·rw [if_pos hx]
   rcases List.mem_cons.1 h with rfl | h
   ·rw [hb] at hx; cases hx
   exact dw_mem h hb
  rw [if_neg hx]; exact h
theorem trimS_nil {l cs : Str} : Lib.trimS l cs = [] ↔ ∀ b ∈ l, cs.contains b = true := by
 unfold Lib.trimS Lib.trimLeftS Lib.trimRightS
 rw [dw_nil]
 constructor
 ·intro h b hb
  cases hc : cs.contains b with
  | true => rfl
  | false =>
   have := h b (List.mem_reverse.2 (dw_mem (p := (cs.contains ·)) (List.mem_reverse.2 hb) hc))
   rw [hc] at this; exact this
 intro h b hb
 exact h b (List.mem_reverse.1 ((List.dropWhile_sublist (cs.contains ·)).subset (List.mem_reverse.1 hb)))
theorem digs_contains (c : UInt8) : digs.contains c = (decide (48 ≤ c.toNat) && decide (c.toNat ≤ 57)) := by
 have h : ((List.range 256).all fun n => digs.contains (UInt8.ofNat n) == (decide (48 ≤ (UInt8.ofNat n).toNat) && decide ((UInt8.ofNat n).toNat ≤ 57))) = true := by kernel_rfl
 have := List.all_eq_true.1 h c.toNat (List.mem_range.2 c.toNat_lt)
 simpa using this
theorem parseU_ok (M : Nat) : ∀ (l : Str) (acc : Nat), (∀ b ∈ l, digs.contains b = true) → badN (Lib.parseUintM M acc l) = false
 | [], acc, _ => by rw [Lib.parseUintM]; rfl
 | c :: r, acc, h => by
  have hc := h c (by simp)
  rw [digs_contains] at hc
  simp only [Bool.and_eq_true, decide_eq_true_eq] at hc
  rw [Lib.parseUintM, if_pos hc]
  split
  ·rfl
  split
  ·rfl
  exact parseU_ok M r _ (fun b hb => h b (by simp [hb]))
theorem numDs_cases (s : Str) : (s.head? ≠ some 45 ∧ numDs s = s) ∨ ∃ r, s = 45 :: r ∧ numDs s = r := by
 unfold numDs Lib.trimPrefix Lib.hasPrefix
 cases s with
 | nil => exact .inl ⟨by simp, rfl⟩
 | cons c r =>
  by_cases hc : c = 45
  ·subst hc; exact .inr ⟨r, rfl, by simp [List.isPrefixOf]⟩
  refine .inl ⟨by simpa using hc, ?_⟩
  rw [if_neg]
  simp [List.isPrefixOf, Ne.symm hc]
theorem num_not_syntax {s : Str} (h : numBad s = false) : badN (Lib.parseIntB 64 s) = false := by
 unfold numBad at h
 simp only [Bool.or_eq_false_iff, Bool.not_eq_false', beq_iff_eq, beq_eq_false_iff_ne] at h
 obtain ⟨⟨h1, h2⟩, _⟩ := h
 rw [trimS_nil] at h2
 have key : ∀ l : Str, l ≠ [] → (∀ b ∈ l, digs.contains b = true) → badN (Lib.parseUintB 64 l) = false := fun l hl ha => by
  unfold Lib.parseUintB
  rw [if_neg hl]
  exact parseU_ok _ l 0 ha
 rcases numDs_cases s with ⟨h3, h4⟩ | ⟨r, rfl, h4⟩
 ·rw [h4] at h1 h2
  cases s with
  | nil => exact absurd rfl h1
  | cons c r =>
   have hcd := h2 c (by simp)
   rw [digs_contains] at hcd
   simp only [Bool.and_eq_true, decide_eq_true_eq] at hcd
   have e1 : ¬ (c.toNat = 43 ∨ c.toNat = 45) := by omega
   have := key (c :: r) (by simp) h2
   simp only [Lib.parseIntB, if_neg e1]
   revert this
   cases Lib.parseUintB 64 (c :: r) with
   | range => intro _; rfl
   | ok u => intro _; simp only; split <;> (try split) <;> rfl
   | _ => intro h; cases h
 rw [h4] at h1 h2
 have := key r h1 h2
 have e1 : ((45 : UInt8).toNat = 43 ∨ (45 : UInt8).toNat = 45) := .inr rfl
 simp only [Lib.parseIntB, if_pos e1]
 revert this
 cases Lib.parseUintB 64 r with
 | range => intro _; rfl
 | ok u => intro _; simp only; split <;> (try split) <;> rfl
 | _ => intro h; cases h
end Go.SX.Nb
namespace Go.SX.Nb
open Go Go.SX Go.Proofs
variable [ErrAt]
set_option maxRecDepth 4000
def letterM (c : UInt8) : Bool := decide ((97 : Int) ≤ c.toNat) && decide ((c.toNat : Int) ≤ 122)
def digitM (c : UInt8) : Bool := decide ((48 : Int) ≤ c.toNat) && decide ((c.toNat : Int) ≤ 57)
theorem c51 (c : UInt8) (Hp : List AObj) : AFun Tryz.prog 51 [.v (.int .u8 (c.toNat : Int))] Hp (.v (.bool (letterM c))) := by
 refine ACall.body [.tmp 2] [0] Tryz.func51 Tryz.ntmps51 (fun d => ?_)
 refine Z209 ?_;refine R.geq ?_;refine Z18 ?_;refine G.leq ?_;exact Z215

theorem c52 (c : UInt8) (Hp : List AObj) : AFun Tryz.prog 52 [.v (.int .u8 (c.toNat : Int))] Hp (.v (.bool (digitM c))) := by
 refine ACall.body [.tmp 2] [0] Tryz.func52 Tryz.ntmps52 (fun d => ?_)
 refine Z209 ?_;refine R.geq ?_;refine Z18 ?_;refine G.leq ?_;exact Z215

def words : List Str := [[97, 100, 100], [100, 114, 111, 112], [114, 101, 110, 97, 109, 101], [115, 112, 108, 105, 116], [109, 101, 114, 103, 101], [114, 101, 116, 121, 112, 101], [105, 110, 116, 111], [116, 111], [98, 97, 99, 107], [97, 110, 100], [111, 114], [110, 111, 116], [116, 114, 117, 101], [102, 97, 108, 115, 101], [110, 117, 108, 108], [105, 110, 116], [116, 101, 120, 116], [98, 111, 111, 108], [115, 101, 108, 101, 99, 116], [119, 104, 101, 114, 101], [102, 114, 111, 109], [108, 105, 109, 105, 116]]
def reservedM (s : Str) : Bool := words.any (· == s)
theorem words_len : words.length = 22 := rfl
theorem any_at {α : Type} {p : α → Bool} {l : List α} {i : Nat} (h : i < l.length) (hp : p l[i] = true) : l.any p = true := by
 rw [List.any_eq_true]; exact ⟨l[i], List.getElem_mem h, hp⟩
theorem any_none {α : Type} {p : α → Bool} {l : List α} (h : ∀ (j : Nat) (y : α), l[j]? = some y → p y = false) : l.any p = false := by
 rw [List.any_eq_false]
 intro x hx
 obtain ⟨j, hj⟩ := List.getElem?_of_mem hx
 simp [h j x hj]
theorem upto_succ {α : Type} {l : List α} {x : Nat} {p : α → Prop} (hlt : x < l.length) (h : ∀ (j : Nat) (y : α), j < x → l[j]? = some y → p y) (hx : p l[x]) : ∀ (j : Nat) (y : α), j < x + 1 → l[j]? = some y → p y := by
 intro j y hj hy
 rcases Nat.lt_or_ge j x with h' | h'
 ·exact h j y h' hy
 have : j = x := by omega
 subst this
 rw [List.getElem?_eq_getElem hlt] at hy
 injection hy with hy
 subst hy
 exact hx
theorem upto_all {α : Type} {l : List α} {x : Nat} {p : α → Prop} (hge : l.length ≤ x) (h : ∀ (j : Nat) (y : α), j < x → l[j]? = some y → p y) : ∀ (j : Nat) (y : α), l[j]? = some y → p y :=
 fun j y hy => h j y (by have := (List.getElem?_eq_some_iff.1 hy).1; omega) hy
theorem c53 (s : Str) (Hp : List AObj) : AFun Tryz.prog 53 [strA s] Hp (boolA (reservedM s)) := by
 refine ACall.body [.tmp 2] [0] Tryz.func53 Tryz.ntmps53 (fun d => ?_)
 refine Z83 ?_;refine Z252 ?_;refine Z174 ?_;refine R.fin [0, 3] ?_;refine Z106 ?_;refine R.fin [0, 3, 4] ?_
 refine AW.loopC (α := Nat) (fun x => ⟨18, setF 0 (strA s) (setF 3 (.slice true 1 (words.map strA)) (setF 4 (intA (x : Nat)) (fun _ => .any))), Hp, [], [], none⟩) (fun x => x ≤ words.length ∧ ∀ (j : Nat) (y : Str), j < x → words[j]? = some y → (y == s) = false) (fun x => words.length - x) (0) (by simp) (StLe.refl _) rfl (fun x hx => ?_)
 refine Z120 ?_;refine Z81 ?_;refine R.fin [0, 3, 4, 9] ?_
 refine W.cond (fun ht9 => ?_) (fun ht9 => ?_)
 ·have hlt : x < words.length := by simpa using ht9
  have hwl := words_len
  refine Z90 ?_;refine Z47 ?_;refine R.indexAddr (x) (strA words[x]) jU jS (getMap hlt) ?_;refine Z238 ?_;refine R.seql ?_;refine R.fin [0, 3, 4, 17] ?_
  refine W.cond (fun ht17 => ?_) (fun ht17 => ?_)
  ·refine Z12 ?_;refine Z104 ?_;exact K.fin (V.one V.tmp) ⟨by rw [show reservedM s = true from any_at hlt ht17], rfl⟩
  refine Z180 ?_;refine R.fin [0, 3, 4] ?_;exact K.lpN (x + 1) ⟨hlt, upto_succ hlt hx.2 ht17⟩ (by have := words_len; omega) (StCut.of_eq rfl)
 refine Z87 ?_;refine Z12 ?_;exact K.fin (V.one V.tmp) ⟨by rw [show reservedM s = false from any_none (upto_all (by simp at ht9; omega) hx.2)], rfl⟩

def charM (c : UInt8) : Bool := letterM c || digitM c || c == 95
def nameM (s : Str) : Bool := match s with
 | [] => false
 | c :: _ => decide (s.length ≤ 16) && letterM c && !reservedM s && s.all charM
theorem not_none {α : Type} {p : α → Bool} {l : List α} {i : Nat} (h : i < l.length) (hp : p l[i] = false) : l.all p = false := by
 rw [List.all_eq_false]; exact ⟨l[i], List.getElem_mem h, by simp [hp]⟩
theorem all_of {α : Type} {p : α → Bool} {l : List α} (h : ∀ (j : Nat) (y : α), l[j]? = some y → p y = true) : l.all p = true := by
 rw [List.all_eq_true]
 intro x hx
 obtain ⟨j, hj⟩ := List.getElem?_of_mem hx
 exact h j x hj
theorem nn {s : Str} {b : Bool} (h : ((((s.length : Int) == 0) || b) == false) = true) : s ≠ [] := by rintro rfl; simp at h
theorem headD_get {s : Str} (h : s ≠ []) : s[0]? = some (s.headD 0) := by cases s with
 | nil => exact absurd rfl h
 | cons c r => rfl
theorem nameM_eq (s : Str) : nameM s = (!((s.length : Int) == 0 || decide ((16 : Int) < s.length) || !letterM (s.headD 0) || reservedM s) && s.all charM) := by
 cases s with
 | nil => rfl
 | cons c r =>
  have h1 : (((c :: r).length : Int) == 0) = false := by simp; omega
  have h2 : decide ((c :: r).length ≤ 16) = !decide ((16 : Int) < (c :: r).length) := by
   by_cases h : (c :: r).length ≤ 16
   ·have : ¬ ((16 : Int) < (c :: r).length) := by omega
    simp only [h, this, decide_true, decide_false, Bool.not_false]
   have : ((16 : Int) < (c :: r).length) := by omega
   simp only [h, this, decide_true, decide_false, Bool.not_true]
  simp only [nameM, h1, h2, List.headD_cons, Bool.not_or, Bool.not_not, Bool.false_or]
theorem char_ok {c : UInt8} (h : ((!letterM c && !digitM c) && ((c.toNat : Int) != 95)) = false) : charM c = true := by
 unfold charM
 have e : ((c.toNat : Int) != 95) = !(c == 95) := by
  by_cases hc : c = 95
  ·subst hc; rfl
  have : c.toNat ≠ 95 := fun h => hc (UInt8.toNat_inj.1 h)
  have : (c.toNat : Int) ≠ 95 := by omega
  rw [bne_iff_ne.2 this, beq_eq_false_iff_ne.2 hc]; rfl
 rw [e] at h
 revert h
 cases letterM c <;> cases digitM c <;> cases (c == 95) <;> simp
theorem char_no {c : UInt8} (h : ((!letterM c && !digitM c) && ((c.toNat : Int) != 95)) = true) : charM c = false := by
 unfold charM
 have e : ((c.toNat : Int) != 95) = !(c == 95) := by
  by_cases hc : c = 95
  ·subst hc; rfl
  have : c.toNat ≠ 95 := fun h => hc (UInt8.toNat_inj.1 h)
  have : (c.toNat : Int) ≠ 95 := by omega
  rw [bne_iff_ne.2 this, beq_eq_false_iff_ne.2 hc]; rfl
 rw [e] at h
 revert h
 cases letterM c <;> cases digitM c <;> cases (c == 95) <;> simp
theorem c39 (s : Str) (hs : s.length ≤ 1048576) (Hp : List AObj) : AFun Tryz.prog 39 [strA s] Hp (boolA (nameM s)) := by
 refine ACall.body [.tmp 2] [0] Tryz.func39 Tryz.ntmps39 (fun d => ?_)
 refine Z83 ?_;refine Z10 ?_;refine R.slen jU ?_;refine R.eql ?_;refine Z18 ?_;refine G.slen jU ?_;refine Z94 ?_;refine Z18 ?_;refine G.sindex 0 (s.headD 0) jU (fun hB => headD_get (nn hB))  ?_;refine G.call Tryz.call51 (fun hB => c51 (s.headD 0) _) ?_;refine G.not ?_;refine Z253 ?_;refine Z18 ?_;refine G.call Tryz.call53 (fun hB => c53 s _) ?_;refine Z253 ?_;refine R.fin [0, 21] ?_
 refine W.cond (fun ht21 => ?_) (fun ht21 => ?_)
 ·refine Z12 ?_;refine K.thR ?_;exact K.fin (V.one V.tmp) ⟨by rw [nameM_eq, ht21]; rfl, rfl⟩
 refine Z3 ?_;refine Z106 ?_;refine R.fin [0, 3] ?_
 refine AW.loopC (α := Nat) (fun x => ⟨46, setF 0 (strA s) (setF 3 (intA (x : Nat)) (fun _ => .any)), Hp, [], [], none⟩) (fun x => x ≤ s.length ∧ ∀ (j : Nat) (y : UInt8), j < x → s[j]? = some y → charM y = true) (fun x => s.length - x) (0) (by simp) (StLe.refl _) rfl (fun x hx => ?_)
 refine Z120 ?_;refine R.slen jU ?_;refine R.lss ?_;refine R.fin [0, 3, 25] ?_
 refine W.cond (fun ht25 => ?_) (fun ht25 => ?_)
 ·have hlt : x < s.length := by simpa using ht25
  refine Z90 ?_;refine Z47 ?_
  refine R.sindex x s[x] jU (List.getElem?_eq_getElem hlt)  ?_
  refine R.call Tryz.call51 (c51 s[x] _) ?_;refine R.not ?_;refine Z134 ?_
  refine G.sindex x s[x] jU (fun _ => List.getElem?_eq_getElem hlt)  ?_
  refine G.call Tryz.call52 (fun hB => c52 s[x] _) ?_;refine G.not ?_;refine R.pickAnd ?_;refine Z134 ?_
  refine G.sindex x s[x] jU (fun _ => List.getElem?_eq_getElem hlt)  ?_
  refine G.neq ?_;refine R.pickAnd ?_;refine R.fin [0, 3, 45] ?_
  refine W.cond (fun ht45 => ?_) (fun ht45 => ?_)
  ·refine Z12 ?_;refine Z104 ?_;exact K.fin (V.one V.tmp) ⟨by rw [nameM_eq, ht21, not_none hlt (char_no ht45)]; rfl, rfl⟩
  refine Z180 ?_;refine R.fin [0, 3] ?_;exact K.lpN (x + 1) ⟨hlt, upto_succ hlt hx.2 (char_ok ht45)⟩ (by omega) (StCut.of_eq rfl)
 refine Z87 ?_;refine Z12 ?_;exact K.fin (V.one V.tmp) ⟨by rw [nameM_eq, ht21, all_of (upto_all (by simp at ht25; omega) hx.2)]; rfl, rfl⟩

def findM (nm : Str) (c : List Col) : Int := match c.findIdx? (fun y => y.name == nm) with | some i => i | none => -1
structure OkCols (c : List Col) : Prop where
 len : c.length ≤ 1048576
 names : ∀ y ∈ c, y.name.length ≤ 1048576
def colAt (c : List Col) (x : Nat) (y : Col) : Bool := !(((!nameM y.name || decide (y.kind < 1)) || decide ((3 : Int) < y.kind)) || (findM y.name c != (x : Int)))
def colsM (c : List Col) : Bool := c.zipIdx.all fun x => colAt c x.2 x.1
def rightM (c : List Col) : Bool := decide ((c.length : Int) ≤ 12) && colsM c
def plainM (v : Val) : Bool := if v.kind == 0 then v.n == 0 && v.s == [] else if v.kind == 1 then v.s == [] else if v.kind == 2 then v.n == 0 && decide ((v.s.length : Int) ≤ 200) else v.kind == 3 && v.s == [] && decide (0 ≤ v.n) && decide (v.n ≤ 1)
theorem c135 (v : Val) (Hp : List AObj) : AFun Tryz.prog 135 [valA v] Hp (boolA (plainM v)) := by
 refine ACall.body [.tmp 2] [0] Tryz.func135 Tryz.ntmps135 (fun d => ?_)
 refine Z252 ?_;refine R.box ?_;refine Z37 ?_;refine Z16 ?_;refine Z43 ?_;refine R.eql ?_;refine R.fin [1, 5] ?_
 refine W.cond (fun ht5 => ?_) (fun ht5 => ?_)
 ·refine Z252 ?_;refine Z165 ?_;refine Z98 ?_;refine Z117 ?_;refine G.seql ?_;refine Z168 ?_;refine K.thR ?_;exact Z254
 refine Z3 ?_;refine Z16 ?_;refine Z43 ?_;refine R.eql ?_;refine R.fin [1, 16] ?_
 refine W.cond (fun ht16 => ?_) (fun ht16 => ?_)
 ·refine Z252 ?_;refine Z166 ?_;refine R.seql ?_;refine Z9 ?_;refine K.thR ?_;exact K.fin (V.one V.tmp) ⟨by simp [plainM, ht5, ht16], rfl⟩
 refine Z3 ?_;refine Z16 ?_;refine Z43 ?_;refine R.eql ?_;refine R.fin [1, 22] ?_
 refine W.cond (fun ht22 => ?_) (fun ht22 => ?_)
 ·refine Z252 ?_;refine Z165 ?_;refine Z98 ?_;refine Z117 ?_;refine G.slen jU ?_;refine G.leq ?_;refine Z168 ?_;refine K.thR ?_;exact Z255
 refine Z3 ?_;refine Z219 ?_;refine Z98 ?_;refine Z117 ?_;refine G.seql ?_;refine Z61 ?_;refine Z121 ?_;refine G.geq ?_;refine Z61 ?_;refine Z121 ?_;refine G.leq ?_;refine Z168 ?_;exact Z255

theorem plain3 (e : Bool) (n : Int) : (e && (n == 0 || n == 1)) = (e && decide (0 ≤ n) && decide (n ≤ 1)) := by
 cases e
 ·rfl
 rw [Bool.eq_iff_iff]
 simp
 omega
theorem c99 (v : Val) (Hp : List AObj) : AFun Tryz.prog 99 [valA v] Hp (boolA (plainM v)) := by
 refine ACall.body [.tmp 2] [0] Tryz.func99 Tryz.ntmps99 (fun d => ?_)
 refine Z252 ?_;refine R.box ?_;refine Z37 ?_;refine Z16 ?_;refine Z43 ?_;refine R.fin [1, 4] ?_;refine Z145 ?_;refine R.fin [1, 4, 5] ?_
 refine W.cond (fun ht5 => ?_) (fun ht5 => ?_)
 ·refine Z36 ?_;refine Z256 ?_;refine R.eqlAgg eg25 (equal25 v.kind v.n 0 0 v.s []) ?_;refine Z9 ?_;refine Z4 ?_;exact Z254
 refine Z29 ?_;refine R.fin [1, 4, 10] ?_
 refine W.cond (fun ht10 => ?_) (fun ht10 => ?_)
 ·refine Z252 ?_;refine Z166 ?_;refine R.seql ?_;refine Z9 ?_;refine Z4 ?_;exact K.fin (V.one V.tmp) ⟨by simp [plainM, ht5, ht10], rfl⟩
 refine Z29 ?_;refine R.fin [1, 4, 15] ?_
 refine W.cond (fun ht15 => ?_) (fun ht15 => ?_)
 ·refine Z252 ?_;refine Z165 ?_;refine Z98 ?_;refine Z117 ?_;refine G.slen jU ?_;refine G.leq ?_;refine Z168 ?_;refine Z4 ?_;exact K.fin (V.one V.tmp) ⟨by simp [plainM, ht5, ht10, ht15], rfl⟩
 refine Z29 ?_;refine R.fin [1, 26] ?_
 refine W.cond (fun ht26 => ?_) (fun ht26 => ?_)
 ·refine Z252 ?_;refine Z166 ?_;refine R.seql ?_;refine Z257 ?_;refine Z121 ?_;refine Z198 ?_;refine Z121 ?_;refine G.eql ?_;refine G.pickOr ?_;refine Z168 ?_;refine Z4 ?_;exact K.fin (V.one V.tmp) ⟨by simp [plainM, ht5, ht10, ht15, ht26]; rw [plain3], rfl⟩
 refine Z22 ?_;refine Z12 ?_;exact K.fin (V.one V.tmp) ⟨by simp [plainM, ht5, ht10, ht15, ht26], rfl⟩

def manyM (c : List Col) : Bool := decide ((50 : Int) < c.length) || c.any fun y => decide ((100 : Int) < y.name.length)
def OkRows (l : List Row) : Prop := l.length ≤ 1048576 ∧ ∀ y ∈ l, y.l.length ≤ 1048576
def rowAt (c : List Col) (j : Nat) (v : Val) : Bool := !(!plainM v || ((v.kind != 0) && (v.kind != ((c[j]?).map (·.kind)).getD 0)))
def rowM (c : List Col) (l : List Val) : Bool := colsM c && decide (l.length = c.length) && l.zipIdx.all fun x => rowAt c x.2 x.1
def runM (s of : Str) : Int := (s.length : Int) - (Lib.trimLeftS s of).length
theorem trim_le (s of : Str) : (Lib.trimLeftS s of).length ≤ s.length := by
 unfold Lib.trimLeftS
 exact (List.dropWhile_sublist _).length_le
def reservedText : Str := [32, 97, 100, 100, 32, 100, 114, 111, 112, 32, 114, 101, 110, 97, 109, 101, 32, 115, 112, 108, 105, 116, 32, 109, 101, 114, 103, 101, 32, 114, 101, 116, 121, 112, 101, 32, 105, 110, 116, 111, 32, 116, 111, 32, 98, 97, 99, 107, 32, 97, 110, 100, 32, 111, 114, 32, 110, 111, 116, 32, 116, 114, 117, 101, 32, 102, 97, 108, 115, 101, 32, 110, 117, 108, 108, 32, 105, 110, 116, 32, 116, 101, 120, 116, 32, 98, 111, 111, 108, 32, 115, 101, 108, 101, 99, 116, 32, 119, 104, 101, 114, 101, 32, 102, 114, 111, 109, 32, 108, 105, 109, 105, 116, 32]
def letters : Str := [97, 98, 99, 100, 101, 102, 103, 104, 105, 106, 107, 108, 109, 110, 111, 112, 113, 114, 115, 116, 117, 118, 119, 120, 121, 122]
def tails : Str := [97, 98, 99, 100, 101, 102, 103, 104, 105, 106, 107, 108, 109, 110, 111, 112, 113, 114, 115, 116, 117, 118, 119, 120, 121, 122, 48, 49, 50, 51, 52, 53, 54, 55, 56, 57, 95]
theorem c66 (s of : Str) (hs : s.length ≤ 1048576) (ho : of.length ≤ 1048576) (ha : ∀ c ∈ of, c.toNat < 128) (Hp : List AObj) : AFun Tryz.prog 66 [strA s, strA of] Hp (intA (runM s of)) := by
 refine ACall.body [.tmp 4] [0, 1] Tryz.func66 Tryz.ntmps66 (fun d => ?_)
 refine Z123 ?_;refine Z0 ?_;refine R.slen jU ?_;refine Z91 ?_;refine R.call Tryz.call95 (c95 s of (by omega) ha _) ?_;refine R.slen jU ?_
 have htl := trim_le s of
 refine R.sub64 ?_;refine Z258 ?_;exact Z147

def lexReservedM (s : Str) : Bool := (!(s == []) && !Lib.contains s [32]) && Lib.contains reservedText ([32] ++ s ++ [32])
theorem c67 (s : Str) (hs : s.length ≤ 1048576) (Hp : List AObj) : AFun Tryz.prog 67 [strA s] Hp (boolA (lexReservedM s)) := by
 refine ACall.body [.tmp 2] [0] Tryz.func67 Tryz.ntmps67 (fun d => ?_)
 refine Z209 ?_;refine R.sneq ?_;refine Z18 ?_;refine G.call Tryz.call96 (fun hB => c96 s [32] (by omega) _) ?_;refine G.not ?_;refine Z236 ?_;refine G.sadd ?_;refine G.sadd ?_;refine G.call Tryz.call96 (fun hB => c96 reservedText ([32] ++ s ++ [32]) (by decide) _) ?_;exact Z215

theorem one_le {s : Str} {b c : Bool} (h : (((!(s == []) && b) && c) == true) = true) : 1 ≤ s.length := by
 cases s with
 | nil => simp at h
 | cons x r => simp
def lexNameM (s : Str) : Bool := ((((!(s == []) && decide ((s.length : Int) ≤ 16)) && (runM s tails == (s.length : Int))) && (runM (s.take 1) letters == 1)) && !lexReservedM s)
theorem c36 (s : Str) (hs : s.length ≤ 1048576) (Hp : List AObj) : AFun Tryz.prog 36 [strA s] Hp (boolA (lexNameM s)) := by
 refine ACall.body [.tmp 2] [0] Tryz.func36 Tryz.ntmps36 (fun d => ?_)
 refine Z209 ?_;refine R.sneq ?_;refine Z18 ?_;refine G.slen jU ?_;refine G.leq ?_;refine Z236 ?_;refine G.call Tryz.call66 (fun hB => c66 s tails hs (by decide) (by decide) _) ?_;refine G.move ?_;refine G.slen jU ?_;refine Z42 ?_;refine Z18 ?_;refine G.scutH 1 jU (fun _ => Nat.zero_le _) (fun hB => one_le hB) ?_
 refine G.call Tryz.call66 (fun hB => c66 (s.take 1) letters (by simp; omega) (by decide) (by decide) _) ?_
 refine Z42 ?_;refine Z18 ?_;refine G.call Tryz.call67 (fun hB => c67 s hs _) ?_;refine G.not ?_;exact Z215

end Go.SX.Nb
namespace Go.SX.Nb
open Go Go.SX Go.Proofs Go.RowKit
variable [ErrAt]
set_option maxRecDepth 4000
theorem c184 (s t : Str) (Hp : List AObj) : AFun Tryz.prog 184 [strA s, strA t] Hp (strA (Lib.trimPrefix s t)) := by
 refine AFun.lib (xs := [sv s, sv t]) (v := sv (Lib.trimPrefix s t)) (fun G w => .v _ _) (fun w hg => ?_)
 refine (Any.strings_TrimPrefix Tryz.lays101 ⟨s.toArray⟩ ⟨t.toArray⟩ w).mono ?_
 rintro e w' ⟨rfl, rfl⟩
 exact Z251
theorem c185 (s t : Str) (hs : s.length ≤ 9223372036854775807) (ht : t.length < 4294967281) (ha : ∀ c ∈ t, c.toNat < 128) (Hp : List AObj) : AFun Tryz.prog 185 [strA s, strA t] Hp (strA (Lib.trimS s t)) := by
 refine AFun.lib (xs := [sv s, sv t]) (v := sv (Lib.trimS s t)) (fun G w => .v _ _) (fun w hg => ?_)
 refine (Any.strings_Trim_laid Tryz.lays160 (by kernel_rfl) ⟨s.toArray⟩ ⟨t.toArray⟩ w (by simpa [ByteArray.size] using hs) (by simpa [ByteArray.size] using ht) (fun j b hj => ha b (List.mem_of_getElem? hj))).mono ?_
 rintro e w' ⟨rfl, hb⟩
 exact ⟨rfl, hb⟩
theorem c213_ok (s : Str) (hs : s.length ≤ 1048576) (v : Int) (h : Lib.parseIntB 64 s = .ok v) (Hp : List AObj) : AFun Tryz.prog 186 [strA s, intA 10, intA 64] Hp (.tup [intA v, .v .nilIface]) := by
 refine AFun.lib (xs := [sv s, .int .i64 10, .int .i64 64]) (v := .tuple #[.int .i64 v, .nilIface]) (fun G w => rep_tup rfl (fun i y u hy hu => ?_)) (fun w hg => ?_)
 ·match i with
  | 0 => simp at hy hu; subst hy; subst hu; exact .v _ _
  | 1 => simp at hy hu; subst hy; subst hu; exact .v _ _
  | i + 2 => simp at hy
 refine (Any.strconv_ParseInt_10_at64_ok Tryz.lays174 ⟨s.toArray⟩ (by simp [ByteArray.size]; omega) v h w).mono ?_
 rintro e w' ⟨rfl, rfl | ⟨t, rfl⟩⟩
 ·exact Z251
 exact ⟨rfl, Lib.bytesWorld_below _ _ _⟩
def rangeE (s : Str) : AV := .iface 135 (.ro [.v (sv [80, 97, 114, 115, 101, 73, 110, 116]), .v (sv s), .v (.iface 185 (.pointer (some ErrAt.b)))])
theorem c213_range (s : Str) (hs : s.length ≤ 1048576) (h : Lib.parseIntB 64 s = .range) (Hp : List AObj) : AFun Tryz.prog 186 [strA s, intA 10, intA 64] Hp (.tup [intA (Lib.intSat 64 s), rangeE s]) := by
 refine AFun.libErr (xs := [sv s, .int .i64 10, .int .i64 64]) (n := .int .i64 (Lib.intSat 64 s)) (cs := [sv [80, 97, 114, 115, 101, 73, 110, 116], sv s, .iface 185 (.pointer (some ErrAt.b))]) (te := 167) (fun y hy => ?_) (fun w hg => ?_)
 ·simp only [List.mem_cons, List.mem_nil_iff, or_false] at hy
  rcases hy with rfl | rfl | rfl <;> rfl
 refine (Any.strconv_ParseInt_10_at64_range Tryz.lays174 ⟨s.toArray⟩ (by simp [ByteArray.size]; omega) h (.iface 185 (.pointer (some ErrAt.b))) w (errRange_of hg) (.inr ⟨_, _, rfl⟩)).mono ?_
 rintro e w' ⟨N, rfl, h1, h2, h3⟩
 exact ⟨N, rfl, h1, h2, h3⟩
theorem c214_nil (Hp : List AObj) : AFun Tryz.prog 187 [.v .nilIface, .v (.iface 185 (.pointer (some ErrAt.b)))] Hp (boolA false) := by
 refine AFun.lib (xs := [.nilIface, .iface 185 (.pointer (some ErrAt.b))]) (v := .bool false) (fun G w => .v _ _) (fun w hg => ?_)
 refine (Tryz.is_nil _ w).mono ?_
 rintro e w' ⟨rfl, rfl⟩
 exact Z251
theorem c214_range (s : Str) (Hp : List AObj) : AFun Tryz.prog 187 [rangeE s, .v (.iface 185 (.pointer (some ErrAt.b)))] Hp (boolA true) := by
 intro d G w vs hn hv hH hT
 have hsz : vs.size = 2 := hn
 have h0 := hv 0 (rangeE s) vs[0] rfl (Array.getElem?_eq_getElem (by omega))
 have h1 := rep_v (hv 1 (.v (.iface 185 (.pointer (some ErrAt.b)))) vs[1] rfl (Array.getElem?_eq_getElem (by omega)))
 have hvs : vs = #[vs[0], vs[1]] := by
  apply Array.ext
  ·exact hsz
  intro i hi1 hi2
  match i with
  | 0 => rfl
  | 1 => rfl
  | i + 2 => omega
 unfold rangeE at h0
 generalize vs[0] = u0 at h0 hvs
 cases h0 with
 | iface _ _ _ u h =>
  cases h with
  | ro _ _ ad f hs h1' hf hr =>
   obtain ⟨ab, ao, asp⟩ := ad
   simp only at hs
   subst hs
   have hc := (hf 2 _ rfl).2
   have he := rep_v (hr 2 _ rfl)
   rw [he] at hc
   rw [hvs, h1]
   refine (callsIn_wide.2 (Tryz.is_range ab ao ErrAt.b w hc)).mono ?_
   rintro e w' ⟨rfl, rfl⟩
   exact ⟨_, G, _, Hp, rfl, .v _ _, hH, hT, Keep.refl _ _ _, rfl, rfl, rfl⟩
end Go.SX.Nb
namespace Go.SX.Nb
open Go Go.SX Go.Proofs
variable [ErrAt]
set_option maxRecDepth 4000
def kindText : Str := [32, 105, 110, 116, 32, 116, 101, 120, 116, 32, 98, 111, 111, 108]
def kindNames : List Str := [[], [105, 110, 116], [116, 101, 120, 116], [98, 111, 111, 108]]
def kindNameM (k : Int) : Str := if k < 1 ∨ 3 < k then [] else kindNames.getD k.toNat []
def isMarkM (s of : Str) : Bool := (!(s == []) && !Lib.contains s [32]) && Lib.contains of ([32] ++ s ++ [32])
theorem c100 (s of : Str) (hs : s.length ≤ 1048576) (ho : of.length ≤ 1048576) (Hp : List AObj) : AFun Tryz.prog 100 [strA s, strA of] Hp (boolA (isMarkM s of)) := by
 refine ACall.body [.tmp 4] [0, 1] Tryz.func100 Tryz.ntmps100 (fun d => ?_)
 refine Z123 ?_;refine Z0 ?_;refine R.sneq ?_;refine Z18 ?_;refine G.call Tryz.call96 (fun hB => c96 s [32] (by omega) _) ?_;refine G.not ?_;refine R.pickAnd ?_;refine Z134 ?_;refine G.sadd ?_;refine G.sadd ?_;refine G.call Tryz.call96 (fun hB => c96 of ([32] ++ s ++ [32]) (by omega) _) ?_;exact Z237

def arityText : Str := [108, 101, 110, 58, 49, 32, 115, 116, 114, 58, 49, 32, 110, 117, 109, 58, 49, 32, 105, 115, 110, 117, 108, 108, 58, 49, 32, 110, 118, 108, 58, 50, 32, 108, 101, 102, 116, 58, 50, 32, 114, 105, 103, 104, 116, 58, 50, 32, 105, 102, 58, 51]
def arityList : List (Str × UInt8) := [([108, 101, 110], 49), ([115, 116, 114], 49), ([110, 117, 109], 49), ([105, 115, 110, 117, 108, 108], 49), ([110, 118, 108], 50), ([108, 101, 102, 116], 50), ([114, 105, 103, 104, 116], 50), ([105, 102], 51)]
def pieceOf (p : Str × UInt8) : Str := p.1 ++ [58, p.2]
theorem aritySplit : splitM arityText [32] = arityList.map pieceOf := by kernel_rfl
theorem arityCut {p : Str × UInt8} (hp : p ∈ arityList) : Lib.cut (pieceOf p) [58] = (p.1, [p.2], true) := by
 have h : (arityList.all fun p => decide (Lib.cut (pieceOf p) [58] = (p.1, [p.2], true))) = true := by kernel_rfl
 exact of_decide_eq_true (List.all_eq_true.1 h p hp)
def arityV (p : Str × UInt8) : Int := IntKind.i64.wrap (IntKind.u8.wrap ((p.2.toNat : Int) - 48))
def arityM (nm : Str) : Int := match arityList.find? (fun p => p.1 == nm) with | some p => arityV p | none => -1
theorem find_at {α : Type} {p : α → Bool} {l : List α} {x : Nat} (h : x < l.length) (hp : p l[x] = true) (h2 : ∀ (j : Nat) (y : α), j < x → l[j]? = some y → p y = false) : l.find? p = some l[x] := by
 rw [List.find?_eq_some_iff_getElem]
 exact ⟨hp, x, h, rfl, fun j hj => by simpa using h2 j l[j] hj (List.getElem?_eq_getElem _)⟩
theorem find_none {α : Type} {p : α → Bool} {l : List α} (h : ∀ (j : Nat) (y : α), l[j]? = some y → p y = false) : l.find? p = none := by
 rw [List.find?_eq_none]
 intro y hy
 obtain ⟨j, hj⟩ := List.getElem?_of_mem hy
 simpa using h j y hj
theorem arity_len : arityList.length = 8 := rfl
theorem piece_len {p : Str × UInt8} (hp : p ∈ arityList) : (pieceOf p).length < 4294967281 := by
 have h : (arityList.all fun p => decide ((pieceOf p).length < 4294967281)) = true := by kernel_rfl
 exact of_decide_eq_true (List.all_eq_true.1 h p hp)
theorem c101 (nm : Str) (Hp : List AObj) : AFun Tryz.prog 101 [strA nm] Hp (intA (arityM nm)) := by
 refine ACall.body [.tmp 2] [0] Tryz.func101 Tryz.ntmps101 (fun d => ?_)
 refine Z83 ?_;refine Z16 ?_;refine R.call Tryz.call134 (aritySplit ▸ c134 arityText [32] (by decide) (by decide) _) ?_;refine Z122 ?_;refine R.fin [0, 8, 9, 10] ?_
 refine AW.loopC (α := Nat) (fun x => ⟨28, setF 0 (strA nm) (setF 8 (strsA (arityList.map pieceOf)) (setF 9 (intA 8) (setF 10 (intA (x : Nat)) (fun _ => .any)))), Hp, [], [], none⟩) (fun x => x ≤ 8 ∧ ∀ (j : Nat) (y : Str × UInt8), j < x → arityList[j]? = some y → (y.1 == nm) = false) (fun x => 8 - x) (0) (by simp) (StLe.refl _) rfl (fun x hx => ?_)
 refine Z190 ?_;refine R.fin [0, 8, 9, 10, 11] ?_
 refine W.condX (fun ht11 => ?_) (fun ht11 => ?_)
 ·have hlt : x < arityList.length := by rw [arity_len]; simp at ht11; omega
  have hal := arity_len
  have hget : ((arityList.map pieceOf).map strA)[x]? = some (strA (pieceOf arityList[x])) := by rw [List.map_map]; exact getMap hlt
  refine Z34 ?_;refine Z252 ?_;refine R.indexAddr (x) (strA (pieceOf arityList[x])) jU jS hget ?_;refine Z259 ?_;refine Z258 ?_;refine R.fin [0, 4, 8, 9, 10] ?_;refine Z0 ?_;refine R.call Tryz.call104 ((arityCut (List.getElem_mem hlt)) ▸ c104 (pieceOf arityList[x]) [58] (piece_len (List.getElem_mem hlt)) _) ?_;refine Z86 ?_;refine R.extract ?_;refine Z88 ?_;refine R.fin [0, 5, 6, 8, 9, 10] ?_;refine Z47 ?_;refine R.seql ?_;refine R.fin [0, 6, 8, 9, 10, 22] ?_
  refine W.cond (fun ht22 => ?_) (fun ht22 => ?_)
  ·refine Z0 ?_;refine R.sindex 0 arityList[x].2 jU rfl  ?_;refine R.sub ?_;refine R.iconv jU jU ?_;refine Z9 ?_;refine Z104 ?_;exact K.fin (V.one V.tmp) ⟨by rw [arityM, find_at hlt ht22 hx.2]; rfl, rfl⟩
  refine Z22 ?_;refine Z156 ?_;refine R.fin [0, 8, 9, 10] ?_;exact K.lpN (x + 1) ⟨by omega, upto_succ hlt hx.2 ht22⟩ (by omega) (StCut.of_eq rfl)
 have hal := arity_len
 refine Z53 ?_;refine Z12 ?_;exact K.fin (V.one V.tmp) ⟨by rw [arityM, find_none (upto_all (by simp at ht11; omega) hx.2)], rfl⟩

def parV (s : Str) : Int := match Lib.parseIntB 64 s with | .ok v => v | _ => Lib.intSat 64 s
def parR (s : Str) : Bool := match Lib.parseIntB 64 s with | .ok _ => false | _ => true
def parE (s : Str) : AV := bif parR s then rangeE s else .v .nilIface
theorem strip_parE (s : Str) : (parE s).strip = parE s := by unfold parE; cases parR s <;> rfl
attribute [go_sem] strip_parE
theorem c186 (s : Str) (hs : s.length ≤ 1048576) (h : badN (Lib.parseIntB 64 s) = false) (Hp : List AObj) : AFun Tryz.prog 186 [strA s, intA 10, intA 64] Hp (.tup [intA (parV s), parE s]) := by
 cases hp : Lib.parseIntB 64 s with
 | ok v =>
  have := c213_ok s hs v hp Hp
  rwa [show v = parV s by unfold parV; rw [hp], show AV.v .nilIface = parE s by unfold parE parR; rw [hp]; rfl] at this
 | range =>
  have := c213_range s hs hp Hp
  rwa [show Lib.intSat 64 s = parV s by unfold parV; rw [hp], show rangeE s = parE s by unfold parE parR; rw [hp]; rfl] at this
 | _ => rw [hp] at h; cases h
theorem c187 (s : Str) (Hp : List AObj) : AFun Tryz.prog 187 [parE s, .v (.iface 185 (.pointer (some ErrAt.b)))] Hp (boolA (parR s)) := by
 unfold parE
 cases parR s
 ·exact c214_nil Hp
 exact c214_range s Hp
theorem trimP_le (s t : Str) : (Lib.trimPrefix s t).length ≤ s.length := by
 unfold Lib.trimPrefix; split <;> simp
theorem num_guard {d : Str} {b : Bool} (h : (((d == []) || b) == false) = true) : d ≠ [] := by rintro rfl; simp at h
theorem digs_ascii : ∀ c ∈ digs, c.toNat < 128 := by decide
theorem num_bad_eq (s : Str) : ((((Lib.trimPrefix s [45] == []) || (Lib.trimS (Lib.trimPrefix s [45]) digs != [])) || ((((Lib.trimPrefix s [45]).headD 0).toNat : Int) == 48 && decide ((1 : Int) < s.length)))) = numBad s := by
 unfold numBad numDs
 have e1 : ((((Lib.trimPrefix s [45]).headD 0).toNat : Int) == 48) = ((Lib.trimPrefix s [45]).headD 0 == 48) := by
  rw [Bool.eq_iff_iff]
  simp only [beq_iff_eq]
  constructor
  ·intro h
   exact UInt8.toNat_inj.1 (by have : (48 : UInt8).toNat = 48 := rfl; omega)
  intro h; rw [h]; rfl
 have e2 : decide ((1 : Int) < s.length) = decide (1 < s.length) := by rw [decide_eq_decide]; omega
 rw [e1, e2]
 rfl
theorem num_range {s : Str} (hb : numBad s = false) (h : parR s = true) : numReadM s = (0, 4) := by
 unfold numReadM
 rw [hb]
 have := num_not_syntax hb
 unfold parR at h
 revert h this
 cases Lib.parseIntB 64 s with
 | ok v => intro h; cases h
 | range => intro _ _; rfl
 | _ => intro _ h; cases h
theorem num_ok {s : Str} (hb : numBad s = false) (h : parR s = false) : numReadM s = (parV s, 0) := by
 unfold numReadM parV
 rw [hb]
 unfold parR at h
 revert h
 cases Lib.parseIntB 64 s with
 | ok v => intro h; rfl
 | _ => intro h; cases h
theorem take_min (s : Str) : s.take (min s.length 200) = s.take 200 := by
 rcases Nat.le_total s.length 200 with h | h
 ·rw [Nat.min_eq_left h, List.take_of_length_le (Nat.le_refl _), List.take_of_length_le h]
 rw [Nat.min_eq_right h]
theorem c164 (s : Str) (hs : s.length ≤ 1048576) (Hp : List AObj) : AFun Tryz.prog 164 [strA s] Hp (.tup [intA (numReadM s).1, intA (numReadM s).2]) := by
 refine ACall.body [.tmp 2, .tmp 3] [0] Tryz.func164 Tryz.ntmps164 (fun d => ?_)
 refine Z2 ?_;refine Z258 ?_;refine R.fin [0] ?_;refine Z0 ?_;refine R.call Tryz.call184 (c184 s [45] _) ?_;refine Z258 ?_;refine R.fin [0, 4] ?_;refine Z10 ?_;refine Z161 ?_
 refine G.call Tryz.call185 (fun hB => c185 (Lib.trimPrefix s [45]) digs (by have := trimP_le s [45]; omega) (by decide) digs_ascii _) ?_
 refine G.sneq ?_;refine Z253 ?_;refine Z18 ?_;refine G.sindex 0 ((Lib.trimPrefix s [45]).headD 0) jU (fun hB => headD_get (num_guard hB))  ?_;refine Z198 ?_;refine G.move ?_;refine G.slen jU ?_;refine G.gtr ?_;refine G.pickAnd ?_;refine Z253 ?_;refine R.fin [0, 25] ?_
 refine W.cond (fun ht25 => ?_) (fun ht25 => ?_)
 ·have hb : numBad s = true := by rw [← num_bad_eq]; exact ht25
  refine Z2 ?_;refine Z45 ?_;refine Z23 ?_;exact K.fin (V.two V.tmp V.tmp) ⟨by rw [numReadM, hb]; rfl, rfl⟩
 have hb : numBad s = false := by rw [← num_bad_eq]; exact ht25
 refine Z95 ?_;refine R.call Tryz.call186 (c186 s hs (num_not_syntax hb) _) ?_;refine Z86 ?_;refine Z13 ?_;refine R.fin [5, 6] ?_;refine Z10 ?_;refine R.loadGlob Tryz.isAgg76 (fun w hg => errRange_of hg) ?_;refine R.call Tryz.call187 (c187 s _) ?_;refine R.fin [5, 33] ?_
 refine W.cond (fun ht33 => ?_) (fun ht33 => ?_)
 ·refine Z2 ?_;refine Z45 ?_;refine Z23 ?_;exact K.fin (V.two V.tmp V.tmp) ⟨by rw [num_range hb ht33], rfl⟩
 refine Z95 ?_;refine Z13 ?_;refine R.fin [2, 3] ?_;refine AW.ret ?_;exact K.fin (V.two V.tmp V.tmp) ⟨by rw [num_ok hb ht33], rfl⟩

theorem c123 (n : Int) (h0 : -9223372036854775808 ≤ n) (h1 : n ≤ 9223372036854775807) (Hp : List AObj) : AFun Tryz.prog 123 [intA n] Hp (strA (Lib.itoa n)) := by
 refine ACall.body [.tmp 2] [0] Tryz.func123 Tryz.ntmps123 (fun d => ?_)
 refine Z209 ?_;refine R.call Tryz.call147 (c147 n h0 h1 _) ?_;exact Z66

theorem c159 (Hp : List AObj) : AFun Tryz.prog 159 [] Hp (valA ⟨0, 0, []⟩) := by
 refine ACall.body [.cell 0 25] [] Tryz.func159 Tryz.ntmps159 (fun d => ?_)
 refine Z35 ?_;refine R.fin [0] ?_;refine Z65 ?_;refine Z260 ?_;refine R.fin [0] ?_;refine AW.ret ?_;exact K.fin (V.one (V.cellN jA jS))

theorem c165 (n : Int) (Hp : List AObj) : AFun Tryz.prog 165 [intA n] Hp (valA ⟨1, n, []⟩) := by
 refine ACall.body [.cell 2 25] [0] Tryz.func165 Tryz.ntmps165 (fun d => ?_)
 refine Z71 ?_;refine Z0 ?_;refine Z256 ?_;exact Z176

theorem c160 (b : Bool) (Hp : List AObj) : AFun Tryz.prog 160 [boolA b] Hp (valA ⟨3, if b then 1 else 0, []⟩) := by
 refine ACall.body [.cell 2 25] [0] Tryz.func160 Tryz.ntmps160 (fun d => ?_)
 refine Z71 ?_;refine Z65 ?_;refine Z20 ?_;refine Z240 ?_;refine R.fin [2, 3, 5] ?_
 refine W.cond (fun ht5 => ?_) (fun ht5 => ?_)
 ·refine Z261 ?_;refine R.fieldAddrPtr (fo := 1) jU Tryz.sizeOf2 ?_;refine Z69 ?_;refine K.thN ?_;refine Z36 ?_;exact Z201
 refine Z3 ?_;refine Z36 ?_;exact Z201

theorem c183 (s : Str) (Hp : List AObj) : AFun Tryz.prog 183 [strA s] Hp (valA ⟨2, 0, s.take 200⟩) := by
 refine ACall.body [.cell 2 25] [0] Tryz.func183 Tryz.ntmps183 (fun d => ?_)
 refine Z71 ?_;refine Z47 ?_;refine R.slen jU ?_;refine R.minI ?_
 refine R.scutH (min s.length 200) jU (Nat.zero_le _) (Nat.min_le_left _ _) (hb := by split <;> omega) ?_
 refine Z256 ?_;refine Z32 ?_;exact K.fin (V.one (V.cellN jA jS)) ⟨by rw [take_min], rfl⟩

theorem prefix_len {p s : Str} (h : p.isPrefixOf s = true) : p.length ≤ s.length := (List.isPrefixOf_iff_prefix.1 h).length_le
theorem index_fits (s o : Str) (h : 0 ≤ Lib.index s o) : (Lib.index s o).toNat + o.length ≤ s.length := by
 induction s with
 | nil =>
  unfold Lib.index at h ⊢
  split at h
  ·rename_i he
   rw [if_pos he]
   cases o with
   | nil => simp
   | cons a b => simp at he
  omega
 | cons b l ih =>
  unfold Lib.index at h ⊢
  split at h
  ·rename_i hp
   rw [if_pos hp]
   have := prefix_len hp
   simpa using this
  rename_i hp
  rw [if_neg hp]
  split at h
  ·omega
  rename_i hi
  rw [if_neg hi]
  have hg := Lib.index_ge l o
  have hi' : Lib.index l o ≠ -1 := by simpa using hi
  have := ih (by omega)
  simp only [List.length_cons]
  omega
def nullV : Val := ⟨0, 0, []⟩
def boolV (b : Bool) : Val := ⟨3, if b then 1 else 0, []⟩
def i64R (n : Int) : Prop := -9223372036854775808 ≤ n ∧ n ≤ 9223372036854775807
def printM (v : Val) : Str :=
 if !plainM v then [] else if v.kind == 1 then Lib.itoa v.n else if v.kind == 2 then [39] ++ Lib.replaceAll v.s [39] [39, 39] ++ [39]
 else if v.kind == 0 then [110, 117, 108, 108] else if v.n == 1 then [116, 114, 117, 101] else [102, 97, 108, 115, 101]
theorem plain_len {v : Val} (h : plainM v = true) (h2 : (v.kind == 2) = true) : v.s.length ≤ 200 := by
 have e : v.kind = 2 := by simpa using h2
 unfold plainM at h
 rw [e] at h
 simp at h
 omega
theorem count_bd (s o : Str) (ho : 1 ≤ o.length) : Lib.countB ⟨s.toArray⟩ ⟨o.toArray⟩ ≤ s.length := Lib.countB_le ⟨o.toArray⟩ (by simpa [ByteArray.size] using ho) s.length ⟨s.toArray⟩ (by simp [ByteArray.size])
theorem replaceK_le (o n : Str) (B : Nat) (hn : n.length ≤ B * o.length) (hB : 1 ≤ B) : ∀ (k : Nat) (s : Str), (Lib.replaceK o n k s).length ≤ B * s.length
 | 0, s => by rw [Lib.replaceK]; exact Nat.le_mul_of_pos_left _ hB
 | k + 1, s => by
  rw [Lib.replaceK]
  split
  ·exact Nat.le_mul_of_pos_left _ hB
  rename_i h
  have ih := replaceK_le o n B hn hB k (s.drop ((Lib.index s o).toNat + o.length))
  have hx : (Lib.index s o).toNat + o.length ≤ s.length := by
   have hg := Lib.index_ge s o
   have hi : Lib.index s o ≠ -1 := by simpa using h
   exact index_fits s o (by omega)
  simp only [List.length_append, List.length_drop, List.length_take] at ih ⊢
  have h1 : min (Lib.index s o).toNat s.length ≤ B * (Lib.index s o).toNat := Nat.le_trans (Nat.min_le_left _ _) (Nat.le_mul_of_pos_left _ hB)
  have h2 : B * s.length = B * (Lib.index s o).toNat + B * o.length + B * (s.length - ((Lib.index s o).toNat + o.length)) := by
   rw [← Nat.mul_add, ← Nat.mul_add]; congr 1; omega
  omega
theorem replaceAll_le (s o n : Str) (B : Nat) (hn : n.length ≤ B * o.length) (hB : 1 ≤ B) : (Lib.replaceAll s o n).length ≤ B * s.length := by
 unfold Lib.replaceAll Lib.replace
 split
 ·exact Nat.le_mul_of_pos_left _ hB
 exact replaceK_le o n B hn hB _ s
theorem c92 (v : Val) (hn : i64R v.n) (Hp : List AObj) : AFun Tryz.prog 92 [valA v] Hp (strA (printM v)) := by
 refine ACall.body [.tmp 2] [0] Tryz.func92 Tryz.ntmps92 (fun d => ?_)
 refine Z70 ?_;refine Z34 ?_;refine Z72 ?_;refine R.call Tryz.call99 (c99 v _) ?_;refine R.not ?_;refine Z232 ?_
 refine W.cond (fun ht3 => ?_) (fun ht3 => ?_)
 ·refine Z12 ?_;refine Z4 ?_;exact K.fin (V.one V.tmp) ⟨by simp only [printM, ht3, if_true], rfl⟩
 have hp : plainM v = true := by simpa using ht3
 refine Z187 ?_;refine Z14 ?_;refine R.fin [1, 7] ?_
 refine W.cond (fun ht7 => ?_) (fun ht7 => ?_)
 ·refine Z252 ?_;refine Z124 ?_;refine R.call Tryz.call123 (c123 v.n hn.1 hn.2 _) ?_;refine Z9 ?_;refine Z4 ?_;exact K.fin (V.one V.tmp) ⟨by simp only [printM, hp, ht7, Bool.not_true, Bool.false_eq_true, if_false, if_true]; try rfl, rfl⟩
 refine Z187 ?_;refine Z14 ?_;refine R.fin [1, 14] ?_
 refine W.cond (fun ht14 => ?_) (fun ht14 => ?_)
 ·refine Z252 ?_;refine Z89 ?_
  have hl := plain_len hp ht14
  have hrl := replaceAll_le v.s [39] [39, 39] 2 (by decide) (by decide)
  refine R.call Tryz.call124 (c124 v.s [39] [39, 39] (by omega) (by decide) (by have := count_bd v.s [39] (by decide); simp; omega) _) ?_
  refine R.sadd ?_;refine R.sadd ?_;refine Z9 ?_;refine Z4 ?_;exact K.fin (V.one V.tmp) ⟨by simp only [printM, hp, ht7, ht14, Bool.not_true, Bool.false_eq_true, if_false, if_true]; try rfl, rfl⟩
 refine Z187 ?_;refine Z14 ?_;refine R.fin [1, 23] ?_
 refine W.cond (fun ht23 => ?_) (fun ht23 => ?_)
 ·refine Z12 ?_;refine Z4 ?_;exact K.fin (V.one V.tmp) ⟨by simp only [printM, hp, ht7, ht14, ht23, Bool.not_true, Bool.false_eq_true, if_false, if_true]; try rfl, rfl⟩
 refine Z252 ?_;refine Z124 ?_;refine Z14 ?_;refine R.fin [27] ?_
 refine W.cond (fun ht27 => ?_) (fun ht27 => ?_)
 ·refine Z12 ?_;refine Z4 ?_;exact Z262
 refine Z22 ?_;refine Z12 ?_;exact Z262

def innerM (s : Str) : Str := Lib.replaceAll ((s.take (s.length - 1)).drop 1) [39, 39] [39]
def textV (s : Str) : Val := ⟨2, 0, (innerM s).take 200⟩
def textR (s : Str) : Val × Int := if !(printM (textV s) == s) then (nullV, 7) else (textV s, 0)
theorem c163 (s : Str) (h2 : 2 ≤ s.length) (hs : s.length ≤ 1048576) (Hp : List AObj) : AFun Tryz.prog 163 [strA s] Hp (.tup [valA (textR s).1, intA (textR s).2]) := by
 refine ACall.body [.cell 2 25, .tmp 3] [0] Tryz.func163 Tryz.ntmps163 (fun d => ?_)
 refine Z35 ?_;refine Z258 ?_;refine R.fin [0, 2] ?_;refine Z47 ?_;refine R.slen jU ?_;refine R.sub64 ?_;refine R.scutLH 1 (s.length - 1) jU (show 1 ≤ s.length - 1 by omega) (show s.length - 1 ≤ s.length by omega) ?_
 refine R.call Tryz.call124 (c124 ((s.take (s.length - 1)).drop 1) [39, 39] [39] (by simp; omega) (by decide) (by have := count_bd ((s.take (s.length - 1)).drop 1) [39, 39] (by decide); simp at this ⊢; omega) _) ?_
 refine Z258 ?_;refine R.fin [0, 2, 4] ?_;refine Z0 ?_;refine R.call Tryz.call183 (c183 (innerM s) _) ?_;refine Z20 ?_;refine R.fin [0, 2, 5] ?_;refine Z16 ?_;refine Z263 ?_
 refine R.call Tryz.call92 (c92 (textV s) ⟨by show (-9223372036854775808 : Int) ≤ 0; decide, by show (0 : Int) ≤ 9223372036854775807; decide⟩ _) ?_
 refine Z257 ?_;refine R.sneq ?_;refine R.fin [2, 5, 17] ?_
 refine W.cond (fun ht17 => ?_) (fun ht17 => ?_)
 ·refine Z65 ?_;refine Z126 ?_;refine Z23 ?_;exact Z264
 refine Z3 ?_;refine Z36 ?_;refine Z126 ?_;refine AW.ret ?_;exact Z264

def quotM (s : Str) : Bool := (decide ((1 : Int) < s.length) && Lib.hasPrefix s [39]) && Lib.hasSuffix s [39]
def readM (s : Str) : Val × Int :=
 if s == [110, 117, 108, 108] then (nullV, 0) else if (s == [116, 114, 117, 101]) || (s == [102, 97, 108, 115, 101]) then (boolV (s == [116, 114, 117, 101]), 0)
 else if quotM s then textR s else if (numReadM s).2 == 0 then (⟨1, (numReadM s).1, []⟩, 0) else if (numReadM s).2 == 4 then (nullV, 4) else (nullV, 7)
theorem quot_len {s : Str} (h : quotM s = true) : 2 ≤ s.length := by
 unfold quotM at h
 simp only [Bool.and_eq_true, decide_eq_true_eq] at h
 omega
theorem c138 (s : Str) (hs : s.length ≤ 1048576) (Hp : List AObj) : AFun Tryz.prog 138 [strA s] Hp (.tup [valA (readM s).1, intA (readM s).2]) := by
 refine ACall.body [.cell 2 25, .tmp 3] [0] Tryz.func138 Tryz.ntmps138 (fun d => ?_)
 refine Z35 ?_;refine Z258 ?_;refine R.fin [0, 2] ?_;refine Z197 ?_;refine Z19 ?_;refine R.fin [0, 2, 6] ?_
 refine W.cond (fun ht6 => ?_) (fun ht6 => ?_)
 ·refine Z252 ?_;refine R.call Tryz.call159 (c159 _) ?_;refine Z126 ?_;refine Z141 ?_;exact K.fin (V.two (V.cellN jA jS) V.tmp) ⟨by simp only [readM, ht6, if_true, if_false, Bool.false_eq_true]; try rfl, rfl⟩
 refine Z0 ?_;refine Z161 ?_;refine G.seql ?_;refine Z253 ?_;refine Z258 ?_;refine R.fin [0, 2, 10] ?_
 refine W.cond (fun ht10 => ?_) (fun ht10 => ?_)
 ·refine Z0 ?_;refine R.seql ?_;refine R.call Tryz.call160 (c160 (s == [116, 114, 117, 101]) _) ?_;refine Z126 ?_;refine Z141 ?_;exact K.fin (V.two (V.cellN jA jS) V.tmp) ⟨by simp only [readM, ht6, ht10, if_true, if_false, Bool.false_eq_true]; try rfl, rfl⟩
 refine Z0 ?_;refine Z177 ?_;refine Z18 ?_;refine G.call Tryz.call161 (fun hB => c161 s [39] _) ?_;refine Z236 ?_;refine G.call Tryz.call162 (fun hB => c162 s [39] (by omega) _) ?_;refine Z107 ?_;refine R.fin [0, 2, 20] ?_
 refine W.cond (fun ht20 => ?_) (fun ht20 => ?_)
 ·have hq : quotM s = true := ht20
  refine Z0 ?_;refine R.call Tryz.call163 (c163 s (quot_len hq) hs _) ?_;refine Z31 ?_;refine Z126 ?_;refine Z141 ?_;exact K.fin (V.two (V.cellN jA jS) V.tmp) ⟨by simp only [readM, ht6, ht10, hq, if_true, if_false, Bool.false_eq_true]; try rfl, rfl⟩
 have hq : quotM s = false := ht20
 refine Z22 ?_;refine Z0 ?_;refine R.call Tryz.call164 (c164 s hs _) ?_;refine Z86 ?_;refine Z13 ?_;refine R.fin [2, 4, 5] ?_;refine Z10 ?_;refine R.fin [2, 4, 5, 41] ?_;refine Z145 ?_;refine R.fin [2, 4, 5, 41, 42] ?_
 refine W.cond (fun ht42 => ?_) (fun ht42 => ?_)
 ·refine Z0 ?_;refine R.call Tryz.call165 (c165 (numReadM s).1 _) ?_;refine Z126 ?_;refine Z141 ?_;exact K.fin (V.two (V.cellN jA jS) V.tmp) ⟨by simp only [readM, ht6, ht10, hq, ht42, if_true, if_false, Bool.false_eq_true]; try rfl, rfl⟩
 refine Z29 ?_;refine R.fin [2, 5, 46] ?_
 refine W.cond (fun ht46 => ?_) (fun ht46 => ?_)
 ·refine Z65 ?_;refine Z257 ?_;refine Z126 ?_;refine Z141 ?_;exact K.fin (V.two (V.cellN jA jS) V.tmp) ⟨by simp only [readM, ht6, ht10, hq, ht42, ht46, if_true, if_false, Bool.false_eq_true]; rw [show (numReadM s).2 = 4 by simpa using ht46]; rfl, rfl⟩
 refine Z22 ?_;refine Z65 ?_;refine Z126 ?_;refine AW.ret ?_;exact K.fin (V.two (V.cellN jA jS) V.tmp) ⟨by simp only [readM, ht6, ht10, hq, ht42, ht46, if_true, if_false, Bool.false_eq_true]; try rfl, rfl⟩

def blanks : Str := [32, 9, 10]
/-- What stands behind blanks and notes. -/
def skipB : Str → Bool → Str
 | [], _ => []
 | c :: r, false => if blanks.contains c then skipB r false else if c == 35 then skipB r true else c :: r
 | c :: r, true => if c == 10 then skipB r false else skipB r true
def runN (s of : Str) : Nat := s.length - (Lib.trimLeftS s of).length
theorem runM_eq (s of : Str) : runM s of = (runN s of : Int) := by
 have := trim_le s of
 unfold runM runN
 omega
theorem runN_le (s of : Str) : runN s of ≤ s.length := Nat.sub_le _ _
theorem drop_run (s of : Str) : s.drop (runN s of) = Lib.trimLeftS s of := by
 unfold runN Lib.trimLeftS
 have h : ∀ l : Str, l.drop (l.length - (l.dropWhile (of.contains ·)).length) = l.dropWhile (of.contains ·) := by
  intro l
  have e := List.takeWhile_append_dropWhile (p := (of.contains ·)) (l := l)
  have hl : l.length - (l.dropWhile (of.contains ·)).length = (l.takeWhile (of.contains ·)).length := by
   have := congrArg List.length e
   simp only [List.length_append] at this
   omega
  rw [hl]
  conv => lhs; rw [← e]
  rw [List.drop_left']
  rw [e]
 exact h s
theorem take_run (s of : Str) : s.take (runN s of) = s.takeWhile (of.contains ·) := by
 have e := List.takeWhile_append_dropWhile (p := (of.contains ·)) (l := s)
 have hl : runN s of = (s.takeWhile (of.contains ·)).length := by
  unfold runN Lib.trimLeftS
  have := congrArg List.length e
  simp only [List.length_append] at this
  omega
 rw [hl]
 conv => lhs; rw [← e]
 rw [List.take_left']
 rw [e]
theorem skip_trim : ∀ s : Str, skipB (Lib.trimLeftS s blanks) false = skipB s false
 | [] => rfl
 | c :: r => by
  unfold Lib.trimLeftS
  rw [List.dropWhile_cons]
  by_cases h : blanks.contains c = true
  ·rw [if_pos h, skipB, if_pos h]
   exact skip_trim r
  rw [if_neg h]
theorem trim_head (of : Str) : ∀ (s : Str) (c : UInt8) (t : Str), Lib.trimLeftS s of = c :: t → of.contains c = false
 | [], c, t, h => by cases h
 | b :: r, c, t, h => by
  unfold Lib.trimLeftS at h
  rw [List.dropWhile_cons] at h
  split at h
  ·exact trim_head of r c t h
  rename_i hb
  injection h with h1 h2
  subst h1
  simpa using hb
def afterNl : Str → Str
 | [] => []
 | c :: r => if c == 10 then r else afterNl r
theorem cut_nl (s : Str) : (Lib.cut s [10]).2.1 = afterNl s := by
 unfold Lib.cut
 induction s with
 | nil => rfl
 | cons c r ih =>
  have hg := Lib.index_ge r [10]
  rw [afterNl]
  unfold Lib.index
  by_cases hc : c = 10
  ·subst hc
   simp [List.isPrefixOf]
  have h1 : ([10] : Str).isPrefixOf (c :: r) = false := by simp [List.isPrefixOf, Ne.symm hc]
  have h2 : (c == 10) = false := by simpa using hc
  rw [h1, h2]
  simp only [Bool.false_eq_true, if_false]
  by_cases hi : Lib.index r [10] = -1
  ·rw [hi] at ih ⊢
   simpa using ih
  have h3 : (Lib.index r [10] == -1) = false := by simpa using hi
  rw [h3]
  simp only [Bool.false_eq_true, if_false]
  rw [if_pos (by omega)] at ih ⊢
  have e : (Lib.index r [10] + 1).toNat = (Lib.index r [10]).toNat + 1 := by omega
  rw [e]
  rw [← ih]
  show (c :: r).drop _ = _
  rw [show (Lib.index r [10]).toNat + 1 + ([10] : Str).length = ((Lib.index r [10]).toNat + ([10] : Str).length) + 1 by omega, List.drop_succ_cons]
theorem skip_note : ∀ t : Str, skipB t true = skipB (afterNl t) false
 | [] => rfl
 | c :: r => by
  rw [skipB, afterNl]
  split
  ·rfl
  exact skip_note r
theorem afterNl_le : ∀ t : Str, (afterNl t).length ≤ t.length
 | [] => Nat.le_refl _
 | c :: r => by
  rw [afterNl]
  split
  ·simp
  have := afterNl_le r; simp only [List.length_cons]; omega
theorem skip_le : ∀ (s : Str) (b : Bool), (skipB s b).length ≤ s.length
 | [], b => by simp [skipB]
 | c :: r, false => by
  rw [skipB]
  split
  ·have := skip_le r false; simp only [List.length_cons]; omega
  split
  ·have := skip_le r true; simp only [List.length_cons]; omega
  exact Nat.le_refl _
 | c :: r, true => by
  rw [skipB]
  split
  ·have := skip_le r false; simp only [List.length_cons]; omega
  have := skip_le r true; simp only [List.length_cons]; omega
def gapM (s : Str) : Nat := s.length - (skipB s false).length
theorem emp_guard {d : Str} (h : ((d == []) == false) = true) : d ≠ [] := by rintro rfl; simp at h
theorem blanks_ascii : ∀ c ∈ blanks, c.toNat < 128 := by decide
/-- The gap is at its end. -/
theorem gap_end {x s : Str} (hx : skipB x false = skipB s false) (h : ((Lib.trimLeftS x blanks == []) || ((((Lib.trimLeftS x blanks).headD 0).toNat : Int) != 35)) = true) : skipB s false = Lib.trimLeftS x blanks := by
 rw [← hx, ← skip_trim]
 cases ht : Lib.trimLeftS x blanks with
 | nil => rfl
 | cons c t =>
  rw [ht] at h
  have hb := trim_head blanks x c t ht
  have hc : (c == 35) = false := by
   simp at h
   rw [beq_eq_false_iff_ne]
   rintro rfl
   exact h rfl
  rw [skipB, hb, hc]
  rfl
theorem gap_on {x s : Str} (hx : skipB x false = skipB s false) (h : ((Lib.trimLeftS x blanks == []) || ((((Lib.trimLeftS x blanks).headD 0).toNat : Int) != 35)) = false) :
  skipB (Lib.cut (Lib.trimLeftS x blanks) [10]).2.1 false = skipB s false ∧ (Lib.cut (Lib.trimLeftS x blanks) [10]).2.1.length < x.length := by
 have hl := trim_le x blanks
 rw [cut_nl, ← hx, ← skip_trim x]
 cases ht : Lib.trimLeftS x blanks with
 | nil => rw [ht] at h; simp at h
 | cons c t =>
  rw [ht] at h hl
  have hc : c = 35 := by
   simp at h
   exact UInt8.toNat_inj.1 (by have : (35 : UInt8).toNat = 35 := rfl; omega)
  subst hc
  have ha := afterNl_le t
  refine ⟨?_, ?_⟩
  ·rw [afterNl, skipB]
   have e1 : blanks.contains 35 = false := by decide
   rw [e1]
   exact (skip_note t).symm
  rw [afterNl]
  simp only [List.length_cons] at hl
  show (afterNl t).length < _
  omega
theorem c78 (s : Str) (hs : s.length ≤ 1048576) (Hp : List AObj) : AFun Tryz.prog 78 [strA s] Hp (intA (gapM s)) := by
 refine ACall.body [.tmp 2] [0] Tryz.func78 Tryz.ntmps78 (fun d => ?_)
 refine Z209 ?_;refine Z258 ?_;refine R.fin [0, 3] ?_
 refine AW.loopC (α := Str) (fun x => ⟨27, setF 0 (strA s) (setF 3 (strA x) (fun _ => .any)), Hp, [], [], none⟩) (fun x => skipB x false = skipB s false ∧ x.length ≤ s.length) (fun x => x.length) (s) (by simp) (StLe.refl _) rfl (fun x hx => ?_)
 refine AW.block ?_;refine Z252 ?_
 have hx2 := hx.2
 have htl := trim_le x blanks
 refine Z91 ?_;refine R.call Tryz.call66 (c66 x blanks (by omega) (by decide) blanks_ascii _) ?_;refine R.scutL (runN x blanks) jU (runN_le _ _) (Nat.le_refl _) (ha := runM_eq x blanks) ?_
 rw [drop_run]
 refine Z258 ?_;refine R.fin [0, 3] ?_;refine Z10 ?_;refine Z161 ?_;refine G.sindex 0 ((Lib.trimLeftS x blanks).headD 0) jU (fun hB => headD_get (emp_guard hB))  ?_;refine G.neq ?_;refine Z253 ?_;refine R.fin [0, 3, 15] ?_
 refine W.cond (fun ht15 => ?_) (fun ht15 => ?_)
 ·have he := gap_end hx.1 ht15
  refine Z0 ?_;refine R.slen jU ?_;refine Z257 ?_;refine R.slen jU ?_;refine R.sub64 ?_;refine Z9 ?_;refine K.thR ?_;refine K.blR ?_;refine K.lpR ?_;exact K.fin (V.one V.tmp) ⟨by rw [show ((s.length : Int) - (Lib.trimLeftS x blanks).length) = (gapM s : Int) by unfold gapM; rw [he]; omega], rfl⟩
 have he := gap_on hx.1 ht15
 refine Z210 ?_;refine R.call Tryz.call104 (c104 (Lib.trimLeftS x blanks) [10] (by omega) _) ?_;refine Z86 ?_;refine R.extract ?_;refine Z258 ?_;refine R.fin [0, 3] ?_;refine K.blN ?_;exact K.lpN _ ⟨he.1, by omega⟩ he.2 (StCut.of_eq rfl)

def wordOf (s of : Str) : Str := s.take (runN s of)
theorem wordOf_le (s of : Str) : (wordOf s of).length ≤ s.length := by unfold wordOf; simp; omega
def namedM (s : Str) : Int × Str × Int × Int :=
 if lexReservedM (wordOf s tails) then (2, wordOf s tails, (wordOf s tails).length, 0) else if !lexNameM (wordOf s tails) then (0, [], 0, 3) else (1, wordOf s tails, (wordOf s tails).length, 0)
abbrev lexA (r : Int × Str × Int × Int) : AV := .tup [intA r.1, strA r.2.1, intA r.2.2.1, intA r.2.2.2]
theorem tails_ascii : ∀ c ∈ tails, c.toNat < 128 := by decide
theorem letters_ascii : ∀ c ∈ letters, c.toNat < 128 := by decide
theorem c105 (s : Str) (hs : s.length ≤ 1048576) (Hp : List AObj) : AFun Tryz.prog 105 [strA s] Hp (lexA (namedM s)) := by
 refine ACall.body [.tmp 2, .tmp 3, .tmp 4, .tmp 5] [0] Tryz.func105 Tryz.ntmps105 (fun d => ?_)
 refine Z233 ?_;refine Z47 ?_;refine R.call Tryz.call66 (c66 s tails hs (by decide) tails_ascii _) ?_;refine R.scutH (runN s tails) jU (Nat.zero_le _) (runN_le _ _) (hb := runM_eq s tails) ?_;refine Z258 ?_;refine R.fin [6] ?_;refine Z197 ?_
 refine R.call Tryz.call67 (c67 (wordOf s tails) (by have := wordOf_le s tails; omega) _) ?_
 refine Z258 ?_;refine R.fin [6, 11] ?_
 refine W.cond (fun ht11 => ?_) (fun ht11 => ?_)
 ·refine Z252 ?_
  have hwl := wordOf_le s tails
  refine Z91 ?_;refine R.slen jU ?_;refine Z203 ?_;refine Z4 ?_;exact K.fin (V.four V.tmp V.tmp V.tmp V.tmp) ⟨by simp only [namedM, ht11, if_true, if_false, Bool.false_eq_true]; try rfl, rfl⟩
 refine Z0 ?_
 refine R.call Tryz.call36 (c36 (wordOf s tails) (by have := wordOf_le s tails; omega) _) ?_
 refine R.not ?_;refine Z258 ?_;refine R.fin [6, 17] ?_
 refine W.cond (fun ht17 => ?_) (fun ht17 => ?_)
 ·refine Z178 ?_;refine Z77 ?_;refine Z4 ?_;exact Z265
 refine Z22 ?_;refine Z252 ?_
 have hwl := wordOf_le s tails
 refine Z91 ?_;refine R.slen jU ?_;refine Z203 ?_;exact Z265

def numberM (s : Str) : Int × Str × Int × Int := (3, wordOf s digs, (wordOf s digs).length, (readM (wordOf s digs)).2)
theorem c106 (s : Str) (hs : s.length ≤ 1048576) (Hp : List AObj) : AFun Tryz.prog 106 [strA s] Hp (lexA (numberM s)) := by
 refine ACall.body [.tmp 2, .tmp 3, .tmp 4, .tmp 5] [0] Tryz.func106 Tryz.ntmps106 (fun d => ?_)
 refine Z233 ?_;refine Z47 ?_;refine R.call Tryz.call66 (c66 s digs hs (by decide) digs_ascii _) ?_;refine R.scutH (runN s digs) jU (Nat.zero_le _) (runN_le _ _) (hb := runM_eq s digs) ?_;refine Z258 ?_;refine R.fin [6] ?_;refine Z0 ?_
 refine R.call Tryz.call138 (c138 (wordOf s digs) (by have := wordOf_le s digs; omega) _) ?_
 refine Z86 ?_;refine Z20 ?_;refine Z258 ?_;refine R.fin [6, 8] ?_;refine Z47 ?_;refine R.slen jU ?_;refine Z257 ?_;refine Z203 ?_;exact K.fin (V.four V.tmp V.tmp V.tmp V.tmp) ⟨rfl, rfl⟩

/-- Behind a mark: how many bytes up to the one that closes, it too. -/
def closeQ : Str → Option Nat
 | [] => none
 | [c] => if c == 39 then some 1 else none
 | c :: d :: t => if c == 39 then (if d == 39 then (closeQ t).map (· + 2) else some 1) else (closeQ (d :: t)).map (· + 1)
theorem close_other {c : UInt8} (h : ¬ (c == 39) = true) (r : Str) : closeQ (c :: r) = (closeQ r).map (· + 1) := by
 cases r with
 | nil => simp [closeQ, h]
 | cons d t => rw [closeQ, if_neg h]
theorem close_mark (r : Str) : closeQ (39 :: r) = match r with
   | [] => some 1
   | d :: t => if d == 39 then (closeQ t).map (· + 2) else some 1 := by
 cases r with
 | nil => rfl
 | cons d t => rw [closeQ]; simp
def quotedM (s : Str) : Int × Str × Int × Int :=
 match closeQ (s.drop 1) with
 | none => (0, [], 0, 7)
 | some n => if (readM (s.take (n + 1))).2 != 0 then (0, [], 0, 3) else (4, (readM (s.take (n + 1))).1.s, ((n + 1 : Nat) : Int), 0)
theorem close_none : ∀ l : Str, Lib.indexByte l 39 = -1 → closeQ l = none
 | [], _ => by rw [closeQ]
 | c :: r, h => by
  rw [Lib.indexByte] at h
  split at h
  ·omega
  rename_i hc
  rw [close_other hc]
  split at h
  ·rename_i hi
   rw [close_none r (by simpa using hi)]
   rfl
  have := Lib.indexByte_ge r 39; omega
theorem close_at : ∀ (l : Str) (k : Nat), Lib.indexByte l 39 = (k : Int) → k < l.length ∧ closeQ l = (closeQ (l.drop k)).map (· + k) ∧ l[k]? = some 39
 | [], k, h => by rw [Lib.indexByte] at h; omega
 | c :: r, k, h => by
  rw [Lib.indexByte] at h
  split at h
  ·rename_i hc
   have : k = 0 := by omega
   subst this
   refine ⟨by simp, ?_, by simpa using hc⟩
   rw [List.drop_zero]
   cases closeQ (c :: r) <;> simp
  rename_i hc
  split at h
  ·omega
  have hg := Lib.indexByte_ge r 39
  rename_i hi
  have hi' : Lib.indexByte r 39 ≠ -1 := by simpa using hi
  obtain ⟨m, rfl⟩ : ∃ m, k = m + 1 := ⟨k - 1, by omega⟩
  obtain ⟨h1, h2, h3⟩ := close_at r m (by omega)
  refine ⟨by simpa using h1, ?_, by simpa using h3⟩
  rw [close_other hc, List.drop_succ_cons, h2]
  cases closeQ (r.drop m) <;> simp [Nat.add_assoc]
theorem drop_cons_at {s : Str} {n : Nat} {c : UInt8} (h : s[n]? = some c) : s.drop n = c :: s.drop (n + 1) := by
 obtain ⟨hlt, he⟩ := List.getElem?_eq_some_iff.1 h
 rw [List.drop_eq_getElem_cons hlt, he]
theorem getD_at {s : Str} {n : Nat} (h : n < s.length) : s[n]? = some (s.getD n 0) := by
 rw [List.getD_eq_getElem?_getD, List.getElem?_eq_getElem h]; rfl
theorem at_guard {s : Str} {x k : Nat} (h : (decide (((x : Int) + ((k : Int) + 1)) < s.length) == true) = true) : x + (k + 1) < s.length := by
 have := of_decide_eq_true (by simpa using h : decide (((x : Int) + ((k : Int) + 1)) < s.length) = true)
 omega
/-- What a round of the search for the mark that closes comes to. -/
theorem close_step {s : Str} {x k : Nat} (h1 : 1 ≤ x) (hx : closeQ (s.drop 1) = (closeQ (s.drop x)).map (· + (x - 1))) (hk : Lib.indexByte (s.drop x) 39 = (k : Int)) :
  x + (k + 1) ≤ s.length ∧
   ((decide (((x : Int) + ((k : Int) + 1)) < s.length) && (((s.getD (x + (k + 1)) 0).toNat : Int) == 39)) = true → x + (k + 1) + 1 ≤ s.length ∧ closeQ (s.drop 1) = (closeQ (s.drop (x + (k + 1) + 1))).map (· + (x + (k + 1) + 1 - 1))) ∧
   ((decide (((x : Int) + ((k : Int) + 1)) < s.length) && (((s.getD (x + (k + 1)) 0).toNat : Int) == 39)) = false → closeQ (s.drop 1) = some (x + k)) := by
 obtain ⟨g1, g2, g3⟩ := close_at _ k hk
 rw [List.length_drop] at g1
 rw [List.getElem?_drop] at g3
 have e0 : (s.drop x).drop k = 39 :: s.drop (x + (k + 1)) := by rw [List.drop_drop, drop_cons_at g3, Nat.add_assoc]
 rw [e0] at g2
 refine ⟨by omega, fun h => ?_, fun h => ?_⟩
 ·simp only [Bool.and_eq_true, decide_eq_true_eq, beq_iff_eq] at h
  have hlt : x + (k + 1) < s.length := by omega
  have hc : s.getD (x + (k + 1)) 0 = 39 := UInt8.toNat_inj.1 (by have : (39 : UInt8).toNat = 39 := rfl; omega)
  have hd := drop_cons_at (getD_at hlt)
  rw [hc] at hd
  refine ⟨by omega, ?_⟩
  rw [hx, g2, hd, close_mark]
  simp only [beq_self_eq_true, if_true]
  cases closeQ (s.drop (x + (k + 1) + 1)) with
  | none => rfl
  | some m => simp; omega
 rw [hx, g2, close_mark]
 cases hd : s.drop (x + (k + 1)) with
 | nil => simp; omega
 | cons d t =>
  have hlt : x + (k + 1) < s.length := by
   have := congrArg List.length hd
   simp at this; omega
  have hg := drop_cons_at (getD_at hlt)
  rw [hd] at hg
  injection hg with hg1 hg2
  have hne : (d == 39) = false := by
   rw [hg1, beq_eq_false_iff_ne]
   intro e
   rw [e] at h
   simp at h
   omega
  simp [hne]; omega
theorem c107 (s : Str) (h0 : 1 ≤ s.length) (hs : s.length ≤ 1048576) (Hp : List AObj) : AFun Tryz.prog 107 [strA s] Hp (lexA (quotedM s)) := by
 refine ACall.body [.tmp 2, .tmp 3, .tmp 4, .tmp 5] [0] Tryz.func107 Tryz.ntmps107 (fun d => ?_)
 refine Z233 ?_;refine Z2 ?_;refine R.fin [0, 6] ?_
 refine AW.loopC (α := Nat) (fun x => ⟨44, setF 0 (strA s) (setF 6 (intA (x : Nat)) (fun _ => .any)), Hp, [], [], none⟩) (fun x => 1 ≤ x ∧ x ≤ s.length ∧ closeQ (s.drop 1) = (closeQ (s.drop x)).map (· + (x - 1))) (fun x => s.length - x) (1) ⟨Nat.le_refl _, h0, by cases closeQ (s.drop 1) <;> rfl⟩ (StLe.refl _) rfl (fun x hx => ?_)
 refine AW.block ?_;refine Z47 ?_;refine R.scutL x jU hx.2.1 (Nat.le_refl _) ?_;refine R.call Tryz.call139 (c139 (s.drop x) 39 _) ?_;refine Z258 ?_;refine R.fin [0, 6, 7] ?_;refine Z10 ?_;refine R.lss ?_;refine R.fin [0, 6, 7, 15] ?_
 refine W.cond (fun ht15 => ?_) (fun ht15 => ?_)
 ·have hk : Lib.indexByte (s.drop x) 39 = -1 := by have := Lib.indexByte_ge (s.drop x) 39; simp at ht15; omega
  have hcq : closeQ (s.drop 1) = none := by rw [hx.2.2, close_none _ hk]; rfl
  refine Z178 ?_;refine Z223 ?_;refine K.blR ?_;refine K.lpR ?_;exact K.fin (V.four V.tmp V.tmp V.tmp V.tmp) ⟨by simp only [quotedM, hcq], rfl⟩
 obtain ⟨k0, hk⟩ := Int.eq_ofNat_of_zero_le (show 0 ≤ Lib.indexByte (s.drop x) 39 by simp at ht15; omega)
 rw [hk]
 refine Z3 ?_;refine Z252 ?_
 have hst := close_step hx.1 hx.2.2 hk
 refine Z91 ?_;refine R.add64 ?_;refine Z33 ?_;refine R.fin [0, 6] ?_;refine Z120 ?_;refine R.slen jU ?_;refine R.lss ?_;refine Z134 ?_;refine G.sindex (x + (k0 + 1)) (s.getD (x + (k0 + 1)) 0) jU (fun hB => getD_at (at_guard hB))  ?_;refine Z42 ?_;refine R.fin [0, 6, 29] ?_
 refine W.cond (fun ht29 => ?_) (fun ht29 => ?_)
 ·have hon := hst.2.1 ht29
  refine Z0 ?_;refine Z33 ?_;refine R.fin [0, 6] ?_;refine Z52 ?_;refine K.blE ?_;exact K.lpN ((x + (k0 + 1)) + 1) ⟨by omega, hon.1, hon.2⟩ (by omega) (StCut.of_eq rfl)
 have hcq := hst.2.2 ht29
 refine Z3 ?_;refine Z47 ?_;refine R.scutH (x + (k0 + 1)) jU (Nat.zero_le _) hst.1 ?_
 refine R.call Tryz.call138 (c138 (s.take (x + (k0 + 1))) (by simp; omega) _) ?_
 refine Z86 ?_;refine Z20 ?_;refine Z258 ?_;refine R.fin [6, 8, 9] ?_;refine Z10 ?_;refine R.neq ?_;refine R.fin [6, 8, 40] ?_
 refine W.cond (fun ht40 => ?_) (fun ht40 => ?_)
 ·refine Z178 ?_;refine Z223 ?_;refine K.blR ?_;refine K.lpR ?_;exact K.fin (V.four V.tmp V.tmp V.tmp V.tmp) ⟨by simp only [quotedM, hcq, show x + k0 + 1 = x + (k0 + 1) by omega]; rw [if_pos ht40], rfl⟩
 refine Z3 ?_;refine W.draw [0, 1, 0, 0, 11, 31, 63] 5 Tryzmixed (by kernel_rfl) ?_;refine D.fieldAddrPtr (fo := 2) jU Tryz.sizeOf9 ?_;refine D.loadOwn jA ?_;refine D.move ?_;refine D.assign ?_;refine D.assign ?_;refine D.tail ?_;refine Z13 ?_;refine Z77 ?_;refine K.blR ?_;refine K.lpR ?_;exact K.fin (V.four V.tmp V.tmp V.tmp V.tmp) ⟨by simp only [quotedM, hcq, show x + k0 + 1 = x + (k0 + 1) by omega]; rw [if_neg (by rw [ht40]; simp)]; rfl, rfl⟩

def doubles : Str := [60, 61, 32, 62, 61, 32, 33, 61]
def singles : Str := [40, 41, 44, 59, 61, 60, 62, 43, 45, 42, 47, 37, 38, 58]
def signM (s : Str) : Int × Str × Int × Int :=
 if (decide ((1 : Int) < s.length) && Lib.contains doubles (s.take 2)) && (((s.getD 1 0).toNat : Int) == 61) then (5, s.take 2, 2, 0)
 else if Lib.contains singles (s.take 1) then (5, s.take 1, 1, 0) else (0, [], 0, 7)
theorem two_guard {s : Str} {b c : Bool} (h : (((decide ((1 : Int) < s.length) && b) && c) == true) = true) : 1 < s.length := by
 revert h
 cases hd : decide ((1 : Int) < s.length) with
 | true => intro _; have := of_decide_eq_true hd; omega
 | false => intro h; simp at h
theorem two_guard' {s : Str} {b : Bool} (h : ((decide ((1 : Int) < s.length) && b) == true) = true) : 1 < s.length := two_guard (c := true) (by rw [Bool.and_true]; exact h)
theorem two_guard0 {s : Str} (h : (decide ((1 : Int) < s.length) == true) = true) : 2 ≤ s.length := two_guard' (b := true) (by rw [Bool.and_true]; exact h)
theorem c108 (s : Str) (h0 : 1 ≤ s.length) (Hp : List AObj) : AFun Tryz.prog 108 [strA s] Hp (lexA (signM s)) := by
 refine ACall.body [.tmp 2, .tmp 3, .tmp 4, .tmp 5] [0] Tryz.func108 Tryz.ntmps108 (fun d => ?_)
 refine Z233 ?_;refine Z10 ?_;refine Z177 ?_;refine Z18 ?_;refine G.scutH 2 jU (fun _ => Nat.zero_le _) (fun hB => two_guard0 hB) ?_;refine G.call Tryz.call96 (fun hB => c96 doubles (s.take 2) (by decide) _) ?_;refine Z236 ?_;refine G.sindex 1 (s.getD 1 0) jU (fun hB => getD_at (two_guard' hB))  ?_;refine Z42 ?_;refine R.fin [0, 18] ?_
 refine W.cond (fun ht18 => ?_) (fun ht18 => ?_)
 ·have h2 : 2 ≤ s.length := by revert ht18; cases hd : decide ((1 : Int) < s.length) with
   | true => intro _; have := of_decide_eq_true hd; omega
   | false => intro h; simp at h
  refine W.draw [0, 1, 0, 7, 15, 31] 3 Tryzmixed (by kernel_rfl) ?_;refine D.move ?_;refine D.scutH 2 jU (Nat.zero_le _) h2 ?_;refine D.assign ?_;refine D.tail ?_;refine Z88 ?_;refine Z223 ?_;exact K.fin (V.four V.tmp V.tmp V.tmp V.tmp) ⟨by simp only [signM, ht18, if_true, if_false, Bool.false_eq_true]; try rfl, rfl⟩
 refine Z3 ?_;refine Z10 ?_;refine R.scutH 1 jU (Nat.zero_le _) h0 ?_;refine R.call Tryz.call96 (c96 singles (s.take 1) (by decide) _) ?_;refine R.fin [0, 23] ?_
 refine W.cond (fun ht23 => ?_) (fun ht23 => ?_)
 ·refine W.draw [0, 1, 0, 7, 15, 31] 3 Tryzmixed (by kernel_rfl) ?_;refine D.move ?_;refine D.scutH 1 jU (Nat.zero_le _) h0 ?_;refine D.assign ?_;refine D.tail ?_;refine Z88 ?_;refine Z223 ?_;exact Z266
 refine Z3 ?_;refine Z178 ?_;refine Z77 ?_;exact Z266

def wordM (s : Str) : Int × Str × Int × Int :=
 if decide (0 < runM (s.take 1) letters) then namedM s else if decide (0 < runM (s.take 1) digs) then numberM s else if ((s.getD 0 0).toNat : Int) == 39 then quotedM s else signM s
theorem c79 (s : Str) (h0 : 1 ≤ s.length) (hs : s.length ≤ 1048576) (Hp : List AObj) : AFun Tryz.prog 79 [strA s] Hp (lexA (wordM s)) := by
 refine ACall.body [.tmp 2, .tmp 3, .tmp 4, .tmp 5] [0] Tryz.func79 Tryz.ntmps79 (fun d => ?_)
 refine Z233 ?_;refine Z197 ?_;refine R.scutH 1 jU (Nat.zero_le _) h0 ?_
 refine R.call Tryz.call66 (c66 (s.take 1) letters (by simp; omega) (by decide) letters_ascii _) ?_
 refine Z230 ?_;refine R.fin [0, 6] ?_
 refine W.cond (fun ht6 => ?_) (fun ht6 => ?_)
 ·refine Z0 ?_;refine R.call Tryz.call105 (c105 s hs _) ?_;refine Z31 ?_;refine Z31 ?_;refine Z203 ?_;refine Z4 ?_;exact K.fin (V.four V.tmp V.tmp V.tmp V.tmp) ⟨by simp only [wordM, ht6, if_true, if_false, Bool.false_eq_true], rfl⟩
 refine Z0 ?_;refine R.scutH 1 jU (Nat.zero_le _) h0 ?_
 refine R.call Tryz.call66 (c66 (s.take 1) digs (by simp; omega) (by decide) digs_ascii _) ?_
 refine Z230 ?_;refine R.fin [0, 17] ?_
 refine W.cond (fun ht17 => ?_) (fun ht17 => ?_)
 ·refine Z0 ?_;refine R.call Tryz.call106 (c106 s hs _) ?_;refine Z31 ?_;refine Z31 ?_;refine Z203 ?_;refine Z4 ?_;exact K.fin (V.four V.tmp V.tmp V.tmp V.tmp) ⟨by simp only [wordM, ht6, ht17, if_true, if_false, Bool.false_eq_true], rfl⟩
 refine Z0 ?_;refine R.sindex 0 (s.getD 0 0) jU (getD_at h0)  ?_;refine Z14 ?_;refine R.fin [0, 28] ?_
 refine W.cond (fun ht28 => ?_) (fun ht28 => ?_)
 ·refine Z0 ?_;refine R.call Tryz.call107 (c107 s h0 hs _) ?_;refine Z31 ?_;refine Z31 ?_;refine Z203 ?_;refine Z4 ?_;exact Z267
 refine Z22 ?_;refine Z0 ?_;refine R.call Tryz.call108 (c108 s h0 _) ?_;refine Z31 ?_;refine Z31 ?_;refine Z203 ?_;exact Z267

structure Tok where
 kind : Int
 text : Str
 at_ : Nat
 deriving DecidableEq
abbrev tokA (t : Tok) : AV := .agg [.v (.int .i64 t.kind), .v (sv t.text), .v (.int .i64 (t.at_ : Int))]
abbrev toksA (l : List Tok) : AV := .slice false 3 (l.map tokA)
theorem run_pos {c : UInt8} {of : Str} (h : decide (0 < runM ([c] : Str) of) = true) : of.contains c = true := by
 have := of_decide_eq_true h
 unfold runM Lib.trimLeftS at this
 rw [List.dropWhile_cons] at this
 cases hc : of.contains c with
 | true => rfl
 | false => rw [hc] at this; simp at this
theorem wordOf_pos {c : UInt8} {r of : Str} (h : of.contains c = true) : 1 ≤ (wordOf (c :: r) of).length := by
 unfold wordOf
 rw [take_run, List.takeWhile_cons, h]
 simp
theorem letters_tails : ∀ c : UInt8, letters.contains c = true → tails.contains c = true := by
 have h : ((List.range 256).all fun n => !letters.contains (UInt8.ofNat n) || tails.contains (UInt8.ofNat n)) = true := by kernel_rfl
 intro c hc
 have := List.all_eq_true.1 h c.toNat (List.mem_range.2 c.toNat_lt)
 rw [show UInt8.ofNat c.toNat = c by simp, hc] at this
 simpa using this
theorem close_bd : ∀ (l : Str) (n : Nat), closeQ l = some n → 1 ≤ n ∧ n ≤ l.length
 | [], n, h => by cases h
 | [c], n, h => by
  rw [closeQ] at h
  split at h
  ·injection h with h; subst h; simp
  cases h
 | c :: d :: t, n, h => by
  rw [closeQ] at h
  split at h
  ·split at h
   ·rw [Option.map_eq_some_iff] at h
    obtain ⟨m, hm, rfl⟩ := h
    have := close_bd t m hm
    simp only [List.length_cons]; omega
   injection h with h; subst h; simp
  rw [Option.map_eq_some_iff] at h
  obtain ⟨m, hm, rfl⟩ := h
  have := close_bd (d :: t) m hm
  simp only [List.length_cons] at this ⊢; omega
theorem word_ok {s : Str} (h0 : 1 ≤ s.length) (h : (wordM s).2.2.2 = 0) : ∃ n : Nat, (wordM s).2.2.1 = (n : Int) ∧ 1 ≤ n ∧ n ≤ s.length := by
 cases s with
 | nil => simp at h0
 | cons c r =>
  unfold wordM at h ⊢
  split at h
  ·rename_i h1
   rw [if_pos h1]
   have hc := letters_tails c (run_pos h1)
   have hw := wordOf_pos (r := r) hc
   have hl := wordOf_le (c :: r) tails
   unfold namedM at h ⊢
   split at h
   ·rename_i h2; rw [if_pos h2]; exact ⟨_, rfl, hw, hl⟩
   rename_i h2
   rw [if_neg h2]
   split at h
   ·exact Z268
   rename_i h3; rw [if_neg h3]; exact ⟨_, rfl, hw, hl⟩
  rename_i h1
  rw [if_neg h1]
  split at h
  ·rename_i h2
   rw [if_pos h2]
   exact ⟨_, rfl, wordOf_pos (r := r) (run_pos h2), wordOf_le _ _⟩
  rename_i h2
  rw [if_neg h2]
  split at h
  ·rename_i h3
   rw [if_pos h3]
   unfold quotedM at h ⊢
   split at h
   ·exact Z268
   rename_i n hn
   split at h
   ·exact Z268
   rename_i h4
   simp only [if_neg h4]
   have := close_bd _ n hn
   simp at this
   exact ⟨n + 1, rfl, by omega, by simp only [List.length_cons]; omega⟩
  rename_i h3
  rw [if_neg h3]
  unfold signM at h ⊢
  split at h
  ·rename_i h4
   rw [if_pos h4]
   refine ⟨2, rfl, by omega, ?_⟩
   simp only [Bool.and_eq_true, decide_eq_true_eq] at h4
   have := h4.1.1
   omega
  rename_i h4
  rw [if_neg h4]
  split at h
  ·rename_i h5; rw [if_pos h5]; exact ⟨1, rfl, by omega, h0⟩
  exact Z268
/-- The words from a place on, up to one that is wrong. -/
def itemsF : Nat → Nat → Str → List (Tok × Int)
 | 0, _, _ => []
 | f + 1, k, s => if s == [] then [] else
  (⟨(wordM s).1, (wordM s).2.1, k⟩, (wordM s).2.2.2) :: (if (wordM s).2.2.2 == 0 then itemsF f (k + (wordM s).2.2.1.toNat + gapM (s.drop (wordM s).2.2.1.toNat)) ((s.drop (wordM s).2.2.1.toNat).drop (gapM (s.drop (wordM s).2.2.1.toNat))) else [])
def itemsT (s : Str) : List (Tok × Int) := itemsF (s.length + 1) (gapM s) (s.drop (gapM s))
theorem gap_le (s : Str) : gapM s ≤ s.length := Nat.sub_le _ _
def wAt (s : Str) (k : Nat) : Int × Str × Int × Int := wordM (s.drop k)
theorem itemsF_cons {f k : Nat} {s : Str} (h : s ≠ []) : itemsF (f + 1) k s = (⟨(wordM s).1, (wordM s).2.1, k⟩, (wordM s).2.2.2) :: (if (wordM s).2.2.2 == 0 then itemsF f (k + (wordM s).2.2.1.toNat + gapM (s.drop (wordM s).2.2.1.toNat)) ((s.drop (wordM s).2.2.1.toNat).drop (gapM (s.drop (wordM s).2.2.1.toNat))) else []) := by
 rw [itemsF, if_neg (by simpa using h)]
/-- Where the reader is, with k words behind it. -/
def LexAt (s : Str) (k p : Nat) : Prop := (∃ f, (s.drop p).length < f ∧ (itemsT s).drop k = itemsF f p (s.drop p)) ∧ p ≤ s.length ∧ ∀ j, j < k → ∃ it, (itemsT s)[j]? = some it ∧ it.2 = 0
theorem lexAt_zero (s : Str) : LexAt s 0 (gapM s) := ⟨⟨s.length + 1, by rw [List.length_drop]; omega, by rw [List.drop_zero]; rfl⟩, gap_le s, fun j hj => by omega⟩
theorem lexAt_len {s : Str} {k p : Nat} (h : LexAt s k p) : k ≤ (itemsT s).length := by
 refine Classical.byContradiction fun hn => ?_
 obtain ⟨it, hit, _⟩ := h.2.2 (itemsT s).length (by omega)
 rw [List.getElem?_eq_none (Nat.le_refl _)] at hit
 cases hit
theorem lexAt_end {s : Str} {k p : Nat} (h : LexAt s k p) (hp : s.length ≤ p) : k = (itemsT s).length ∧ ∀ it ∈ itemsT s, it.2 = 0 := by
 have hl := lexAt_len h
 obtain ⟨⟨f, _, hd⟩, _, h0⟩ := h
 have e : s.drop p = [] := by rw [List.drop_eq_nil_iff]; exact hp
 rw [e] at hd
 have : (itemsT s).drop k = [] := by rw [hd]; cases f <;> rfl
 rw [List.drop_eq_nil_iff] at this
 have hk : k = (itemsT s).length := by omega
 refine ⟨hk, fun it hit => ?_⟩
 obtain ⟨j, hj, rfl⟩ := List.mem_iff_getElem.1 hit
 obtain ⟨it', h1, h2⟩ := h0 j (by omega)
 rw [List.getElem?_eq_getElem hj] at h1
 injection h1 with h1
 rw [h1]; exact h2
theorem lexAt_cons {s : Str} {k p : Nat} (h : LexAt s k p) (hp : p < s.length) : ∃ f, (s.drop p).length < f + 1 ∧ (itemsT s).drop k = itemsF (f + 1) p (s.drop p) ∧ s.drop p ≠ [] := by
 obtain ⟨⟨f, hf, hd⟩, _, _⟩ := h
 obtain ⟨g, rfl⟩ : ∃ g, f = g + 1 := ⟨f - 1, by omega⟩
 exact ⟨g, hf, hd, fun e => by rw [List.drop_eq_nil_iff] at e; omega⟩
theorem lexAt_item {s : Str} {k p : Nat} (h : LexAt s k p) (hp : p < s.length) : (itemsT s)[k]? = some (⟨(wAt s p).1, (wAt s p).2.1, p⟩, (wAt s p).2.2.2) := by
 obtain ⟨f, _, hd, hne⟩ := lexAt_cons h hp
 rw [itemsF_cons hne] at hd
 have := congrArg (·[0]?) hd
 unfold wAt
 simpa using this
theorem lexAt_next {s : Str} {k p : Nat} (h : LexAt s k p) (hp : p < s.length) (he : (wAt s p).2.2.2 = 0) : ∃ n : Nat, (wAt s p).2.2.1 = (n : Int) ∧ 1 ≤ n ∧ p + n ≤ s.length ∧ LexAt s (k + 1) (p + n + gapM (s.drop (p + n))) := by
 have hi := lexAt_item h hp
 obtain ⟨f, hf, hd, hne⟩ := lexAt_cons h hp
 obtain ⟨n, hn, h1, h2⟩ := word_ok (s := s.drop p) (by rw [List.length_drop]; omega) he
 rw [List.length_drop] at h2 hf
 have hg := gap_le (s.drop (p + n))
 rw [List.length_drop] at hg
 refine ⟨n, hn, h1, by omega, ⟨f, by rw [List.length_drop]; omega, ?_⟩, by omega, fun j hj => ?_⟩
 ·rw [itemsF_cons hne] at hd
  have := congrArg (·.drop 1) hd
  simp only [List.drop_drop, List.drop_succ_cons, List.drop_zero] at this
  unfold wAt at he
  rw [this, hn, he]
  simp only [beq_self_eq_true, if_true, Int.toNat_natCast, List.drop_drop]
 rcases Nat.lt_or_ge j k with h' | h'
 ·exact h.2.2 j h'
 have : j = k := by omega
 subst this
 exact ⟨_, hi, he⟩
theorem c77 (l : Nat) (s : Str) (hs : s.length ≤ 1048576) (U F : Nat → List AObj) (hlen : ∀ k, (U k).length = (U 0).length) (hll : l < (U 0).length)
  (hy : ∀ k it, (itemsT s)[k]? = some it → AYield Tryz.prog l [tokA it.1, intA it.2] (U k) (fun b H' => if it.2 = 0 then b = true ∧ H' = U (k + 1) else b = false ∧ H' = F k)) : ACall Tryz.prog 77 [.yield l, .ro [strA s]] (U 0) (fun r H' => ((∀ it ∈ itemsT s, it.2 = 0) ∧ H' = U (itemsT s).length) ∨ ∃ k it, (itemsT s)[k]? = some it ∧ it.2 ≠ 0 ∧ (∀ j, j < k → ∃ it', (itemsT s)[j]? = some it' ∧ it'.2 = 0) ∧ H' = F k) := by
 refine ACall.body [] [0, 1] Tryz.func77 Tryz.ntmps77 (fun d => ?_)
 refine Z138 ?_;refine R.call Tryz.call78 (c78 s hs _) ?_;refine Z258 ?_;refine R.fin [0, 1, 3] ?_
 refine AW.loopC (α := Nat × Nat) (fun x => ⟨44, setF 0 (.yield l) (setF 1 (.ro [strA s]) (setF 3 (intA (x.2 : Nat)) (fun _ => .any))), U x.1, [], [], none⟩) (fun x => LexAt s x.1 x.2) (fun x => s.length - x.2) (0, gapM s) (lexAt_zero s) (StLe.refl _) rfl (fun x hx => ?_)
 obtain ⟨k, p⟩ := x
 simp only at hx ⊢
 refine Z10 ?_;refine Z259 ?_;refine R.slen jU ?_;refine R.lss ?_;refine R.fin [0, 1, 3, 13] ?_
 refine W.cond (fun ht13 => ?_) (fun ht13 => ?_)
 ·have hpl : p < s.length := by simpa using ht13
  refine Z90 ?_;refine Z138 ?_;refine Z257 ?_;refine R.scutL p jU hx.2.1 (Nat.le_refl _) ?_
  refine R.call Tryz.call79 (c79 (s.drop p) (by rw [List.length_drop]; omega) (by rw [List.length_drop]; omega) _) ?_
  refine Z86 ?_;refine Z31 ?_;refine Z185 ?_;refine R.fin [0, 1, 3, 4, 5, 6, 7] ?_;refine Z10 ?_;refine Z91 ?_;refine Z257 ?_;refine Z256 ?_;refine Z257 ?_;refine R.yield0 (hy k _ (lexAt_item hx hpl)) ?_
  intro b V hV hb
  refine R.not ?_;refine Z18 ?_;refine G.neq ?_;refine Z253 ?_;refine R.fin [0, 1, 3, 6, 40] ?_
  refine W.cond (fun ht40 => ?_) (fun ht40 => ?_)
  ·have hbe : (wordM (s.drop p)).2.2.2 ≠ 0 ∧ V = F k := by
    split at hb
    ·rename_i h0
     obtain ⟨rfl, _⟩ := hb
     have h0' : (wordM (s.drop p)).2.2.2 = 0 := h0
     simp [h0'] at ht40
    rename_i h0
    exact ⟨h0, hb.2⟩
   refine Z23 ?_;refine Z4 ?_;refine K.lpR ?_;exact K.fin .nores (hp := .inr ⟨k, _, lexAt_item hx hpl, hbe.1, hx.2.2, hbe.2⟩)
  have hbe : (wordM (s.drop p)).2.2.2 = 0 ∧ V = U (k + 1) := by
   split at hb
   ·rename_i h0
    exact ⟨h0, hb.2⟩
   obtain ⟨rfl, _⟩ := hb
   simp at ht40
  obtain ⟨n, hn, hn1, hnl, hnx⟩ := lexAt_next hx hpl hbe.1
  unfold wAt at hn
  rw [hn]
  have hgl := gap_le (s.drop (p + n))
  rw [List.length_drop] at hgl
  refine Z210 ?_;refine Z257 ?_;refine Z33 ?_;refine R.fin [0, 1, 3] ?_;refine Z11 ?_;refine Z6 ?_;refine Z238 ?_;refine R.scutL (p + n) jU hnl (Nat.le_refl _) ?_
  refine R.call Tryz.call78 (c78 (s.drop (p + n)) (by rw [List.length_drop]; omega) _) ?_
  refine Z33 ?_;refine R.fin [0, 1, 3] ?_;exact K.lpN (k + 1, p + n + gapM (s.drop (p + n))) hnx (by show s.length - _ < s.length - p; omega) (StCut.of_eq (by rw [hbe.2]; simp))
 have hpl : s.length ≤ p := by simpa using ht13
 obtain ⟨hk, hz⟩ := lexAt_end hx hpl
 refine Z52 ?_;refine K.lpE ?_;exact K.finN .nores (hp := .inl ⟨hz, by rw [hk]⟩)

theorem c46 (s : Str) (Hp : List AObj) : AFun Tryz.prog 46 [strA s] Hp (.fn (.func 77) [] [.ro [strA s]]) := by
 refine ACall.body [.tmp 2] [0] Tryz.func46 Tryz.ntmps46 (fun d => ?_)
 refine Z181 ?_;refine R.makeFunc ?_;exact Z66

def lexM (s : Str) : List Tok × Int × Nat := if 4000 < s.length then ([], 3, 0) else
 match (itemsT s).find? (fun it => it.2 != 0) with
 | some it => ([], it.2, it.1.at_)
 | none => ((itemsT s).map (·.1) ++ [⟨0, [], s.length⟩], 0, 0)
theorem lex_err {s : Str} {k : Nat} {it : Tok × Int} (hit : (itemsT s)[k]? = some it) (he : it.2 ≠ 0) (h0 : ∀ j, j < k → ∃ it', (itemsT s)[j]? = some it' ∧ it'.2 = 0) : (itemsT s).find? (fun it => it.2 != 0) = some it := by
 rw [List.find?_eq_some_iff_getElem]
 obtain ⟨hk, e⟩ := List.getElem?_eq_some_iff.1 hit
 refine ⟨by simpa using he, k, hk, e, fun j hj => ?_⟩
 obtain ⟨it', h1, h2⟩ := h0 j hj
 rw [List.getElem?_eq_getElem (by omega)] at h1
 injection h1 with h1
 rw [h1, h2]; rfl
theorem lex_none {s : Str} (h : ∀ it ∈ itemsT s, it.2 = 0) : (itemsT s).find? (fun it => it.2 != 0) = none := by
 rw [List.find?_eq_none]
 intro it hit
 simp [h it hit]
def errAt (s : Str) (k : Nat) : Int × Nat := match (itemsT s)[k]? with | some it => (it.2, it.1.at_) | none => (0, 0)
theorem itemsF_len : ∀ (f k : Nat) (s : Str), (itemsF f k s).length ≤ f
 | 0, _, _ => Nat.zero_le _
 | f + 1, k, s => by
  rw [itemsF]
  split
  ·exact Nat.zero_le _
  rw [List.length_cons]
  split
  ·have := itemsF_len f (k + (wordM s).2.2.1.toNat + gapM (s.drop (wordM s).2.2.1.toNat)) ((s.drop (wordM s).2.2.1.toNat).drop (gapM (s.drop (wordM s).2.2.1.toNat)))
   omega
  simp
theorem itemsT_len (s : Str) : (itemsT s).length ≤ s.length + 1 := itemsF_len _ _ _
def toksK (s : Str) (k : Nat) : List Tok := ((itemsT s).take k).map (·.1)
theorem toksK_len (s : Str) (k : Nat) : (toksK s k).length ≤ s.length + 1 := by
 have := itemsT_len s
 unfold toksK
 rw [List.length_map, List.length_take]
 omega
theorem toksK_succ {s : Str} {k : Nat} {it : Tok × Int} (hit : (itemsT s)[k]? = some it) : toksK s (k + 1) = toksK s k ++ [it.1] := by
 unfold toksK
 rw [List.take_succ, hit, List.map_append]
 rfl
theorem toksK_all (s : Str) : toksK s (itemsT s).length = (itemsT s).map (·.1) := by unfold toksK; rw [List.take_length]
theorem lex_ofErr {s : Str} {k : Nat} {it : Tok × Int} (hl4 : ¬ 4000 < s.length) (hit : (itemsT s)[k]? = some it) (he : it.2 ≠ 0) (h0 : ∀ j, j < k → ∃ it', (itemsT s)[j]? = some it' ∧ it'.2 = 0) : lexM s = ([], it.2, it.1.at_) := by
 unfold lexM
 rw [if_neg hl4, lex_err hit he h0]
theorem lex_ofOk {s : Str} (hl4 : ¬ 4000 < s.length) (hz : ∀ it ∈ itemsT s, it.2 = 0) : lexM s = (toksK s (itemsT s).length ++ [⟨0, [], s.length⟩], 0, 0) := by
 unfold lexM
 rw [if_neg hl4, lex_none hz, toksK_all]
theorem gsn {U : List AObj} {i j : Nat} {x y : AObj} (h : U[i]? = some x) (hne : j ≠ i) : (U.set j y)[i]? = some x := by rw [List.getElem?_set_ne hne]; exact h
theorem c15 (s : Str) (hs : s.length ≤ 1048576) (Hp : List AObj) : AFun Tryz.prog 15 [strA s] Hp (.tup [toksA (lexM s).1, .agg [intA (lexM s).2.1, intA (lexM s).2.2]]) := by
 refine ACall.body [.cell 2 42, .cell 3 33] [0, 5, 6] Tryz.func15 Tryz.ntmps15 (fun d => ?_)
 refine Z35 ?_;refine R.alloc jZ ?_;refine R.fin [0, 2, 3, 5, 6] ?_;refine Z10 ?_;refine Z177 ?_;refine R.fin [0, 2, 3, 5, 6, 9] ?_
 refine W.cond (fun ht9 => ?_) (fun ht9 => ?_)
 ·have hlm : lexM s = ([], 3, 0) := by unfold lexM; rw [if_pos (by simp at ht9; omega)]
  refine Z252 ?_;refine Z135 ?_;refine R.nilOwn 0 3 ?_;refine Z69 ?_;refine Z23 ?_;exact K.fin (V.two (V.cell jA) (V.cellN jA jS)) ⟨by rw [hlm]; rfl, rfl⟩
 have hl4 : ¬ 4000 < s.length := by simp at ht9; omega
 refine Z3 ?_;refine Z35 ?_;refine R.fin [0, 2, 3, 4, 5, 6] ?_;refine Z16 ?_;refine R.nilOwn 2 3 ?_;refine Z257 ?_;refine R.call Tryz.call46 (c46 s _) ?_;refine R.fin [0, 2, 3, 4, 5, 6, 12] ?_;refine AW.block ?_
 refine W.rangeV (m := 3) Tryz.call77 (fun FR as' bd' hFR has hbd => ?_)
 refine ⟨_, c77 (oid Hp.length 4) s hs (fun k => Hp ++ [AObj.cells 42 [AV.nil], AObj.cells 33 [intA 0, intA 0], AObj.cells 42 [AV.slice true 3 ((toksK s k).map tokA)], AObj.defs, AObj.loop LoopState.ready none FR 32 #[13, 14] as' bd' (oid Hp.length 3)]) (fun k => Hp ++ [AObj.cells 42 [AV.nil], AObj.cells 33 [intA (errAt s k).1, intA (errAt s k).2], AObj.cells 42 [AV.slice true 3 ((toksK s k).map tokA)], AObj.defs, AObj.loop LoopState.done (some Code.ret) FR 32 #[13, 14] as' bd' (oid Hp.length 3)]) (fun k => by simp) (by simp [oid]) (fun k it hit => ?_), ?_⟩
 ·generalize hV : Hp ++ [AObj.cells 42 [AV.nil], AObj.cells 33 [intA 0, intA 0], AObj.cells 42 [AV.slice true 3 ((toksK s k).map tokA)], AObj.defs, AObj.loop LoopState.ready none FR 32 #[13, 14] as' bd' (oid Hp.length 3)] = V
  have hL : V[oid Hp.length 4]? = some (AObj.loop LoopState.ready none FR 32 #[13, 14] as' bd' (oid Hp.length 3)) := by rw [← hV, get_oid]; rfl
  have hA0 : V[oid Hp.length 2]? = some (AObj.cells 42 [AV.slice true 3 ((toksK s k).map tokA)]) := by rw [← hV, get_oid]; rfl
  have hB0 : V[oid Hp.length 0]? = some (AObj.cells 42 [AV.nil]) := by rw [← hV, get_oid]; rfl
  have hC0 : V[oid Hp.length 1]? = some (AObj.cells 33 [intA 0, intA 0]) := by rw [← hV, get_oid]; rfl
  refine AYield.ofRound (pd := none) (fr := FR) (sz := 32) (ps := #[13, 14]) (df := oid Hp.length 3) (asg := as') (bd := bd') hL rfl (by decide) (fun d => ?_)
  subst hFR has hbd
  refine W.keep [2, 3, 4, 13, 14] ?_;refine Z252 ?_;refine Z20 ?_;refine R.fin [2, 3, 4, 5, 14] ?_;refine Z261 ?_;refine Z258 ?_;refine R.fin [2, 3, 4, 5, 6] ?_
  refine ⟨rfl, none, hL, ?_⟩
  generalize hbz : (AObj.loop LoopState.busy _ _ _ _ _ _ _) = bz
  have hA : (V.set (oid Hp.length 4) bz)[oid Hp.length 2]? = some (AObj.cells 42 [AV.slice true 3 ((toksK s k).map tokA)]) := by rw [List.getElem?_set_ne (oid_ne (by decide))]; exact hA0
  have hB : (V.set (oid Hp.length 4) bz)[oid Hp.length 0]? = some (AObj.cells 42 [AV.nil]) := by rw [List.getElem?_set_ne (oid_ne (by decide))]; exact hB0
  have hC : (V.set (oid Hp.length 4) bz)[oid Hp.length 1]? = some (AObj.cells 33 [intA 0, intA 0]) := by rw [List.getElem?_set_ne (oid_ne (by decide))]; exact hC0
  refine AW.block ?_;refine Z10 ?_;refine R.neq ?_;refine R.fin [2, 3, 4, 5, 6, 16] ?_
  refine W.cond (fun ht16 => ?_) (fun ht16 => ?_)
  ·have hne : it.2 ≠ 0 := by simpa using ht16
   apply W.drawXU [0, 0, 2, 7, 0, 31] 4 0 32 (.any) ((V.set (oid Hp.length 4) bz).set (oid Hp.length 0) (AObj.cells 42 [AV.nil])) Tryzmixed
   case hok => kernel_rfl
   case h1 =>
    intro b
    refine D.move ?_;refine D.fieldAddrPtr (fo := 2) jU Tryz.sizeOf3 ?_
    have hbl : (bif b then (V.set (oid Hp.length 4) bz).set (oid Hp.length 0) (AObj.cells 42 [AV.nil]) else V.set (oid Hp.length 4) bz).length = V.length := by cases b <;> simp
    refine D.loadOwn (n := 0) jA (hx := by rw [hbl]; simp only [go_sem, ↓reduceIte, Nat.reduceEqDiff, Nat.reduceAdd] <;> rfl) ?_
    exact Z169
   case h2 =>
    intro b
    exact Z269
   case hE =>
    intro f hf
    exact X.storeUp (o := oid Hp.length 0) (off := 0) (y := .nil) (ys := [.nil]) Tryz.sizeOf42 (by show (f 2).strip = _; rw [hf 2 (by rfl)]; rfl) rfl hB rfl rfl rfl (by decide) rfl (by simp)
   case hx => kernel_rfl
   case hlen => simp
   refine R.storeUp jS (gsn (j := oid Hp.length 0) hC (oid_ne (by decide))) ?_ ?_
   ·simp
   refine R.fin [] ?_;refine Z23 ?_;refine K.blR ?_
   subst hbz
   refine K.rdR (keep2 hL (oid_ne (by decide)) (oid_ne (by decide))) ?_
   rw [if_neg hne]
   refine ⟨rfl, ?_⟩
   subst hV
   simp only [set_oid, List.set_cons_succ, List.set_cons_zero]
   rw [show errAt s k = (it.2, it.1.at_) by unfold errAt; rw [hit]]
  have heq : it.2 = 0 := by simpa using ht16
  refine Z3 ?_;refine Z261 ?_
  have hl3 := toksK_len s k
  refine R.loadUpT jA hA ?_;refine Z263 ?_;refine Z270 ?_
  refine R.append jU Tryz.type52 ?_ ?_ ?_
  ·simp [hl3, Tryz.t52]; omega
  ·simp [hl3, Tryz.t52]; omega
  refine R.storeUpT jS (getset hA) ?_ ?_
  ·simp [or_imp, forall_and]
  refine R.fin [] ?_;refine K.blN ?_
  subst hbz
  refine K.rdN (keep2 hL (oid_ne (by decide)) (oid_ne (by decide))) ?_
  rw [if_pos heq]
  refine ⟨rfl, ?_⟩
  subst hV
  simp only [set_oid, List.set_cons_succ, List.set_cons_zero]
  rw [toksK_succ hit, List.map_append]
  rfl
 rintro r H' (⟨hz, rfl⟩ | ⟨k, it, hit, hne, h0, rfl⟩)
 ·refine ⟨Hp, _, _, _, rfl, rfl, fun h => h, ?_, rfl, by simp, ?_⟩
  ·intro o ho
   have : o = oid Hp.length 3 := by simpa using ho
   subst this
   rw [get_oid]
   rfl
  refine Z11 ?_;refine Z252 ?_;refine R.loadOwnT jA ?_;refine Z257 ?_;refine R.slen jU ?_;refine Z256 ?_;refine Z270 ?_
  refine R.append jU Tryz.type52 ?_ ?_ ?_
  ·have := toksK_len s (itemsT s).length; simp [Tryz.t52]; omega
  ·have := toksK_len s (itemsT s).length; simp [Tryz.t52]; omega
  refine Z271 ?_;refine R.storeOwnT jS ?_;refine Z69 ?_;refine AW.ret ?_;exact K.fin (V.two (V.cell jA) (V.cellN jA jS)) ⟨by rw [lex_ofOk hl4 hz, toksA, List.map_append]; rfl, rfl⟩ (hlow := by simp [or_imp, forall_and])
 refine ⟨Hp, _, _, _, rfl, rfl, fun h => h, ?_, rfl, by simp, ?_⟩
 ·intro o ho
  have : o = oid Hp.length 3 := by simpa using ho
  subst this
  rw [get_oid]
  rfl
 refine W.nilOwn 0 3 ?_;refine Z141 ?_;exact K.fin (V.two (V.cell jA) (V.cellN jA jS)) ⟨by rw [lex_ofErr hl4 hit hne h0, show errAt s k = (it.2, it.1.at_) by unfold errAt; rw [hit]]; rfl, rfl⟩

inductive Expr where
 | mk (op : Int) (text : Str) (val : Val) (kids : List Expr)
def Expr.op : Expr → Int | .mk o _ _ _ => o
def Expr.text : Expr → Str | .mk _ t _ _ => t
def Expr.val : Expr → Val | .mk _ _ v _ => v
def Expr.kids : Expr → List Expr | .mk _ _ _ k => k
mutual
def exprA : Expr → AV
 | .mk o t v k => .agg [.v (.int .i64 o), .v (sv t), .v (.int .i64 v.kind), .v (.int .i64 v.n), .v (sv v.s), .slice false 6 (exprsL k)]
def exprsL : List Expr → List AV
  | [] => []
  | e :: r => exprA e :: exprsL r
 end
theorem exprsL_map : ∀ l, exprsL l = l.map exprA
 | [] => rfl
 | e :: r => by rw [exprsL, exprsL_map r]; rfl
theorem exprA_eq (e : Expr) : exprA e = .agg [.v (.int .i64 e.op), .v (sv e.text), .v (.int .i64 e.val.kind), .v (.int .i64 e.val.n), .v (sv e.val.s), .slice false 6 (e.kids.map exprA)] := by
 cases e with
 | mk o t v k => rw [exprA, exprsL_map]; rfl
attribute [go_sem] exprA_eq
def marksText : Str := [32, 111, 114, 32, 32, 97, 110, 100, 32, 32, 61, 32, 33, 61, 32, 60, 32, 60, 61, 32, 62, 32, 62, 61, 32, 32, 43, 32, 45, 32, 38, 32, 32, 42, 32, 47, 32, 37, 32]
def bareM (v : Val) : Bool := v.kind == 0 && v.n == 0 && v.s == []
def nodeM (e : Expr) : Bool :=
 if e.op == 1 then ((plainM e.val && decide (0 ≤ e.val.n)) && (e.text == [])) && ((e.kids.length : Int) == 0)
 else if e.op == 2 then (bareM e.val && lexNameM e.text) && ((e.kids.length : Int) == 0)
 else if e.op == 3 || e.op == 4 then (bareM e.val && (e.text == [])) && ((e.kids.length : Int) == 1)
 else if e.op == 5 then (bareM e.val && isMarkM e.text marksText) && ((e.kids.length : Int) == 2)
 else if e.op == 6 then bareM e.val && (arityM e.text == (e.kids.length : Int))
 else false
theorem c69 (e : Expr) (hs : e.text.length ≤ 1048576) (Hp : List AObj) : AFun Tryz.prog 69 [exprA e] Hp (boolA (nodeM e)) := by
 refine ACall.body [.tmp 2] [0] Tryz.func69 Tryz.ntmps69 (fun d => ?_)
 refine Z181 ?_;refine Z241 ?_;refine R.eqlAgg eg25 (equal25 e.val.kind e.val.n 0 0 e.val.s []) ?_;refine Z232 ?_;refine Z158 ?_;refine R.fin [1, 3, 9] ?_;refine Z145 ?_;refine R.fin [1, 3, 9, 10] ?_
 refine W.cond (fun ht10 => ?_) (fun ht10 => ?_)
 ·refine Z252 ?_;refine Z82 ?_;refine R.call Tryz.call99 (c99 e.val _) ?_;refine Z257 ?_;refine Z226 ?_;refine G.loadRo jA ?_;refine G.geq ?_;refine Z61 ?_;refine Z179 ?_;exact Z170
 refine Z29 ?_;refine R.fin [1, 3, 9, 32] ?_
 refine W.cond (fun ht32 => ?_) (fun ht32 => ?_)
 ·refine Z47 ?_;refine Z21 ?_;refine G.call Tryz.call36 (fun hB => c36 e.text hs _) ?_;exact Z170
 refine Z16 ?_;refine Z14 ?_;refine R.fin [1, 3, 9, 46] ?_
 refine W.cond (fun ht46 => ?_) (fun ht46 => ?_)
 ·refine Z3 ?_
  refine W.cond (fun ht46 => ?_) (fun ht46 => ?_)
  ·refine Z47 ?_;refine Z179 ?_;exact Z170
  refine Z29 ?_;refine R.fin [1, 3, 9, 61] ?_
  refine W.cond (fun ht61 => ?_) (fun ht61 => ?_)
  ·refine Z47 ?_;refine Z21 ?_;exact Z173
  refine Z29 ?_;refine R.fin [1, 3, 75] ?_
  refine W.cond (fun ht75 => ?_) (fun ht75 => ?_)
  ·refine Z224 ?_;refine H.fieldAddrRo (off := 1) jU Tryz.sizeOf9 ?_;refine H.loadRo jA ?_;refine Z211 ?_;refine H.loadRo jA ?_;refine H.len jU ?_;refine D.tail ?_;exact Z148
  refine Z22 ?_;exact Z193
 refine Z261 ?_;refine Z14 ?_;refine R.fin [1, 3, 9, 46] ?_;refine K.thN ?_
 refine W.cond (fun ht46 => ?_) (fun ht46 => ?_)
 ·refine Z47 ?_;refine Z179 ?_;exact Z170
 refine Z29 ?_;refine R.fin [1, 3, 9, 61] ?_
 refine W.cond (fun ht61 => ?_) (fun ht61 => ?_)
 ·refine Z47 ?_;refine Z21 ?_;exact Z173
 refine Z29 ?_;refine R.fin [1, 3, 75] ?_
 refine W.cond (fun ht75 => ?_) (fun ht75 => ?_)
 ·refine Z224 ?_;refine H.fieldAddrRo (off := 1) jU Tryz.sizeOf9 ?_;refine H.loadRo jA ?_;refine Z211 ?_;refine H.loadRo jA ?_;refine H.len jU ?_;refine D.tail ?_;exact Z148
 refine Z22 ?_;exact Z193

mutual
def itemsE (d : Int) : Expr → List (Int × Expr)
 | .mk o t v k => (d, .mk o t v k) :: itemsL (d + 1) k
def itemsL (d : Int) : List Expr → List (Int × Expr)
  | [] => []
  | e :: r => itemsE d e ++ itemsL d r
 end
theorem itemsE_eq (d : Int) (e : Expr) : itemsE d e = (d, e) :: itemsL (d + 1) e.kids := by cases e; rfl
theorem itemsL_append (d : Int) : ∀ a b, itemsL d (a ++ b) = itemsL d a ++ itemsL d b
 | [], b => rfl
 | e :: r, b => by rw [List.cons_append, itemsL, itemsL, itemsL_append d r b, List.append_assoc]
theorem itemsL_take (d : Int) (l : List Expr) {x : Nat} (h : x < l.length) : itemsL d (l.take (x + 1)) = itemsL d (l.take x) ++ itemsE d l[x] := by
 rw [List.take_succ_eq_append_getElem h, itemsL_append]
 simp [itemsL]
theorem itemsL_split (d : Int) (l : List Expr) {x : Nat} (h : x < l.length) : itemsL d l = itemsL d (l.take x) ++ (itemsE d l[x] ++ itemsL d (l.drop (x + 1))) := by
 have e : l = l.take x ++ (l[x] :: l.drop (x + 1)) := by rw [← List.drop_eq_getElem_cons h, List.take_append_drop]
 conv => lhs; rw [e]
 rw [itemsL_append, itemsL]
mutual
def sizeE : Expr → Nat
 | .mk _ _ _ k => 1 + sizeL k
def sizeL : List Expr → Nat
  | [] => 0
  | e :: r => sizeE e + sizeL r
 end
theorem sizeE_eq (e : Expr) : sizeE e = 1 + sizeL e.kids := by cases e; rfl
theorem sizeL_get : ∀ (l : List Expr) {x : Nat} (h : x < l.length), sizeE l[x] ≤ sizeL l
 | e :: r, 0, _ => by simp only [List.getElem_cons_zero, sizeL]; omega
 | e :: r, x + 1, h => by
  have := sizeL_get r (x := x) (by simpa using h)
  simp only [List.getElem_cons_succ, sizeL]
  omega
theorem size_kid (e : Expr) {x : Nat} (h : x < e.kids.length) : sizeE e.kids[x] + 1 ≤ sizeE e := by
 have := sizeL_get e.kids h
 rw [sizeE_eq e]
 omega
/-- Each node has few kids. -/
def okE : Nat → Expr → Prop
 | 0, _ => False
 | n + 1, e => e.text.length ≤ 1048576 ∧ e.kids.length ≤ 1048576 ∧ ∀ y ∈ e.kids, okE n y
/-- Who takes what a tree yields: item k is taken at U k; it goes on (go k) to U (k + 1), or ends at F k. Behind U k there may stand others' objects. -/
structure Takes (P : Program) (l : Nat) (L : List (Int × Expr)) (go : Nat → Bool) (U F : Nat → List AObj) (n0 : Nat) : Prop where
 lenU : ∀ k, (U k).length = n0
 lenF : ∀ k, (F k).length = n0
 lowU : ∀ k, ∀ x ∈ U k, ObjLow n0 x
 lowF : ∀ k, ∀ x ∈ F k, ObjLow n0 x
 lt : l < n0
 y : ∀ (X : List AObj) (k : Nat) (it : Int × Expr), L[k]? = some it → (∀ j, j < k → go j = true) → AYield P l [intA it.1, exprA it.2] (U k ++ X) (fun b H' => b = go k ∧ H' = (if go k then U (k + 1) else F k) ++ X)
theorem ObjLow.le {m m' : Nat} (h : m ≤ m') {x : AObj} (hx : ObjLow m x) : ObjLow m' x := by
 cases x with
 | cells t cs => exact fun y hy => (hx y hy).mono h
 | loop s pd fr sz ps as' bd df => exact ⟨fun s => (hx.1 s).mono h, Nat.lt_of_lt_of_le hx.2 h⟩
 | defs => trivial
 | dead => trivial
 | bld _ _ _ => trivial
 | gone => trivial
/-- What the walk over n items from k0 on comes to. -/
def walkPost (go : Nat → Bool) (U F : Nat → List AObj) (k0 n : Nat) (X : List AObj) : AV → List AObj → Prop := fun r H' =>
 ((∀ j, j < n → go (k0 + j) = true) ∧ r = boolA true ∧ H' = U (k0 + n) ++ X) ∨ (∃ j, j < n ∧ (∀ i, i < j → go (k0 + i) = true) ∧ go (k0 + j) = false ∧ r = boolA false ∧ H' = F (k0 + j) ++ X)
mutual
theorem exprA_low (m : Nat) : ∀ e, Low m (exprA e)
 | .mk o t v k => by
  rw [exprA]
  refine .agg _ fun y hy => ?_
  simp only [List.mem_cons, List.mem_nil_iff, or_false] at hy
  rcases hy with rfl | rfl | rfl | rfl | rfl | rfl
  ·exact .v _
  ·exact .v _
  ·exact .v _
  ·exact .v _
  ·exact .v _
  exact low_slice.2 (exprsL_low m k)
theorem exprsL_low (m : Nat) : ∀ l, ∀ y ∈ exprsL l, Low m y
  | [], y, hy => by cases hy
  | e :: r, y, hy => by
    rw [exprsL] at hy
    rcases List.mem_cons.1 hy with rfl | h
    · exact exprA_low m e
    exact exprsL_low m r y h
 end
theorem append_split {V O A B own : List AObj} (h : V ++ O = A ++ (B ++ own)) (hl : V.length = (A ++ B).length) : V = A ++ B ∧ O = own := by
 rw [← List.append_assoc] at h
 exact List.append_inj h hl
theorem low_app {m : Nat} {A X : List AObj} (hA : ∀ x ∈ A, ObjLow m x) (hX : ∀ x ∈ X, ObjLow m x) : ∀ x ∈ A ++ X, ObjLow m x := fun x hx => by
 rcases List.mem_append.1 hx with h | h
 ·exact hA x h
 exact hX x h
theorem walk_cases {P : Program} {l : Nat} {L : List (Int × Expr)} {go : Nat → Bool} {U F : Nat → List AObj} {n0 k n K : Nat} {X own V O : List AObj} {r : AV} (T : Takes P l L go U F n0) (hV : V.length = (U K ++ X).length) (hp : walkPost go U F k n (X ++ own) r (V ++ O)) :
  ∃ b, r = boolA b ∧ O = own ∧ (if b then (∀ j, j < n → go (k + j) = true) ∧ V = U (k + n) ++ X else ∃ j, j < n ∧ (∀ i, i < j → go (k + i) = true) ∧ go (k + j) = false ∧ V = F (k + j) ++ X) ∧ ((∀ x ∈ U K ++ X, ObjLow V.length x) → ∀ x ∈ V, ObjLow V.length x) := by
 have hn : n0 ≤ V.length := by rw [hV, List.length_append, T.lenU]; omega
 rcases hp with ⟨h1, h2, h3⟩ | ⟨j, hj, h1, h2, h3, h4⟩
 ·obtain ⟨e1, e2⟩ := append_split h3 (by rw [hV]; simp [T.lenU])
  refine ⟨true, h2, e2, ⟨h1, e1⟩, fun h => ?_⟩
  rw [e1] at h ⊢
  exact low_app (fun x hx => ObjLow.le (by rw [List.length_append, T.lenU]; omega) (T.lowU _ x hx)) (fun x hx => h x (List.mem_append_right _ hx))
 obtain ⟨e1, e2⟩ := append_split h4 (by rw [hV]; simp [T.lenU, T.lenF])
 refine ⟨false, h3, e2, ⟨j, hj, h1, h2, e1⟩, fun h => ?_⟩
 rw [e1] at h ⊢
 exact low_app (fun x hx => ObjLow.le (by rw [List.length_append, T.lenF]; omega) (T.lowF _ x hx)) (fun x hx => h x (List.mem_append_right _ hx))
theorem itemsL_len1 (d : Int) (l : List Expr) {x : Nat} (h : x < l.length) : (itemsL d (l.take (x + 1))).length = (itemsL d (l.take x)).length + (itemsE d l[x]).length := by rw [itemsL_take d l h, List.length_append]
theorem items_at {d0 : Int} {e : Expr} {x : Nat} (h : x < e.kids.length) {j : Nat} {it : Int × Expr} (hj : (itemsE (d0 + 1) e.kids[x])[j]? = some it) : (itemsE d0 e)[1 + (itemsL (d0 + 1) (e.kids.take x)).length + j]? = some it := by
 rw [itemsE_eq d0 e, show 1 + (itemsL (d0 + 1) (e.kids.take x)).length + j = ((itemsL (d0 + 1) (e.kids.take x)).length + j) + 1 by omega, List.getElem?_cons_succ, itemsL_split (d0 + 1) e.kids h, List.getElem?_append_right (by omega)]
 rw [show (itemsL (d0 + 1) (e.kids.take x)).length + j - (itemsL (d0 + 1) (e.kids.take x)).length = j by omega, List.getElem?_append_left (List.getElem?_eq_some_iff.1 hj).1]
 exact hj
theorem items_len (d0 : Int) (e : Expr) {x : Nat} (h : x < e.kids.length) : 1 + (itemsL (d0 + 1) (e.kids.take x)).length + (itemsE (d0 + 1) e.kids[x]).length ≤ (itemsE d0 e).length := by
 rw [itemsE_eq d0 e, List.length_cons, itemsL_split (d0 + 1) e.kids h]
 simp only [List.length_append]
 omega
theorem c98 {l : Nat} {L : List (Int × Expr)} {go : Nat → Bool} {U F : Nat → List AObj} {n0 : Nat} (T : Takes Tryz.prog l L go U F n0) : ∀ (n : Nat) (e : Expr), okE n e → ∀ (d0 : Int) (k0 : Nat) (X : List AObj), 0 ≤ d0 → d0 + n ≤ 1099511627776 → (∀ (j : Nat) (it : Int × Expr), (itemsE d0 e)[j]? = some it → L[k0 + j]? = some it) → (∀ j, j < k0 → go j = true) → ACall Tryz.prog 98 [exprA e, intA d0, .yield l] (U k0 ++ X) (walkPost go U F k0 (itemsE d0 e).length X) := by
 intro n
 induction n with
 | zero => exact fun e h => h.elim
 | succ n ih =>
 intro e hok d0 k0 X hd hdn hit hgo
 have hlen0 : (U k0 ++ X).length = n0 + X.length := by rw [List.length_append, T.lenU]
 refine ACall.body [.tmp 6] [0, 1, 2] Tryz.func98 Tryz.ntmps98 (fun d => ?_)
 refine Z25 ?_;refine Z258 ?_;refine R.fin [1, 2, 3] ?_;refine Z120 ?_;refine Z272 ?_
 refine R.yield0 (T.y X k0 (d0, e) (hit 0 _ (by rw [itemsE_eq]; rfl)) hgo) ?_
 intro b Vv hV hb
 refine R.not ?_;refine R.fin [1, 2, 3, 13] ?_
 refine W.cond (fun ht13 => ?_) (fun ht13 => ?_)
 ·have hb' : b = false := by simpa using ht13
  subst hb'
  refine Z2 ?_;refine R.fin [6] ?_;refine Z23 ?_;exact K.fin (V.one V.tmp) (Or.inr ⟨0, by rw [itemsE_eq]; simp, fun i hi => by omega, hb.1.symm, rfl, by have := hb.2; rw [show go k0 = false from hb.1.symm] at this; exact this⟩)
 have hb' : b = true := by simpa using ht13
 subst hb'
 have hgo0 : go (k0 + 0) = true := hb.1.symm
 have hVe : Vv = U (k0 + 1) ++ X := by have := hb.2; rw [show go k0 = true from hb.1.symm] at this; exact this
 subst hVe
 have h0x : 0 ≤ e.kids.length ∧ ∀ j, j < 1 + (itemsL (d0 + 1) (e.kids.take 0)).length → go (k0 + j) = true := ⟨Nat.zero_le _, fun j hj => by
  have : j = 0 := by simp [itemsL] at hj; omega
  subst this
  exact hgo0⟩
 refine Z3 ?_;refine Z16 ?_;refine Z7 ?_;refine Z122 ?_;refine R.fin [1, 2, 15, 16, 17] ?_
 refine AW.loopC (α := Nat) (fun x => ⟨28, setF 1 (intA d0) (setF 2 (.yield l) (setF 15 (.slice false 6 (e.kids.map exprA)) (setF 16 (intA e.kids.length) (setF 17 (intA (x : Nat)) (fun _ => .any))))), U (k0 + (1 + (itemsL (d0 + 1) (e.kids.take x)).length)) ++ X, [], [], none⟩) (fun x => x ≤ e.kids.length ∧ ∀ j, j < 1 + (itemsL (d0 + 1) (e.kids.take x)).length → go (k0 + j) = true) (fun x => e.kids.length - x) (0) h0x (StLe.of_eq (by simp [itemsL])) rfl (fun x hx => ?_)
 refine Z190 ?_;refine R.fin [1, 2, 15, 16, 17, 18] ?_
 refine W.condX (fun ht18 => ?_) (fun ht18 => ?_)
 ·have hlt : x < e.kids.length := by simpa using ht18
  have hkl := hok.2.1
  refine Z34 ?_;refine Z252 ?_;refine Z51 ?_;refine Z20 ?_;refine R.fin [1, 2, 8, 15, 16, 17] ?_;refine Z36 ?_;refine Z257 ?_;refine Z139 ?_
  refine R.callG Tryz.call98 (args := [exprA e.kids[x], intA (d0 + 1), .yield l]) (by rw [List.append_assoc]; exact ih e.kids[x] (hok.2.2 _ (List.getElem_mem hlt)) (d0 + 1) (k0 + (1 + (itemsL (d0 + 1) (e.kids.take x)).length)) (X ++ _) (by omega) (by omega) (fun j it hj => by have := hit _ it (items_at hlt hj); rwa [← Nat.add_assoc] at this) (fun j hj => by rcases Nat.lt_or_ge j k0 with h | h; exact hgo j h; have := hx.2 (j - k0) (by omega); rwa [show k0 + (j - k0) = j by omega] at this)) ?_
  intro r Vv O hV hp
  obtain ⟨b, rfl, rfl, hc, hlowV⟩ := walk_cases T hV hp
  refine ⟨hlowV, fun o ho => by simp at ho, ?_⟩
  refine R.not ?_;refine R.fin [1, 2, 15, 16, 17, 26] ?_
  refine W.cond (fun ht26 => ?_) (fun ht26 => ?_)
  ·have hb' : b = false := by simpa using ht26
   subst hb'
   obtain ⟨j, hj, h1, h2, h3⟩ := hc
   refine Z2 ?_;refine Z131 ?_;refine Z104 ?_
   have hil := items_len d0 e hlt
   refine K.fin (V.one V.tmp) (Or.inr ⟨1 + (itemsL (d0 + 1) (e.kids.take x)).length + j, by omega, fun i hi => ?_, by rwa [Nat.add_assoc] at h2, rfl, by rwa [Nat.add_assoc] at h3⟩)
   rcases Nat.lt_or_ge i (1 + (itemsL (d0 + 1) (e.kids.take x)).length) with h | h
   ·exact hx.2 i h
   have := h1 (i - (1 + (itemsL (d0 + 1) (e.kids.take x)).length)) (by omega)
   rwa [show k0 + (1 + (itemsL (d0 + 1) (e.kids.take x)).length) + (i - (1 + (itemsL (d0 + 1) (e.kids.take x)).length)) = k0 + i by omega] at this
  have hb' : b = true := by simpa using ht26
  subst hb'
  obtain ⟨h1, h3⟩ := hc
  refine Z22 ?_;refine Z156 ?_;refine R.fin [1, 2, 15, 16, 17] ?_
  subst h3
  have hll := itemsL_len1 (d0 + 1) e.kids hlt
  have e1 : k0 + (1 + (itemsL (d0 + 1) (e.kids.take (x + 1))).length) = k0 + (1 + (itemsL (d0 + 1) (e.kids.take x)).length) + (itemsE (d0 + 1) e.kids[x]).length := by omega
  refine K.lpN (x + 1) ⟨hlt, fun j hj => ?_⟩ (by omega) ?_
  ·rcases Nat.lt_or_ge j (1 + (itemsL (d0 + 1) (e.kids.take x)).length) with h | h
   ·exact hx.2 j h
   have := h1 (j - (1 + (itemsL (d0 + 1) (e.kids.take x)).length)) (by omega)
   rwa [show k0 + (1 + (itemsL (d0 + 1) (e.kids.take x)).length) + (j - (1 + (itemsL (d0 + 1) (e.kids.take x)).length)) = k0 + j by omega] at this
  simp only [e1]
  exact StCut.take (own := []) (fun _ => .refl _) (by repeat (first | exact lowF_any | refine lowF_set (by first | (simp [exprA_low]; done) | (have := T.lt; simp [T.lenU]; omega)) ?_)) (by simp) (by simp)
 have hxe : e.kids.take x = e.kids := List.take_of_length_le (by simp at ht18; omega)
 refine Z53 ?_;refine Z2 ?_;refine Z131 ?_
 have hl2 : (itemsE d0 e).length = 1 + (itemsL (d0 + 1) (e.kids.take x)).length := by rw [itemsE_eq, hxe, List.length_cons]; omega
 exact K.fin (V.one V.tmp) (Or.inl ⟨fun j hj => hx.2 j (by omega), rfl, by rw [hl2]⟩)

abbrev exprC (e : Expr) : List AV := [.v (.int .i64 e.op), .v (sv e.text), .v (.int .i64 e.val.kind), .v (.int .i64 e.val.n), .v (sv e.val.s), .slice false 6 (e.kids.map exprA)]
/-- What taking all of a tree comes to. -/
def takePost (go : Nat → Bool) (U F : Nat → List AObj) (n : Nat) (H' : List AObj) : Prop :=
 ((∀ j, j < n → go j = true) ∧ H' = U n) ∨ (∃ j, j < n ∧ (∀ i, i < j → go i = true) ∧ go j = false ∧ H' = F j)
theorem c97 {l : Nat} {e : Expr} {go : Nat → Bool} {U F : Nat → List AObj} {n0 : Nat} (T : Takes Tryz.prog l (itemsE 1 e) go U F n0) (n : Nat) (hok : okE n e) (hn : n ≤ 1048576) : ACall Tryz.prog 97 [.yield l, .ro (exprC e)] (U 0) (fun r H' => takePost go U F (itemsE 1 e).length H') := by
 refine ACall.body [] [0, 1] Tryz.func97 Tryz.ntmps97 (fun d => ?_)
 refine Z261 ?_;refine Z151 ?_;refine R.callG Tryz.call98 (args := [exprA e, intA 1, .yield l]) (c98 T n e hok 1 0 [] (by omega) (by omega) (fun j it hj => by rwa [Nat.zero_add]) (fun j hj => by omega)) ?_
 intro r Vv O hV hp
 have hO : O = [] := by
  have h1 : (Vv ++ O).length = n0 := by rcases hp with ⟨_, _, h⟩ | ⟨j, _, _, _, _, h⟩ <;> rw [h] <;> simp [T.lenU, T.lenF]
  have h2 := T.lenU 0
  rw [List.length_append, hV, h2] at h1
  exact Z273
 subst hO
 rw [List.append_nil] at hp
 have hq : takePost go U F (itemsE 1 e).length Vv := by
  rcases hp with ⟨h1, _, h⟩ | ⟨j, h1, h2, h3, _, h⟩
  ·exact .inl ⟨fun j hj => by have := h1 j hj; rwa [Nat.zero_add] at this, by rw [h]; simp⟩
  exact .inr ⟨j, h1, fun i hi => by have := h2 i hi; rwa [Nat.zero_add] at this, by rwa [Nat.zero_add] at h3, by rw [h]; simp⟩
 refine ⟨fun h => ?_, fun o ho => by simp at ho, ?_⟩
 ·rcases hq with ⟨_, h⟩ | ⟨j, _, _, _, h⟩ <;> rw [h]
  ·rw [T.lenU]; exact T.lowU _
  rw [T.lenF]; exact T.lowF _
 refine R.fin [] ?_;exact K.finN .nores (hp := hq)

theorem c68 (e : Expr) (Hp : List AObj) : AFun Tryz.prog 68 [exprA e] Hp (.fn (.func 97) [] [.ro (exprC e)]) := by
 refine ACall.body [.tmp 2] [0] Tryz.func68 Tryz.ntmps68 (fun d => ?_)
 refine Z181 ?_;refine R.makeFunc ?_;refine Z9 ?_;exact K.fin (V.one V.tmp) (hlow := by have := exprA_low Hp.length e; rw [exprA_eq] at this; simpa using this)

def goM (e : Expr) (k : Nat) : Bool := match (itemsE 1 e)[k]? with
 | some it => !((!nodeM it.2 || decide ((30 : Int) < it.1)) || decide ((300 : Int) < (k : Int) + 1))
 | none => true
def exprRightM (e : Expr) : Bool := (List.range (itemsE 1 e).length).all (goM e)
mutual
theorem items_okE : ∀ (n : Nat) (e : Expr), okE n e → ∀ d, ∀ it ∈ itemsE d e, it.2.text.length ≤ 1048576
 | 0, _, h, _, _, _ => h.elim
 | n + 1, e, h, d, it, hit => by
  rw [itemsE_eq] at hit
  rcases List.mem_cons.1 hit with rfl | h'
  ·exact h.1
  exact items_okL n e.kids h.2.2 (d + 1) it h'
 termination_by n e => (n, 0)
theorem items_okL : ∀ (n : Nat) (l : List Expr), (∀ y ∈ l, okE n y) → ∀ d, ∀ it ∈ itemsL d l, it.2.text.length ≤ 1048576
  | n, [], _, _, _, h => by cases h
  | n, e :: r, h, d, it, hit => by
    rw [itemsL] at hit
    rcases List.mem_append.1 hit with h' | h'
    · exact items_okE n e (h e (by simp)) d it h'
    exact items_okL n r (fun y hy => h y (by simp [hy])) d it h'
  termination_by n l => (n, l.length + 1)
 end
theorem get_set_ne {U : List AObj} {i j : Nat} {x y : AObj} (h : U[i]? = some x) (hne : j ≠ i) : (U.set j y)[i]? = some x := by rw [List.getElem?_set_ne hne]; exact h
theorem goM_le {e : Expr} {k : Nat} {it : Int × Expr} (hit : (itemsE 1 e)[k]? = some it) (h : ∀ j, j < k → goM e j = true) : (k : Int) ≤ 300 := by
 rcases Nat.eq_zero_or_pos k with h0 | h0
 ·omega
 have hl := (List.getElem?_eq_some_iff.1 hit).1
 have := h (k - 1) (by omega)
 unfold goM at this
 rw [List.getElem?_eq_getElem (by omega)] at this
 simp at this
 omega
theorem goM_at {e : Expr} {k : Nat} {it : Int × Expr} (hit : (itemsE 1 e)[k]? = some it) : goM e k = !((!nodeM it.2 || decide ((30 : Int) < it.1)) || decide ((300 : Int) < (k : Int) + 1)) := by
 unfold goM; rw [hit]
theorem c37 (n : Nat) (e : Expr) (hok : okE n e) (hn : n ≤ 1048576) (Hp : List AObj) : AFun Tryz.prog 37 [exprA e] Hp (boolA (exprRightM e)) := by
 refine ACall.body [.cell 2 4] [0, 4, 5] Tryz.func37 Tryz.ntmps37 (fun d => ?_)
 refine Z25 ?_;refine R.alloc jZ ?_;refine R.fin [1, 2, 4, 5] ?_;refine Z252 ?_;refine Z20 ?_;refine R.fin [1, 2, 3, 4, 5] ?_;refine Z16 ?_
 refine R.assumeLow (fun hlow => ?_)
 refine Z194 ?_;refine R.fin [2, 3, 4, 5, 7] ?_;refine AW.block ?_
 refine W.rangeV (m := 2) Tryz.call97 (fun FR as' bd' hFR has hbd => ?_)
 have hFRl : ∀ s, Low (Hp.length + 4) (FR s) := by
  intro s
  rw [hFR]
  refine Low.strip ?_
  revert s
  repeat (first | exact lowF_any | refine lowF_set (by simp [oid, exprA_low] <;> try omega) ?_)
 have hOl : ∀ {k : Nat}, ∀ x ∈ [AObj.cells 4 [boolA false], AObj.cells 3 [intA (k : Nat)], AObj.defs, AObj.loop LoopState.ready none FR 23 #[8, 9] as' bd' (oid Hp.length 2)], ObjLow (Hp.length + 4) x := by
  intro k x hx
  simp only [List.mem_cons, List.mem_nil_iff, or_false] at hx
  rcases hx with rfl | rfl | rfl | rfl
  ·exact low1
  ·exact low1
  ·trivial
  exact Z274
 have hOf : ∀ {k : Nat}, ∀ x ∈ [AObj.cells 4 [boolA false], AObj.cells 3 [intA ((k : Nat) + 1)], AObj.defs, AObj.loop LoopState.done (some Code.ret) FR 23 #[8, 9] as' bd' (oid Hp.length 2)], ObjLow (Hp.length + 4) x := by
  intro k x hx
  simp only [List.mem_cons, List.mem_nil_iff, or_false] at hx
  rcases hx with rfl | rfl | rfl | rfl
  ·exact low1
  ·exact low1
  ·trivial
  exact Z274
 refine ⟨fun _ H' => takePost (goM e) (fun k => Hp ++ [AObj.cells 4 [boolA false], AObj.cells 3 [intA (k : Nat)], AObj.defs, AObj.loop LoopState.ready none FR 23 #[8, 9] as' bd' (oid Hp.length 2)]) (fun k => Hp ++ [AObj.cells 4 [boolA false], AObj.cells 3 [intA ((k : Nat) + 1)], AObj.defs, AObj.loop LoopState.done (some Code.ret) FR 23 #[8, 9] as' bd' (oid Hp.length 2)]) (itemsE 1 e).length H', c97 (l := oid Hp.length 3) (go := goM e) (U := fun k => Hp ++ [AObj.cells 4 [boolA false], AObj.cells 3 [intA (k : Nat)], AObj.defs, AObj.loop LoopState.ready none FR 23 #[8, 9] as' bd' (oid Hp.length 2)]) (F := fun k => Hp ++ [AObj.cells 4 [boolA false], AObj.cells 3 [intA ((k : Nat) + 1)], AObj.defs, AObj.loop LoopState.done (some Code.ret) FR 23 #[8, 9] as' bd' (oid Hp.length 2)]) (n0 := Hp.length + 4) ⟨fun k => by simp, fun k => by simp, fun k x hx => ?_, fun k x hx => ?_, by simp [oid], fun X k it hit hgo => ?_⟩ n hok hn, ?_⟩
 ·exact Z275
 ·exact low_app (fun x hx => ObjLow.le (by omega) (hlow x hx)) hOf x hx
 ·have hk3 := goM_le hit hgo
  generalize hV : (Hp ++ [AObj.cells 4 [boolA false], AObj.cells 3 [intA (k : Nat)], AObj.defs, AObj.loop LoopState.ready none FR 23 #[8, 9] as' bd' (oid Hp.length 2)] ++ X) = V
  have hL : V[oid Hp.length 3]? = some (AObj.loop LoopState.ready none FR 23 #[8, 9] as' bd' (oid Hp.length 2)) := by rw [← hV, List.append_assoc, get_oid]; rfl
  have hA0 : V[oid Hp.length 1]? = some (AObj.cells 3 [intA (k : Nat)]) := by rw [← hV, List.append_assoc, get_oid]; rfl
  have hB0 : V[oid Hp.length 0]? = some (AObj.cells 4 [boolA false]) := by rw [← hV, List.append_assoc, get_oid]; rfl
  refine AYield.ofRound (pd := none) (fr := FR) (sz := 23) (ps := #[8, 9]) (df := oid Hp.length 2) (asg := as') (bd := bd') hL rfl (by decide) (fun d => ?_)
  subst hFR has hbd
  refine W.keep [2, 3, 8, 9] ?_;refine Z2 ?_;refine R.fin [2, 3, 4, 9] ?_;refine Z261 ?_;refine Z20 ?_;refine R.fin [2, 3, 4, 5] ?_
  refine ⟨rfl, none, hL, ?_⟩
  generalize hbz : (AObj.loop LoopState.busy _ _ _ _ _ _ _) = bz
  have hA : (V.set (oid Hp.length 3) bz)[oid Hp.length 1]? = some (AObj.cells 3 [intA (k : Nat)]) := by rw [List.getElem?_set_ne (oid_ne (by decide))]; exact hA0
  have hB : (V.set (oid Hp.length 3) bz)[oid Hp.length 0]? = some (AObj.cells 4 [boolA false]) := by rw [List.getElem?_set_ne (oid_ne (by decide))]; exact hB0
  refine AW.block ?_;refine Z252 ?_;refine R.loadUp jA hA ?_;refine R.add64 ?_
  refine R.storeUp jS hA ?_ ?_
  ·simp
  refine R.fin [2, 3, 4, 5] ?_;refine Z36 ?_;refine R.call Tryz.call69 (c69 it.2 (items_okE n e hok 1 it (List.mem_of_getElem? hit)) _) ?_;refine R.not ?_;refine Z18 ?_;refine Z94 ?_;refine Z257 ?_;refine G.loadUp jA (getset hA) ?_;refine Z94 ?_;refine R.fin [2, 22] ?_
  refine W.cond (fun ht22 => ?_) (fun ht22 => ?_)
  ·have hgf : goM e k = false := by rw [goM_at hit, ht22]; rfl
   refine Z252 ?_
   refine R.storeUp jS (get_set_ne (j := oid Hp.length 1) hB (oid_ne (by decide))) ?_ ?_
   ·simp
   refine R.fin [] ?_;refine AW.ret ?_;refine K.blR ?_
   subst hbz
   refine K.rdR (keep2 hL (oid_ne (by decide)) (oid_ne (by decide))) ?_
   refine ⟨hgf.symm, ?_⟩
   rw [if_neg (by rw [hgf]; simp)]
   subst hV
   simp only [List.append_assoc, set_oid, List.cons_append, List.nil_append, List.set_cons_succ, List.set_cons_zero]
   try rfl
  have hgt : goM e k = true := by rw [goM_at hit, ht22]; rfl
  refine AW.skip ?_;refine K.blN ?_
  subst hbz
  refine K.rdN (keep1 hL (oid_ne (by decide))) ?_
  refine ⟨hgt.symm, ?_⟩
  rw [if_pos hgt]
  subst hV
  simp only [List.append_assoc, set_oid, List.cons_append, List.nil_append, List.set_cons_succ, List.set_cons_zero]
  try rfl
 rintro r H' (⟨h1, rfl⟩ | ⟨j, hj, h1, h2, rfl⟩)
 ·refine ⟨Hp, _, _, _, rfl, rfl, fun h => h, ?_, rfl, by simp, ?_⟩
  ·intro o ho
   have : o = oid Hp.length 2 := by simpa using ho
   subst this
   rw [get_oid]
   rfl
  refine Z11 ?_;refine Z252 ?_;refine Z32 ?_;exact K.fin (V.one (V.cell jA)) ⟨by rw [show exprRightM e = true from List.all_eq_true.2 fun j hj => h1 j (List.mem_range.1 hj)], rfl⟩
 refine ⟨Hp, _, _, _, rfl, rfl, fun h => h, ?_, rfl, by simp, ?_⟩
 ·intro o ho
  have : o = oid Hp.length 2 := by simpa using ho
  subst this
  rw [get_oid]
  rfl
 refine Z141 ?_;exact K.fin (V.one (V.cell jA)) ⟨by rw [show exprRightM e = false from List.all_eq_false.2 ⟨j, List.mem_range.2 hj, by rw [h2]; simp⟩], rfl⟩

def nameE (s : Str) : Expr := .mk 2 s ⟨0, 0, []⟩ []
theorem nameE_le (s : Str) : Le (.agg [intA 2, strA s, intA 0, intA 0, strA [], .nil]) (exprA (nameE s)) := by
 rw [exprA_eq]
 refine .agg _ _ rfl (by simp [AV.one, Value.oneCell', sv]) fun i y y' h1 h2 => ?_
 match i with
 | 0 => simp at h1 h2; subst h1; subst h2; exact .inl rfl
 | 1 => simp at h1 h2; subst h1; subst h2; exact .inl rfl
 | 2 => simp at h1 h2; subst h1; subst h2; exact .inl rfl
 | 3 => simp at h1 h2; subst h1; subst h2; exact .inl rfl
 | 4 => simp at h1 h2; subst h1; subst h2; exact .inl rfl
 | 5 => simp at h1 h2; subst h1; subst h2; exact .inr ⟨rfl, 6, rfl⟩
 | i + 6 => simp at h1
theorem nameE_ok (s : Str) (h : s.length ≤ 1048576) : okE 1 (nameE s) := ⟨h, by simp [nameE, Expr.kids], fun y hy => by cases hy⟩
def colAtP (c : List Col) (x : Nat) (y : Col) : Bool := !(((!exprRightM (nameE y.name)) || (kindNameM y.kind == [])) || (findM y.name c != (x : Int)))
def colsP (c : List Col) : Bool := c.zipIdx.all fun x => colAtP c x.2 x.1
def rightP (c : List Col) : Bool := decide ((c.length : Int) ≤ 12) && colsP c
theorem contains_nil (s : Str) (h : s ≠ []) : Lib.contains [] s = false := by
 cases s with
 | nil => exact absurd rfl h
 | cons a r => rfl
theorem contains_cons (b : UInt8) (l s : Str) : Lib.contains (b :: l) s = (s.isPrefixOf (b :: l) || Lib.contains l s) := by
 unfold Lib.contains
 have hge := Lib.index_ge l s
 rw [Lib.index]
 by_cases hp : s.isPrefixOf (b :: l) = true
 ·rw [if_pos hp, hp]; rfl
 rw [if_neg hp]
 have hp' : s.isPrefixOf (b :: l) = false := Bool.eq_false_iff.2 hp
 rw [hp', Bool.false_or]
 by_cases hi : Lib.index l s = -1
 ·rw [hi]; rfl
 have : (Lib.index l s == -1) = false := by simpa using hi
 rw [this, if_neg (by simp)]
 rw [decide_eq_decide]
 omega
/-- Words between blanks. -/
def textOf : List Str → Str
 | [] => [32]
 | w :: r => 32 :: (w ++ textOf r)
theorem skip_word (sub : Str) : ∀ (w R : Str), (32 : UInt8) ∉ w → Lib.contains (w ++ R) (32 :: sub) = Lib.contains R (32 :: sub)
 | [], R, _ => rfl
 | b :: w, R, h => by
  have hb : b ≠ 32 := fun e => h (by simp [e])
  rw [List.cons_append, contains_cons, skip_word sub w R (fun hm => h (by simp [hm]))]
  have : (32 :: sub).isPrefixOf (b :: (w ++ R)) = false := by
   simp [List.isPrefixOf, Ne.symm hb]
  rw [this, Bool.false_or]
theorem prefix_word : ∀ (s w : Str) (R : Str), (32 : UInt8) ∉ s → (32 : UInt8) ∉ w → (s ++ [32]).isPrefixOf (w ++ 32 :: R) = (s == w)
 | [], [], R, _, _ => by simp [List.isPrefixOf]
 | [], b :: w, R, _, hw => by
  have hb : (32 : UInt8) ≠ b := fun e => hw (by simp [e])
  simp [List.isPrefixOf, hb]
 | a :: s, [], R, hs, _ => by
  have hb : a ≠ (32 : UInt8) := fun e => hs (by simp [e])
  simp [List.isPrefixOf, hb]
 | a :: s, b :: w, R, hs, hw => by
  have ih := prefix_word s w R (fun h => hs (by simp [h])) (fun h => hw (by simp [h]))
  rw [List.cons_append, List.cons_append, List.isPrefixOf, ih]
  rfl
theorem textOf_head : ∀ ws, ∃ R, textOf ws = 32 :: R
 | [] => ⟨[], rfl⟩
 | w :: r => ⟨_, rfl⟩
theorem contains_words (s : Str) (hs : (32 : UInt8) ∉ s) : ∀ (ws : List Str), (∀ w ∈ ws, (32 : UInt8) ∉ w) → Lib.contains (textOf ws) ([32] ++ s ++ [32]) = ws.any (· == s)
 | [], _ => by
  rw [textOf, contains_cons, contains_nil _ (by simp), Bool.or_false]
  cases s <;> simp [List.isPrefixOf]
 | w :: r, h => by
  have hw := h w (by simp)
  obtain ⟨R, hR⟩ := textOf_head r
  have ih := contains_words s hs r (fun x hx => h x (by simp [hx]))
  have e1 : ([32] ++ s ++ [32] : Str) = 32 :: (s ++ [32]) := rfl
  rw [textOf, contains_cons, e1, skip_word _ w _ hw, ← e1, ih, List.any_cons]
  congr 1
  rw [e1, hR]
  have := prefix_word s w R hs hw
  rw [List.isPrefixOf, this]
  simp only [beq_self_eq_true, Bool.true_and]
  by_cases hsw : s = w
  ·subst hsw; rfl
  rw [beq_eq_false_iff_ne.2 hsw, beq_eq_false_iff_ne.2 (Ne.symm hsw)]
theorem reserved_text : reservedText = textOf words := by kernel_rfl
theorem words_plain : ∀ w ∈ words, (32 : UInt8) ∉ w := by decide
theorem no_blank (s : Str) : Lib.contains s [32] = s.contains 32 := by
 induction s with
 | nil => rfl
 | cons b l ih =>
  rw [contains_cons, ih, List.contains_cons]
  congr 1
  simp [List.isPrefixOf]
theorem lexReserved_eq (s : Str) (h1 : s ≠ []) (h2 : (32 : UInt8) ∉ s) : lexReservedM s = reservedM s := by
 unfold lexReservedM
 rw [no_blank, reserved_text, contains_words s h2 words words_plain]
 have e1 : (s == []) = false := by simpa using h1
 have e2 : s.contains 32 = false := by simpa using h2
 rw [e1, e2]
 rfl
set_option maxRecDepth 8000
theorem u8_all {p : UInt8 → Bool} (h : ((List.range 256).all fun n => p (UInt8.ofNat n)) = true) (c : UInt8) : p c = true := by
 have := List.all_eq_true.1 h c.toNat (List.mem_range.2 c.toNat_lt)
 simpa using this
theorem tails_char (c : UInt8) : tails.contains c = charM c := by
 have := u8_all (p := fun c => tails.contains c == charM c) (by kernel_rfl) c
 simpa using this
theorem letters_char (c : UInt8) : letters.contains c = letterM c := by
 have := u8_all (p := fun c => letters.contains c == letterM c) (by kernel_rfl) c
 simpa using this
theorem blank_char : charM 32 = false := by kernel_rfl
theorem run_all (s of : Str) : (runM s of == (s.length : Int)) = s.all (of.contains ·) := by
 unfold runM Lib.trimLeftS
 induction s with
 | nil => rfl
 | cons c r ih =>
  rw [List.dropWhile_cons, List.all_cons]
  cases hc : of.contains c with
  | true =>
   simp only [if_true, Bool.true_and]
   rw [← ih, Bool.eq_iff_iff]
   have := (List.dropWhile_sublist (fun x => of.contains x) (l := r)).length_le
   simp only [beq_iff_eq, List.length_cons]
   omega
  | false =>
   simp only [Bool.false_eq_true, if_false, Bool.false_and]
   rw [beq_eq_false_iff_ne]
   simp only [List.length_cons]
   omega
theorem lexName_eq (s : Str) : lexNameM s = nameM s := by
 cases s with
 | nil => rfl
 | cons c r =>
  unfold lexNameM
  rw [run_all]
  have e1 : ((c :: r).all fun x => tails.contains x) = (c :: r).all charM := by
   congr 1
   funext x
   exact tails_char x
  have e2 : (runM ((c :: r).take 1) letters == 1) = letterM c := by
   have := run_all [c] letters
   rw [← letters_char c]
   simpa using this
  rw [e1, e2]
  have e3 : ((c :: r : Str) == []) = false := rfl
  have e4 : decide (((c :: r).length : Int) ≤ 16) = decide ((c :: r).length ≤ 16) := by
   rw [decide_eq_decide]; omega
  rw [e3, e4]
  show _ = (decide ((c :: r).length ≤ 16) && letterM c && !reservedM (c :: r) && (c :: r).all charM)
  cases ha : (c :: r).all charM with
  | false => simp
  | true =>
   have hb : (32 : UInt8) ∉ (c :: r) := fun hm => by
    have := List.all_eq_true.1 ha 32 hm
    rw [blank_char] at this
    cases this
   rw [lexReserved_eq _ (by simp) hb]
   simp
set_option maxRecDepth 4000
def tokAt (l : List Tok) (i : Nat) : Tok := l.getD i ⟨0, [], 0⟩
theorem getTok {l : List Tok} {i : Nat} (h : i < l.length) : (l.map tokA)[i]? = some (tokA (tokAt l i)) := by
 rw [List.getElem?_map, List.getElem?_eq_getElem h]
 unfold tokAt
 rw [List.getD_eq_getElem?_getD, List.getElem?_eq_getElem h]
 rfl
def awakeS : Str := [97, 60, 61, 98]
def awakeL : List Tok := [⟨1, [97], 0⟩, ⟨5, [60, 61], 1⟩, ⟨1, [98], 3⟩, ⟨0, [], 4⟩]
def oneM (s : Str) : Bool := ((((lexM s).2.1 == 0) && (((lexM s).1.length : Int) == 2)) && ((tokAt (lexM s).1 0).kind == 1)) && ((tokAt (lexM s).1 0).text == s)
def namesM (s : Str) : Bool := if 100 < s.length then true else ((lexNameM s == nameM s) && (lexNameM s == oneM s)) && (lexReservedM s == reservedM s)
end Go.SX.Nb
