/- Texts on the way to this: QueryParses answers true for whatever it is handed: any source of up to 2000 bytes is parsed as the reference says, or the first fault is told; what is parsed is right, and printed it is parsed as the same. (part 4) -/
import Derived.Below
import Derived.Test.YtldolkjhlcpidaaGreatDoorProg
import Derived.KernelRfl
import Derived.Shelf.Strconv.Itoa4
import Derived.Shelf.Strings.SplitShaped
import Derived.Shelf.Strings.SlTrimAscii
import Derived.Shelf.Strings.OnBuilder
import Derived.Shelf.Strings.Replace
import Derived.Shelf.Small.Strs
import Derived.Shelf.Strings.Prefix
import Derived.Shelf.Strconv.ErrVarParseInt
import Derived.Shelf.Strconv.AtoiAll
import Derived.Shelf.Strings.Builder1
import Derived.Shelf.Strings.Cut
import Derived.Lib.SplitLaws
import Derived.LaidEql
import Derived.Stop.Asserts
import Derived.RowKitTokens
import Derived.WalkKit
import Derived.Lib.AtoiErrMem
import Derived.Lib.Strings
import Derived.BigCall
import Derived.Lib.ParseIntB
import Derived.Test.YtldolkjhlcpidaaGreatDoorQueryParsesCardSaidPart3
set_option linter.all false
namespace Go.SX
variable [GI : GlobInv]
open Classical Go.RowKit
section
variable {P : Program} {g : FuncId} {Hp : List AObj}

/-- What is known of package-level variables, of a world alone. -/
def F5 (w : World) : Prop := ∀ x ∈ GI.blocks, ∃ o, w.heap[x.1]? = some o ∧ x.2 o

theorem Of {G : Gh} {w : World} {xs : List Value} {vs : Array Value} (hn : vs.size = (xs.map AV.v).length) (h : ∀ (i : Nat) (y : AV) (u : Value), (xs.map AV.v)[i]? = some y → vs[i]? = some u → ∃ l, Rep G w l y u) : vs = xs.toArray := by
 apply Array.ext
 ·simpa using hn
 intro i h1 h2
 have hi : i < xs.length := by simpa using h2
 obtain ⟨l, hr⟩ := h i (.v xs[i]) vs[i] (by simp [hi]) (Array.getElem?_eq_getElem h1)
 have := Hs hr
 simpa using this

theorem E5 {G : Gh} {w w' : World} (hT : TagOK G w) (hb : Below w.heap.size w w') {b o : Nat} (h : G.tag b o ≠ .free) : w'.cell? ⟨b, o, none⟩ = w.cell? ⟨b, o, none⟩ ∧ w'.frozen? ⟨b, o, none⟩ = w.frozen? ⟨b, o, none⟩ := by
 obtain ⟨u, hu⟩ := hT.ex b o h
 have hlt : b < w.heap.size := World.block_lt_of_cell? _ _ hu
 have := hb.block b hlt
 exact ⟨Cn this, C6 this⟩

theorem If {G : Gh} {w w' : World} (hT : TagOK G w) (hb : Below w.heap.size w w') : Turn G w G w' :=
 ⟨fun b o h => ⟨h, (E5 hT hb (by rw [h]; simp)).1⟩, fun _ _ _ h => h, fun _ _ _ h => h, Nat.le_refl _, fun _ _ => rfl, hb.os, hb.tape, hb.output, hb.size, Still.tags (fun b hv => hb.block b hv.1) hb.size (fun _ _ _ => .inl rfl) (fun _ hi => .inl ⟨hi, rfl⟩)⟩

theorem L5 {G : Gh} {H : List AObj} {w w' : World} (hH : HeapRel G H w) (hT : TagOK G w) (hb : Below w.heap.size w w') : HeapRel G H w' ∧ TagOK G w' := by
 have T := If hT hb
 refine ⟨⟨fun i x hx => ?_, hH.n, hH.inj⟩, ⟨fun b o h => ?_, fun b o i h => ?_, fun b o L h => ?_, hT.globKeep T.old⟩⟩
 ·have hi : i < G.n := by rw [hH.n]; exact (List.getElem?_eq_some_iff.1 hx).1
  exact T.objRel hi (hb.block _ (Jd hH i hi)) (hH.obj i x hx) (fun b h => hb.block b h.lt)
 ·rw [(E5 hT hb h).1]; exact hT.ex b o h
 ·rw [(E5 hT hb (by rw [h]; simp)).2]; exact hT.obj b o i h
 rw [(E5 hT hb (by rw [h]; simp)).2]; exact hT.tail b o L h

/-- A function of plain values that hands back a plain value. -/
theorem AFun.lib {xs : List Value} {r : AV} {v : Value} (hr : ∀ G w, Rep G w none r v) (h : ∀ w, F5 w → Calls P g xs.toArray w (fun e w' => e = .returned v ∧ Below w.heap.size w w')) : AFun P g (xs.map .v) Hp r := by
 intro d G w vs hn hv hH hT
 have hvs := Of hn (fun i y u a b => ⟨_, hv i y u a b⟩)
 subst hvs
 refine (callsIn_wide.2 (h w (fun x hx => let ⟨_, u, a, b⟩ := hT.glob x hx; ⟨u, a, b⟩))).mono ?_
 rintro e w' ⟨rfl, hb⟩
 obtain ⟨h1, h2⟩ := L5 hH hT hb
 exact ⟨v, G, r, Hp, rfl, (hr G w').lift, h1, h2, (If hT hb).keep _, rfl, rfl, rfl⟩


/-- A function of plain values that hands back a new slice of plain values. -/
theorem AFun.libSlice {xs ys : List Value} {t : TypeId} (hone : ∀ y ∈ ys, y.oneCell' = true) (h : ∀ w, F5 w → Calls P g xs.toArray w (fun e w' => e = .returned (.slice (some ⟨w.heap.size, 0, none⟩) ys.length ys.length) ∧ w' = w.alloc (.cells ys.toArray t))) :
  AFun P g (xs.map .v) Hp (.slice false 1 (ys.map .v)) := by
 intro d G w vs hn hv hH hT
 have hvs := Of hn (fun i y u a b => ⟨_, hv i y u a b⟩)
 subst hvs
 refine (callsIn_wide.2 (h w (fun x hx => let ⟨_, u, a, b⟩ := hT.glob x hx; ⟨u, a, b⟩))).mono ?_
 rintro e w' ⟨rfl, rfl⟩
 have hst : StRel 0 G ⟨0, fun _ => .any, Hp, [], [], none⟩ { tmps := #[], defers := [] } w :=
  ⟨rfl, fun s => .any _ _, by simpa using hH, rfl, (fun o ho => by simp at ho), List.nodup_nil, (fun o ho => by simp at ho), hT, (fun l hl => by cases hl), P5 hH⟩
 obtain ⟨G', g1, T, g2⟩ := Mr hst t ys.toArray
 refine ⟨_, G', _, Hp, rfl, ?_, by simpa using g1.heap, g1.tags, T.keep _, rfl, rfl, rfl⟩
 refine .slice _ false 1 _ _ _ _ (fun i j => ys.toArray.getD i undef) rfl (by simp) (Nat.le_refl _) (fun x hx => ?_) (fun x hx y hy => ?_) (fun i x j y hx hy => ?_) (fun i x j y hx hy => ?_) (fun h => by cases h)
 ·obtain ⟨z, _, rfl⟩ := List.mem_map.1 hx
  rfl
 ·obtain ⟨z, hz, rfl⟩ := List.mem_map.1 hx
  have : y = .v z := by simpa [AV.cells] using hy
  subst this
  exact hone z hz
 all_goals
  rw [List.getElem?_map, Option.map_eq_some_iff] at hx
  obtain ⟨z, hz, rfl⟩ := hx
  have hlt : i < ys.length := (List.getElem?_eq_some_iff.1 hz).1
  have hj : j = 0 := by
   match j, hy with
   | 0, _ => rfl
   | j + 1, hy => simp [AV.cells] at hy
  subst hj
 ·refine ⟨by simpa using g2 i (by simpa using hlt), ?_⟩
  rw [World.cell?_alloc_new]
  simp [hlt]
 have : y = .v z := by simpa [AV.cells] using hy.symm
 subst this
 have e : ys.toArray.getD i undef = z := by
  have := List.getElem?_eq_getElem hlt
  rw [this] at hz
  injection hz with hz
  simp [hlt, hz]
 rw [e]
 exact .v _ _
/-- A function that hands back a plain value and, behind an interface value, a new record of plain values. -/
theorem AFun.libErr {xs cs : List Value} {n : Value} {T te : TypeId} (hone : ∀ y ∈ cs, y.oneCell' = true) (h : ∀ w, F5 w → Calls P g xs.toArray w (fun e w' => ∃ N, e = .returned (.tuple #[n, .iface T (.pointer (some ⟨N, 0, none⟩))]) ∧ w.heap.size ≤ N ∧ w'.heap[N]? = some (.cells cs.toArray te (0, 0)) ∧ Below w.heap.size w w')) :
  AFun P g (xs.map .v) Hp (.tup [.v n, .iface T (.ro (cs.map .v))]) := by
 intro d G w vs hn hv hH hT
 have hvs := Of hn (fun i y u a b => ⟨_, hv i y u a b⟩)
 subst hvs
 refine (callsIn_wide.2 (h w (fun x hx => let ⟨_, u, a, b⟩ := hT.glob x hx; ⟨u, a, b⟩))).mono ?_
 rintro e w' ⟨N, rfl, hN, hcell, hb⟩
 have hfree : ∀ o, G.tag N o = .free := fun o => Cy hT _ o hN
 let G' : Gh := { G with tag := fun b o => if b = N ∧ o < cs.length then .fix else G.tag b o }
 have hne : ∀ b o, G.tag b o ≠ .free → ¬ (b = N ∧ o < cs.length) := fun b o hb hc => by rw [hc.1] at hb; exact hb (hfree o)
 have hnew : ∀ o, o < cs.length → w'.cell? ⟨N, o, none⟩ = cs[o]? := fun o ho => by simp [World.cell?, hcell, ho]
 have T1 : Turn G w G' w' := by
  refine ⟨fun b o h => ⟨?_, (E5 hT hb (by rw [h]; simp)).1⟩, fun b o L h => ?_, fun b o i h => ?_, Nat.le_refl _, fun _ _ => rfl, hb.os, hb.tape, hb.output, hb.size,
   Still.tags (fun b hv => hb.block b hv.1) hb.size (fun b o hlt => .inl ?_) (fun _ hi => .inl ⟨hi, rfl⟩)⟩
  ·simp only [G']; rw [if_neg (hne b o (by rw [h]; simp))]; exact h
  ·simp only [G']; rw [if_neg (hne b o (by rw [h]; simp))]; exact h
  ·simp only [G']; rw [if_neg (hne b o (by rw [h]; simp))]; exact h
  simp only [G']; rw [if_neg (by omega)]
 have hH' : HeapRel G' Hp w' := ⟨fun i x hx => by
  have hi : i < G.n := by rw [hH.n]; exact (List.getElem?_eq_some_iff.1 hx).1
  exact T1.objRel hi (hb.block _ (Jd hH i hi)) (hH.obj i x hx) (fun b h => hb.block b h.lt), hH.n, hH.inj⟩
 have hT' : TagOK G' w' := by
  refine ⟨fun b o h => ?_, fun b o i h => ?_, fun b o L h => ?_, hT.globKeep T1.old⟩
  ·simp only [G'] at h
   split at h
   ·rename_i hc; obtain ⟨rfl, ho⟩ := hc; exact ⟨_, (hnew o ho).trans (List.getElem?_eq_getElem ho)⟩
   rw [(E5 hT hb h).1]; exact hT.ex b o h
  ·simp only [G'] at h
   split at h
   ·cases h
   rw [(E5 hT hb (by rw [h]; simp)).2]; exact hT.obj b o i h
  simp only [G'] at h
  split at h
  ·cases h
  rw [(E5 hT hb (by rw [h]; simp)).2]; exact hT.tail b o L h
 refine ⟨_, G', _, Hp, rfl, ?_, hH', hT', T1.keep _, rfl, rfl, rfl⟩
 refine .tup _ _ _ rfl (fun i y u hy hu => ?_)
 match i with
 | 0 => simp at hy hu; subst hy; subst hu; exact .v _ _
 | 1 =>
  simp at hy hu; subst hy; subst hu
  refine .iface _ _ _ _ (.ro _ _ ⟨N, 0, none⟩ (fun j => cs.getD j undef) rfl (fun y hy => ?_) (fun j y hy => ?_) (fun j y hy => ?_))
  ·obtain ⟨z, hz, rfl⟩ := List.mem_map.1 hy
   exact hone z hz
  all_goals
   rw [List.getElem?_map, Option.map_eq_some_iff] at hy
   obtain ⟨z, hz, rfl⟩ := hy
   have hlt : j < cs.length := (List.getElem?_eq_some_iff.1 hz).1
   have e : cs.getD j undef = z := by rw [List.getD_eq_getElem?_getD, hz]; rfl
  ·refine ⟨by simp [G', hlt], ?_⟩
   rw [Nat.zero_add, hnew j hlt, hz, e]
  rw [e]; exact .v _ _
 | i + 2 => simp at hy
theorem TagOK.globIn {G : Gh} {w : World} (h : TagOK G w) : F5 w := fun x hx => (h.glob x hx).2
/-- A package-level variable of which something is known. -/
theorem R.loadGlob {d : Nat} {ops : Array Oper} {rest : List Oper} {sz : Nat} {fr : Nat → AV} {up own : List AObj} {dfs : List Nat} {rnd : Option Nat} {Q : St → Prop} {s : Nat} {ty : TypeId} {pos : String} {aft : Array Edge} {t : TypeId} {gl : Nat} {v : Value}
  (hagg : ∀ w, (isAgg t).run P w = .ok false w) (hv : ∀ w, F5 w → w.cell? ⟨gl, 0, none⟩ = some v) (hr : ARun P d ops rest ⟨sz, A5 s (.v v) fr, up, own, dfs, rnd⟩ Q) (hs : Nat.blt s sz = true := by rfl) :
  ARun P d ops (⟨some s, .load t (.global gl), ty, pos, aft, none⟩ :: rest) ⟨sz, fr, up, own, dfs, rnd⟩ Q := by
 refine ARun.v rfl rfl (by simpa using hs) (OpV.pure (by intro c h; cases h) fun G a w h => ⟨v, ?_, .v _ _⟩) hr
 have hc := hv w h.tags.globIn
 have e : a.eval (.global gl) = .pointer (some ⟨gl, 0, none⟩) := rfl
 simp [execOp, e, Instr.loadAt, Instr.sureAddr, loadVar, hagg, hc]
end
end Go.SX
namespace Go.SX.Nb
open Go Go.SX Go.Proofs
class JU (t : TypeId) (u : outParam TypeDesc) : Prop where h : Tryz.prog.underlying t = some u
theorem jU {t : TypeId} {u : TypeDesc} [i : JU t u] : Tryz.prog.underlying t = some u := i.h
@[reducible, instance] def JU2 := JU.mk Tryz.underlying2
@[reducible, instance] def JU3 := JU.mk Tryz.underlying3
@[reducible, instance] def JU4 := JU.mk Tryz.underlying4
@[reducible, instance] def JU5 := JU.mk Tryz.underlying5
@[reducible, instance] def JU9 := JU.mk Tryz.underlying9
@[reducible, instance] def AEd := JU.mk Tryz.underlying23
@[reducible, instance] def AEe := JU.mk Tryz.underlying25
@[reducible, instance] def AEf := JU.mk Tryz.underlying26
@[reducible, instance] def AEg := JU.mk Tryz.underlying28
@[reducible, instance] def AEh := JU.mk Tryz.underlying30
@[reducible, instance] def AEi := JU.mk Tryz.underlying33
@[reducible, instance] def AEj := JU.mk Tryz.underlying42
@[reducible, instance] def AEk := JU.mk Tryz.underlying47
@[reducible, instance] def AEl := JU.mk Tryz.underlying52
@[reducible, instance] def AEm := JU.mk Tryz.underlying56
@[reducible, instance] def AEn := JU.mk Tryz.underlying80
@[reducible, instance] def AEo := JU.mk Tryz.underlying81
@[reducible, instance] def AEp := JU.mk Tryz.underlying82
@[reducible, instance] def AEq := JU.mk Tryz.underlying84
@[reducible, instance] def AEr := JU.mk Tryz.underlying94
@[reducible, instance] def AE7 := JU.mk Tryz.underlying112
@[reducible, instance] def AE8 := JU.mk Tryz.underlying117
@[reducible, instance] def AE9 := JU.mk Tryz.underlying157
class JS (t : TypeId) (u : outParam Nat) : Prop where h : ∀ w, (Go.sizeOf t).run Tryz.prog w = .ok u w
theorem jS {t : TypeId} {u : Nat} [i : JS t u] : ∀ w, (Go.sizeOf t).run Tryz.prog w = .ok u w := i.h
@[reducible, instance] def JS2 := JS.mk Tryz.sizeOf2
@[reducible, instance] def JS3 := JS.mk Tryz.sizeOf3
@[reducible, instance] def JS4 := JS.mk Tryz.sizeOf4
@[reducible, instance] def JS5 := JS.mk Tryz.sizeOf5
@[reducible, instance] def JS9 := JS.mk Tryz.sizeOf9
@[reducible, instance] def AEs := JS.mk Tryz.sizeOf23
@[reducible, instance] def AEt := JS.mk Tryz.sizeOf25
@[reducible, instance] def AEu := JS.mk Tryz.sizeOf26
@[reducible, instance] def AEv := JS.mk Tryz.sizeOf28
@[reducible, instance] def AEw := JS.mk Tryz.sizeOf30
@[reducible, instance] def AEx := JS.mk Tryz.sizeOf33
@[reducible, instance] def AEy := JS.mk Tryz.sizeOf42
@[reducible, instance] def AEz := JS.mk Tryz.sizeOf52
@[reducible, instance] def AF0 := JS.mk Tryz.sizeOf81
@[reducible, instance] def AF1 := JS.mk Tryz.sizeOf82
@[reducible, instance] def AF2 := JS.mk Tryz.sizeOf84
class JA (t : TypeId) (u : outParam Bool) : Prop where h : ∀ w, (Go.isAgg t).run Tryz.prog w = .ok u w
theorem jA {t : TypeId} {u : Bool} [i : JA t u] : ∀ w, (Go.isAgg t).run Tryz.prog w = .ok u w := i.h
@[reducible, instance] def JA2 := JA.mk Tryz.isAgg2
@[reducible, instance] def JA3 := JA.mk Tryz.isAgg3
@[reducible, instance] def JA4 := JA.mk Tryz.isAgg4
@[reducible, instance] def JA9 := JA.mk Tryz.isAgg9
@[reducible, instance] def AF3 := JA.mk Tryz.isAgg23
@[reducible, instance] def AF4 := JA.mk Tryz.isAgg25
@[reducible, instance] def AF5 := JA.mk Tryz.isAgg26
@[reducible, instance] def AF6 := JA.mk Tryz.isAgg28
@[reducible, instance] def AF7 := JA.mk Tryz.isAgg30
@[reducible, instance] def AF8 := JA.mk Tryz.isAgg31
@[reducible, instance] def AF9 := JA.mk Tryz.isAgg33
@[reducible, instance] def AFa := JA.mk Tryz.isAgg42
@[reducible, instance] def AFb := JA.mk Tryz.isAgg52
@[reducible, instance] def AFc := JA.mk Tryz.isAgg81
@[reducible, instance] def AFd := JA.mk Tryz.isAgg82
@[reducible, instance] def AFe := JA.mk Tryz.isAgg84
@[reducible, instance] def AEa := JA.mk Tryz.isAgg110
class JZ (t : TypeId) (u : outParam Value) : Prop where h : ∀ w, (Go.zeroValue t).run Tryz.prog w = .ok u w
theorem jZ {t : TypeId} {u : Value} [i : JZ t u] : ∀ w, (Go.zeroValue t).run Tryz.prog w = .ok u w := i.h
@[reducible, instance] def JZ3 := JZ.mk Tryz.zeroValue3
@[reducible, instance] def JZ4 := JZ.mk Tryz.zeroValue4
@[reducible, instance] def JZ5 := JZ.mk Tryz.zeroValue5
@[reducible, instance] def JZ9 := JZ.mk Tryz.zeroValue9
@[reducible, instance] def AFf := JZ.mk Tryz.zeroValue23
@[reducible, instance] def AFg := JZ.mk Tryz.zeroValue25
@[reducible, instance] def AFh := JZ.mk Tryz.zeroValue28
@[reducible, instance] def AFi := JZ.mk Tryz.zeroValue30
@[reducible, instance] def AFj := JZ.mk Tryz.zeroValue33
@[reducible, instance] def AFk := JZ.mk Tryz.zeroValue42
@[reducible, instance] def AFl := JZ.mk Tryz.zeroValue47
@[reducible, instance] def AFm := JZ.mk Tryz.zeroValue52
@[reducible, instance] def AFn := JZ.mk Tryz.zeroValue56
@[reducible, instance] def AFo := JZ.mk Tryz.zeroValue84
@[reducible, instance] def AFp := JZ.mk Tryz.zeroValue94
@[reducible, instance] def AEb := JZ.mk Tryz.zeroValue112
@[reducible, instance] def AEc := JZ.mk Tryz.zeroValue117
structure Hk (q : Prop) : Prop where h : q
variable {p q : Prop}
theorem Z0(k:q)(h:Hk q→p:=by intro qk;refine B9 ?_;refine C3 ?_;exact qk.h):p:=h ⟨k⟩
theorem Z1(k:q)(h:Hk q→p:=by intro qk;refine B9 ?_;refine B3 ?_;exact qk.h):p:=h ⟨k⟩
theorem Z2(k:q)(h:Hk q→p:=by intro qk;refine R.fin [2] ?_;refine AW.ret ?_;exact qk.h):p:=h ⟨k⟩
theorem Z3(k:q)(h:Hk q→p:=by intro qk;refine R.nilPtr ?_;refine R.fieldAddrPtr (fo := 1) jU Tryz.sizeOf3 ?_;exact qk.h):p:=h ⟨k⟩
theorem Z4(k:q)(h:Hk q→p:=by intro qk;refine AW.skip ?_;refine K.thN ?_;exact qk.h):p:=h ⟨k⟩
theorem Z5(k:q)(h:Hk q→p:=by intro qk;refine H8 ?_;refine C3 ?_;exact qk.h):p:=h ⟨k⟩
theorem Z6(k:q)(h:Hk q→p:=by intro qk;refine K.blR ?_;refine K.thR ?_;exact qk.h):p:=h ⟨k⟩
theorem Z8(k:q)(h:Hk q→p:=by intro qk;refine W.seq ?_;refine Z0 ?_;exact qk.h):p:=h ⟨k⟩
theorem Z10(k:q)(h:Hk q→p:=by intro qk;refine J4 ?_;refine Fi ?_;exact qk.h):p:=h ⟨k⟩
theorem Z11(k:q)(h:Hk q→p:=by intro qk;refine D.move ?_;refine D.nilPtr ?_;exact qk.h):p:=h ⟨k⟩
theorem Z12(k:q)(h:Hk q→p:=by intro qk;refine Z11 ?_;refine D.fieldAddrPtr (fo := 1) jU Tryz.sizeOf3 ?_;exact qk.h):p:=h ⟨k⟩
theorem Z13(k:q)(h:Hk q→p:=by intro qk;refine R.fieldAddrRo (off := 0) jU Tryz.sizeOf3 ?_;refine Ff ?_;exact qk.h):p:=h ⟨k⟩
theorem Z14(k:q)(h:Hk q→p:=by intro qk;refine C3 ?_;refine G.move ?_;exact qk.h):p:=h ⟨k⟩
theorem Z16(k:q)(h:Hk q→p:=by intro qk;refine Z11 ?_;refine D.fieldAddrPtr (fo := 0) jU Tryz.sizeOf42 ?_;exact qk.h):p:=h ⟨k⟩
theorem Z17(k:q)(h:Hk q→p:=by intro qk;refine R.fin [2, 3] ?_;refine AW.ret ?_;exact qk.h):p:=h ⟨k⟩
theorem Z18(k:q)(h:Hk q→p:=by intro qk;refine B3 ?_;refine B3 ?_;exact qk.h):p:=h ⟨k⟩
theorem Z19(k:q)(h:Hk q→p:=by intro qk;refine K.blN ?_;refine K.thN ?_;exact qk.h):p:=h ⟨k⟩
theorem Z20(k:q)(h:Hk q→p:=by intro qk;refine B9 ?_;refine Kr ?_;exact qk.h):p:=h ⟨k⟩
theorem Z21(k:q)(h:Hk q→p:=by intro qk;refine R.seql ?_;refine B3 ?_;exact qk.h):p:=h ⟨k⟩
theorem Z22(k:q)(h:Hk q→p:=by intro qk;refine Fi ?_;refine Z2 ?_;exact qk.h):p:=h ⟨k⟩
theorem Z23(k:q)(h:Hk q→p:=by intro qk;refine R.add64 ?_;refine B3 ?_;exact qk.h):p:=h ⟨k⟩
theorem Z24(k:q)(h:Hk q→p:=by intro qk;refine Z1 ?_;refine Z2 ?_;exact qk.h):p:=h ⟨k⟩
theorem Z25(k:q)(h:Hk q→p:=by intro qk;refine R.extract ?_;refine R.extract ?_;exact qk.h):p:=h ⟨k⟩
theorem Z26(k:q)(h:Hk q→p:=by intro qk;refine B9 ?_;refine Ph ?_;exact qk.h):p:=h ⟨k⟩
theorem Z27(k:q)(h:Hk q→p:=by intro qk;refine R.fin [4] ?_;refine AW.ret ?_;exact qk.h):p:=h ⟨k⟩
theorem Z28(k:q)(h:Hk q→p:=by intro qk;refine B9 ?_;refine J4 ?_;exact qk.h):p:=h ⟨k⟩
theorem Z29(k:q)(h:Hk q→p:=by intro qk;refine W.seq ?_;refine B9 ?_;exact qk.h):p:=h ⟨k⟩
theorem Z30(k:q)(h:Hk q→p:=by intro qk;refine R.eql ?_;refine B3 ?_;exact qk.h):p:=h ⟨k⟩
theorem Z31(k:q)(h:Hk q→p:=by intro qk;refine Z0 ?_;refine C3 ?_;exact qk.h):p:=h ⟨k⟩
theorem Z33(k:q)(h:Hk q→p:=by intro qk;refine R.fieldAddrRo (off := 5) jU Tryz.sizeOf26 ?_;refine Ff ?_;exact qk.h):p:=h ⟨k⟩
theorem Z34(k:q)(h:Hk q→p:=by intro qk;refine AW.skip ?_;refine Z19 ?_;exact qk.h):p:=h ⟨k⟩
theorem Z35(h:p:=by refine K.thR ?_;exact ABg):p:=h
theorem Z36(k:q)(h:Hk q→p:=by intro qk;refine G.fieldAddrRo (off := 1) jU Tryz.sizeOf9 ?_;refine G.loadRo jA ?_;exact qk.h):p:=h ⟨k⟩
theorem Z37(k:q)(h:Hk q→p:=by intro qk;refine R.fieldAddrRo (off := 2) jU Tryz.sizeOf3 ?_;refine Ff ?_;exact qk.h):p:=h ⟨k⟩
theorem Z38(k:q)(h:Hk q→p:=by intro qk;refine W.seq ?_;refine AW.block ?_;exact qk.h):p:=h ⟨k⟩
theorem Z39(k:q)(h:Hk q→p:=by intro qk;refine F6 ?_;refine B3 ?_;exact qk.h):p:=h ⟨k⟩
theorem Z40(k:q)(h:Hk q→p:=by intro qk;refine AW.exit ?_;refine K.thE ?_;exact qk.h):p:=h ⟨k⟩
theorem Z41(h:p:=by refine K.thR ?_;exact ABh):p:=h
theorem Z43(k:q)(h:Hk q→p:=by intro qk;refine ABi ?_;refine Y.tail (tn := [5])  ?_;exact qk.h):p:=h ⟨k⟩
theorem Z44(k:q)(h:Hk q→p:=by intro qk;refine W.draw [0, 1, 3, 7, 0, 16, 48, 112, 255, 511, 1023, 2047] 8 Ae (by kernel_rfl) ?_;refine Z16 ?_;exact qk.h):p:=h ⟨k⟩
theorem Z45(k:q)(h:Hk q→p:=by intro qk;refine B9 ?_;refine Z21 ?_;exact qk.h):p:=h ⟨k⟩
theorem Z46(k:q)(h:Hk q→p:=by intro qk;refine G.fieldAddrRo (off := 5) jU Tryz.sizeOf26 ?_;refine G.loadRo jA ?_;exact qk.h):p:=h ⟨k⟩
theorem Z47(k:q)(h:Hk q→p:=by intro qk;refine B9 ?_;refine R.boxRo ?_;exact qk.h):p:=h ⟨k⟩
theorem Z48(h:p:=by refine R.fin [] ?_;exact ABj):p:=h
theorem Z49(k:q)(h:Hk q→p:=by intro qk;refine K.lpE ?_;refine K.thN ?_;exact qk.h):p:=h ⟨k⟩
theorem Z50(k:q)(h:Hk q→p:=by intro qk;refine AW.skip ?_;refine K.thJ ?_;exact qk.h):p:=h ⟨k⟩
theorem Z52(k:q)(h:Hk q→p:=by intro qk;refine B9 ?_;refine W0 ?_;exact qk.h):p:=h ⟨k⟩
theorem Z53(k:q)(h:Hk q→p:=by intro qk;refine C3 ?_;refine C3 ?_;exact qk.h):p:=h ⟨k⟩
theorem Z54(k:q)(h:Hk q→p:=by intro qk;refine D.fieldAddrRo (off := 1) jU Tryz.sizeOf9 ?_;refine D.loadRo jA ?_;exact qk.h):p:=h ⟨k⟩
theorem Z55(k:q)(h:Hk q→p:=by intro qk;refine R.fieldAddrRo (off := 1) jU Tryz.sizeOf9 ?_;refine Ff ?_;exact qk.h):p:=h ⟨k⟩
theorem Z56(k:q)(h:Hk q→p:=by intro qk;refine Z5 ?_;refine Z23 ?_;exact qk.h):p:=h ⟨k⟩
theorem Z57(h:p:=by refine Z24 ?_;refine Z6 ?_;exact K.fin (V.one V.tmp) ⟨by simp_all [Gn], rfl⟩):p:=h
theorem Z58(k:q)(h:Hk q→p:=by intro qk;refine R.nilPtr ?_;refine R.fieldAddrPtr (fo := 2) jU Tryz.sizeOf3 ?_;exact qk.h):p:=h ⟨k⟩
theorem Z59(h:p:=by refine Z6 ?_;exact K.fin (V.one (V.cellN jA jS)) ⟨by rw [e]; show _ = Af (.mk 6 (A4 l S.i).text noV (Dc l f (A2 S)).1); rw [hca, eu], by rw [e]; show _ = Hp.set o (pq l (Dd l f (A4 l S.i) (A2 S))); rw [e2]; first | rfl | (simp only [List.set_set])⟩ (hlow := by have := Ag Hp.length (.mk 6 (A4 l S.i).text noV r.1); rw [eu] at this; simpa only [List.length_set] using this)):p:=h
theorem Z61(k:q)(h:Hk q→p:=by intro qk;refine B3 ?_;refine Z17 ?_;exact qk.h):p:=h ⟨k⟩
theorem Z62(k:q)(h:Hk q→p:=by intro qk;refine R.add64 ?_;refine Z3 ?_;exact qk.h):p:=h ⟨k⟩
theorem Z63(k:q)(h:Hk q→p:=by intro qk;refine Rk ?_;refine AW.ret ?_;exact qk.h):p:=h ⟨k⟩
theorem Z64(k:q)(h:Hk q→p:=by intro qk;refine Z0 ?_;refine R.callUp Tryz.call141 ho (by simp) C1 (mi l S o _ (Ab ho) hi hll) ?_;exact qk.h):p:=h ⟨k⟩
theorem Z65(k:q)(h:Hk q→p:=by intro qk;refine R.fieldAddrRo (off := 0) jU Tryz.sizeOf4 ?_;refine Ff ?_;exact qk.h):p:=h ⟨k⟩
theorem Z66(k:q)(h:Hk q→p:=by intro qk;refine R.fin [0, 1] ?_;refine W.drawY [0, 1, 3, 7, 0, 16, 48, 112, 255, 511, 0, 2047] [] [.q 10 [] [], .s [5] none [] [], .s [5] none [] []] (fun _ => Hp) (fun _ => []) Ae (by kernel_rfl) rfl rfl (fun _ => rfl) ?_;exact qk.h):p:=h ⟨k⟩
theorem Z67(h:p:=by refine AW.skip ?_;exact ABj):p:=h
theorem Z68(k:q)(h:Hk q→p:=by intro qk;refine R.nilPtr ?_;refine R.fieldAddrPtr (fo := 0) jU Tryz.sizeOf90 ?_;exact qk.h):p:=h ⟨k⟩
theorem Z69(k:q)(h:Hk q→p:=by intro qk;refine C3 ?_;refine R.slen jU ?_;exact qk.h):p:=h ⟨k⟩
theorem Z70(h:p:=by refine D.buildSlice jU jS jZ ?_;exact Jj):p:=h
theorem Z72(h:p:=by refine R.fin [] ?_;exact K.finN .nores (hp := ⟨rfl, by first | (rw [e]; exact (Td hne ho hoq).symm) | (rw [e]; exact (B5 (jb hne hoq)).symm) | (rw [e]; simp only [List.set_set]; exact (B5 (jb hne hoq)).symm) | (rw [e]; simp only [List.set_set]; rw [o3 hne]; rfl) | (rw [e]; simp only [List.set_set]; rw [List.set_comm _ _ hne]; rfl)⟩)):p:=h
theorem Z73(k:q)(h:Hk q→p:=by intro qk;refine B9 ?_;refine Z30 ?_;exact qk.h):p:=h ⟨k⟩
theorem Z74(h:p:=by refine Z6 ?_;exact ABg):p:=h
theorem Z76(k:q)(h:Hk q→p:=by intro qk;refine Zk ?_;refine R.indexArrPtr ((i + k)) jU Tryz.sizeOf81 (by omega) (hm := by omega) ?_;exact qk.h):p:=h ⟨k⟩
theorem Z77(k:q)(h:Hk q→p:=by intro qk;refine Z28 ?_;refine R.fin [0, 2] ?_;exact qk.h):p:=h ⟨k⟩
theorem Z78(k:q)(h:Hk q→p:=by intro qk;refine C3 ?_;refine Z25 ?_;exact qk.h):p:=h ⟨k⟩
theorem Z79(k:q)(h:Hk q→p:=by intro qk;refine D.loadUp jA ho ?_;refine Z12 ?_;exact qk.h):p:=h ⟨k⟩
theorem Z80(k:q)(h:Hk q→p:=by intro qk;refine D.indexArrRo ((k - 1)) jU Tryz.sizeOf81 (by omega) (hm := by omega) (hoff := Mo (by omega)) ?_;refine D.loadRo jA ?_;exact qk.h):p:=h ⟨k⟩
theorem Z81(k:q)(h:Hk q→p:=by intro qk;refine Z40 ?_;refine Z49 ?_;exact qk.h):p:=h ⟨k⟩
theorem Z82(h:p:=by refine Z50 ?_;exact StLe.of_eq (by simp [*])):p:=h
theorem Z83(h:p:=by refine K.thR ?_;exact K.fin (V.one (V.cellN jA jS)) ⟨by rw [e, A8], by rw [e]⟩ (hlow := low_agg _)):p:=h
theorem Z85(k:q)(h:Hk q→p:=by intro qk;refine R.nilPtr ?_;refine R.fieldAddrPtr (fo := 3) jU Tryz.sizeOf33 ?_;refine rm ?_;exact qk.h):p:=h ⟨k⟩
theorem Z86(k:q)(h:Hk q→p:=by intro qk;refine W1 ?_;refine Ph ?_;exact qk.h):p:=h ⟨k⟩
theorem Z87(k:q)(h:Hk q→p:=by intro qk;refine R.loadUp jA ho ?_;refine Z62 ?_;exact qk.h):p:=h ⟨k⟩
theorem Z88(k:q)(h:Hk q→p:=by intro qk;refine Fi ?_;refine Z17 ?_;exact qk.h):p:=h ⟨k⟩
theorem Z89(k:q)(h:Hk q→p:=by intro qk;refine Fi ?_;refine Z27 ?_;exact qk.h):p:=h ⟨k⟩
theorem Z90(k:q)(h:Hk q→p:=by intro qk;refine R.fieldAddrPtr (fo := 2) jU Tryz.sizeOf3 ?_;refine Kq ?_;exact qk.h):p:=h ⟨k⟩
theorem Z91(k:q)(h:Hk q→p:=by intro qk;refine R.fieldAddrPtr (fo := 0) jU Tryz.sizeOf3 ?_;refine Kq ?_;exact qk.h):p:=h ⟨k⟩
theorem Z92(k:q)(h:Hk q→p:=by intro qk;refine G.fieldAddrRo (off := 0) jU Tryz.sizeOf3 ?_;refine G.loadRo jA ?_;exact qk.h):p:=h ⟨k⟩
theorem Z93(k:q)(h:Hk q→p:=by intro qk;refine ABi ?_;refine Y.tail (tn := [2])  ?_;exact qk.h):p:=h ⟨k⟩
theorem Z94(k:q)(h:Hk q→p:=by intro qk;refine R.fin [6] ?_;refine AW.ret ?_;exact qk.h):p:=h ⟨k⟩
theorem Z95(k:q)(h:Hk q→p:=by intro qk;refine R.build (places := #[(0, 1), (1, 5)]) jU (fun w => by simp) jZ ?_;refine Z10 ?_;exact qk.h):p:=h ⟨k⟩
theorem Z96(k:q)(h:Hk q→p:=by intro qk;refine Fi ?_;refine Pi ?_;exact qk.h):p:=h ⟨k⟩
theorem Z97(k:q)(h:Hk q→p:=by intro qk;refine B3 ?_;refine Z2 ?_;exact qk.h):p:=h ⟨k⟩
theorem Z98(k:q)(h:Hk q→p:=by intro qk;refine Zk ?_;refine R.indexArrPtr (0) jU Tryz.sizeOf81 (by decide) ?_;exact qk.h):p:=h ⟨k⟩
theorem Z99(k:q)(h:Hk q→p:=by intro qk;refine R.indexAddr (0) (Af (e.kids.getD 0 Aj)) jU jS (Mn (by omega)).1 ?_;refine I7 ?_;exact qk.h):p:=h ⟨k⟩
theorem zi(k:q)(h:Hk q→p:=by intro qk;refine D.tail ?_;refine R.indexAddr (S.i) (D0 (A4 l S.i)) jU jS (Fm hi) ?_;exact qk.h):p:=h ⟨k⟩
theorem wj(h:p:=by refine Rl ?_;exact Jj):p:=h
theorem Yp(k:q)(h:Hk q→p:=by intro qk;refine F6 ?_;refine C3 ?_;exact qk.h):p:=h ⟨k⟩
theorem Pd(k:q)(h:Hk q→p:=by intro qk;refine Z14 ?_;refine G.move ?_;exact qk.h):p:=h ⟨k⟩
theorem Yq(k:q)(h:Hk q→p:=by intro qk;refine gz ?_;refine K.thJ ?_;exact qk.h):p:=h ⟨k⟩
theorem wl(h:p:=by refine K.thJ ?_;exact xv):p:=h
theorem Yr(k:q)(h:Hk q→p:=by intro qk;refine R.nilPtr ?_;refine R.fieldAddrPtr (fo := 2) jU Tryz.sizeOf33 ?_;refine rm ?_;exact qk.h):p:=h ⟨k⟩
theorem wm(h:p:=by refine D.loadRoN jA jS ?_;exact Jj):p:=h
theorem Ji(k:q)(h:Hk q→p:=by intro qk;refine Z4 ?_;refine Z38 ?_;exact qk.h):p:=h ⟨k⟩
theorem Lq(k:q)(h:Hk q→p:=by intro qk;refine Z1 ?_;refine R.fin [0] ?_;exact qk.h):p:=h ⟨k⟩
theorem zj(k:q)(h:Hk q→p:=by intro qk;refine B3 ?_;refine R.fin [1] ?_;exact qk.h):p:=h ⟨k⟩
theorem O8(k:q)(h:Hk q→p:=by intro qk;refine Z45 ?_;refine R.fin [13] ?_;exact qk.h):p:=h ⟨k⟩
theorem q9(k:q)(h:Hk q→p:=by intro qk;refine ln ?_;refine Fi ?_;exact qk.h):p:=h ⟨k⟩
theorem qa(k:q)(h:Hk q→p:=by intro qk;refine R.indexAddr (x) (Af e.kids[x]) jU jS (Fj hlt) ?_;refine I7 ?_;exact qk.h):p:=h ⟨k⟩
theorem U3(k:q)(h:Hk q→p:=by intro qk;refine D.move ?_;refine D.move ?_;exact qk.h):p:=h ⟨k⟩
theorem Vn(k:q)(h:Hk q→p:=by intro qk;refine Z0 ?_;refine Z3 ?_;exact qk.h):p:=h ⟨k⟩
theorem qb(k:q)(h:Hk q→p:=by intro qk;refine Z18 ?_;refine B3 ?_;exact qk.h):p:=h ⟨k⟩
theorem ge(k:q)(h:Hk q→p:=by intro qk;refine Z39 ?_;refine Z2 ?_;exact qk.h):p:=h ⟨k⟩
theorem zk(h:p:=by refine Z88 ?_;exact K.fin (V.two (V.cellN jA jS) (V.cellN jA jS)) ⟨by rw [e] <;> rfl, rfl⟩ (hlow := by have := du (n := Hp.length) (q := (r3Q (A6 s).1).1); simp at this ⊢; exact this)):p:=h
theorem Ys(k:q)(h:Hk q→p:=by intro qk;refine Z6 ?_;refine K.lpR ?_;exact qk.h):p:=h ⟨k⟩
theorem Rf(k:q)(h:Hk q→p:=by intro qk;refine R.fin [] ?_;refine AW.ret ?_;exact qk.h):p:=h ⟨k⟩
theorem kt(k:q)(h:Hk q→p:=by intro qk;refine Z11 ?_;refine D.fieldAddrPtr (fo := 0) jU Tryz.sizeOf90 ?_;exact qk.h):p:=h ⟨k⟩
theorem O9(h:p:=by refine Z34 ?_;refine Z24 ?_;exact K.fin (V.one V.tmp) ⟨by simp_all [Gn], rfl⟩):p:=h
theorem Pe(k:q)(h:Hk q→p:=by intro qk;refine Z4 ?_;refine AW.block ?_;exact qk.h):p:=h ⟨k⟩
theorem Lr(k:q)(h:Hk q→p:=by intro qk;refine W.seq ?_;refine Z1 ?_;exact qk.h):p:=h ⟨k⟩
theorem U4(k:q)(h:Hk q→p:=by intro qk;refine R.eql ?_;refine Z14 ?_;exact qk.h):p:=h ⟨k⟩
theorem Yt(k:q)(h:Hk q→p:=by intro qk;refine Kq ?_;refine R.neq ?_;exact qk.h):p:=h ⟨k⟩
theorem Yu(k:q)(h:Hk q→p:=by intro qk;refine B9 ?_;refine Z13 ?_;exact qk.h):p:=h ⟨k⟩
theorem Rg(k:q)(h:Hk q→p:=by intro qk;refine G.move ?_;refine G.move ?_;exact qk.h):p:=h ⟨k⟩
theorem wn(h:p:=by refine D.build (places := #[(0, 1), (1, 1)]) jU (fun w => by simp) jZ ?_;exact Jj):p:=h
theorem qc(h:p:=by refine K.thR ?_;exact K.fin (V.one V.tmp) ⟨by rw [hf], rfl⟩):p:=h
theorem Oa(k:q)(h:Hk q→p:=by intro qk;refine Z4 ?_;refine B9 ?_;exact qk.h):p:=h ⟨k⟩
theorem Pf(k:q)(h:Hk q→p:=by intro qk;refine Z1 ?_;refine Z61 ?_;exact qk.h):p:=h ⟨k⟩
theorem qd(k:q)(h:Hk q→p:=by intro qk;refine Z53 ?_;refine R.indexAddr (i) (D0 (A4 l i)) jU jS (Fm hi) ?_;exact qk.h):p:=h ⟨k⟩
theorem qe(k:q)(h:Hk q→p:=by intro qk;refine R.fieldAddrPtr (fo := 1) jU Tryz.sizeOf9 ?_;refine Fi ?_;exact qk.h):p:=h ⟨k⟩
theorem qf(k:q)(h:Hk q→p:=by intro qk;refine G.fieldAddrRo (off := 2) jU Tryz.sizeOf25 ?_;refine G.loadRoN jA jS ?_;exact qk.h):p:=h ⟨k⟩
theorem gg(h:p:=by refine D.assign ?_;exact Jj):p:=h
theorem qg(k:q)(h:Hk q→p:=by intro qk;refine R.add64 ?_;refine C3 ?_;exact qk.h):p:=h ⟨k⟩
theorem Ob(k:q)(h:Hk q→p:=by intro qk;refine Z19 ?_;refine Z56 ?_;exact qk.h):p:=h ⟨k⟩
theorem wo(k:q)(h:Hk q→p:=by intro qk;refine D.build (places := #[(0, 1), (1, 1), (2, 6), (8, 1)]) jU (fun w => by simp) jZ ?_;refine Z11 ?_;exact qk.h):p:=h ⟨k⟩
theorem wq(k:q)(h:Hk q→p:=by intro qk;refine Z69 ?_;refine R.lss ?_;exact qk.h):p:=h ⟨k⟩
theorem qh(k:q)(h:Hk q→p:=by intro qk;refine lq ?_;refine Kq ?_;exact qk.h):p:=h ⟨k⟩
theorem Rh(k:q)(h:Hk q→p:=by intro qk;refine R.eql ?_;refine C3 ?_;exact qk.h):p:=h ⟨k⟩
theorem qi(k:q)(h:Hk q→p:=by intro qk;refine H.fieldAddrRo (off := 1) jU Tryz.sizeOf9 ?_;refine H.loadRo jA ?_;exact qk.h):p:=h ⟨k⟩
theorem qj(k:q)(h:Hk q→p:=by intro qk;refine R.call Tryz.call167 (c167 l S o _ (Ab ho) hi) ?_;refine Z10 ?_;exact qk.h):p:=h ⟨k⟩
theorem Vo(k:q)(h:Hk q→p:=by intro qk;refine Fi ?_;refine Z61 ?_;exact qk.h):p:=h ⟨k⟩
theorem Yv(k:q)(h:Hk q→p:=by intro qk;refine Y.allocP Tryz.zeroValue52 ?_;refine Y.storeP Tryz.sizeOf52 ?_;refine Y.tail (tn := [])  ?_;exact qk.h):p:=h ⟨k⟩
theorem ql(k:q)(h:Hk q→p:=by intro qk;refine G.fieldAddrRo (off := 8) jU Tryz.sizeOf3 ?_;refine G.loadRo jA ?_;exact qk.h):p:=h ⟨k⟩
theorem wr(k:q)(h:Hk q→p:=by intro qk;refine Zk ?_;refine R.indexArrPtr (k) jU Tryz.sizeOf81 hk ?_;exact qk.h):p:=h ⟨k⟩
theorem qm(k:q)(h:Hk q→p:=by intro qk;refine R.nilPtr ?_;refine R.fieldAddrPtr (fo := 2) jU Tryz.sizeOf33 ?_;exact qk.h):p:=h ⟨k⟩
theorem Yw(k:q)(h:Hk q→p:=by intro qk;refine H8 ?_;refine B3 ?_;exact qk.h):p:=h ⟨k⟩
theorem wt(h:p:=by refine K.thR ?_;exact ABf):p:=h
theorem Vp(k:q)(h:Hk q→p:=by intro qk;refine Z21 ?_;refine R.fin [3, 9] ?_;exact qk.h):p:=h ⟨k⟩
theorem U5(k:q)(h:Hk q→p:=by intro qk;refine F6 ?_;refine Z14 ?_;exact qk.h):p:=h ⟨k⟩
theorem Ls(k:q)(h:Hk q→p:=by intro qk;refine Z4 ?_;refine Z0 ?_;exact qk.h):p:=h ⟨k⟩
theorem wu(h:p:=by refine D.fieldAddrPtr (fo := 0) jU Tryz.sizeOf3 ?_;exact Jj):p:=h
theorem Yx(k:q)(h:Hk q→p:=by intro qk;refine R.loadUp jA ho ?_;refine R.neq ?_;exact qk.h):p:=h ⟨k⟩
theorem wv(h:p:=by refine D.fieldAddrPtr (fo := 5) jU Tryz.sizeOf26 ?_;exact Jj):p:=h
theorem ww(h:p:=by refine D.fieldAddrPtr (fo := 1) jU Tryz.sizeOf23 ?_;exact Jj):p:=h
theorem Pg(k:q)(h:Hk q→p:=by intro qk;refine Z8 ?_;refine R.lss ?_;exact qk.h):p:=h ⟨k⟩
theorem wx(k:q)(h:Hk q→p:=by intro qk;refine Z0 ?_;refine W0 ?_;exact qk.h):p:=h ⟨k⟩
theorem Vq(k:q)(h:Hk q→p:=by intro qk;refine H7 ?_;refine C3 ?_;exact qk.h):p:=h ⟨k⟩
theorem zl(h:p:=by refine K.thR ?_;exact K.fin .nores (hp := ⟨rfl, by first | (rw [e]; done) | (rw [e]; rfl) | (rw [e]; exact (B5 ho).symm)⟩)):p:=h
theorem wy(k:q)(h:Hk q→p:=by intro qk;refine Z16 ?_;refine Z79 ?_;exact qk.h):p:=h ⟨k⟩
theorem wz(h:p:=by refine K.thR ?_;exact K.fin (V.two V.tmp V.tmp) ⟨by rw [hw], rfl⟩):p:=h
theorem Yy(k:q)(h:Hk q→p:=by intro qk;refine R.fin [0, 2, 3] ?_;refine Z0 ?_;exact qk.h):p:=h ⟨k⟩
theorem x5(h:p:=by refine G.eql ?_;refine ge ?_;refine Z6 ?_;exact ABk):p:=h
theorem x6(h:p:=by refine Z6 ?_;exact K.fin (V.one V.tmp) ⟨by simp_all [bq], rfl⟩):p:=h
theorem zm(h:p:=by refine Z27 ?_;exact K.fin (V.one V.tmp) ⟨rfl, by first | (rw [e]; done) | (rw [e]; rfl) | (rw [e]; exact (B5 ho).symm)⟩):p:=h
theorem U6(k:q)(h:Hk q→p:=by intro qk;refine Z8 ?_;refine Z85 ?_;exact qk.h):p:=h ⟨k⟩
theorem zn(h:p:=by refine Z17 ?_;exact ABh):p:=h
theorem zo(h:p:=by refine K.blN ?_;exact K.lpN (z + 1) ⟨by have := hz.1; omega, uc hz.1 hz.2 hzl hzq⟩ (by omega) (StCut.of_eq rfl)):p:=h
theorem Ri(k:q)(h:Hk q→p:=by intro qk;refine Vn ?_;refine Z87 ?_;exact qk.h):p:=h ⟨k⟩
theorem Yz(k:q)(h:Hk q→p:=by intro qk;refine Fi ?_;refine Z94 ?_;exact qk.h):p:=h ⟨k⟩
theorem x7(h:p:=by refine D.fieldAddrPtr (fo := 2) jU Tryz.sizeOf33 ?_;exact wj):p:=h
theorem x8(k:q)(h:Hk q→p:=by intro qk;refine Z46 ?_;refine G.len jU ?_;exact qk.h):p:=h ⟨k⟩
theorem ku(k:q)(h:Hk q→p:=by intro qk;refine R.loadUp jA (Aa ho) ?_;refine Z62 ?_;exact qk.h):p:=h ⟨k⟩
theorem gh(k:q)(h:Hk q→p:=by intro qk;refine Z47 ?_;refine zj ?_;exact qk.h):p:=h ⟨k⟩
theorem kv(h:p:=by refine W.keep [3, 8] ?_;exact Z82):p:=h
theorem Vr(k:q)(h:Hk q→p:=by intro qk;refine Z20 ?_;refine Z22 ?_;exact qk.h):p:=h ⟨k⟩
theorem zp(h:p:=by refine K.thR ?_;exact K.fin (V.three (V.cellN jA jS) V.tmp (V.cellN jA jS)) ⟨by rw [e, ml] <;> rfl, rfl⟩):p:=h
theorem gi(h:p:=by refine R.fin [] ?_;refine K.blN ?_;exact K.finN .nores ⟨rfl, by rw [pe] <;> simp [Ip]⟩):p:=h
theorem Z7(k:q)(h:Hk q→p:=by intro qk;refine R.len jU ?_;refine C3 ?_;exact qk.h):p:=h ⟨k⟩
theorem gj(k:q)(h:Hk q→p:=by intro qk;refine B9 ?_;refine Ff ?_;exact qk.h):p:=h ⟨k⟩
theorem Z9(k:q)(h:Hk q→p:=by intro qk;refine Z1 ?_;refine R.fin [0, 1] ?_;exact qk.h):p:=h ⟨k⟩
theorem Za(k:q)(h:Hk q→p:=by intro qk;refine R.slen jU ?_;refine R.gtr ?_;exact qk.h):p:=h ⟨k⟩
theorem kw(k:q)(h:Hk q→p:=by intro qk;refine wy ?_;refine D.loadUp jA ho ?_;refine D.indexAddr (S.i) (D0 (A4 l S.i)) jU jS (Fm hi) ?_;exact qk.h):p:=h ⟨k⟩
theorem kx(k:q)(h:Hk q→p:=by intro qk;refine Z8 ?_;refine wq ?_;exact qk.h):p:=h ⟨k⟩
theorem zq(k:q)(h:Hk q→p:=by intro qk;refine W.draw0 [0, 0, 0, 4, 12, 28, 0, 64, 192, 448, 1020, 2044, 4092, 8190, 16383, 32767, 65535] 14 Ae (by kernel_rfl) ?_;refine U3 ?_;exact qk.h):p:=h ⟨k⟩
theorem Zb(k:q)(h:Hk q→p:=by intro qk;refine R.len jU ?_;refine R.lss ?_;exact qk.h):p:=h ⟨k⟩
theorem zr(h:p:=by refine R.fin [1, 3, 4] ?_;exact K.lpN (x + 1) hlt (by omega) (by simp only [em]; exact StCut.of_eq rfl)):p:=h
theorem qn(h:p:=by refine ge ?_;exact K.fin (V.one V.tmp)):p:=h
theorem x9(k:q)(h:Hk q→p:=by intro qk;refine G.fieldAddrRo (off := 2) jU Tryz.sizeOf28 ?_;refine G.loadRoN jA jS ?_;exact qk.h):p:=h ⟨k⟩
theorem xa(k:q)(h:Hk q→p:=by intro qk;refine R.fieldAddrPtr (fo := 1) jU Tryz.sizeOf9 ?_;refine Kq ?_;exact qk.h):p:=h ⟨k⟩
theorem zt(h:p:=by refine D.build (places := #[(0, 1), (1, 1), (2, 6), (8, 1)]) jU (fun w => by simp) jZ ?_;exact wj):p:=h
theorem qq(h:p:=by refine Z27 ?_;exact K.fin (V.one V.tmp)):p:=h
theorem qr(h:p:=by refine Z97 ?_;exact K.fin (V.one V.tmp)):p:=h
theorem ky(h:p:=by refine Yp ?_;refine x8 ?_;exact x5):p:=h
theorem xb(k:q)(h:Hk q→p:=by intro qk;refine Z12 ?_;refine D.loadOwn jA ?_;exact qk.h):p:=h ⟨k⟩
theorem Vs(k:q)(h:Hk q→p:=by intro qk;refine Z8 ?_;refine C3 ?_;exact qk.h):p:=h ⟨k⟩
theorem qt(h:p:=by refine D.move ?_;exact Jj):p:=h
theorem xc(h:p:=by refine Z27 ?_;exact K.fin (V.one V.tmp) ⟨rfl, rfl⟩):p:=h
theorem zu(h:p:=by refine Vr ?_;exact K.fin (V.one (V.cellN jA jS)) ⟨by simp only [ef, hm] <;> simp_all, rfl⟩):p:=h
theorem xd(k:q)(h:Hk q→p:=by intro qk;refine lq ?_;refine Fi ?_;exact qk.h):p:=h ⟨k⟩
theorem kz(k:q)(h:Hk q→p:=by intro qk;refine B9 ?_;refine I7 ?_;exact qk.h):p:=h ⟨k⟩
theorem xe(k:q)(h:Hk q→p:=by intro qk;refine R.fieldAddrRo (off := 1) jU Tryz.sizeOf23 ?_;refine Ff ?_;exact qk.h):p:=h ⟨k⟩
theorem Zc(k:q)(h:Hk q→p:=by intro qk;refine Ys ?_;refine K.thR ?_;exact qk.h):p:=h ⟨k⟩
theorem l3(k:q)(h:Hk q→p:=by intro qk;refine Z1 ?_;refine qb ?_;exact qk.h):p:=h ⟨k⟩
theorem xf(k:q)(h:Hk q→p:=by intro qk;refine D.fieldAddrRo (off := 2) jU Tryz.sizeOf3 ?_;refine D.loadRo jA ?_;exact qk.h):p:=h ⟨k⟩
theorem xg(k:q)(h:Hk q→p:=by intro qk;refine G.fieldAddrRo (off := 1) jU Tryz.sizeOf23 ?_;refine G.loadRo jA ?_;exact qk.h):p:=h ⟨k⟩
theorem zv(k:q)(h:Hk q→p:=by intro qk;refine H.move ?_;refine H.nilPtr ?_;exact qk.h):p:=h ⟨k⟩
theorem qu(k:q)(h:Hk q→p:=by intro qk;refine W1 ?_;refine R.assignT ?_;exact qk.h):p:=h ⟨k⟩
theorem zw(h:p:=by refine G.call Tryz.call100 (fun hB => ABn e.text Kh hs (by decide) _) ?_;exact ky):p:=h
theorem l4(k:q)(h:Hk q→p:=by intro qk;refine B3 ?_;refine R.fin [1, 4] ?_;exact qk.h):p:=h ⟨k⟩
theorem gk(k:q)(h:Hk q→p:=by intro qk;refine H8 ?_;refine qg ?_;exact qk.h):p:=h ⟨k⟩
theorem gm(k:q)(h:Hk q→p:=by intro qk;refine B9 ?_;refine Z55 ?_;exact qk.h):p:=h ⟨k⟩
theorem zx(h:p:=by refine lr ?_;exact K.lpN (k + 1) hk (by omega) (StCut.of_eq rfl)):p:=h
theorem gn(k:q)(h:Hk q→p:=by intro qk;refine J4 ?_;refine Z10 ?_;refine Fi ?_;exact qk.h):p:=h ⟨k⟩
theorem qv(k:q)(h:Hk q→p:=by intro qk;refine Fi ?_;refine R.fin [4, 5, 6] ?_;exact qk.h):p:=h ⟨k⟩
theorem xh(h:p:=by refine K.thJ ?_;exact StLe.of_eq (by simp [*])):p:=h
theorem l5(k:q)(h:Hk q→p:=by intro qk;refine R.loadUp jA ho ?_;refine R.eql ?_;exact qk.h):p:=h ⟨k⟩
theorem xi(k:q)(h:Hk q→p:=by intro qk;refine zv ?_;refine H.fieldAddrPtr (fo := 0) jU Tryz.sizeOf42 ?_;exact qk.h):p:=h ⟨k⟩
theorem zy(k:q)(h:Hk q→p:=by intro qk;refine Z18 ?_;refine Z18 ?_;exact qk.h):p:=h ⟨k⟩
theorem qw(k:q)(h:Hk q→p:=by intro qk;refine U6 ?_;refine R.loadUp jA (Aa ho) ?_;exact qk.h):p:=h ⟨k⟩
theorem xj(k:q)(h:Hk q→p:=by intro qk;refine zv ?_;refine H.fieldAddrPtr (fo := 1) jU Tryz.sizeOf3 ?_;exact qk.h):p:=h ⟨k⟩
theorem Vt(k:q)(h:Hk q→p:=by intro qk;refine Z0 ?_;refine Yr ?_;exact qk.h):p:=h ⟨k⟩
theorem xk(k:q)(h:Hk q→p:=by intro qk;refine rm ?_;refine Yt ?_;exact qk.h):p:=h ⟨k⟩
theorem qx(k:q)(h:Hk q→p:=by intro qk;refine Pi ?_;refine K.thJ ?_;exact qk.h):p:=h ⟨k⟩
theorem l6(h:p:=by refine kw ?_;exact wm):p:=h
theorem Vu(k:q)(h:Hk q→p:=by intro qk;refine Z22 ?_;refine Z6 ?_;exact qk.h):p:=h ⟨k⟩
theorem l7(k:q)(h:Hk q→p:=by intro qk;refine Kq ?_;refine Z62 ?_;exact qk.h):p:=h ⟨k⟩
theorem zz(h:p:=by refine K.thR ?_;exact ABe):p:=h
theorem gq(k:q)(h:Hk q→p:=by intro qk;refine D.move ?_;refine D.fieldAddrPtr (fo := 1) jU Tryz.sizeOf82 ?_;refine D.indexArrPtr (k) jU Tryz.sizeOf81 hk ?_;refine D.loadOwn jA (hy := oy hk) ?_;exact qk.h):p:=h ⟨k⟩
theorem AA0(h:p:=by refine Z24 ?_;exact ABk):p:=h
theorem xl(k:q)(h:Hk q→p:=by intro qk;refine I7 ?_;refine R.call Tryz.call68 (c68 e _) ?_;exact qk.h):p:=h ⟨k⟩
theorem Vw(k:q)(h:Hk q→p:=by intro qk;refine Z1 ?_;refine Z27 ?_;exact qk.h):p:=h ⟨k⟩
theorem l8(k:q)(h:Hk q→p:=by intro qk;refine Kq ?_;refine U4 ?_;exact qk.h):p:=h ⟨k⟩
theorem l9(h:p:=by refine Z24 ?_;refine Z6 ?_;exact K.fin (V.one V.tmp) ⟨by simp_all [Lk], rfl⟩):p:=h
theorem AA1(k:q)(h:Hk q→p:=by intro qk;refine Ji ?_;refine W.draw [0, 0, 3, 7, 15, 0, 0, 96, 224, 511, 0, 2047, 4095] 11 Ae (by kernel_rfl) ?_;exact qk.h):p:=h ⟨k⟩
theorem AA2(h:p:=by refine Vr ?_;exact K.fin (V.one (V.cellN jA jS)) ⟨by simp [ht5], rfl⟩):p:=h
theorem gr(k:q)(h:Hk q→p:=by intro qk;refine K.blR ?_;refine K.lpR ?_;exact qk.h):p:=h ⟨k⟩
theorem AA3(k:q)(h:Hk q→p:=by intro qk;refine Ph ?_;refine Fi ?_;exact qk.h):p:=h ⟨k⟩
theorem xm(k:q)(h:Hk q→p:=by intro qk;refine W1 ?_;refine W1 ?_;exact qk.h):p:=h ⟨k⟩
theorem AA4(k:q)(h:Hk q→p:=by intro qk;refine W0 ?_;refine W1 ?_;exact qk.h):p:=h ⟨k⟩
theorem la(k:q)(h:Hk q→p:=by intro qk;refine Z45 ?_;refine R.fin [3, 8] ?_;exact qk.h):p:=h ⟨k⟩
theorem AA5(k:q)(h:Hk q→p:=by intro qk;refine Zk ?_;refine R.indexArrPtr (2) jU Tryz.sizeOf81 (by decide) ?_;exact qk.h):p:=h ⟨k⟩
theorem Zd(k:q)(h:Hk q→p:=by intro qk;refine Z4 ?_;refine Z20 ?_;exact qk.h):p:=h ⟨k⟩
theorem gt(k:q)(h:Hk q→p:=by intro qk;refine Z0 ?_;refine B3 ?_;exact qk.h):p:=h ⟨k⟩
theorem Ze(k:q)(h:Hk q→p:=by intro qk;refine zy ?_;refine Z63 ?_;exact qk.h):p:=h ⟨k⟩
theorem lb(h:p:=by refine R.nilCell 0 1 1 ?_;refine R.nilCell 0 7 6 ?_;refine Z88 ?_;refine K.thR ?_;exact K.fin (V.two (V.cellN jA jS) (V.cellN jA jS)) ⟨by rw [e] <;> rfl, rfl⟩):p:=h
theorem xn(k:q)(h:Hk q→p:=by intro qk;refine Z56 ?_;refine lw ?_;exact qk.h):p:=h ⟨k⟩
theorem Zf(k:q)(h:Hk q→p:=by intro qk;refine Z34 ?_;refine Z56 ?_;exact qk.h):p:=h ⟨k⟩
theorem AA6(k:q)(h:Hk q→p:=by intro qk;refine Z90 ?_;refine R.callUp Tryz.call82 ho (by simp) C1 (c82 l S 8 (A4 l S.i).at_ o _ (Ab ho)) ?_;exact qk.h):p:=h ⟨k⟩
theorem AA7(h:p:=by refine Z89 ?_;exact ABa):p:=h
theorem AA8(k:q)(h:Hk q→p:=by intro qk;refine R.call Tryz.call55 (AE1 _) ?_;refine R.build (places := #[(0, 1), (1, 5)]) jU (fun w => by simp) jZ ?_;exact qk.h):p:=h ⟨k⟩
theorem qy(k:q)(h:Hk q→p:=by intro qk;refine W.keep [2, 3, 6, 7] ?_;refine Z50 ?_;exact qk.h):p:=h ⟨k⟩
theorem lc(k:q)(h:Hk q→p:=by intro qk;refine G.eql ?_;refine G.pickOr ?_;exact qk.h):p:=h ⟨k⟩
theorem AA9(k:q)(h:Hk q→p:=by intro qk;refine H.call Tryz.call101 (fun hB => ABo e.text _) ?_;refine H.fieldAddrRo (off := 5) jU Tryz.sizeOf26 ?_;exact qk.h):p:=h ⟨k⟩
theorem AAa(k:q)(h:Hk q→p:=by intro qk;refine R.indexAddr (1) (Af (e.kids.getD 1 Aj)) jU jS (Mn (by omega)).1 ?_;refine I7 ?_;exact qk.h):p:=h ⟨k⟩
theorem Vx(k:q)(h:Hk q→p:=by intro qk;refine Z5 ?_;refine Z3 ?_;exact qk.h):p:=h ⟨k⟩
theorem AAb(k:q)(h:Hk q→p:=by intro qk;refine Zk ?_;refine R.indexArrPtr (1) jU Tryz.sizeOf81 (by decide) ?_;exact qk.h):p:=h ⟨k⟩
theorem AAc(k:q)(h:Hk q→p:=by intro qk;refine Zd ?_;refine R.call Tryz.call58 (c58 _ (rdL d).1 (Nat.lt_of_lt_of_le (hlow ht77) (by decide)) _) ?_;exact qk.h):p:=h ⟨k⟩
theorem qz(h:p:=by refine K.blN ?_;exact wl):p:=h
theorem gu(k:q)(h:Hk q→p:=by intro qk;refine Z47 ?_;refine R.boxRo ?_;exact qk.h):p:=h ⟨k⟩
theorem AAd(k:q)(h:Hk q→p:=by intro qk;refine Rl ?_;refine D.call Tryz.call57 (AE0 (rdL (d.take i)).1 10 hm2 (by decide) _) ?_;exact qk.h):p:=h ⟨k⟩
theorem AAe(k:q)(h:Hk q→p:=by intro qk;refine W.draw [0, 1, 3, 7, 15, 3, 35, 99, 255, 511, 1023] 8 Ae (by kernel_rfl) ?_;refine U3 ?_;exact qk.h):p:=h ⟨k⟩
theorem gv(k:q)(h:Hk q→p:=by intro qk;refine Z22 ?_;refine K.thR ?_;exact qk.h):p:=h ⟨k⟩
theorem AAf(k:q)(h:Hk q→p:=by intro qk;refine D.build (places := #[(0, 1), (1, 1), (2, 3), (5, 1)]) jU (fun w => by simp) jZ ?_;refine Z11 ?_;exact qk.h):p:=h ⟨k⟩
theorem AAg(k:q)(h:Hk q→p:=by intro qk;refine B9 ?_;refine R.build (places := #[(0, 1), (1, 1), (2, 6), (8, 1)]) jU (fun w => by simp) jZ ?_;exact qk.h):p:=h ⟨k⟩
theorem AAh(k:q)(h:Hk q→p:=by intro qk;refine R.callUp Tryz.call25 ho (by simp) vj (c25 l S 8 o _ (Ab ho) hi) ?_;refine R.fin [0] ?_;exact qk.h):p:=h ⟨k⟩
theorem Zg(k:q)(h:Hk q→p:=by intro qk;refine Z78 ?_;refine Z18 ?_;exact qk.h):p:=h ⟨k⟩
theorem ld(k:q)(h:Hk q→p:=by intro qk;refine G.gtr ?_;refine H7 ?_;exact qk.h):p:=h ⟨k⟩
theorem r6(k:q)(h:Hk q→p:=by intro qk;refine B3 ?_;refine Fi ?_;exact qk.h):p:=h ⟨k⟩
theorem AAi(k:q)(h:Hk q→p:=by intro qk;refine gm ?_;refine Ph ?_;exact qk.h):p:=h ⟨k⟩
theorem Vy(k:q)(h:Hk q→p:=by intro qk;refine Z4 ?_;refine Z8 ?_;exact qk.h):p:=h ⟨k⟩
theorem AAj(k:q)(h:Hk q→p:=by intro qk;refine R.build (places := #[(0, 1), (1, 1), (2, 1), (3, 2)]) jU (fun w => by simp) jZ ?_;refine R.box ?_;exact qk.h):p:=h ⟨k⟩
theorem AAk(h:p:=by refine D.fieldAddrPtr (fo := 3) jU Tryz.sizeOf33 ?_;exact wj):p:=h
theorem AAl(k:q)(h:Hk q→p:=by intro qk;refine Z52 ?_;refine Ph ?_;exact qk.h):p:=h ⟨k⟩
theorem gw(k:q)(h:Hk q→p:=by intro qk;refine Z89 ?_;refine K.thR ?_;exact qk.h):p:=h ⟨k⟩
theorem lf(k:q)(h:Hk q→p:=by intro qk;refine R.gtr ?_;refine B3 ?_;exact qk.h):p:=h ⟨k⟩
theorem r7(k:q)(h:Hk q→p:=by intro qk;refine Z28 ?_;refine R.fin [0, 1, 2, 6] ?_;exact qk.h):p:=h ⟨k⟩
theorem AAm(k:q)(h:Hk q→p:=by intro qk;refine Rj ?_;refine W.draw [0, 1, 3, 0, 8, 24, 56, 127] 7 Ae (by kernel_rfl) ?_;exact qk.h):p:=h ⟨k⟩
theorem lg(k:q)(h:Hk q→p:=by intro qk;refine l3 ?_;refine R.fin [0] ?_;exact qk.h):p:=h ⟨k⟩
theorem AAn(k:q)(h:Hk q→p:=by intro qk;refine H.loadUp jA ho ?_;refine H.indexAddr (S.i) (D0 (A4 l S.i)) jU jS (fun _ => Fm hi) ?_;exact qk.h):p:=h ⟨k⟩
theorem r8(h:p:=by refine Pf ?_;exact Z41):p:=h
theorem xp(k:q)(h:Hk q→p:=by intro qk;refine W.keep [0, 3, 4, 5, 7, 8, 9] ?_;refine Z50 ?_;exact qk.h):p:=h ⟨k⟩
theorem Zh(k:q)(h:Hk q→p:=by intro qk;refine Z4 ?_;refine Z31 ?_;exact qk.h):p:=h ⟨k⟩
theorem r9(k:q)(h:Hk q→p:=by intro qk;refine B3 ?_;refine R.fin [2, 3] ?_;exact qk.h):p:=h ⟨k⟩
theorem ra(k:q)(h:Hk q→p:=by intro qk;refine Pi ?_;refine Z0 ?_;exact qk.h):p:=h ⟨k⟩
theorem lh(k:q)(h:Hk q→p:=by intro qk;refine B9 ?_;refine R.lss ?_;exact qk.h):p:=h ⟨k⟩
theorem Zi(k:q)(h:Hk q→p:=by intro qk;refine Z4 ?_;refine Z29 ?_;exact qk.h):p:=h ⟨k⟩
theorem AAo(k:q)(h:Hk q→p:=by intro qk;refine W.draw [0, 0, 3, 0, 15, 31] 4 Ae (by kernel_rfl) ?_;refine Rl ?_;exact qk.h):p:=h ⟨k⟩
theorem rb(k:q)(h:Hk q→p:=by intro qk;refine Ff ?_;refine C3 ?_;exact qk.h):p:=h ⟨k⟩
theorem AAp(k:q)(h:Hk q→p:=by intro qk;refine R.build (places := #[(0, 1), (1, 1), (2, 2)]) jU (fun w => by simp) jZ ?_;refine R.box ?_;exact qk.h):p:=h ⟨k⟩
theorem AAq(h:p:=by refine K.thR ?_;exact K.fin (V.one V.tmp) ⟨rfl, rfl⟩):p:=h
theorem rc(k:q)(h:Hk q→p:=by intro qk;refine D.loadUp jA ho ?_;refine zi ?_;exact qk.h):p:=h ⟨k⟩
theorem AAr(k:q)(h:Hk q→p:=by intro qk;refine ln ?_;refine B3 ?_;exact qk.h):p:=h ⟨k⟩
theorem AAs(k:q)(h:Hk q→p:=by intro qk;refine ln ?_;refine R.nilPtr ?_;exact qk.h):p:=h ⟨k⟩
theorem rd(k:q)(h:Hk q→p:=by intro qk;refine Z0 ?_;refine I7 ?_;exact qk.h):p:=h ⟨k⟩
theorem li(k:q)(h:Hk q→p:=by intro qk;refine AW.block ?_;refine Z73 ?_;exact qk.h):p:=h ⟨k⟩
theorem gx(k:q)(h:Hk q→p:=by intro qk;refine Z18 ?_;refine Z17 ?_;exact qk.h):p:=h ⟨k⟩
theorem gy(k:q)(h:Hk q→p:=by intro qk;refine Yu ?_;refine Z30 ?_;exact qk.h):p:=h ⟨k⟩
theorem lj(k:q)(h:Hk q→p:=by intro qk;refine gh ?_;refine B9 ?_;exact qk.h):p:=h ⟨k⟩
theorem re(k:q)(h:Hk q→p:=by intro qk;refine D.loadOwn jA ?_;refine xb ?_;exact qk.h):p:=h ⟨k⟩
theorem ll(k:q)(h:Hk q→p:=by intro qk;refine kx ?_;refine Pd ?_;exact qk.h):p:=h ⟨k⟩
theorem AAt(k:q)(h:Hk q→p:=by intro qk;refine D.build (places := #[(0, 1), (1, 1)]) jU (fun w => by simp) jZ ?_;refine D.tail ?_;exact qk.h):p:=h ⟨k⟩
theorem Vz(h:p:=by exact ⟨rfl, Below.refl _ _⟩):p:=h
theorem B9(k:q)(h:Hk q→p:=by intro qk;refine AW.seqR ?_;exact qk.h):p:=h ⟨k⟩
theorem Rj(k:q)(h:Hk q→p:=by intro qk;refine R.fin [0, 3, 4] ?_;exact qk.h):p:=h ⟨k⟩
theorem W0(k:q)(h:Hk q→p:=by intro qk;refine R.build (places := #[(0, 1), (1, 1), (2, 1)]) jU (fun w => by simp) jZ ?_;exact qk.h):p:=h ⟨k⟩
theorem Kq(k:q)(h:Hk q→p:=by intro qk;refine R.loadOwn jA ?_;exact qk.h):p:=h ⟨k⟩
theorem C3(k:q)(h:Hk q→p:=by intro qk;refine R.move ?_;exact qk.h):p:=h ⟨k⟩
theorem B3(k:q)(h:Hk q→p:=by intro qk;refine R.assign ?_;exact qk.h):p:=h ⟨k⟩
theorem F6(k:q)(h:Hk q→p:=by intro qk;refine R.pickAnd ?_;exact qk.h):p:=h ⟨k⟩
theorem Ff(k:q)(h:Hk q→p:=by intro qk;refine R.loadRo jA ?_;exact qk.h):p:=h ⟨k⟩
theorem H7(k:q)(h:Hk q→p:=by intro qk;refine R.pickOr ?_;exact qk.h):p:=h ⟨k⟩
theorem Fi(k:q)(h:Hk q→p:=by intro qk;refine R.storeOwn jS ?_;exact qk.h):p:=h ⟨k⟩
theorem rf(h:p:=by exact K.fin (V.one (V.cellN jA jS))):p:=h
theorem H8(k:q)(h:Hk q→p:=by intro qk;refine AW.region ?_;exact qk.h):p:=h ⟨k⟩
theorem AAu(h:p:=by exact K.fin (V.one V.tmp) ⟨by simp only [Br, hp, ht7, ht14, ht23, ht27, Bool.not_true, Bool.false_eq_true, if_false, if_true]; try rfl, rfl⟩):p:=h
theorem AAv(h:p:=by exact K.fin (V.two (V.cellN jA jS) V.tmp) ⟨by simp only [Po, ht17, if_true, if_false, Bool.false_eq_true]; rfl, rfl⟩):p:=h
theorem AAw(h:p:=by exact K.fin (V.four V.tmp V.tmp V.tmp V.tmp) ⟨by simp only [Hb, ht11, ht17, if_true, if_false, Bool.false_eq_true]; try rfl, rfl⟩):p:=h
theorem AAx(h:p:=by exact K.fin (V.four V.tmp V.tmp V.tmp V.tmp) ⟨by simp only [Hc, ht18, ht23, if_true, if_false, Bool.false_eq_true]; try rfl, rfl⟩):p:=h
theorem AAy(h:p:=by exact K.fin (V.four V.tmp V.tmp V.tmp V.tmp) ⟨by simp only [Aq, ht6, ht17, ht28, if_true, if_false, Bool.false_eq_true], rfl⟩):p:=h
theorem lm(h:p:=by exact absurd h (by decide)):p:=h
theorem J4(k:q)(h:Hk q→p:=by intro qk;refine R.alloc jZ ?_;exact qk.h):p:=h ⟨k⟩
theorem Kr(k:q)(h:Hk q→p:=by intro qk;refine R.loadOwnN jA jS ?_;exact qk.h):p:=h ⟨k⟩
theorem W1(k:q)(h:Hk q→p:=by intro qk;refine R.buildSlice jU jS jZ ?_;exact qk.h):p:=h ⟨k⟩
theorem ln(k:q)(h:Hk q→p:=by intro qk;refine R.build (places := #[(0, 1), (1, 1)]) jU (fun w => by simp) jZ ?_;exact qk.h):p:=h ⟨k⟩
theorem I7(k:q)(h:Hk q→p:=by intro qk;refine R.loadRoN jA jS ?_;exact qk.h):p:=h ⟨k⟩
theorem rg(h:p:=by exact ⟨hFRl, by simp [oid]⟩):p:=h
theorem lp(h:p:=by exact Oi (fun x hx => ObjLow.le (by omega) (hlow x hx)) hOl x hx):p:=h
theorem Rk(k:q)(h:Hk q→p:=by intro qk;refine R.fin [2, 3, 4, 5] ?_;exact qk.h):p:=h ⟨k⟩
theorem rh(h:p:=by exact M6 (Nat.le_refl _) hi rfl _ _):p:=h
theorem AAz(h:p:=by exact ⟨Nat.le_refl _, hi, rfl, Jr (by omega), by show sizeE Aj ≤ _; rw [La]; omega⟩):p:=h
theorem Ph(k:q)(h:Hk q→p:=by intro qk;refine R.build (places := #[(0, 1), (1, 1), (2, 3), (5, 1)]) jU (fun w => by simp) jZ ?_;exact qk.h):p:=h ⟨k⟩
theorem Rl(k:q)(h:Hk q→p:=by intro qk;refine D.loadOwnN jA jS ?_;exact qk.h):p:=h ⟨k⟩
theorem W3(k:q)(h:Hk q→p:=by intro qk;refine R.fin [0, 3, 4, 5] ?_;exact qk.h):p:=h ⟨k⟩
theorem AB0(h:p:=by exact ay (by decide) u (by have : (2 : Nat) ^ 64 - 1 = 18446744073709551615 := (by decide); omega)):p:=h
theorem AB1(k:q)(h:Hk q→p:=by intro qk;refine Y.storeOwn (u := Hp.length) (n := 0) (t' := 28) (cs := [A3 0, A7 [], A3 0, A3 0, A7 [], .nil]) (cs' := [A3 0, A7 [], A3 0, A3 0, A7 [], .nil]) Tryz.sizeOf28 (fun B hB => ⟨rfl, rfl, rfl, rfl⟩) ?_;exact qk.h):p:=h ⟨k⟩
theorem AB2(h:p:=by exact K.fin (V.one V.tmp) ⟨by rw [decide_eq_false hne], rfl⟩):p:=h
theorem U7(h:p:=by exact Ir (by kernel_rfl) h61):p:=h
theorem AB3(h:p:=by exact ⟨(Kn _ _ _).trans hS, fun h => absurd h (H2 (by decide) _)⟩):p:=h
theorem AB4(h:p:=by exact bad _ _ ((Kn _ _ _).trans hS) (H2 (by decide) _)):p:=h
theorem ri(h:p:=by exact fun h => absurd h (H2 (by decide) _)):p:=h
theorem xq(h:p:=by exact ⟨by kernel_rfl, by decide +kernel, by decide +kernel⟩):p:=h
theorem xr(h:p:=by exact absurd hc (H2 (by decide) _)):p:=h
theorem Zj(h:p:=by exact ⟨(fun h => by cases h), (fun h => by cases h)⟩):p:=h
theorem xt(h:p:=by exact ⟨rfl, fun h => absurd h (by decide)⟩):p:=h
theorem Oc(h:p:=by exact ⟨rfl, fun _ => rfl⟩):p:=h
theorem AB5(h:p:=by exact ⟨rfl, fun h => absurd h (by show ¬ (7 : Int) = 0; decide)⟩):p:=h
theorem rj(h:p:=by exact absurd h1 (by decide)):p:=h
theorem Jj(h:p:=by exact D.end rfl rfl):p:=h
theorem rk(k:q)(h:Hk q→p:=by intro qk;refine R.fieldAddrPtr (fo := 1) jU Tryz.sizeOf23 ?_;exact qk.h):p:=h ⟨k⟩
theorem AB6(h:p:=by exact ⟨Nat.le_of_eq (Fd _ _ _).symm, by rw [Fd]; exact hi, hc⟩):p:=h
theorem lq(k:q)(h:Hk q→p:=by intro qk;refine R.fieldAddrPtr (fo := 0) jU Tryz.sizeOf4 ?_;exact qk.h):p:=h ⟨k⟩
theorem AB7(k:q)(h:Hk q→p:=by intro qk;refine W.drawY [0, 0, 1, 7] [2] [.q 2 [] [], .s [] (some 0) [] []] (fun _ => Hp) (fun _ => [.cells 30 [Ao false, .nil, A3 0, A7 [], A3 0, A3 0, A7 [], .nil, A3 0], .cells 33 [A3 0, A3 0], .cells 33 [A3 (A6 s).2.1, A3 ((A6 s).2.2 : Nat)]]) Ae (by kernel_rfl) rfl rfl (fun _ => rfl) ?_;exact qk.h):p:=h ⟨k⟩
theorem Pi(k:q)(h:Hk q→p:=by intro qk;refine R.fin [2, 3, 6, 7] ?_;exact qk.h):p:=h ⟨k⟩
theorem AB8(k:q)(h:Hk q→p:=by intro qk;refine W.drawY [0, 0, 2, 6, 14, 1, 63] [5] [.q 5 [] [], .s [] (some 0) [] []] (fun _ => Hp) (fun _ => [.cells 30 [Ao false, .nil, A3 0, A7 [], A3 0, A3 0, A7 [], .nil, A3 0], .cells 33 [A3 0, A3 0], .cells 33 [A3 (A6 s).2.1, A3 ((A6 s).2.2 : Nat)], prq (A6 s).1 (s5Q (A6 s).1), qo true (r3Q (A6 s).1).1]) Ae (by kernel_rfl) rfl rfl (fun _ => rfl) ?_;exact qk.h):p:=h ⟨k⟩
theorem AB9(k:q)(h:Hk q→p:=by intro qk;refine R.callUp Tryz.call87 ho (by simp) Et (c87 l S 8 (A4 l S.i).at_ o _ (Ab ho)) ?_;exact qk.h):p:=h ⟨k⟩
theorem xu(k:q)(h:Hk q→p:=by intro qk;refine W.draw [0, 1, 3, 0, 8, 24, 63] 6 Ae (by kernel_rfl) ?_;exact qk.h):p:=h ⟨k⟩
theorem ABa(h:p:=by exact K.fin (V.one (V.cellN jA jS)) ⟨by rw [had], rfl⟩):p:=h
theorem Zk(k:q)(h:Hk q→p:=by intro qk;refine R.fieldAddrPtr (fo := 1) jU Tryz.sizeOf82 ?_;exact qk.h):p:=h ⟨k⟩
theorem lr(k:q)(h:Hk q→p:=by intro qk;refine R.fin [2, 3, 4, 5, 9, 10] ?_;exact qk.h):p:=h ⟨k⟩
theorem ls(k:q)(h:Hk q→p:=by intro qk;refine R.fin [2, 3, 4, 5, 6, 7, 8] ?_;exact qk.h):p:=h ⟨k⟩
theorem rl(k:q)(h:Hk q→p:=by intro qk;refine R.fin [2, 3, 4, 5, 6, 7, 8, 9, 10] ?_;exact qk.h):p:=h ⟨k⟩
theorem lu(k:q)(h:Hk q→p:=by intro qk;refine R.fieldAddrRo (off := 1) jU Tryz.sizeOf82 ?_;exact qk.h):p:=h ⟨k⟩
theorem Rm(k:q)(h:Hk q→p:=by intro qk;refine R.fin [0, 4, 5, 6, 7, 8, 9] ?_;exact qk.h):p:=h ⟨k⟩
theorem ABb(h:p:=by exact K.fin (V.one (V.cellN jA jS)) ⟨by rw [e]; simp only [A8] <;> rfl, by rw [e] <;> rfl⟩ (hlow := by have := Ag Hp.length (Aj); simp only [A8, List.length_set] at this ⊢; exact this)):p:=h
theorem xv(h:p:=by exact StLe.of_eq (by rw [e] <;> rfl)):p:=h
theorem lv(k:q)(h:Hk q→p:=by intro qk;refine R.fin [0, 3, 4, 5, 6, 7, 8, 9] ?_;exact qk.h):p:=h ⟨k⟩
theorem gz(k:q)(h:Hk q→p:=by intro qk;refine R.fin [0, 3, 4, 5, 7, 8, 9] ?_;exact qk.h):p:=h ⟨k⟩
theorem lw(k:q)(h:Hk q→p:=by intro qk;refine R.fin [0, 3, 4, 5, 7, 8, 9, 10] ?_;exact qk.h):p:=h ⟨k⟩
theorem ABc(h:p:=by exact K.finN .nores (hp := ⟨rfl, by first | (rw [e]; done) | (rw [e]; exact List.set_set ..)⟩)):p:=h
theorem ABd(h:p:=by exact K.fin (V.one V.tmp) ⟨by rw [e] <;> rfl, by first | (rw [e]; done) | (rw [e]; exact List.set_set ..)⟩):p:=h
theorem ABe(h:p:=by exact K.fin (V.two V.tmp V.tmp) ⟨by rw [hsh] <;> rfl, rfl⟩):p:=h
theorem ABf(h:p:=by exact K.fin (V.two V.tmp V.tmp) ⟨by rw [e] <;> rfl, rfl⟩):p:=h
theorem rm(k:q)(h:Hk q→p:=by intro qk;refine R.fieldAddrPtr (fo := 0) jU Tryz.sizeOf31 ?_;exact qk.h):p:=h ⟨k⟩
theorem ABg(h:p:=by exact K.fin .nores (hp := ⟨rfl, by first | (rw [e]; exact (Td hne ho hoq).symm) | (rw [e]; exact (B5 (jb hne hoq)).symm) | (rw [e]; simp only [List.set_set]; exact (B5 (jb hne hoq)).symm) | (rw [e]; simp only [List.set_set]; rw [o3 hne]; rfl) | (rw [e]; simp only [List.set_set]; rw [List.set_comm _ _ hne]; rfl)⟩)):p:=h
theorem ABh(h:p:=by exact K.fin (V.two V.tmp V.tmp) ⟨by first | rw [hgood] | rw [vg hd hil ht52] | rw [vf hd ht33], rfl⟩):p:=h
theorem ABi(k:q)(h:Hk q→p:=by intro qk;refine Y.storeOwn (u := Hp.length) (n := 0) (t' := 30) (cs := [Ao false, .nil, A3 0, A7 [], A3 0, A3 0, A7 [], .nil, A3 0]) (cs' := [Ao false, .nil, A3 0, A7 [], A3 0, A3 0, A7 [], .nil, A3 0]) Tryz.sizeOf30 (fun B hB => ⟨rfl, rfl, rfl, rfl⟩) ?_;exact qk.h):p:=h ⟨k⟩
theorem ABj(h:p:=by exact K.finN .nores (hp := ⟨rfl, by first | (rw [e]; done) | (rw [e]; rfl) | (rw [e]; exact (B5 ho).symm)⟩)):p:=h
theorem ABk(h:p:=by exact K.fin (V.one V.tmp) ⟨by simp_all [Bk, Gr], rfl⟩):p:=h
end Go.SX.Nb
namespace Go.SX.Nb
open Go Go.SX Go.Proofs
set_option maxRecDepth 4000

/-- Where strconv.ErrRange and strconv.ErrSyntax point. -/
class ErrAt where
 b : Addr
 bs : Addr
/-- The package-level variables of which something is known: bytealg.MaxLen is a number; strconv.ErrRange is an error of errors.New's make; the table of powers of ten. -/
def Pj [E : ErrAt] : List (Nat × (Obj → Prop)) := [(2, fun o => ∃ m t f, o = .cells #[.int .i64 m] t f), (1, fun o => ∃ t f, o = .cells #[.iface 185 (.pointer (some E.b))] t f), (0, fun o => ∃ t f, o = .cells #[.iface 185 (.pointer (some E.bs))] t f), (3, fun o => ∃ t f, o = .cells (Lib.pow10Tab.map fun z => Value.int .u64 z).toArray t f)]
instance globInv [ErrAt] : GlobInv := ⟨Pj⟩
variable [ErrAt]

abbrev Str := List UInt8
structure Col where
 name : Str
 kind : Int
 deriving DecidableEq
structure Val where
 kind : Int
 n : Int
 s : Str
 deriving DecidableEq
structure Row where
 key : Int
 l : List Val
 deriving DecidableEq
abbrev A7 (s : Str) : AV := .v (sv s)
abbrev A3 (n : Int) : AV := .v (.int .i64 n)
abbrev Cb (n : Int) : AV := .v (.int .u64 n)
abbrev Ao (b : Bool) : AV := .v (.bool b)
abbrev U8 (v : Val) : AV := .agg [.v (.int .i64 v.kind), .v (.int .i64 v.n), .v (sv v.s)]
abbrev H9 (l : List Str) : AV := .slice false 1 (l.map A7)
theorem Fj {α β : Type} {f : α → β} {l : List α} {i : Nat} (h : i < l.length) : (l.map f)[i]? = some (f l[i]) := by simp [h]
theorem Ae : Tryz.prog.follows .mixedOrders = true := by kernel_rfl
theorem rn : Tryz.prog.eqGuardType Tryz.prog.depth 25 = false := by kernel_rfl
theorem Og (k n k' n' : Int) (s s' : List UInt8) (w : World) : (Op.equal 25 (.agg #[.int .i64 k, .int .i64 n, .string ⟨s.toArray⟩]) (.agg #[.int .i64 k', .int .i64 n', .string ⟨s'.toArray⟩])).run Tryz.prog w = .ok (k == k' && n == n' && s == s') w := by
 have h1 : Tryz.prog.stoodInHeld 25 = false := by kernel_rfl
 show (Op.equalIn (9999 + 1) _ _ _).run _ _ = _
 rw [Op.equalIn]
 generalize hd : (9999 : Nat) = d
 obtain ⟨d, rfl⟩ : ∃ e, d = e + 1 := ⟨9998, hd.symm⟩
 clear hd
 simp [run_underlying Tryz.underlying25, h1, part, cc _ _ _ _ _ _ Tryz.underlying3, cc _ _ _ _ _ _ Tryz.underlying2, zg _ _ _ _ _ Tryz.underlying9, Tryz.isAgg3, Tryz.isAgg2, Tryz.isAgg9]
 by_cases e1 : k = k' <;> by_cases e2 : n = n' <;> by_cases e3 : s = s' <;> simp [e1, e2, e3]
end Go.SX.Nb
namespace Go.Proofs
open Go Go.Shelf
def Tryz.ren144 : Ren where
 f := fun x => match x with | 144 => 96 | 143 => 133 | 219 => 157 | 217 => 166 | 225 => 177 | 224 => 178 | 267 => 179 | 266 => 188 | 314 => 193 | n => n
 t := fun x => match x with | 9 => 9 | 4 => 4 | 3 => 3 | 5 => 5 | 46 => 164 | 146 => 200 | 51 => 173 | n => n
 g := fun x => match x with | 1 => 2 | n => n
theorem Tryz.lays144 : Lays.n144 Tryz.prog Tryz.ren144 where
 mixed := by kernel_rfl
 f143 := Tryz.func133
 f144 := Tryz.func96
 f217 := Tryz.func166
 f219 := Tryz.func157
 f224 := Tryz.func178
 f225 := Tryz.func177
 f266 := Tryz.func188
 f267 := Tryz.func179
 f314 := Tryz.func193
 t3 := Tryz.underlying3
 a3 := Tryz.isAgg3
 z3 := Tryz.sizeOf3
 v3 := Tryz.zeroValue3
 t4 := Tryz.underlying4
 a4 := Tryz.isAgg4
 z4 := Tryz.sizeOf4
 v4 := Tryz.zeroValue4
 t5 := Tryz.underlying5
 a5 := Tryz.isAgg5
 z5 := Tryz.sizeOf5
 v5 := Tryz.zeroValue5
 t9 := Tryz.underlying9
 a9 := Tryz.isAgg9
 z9 := Tryz.sizeOf9
 v9 := Tryz.zeroValue9
 t46 := Tryz.underlying164
 a46 := Tryz.isAgg164
 z46 := Tryz.sizeOf164
 v46 := Tryz.zeroValue164
 t51 := Tryz.underlying173
 a51 := Tryz.isAgg173
 z51 := Tryz.sizeOf173
 v51 := Tryz.zeroValue173
 t146 := Tryz.underlying200
 a146 := Tryz.isAgg200
 z146 := Tryz.sizeOf200
 v146 := Tryz.zeroValue200
 g1 := by kernel_rfl
def Tryz.ren145 : Ren where
 f := fun x => match x with | 145 => 104 | 220 => 137 | 219 => 157 | 217 => 166 | 225 => 177 | 224 => 178 | 267 => 179 | 266 => 188 | 314 => 193 | n => n
 t := fun x => match x with | 9 => 9 | 4 => 4 | 59 => 129 | 3 => 3 | 5 => 5 | 46 => 164 | 146 => 200 | 51 => 173 | n => n
 g := fun x => match x with | 1 => 2 | n => n
theorem Tryz.lays145 : Lays.n145 Tryz.prog Tryz.ren145 where
 mixed := by kernel_rfl
 f145 := Tryz.func104
 f217 := Tryz.func166
 f219 := Tryz.func157
 f220 := Tryz.func137
 f224 := Tryz.func178
 f225 := Tryz.func177
 f266 := Tryz.func188
 f267 := Tryz.func179
 f314 := Tryz.func193
 t3 := Tryz.underlying3
 a3 := Tryz.isAgg3
 z3 := Tryz.sizeOf3
 v3 := Tryz.zeroValue3
 t4 := Tryz.underlying4
 a4 := Tryz.isAgg4
 z4 := Tryz.sizeOf4
 v4 := Tryz.zeroValue4
 t5 := Tryz.underlying5
 a5 := Tryz.isAgg5
 z5 := Tryz.sizeOf5
 v5 := Tryz.zeroValue5
 t9 := Tryz.underlying9
 a9 := Tryz.isAgg9
 z9 := Tryz.sizeOf9
 v9 := Tryz.zeroValue9
 t46 := Tryz.underlying164
 a46 := Tryz.isAgg164
 z46 := Tryz.sizeOf164
 v46 := Tryz.zeroValue164
 t51 := Tryz.underlying173
 a51 := Tryz.isAgg173
 z51 := Tryz.sizeOf173
 v51 := Tryz.zeroValue173
 t59 := Tryz.underlying129
 a59 := Tryz.isAgg129
 z59 := Tryz.sizeOf129
 v59 := Tryz.zeroValue129
 t146 := Tryz.underlying200
 a146 := Tryz.isAgg200
 z146 := Tryz.sizeOf200
 v146 := Tryz.zeroValue200
 g1 := by kernel_rfl
def Tryz.ren146 : Ren where
 f := fun x => match x with | 146 => 134 | 221 => 158 | 268 => 180 | 138 => 172 | 143 => 133 | 195 => 190 | 197 => 155 | 218 => 191 | 219 => 157 | 260 => 175 | 217 => 166 | 225 => 177 | 224 => 178 | 267 => 179 | 266 => 188 | 314 => 193 | n => n
 t := fun x => match x with | 9 => 9 | 31 => 23 | 3 => 3 | 4 => 4 | 0 => 0 | 105 => 176 | 21 => 21 | 5 => 5 | 46 => 164 | 119 => 195 | 139 => 198 | 138 => 197 | 146 => 200 | 51 => 173 | n => n
 g := fun x => match x with | 1 => 2 | 3 => 6 | 4 => 7 | n => n
theorem Tryz.lays146 : Lays.n146 Tryz.prog Tryz.ren146 where
 mixed := by kernel_rfl
 f138 := Tryz.func172
 f143 := Tryz.func133
 f146 := Tryz.func134
 f195 := Tryz.func190
 f197 := Tryz.func155
 f217 := Tryz.func166
 f218 := Tryz.func191
 f219 := Tryz.func157
 f221 := Tryz.func158
 f224 := Tryz.func178
 f225 := Tryz.func177
 f260 := Tryz.func175
 f266 := Tryz.func188
 f267 := Tryz.func179
 f268 := Tryz.func180
 f314 := Tryz.func193
 t0 := Tryz.underlying0
 a0 := Tryz.isAgg0
 z0 := Tryz.sizeOf0
 v0 := Tryz.zeroValue0
 t3 := Tryz.underlying3
 a3 := Tryz.isAgg3
 z3 := Tryz.sizeOf3
 v3 := Tryz.zeroValue3
 t4 := Tryz.underlying4
 a4 := Tryz.isAgg4
 z4 := Tryz.sizeOf4
 v4 := Tryz.zeroValue4
 t5 := Tryz.underlying5
 a5 := Tryz.isAgg5
 z5 := Tryz.sizeOf5
 v5 := Tryz.zeroValue5
 t9 := Tryz.underlying9
 a9 := Tryz.isAgg9
 z9 := Tryz.sizeOf9
 v9 := Tryz.zeroValue9
 t21 := Tryz.underlying21
 a21 := Tryz.isAgg21
 z21 := Tryz.sizeOf21
 v21 := Tryz.zeroValue21
 t31 := Tryz.underlying23
 a31 := Tryz.isAgg23
 z31 := Tryz.sizeOf23
 v31 := Tryz.zeroValue23
 t46 := Tryz.underlying164
 a46 := Tryz.isAgg164
 z46 := Tryz.sizeOf164
 v46 := Tryz.zeroValue164
 t51 := Tryz.underlying173
 a51 := Tryz.isAgg173
 z51 := Tryz.sizeOf173
 v51 := Tryz.zeroValue173
 t105 := Tryz.underlying176
 a105 := Tryz.isAgg176
 z105 := Tryz.sizeOf176
 v105 := Tryz.zeroValue176
 t119 := Tryz.underlying195
 a119 := Tryz.isAgg195
 z119 := Tryz.sizeOf195
 t138 := Tryz.underlying197
 a138 := Tryz.isAgg197
 z138 := Tryz.sizeOf197
 v138 := Tryz.zeroValue197
 t139 := Tryz.underlying198
 a139 := Tryz.isAgg198
 z139 := Tryz.sizeOf198
 v139 := Tryz.zeroValue198
 t146 := Tryz.underlying200
 a146 := Tryz.isAgg200
 z146 := Tryz.sizeOf200
 v146 := Tryz.zeroValue200
 g1 := by kernel_rfl
 g3 := by kernel_rfl
 g4 := by kernel_rfl
def Tryz.ren161 : Ren where
 f := fun x => match x with | 161 => 95 | 231 => 129 | 227 => 130 | 233 => 131 | 235 => 132 | 228 => 154 | 197 => 155 | 151 => 156 | 260 => 175 | 152 => 176 | 137 => 139 | 119 => 192 | 224 => 178 | 225 => 177 | 217 => 166 | 266 => 188 | n => n
 t := fun x => match x with | 9 => 9 | 4 => 4 | 3 => 3 | 5 => 5 | 117 => 152 | 116 => 151 | 0 => 0 | 124 => 155 | 105 => 176 | 21 => 21 | 119 => 195 | 46 => 164 | 139 => 198 | 138 => 197 | n => n
 g := fun x => match x with | 3 => 6 | 4 => 7 | n => n
theorem Tryz.lays161 : Lays.n161 Tryz.prog Tryz.ren161 where
 mixed := by kernel_rfl
 f119 := Tryz.func192
 f137 := Tryz.func139
 f151 := Tryz.func156
 f152 := Tryz.func176
 f161 := Tryz.func95
 f197 := Tryz.func155
 f217 := Tryz.func166
 f224 := Tryz.func178
 f225 := Tryz.func177
 f227 := Tryz.func130
 f228 := Tryz.func154
 f231 := Tryz.func129
 f233 := Tryz.func131
 f235 := Tryz.func132
 f260 := Tryz.func175
 f266 := Tryz.func188
 t0 := Tryz.underlying0
 a0 := Tryz.isAgg0
 z0 := Tryz.sizeOf0
 v0 := Tryz.zeroValue0
 t3 := Tryz.underlying3
 a3 := Tryz.isAgg3
 z3 := Tryz.sizeOf3
 v3 := Tryz.zeroValue3
 t4 := Tryz.underlying4
 a4 := Tryz.isAgg4
 z4 := Tryz.sizeOf4
 v4 := Tryz.zeroValue4
 t5 := Tryz.underlying5
 a5 := Tryz.isAgg5
 z5 := Tryz.sizeOf5
 v5 := Tryz.zeroValue5
 t9 := Tryz.underlying9
 a9 := Tryz.isAgg9
 z9 := Tryz.sizeOf9
 v9 := Tryz.zeroValue9
 t21 := Tryz.underlying21
 a21 := Tryz.isAgg21
 z21 := Tryz.sizeOf21
 v21 := Tryz.zeroValue21
 t46 := Tryz.underlying164
 a46 := Tryz.isAgg164
 z46 := Tryz.sizeOf164
 v46 := Tryz.zeroValue164
 t105 := Tryz.underlying176
 a105 := Tryz.isAgg176
 z105 := Tryz.sizeOf176
 v105 := Tryz.zeroValue176
 t116 := Tryz.underlying151
 a116 := Tryz.isAgg151
 z116 := Tryz.sizeOf151
 t117 := Tryz.underlying152
 a117 := Tryz.isAgg152
 z117 := Tryz.sizeOf152
 v117 := Tryz.zeroValue152
 t119 := Tryz.underlying195
 a119 := Tryz.isAgg195
 z119 := Tryz.sizeOf195
 t124 := Tryz.underlying155
 a124 := Tryz.isAgg155
 z124 := Tryz.sizeOf155
 v124 := Tryz.zeroValue155
 t138 := Tryz.underlying197
 a138 := Tryz.isAgg197
 z138 := Tryz.sizeOf197
 v138 := Tryz.zeroValue197
 t139 := Tryz.underlying198
 a139 := Tryz.isAgg198
 z139 := Tryz.sizeOf198
 v139 := Tryz.zeroValue198
 g3 := by kernel_rfl
 g4 := by kernel_rfl
def Tryz.ren99 : Ren where
 f := fun x => match x with | 99 => 161 | 206 => 181 | n => n
 t := fun x => match x with | 9 => 9 | 4 => 4 | 3 => 3 | n => n
 g := fun x => x
theorem Tryz.lays99 : Lays.n99 Tryz.prog Tryz.ren99 where
 mixed := by kernel_rfl
 f99 := Tryz.func161
 f206 := Tryz.func181
 t3 := Tryz.underlying3
 a3 := Tryz.isAgg3
 z3 := Tryz.sizeOf3
 v3 := Tryz.zeroValue3
 t4 := Tryz.underlying4
 a4 := Tryz.isAgg4
 z4 := Tryz.sizeOf4
 v4 := Tryz.zeroValue4
 t9 := Tryz.underlying9
 a9 := Tryz.isAgg9
 z9 := Tryz.sizeOf9
 v9 := Tryz.zeroValue9
def Tryz.ren100 : Ren where
 f := fun x => match x with | 100 => 162 | 207 => 182 | n => n
 t := fun x => match x with | 9 => 9 | 4 => 4 | 3 => 3 | n => n
 g := fun x => x
theorem Tryz.lays100 : Lays.n100 Tryz.prog Tryz.ren100 where
 mixed := by kernel_rfl
 f100 := Tryz.func162
 f207 := Tryz.func182
 t3 := Tryz.underlying3
 a3 := Tryz.isAgg3
 z3 := Tryz.sizeOf3
 v3 := Tryz.zeroValue3
 t4 := Tryz.underlying4
 a4 := Tryz.isAgg4
 z4 := Tryz.sizeOf4
 v4 := Tryz.zeroValue4
 t9 := Tryz.underlying9
 a9 := Tryz.isAgg9
 z9 := Tryz.sizeOf9
 v9 := Tryz.zeroValue9
def Tryz.ren101 : Ren where
 f := fun x => match x with | 101 => 184 | 208 => 194 | 206 => 181 | n => n
 t := fun x => match x with | 9 => 9 | 4 => 4 | 3 => 3 | n => n
 g := fun x => x
theorem Tryz.lays101 : Lays.n101 Tryz.prog Tryz.ren101 where
 mixed := by kernel_rfl
 f101 := Tryz.func184
 f206 := Tryz.func181
 f208 := Tryz.func194
 t3 := Tryz.underlying3
 a3 := Tryz.isAgg3
 z3 := Tryz.sizeOf3
 v3 := Tryz.zeroValue3
 t4 := Tryz.underlying4
 a4 := Tryz.isAgg4
 z4 := Tryz.sizeOf4
 v4 := Tryz.zeroValue4
 t9 := Tryz.underlying9
 a9 := Tryz.isAgg9
 z9 := Tryz.sizeOf9
 v9 := Tryz.zeroValue9
def Tryz.ren160 : Ren where
 f := fun x => match x with | 160 => 185 | 232 => 195 | 231 => 129 | 227 => 130 | 234 => 196 | 233 => 131 | 236 => 197 | 235 => 132 | 228 => 154 | 271 => 201 | 151 => 156 | 197 => 155 | 120 => 203 | 152 => 176 | 260 => 175 | 137 => 139 | 119 => 192 | 224 => 178 | 225 => 177 | 217 => 166 | 266 => 188 | n => n
 t := fun x => match x with | 9 => 9 | 4 => 4 | 3 => 3 | 5 => 5 | 117 => 152 | 116 => 151 | 0 => 0 | 124 => 155 | 21 => 21 | 105 => 176 | 46 => 164 | 119 => 195 | 139 => 198 | 138 => 197 | n => n
 g := fun x => match x with | 3 => 6 | 4 => 7 | n => n
theorem Tryz.lays160 : Lays.n160 Tryz.prog Tryz.ren160 where
 mixed := by kernel_rfl
 f119 := Tryz.func192
 f120 := Tryz.func203
 f137 := Tryz.func139
 f151 := Tryz.func156
 f152 := Tryz.func176
 f160 := Tryz.func185
 f197 := Tryz.func155
 f217 := Tryz.func166
 f224 := Tryz.func178
 f225 := Tryz.func177
 f227 := Tryz.func130
 f228 := Tryz.func154
 f231 := Tryz.func129
 f232 := Tryz.func195
 f233 := Tryz.func131
 f234 := Tryz.func196
 f235 := Tryz.func132
 f236 := Tryz.func197
 f260 := Tryz.func175
 f266 := Tryz.func188
 f271 := Tryz.func201
 t0 := Tryz.underlying0
 a0 := Tryz.isAgg0
 z0 := Tryz.sizeOf0
 v0 := Tryz.zeroValue0
 t3 := Tryz.underlying3
 a3 := Tryz.isAgg3
 z3 := Tryz.sizeOf3
 v3 := Tryz.zeroValue3
 t4 := Tryz.underlying4
 a4 := Tryz.isAgg4
 z4 := Tryz.sizeOf4
 v4 := Tryz.zeroValue4
 t5 := Tryz.underlying5
 a5 := Tryz.isAgg5
 z5 := Tryz.sizeOf5
 v5 := Tryz.zeroValue5
 t9 := Tryz.underlying9
 a9 := Tryz.isAgg9
 z9 := Tryz.sizeOf9
 v9 := Tryz.zeroValue9
 t21 := Tryz.underlying21
 a21 := Tryz.isAgg21
 z21 := Tryz.sizeOf21
 v21 := Tryz.zeroValue21
 t46 := Tryz.underlying164
 a46 := Tryz.isAgg164
 z46 := Tryz.sizeOf164
 v46 := Tryz.zeroValue164
 t105 := Tryz.underlying176
 a105 := Tryz.isAgg176
 z105 := Tryz.sizeOf176
 v105 := Tryz.zeroValue176
 t116 := Tryz.underlying151
 a116 := Tryz.isAgg151
 z116 := Tryz.sizeOf151
 t117 := Tryz.underlying152
 a117 := Tryz.isAgg152
 z117 := Tryz.sizeOf152
 v117 := Tryz.zeroValue152
 t119 := Tryz.underlying195
 a119 := Tryz.isAgg195
 z119 := Tryz.sizeOf195
 t124 := Tryz.underlying155
 a124 := Tryz.isAgg155
 z124 := Tryz.sizeOf155
 v124 := Tryz.zeroValue155
 t138 := Tryz.underlying197
 a138 := Tryz.isAgg197
 z138 := Tryz.sizeOf197
 v138 := Tryz.zeroValue197
 t139 := Tryz.underlying198
 a139 := Tryz.isAgg198
 z139 := Tryz.sizeOf198
 v139 := Tryz.zeroValue198
 g3 := by kernel_rfl
 g4 := by kernel_rfl
def Tryz.ren155 : Ren where
 f := fun x => match x with | 155 => 124 | 154 => 148 | 138 => 172 | 165 => 59 | 143 => 133 | 166 => 60 | 197 => 155 | 169 => 61 | 195 => 190 | 218 => 191 | 240 => 89 | 241 => 90 | 219 => 157 | 260 => 175 | 276 => 120 | 277 => 121 | 217 => 166 | 225 => 177 | 224 => 178 | 267 => 179 | 266 => 188 | 314 => 193 | n => n
 t := fun x => match x with | 9 => 9 | 3 => 3 | 4 => 4 | 72 => 90 | 0 => 0 | 76 => 77 | 105 => 176 | 21 => 21 | 5 => 5 | 70 => 88 | 20 => 20 | 37 => 80 | 75 => 76 | 127 => 121 | 164 => 140 | 46 => 164 | 119 => 195 | 139 => 198 | 138 => 197 | 146 => 200 | 51 => 173 | 80 => 57 | n => n
 g := fun x => match x with | 1 => 2 | 3 => 6 | 4 => 7 | n => n
theorem Tryz.lays155 : Lays.n155 Tryz.prog Tryz.ren155 where
 mixed := by kernel_rfl
 f138 := Tryz.func172
 f143 := Tryz.func133
 f154 := Tryz.func148
 f155 := Tryz.func124
 f165 := Tryz.func59
 f166 := Tryz.func60
 f169 := Tryz.func61
 f195 := Tryz.func190
 f197 := Tryz.func155
 f217 := Tryz.func166
 f218 := Tryz.func191
 f219 := Tryz.func157
 f224 := Tryz.func178
 f225 := Tryz.func177
 f240 := Tryz.func89
 f241 := Tryz.func90
 f260 := Tryz.func175
 f266 := Tryz.func188
 f267 := Tryz.func179
 f276 := Tryz.func120
 f277 := Tryz.func121
 f314 := Tryz.func193
 t0 := Tryz.underlying0
 a0 := Tryz.isAgg0
 z0 := Tryz.sizeOf0
 v0 := Tryz.zeroValue0
 t3 := Tryz.underlying3
 a3 := Tryz.isAgg3
 z3 := Tryz.sizeOf3
 v3 := Tryz.zeroValue3
 t4 := Tryz.underlying4
 a4 := Tryz.isAgg4
 z4 := Tryz.sizeOf4
 v4 := Tryz.zeroValue4
 t5 := Tryz.underlying5
 a5 := Tryz.isAgg5
 z5 := Tryz.sizeOf5
 v5 := Tryz.zeroValue5
 t9 := Tryz.underlying9
 a9 := Tryz.isAgg9
 z9 := Tryz.sizeOf9
 v9 := Tryz.zeroValue9
 t20 := Tryz.underlying20
 a20 := Tryz.isAgg20
 z20 := Tryz.sizeOf20
 v20 := Tryz.zeroValue20
 t21 := Tryz.underlying21
 a21 := Tryz.isAgg21
 z21 := Tryz.sizeOf21
 v21 := Tryz.zeroValue21
 t37 := Tryz.underlying80
 a37 := Tryz.isAgg80
 z37 := Tryz.sizeOf80
 v37 := Tryz.zeroValue80
 t46 := Tryz.underlying164
 a46 := Tryz.isAgg164
 z46 := Tryz.sizeOf164
 v46 := Tryz.zeroValue164
 t51 := Tryz.underlying173
 a51 := Tryz.isAgg173
 z51 := Tryz.sizeOf173
 v51 := Tryz.zeroValue173
 t70 := Tryz.underlying88
 a70 := Tryz.isAgg88
 z70 := Tryz.sizeOf88
 v70 := Tryz.zeroValue88
 t72 := Tryz.underlying90
 a72 := Tryz.isAgg90
 z72 := Tryz.sizeOf90
 v72 := Tryz.zeroValue90
 t75 := Tryz.underlying76
 a75 := Tryz.isAgg76
 z75 := Tryz.sizeOf76
 v75 := Tryz.zeroValue76
 t76 := Tryz.underlying77
 a76 := Tryz.isAgg77
 z76 := Tryz.sizeOf77
 v76 := Tryz.zeroValue77
 t105 := Tryz.underlying176
 a105 := Tryz.isAgg176
 z105 := Tryz.sizeOf176
 v105 := Tryz.zeroValue176
 t119 := Tryz.underlying195
 a119 := Tryz.isAgg195
 z119 := Tryz.sizeOf195
 t127 := Tryz.underlying121
 a127 := Tryz.isAgg121
 z127 := Tryz.sizeOf121
 v127 := Tryz.zeroValue121
 t138 := Tryz.underlying197
 a138 := Tryz.isAgg197
 z138 := Tryz.sizeOf197
 v138 := Tryz.zeroValue197
 t139 := Tryz.underlying198
 a139 := Tryz.isAgg198
 z139 := Tryz.sizeOf198
 v139 := Tryz.zeroValue198
 t146 := Tryz.underlying200
 a146 := Tryz.isAgg200
 z146 := Tryz.sizeOf200
 v146 := Tryz.zeroValue200
 t164 := Tryz.underlying140
 a164 := Tryz.isAgg140
 z164 := Tryz.sizeOf140
 v164 := Tryz.zeroValue140
 g1 := by kernel_rfl
 g3 := by kernel_rfl
 g4 := by kernel_rfl
def Tryz.ren156 : Ren where
 f := fun x => match x with | 156 => 30 | 165 => 59 | 166 => 60 | 169 => 61 | 240 => 89 | 241 => 90 | 276 => 120 | 277 => 121 | n => n
 t := fun x => match x with | 31 => 23 | 9 => 9 | 3 => 3 | 4 => 4 | 0 => 0 | 20 => 20 | 72 => 90 | 76 => 77 | 70 => 88 | 37 => 80 | 75 => 76 | 127 => 121 | 164 => 140 | 5 => 5 | 80 => 57 | n => n
 g := fun x => x
theorem Tryz.lays156 : Lays.n156 Tryz.prog Tryz.ren156 where
 mixed := by kernel_rfl
 f156 := Tryz.func30
 f165 := Tryz.func59
 f166 := Tryz.func60
 f169 := Tryz.func61
 f240 := Tryz.func89
 f241 := Tryz.func90
 f276 := Tryz.func120
 f277 := Tryz.func121
 t0 := Tryz.underlying0
 a0 := Tryz.isAgg0
 z0 := Tryz.sizeOf0
 v0 := Tryz.zeroValue0
 t3 := Tryz.underlying3
 a3 := Tryz.isAgg3
 z3 := Tryz.sizeOf3
 v3 := Tryz.zeroValue3
 t4 := Tryz.underlying4
 a4 := Tryz.isAgg4
 z4 := Tryz.sizeOf4
 v4 := Tryz.zeroValue4
 t9 := Tryz.underlying9
 a9 := Tryz.isAgg9
 z9 := Tryz.sizeOf9
 v9 := Tryz.zeroValue9
 t20 := Tryz.underlying20
 a20 := Tryz.isAgg20
 z20 := Tryz.sizeOf20
 v20 := Tryz.zeroValue20
 t31 := Tryz.underlying23
 a31 := Tryz.isAgg23
 z31 := Tryz.sizeOf23
 v31 := Tryz.zeroValue23
 t37 := Tryz.underlying80
 a37 := Tryz.isAgg80
 z37 := Tryz.sizeOf80
 v37 := Tryz.zeroValue80
 t70 := Tryz.underlying88
 a70 := Tryz.isAgg88
 z70 := Tryz.sizeOf88
 v70 := Tryz.zeroValue88
 t72 := Tryz.underlying90
 a72 := Tryz.isAgg90
 z72 := Tryz.sizeOf90
 v72 := Tryz.zeroValue90
 t75 := Tryz.underlying76
 a75 := Tryz.isAgg76
 z75 := Tryz.sizeOf76
 v75 := Tryz.zeroValue76
 t76 := Tryz.underlying77
 a76 := Tryz.isAgg77
 z76 := Tryz.sizeOf77
 v76 := Tryz.zeroValue77
 t127 := Tryz.underlying121
 a127 := Tryz.isAgg121
 z127 := Tryz.sizeOf121
 v127 := Tryz.zeroValue121
 t164 := Tryz.underlying140
 a164 := Tryz.isAgg140
 z164 := Tryz.sizeOf140
 v164 := Tryz.zeroValue140
def Tryz.ren174 : Ren where
 f := fun x => match x with | 174 => 186 | 247 => 111 | 245 => 85 | 287 => 143 | 279 => 112 | 280 => 113 | 281 => 114 | 282 => 115 | 321 => 170 | 322 => 171 | 316 => 144 | 171 => 33 | 205 => 145 | 243 => 64 | 246 => 94 | 283 => 125 | 284 => 126 | 285 => 127 | 286 => 128 | 129 => 150 | 317 => 149 | 318 => 151 | 319 => 152 | 320 => 153 | 337 => 173 | 338 => 174 | n => n
 t := fun x => match x with | 9 => 9 | 3 => 3 | 2 => 2 | 75 => 76 | 85 => 133 | 4 => 4 | 167 => 132 | 5 => 5 | 53 => 81 | 175 => 162 | 46 => 164 | 168 => 135 | 37 => 80 | 0 => 0 | 210 => 167 | 21 => 21 | 127 => 121 | 145 => 187 | 143 => 185 | 171 => 144 | 173 => 147 | 212 => 172 | 51 => 173 | 20 => 20 | 213 => 174 | 232 => 193 | 233 => 194 | 80 => 57 | n => n
 g := fun x => match x with | 15 => 0 | 16 => 1 | 17 => 3 | 18 => 4 | 19 => 5 | n => n
theorem Tryz.lays174 : LaysC.n174 Tryz.prog Tryz.ren174 where
 mixed := by kernel_rfl
 f129 := Tryz.func150
 f171 := Tryz.func33
 f174 := Tryz.func186
 f205 := Tryz.func145
 f243 := Tryz.func64
 f245 := Tryz.func85
 f246 := Tryz.func94
 f247 := Tryz.func111
 f279 := Tryz.func112
 f280 := Tryz.func113
 f281 := Tryz.func114
 f282 := Tryz.func115
 f283 := Tryz.func125
 f284 := Tryz.func126
 f285 := Tryz.func127
 f286 := Tryz.func128
 f287 := Tryz.func143
 f316 := Tryz.func144
 f317 := Tryz.func149
 f318 := Tryz.func151
 f319 := Tryz.func152
 f320 := Tryz.func153
 f321 := Tryz.func170
 f322 := Tryz.func171
 f337 := Tryz.func173
 f338 := Tryz.func174
 t0 := Tryz.underlying0
 a0 := Tryz.isAgg0
 z0 := Tryz.sizeOf0
 v0 := Tryz.zeroValue0
 t2 := Tryz.underlying2
 a2 := Tryz.isAgg2
 z2 := Tryz.sizeOf2
 v2 := Tryz.zeroValue2
 t3 := Tryz.underlying3
 a3 := Tryz.isAgg3
 z3 := Tryz.sizeOf3
 v3 := Tryz.zeroValue3
 t4 := Tryz.underlying4
 a4 := Tryz.isAgg4
 z4 := Tryz.sizeOf4
 v4 := Tryz.zeroValue4
 t5 := Tryz.underlying5
 a5 := Tryz.isAgg5
 z5 := Tryz.sizeOf5
 v5 := Tryz.zeroValue5
 t9 := Tryz.underlying9
 a9 := Tryz.isAgg9
 z9 := Tryz.sizeOf9
 v9 := Tryz.zeroValue9
 t20 := Tryz.underlying20
 a20 := Tryz.isAgg20
 z20 := Tryz.sizeOf20
 v20 := Tryz.zeroValue20
 t21 := Tryz.underlying21
 a21 := Tryz.isAgg21
 z21 := Tryz.sizeOf21
 v21 := Tryz.zeroValue21
 t37 := Tryz.underlying80
 a37 := Tryz.isAgg80
 z37 := Tryz.sizeOf80
 v37 := Tryz.zeroValue80
 t46 := Tryz.underlying164
 a46 := Tryz.isAgg164
 z46 := Tryz.sizeOf164
 v46 := Tryz.zeroValue164
 t51 := Tryz.underlying173
 a51 := Tryz.isAgg173
 z51 := Tryz.sizeOf173
 v51 := Tryz.zeroValue173
 t53 := Tryz.underlying81
 a53 := Tryz.isAgg81
 z53 := Tryz.sizeOf81
 v53 := Tryz.zeroValue81
 t75 := Tryz.underlying76
 a75 := Tryz.isAgg76
 z75 := Tryz.sizeOf76
 v75 := Tryz.zeroValue76
 t85 := Tryz.underlying133
 a85 := Tryz.isAgg133
 z85 := Tryz.sizeOf133
 v85 := Tryz.zeroValue133
 t127 := Tryz.underlying121
 a127 := Tryz.isAgg121
 z127 := Tryz.sizeOf121
 v127 := Tryz.zeroValue121
 t143 := Tryz.underlying185
 a143 := Tryz.isAgg185
 z143 := Tryz.sizeOf185
 v143 := Tryz.zeroValue185
 t145 := Tryz.underlying187
 a145 := Tryz.isAgg187
 z145 := Tryz.sizeOf187
 v145 := Tryz.zeroValue187
 t167 := Tryz.underlying132
 a167 := Tryz.isAgg132
 z167 := Tryz.sizeOf132
 v167 := Tryz.zeroValue132
 t168 := Tryz.underlying135
 a168 := Tryz.isAgg135
 z168 := Tryz.sizeOf135
 v168 := Tryz.zeroValue135
 t171 := Tryz.underlying144
 a171 := Tryz.isAgg144
 z171 := Tryz.sizeOf144
 v171 := Tryz.zeroValue144
 t173 := Tryz.underlying147
 a173 := Tryz.isAgg147
 z173 := Tryz.sizeOf147
 v173 := Tryz.zeroValue147
 t175 := Tryz.underlying162
 a175 := Tryz.isAgg162
 z175 := Tryz.sizeOf162
 v175 := Tryz.zeroValue162
 t210 := Tryz.underlying167
 a210 := Tryz.isAgg167
 z210 := Tryz.sizeOf167
 v210 := Tryz.zeroValue167
 t212 := Tryz.underlying172
 a212 := Tryz.isAgg172
 z212 := Tryz.sizeOf172
 v212 := Tryz.zeroValue172
 t213 := Tryz.underlying174
 a213 := Tryz.isAgg174
 z213 := Tryz.sizeOf174
 t232 := Tryz.underlying193
 a232 := Tryz.isAgg193
 z232 := Tryz.sizeOf193
 v232 := Tryz.zeroValue193
 t233 := Tryz.underlying194
 a233 := Tryz.isAgg194
 z233 := Tryz.sizeOf194
 v233 := Tryz.zeroValue194
 g15 := by kernel_rfl
 g16 := by kernel_rfl
 g17 := by kernel_rfl
 g18 := by kernel_rfl
 g19 := by kernel_rfl
 t80 := Tryz.underlying57
 a80 := Tryz.isAgg57
 z80 := Tryz.sizeOf57
 v80 := Tryz.zeroValue57
 i0 := by kernel_rfl
 i2 := by kernel_rfl
 i3 := by kernel_rfl
 i4 := by kernel_rfl
 i5 := by kernel_rfl
 i9 := by kernel_rfl
 i20 := by kernel_rfl
 i21 := by kernel_rfl
 i37 := by kernel_rfl
 i46 := by kernel_rfl
 i51 := by kernel_rfl
 i53 := by kernel_rfl
 i75 := by kernel_rfl
 i80 := by kernel_rfl
 i85 := by kernel_rfl
 i127 := by kernel_rfl
 i143 := by kernel_rfl
 i145 := by kernel_rfl
 i167 := by kernel_rfl
 i168 := by kernel_rfl
 i171 := by kernel_rfl
 i173 := by kernel_rfl
 i175 := by kernel_rfl
 i210 := by kernel_rfl
 i212 := by kernel_rfl
 i232 := by kernel_rfl
 i233 := by kernel_rfl
 m15 := by kernel_rfl
 m16 := by kernel_rfl
 m17 := by kernel_rfl
 m18 := by kernel_rfl
 m19 := by kernel_rfl
 c0 := by kernel_rfl
 c2 := by kernel_rfl
 c3 := by kernel_rfl
 c4 := by kernel_rfl
 c5 := by kernel_rfl
 c9 := by kernel_rfl
 c20 := by kernel_rfl
 c21 := by kernel_rfl
 c37 := by kernel_rfl
 c46 := by kernel_rfl
 c51 := by kernel_rfl
 c53 := by kernel_rfl
 c75 := by kernel_rfl
 c80 := by kernel_rfl
 c85 := by kernel_rfl
 c127 := by kernel_rfl
 c143 := by kernel_rfl
 c145 := by kernel_rfl
 c167 := by kernel_rfl
 c168 := by kernel_rfl
 c171 := by kernel_rfl
 c173 := by kernel_rfl
 c175 := by kernel_rfl
 c210 := by kernel_rfl
 c212 := by kernel_rfl
 c213 := by kernel_rfl
 c232 := by kernel_rfl
 c233 := by kernel_rfl
def Tryz.ren173 : Ren where
 f := fun x => match x with | 173 => 147 | 246 => 94 | 283 => 125 | 284 => 126 | 285 => 127 | 286 => 128 | 129 => 150 | 317 => 149 | 318 => 151 | 319 => 152 | 320 => 153 | 337 => 173 | 338 => 174 | n => n
 t := fun x => match x with | 2 => 2 | 3 => 3 | 9 => 9 | 4 => 4 | 171 => 144 | 0 => 0 | 53 => 81 | 37 => 80 | 5 => 5 | 173 => 147 | 212 => 172 | 51 => 173 | 20 => 20 | 213 => 174 | 46 => 164 | 232 => 193 | 233 => 194 | n => n
 g := fun x => match x with | 17 => 3 | 18 => 4 | 19 => 5 | n => n
theorem Tryz.lays173 : LaysM.n173 Tryz.prog Tryz.ren173 where
 mixed := by kernel_rfl
 f129 := Tryz.func150
 f173 := Tryz.func147
 f246 := Tryz.func94
 f283 := Tryz.func125
 f284 := Tryz.func126
 f285 := Tryz.func127
 f286 := Tryz.func128
 f317 := Tryz.func149
 f318 := Tryz.func151
 f319 := Tryz.func152
 f320 := Tryz.func153
 f337 := Tryz.func173
 f338 := Tryz.func174
 t0 := Tryz.underlying0
 a0 := Tryz.isAgg0
 z0 := Tryz.sizeOf0
 v0 := Tryz.zeroValue0
 t2 := Tryz.underlying2
 a2 := Tryz.isAgg2
 z2 := Tryz.sizeOf2
 v2 := Tryz.zeroValue2
 t3 := Tryz.underlying3
 a3 := Tryz.isAgg3
 z3 := Tryz.sizeOf3
 v3 := Tryz.zeroValue3
 t4 := Tryz.underlying4
 a4 := Tryz.isAgg4
 z4 := Tryz.sizeOf4
 v4 := Tryz.zeroValue4
 t5 := Tryz.underlying5
 a5 := Tryz.isAgg5
 z5 := Tryz.sizeOf5
 v5 := Tryz.zeroValue5
 t9 := Tryz.underlying9
 a9 := Tryz.isAgg9
 z9 := Tryz.sizeOf9
 v9 := Tryz.zeroValue9
 t20 := Tryz.underlying20
 a20 := Tryz.isAgg20
 z20 := Tryz.sizeOf20
 v20 := Tryz.zeroValue20
 t37 := Tryz.underlying80
 a37 := Tryz.isAgg80
 z37 := Tryz.sizeOf80
 v37 := Tryz.zeroValue80
 t46 := Tryz.underlying164
 a46 := Tryz.isAgg164
 z46 := Tryz.sizeOf164
 v46 := Tryz.zeroValue164
 t51 := Tryz.underlying173
 a51 := Tryz.isAgg173
 z51 := Tryz.sizeOf173
 v51 := Tryz.zeroValue173
 t53 := Tryz.underlying81
 a53 := Tryz.isAgg81
 z53 := Tryz.sizeOf81
 v53 := Tryz.zeroValue81
 t171 := Tryz.underlying144
 a171 := Tryz.isAgg144
 z171 := Tryz.sizeOf144
 v171 := Tryz.zeroValue144
 t173 := Tryz.underlying147
 a173 := Tryz.isAgg147
 z173 := Tryz.sizeOf147
 v173 := Tryz.zeroValue147
 t212 := Tryz.underlying172
 a212 := Tryz.isAgg172
 z212 := Tryz.sizeOf172
 v212 := Tryz.zeroValue172
 t213 := Tryz.underlying174
 a213 := Tryz.isAgg174
 z213 := Tryz.sizeOf174
 t232 := Tryz.underlying193
 a232 := Tryz.isAgg193
 z232 := Tryz.sizeOf193
 v232 := Tryz.zeroValue193
 t233 := Tryz.underlying194
 a233 := Tryz.isAgg194
 z233 := Tryz.sizeOf194
 v233 := Tryz.zeroValue194
 g17 := by kernel_rfl
 g18 := by kernel_rfl
 g19 := by kernel_rfl
 i0 := by kernel_rfl
 i2 := by kernel_rfl
 i3 := by kernel_rfl
 i4 := by kernel_rfl
 i5 := by kernel_rfl
 i9 := by kernel_rfl
 i20 := by kernel_rfl
 i37 := by kernel_rfl
 i46 := by kernel_rfl
 i51 := by kernel_rfl
 i53 := by kernel_rfl
 i171 := by kernel_rfl
 i173 := by kernel_rfl
 i212 := by kernel_rfl
 i232 := by kernel_rfl
 i233 := by kernel_rfl
 m17 := by kernel_rfl
 m18 := by kernel_rfl
 m19 := by kernel_rfl
def Tryz.ren137 : Ren where
 f := fun x => match x with | 137 => 139 | 217 => 166 | 266 => 188 | n => n
 t := fun x => match x with | 9 => 9 | 5 => 5 | 3 => 3 | n => n
 g := fun x => x
theorem Tryz.lays137 : Lays.n137 Tryz.prog Tryz.ren137 where
 mixed := by kernel_rfl
 f137 := Tryz.func139
 f217 := Tryz.func166
 f266 := Tryz.func188
 t3 := Tryz.underlying3
 a3 := Tryz.isAgg3
 z3 := Tryz.sizeOf3
 v3 := Tryz.zeroValue3
 t5 := Tryz.underlying5
 a5 := Tryz.isAgg5
 z5 := Tryz.sizeOf5
 v5 := Tryz.zeroValue5
 t9 := Tryz.underlying9
 a9 := Tryz.isAgg9
 z9 := Tryz.sizeOf9
 v9 := Tryz.zeroValue9
def Tryz.ren170 : Ren where
 f := fun x => match x with | 170 => 63 | n => n
 t := fun x => match x with | 70 => 88 | 3 => 3 | 0 => 0 | 72 => 90 | 37 => 80 | 5 => 5 | n => n
 g := fun x => x
theorem Tryz.lays170 : Lays.n170 Tryz.prog Tryz.ren170 where
 mixed := by kernel_rfl
 f170 := Tryz.func63
 t0 := Tryz.underlying0
 a0 := Tryz.isAgg0
 z0 := Tryz.sizeOf0
 v0 := Tryz.zeroValue0
 t3 := Tryz.underlying3
 a3 := Tryz.isAgg3
 z3 := Tryz.sizeOf3
 v3 := Tryz.zeroValue3
 t37 := Tryz.underlying80
 a37 := Tryz.isAgg80
 z37 := Tryz.sizeOf80
 v37 := Tryz.zeroValue80
 t70 := Tryz.underlying88
 a70 := Tryz.isAgg88
 z70 := Tryz.sizeOf88
 v70 := Tryz.zeroValue88
 t72 := Tryz.underlying90
 a72 := Tryz.isAgg90
 z72 := Tryz.sizeOf90
 v72 := Tryz.zeroValue90
def Tryz.ren172 : Ren where
 f := fun x => match x with | 172 => 50 | 244 => 84 | 245 => 85 | 247 => 111 | 279 => 112 | 280 => 113 | 281 => 114 | 282 => 115 | 287 => 143 | 316 => 144 | 171 => 33 | 205 => 145 | 321 => 170 | 322 => 171 | 243 => 64 | 246 => 94 | 283 => 125 | 284 => 126 | 285 => 127 | 286 => 128 | 129 => 150 | 317 => 149 | 318 => 151 | 319 => 152 | 320 => 153 | 337 => 173 | 338 => 174 | n => n
 t := fun x => match x with | 9 => 9 | 3 => 3 | 75 => 76 | 76 => 77 | 4 => 4 | 5 => 5 | 167 => 132 | 37 => 80 | 0 => 0 | 85 => 133 | 2 => 2 | 168 => 135 | 53 => 81 | 175 => 162 | 46 => 164 | 210 => 167 | 127 => 121 | 145 => 187 | 143 => 185 | 21 => 21 | 171 => 144 | 173 => 147 | 212 => 172 | 51 => 173 | 20 => 20 | 213 => 174 | 232 => 193 | 233 => 194 | 80 => 57 | n => n
 g := fun x => match x with | 15 => 0 | 16 => 1 | 17 => 3 | 18 => 4 | 19 => 5 | n => n
theorem Tryz.lays172 : LaysC.n172 Tryz.prog Tryz.ren172 where
 mixed := by kernel_rfl
 f129 := Tryz.func150
 f171 := Tryz.func33
 f172 := Tryz.func50
 f205 := Tryz.func145
 f243 := Tryz.func64
 f244 := Tryz.func84
 f245 := Tryz.func85
 f246 := Tryz.func94
 f247 := Tryz.func111
 f279 := Tryz.func112
 f280 := Tryz.func113
 f281 := Tryz.func114
 f282 := Tryz.func115
 f283 := Tryz.func125
 f284 := Tryz.func126
 f285 := Tryz.func127
 f286 := Tryz.func128
 f287 := Tryz.func143
 f316 := Tryz.func144
 f317 := Tryz.func149
 f318 := Tryz.func151
 f319 := Tryz.func152
 f320 := Tryz.func153
 f321 := Tryz.func170
 f322 := Tryz.func171
 f337 := Tryz.func173
 f338 := Tryz.func174
 t0 := Tryz.underlying0
 a0 := Tryz.isAgg0
 z0 := Tryz.sizeOf0
 v0 := Tryz.zeroValue0
 t2 := Tryz.underlying2
 a2 := Tryz.isAgg2
 z2 := Tryz.sizeOf2
 v2 := Tryz.zeroValue2
 t3 := Tryz.underlying3
 a3 := Tryz.isAgg3
 z3 := Tryz.sizeOf3
 v3 := Tryz.zeroValue3
 t4 := Tryz.underlying4
 a4 := Tryz.isAgg4
 z4 := Tryz.sizeOf4
 v4 := Tryz.zeroValue4
 t5 := Tryz.underlying5
 a5 := Tryz.isAgg5
 z5 := Tryz.sizeOf5
 v5 := Tryz.zeroValue5
 t9 := Tryz.underlying9
 a9 := Tryz.isAgg9
 z9 := Tryz.sizeOf9
 v9 := Tryz.zeroValue9
 t20 := Tryz.underlying20
 a20 := Tryz.isAgg20
 z20 := Tryz.sizeOf20
 v20 := Tryz.zeroValue20
 t21 := Tryz.underlying21
 a21 := Tryz.isAgg21
 z21 := Tryz.sizeOf21
 v21 := Tryz.zeroValue21
 t37 := Tryz.underlying80
 a37 := Tryz.isAgg80
 z37 := Tryz.sizeOf80
 v37 := Tryz.zeroValue80
 t46 := Tryz.underlying164
 a46 := Tryz.isAgg164
 z46 := Tryz.sizeOf164
 v46 := Tryz.zeroValue164
 t51 := Tryz.underlying173
 a51 := Tryz.isAgg173
 z51 := Tryz.sizeOf173
 v51 := Tryz.zeroValue173
 t53 := Tryz.underlying81
 a53 := Tryz.isAgg81
 z53 := Tryz.sizeOf81
 v53 := Tryz.zeroValue81
 t75 := Tryz.underlying76
 a75 := Tryz.isAgg76
 z75 := Tryz.sizeOf76
 v75 := Tryz.zeroValue76
 t76 := Tryz.underlying77
 a76 := Tryz.isAgg77
 z76 := Tryz.sizeOf77
 v76 := Tryz.zeroValue77
 t85 := Tryz.underlying133
 a85 := Tryz.isAgg133
 z85 := Tryz.sizeOf133
 v85 := Tryz.zeroValue133
 t127 := Tryz.underlying121
 a127 := Tryz.isAgg121
 z127 := Tryz.sizeOf121
 v127 := Tryz.zeroValue121
 t143 := Tryz.underlying185
 a143 := Tryz.isAgg185
 z143 := Tryz.sizeOf185
 v143 := Tryz.zeroValue185
 t145 := Tryz.underlying187
 a145 := Tryz.isAgg187
 z145 := Tryz.sizeOf187
 v145 := Tryz.zeroValue187
 t167 := Tryz.underlying132
 a167 := Tryz.isAgg132
 z167 := Tryz.sizeOf132
 v167 := Tryz.zeroValue132
 t168 := Tryz.underlying135
 a168 := Tryz.isAgg135
 z168 := Tryz.sizeOf135
 v168 := Tryz.zeroValue135
 t171 := Tryz.underlying144
 a171 := Tryz.isAgg144
 z171 := Tryz.sizeOf144
 v171 := Tryz.zeroValue144
 t173 := Tryz.underlying147
 a173 := Tryz.isAgg147
 z173 := Tryz.sizeOf147
 v173 := Tryz.zeroValue147
 t175 := Tryz.underlying162
 a175 := Tryz.isAgg162
 z175 := Tryz.sizeOf162
 v175 := Tryz.zeroValue162
 t210 := Tryz.underlying167
 a210 := Tryz.isAgg167
 z210 := Tryz.sizeOf167
 v210 := Tryz.zeroValue167
 t212 := Tryz.underlying172
 a212 := Tryz.isAgg172
 z212 := Tryz.sizeOf172
 v212 := Tryz.zeroValue172
 t213 := Tryz.underlying174
 a213 := Tryz.isAgg174
 z213 := Tryz.sizeOf174
 t232 := Tryz.underlying193
 a232 := Tryz.isAgg193
 z232 := Tryz.sizeOf193
 v232 := Tryz.zeroValue193
 t233 := Tryz.underlying194
 a233 := Tryz.isAgg194
 z233 := Tryz.sizeOf194
 v233 := Tryz.zeroValue194
 g15 := by kernel_rfl
 g16 := by kernel_rfl
 g17 := by kernel_rfl
 g18 := by kernel_rfl
 g19 := by kernel_rfl
 t80 := Tryz.underlying57
 a80 := Tryz.isAgg57
 z80 := Tryz.sizeOf57
 v80 := Tryz.zeroValue57
 i0 := by kernel_rfl
 i2 := by kernel_rfl
 i3 := by kernel_rfl
 i4 := by kernel_rfl
 i5 := by kernel_rfl
 i9 := by kernel_rfl
 i20 := by kernel_rfl
 i21 := by kernel_rfl
 i37 := by kernel_rfl
 i46 := by kernel_rfl
 i51 := by kernel_rfl
 i53 := by kernel_rfl
 i75 := by kernel_rfl
 i76 := by kernel_rfl
 i80 := by kernel_rfl
 i85 := by kernel_rfl
 i127 := by kernel_rfl
 i143 := by kernel_rfl
 i145 := by kernel_rfl
 i167 := by kernel_rfl
 i168 := by kernel_rfl
 i171 := by kernel_rfl
 i173 := by kernel_rfl
 i175 := by kernel_rfl
 i210 := by kernel_rfl
 i212 := by kernel_rfl
 i232 := by kernel_rfl
 i233 := by kernel_rfl
 m15 := by kernel_rfl
 m16 := by kernel_rfl
 m17 := by kernel_rfl
 m18 := by kernel_rfl
 m19 := by kernel_rfl
 c0 := by kernel_rfl
 c2 := by kernel_rfl
 c3 := by kernel_rfl
 c4 := by kernel_rfl
 c5 := by kernel_rfl
 c9 := by kernel_rfl
 c20 := by kernel_rfl
 c21 := by kernel_rfl
 c37 := by kernel_rfl
 c46 := by kernel_rfl
 c51 := by kernel_rfl
 c53 := by kernel_rfl
 c75 := by kernel_rfl
 c76 := by kernel_rfl
 c80 := by kernel_rfl
 c85 := by kernel_rfl
 c127 := by kernel_rfl
 c143 := by kernel_rfl
 c145 := by kernel_rfl
 c167 := by kernel_rfl
 c168 := by kernel_rfl
 c171 := by kernel_rfl
 c173 := by kernel_rfl
 c175 := by kernel_rfl
 c210 := by kernel_rfl
 c212 := by kernel_rfl
 c213 := by kernel_rfl
 c232 := by kernel_rfl
 c233 := by kernel_rfl
theorem Tryz.lays166 : Lays.n166 Tryz.prog Tryz.ren155 := { Tryz.lays155 with }
end Go.Proofs
namespace Go.SX.Nb
open Go Go.SX Go.Proofs Go.RowKit
variable [ErrAt]
set_option maxRecDepth 4000
theorem Kf {w : World} (h : F5 w) : ∃ m, w.cell? ⟨2, 0, none⟩ = some (.int .i64 m) := by
 obtain ⟨_, a, m, t, f, rfl⟩ := h (2, fun o => ∃ m t f, o = .cells #[.int .i64 m] t f) (by simp [GlobInv.blocks, Pj])
 exact ⟨m, by simp [World.cell?, a]⟩
theorem Jk {w : World} (h : F5 w) : w.cell? ⟨1, 0, none⟩ = some (.iface 185 (.pointer (some ErrAt.b))) := by
 obtain ⟨_, a, t, f, rfl⟩ := h (1, fun o => ∃ t f, o = .cells #[.iface 185 (.pointer (some ErrAt.b))] t f) (by simp [GlobInv.blocks, Pj])
 simp [World.cell?, a]
theorem U9 {w : World} (h : F5 w) : w.cell? ⟨0, 0, none⟩ = some (.iface 185 (.pointer (some ErrAt.bs))) := by
 obtain ⟨_, a, t, f, rfl⟩ := h (0, fun o => ∃ t f, o = .cells #[.iface 185 (.pointer (some ErrAt.bs))] t f) (by simp [GlobInv.blocks, Pj])
 simp [World.cell?, a]
theorem W4 {w : World} (h : F5 w) : Lib.TabIs Tryz.prog w "internal/strconv.uint64pow10" .u64 Lib.pow10Tab := by
 obtain ⟨_, a, t, f, rfl⟩ := h (3, fun o => ∃ t f, o = .cells (Lib.pow10Tab.map fun z => Value.int .u64 z).toArray t f) (by simp [GlobInv.blocks, Pj])
 have hg : Tryz.prog.globalNamed "internal/strconv.uint64pow10" = some 3 := by kernel_rfl
 simp only at a
 simp [Lib.TabIs, World.var?, hg, a]
theorem W5 (w : World) (n : Nat) : Below w.heap.size w (w.drewN n) := ⟨rfl, rfl, rfl, Nat.le_refl _, fun _ _ => rfl⟩
theorem c96 (s t : Str) (hs : s.length < 4294967281) (Hp : List AObj) : AFun Tryz.prog 96 [A7 s, A7 t] Hp (Ao (Lib.contains s t)) := by
 refine AFun.lib (xs := [sv s, sv t]) (v := .bool (Lib.contains s t)) (fun G w => .v _ _) (fun w hg => ?_)
 obtain ⟨m, hm⟩ := Kf hg
 refine (Any.strings_Contains Tryz.lays144 ⟨s.toArray⟩ ⟨t.toArray⟩ m w (by simpa [ByteArray.size] using hs) hm).mono ?_
 rintro e w' ⟨rfl, rfl⟩
 exact Vz
theorem ABl (s t : Str) (hs : s.length < 4294967281) (Hp : List AObj) : AFun Tryz.prog 104 [A7 s, A7 t] Hp (.tup [A7 (Lib.cut s t).1, A7 (Lib.cut s t).2.1, Ao (Lib.cut s t).2.2]) := by
 refine AFun.lib (xs := [sv s, sv t]) (v := .tuple #[sv (Lib.cut s t).1, sv (Lib.cut s t).2.1, .bool (Lib.cut s t).2.2]) (fun G w => K8 rfl (fun i y u hy hu => ?_)) (fun w hg => ?_)
 ·match i with
  | 0 => simp at hy hu; subst hy; subst hu; exact .v _ _
  | 1 => simp at hy hu; subst hy; subst hu; exact .v _ _
  | 2 => simp at hy hu; subst hy; subst hu; exact .v _ _
  | i + 3 => simp at hy
 obtain ⟨m, hm⟩ := Kf hg
 refine (Any.strings_Cut Tryz.lays145 ⟨s.toArray⟩ ⟨t.toArray⟩ m w (by simpa [ByteArray.size] using hs) hm).mono ?_
 rintro e w' ⟨rfl, n, rfl⟩
 exact ⟨rfl, W5 _ _⟩
theorem c95 (s t : Str) (ht : t.length < 4294967281) (ha : ∀ c ∈ t, c.toNat < 128) (Hp : List AObj) : AFun Tryz.prog 95 [A7 s, A7 t] Hp (A7 (Lib.trimLeftS s t)) := by
 refine AFun.lib (xs := [sv s, sv t]) (v := sv (Lib.trimLeftS s t)) (fun G w => .v _ _) (fun w hg => ?_)
 refine (Any.strings_TrimLeft_laid Tryz.lays161 (by kernel_rfl) ⟨s.toArray⟩ ⟨t.toArray⟩ w (by simpa [ByteArray.size] using ht) (fun j b hj => ha b (List.mem_of_getElem? hj))).mono ?_
 rintro e w' ⟨rfl, hb⟩
 exact ⟨rfl, hb⟩
/-- The pieces of a split. -/
def Mu (s t : Str) : List Str := (Lib.splitB ⟨t.toArray⟩ 0 (Lib.countB ⟨s.toArray⟩ ⟨t.toArray⟩) ⟨s.toArray⟩).map (·.data.toList)
theorem ACw (s t : Str) (hs : s.length < 4294967281) (ht : 1 ≤ t.length) (Hp : List AObj) : AFun Tryz.prog 134 [A7 s, A7 t] Hp (H9 (Mu s t)) := by
 have := AFun.libSlice (P := Tryz.prog) (g := 134) (Hp := Hp) (xs := [sv s, sv t]) (ys := (Mu s t).map sv) (t := 9) (by intro y hy; obtain ⟨z, _, rfl⟩ := List.mem_map.1 hy; rfl) (fun w hg => by
  obtain ⟨m, hm⟩ := Kf hg
  refine (Any.strings_Split Tryz.lays146 (by kernel_rfl) ⟨s.toArray⟩ ⟨t.toArray⟩ m w (by simpa [ByteArray.size] using hs) hm (by simpa [ByteArray.size] using ht)).mono ?_
  rintro e w' ⟨rfl, rfl⟩
  have hl : ((Mu s t).map sv).length = Lib.countB ⟨s.toArray⟩ ⟨t.toArray⟩ + 1 := by
   rw [List.length_map]
   unfold Mu
   rw [List.length_map]
   exact Lib.splitB_all _ (by simpa [ByteArray.size] using ht) _ _ _ rfl
  refine ⟨by rw [hl], ?_⟩
  unfold Mu
  rw [List.map_map]
  rfl)
 rw [List.map_map] at this
 exact this
end Go.SX.Nb
namespace Go.Proofs
open Go Go.RowKit Go.Extern.Stop Go.Stop Go.Extern
theorem Tryz.isTypeOf (v : Value) (w : World) : (Extern.ReflectliteType.typeOf #[.iface 185 v]).run Tryz.prog w = .ok (.iface 207 (.agg #[.pointer (some ⟨8, 185, none⟩)])) w := by kernel_rfl
def Tryz.cmpOf : Array Value → Sem Value := Extern.ReflectliteType.method fun t => do Extern.Rtype.noPackHeld "Comparable" t; pure (.bool (← typeInfo t).comparable)
theorem Tryz.isComparable (w : World) : (Tryz.cmpOf #[.agg #[.pointer (some ⟨8, 185, none⟩)]]).run Tryz.prog w = .ok (.bool true) w := by kernel_rfl
theorem Tryz.isMethodComparable (v : Value) (w : World) : (Go.method 348 207 v "Comparable").run Tryz.prog w = .ok (232, v) w := by kernel_rfl
theorem Tryz.isComp : (Tryz.prog.info? 185).map (·.comparable) = some true := by kernel_rfl
theorem Tryz.isSize : (Tryz.prog.info? 187).map (·.size) = some 1 := by kernel_rfl
theorem Tryz.noIsW (v : Value) (xT : TypeId) (w : World) : (Instr.typeAssert (.iface 135 v) xT 209 true).run Tryz.prog w = .ok (.tuple #[.nilIface, .bool false]) w := run_typeAssert_lacksB Tryz.underlying209 (by kernel_rfl) (by kernel_rfl) v xT w
theorem Tryz.hasUnwrapW (v : Value) (xT : TypeId) (w : World) : (Instr.typeAssert (.iface 135 v) xT 212 true).run Tryz.prog w = .ok (.tuple #[.iface 135 v, .bool true]) w := run_typeAssert_hasB Tryz.underlying212 (by kernel_rfl) v xT w
theorem Tryz.methodUnwrap (v : Value) (w : World) : (Go.method 348 135 v "Unwrap").run Tryz.prog w = .ok (227, v) w := by kernel_rfl
namespace Tryz
theorem is_nil (b : Addr) (w : World) :
  Calls Tryz.prog 187 #[.nilIface, .iface 185 (.pointer (some b))] w fun e w' => e = .returned (.bool false) ∧ w' = w := by
 have hn := run_eql_iface_nil_left (P := Tryz.prog) w 185 (.pointer (some b)) Tryz.underlying76
 go_enter Tryz.func187, Tryz.ntmps187
 go_wp2
 go_ret
 exact ⟨rfl, rfl⟩
set_option maxRecDepth 100000 in
theorem is_range (pb po : Nat) (b : Addr) (w : World) (h1 : w.cell? ⟨pb, po + 2, none⟩ = some (.iface 185 (.pointer (some b)))) :
  Calls Tryz.prog 187 #[.iface 135 (.pointer (some ⟨pb, po, none⟩)), .iface 185 (.pointer (some b))] w fun e w' => e = .returned (.bool true) ∧ w' = w := by
 obtain ⟨i, hi, hcmp⟩ := Option.map_eq_some_iff.1 Tryz.isComp
 obtain ⟨j, hj, hjs⟩ := Option.map_eq_some_iff.1 Tryz.isSize
 have h8 := @run_callFunc_extern Tryz.prog 198 _ Extern.ReflectliteType.typeOf Tryz.func198 (by kernel_rfl) (by kernel_rfl) (by kernel_rfl) (by kernel_rfl)
 have h32 := @run_callFunc_extern Tryz.prog 232 _ Tryz.cmpOf Tryz.func232 (by kernel_rfl) (by kernel_rfl) (by kernel_rfl) (by kernel_rfl)
 have tT := Tryz.isTypeOf
 have cT := Tryz.isComparable
 have mR := Tryz.isMethodComparable
 have nW := Tryz.noIsW
 have uW := Tryz.hasUnwrapW
 have mU := Tryz.methodUnwrap
 have heq := run_eql_iface_ptr_same (P := Tryz.prog) w b Tryz.underlying76 Tryz.underlying185 hi hcmp hj
 have hty := run_eql_iface_types (P := Tryz.prog) 135 185 (.pointer (some ⟨pb, po, none⟩)) (.pointer (some b)) Tryz.underlying76 (by decide) w
 go_enter Tryz.func187, Tryz.ntmps187
 go_wp2
 refine wp_loop_rounds 2 ?_
 rw [rounds_succ]
 go_wp2
 rw [rounds_succ]
 go_wp2
 go_ret
 exact ⟨rfl, rfl⟩
end Tryz
end Go.Proofs
namespace Go.SX.Nb
open Go Go.SX Go.Proofs Go.RowKit Go.Sort
variable [ErrAt]
set_option maxRecDepth 4000
theorem ACx (s t : Str) (Hp : List AObj) : AFun Tryz.prog 161 [A7 s, A7 t] Hp (Ao (Lib.hasPrefix s t)) := by
 refine AFun.lib (xs := [sv s, sv t]) (v := .bool (Lib.hasPrefix s t)) (fun G w => .v _ _) (fun w hg => ?_)
 refine (Any.strings_HasPrefix Tryz.lays99 ⟨s.toArray⟩ ⟨t.toArray⟩ w).mono ?_
 rintro e w' ⟨rfl, rfl⟩
 exact Vz
theorem ACy (s t : Str) (hs : s.length ≤ 9223372036854775807) (Hp : List AObj) : AFun Tryz.prog 162 [A7 s, A7 t] Hp (Ao (Lib.hasSuffix s t)) := by
 refine AFun.lib (xs := [sv s, sv t]) (v := .bool (Lib.hasSuffix s t)) (fun G w => .v _ _) (fun w hg => ?_)
 refine (Any.strings_HasSuffix Tryz.lays100 ⟨s.toArray⟩ ⟨t.toArray⟩ w (by simpa [ByteArray.size] using hs)).mono ?_
 rintro e w' ⟨rfl, rfl⟩
 exact Vz
theorem ACz (s : Str) (c : UInt8) (Hp : List AObj) : AFun Tryz.prog 139 [A7 s, .v (.int .u8 (c.toNat : Int))] Hp (A3 (Lib.indexByte s c)) := by
 refine AFun.lib (xs := [sv s, .int .u8 (c.toNat : Int)]) (v := .int .i64 (Lib.indexByte s c)) (fun G w => .v _ _) (fun w hg => ?_)
 refine (Any.strings_IndexByte Tryz.lays137 ⟨s.toArray⟩ (c.toNat : Int) w).mono ?_
 rintro e w' ⟨rfl, rfl⟩
 exact ⟨by simp, Below.refl _ _⟩
theorem AD0 : Builder.Extra Tryz.prog Tryz.ren155 := { sizeBuilder := by kernel_rfl, liesBuilder := by kernel_rfl, t5 := Tryz.underlying5, a5 := Tryz.isAgg5, z5 := Tryz.sizeOf5, v5 := Tryz.zeroValue5, infoByte := by kernel_rfl, cellsByte := by kernel_rfl, sizeByte := by kernel_rfl, neB5 := by decide }
theorem cd : Builder.Extra Tryz.prog Tryz.ren156 := { sizeBuilder := by kernel_rfl, liesBuilder := by kernel_rfl, t5 := Tryz.underlying5, a5 := Tryz.isAgg5, z5 := Tryz.sizeOf5, v5 := Tryz.zeroValue5, infoByte := by kernel_rfl, cellsByte := by kernel_rfl, sizeByte := by kernel_rfl, neB5 := by decide }
theorem ABm (s o n : Str) (hs : s.length < 4294967281) (ho : 1 ≤ o.length) (hl : s.length + Lib.countB ⟨s.toArray⟩ ⟨o.toArray⟩ * n.length ≤ 140737488355328) (Hp : List AObj) : AFun Tryz.prog 124 [A7 s, A7 o, A7 n] Hp (A7 (Lib.replaceAll s o n)) := by
 refine AFun.lib (xs := [sv s, sv o, sv n]) (v := sv (Lib.replaceAll s o n)) (fun G w => .v _ _) (fun w hg => ?_)
 obtain ⟨m, hm⟩ := Kf hg
 refine (Any.strings_ReplaceAll Tryz.lays155 AD0 ⟨s.toArray⟩ ⟨o.toArray⟩ ⟨n.toArray⟩ m w (by simpa [ByteArray.size] using hs) hm (by simpa [ByteArray.size] using ho) (by simpa [ByteArray.size] using hl)).mono ?_
 rintro e w' ⟨rfl, hb⟩
 exact ⟨rfl, hb⟩
theorem Pk (w : World) (k : Nat) (os : Array Obj) : Below w.heap.size w (grow (w.drewN k) os) := by
 refine ⟨rfl, rfl, rfl, by simp [grow], fun b hb => ?_⟩
 show ((w.drewN k).heap ++ os)[b]? = w.heap[b]?
 rw [Array.getElem?_append_left (by exact hb)]
 rfl
theorem AD1 (n : Int) (h0 : -9223372036854775808 ≤ n) (h1 : n ≤ 9223372036854775807) (Hp : List AObj) : AFun Tryz.prog 147 [.v (.int .i64 n), A3 10] Hp (A7 (Lib.itoa n)) := by
 refine AFun.lib (xs := [.int .i64 n, .int .i64 10]) (v := sv (Lib.itoa n)) (fun G w => .v _ _) (fun w hg => ?_)
 refine (Any.strconv_FormatInt_10 Tryz.lays173 n h0 h1 w (W4 hg)).mono ?_
 rintro e w' ⟨rfl, k, os, rfl⟩
 exact ⟨rfl, Pk _ _ _⟩
end Go.SX.Nb
namespace Go.SX.Nb
open Go Go.SX Go.Proofs Go.RowKit
variable [ErrAt]
set_option maxRecDepth 4000
def digs : Str := [48, 49, 50, 51, 52, 53, 54, 55, 56, 57]
def Ha (s : Str) : Str := Lib.trimPrefix s [45]
def Cx (s : Str) : Bool := (Ha s == []) || !(Lib.trimS (Ha s) digs == []) || (((Ha s).headD 0 == 48) && decide (1 < s.length))
def Ad (s : Str) : Int × Int := if Cx s then (0, 6) else match Lib.parseIntB 64 s with | .ok v => (v, 0) | .range => (0, 4) | _ => (0, 0)
def rp {α : Type} : Lib.NumEnd α → Bool | .ok _ => false | .range => false | _ => true
theorem Zl {p : UInt8 → Bool} : ∀ {l : Str}, l.dropWhile p = [] ↔ ∀ b ∈ l, p b = true
 | [] => by simp
 | b :: r => by
  rw [List.dropWhile_cons]
  by_cases h : p b = true
  ·rw [if_pos h, Zl]
   simp [h]
  rw [if_neg h]
  simp [h]
theorem lx {p : UInt8 → Bool} : ∀ {l : Str} {b : UInt8}, b ∈ l → p b = false → b ∈ l.dropWhile p
 | x :: r, b, h, hb => by
  rw [List.dropWhile_cons]
  by_cases hx : p x = true
  ·rw [if_pos hx]
   rcases List.mem_cons.1 h with rfl | h
   ·rw [hb] at hx; cases hx
   exact lx h hb
  rw [if_neg hx]; exact h
theorem trimS_nil {l cs : Str} : Lib.trimS l cs = [] ↔ ∀ b ∈ l, cs.contains b = true := by
 unfold Lib.trimS Lib.trimLeftS Lib.trimRightS
 rw [Zl]
 constructor
 ·intro h b hb
  cases hc : cs.contains b with
  | true => rfl
  | false =>
   have := h b (List.mem_reverse.2 (lx (p := (cs.contains ·)) (List.mem_reverse.2 hb) hc))
   rw [hc] at this; exact this
 intro h b hb
 exact h b (List.mem_reverse.1 ((List.dropWhile_sublist (cs.contains ·)).subset (List.mem_reverse.1 hb)))
theorem I0 (c : UInt8) : digs.contains c = (decide (48 ≤ c.toNat) && decide (c.toNat ≤ 57)) := by
 have h : ((List.range 256).all fun n => digs.contains (UInt8.ofNat n) == (decide (48 ≤ (UInt8.ofNat n).toNat) && decide ((UInt8.ofNat n).toNat ≤ 57))) = true := by kernel_rfl
 have := List.all_eq_true.1 h c.toNat (List.mem_range.2 c.toNat_lt)
 simpa using this
theorem S6 (M : Nat) : ∀ (l : Str) (acc : Nat), (∀ b ∈ l, digs.contains b = true) → rp (Lib.parseUintM M acc l) = false
 | [], acc, _ => by rw [Lib.parseUintM]; rfl
 | c :: r, acc, h => by
  have hc := h c (by simp)
  rw [I0] at hc
  simp only [Bool.and_eq_true, decide_eq_true_eq] at hc
  rw [Lib.parseUintM, if_pos hc]
  split
  ·rfl
  split
  ·rfl
  exact S6 M r _ (fun b hb => h b (by simp [hb]))
theorem G8 (s : Str) : (s.head? ≠ some 45 ∧ Ha s = s) ∨ ∃ r, s = 45 :: r ∧ Ha s = r := by
 unfold Ha Lib.trimPrefix Lib.hasPrefix
 cases s with
 | nil => exact .inl ⟨by simp, rfl⟩
 | cons c r =>
  by_cases hc : c = 45
  ·subst hc; exact .inr ⟨r, rfl, by simp [List.isPrefixOf]⟩
  refine .inl ⟨by simpa using hc, ?_⟩
  rw [if_neg]
  simp [List.isPrefixOf, Ne.symm hc]
theorem Jl {s : Str} (h : Cx s = false) : rp (Lib.parseIntB 64 s) = false := by
 unfold Cx at h
 simp only [Bool.or_eq_false_iff, Bool.not_eq_false', beq_iff_eq, beq_eq_false_iff_ne] at h
 obtain ⟨⟨h1, h2⟩, _⟩ := h
 rw [trimS_nil] at h2
 have key : ∀ l : Str, l ≠ [] → (∀ b ∈ l, digs.contains b = true) → rp (Lib.parseUintB 64 l) = false := fun l hl ha => by
  unfold Lib.parseUintB
  rw [if_neg hl]
  exact S6 _ l 0 ha
 rcases G8 s with ⟨h3, h4⟩ | ⟨r, rfl, h4⟩
 ·rw [h4] at h1 h2
  cases s with
  | nil => exact absurd rfl h1
  | cons c r =>
   have hcd := h2 c (by simp)
   rw [I0] at hcd
   simp only [Bool.and_eq_true, decide_eq_true_eq] at hcd
   have e1 : ¬ (c.toNat = 43 ∨ c.toNat = 45) := by omega
   have := key (c :: r) (by simp) h2
   simp only [Lib.parseIntB, if_neg e1]
   revert this
   cases Lib.parseUintB 64 (c :: r) with
   | range => intro _; rfl
   | ok u => intro _; simp only; split <;> (try split) <;> rfl
   | _ => intro h; cases h
 rw [h4] at h1 h2
 have := key r h1 h2
 have e1 : ((45 : UInt8).toNat = 43 ∨ (45 : UInt8).toNat = 45) := .inr rfl
 simp only [Lib.parseIntB, if_pos e1]
 revert this
 cases Lib.parseUintB 64 r with
 | range => intro _; rfl
 | ok u => intro _; simp only; split <;> (try split) <;> rfl
 | _ => intro h; cases h
end Go.SX.Nb
namespace Go.SX.Nb
open Go Go.SX Go.Proofs
variable [ErrAt]
set_option maxRecDepth 4000
def Bc (c : UInt8) : Bool := decide ((97 : Int) ≤ c.toNat) && decide ((c.toNat : Int) ≤ 122)
def At (c : UInt8) : Bool := decide ((48 : Int) ≤ c.toNat) && decide ((c.toNat : Int) ≤ 57)
theorem c51 (c : UInt8) (Hp : List AObj) : AFun Tryz.prog 51 [.v (.int .u8 (c.toNat : Int))] Hp (.v (.bool (Bc c))) := by
 refine ACall.body [.tmp 2] [0] Tryz.func51 Tryz.ntmps51 (fun d => ?_)
 refine Lq ?_;refine Z0 ?_;refine R.geq ?_;refine Z14 ?_;refine G.leq ?_;exact qn

theorem c52 (c : UInt8) (Hp : List AObj) : AFun Tryz.prog 52 [.v (.int .u8 (c.toNat : Int))] Hp (.v (.bool (At c))) := by
 refine ACall.body [.tmp 2] [0] Tryz.func52 Tryz.ntmps52 (fun d => ?_)
 refine Lq ?_;refine Z0 ?_;refine R.geq ?_;refine Z14 ?_;refine G.leq ?_;exact qn

def words : List Str := [[97, 100, 100], [100, 114, 111, 112], [114, 101, 110, 97, 109, 101], [115, 112, 108, 105, 116], [109, 101, 114, 103, 101], [114, 101, 116, 121, 112, 101], [105, 110, 116, 111], [116, 111], [98, 97, 99, 107], [97, 110, 100], [111, 114], [110, 111, 116], [116, 114, 117, 101], [102, 97, 108, 115, 101], [110, 117, 108, 108], [105, 110, 116], [116, 101, 120, 116], [98, 111, 111, 108], [115, 101, 108, 101, 99, 116], [119, 104, 101, 114, 101], [102, 114, 111, 109], [108, 105, 109, 105, 116]]
def Bj (s : Str) : Bool := words.any (· == s)
theorem S7 : words.length = 22 := rfl
theorem xw {α : Type} {p : α → Bool} {l : List α} {i : Nat} (h : i < l.length) (hp : p l[i] = true) : l.any p = true := by
 rw [List.any_eq_true]; exact ⟨l[i], List.getElem_mem h, hp⟩
theorem ly {α : Type} {p : α → Bool} {l : List α} (h : ∀ (j : Nat) (y : α), l[j]? = some y → p y = false) : l.any p = false := by
 rw [List.any_eq_false]
 intro x hx
 obtain ⟨j, hj⟩ := List.getElem?_of_mem hx
 simp [h j x hj]
theorem I8 {α : Type} {l : List α} {x : Nat} {p : α → Prop} (hlt : x < l.length) (h : ∀ (j : Nat) (y : α), j < x → l[j]? = some y → p y) (hx : p l[x]) : ∀ (j : Nat) (y : α), j < x + 1 → l[j]? = some y → p y := by
 intro j y hj hy
 rcases Nat.lt_or_ge j x with h' | h'
 ·exact h j y h' hy
 have : j = x := by omega
 subst this
 rw [List.getElem?_eq_getElem hlt] at hy
 injection hy with hy
 subst hy
 exact hx
theorem Pl {α : Type} {l : List α} {x : Nat} {p : α → Prop} (hge : l.length ≤ x) (h : ∀ (j : Nat) (y : α), j < x → l[j]? = some y → p y) : ∀ (j : Nat) (y : α), l[j]? = some y → p y :=
 fun j y hy => h j y (by have := (List.getElem?_eq_some_iff.1 hy).1; omega) hy
theorem c53 (s : Str) (Hp : List AObj) : AFun Tryz.prog 53 [A7 s] Hp (Ao (Bj s)) := by
 refine ACall.body [.tmp 2] [0] Tryz.func53 Tryz.ntmps53 (fun d => ?_)
 refine Lq ?_;refine B9 ?_;refine qu ?_;refine R.fin [0, 3] ?_;refine Lr ?_;refine Rj ?_
 refine AW.loopC (α := Nat) (fun x => ⟨18, A5 0 (A7 s) (A5 3 (.slice true 1 (words.map A7)) (A5 4 (A3 (x : Nat)) (fun _ => .any))), Hp, [], [], none⟩) (fun x => x ≤ words.length ∧ ∀ (j : Nat) (y : Str), j < x → words[j]? = some y → (y == s) = false) (fun x => words.length - x) (0) (by simp) (StLe.refl _) rfl (fun x hx => ?_)
 refine Vs ?_;refine Zb ?_;refine R.fin [0, 3, 4, 9] ?_
 refine W.cond (fun ht9 => ?_) (fun ht9 => ?_)
 ·have hlt : x < words.length := by simpa using ht9
  have hwl := S7
  refine Ji ?_;refine Z31 ?_;refine R.indexAddr (x) (A7 words[x]) jU jS (Fj hlt) ?_;refine rb ?_;refine R.seql ?_;refine R.fin [0, 3, 4, 17] ?_
  refine W.cond (fun ht17 => ?_) (fun ht17 => ?_)
  ·refine Z24 ?_;refine Zc ?_;exact K.fin (V.one V.tmp) ⟨by rw [show Bj s = true from xw hlt ht17], rfl⟩
  refine Zf ?_;refine Rj ?_;exact K.lpN (x + 1) ⟨hlt, I8 hlt hx.2 ht17⟩ (by have := S7; omega) (StCut.of_eq rfl)
 refine Z81 ?_;refine Z24 ?_;exact K.fin (V.one V.tmp) ⟨by rw [show Bj s = false from ly (Pl (by simp at ht9; omega) hx.2)], rfl⟩

def Bd (c : UInt8) : Bool := Bc c || At c || c == 95
def Gq (s : Str) : Bool := match s with
 | [] => false
 | c :: _ => decide (s.length ≤ 16) && Bc c && !Bj s && s.all Bd
theorem I9 {s : Str} (h : s ≠ []) : s[0]? = some (s.headD 0) := by cases s with
 | nil => exact absurd rfl h
 | cons c r => rfl
theorem Pm (s : Str) : Gq s = (!((s.length : Int) == 0 || decide ((16 : Int) < s.length) || !Bc (s.headD 0) || Bj s) && s.all Bd) := by
 cases s with
 | nil => rfl
 | cons c r =>
  have h1 : (((c :: r).length : Int) == 0) = false := by simp; omega
  have h2 : decide ((c :: r).length ≤ 16) = !decide ((16 : Int) < (c :: r).length) := by
   by_cases h : (c :: r).length ≤ 16
   ·have : ¬ ((16 : Int) < (c :: r).length) := by omega
    simp only [h, this, decide_true, decide_false, Bool.not_false]
   have : ((16 : Int) < (c :: r).length) := by omega
   simp only [h, this, decide_true, decide_false, Bool.not_true]
  simp only [Gq, h1, h2, List.headD_cons, Bool.not_or, Bool.not_not, Bool.false_or]
def vy (nm : Str) (c : List Col) : Int := match c.findIdx? (fun y => y.name == nm) with | some i => i | none => -1
def Bw (v : Val) : Bool := if v.kind == 0 then v.n == 0 && v.s == [] else if v.kind == 1 then v.s == [] else if v.kind == 2 then v.n == 0 && decide ((v.s.length : Int) ≤ 200) else v.kind == 3 && v.s == [] && decide (0 ≤ v.n) && decide (v.n ≤ 1)
theorem xy (e : Bool) (n : Int) : (e && (n == 0 || n == 1)) = (e && decide (0 ≤ n) && decide (n ≤ 1)) := by
 cases e
 ·rfl
 rw [Bool.eq_iff_iff]
 simp
 omega
theorem c99 (v : Val) (Hp : List AObj) : AFun Tryz.prog 99 [U8 v] Hp (Ao (Bw v)) := by
 refine ACall.body [.tmp 2] [0] Tryz.func99 Tryz.ntmps99 (fun d => ?_)
 refine B9 ?_;refine R.box ?_;refine zj ?_;refine Z29 ?_;refine Z91 ?_;refine R.fin [1, 4] ?_;refine li ?_;refine R.fin [1, 4, 5] ?_
 refine W.cond (fun ht5 => ?_) (fun ht5 => ?_)
 ·refine Z20 ?_;refine W0 ?_;refine R.eqlAgg rn (Og v.kind v.n 0 0 v.s []) ?_;refine Z97 ?_;refine Z6 ?_;exact K.fin (V.one V.tmp) ⟨by simp [Bw, ht5], rfl⟩
 refine Z73 ?_;refine R.fin [1, 4, 10] ?_
 refine W.cond (fun ht10 => ?_) (fun ht10 => ?_)
 ·refine B9 ?_;refine R.fieldAddrPtr (fo := 2) jU Tryz.sizeOf9 ?_;refine Kq ?_;refine Z21 ?_;refine Z2 ?_;refine Z6 ?_;exact K.fin (V.one V.tmp) ⟨by simp [Bw, ht5, ht10], rfl⟩
 refine Z73 ?_;refine R.fin [1, 4, 15] ?_
 refine W.cond (fun ht15 => ?_) (fun ht15 => ?_)
 ·refine B9 ?_;refine R.fieldAddrPtr (fo := 1) jU Tryz.sizeOf2 ?_;refine Kq ?_;refine Rh ?_;refine G.fieldAddrPtr (fo := 2) jU Tryz.sizeOf9 ?_;refine G.loadOwn jA ?_;refine G.slen jU ?_;refine G.leq ?_;refine ge ?_;refine Z6 ?_;exact K.fin (V.one V.tmp) ⟨by simp [Bw, ht5, ht10, ht15], rfl⟩
 refine Z73 ?_;refine R.fin [1, 26] ?_
 refine W.cond (fun ht26 => ?_) (fun ht26 => ?_)
 ·refine B9 ?_;refine R.fieldAddrPtr (fo := 2) jU Tryz.sizeOf9 ?_;refine Kq ?_;refine R.seql ?_;refine C3 ?_;refine G.fieldAddrPtr (fo := 1) jU Tryz.sizeOf2 ?_;refine G.loadOwn jA ?_;refine G.eql ?_;refine G.move ?_;refine G.fieldAddrPtr (fo := 1) jU Tryz.sizeOf2 ?_;refine G.loadOwn jA ?_;refine lc ?_;refine ge ?_;refine Z6 ?_;exact K.fin (V.one V.tmp) ⟨by simp [Bw, ht5, ht10, ht15, ht26]; rw [xy], rfl⟩
 refine Z34 ?_;refine Z24 ?_;exact K.fin (V.one V.tmp) ⟨by simp [Bw, ht5, ht10, ht15, ht26], rfl⟩

def G9 (s of : Str) : Int := (s.length : Int) - (Lib.trimLeftS s of).length
theorem Oh (s of : Str) : (Lib.trimLeftS s of).length ≤ s.length := by
 unfold Lib.trimLeftS
 exact (List.dropWhile_sublist _).length_le
def Ig : Str := [32, 97, 100, 100, 32, 100, 114, 111, 112, 32, 114, 101, 110, 97, 109, 101, 32, 115, 112, 108, 105, 116, 32, 109, 101, 114, 103, 101, 32, 114, 101, 116, 121, 112, 101, 32, 105, 110, 116, 111, 32, 116, 111, 32, 98, 97, 99, 107, 32, 97, 110, 100, 32, 111, 114, 32, 110, 111, 116, 32, 116, 114, 117, 101, 32, 102, 97, 108, 115, 101, 32, 110, 117, 108, 108, 32, 105, 110, 116, 32, 116, 101, 120, 116, 32, 98, 111, 111, 108, 32, 115, 101, 108, 101, 99, 116, 32, 119, 104, 101, 114, 101, 32, 102, 114, 111, 109, 32, 108, 105, 109, 105, 116, 32]
def letters : Str := [97, 98, 99, 100, 101, 102, 103, 104, 105, 106, 107, 108, 109, 110, 111, 112, 113, 114, 115, 116, 117, 118, 119, 120, 121, 122]
def tails : Str := [97, 98, 99, 100, 101, 102, 103, 104, 105, 106, 107, 108, 109, 110, 111, 112, 113, 114, 115, 116, 117, 118, 119, 120, 121, 122, 48, 49, 50, 51, 52, 53, 54, 55, 56, 57, 95]
theorem c66 (s of : Str) (hs : s.length ≤ 1048576) (ho : of.length ≤ 1048576) (ha : ∀ c ∈ of, c.toNat < 128) (Hp : List AObj) : AFun Tryz.prog 66 [A7 s, A7 of] Hp (A3 (G9 s of)) := by
 refine ACall.body [.tmp 4] [0, 1] Tryz.func66 Tryz.ntmps66 (fun d => ?_)
 refine Z9 ?_;refine Z0 ?_;refine R.slen jU ?_;refine Z53 ?_;refine R.call Tryz.call95 (c95 s of (by omega) ha _) ?_;refine R.slen jU ?_
 have htl := Oh s of
 refine R.sub64 ?_;refine B3 ?_;exact qq

def Bs (s : Str) : Bool := (!(s == []) && !Lib.contains s [32]) && Lib.contains Ig ([32] ++ s ++ [32])
theorem c67 (s : Str) (hs : s.length ≤ 1048576) (Hp : List AObj) : AFun Tryz.prog 67 [A7 s] Hp (Ao (Bs s)) := by
 refine ACall.body [.tmp 2] [0] Tryz.func67 Tryz.ntmps67 (fun d => ?_)
 refine Lq ?_;refine Z0 ?_;refine R.sneq ?_;refine Z14 ?_;refine G.call Tryz.call96 (fun hB => c96 s [32] (by omega) _) ?_;refine G.not ?_;refine U5 ?_;refine G.sadd ?_;refine G.sadd ?_;refine G.call Tryz.call96 (fun hB => c96 Ig ([32] ++ s ++ [32]) (by decide) _) ?_;exact qn

theorem xz {s : Str} {b c : Bool} (h : (((!(s == []) && b) && c) == true) = true) : 1 ≤ s.length := by
 cases s with
 | nil => simp at h
 | cons x r => simp
def Ch (s : Str) : Bool := ((((!(s == []) && decide ((s.length : Int) ≤ 16)) && (G9 s tails == (s.length : Int))) && (G9 (s.take 1) letters == 1)) && !Bs s)
theorem c36 (s : Str) (hs : s.length ≤ 1048576) (Hp : List AObj) : AFun Tryz.prog 36 [A7 s] Hp (Ao (Ch s)) := by
 refine ACall.body [.tmp 2] [0] Tryz.func36 Tryz.ntmps36 (fun d => ?_)
 refine Lq ?_;refine Z0 ?_;refine R.sneq ?_;refine Z14 ?_;refine G.slen jU ?_;refine G.leq ?_;refine U5 ?_;refine G.call Tryz.call66 (fun hB => c66 s tails hs (by decide) (by decide) _) ?_;refine G.move ?_;refine G.slen jU ?_;refine G.eql ?_;refine U5 ?_;refine G.scutH 1 jU (fun _ => Nat.zero_le _) (fun hB => xz hB) ?_
 refine G.call Tryz.call66 (fun hB => c66 (s.take 1) letters (by simp; omega) (by decide) (by decide) _) ?_
 refine G.eql ?_;refine U5 ?_;refine G.call Tryz.call67 (fun hB => c67 s hs _) ?_;refine G.not ?_;exact qn

end Go.SX.Nb
namespace Go.SX.Nb
open Go Go.SX Go.Proofs Go.RowKit
variable [ErrAt]
set_option maxRecDepth 4000
theorem AD2 (s t : Str) (Hp : List AObj) : AFun Tryz.prog 184 [A7 s, A7 t] Hp (A7 (Lib.trimPrefix s t)) := by
 refine AFun.lib (xs := [sv s, sv t]) (v := sv (Lib.trimPrefix s t)) (fun G w => .v _ _) (fun w hg => ?_)
 refine (Any.strings_TrimPrefix Tryz.lays101 ⟨s.toArray⟩ ⟨t.toArray⟩ w).mono ?_
 rintro e w' ⟨rfl, rfl⟩
 exact Vz
theorem AD3 (s t : Str) (hs : s.length ≤ 9223372036854775807) (ht : t.length < 4294967281) (ha : ∀ c ∈ t, c.toNat < 128) (Hp : List AObj) : AFun Tryz.prog 185 [A7 s, A7 t] Hp (A7 (Lib.trimS s t)) := by
 refine AFun.lib (xs := [sv s, sv t]) (v := sv (Lib.trimS s t)) (fun G w => .v _ _) (fun w hg => ?_)
 refine (Any.strings_Trim_laid Tryz.lays160 (by kernel_rfl) ⟨s.toArray⟩ ⟨t.toArray⟩ w (by simpa [ByteArray.size] using hs) (by simpa [ByteArray.size] using ht) (fun j b hj => ha b (List.mem_of_getElem? hj))).mono ?_
 rintro e w' ⟨rfl, hb⟩
 exact ⟨rfl, hb⟩
theorem rq (s : Str) (hs : s.length ≤ 1048576) (v : Int) (h : Lib.parseIntB 64 s = .ok v) (Hp : List AObj) : AFun Tryz.prog 186 [A7 s, A3 10, A3 64] Hp (.tup [A3 v, .v .nilIface]) := by
 refine AFun.lib (xs := [sv s, .int .i64 10, .int .i64 64]) (v := .tuple #[.int .i64 v, .nilIface]) (fun G w => K8 rfl (fun i y u hy hu => ?_)) (fun w hg => ?_)
 ·match i with
  | 0 => simp at hy hu; subst hy; subst hu; exact .v _ _
  | 1 => simp at hy hu; subst hy; subst hu; exact .v _ _
  | i + 2 => simp at hy
 refine (Any.strconv_ParseInt_10_at64_ok Tryz.lays174 ⟨s.toArray⟩ (by simp [ByteArray.size]; omega) v h w).mono ?_
 rintro e w' ⟨rfl, rfl | ⟨t, rfl⟩⟩
 ·exact Vz
 exact ⟨rfl, Lib.bytesWorld_below _ _ _⟩
def Mv (s : Str) : AV := .iface 135 (.ro [.v (sv [80, 97, 114, 115, 101, 73, 110, 116]), .v (sv s), .v (.iface 185 (.pointer (some ErrAt.b)))])
theorem Zm (s : Str) (hs : s.length ≤ 1048576) (h : Lib.parseIntB 64 s = .range) (Hp : List AObj) : AFun Tryz.prog 186 [A7 s, A3 10, A3 64] Hp (.tup [A3 (Lib.intSat 64 s), Mv s]) := by
 refine AFun.libErr (xs := [sv s, .int .i64 10, .int .i64 64]) (n := .int .i64 (Lib.intSat 64 s)) (cs := [sv [80, 97, 114, 115, 101, 73, 110, 116], sv s, .iface 185 (.pointer (some ErrAt.b))]) (te := 167) (fun y hy => ?_) (fun w hg => ?_)
 ·simp only [List.mem_cons, List.mem_nil_iff, or_false] at hy
  rcases hy with rfl | rfl | rfl <;> rfl
 refine (Any.strconv_ParseInt_10_at64_range Tryz.lays174 ⟨s.toArray⟩ (by simp [ByteArray.size]; omega) h (.iface 185 (.pointer (some ErrAt.b))) w (Jk hg) (.inr ⟨_, _, rfl⟩)).mono ?_
 rintro e w' ⟨N, rfl, h1, h2, h3⟩
 exact ⟨N, rfl, h1, h2, h3⟩
theorem lz (Hp : List AObj) : AFun Tryz.prog 187 [.v .nilIface, .v (.iface 185 (.pointer (some ErrAt.b)))] Hp (Ao false) := by
 refine AFun.lib (xs := [.nilIface, .iface 185 (.pointer (some ErrAt.b))]) (v := .bool false) (fun G w => .v _ _) (fun w hg => ?_)
 refine (Tryz.is_nil _ w).mono ?_
 rintro e w' ⟨rfl, rfl⟩
 exact Vz
theorem Zn (s : Str) (Hp : List AObj) : AFun Tryz.prog 187 [Mv s, .v (.iface 185 (.pointer (some ErrAt.b)))] Hp (Ao true) := by
 intro d G w vs hn hv hH hT
 have hsz : vs.size = 2 := hn
 have h0 := hv 0 (Mv s) vs[0] rfl (Array.getElem?_eq_getElem (by omega))
 have h1 := Hs (hv 1 (.v (.iface 185 (.pointer (some ErrAt.b)))) vs[1] rfl (Array.getElem?_eq_getElem (by omega)))
 have hvs : vs = #[vs[0], vs[1]] := by
  apply Array.ext
  ·exact hsz
  intro i hi1 hi2
  match i with
  | 0 => rfl
  | 1 => rfl
  | i + 2 => omega
 unfold Mv at h0
 generalize vs[0] = u0 at h0 hvs
 cases h0 with
 | iface _ _ _ u h =>
  cases h with
  | ro _ _ ad f hs h1' hf hr =>
   obtain ⟨ab, ao, asp⟩ := ad
   simp only at hs
   subst hs
   have hc := (hf 2 _ rfl).2
   have he := Hs (hr 2 _ rfl)
   rw [he] at hc
   rw [hvs, h1]
   refine (callsIn_wide.2 (Tryz.is_range ab ao ErrAt.b w hc)).mono ?_
   rintro e w' ⟨rfl, rfl⟩
   exact ⟨_, G, _, Hp, rfl, .v _ _, hH, hT, Keep.refl _ _ _, rfl, rfl, rfl⟩
end Go.SX.Nb
namespace Go.SX.Nb
open Go Go.SX Go.Proofs
variable [ErrAt]
set_option maxRecDepth 4000
def Ct (s of : Str) : Bool := (!(s == []) && !Lib.contains s [32]) && Lib.contains of ([32] ++ s ++ [32])
theorem ABn (s of : Str) (hs : s.length ≤ 1048576) (ho : of.length ≤ 1048576) (Hp : List AObj) : AFun Tryz.prog 100 [A7 s, A7 of] Hp (Ao (Ct s of)) := by
 refine ACall.body [.tmp 4] [0, 1] Tryz.func100 Tryz.ntmps100 (fun d => ?_)
 refine Z9 ?_;refine Z0 ?_;refine R.sneq ?_;refine Z14 ?_;refine G.call Tryz.call96 (fun hB => c96 s [32] (by omega) _) ?_;refine G.not ?_;refine F6 ?_;refine Pd ?_;refine G.sadd ?_;refine G.sadd ?_;refine G.call Tryz.call96 (fun hB => c96 of ([32] ++ s ++ [32]) (by omega) _) ?_;refine Z39 ?_;exact qq

def S8 : Str := [108, 101, 110, 58, 49, 32, 115, 116, 114, 58, 49, 32, 110, 117, 109, 58, 49, 32, 105, 115, 110, 117, 108, 108, 58, 49, 32, 110, 118, 108, 58, 50, 32, 108, 101, 102, 116, 58, 50, 32, 114, 105, 103, 104, 116, 58, 50, 32, 105, 102, 58, 51]
def arityList : List (Str × UInt8) := [([108, 101, 110], 49), ([115, 116, 114], 49), ([110, 117, 109], 49), ([105, 115, 110, 117, 108, 108], 49), ([110, 118, 108], 50), ([108, 101, 102, 116], 50), ([114, 105, 103, 104, 116], 50), ([105, 102], 51)]
def Fw (p : Str × UInt8) : Str := p.1 ++ [58, p.2]
theorem Zo : Mu S8 [32] = arityList.map Fw := by kernel_rfl
theorem m3 {p : Str × UInt8} (hp : p ∈ arityList) : Lib.cut (Fw p) [58] = (p.1, [p.2], true) := by
 have h : (arityList.all fun p => decide (Lib.cut (Fw p) [58] = (p.1, [p.2], true))) = true := by kernel_rfl
 exact of_decide_eq_true (List.all_eq_true.1 h p hp)
def m4 (p : Str × UInt8) : Int := IntKind.i64.wrap (IntKind.u8.wrap ((p.2.toNat : Int) - 48))
def B7 (nm : Str) : Int := match arityList.find? (fun p => p.1 == nm) with | some p => m4 p | none => -1
theorem rr {α : Type} {p : α → Bool} {l : List α} {x : Nat} (h : x < l.length) (hp : p l[x] = true) (h2 : ∀ (j : Nat) (y : α), j < x → l[j]? = some y → p y = false) : l.find? p = some l[x] := by
 rw [List.find?_eq_some_iff_getElem]
 exact ⟨hp, x, h, rfl, fun j hj => by simpa using h2 j l[j] hj (List.getElem?_eq_getElem _)⟩
theorem i6 {α : Type} {p : α → Bool} {l : List α} (h : ∀ (j : Nat) (y : α), l[j]? = some y → p y = false) : l.find? p = none := by
 rw [List.find?_eq_none]
 intro y hy
 obtain ⟨j, hj⟩ := List.getElem?_of_mem hy
 simpa using h j y hj
theorem Mw : arityList.length = 8 := rfl
theorem i7 {p : Str × UInt8} (hp : p ∈ arityList) : (Fw p).length < 4294967281 := by
 have h : (arityList.all fun p => decide ((Fw p).length < 4294967281)) = true := by kernel_rfl
 exact of_decide_eq_true (List.all_eq_true.1 h p hp)
theorem ABo (nm : Str) (Hp : List AObj) : AFun Tryz.prog 101 [A7 nm] Hp (A3 (B7 nm)) := by
 refine ACall.body [.tmp 2] [0] Tryz.func101 Tryz.ntmps101 (fun d => ?_)
 refine Lq ?_;refine Z29 ?_;refine R.call Tryz.call134 (Zo ▸ ACw S8 [32] (by decide) (by decide) _) ?_;refine Z7 ?_;refine R.fin [0, 8, 9, 10] ?_
 refine AW.loopC (α := Nat) (fun x => ⟨28, A5 0 (A7 nm) (A5 8 (H9 (arityList.map Fw)) (A5 9 (A3 8) (A5 10 (A3 (x : Nat)) (fun _ => .any)))), Hp, [], [], none⟩) (fun x => x ≤ 8 ∧ ∀ (j : Nat) (y : Str × UInt8), j < x → arityList[j]? = some y → (y.1 == nm) = false) (fun x => 8 - x) (0) (by simp) (StLe.refl _) rfl (fun x hx => ?_)
 refine lh ?_;refine R.fin [0, 8, 9, 10, 11] ?_
 refine W.condX (fun ht11 => ?_) (fun ht11 => ?_)
 ·have hlt : x < arityList.length := by rw [Mw]; simp at ht11; omega
  have hal := Mw
  have hget : ((arityList.map Fw).map A7)[x]? = some (A7 (Fw arityList[x])) := by rw [List.map_map]; exact Fj hlt
  refine Z38 ?_;refine B9 ?_;refine R.indexAddr (x) (A7 (Fw arityList[x])) jU jS hget ?_;refine Ff ?_;refine B3 ?_;refine R.fin [0, 4, 8, 9, 10] ?_;refine Z0 ?_;refine R.call Tryz.call104 ((m3 (List.getElem_mem hlt)) ▸ ABl (Fw arityList[x]) [58] (i7 (List.getElem_mem hlt)) _) ?_;refine Z78 ?_;refine R.extract ?_;refine qb ?_;refine R.fin [0, 5, 6, 8, 9, 10] ?_;refine Z31 ?_;refine R.seql ?_;refine R.fin [0, 6, 8, 9, 10, 22] ?_
  refine W.cond (fun ht22 => ?_) (fun ht22 => ?_)
  ·refine Z0 ?_;refine R.sindex 0 arityList[x].2 jU rfl  ?_;refine R.sub ?_;refine R.iconv jU jU ?_;refine Z97 ?_;refine Zc ?_;exact K.fin (V.one V.tmp) ⟨by rw [B7, rr hlt ht22 hx.2]; rfl, rfl⟩
  refine Z34 ?_;refine gk ?_;refine R.fin [0, 8, 9, 10] ?_;exact K.lpN (x + 1) ⟨by omega, I8 hlt hx.2 ht22⟩ (by omega) (StCut.of_eq rfl)
 have hal := Mw
 refine Z49 ?_;refine Z24 ?_;exact K.fin (V.one V.tmp) ⟨by rw [B7, i6 (Pl (by simp at ht11; omega) hx.2)], rfl⟩

def Zp (s : Str) : Int := match Lib.parseIntB 64 s with | .ok v => v | _ => Lib.intSat 64 s
def Rn (s : Str) : Bool := match Lib.parseIntB 64 s with | .ok _ => false | _ => true
def Ro (s : Str) : AV := bif Rn s then Mv s else .v .nilIface
theorem Zq (s : Str) : (Ro s).strip = Ro s := by unfold Ro; cases Rn s <;> rfl
attribute [go_sem] Zq
theorem AD4 (s : Str) (hs : s.length ≤ 1048576) (h : rp (Lib.parseIntB 64 s) = false) (Hp : List AObj) : AFun Tryz.prog 186 [A7 s, A3 10, A3 64] Hp (.tup [A3 (Zp s), Ro s]) := by
 cases hp : Lib.parseIntB 64 s with
 | ok v =>
  have := rq s hs v hp Hp
  rwa [show v = Zp s by unfold Zp; rw [hp], show AV.v .nilIface = Ro s by unfold Ro Rn; rw [hp]; rfl] at this
 | range =>
  have := Zm s hs hp Hp
  rwa [show Lib.intSat 64 s = Zp s by unfold Zp; rw [hp], show Mv s = Ro s by unfold Ro Rn; rw [hp]; rfl] at this
 | _ => rw [hp] at h; cases h
theorem AD5 (s : Str) (Hp : List AObj) : AFun Tryz.prog 187 [Ro s, .v (.iface 185 (.pointer (some ErrAt.b)))] Hp (Ao (Rn s)) := by
 unfold Ro
 cases Rn s
 ·exact lz Hp
 exact Zn s Hp
theorem m5 (s t : Str) : (Lib.trimPrefix s t).length ≤ s.length := by
 unfold Lib.trimPrefix; split <;> simp
theorem i8 {d : Str} {b : Bool} (h : (((d == []) || b) == false) = true) : d ≠ [] := by rintro rfl; simp at h
theorem L6 : ∀ c ∈ digs, c.toNat < 128 := by decide
theorem Pn (s : Str) : ((((Lib.trimPrefix s [45] == []) || (Lib.trimS (Lib.trimPrefix s [45]) digs != [])) || ((((Lib.trimPrefix s [45]).headD 0).toNat : Int) == 48 && decide ((1 : Int) < s.length)))) = Cx s := by
 unfold Cx Ha
 have e1 : ((((Lib.trimPrefix s [45]).headD 0).toNat : Int) == 48) = ((Lib.trimPrefix s [45]).headD 0 == 48) := by
  rw [Bool.eq_iff_iff]
  simp only [beq_iff_eq]
  constructor
  ·intro h
   exact UInt8.toNat_inj.1 (by have : (48 : UInt8).toNat = 48 := rfl; omega)
  intro h; rw [h]; rfl
 have e2 : decide ((1 : Int) < s.length) = decide (1 < s.length) := by rw [decide_eq_decide]; omega
 rw [e1, e2]
 rfl
theorem ia {s : Str} (hb : Cx s = false) (h : Rn s = true) : Ad s = (0, 4) := by
 unfold Ad
 rw [hb]
 have := Jl hb
 unfold Rn at h
 revert h this
 cases Lib.parseIntB 64 s with
 | ok v => intro h; cases h
 | range => intro _ _; rfl
 | _ => intro _ h; cases h
theorem y6 {s : Str} (hb : Cx s = false) (h : Rn s = false) : Ad s = (Zp s, 0) := by
 unfold Ad Zp
 rw [hb]
 unfold Rn at h
 revert h
 cases Lib.parseIntB 64 s with
 | ok v => intro h; rfl
 | _ => intro h; cases h
theorem m6 (s : Str) : s.take (min s.length 200) = s.take 200 := by
 rcases Nat.le_total s.length 200 with h | h
 ·rw [Nat.min_eq_left h, List.take_of_length_le (Nat.le_refl _), List.take_of_length_le h]
 rw [Nat.min_eq_right h]
theorem AD6 (s : Str) (hs : s.length ≤ 1048576) (Hp : List AObj) : AFun Tryz.prog 164 [A7 s] Hp (.tup [A3 (Ad s).1, A3 (Ad s).2]) := by
 refine ACall.body [.tmp 2, .tmp 3] [0] Tryz.func164 Tryz.ntmps164 (fun d => ?_)
 refine Z1 ?_;refine B3 ?_;refine R.fin [0] ?_;refine Z0 ?_;refine R.call Tryz.call184 (AD2 s [45] _) ?_;refine B3 ?_;refine R.fin [0, 4] ?_;refine Z8 ?_;refine R.seql ?_;refine Z14 ?_
 refine G.call Tryz.call185 (fun hB => AD3 (Lib.trimPrefix s [45]) digs (by have := m5 s [45]; omega) (by decide) L6 _) ?_
 refine G.sneq ?_;refine H7 ?_;refine Z14 ?_;refine G.sindex 0 ((Lib.trimPrefix s [45]).headD 0) jU (fun hB => I9 (i8 hB))  ?_;refine G.eql ?_;refine Rg ?_;refine G.slen jU ?_;refine G.gtr ?_;refine G.pickAnd ?_;refine H7 ?_;refine R.fin [0, 25] ?_
 refine W.cond (fun ht25 => ?_) (fun ht25 => ?_)
 ·have hb : Cx s = true := by rw [← Pn]; exact ht25
  refine Pf ?_;refine K.thR ?_;exact K.fin (V.two V.tmp V.tmp) ⟨by rw [Ad, hb]; rfl, rfl⟩
 have hb : Cx s = false := by rw [← Pn]; exact ht25
 refine Ls ?_;refine R.call Tryz.call186 (AD4 s hs (Jl hb) _) ?_;refine Zg ?_;refine R.fin [5, 6] ?_;refine Z8 ?_;refine R.loadGlob Tryz.isAgg76 (fun w hg => Jk hg) ?_;refine R.call Tryz.call187 (AD5 s _) ?_;refine R.fin [5, 33] ?_
 refine W.cond (fun ht33 => ?_) (fun ht33 => ?_)
 ·refine Pf ?_;refine K.thR ?_;exact K.fin (V.two V.tmp V.tmp) ⟨by rw [ia hb ht33], rfl⟩
 refine Ls ?_;refine gx ?_;exact K.fin (V.two V.tmp V.tmp) ⟨by rw [y6 hb ht33], rfl⟩

theorem AD7 (n : Int) (h0 : -9223372036854775808 ≤ n) (h1 : n ≤ 9223372036854775807) (Hp : List AObj) : AFun Tryz.prog 123 [A3 n] Hp (A7 (Lib.itoa n)) := by
 refine ACall.body [.tmp 2] [0] Tryz.func123 Tryz.ntmps123 (fun d => ?_)
 refine Lq ?_;refine Z0 ?_;refine R.call Tryz.call147 (AD1 n h0 h1 _) ?_;exact qr

theorem AD8 (Hp : List AObj) : AFun Tryz.prog 159 [] Hp (U8 ⟨0, 0, []⟩) := by
 refine ACall.body [.cell 0 25] [] Tryz.func159 Tryz.ntmps159 (fun d => ?_)
 refine Z28 ?_;refine R.fin [0] ?_;refine Z52 ?_;refine Fi ?_;refine R.fin [0] ?_;refine AW.ret ?_;exact rf

theorem AD9 (n : Int) (Hp : List AObj) : AFun Tryz.prog 165 [A3 n] Hp (U8 ⟨1, n, []⟩) := by
 refine ACall.body [.cell 2 25] [0] Tryz.func165 Tryz.ntmps165 (fun d => ?_)
 refine Z77 ?_;refine wx ?_;refine Z22 ?_;exact rf

theorem ADa (b : Bool) (Hp : List AObj) : AFun Tryz.prog 160 [Ao b] Hp (U8 ⟨3, if b then 1 else 0, []⟩) := by
 refine ACall.body [.cell 2 25] [0] Tryz.func160 Tryz.ntmps160 (fun d => ?_)
 refine Z77 ?_;refine Z52 ?_;refine Z10 ?_;refine R.fin [0, 2, 3] ?_;refine Z8 ?_;refine R.fin [2, 3, 5] ?_
 refine W.cond (fun ht5 => ?_) (fun ht5 => ?_)
 ·refine H8 ?_;refine R.fieldAddrPtr (fo := 1) jU Tryz.sizeOf2 ?_;refine Fi ?_;refine R.fin [2, 3] ?_;refine K.thN ?_;exact AA2
 refine Z4 ?_;exact AA2

theorem ABp (s : Str) (Hp : List AObj) : AFun Tryz.prog 183 [A7 s] Hp (U8 ⟨2, 0, s.take 200⟩) := by
 refine ACall.body [.cell 2 25] [0] Tryz.func183 Tryz.ntmps183 (fun d => ?_)
 refine Z77 ?_;refine Z31 ?_;refine R.slen jU ?_;refine R.minI ?_
 refine R.scutH (min s.length 200) jU (Nat.zero_le _) (Nat.min_le_left _ _) (hb := by split <;> omega) ?_
 refine W0 ?_;refine Z22 ?_;exact K.fin (V.one (V.cellN jA jS)) ⟨by rw [m6], rfl⟩

theorem Zr {p s : Str} (h : p.isPrefixOf s = true) : p.length ≤ s.length := (List.isPrefixOf_iff_prefix.1 h).length_le
theorem Zs (s o : Str) (h : 0 ≤ Lib.index s o) : (Lib.index s o).toNat + o.length ≤ s.length := by
 induction s with
 | nil =>
  unfold Lib.index at h ⊢
  split at h
  ·rename_i he
   rw [if_pos he]
   cases o with
   | nil => simp
   | cons a b => simp at he
  omega
 | cons b l ih =>
  unfold Lib.index at h ⊢
  split at h
  ·rename_i hp
   rw [if_pos hp]
   have := Zr hp
   simpa using this
  rename_i hp
  rw [if_neg hp]
  split at h
  ·omega
  rename_i hi
  rw [if_neg hi]
  have hg := Lib.index_ge l o
  have hi' : Lib.index l o ≠ -1 := by simpa using hi
  have := ih (by omega)
  simp only [List.length_cons]
  omega
def ce : Val := ⟨0, 0, []⟩
def W6 (b : Bool) : Val := ⟨3, if b then 1 else 0, []⟩
def rt (n : Int) : Prop := -9223372036854775808 ≤ n ∧ n ≤ 9223372036854775807
def Br (v : Val) : Str :=
 if !Bw v then [] else if v.kind == 1 then Lib.itoa v.n else if v.kind == 2 then [39] ++ Lib.replaceAll v.s [39] [39, 39] ++ [39]
 else if v.kind == 0 then [110, 117, 108, 108] else if v.n == 1 then [116, 114, 117, 101] else [102, 97, 108, 115, 101]
theorem ib {v : Val} (h : Bw v = true) (h2 : (v.kind == 2) = true) : v.s.length ≤ 200 := by
 have e : v.kind = 2 := by simpa using h2
 unfold Bw at h
 rw [e] at h
 simp at h
 omega
theorem W7 (s o : Str) (ho : 1 ≤ o.length) : Lib.countB ⟨s.toArray⟩ ⟨o.toArray⟩ ≤ s.length := Lib.countB_le ⟨o.toArray⟩ (by simpa [ByteArray.size] using ho) s.length ⟨s.toArray⟩ (by simp [ByteArray.size])
theorem No (o n : Str) (B : Nat) (hn : n.length ≤ B * o.length) (hB : 1 ≤ B) : ∀ (k : Nat) (s : Str), (Lib.replaceK o n k s).length ≤ B * s.length
 | 0, s => by rw [Lib.replaceK]; exact Nat.le_mul_of_pos_left _ hB
 | k + 1, s => by
  rw [Lib.replaceK]
  split
  ·exact Nat.le_mul_of_pos_left _ hB
  rename_i h
  have ih := No o n B hn hB k (s.drop ((Lib.index s o).toNat + o.length))
  have hx : (Lib.index s o).toNat + o.length ≤ s.length := by
   have hg := Lib.index_ge s o
   have hi : Lib.index s o ≠ -1 := by simpa using h
   exact Zs s o (by omega)
  simp only [List.length_append, List.length_drop, List.length_take] at ih ⊢
  have h1 : min (Lib.index s o).toNat s.length ≤ B * (Lib.index s o).toNat := Nat.le_trans (Nat.min_le_left _ _) (Nat.le_mul_of_pos_left _ hB)
  have h2 : B * s.length = B * (Lib.index s o).toNat + B * o.length + B * (s.length - ((Lib.index s o).toNat + o.length)) := by
   rw [← Nat.mul_add, ← Nat.mul_add]; congr 1; omega
  omega
theorem Rp (s o n : Str) (B : Nat) (hn : n.length ≤ B * o.length) (hB : 1 ≤ B) : (Lib.replaceAll s o n).length ≤ B * s.length := by
 unfold Lib.replaceAll Lib.replace
 split
 ·exact Nat.le_mul_of_pos_left _ hB
 exact No o n B hn hB _ s
theorem c92 (v : Val) (hn : rt v.n) (Hp : List AObj) : AFun Tryz.prog 92 [U8 v] Hp (A7 (Br v)) := by
 refine ACall.body [.tmp 2] [0] Tryz.func92 Tryz.ntmps92 (fun d => ?_)
 refine gh ?_;refine Z38 ?_;refine kz ?_;refine R.call Tryz.call99 (c99 v _) ?_;refine R.not ?_;refine B3 ?_;refine R.fin [1, 3] ?_
 refine W.cond (fun ht3 => ?_) (fun ht3 => ?_)
 ·refine Z24 ?_;refine Z6 ?_;exact K.fin (V.one V.tmp) ⟨by simp only [Br, ht3, if_true], rfl⟩
 have hp : Bw v = true := by simpa using ht3
 refine gy ?_;refine R.fin [1, 7] ?_
 refine W.cond (fun ht7 => ?_) (fun ht7 => ?_)
 ·refine B9 ?_;refine R.fieldAddrRo (off := 1) jU Tryz.sizeOf2 ?_;refine Ff ?_;refine R.call Tryz.call123 (AD7 v.n hn.1 hn.2 _) ?_;refine Z97 ?_;refine Z6 ?_;exact K.fin (V.one V.tmp) ⟨by simp only [Br, hp, ht7, Bool.not_true, Bool.false_eq_true, if_false, if_true]; try rfl, rfl⟩
 refine gy ?_;refine R.fin [1, 14] ?_
 refine W.cond (fun ht14 => ?_) (fun ht14 => ?_)
 ·refine B9 ?_;refine R.fieldAddrRo (off := 2) jU Tryz.sizeOf9 ?_;refine Ff ?_
  have hl := ib hp ht14
  have hrl := Rp v.s [39] [39, 39] 2 (by decide) (by decide)
  refine R.call Tryz.call124 (ABm v.s [39] [39, 39] (by omega) (by decide) (by have := W7 v.s [39] (by decide); simp; omega) _) ?_
  refine R.sadd ?_;refine R.sadd ?_;refine Z97 ?_;refine Z6 ?_;exact K.fin (V.one V.tmp) ⟨by simp only [Br, hp, ht7, ht14, Bool.not_true, Bool.false_eq_true, if_false, if_true]; try rfl, rfl⟩
 refine gy ?_;refine R.fin [1, 23] ?_
 refine W.cond (fun ht23 => ?_) (fun ht23 => ?_)
 ·refine Z24 ?_;refine Z6 ?_;exact K.fin (V.one V.tmp) ⟨by simp only [Br, hp, ht7, ht14, ht23, Bool.not_true, Bool.false_eq_true, if_false, if_true]; try rfl, rfl⟩
 refine B9 ?_;refine R.fieldAddrRo (off := 1) jU Tryz.sizeOf2 ?_;refine Ff ?_;refine Z30 ?_;refine R.fin [27] ?_
 refine W.cond (fun ht27 => ?_) (fun ht27 => ?_)
 ·refine Z24 ?_;refine Z6 ?_;exact AAu
 refine Z34 ?_;refine Z24 ?_;exact AAu

def Mx (s : Str) : Str := Lib.replaceAll ((s.take (s.length - 1)).drop 1) [39, 39] [39]
def Jm (s : Str) : Val := ⟨2, 0, (Mx s).take 200⟩
def Po (s : Str) : Val × Int := if !(Br (Jm s) == s) then (ce, 7) else (Jm s, 0)
theorem ADb (s : Str) (h2 : 2 ≤ s.length) (hs : s.length ≤ 1048576) (Hp : List AObj) : AFun Tryz.prog 163 [A7 s] Hp (.tup [U8 (Po s).1, A3 (Po s).2]) := by
 refine ACall.body [.cell 2 25, .tmp 3] [0] Tryz.func163 Tryz.ntmps163 (fun d => ?_)
 refine Z28 ?_;refine B3 ?_;refine R.fin [0, 2] ?_;refine Z31 ?_;refine R.slen jU ?_;refine R.sub64 ?_;refine R.scutLH 1 (s.length - 1) jU (show 1 ≤ s.length - 1 by omega) (show s.length - 1 ≤ s.length by omega) ?_
 refine R.call Tryz.call124 (ABm ((s.take (s.length - 1)).drop 1) [39, 39] [39] (by simp; omega) (by decide) (by have := W7 ((s.take (s.length - 1)).drop 1) [39, 39] (by decide); simp at this ⊢; omega) _) ?_
 refine B3 ?_;refine R.fin [0, 2, 4] ?_;refine Z0 ?_;refine R.call Tryz.call183 (ABp (Mx s) _) ?_;refine Z10 ?_;refine R.fin [0, 2, 5] ?_;refine W.seq ?_;refine Z20 ?_
 refine R.call Tryz.call92 (c92 (Jm s) ⟨by show (-9223372036854775808 : Int) ≤ 0; decide, by show (0 : Int) ≤ 9223372036854775807; decide⟩ _) ?_
 refine C3 ?_;refine R.sneq ?_;refine R.fin [2, 5, 17] ?_
 refine W.cond (fun ht17 => ?_) (fun ht17 => ?_)
 ·refine Z52 ?_;refine Vo ?_;refine K.thR ?_;exact AAv
 refine Zd ?_;refine Vo ?_;exact AAv

def Fh (s : Str) : Bool := (decide ((1 : Int) < s.length) && Lib.hasPrefix s [39]) && Lib.hasSuffix s [39]
def Bz (s : Str) : Val × Int :=
 if s == [110, 117, 108, 108] then (ce, 0) else if (s == [116, 114, 117, 101]) || (s == [102, 97, 108, 115, 101]) then (W6 (s == [116, 114, 117, 101]), 0)
 else if Fh s then Po s else if (Ad s).2 == 0 then (⟨1, (Ad s).1, []⟩, 0) else if (Ad s).2 == 4 then (ce, 4) else (ce, 7)
theorem m7 {s : Str} (h : Fh s = true) : 2 ≤ s.length := by
 unfold Fh at h
 simp only [Bool.and_eq_true, decide_eq_true_eq] at h
 omega
theorem y7 (s : Str) (hs : s.length ≤ 1048576) (Hp : List AObj) : AFun Tryz.prog 138 [A7 s] Hp (.tup [U8 (Bz s).1, A3 (Bz s).2]) := by
 refine ACall.body [.cell 2 25, .tmp 3] [0] Tryz.func138 Tryz.ntmps138 (fun d => ?_)
 refine Z28 ?_;refine B3 ?_;refine R.fin [0, 2] ?_;refine Z38 ?_;refine Z0 ?_;refine Z21 ?_;refine R.fin [0, 2, 6] ?_
 refine W.cond (fun ht6 => ?_) (fun ht6 => ?_)
 ·refine B9 ?_;refine R.call Tryz.call159 (AD8 _) ?_;refine Vo ?_;refine Z6 ?_;exact K.fin (V.two (V.cellN jA jS) V.tmp) ⟨by simp only [Bz, ht6, if_true, if_false, Bool.false_eq_true]; try rfl, rfl⟩
 refine Z0 ?_;refine R.seql ?_;refine Z14 ?_;refine G.seql ?_;refine H7 ?_;refine B3 ?_;refine R.fin [0, 2, 10] ?_
 refine W.cond (fun ht10 => ?_) (fun ht10 => ?_)
 ·refine Z0 ?_;refine R.seql ?_;refine R.call Tryz.call160 (ADa (s == [116, 114, 117, 101]) _) ?_;refine Vo ?_;refine Z6 ?_;exact K.fin (V.two (V.cellN jA jS) V.tmp) ⟨by simp only [Bz, ht6, ht10, if_true, if_false, Bool.false_eq_true]; try rfl, rfl⟩
 refine Z0 ?_;refine Za ?_;refine Z14 ?_;refine G.call Tryz.call161 (fun hB => ACx s [39] _) ?_;refine U5 ?_;refine G.call Tryz.call162 (fun hB => ACy s [39] (by omega) _) ?_;refine Z39 ?_;refine R.fin [0, 2, 20] ?_
 refine W.cond (fun ht20 => ?_) (fun ht20 => ?_)
 ·have hq : Fh s = true := ht20
  refine Z0 ?_;refine R.call Tryz.call163 (ADb s (m7 hq) hs _) ?_;refine Z25 ?_;refine Vo ?_;refine Z6 ?_;exact K.fin (V.two (V.cellN jA jS) V.tmp) ⟨by simp only [Bz, ht6, ht10, hq, if_true, if_false, Bool.false_eq_true]; try rfl, rfl⟩
 have hq : Fh s = false := ht20
 refine Z34 ?_;refine Z0 ?_;refine R.call Tryz.call164 (AD6 s hs _) ?_;refine Zg ?_;refine R.fin [2, 4, 5] ?_;refine Z8 ?_;refine R.fin [2, 4, 5, 41] ?_;refine li ?_;refine R.fin [2, 4, 5, 41, 42] ?_
 refine W.cond (fun ht42 => ?_) (fun ht42 => ?_)
 ·refine Z0 ?_;refine R.call Tryz.call165 (AD9 (Ad s).1 _) ?_;refine Vo ?_;refine Z6 ?_;exact K.fin (V.two (V.cellN jA jS) V.tmp) ⟨by simp only [Bz, ht6, ht10, hq, ht42, if_true, if_false, Bool.false_eq_true]; try rfl, rfl⟩
 refine Z73 ?_;refine R.fin [2, 5, 46] ?_
 refine W.cond (fun ht46 => ?_) (fun ht46 => ?_)
 ·refine Z52 ?_;refine C3 ?_;refine Vo ?_;refine Z6 ?_;exact K.fin (V.two (V.cellN jA jS) V.tmp) ⟨by simp only [Bz, ht6, ht10, hq, ht42, ht46, if_true, if_false, Bool.false_eq_true]; rw [show (Ad s).2 = 4 by simpa using ht46]; rfl, rfl⟩
 refine Z34 ?_;refine Z52 ?_;refine Vo ?_;exact K.fin (V.two (V.cellN jA jS) V.tmp) ⟨by simp only [Bz, ht6, ht10, hq, ht42, ht46, if_true, if_false, Bool.false_eq_true]; try rfl, rfl⟩

def blanks : Str := [32, 9, 10]
/-- What stands behind blanks and notes. -/
def Bm : Str → Bool → Str
 | [], _ => []
 | c :: r, false => if blanks.contains c then Bm r false else if c == 35 then Bm r true else c :: r
 | c :: r, true => if c == 10 then Bm r false else Bm r true
def runN (s of : Str) : Nat := s.length - (Lib.trimLeftS s of).length
theorem Lt (s of : Str) : G9 s of = (runN s of : Int) := by
 have := Oh s of
 unfold G9 runN
 omega
theorem Ua (s of : Str) : runN s of ≤ s.length := Nat.sub_le _ _
theorem m8 (s of : Str) : s.drop (runN s of) = Lib.trimLeftS s of := by
 unfold runN Lib.trimLeftS
 have h : ∀ l : Str, l.drop (l.length - (l.dropWhile (of.contains ·)).length) = l.dropWhile (of.contains ·) := by
  intro l
  have e := List.takeWhile_append_dropWhile (p := (of.contains ·)) (l := l)
  have hl : l.length - (l.dropWhile (of.contains ·)).length = (l.takeWhile (of.contains ·)).length := by
   have := congrArg List.length e
   simp only [List.length_append] at this
   omega
  rw [hl]
  conv => lhs; rw [← e]
  rw [List.drop_left']
  rw [e]
 exact h s
theorem W8 (s of : Str) : s.take (runN s of) = s.takeWhile (of.contains ·) := by
 have e := List.takeWhile_append_dropWhile (p := (of.contains ·)) (l := s)
 have hl : runN s of = (s.takeWhile (of.contains ·)).length := by
  unfold runN Lib.trimLeftS
  have := congrArg List.length e
  simp only [List.length_append] at this
  omega
 rw [hl]
 conv => lhs; rw [← e]
 rw [List.take_left']
 rw [e]
theorem My : ∀ s : Str, Bm (Lib.trimLeftS s blanks) false = Bm s false
 | [] => rfl
 | c :: r => by
  unfold Lib.trimLeftS
  rw [List.dropWhile_cons]
  by_cases h : blanks.contains c = true
  ·rw [if_pos h, Bm, if_pos h]
   exact My r
  rw [if_neg h]
theorem S9 (of : Str) : ∀ (s : Str) (c : UInt8) (t : Str), Lib.trimLeftS s of = c :: t → of.contains c = false
 | [], c, t, h => by cases h
 | b :: r, c, t, h => by
  unfold Lib.trimLeftS at h
  rw [List.dropWhile_cons] at h
  split at h
  ·exact S9 of r c t h
  rename_i hb
  injection h with h1 h2
  subst h1
  simpa using hb
def Fx : Str → Str
 | [] => []
 | c :: r => if c == 10 then r else Fx r
theorem y8 (s : Str) : (Lib.cut s [10]).2.1 = Fx s := by
 unfold Lib.cut
 induction s with
 | nil => rfl
 | cons c r ih =>
  have hg := Lib.index_ge r [10]
  rw [Fx]
  unfold Lib.index
  by_cases hc : c = 10
  ·subst hc
   simp [List.isPrefixOf]
  have h1 : ([10] : Str).isPrefixOf (c :: r) = false := by simp [List.isPrefixOf, Ne.symm hc]
  have h2 : (c == 10) = false := by simpa using hc
  rw [h1, h2]
  simp only [Bool.false_eq_true, if_false]
  by_cases hi : Lib.index r [10] = -1
  ·rw [hi] at ih ⊢
   simpa using ih
  have h3 : (Lib.index r [10] == -1) = false := by simpa using hi
  rw [h3]
  simp only [Bool.false_eq_true, if_false]
  rw [if_pos (by omega)] at ih ⊢
  have e : (Lib.index r [10] + 1).toNat = (Lib.index r [10]).toNat + 1 := by omega
  rw [e]
  rw [← ih]
  show (c :: r).drop _ = _
  rw [show (Lib.index r [10]).toNat + 1 + ([10] : Str).length = ((Lib.index r [10]).toNat + ([10] : Str).length) + 1 by omega, List.drop_succ_cons]
theorem Sa : ∀ t : Str, Bm t true = Bm (Fx t) false
 | [] => rfl
 | c :: r => by
  rw [Bm, Fx]
  split
  ·rfl
  exact Sa r
theorem Pp : ∀ t : Str, (Fx t).length ≤ t.length
 | [] => Nat.le_refl _
 | c :: r => by
  rw [Fx]
  split
  ·simp
  have := Pp r; simp only [List.length_cons]; omega
theorem Ih : ∀ (s : Str) (b : Bool), (Bm s b).length ≤ s.length
 | [], b => by simp [Bm]
 | c :: r, false => by
  rw [Bm]
  split
  ·have := Ih r false; simp only [List.length_cons]; omega
  split
  ·have := Ih r true; simp only [List.length_cons]; omega
  exact Nat.le_refl _
 | c :: r, true => by
  rw [Bm]
  split
  ·have := Ih r false; simp only [List.length_cons]; omega
  have := Ih r true; simp only [List.length_cons]; omega
def gapM (s : Str) : Nat := s.length - (Bm s false).length
theorem ic {d : Str} (h : ((d == []) == false) = true) : d ≠ [] := by rintro rfl; simp at h
theorem Ub : ∀ c ∈ blanks, c.toNat < 128 := by decide
/-- The gap is at its end. -/
theorem ru {x s : Str} (hx : Bm x false = Bm s false) (h : ((Lib.trimLeftS x blanks == []) || ((((Lib.trimLeftS x blanks).headD 0).toNat : Int) != 35)) = true) : Bm s false = Lib.trimLeftS x blanks := by
 rw [← hx, ← My]
 cases ht : Lib.trimLeftS x blanks with
 | nil => rfl
 | cons c t =>
  rw [ht] at h
  have hb := S9 blanks x c t ht
  have hc : (c == 35) = false := by
   simp at h
   rw [beq_eq_false_iff_ne]
   rintro rfl
   exact h rfl
  rw [Bm, hb, hc]
  rfl
theorem y9 {x s : Str} (hx : Bm x false = Bm s false) (h : ((Lib.trimLeftS x blanks == []) || ((((Lib.trimLeftS x blanks).headD 0).toNat : Int) != 35)) = false) :
  Bm (Lib.cut (Lib.trimLeftS x blanks) [10]).2.1 false = Bm s false ∧ (Lib.cut (Lib.trimLeftS x blanks) [10]).2.1.length < x.length := by
 have hl := Oh x blanks
 rw [y8, ← hx, ← My x]
 cases ht : Lib.trimLeftS x blanks with
 | nil => rw [ht] at h; simp at h
 | cons c t =>
  rw [ht] at h hl
  have hc : c = 35 := by
   simp at h
   exact UInt8.toNat_inj.1 (by have : (35 : UInt8).toNat = 35 := rfl; omega)
  subst hc
  have ha := Pp t
  refine ⟨?_, ?_⟩
  ·rw [Fx, Bm]
   have e1 : blanks.contains 35 = false := by decide
   rw [e1]
   exact (Sa t).symm
  rw [Fx]
  simp only [List.length_cons] at hl
  show (Fx t).length < _
  omega
theorem c78 (s : Str) (hs : s.length ≤ 1048576) (Hp : List AObj) : AFun Tryz.prog 78 [A7 s] Hp (A3 (gapM s)) := by
 refine ACall.body [.tmp 2] [0] Tryz.func78 Tryz.ntmps78 (fun d => ?_)
 refine Lq ?_;refine gt ?_;refine R.fin [0, 3] ?_
 refine AW.loopC (α := Str) (fun x => ⟨27, A5 0 (A7 s) (A5 3 (A7 x) (fun _ => .any)), Hp, [], [], none⟩) (fun x => Bm x false = Bm s false ∧ x.length ≤ s.length) (fun x => x.length) (s) (by simp) (StLe.refl _) rfl (fun x hx => ?_)
 refine AW.block ?_;refine B9 ?_
 have hx2 := hx.2
 have htl := Oh x blanks
 refine Z53 ?_;refine R.call Tryz.call66 (c66 x blanks (by omega) (by decide) Ub _) ?_;refine R.scutL (runN x blanks) jU (Ua _ _) (Nat.le_refl _) (ha := Lt x blanks) ?_
 rw [m8]
 refine B3 ?_;refine R.fin [0, 3] ?_;refine Z8 ?_;refine R.seql ?_;refine Z14 ?_;refine G.sindex 0 ((Lib.trimLeftS x blanks).headD 0) jU (fun hB => I9 (ic hB))  ?_;refine G.neq ?_;refine H7 ?_;refine R.fin [0, 3, 15] ?_
 refine W.cond (fun ht15 => ?_) (fun ht15 => ?_)
 ·have he := ru hx.1 ht15
  refine Z0 ?_;refine R.slen jU ?_;refine Z69 ?_;refine R.sub64 ?_;refine Z97 ?_;refine K.thR ?_;refine gr ?_;exact K.fin (V.one V.tmp) ⟨by rw [show ((s.length : Int) - (Lib.trimLeftS x blanks).length) = (gapM s : Int) by unfold gapM; rw [he]; omega], rfl⟩
 have he := y9 hx.1 ht15
 refine Z4 ?_;refine Z5 ?_;refine R.call Tryz.call104 (ABl (Lib.trimLeftS x blanks) [10] (by omega) _) ?_;refine Z78 ?_;refine R.extract ?_;refine B3 ?_;refine R.fin [0, 3] ?_;refine K.blN ?_;exact K.lpN _ ⟨he.1, by omega⟩ he.2 (StCut.of_eq rfl)

def Be (s of : Str) : Str := s.take (runN s of)
theorem Fk (s of : Str) : (Be s of).length ≤ s.length := by unfold Be; simp; omega
def Hb (s : Str) : Int × Str × Int × Int :=
 if Bs (Be s tails) then (2, Be s tails, (Be s tails).length, 0) else if !Ch (Be s tails) then (0, [], 0, 3) else (1, Be s tails, (Be s tails).length, 0)
abbrev m9 (r : Int × Str × Int × Int) : AV := .tup [A3 r.1, A7 r.2.1, A3 r.2.2.1, A3 r.2.2.2]
theorem W9 : ∀ c ∈ tails, c.toNat < 128 := by decide
theorem Rq : ∀ c ∈ letters, c.toNat < 128 := by decide
theorem ADc (s : Str) (hs : s.length ≤ 1048576) (Hp : List AObj) : AFun Tryz.prog 105 [A7 s] Hp (m9 (Hb s)) := by
 refine ACall.body [.tmp 2, .tmp 3, .tmp 4, .tmp 5] [0] Tryz.func105 Tryz.ntmps105 (fun d => ?_)
 refine lg ?_;refine Z31 ?_;refine R.call Tryz.call66 (c66 s tails hs (by decide) W9 _) ?_;refine R.scutH (runN s tails) jU (Nat.zero_le _) (Ua _ _) (hb := Lt s tails) ?_;refine B3 ?_;refine R.fin [6] ?_;refine Z38 ?_;refine Z0 ?_
 refine R.call Tryz.call67 (c67 (Be s tails) (by have := Fk s tails; omega) _) ?_
 refine B3 ?_;refine R.fin [6, 11] ?_
 refine W.cond (fun ht11 => ?_) (fun ht11 => ?_)
 ·refine B9 ?_
  have hwl := Fk s tails
  refine Z53 ?_;refine R.slen jU ?_;refine Ze ?_;refine Z6 ?_;exact K.fin (V.four V.tmp V.tmp V.tmp V.tmp) ⟨by simp only [Hb, ht11, if_true, if_false, Bool.false_eq_true]; try rfl, rfl⟩
 refine Z0 ?_
 refine R.call Tryz.call36 (c36 (Be s tails) (by have := Fk s tails; omega) _) ?_
 refine R.not ?_;refine B3 ?_;refine R.fin [6, 17] ?_
 refine W.cond (fun ht17 => ?_) (fun ht17 => ?_)
 ·refine l3 ?_;refine Z63 ?_;refine Z6 ?_;exact AAw
 refine Z34 ?_;refine B9 ?_
 have hwl := Fk s tails
 refine Z53 ?_;refine R.slen jU ?_;refine Ze ?_;exact AAw

def Ii (s : Str) : Int × Str × Int × Int := (3, Be s digs, (Be s digs).length, (Bz (Be s digs)).2)
theorem ADd (s : Str) (hs : s.length ≤ 1048576) (Hp : List AObj) : AFun Tryz.prog 106 [A7 s] Hp (m9 (Ii s)) := by
 refine ACall.body [.tmp 2, .tmp 3, .tmp 4, .tmp 5] [0] Tryz.func106 Tryz.ntmps106 (fun d => ?_)
 refine lg ?_;refine Z31 ?_;refine R.call Tryz.call66 (c66 s digs hs (by decide) L6 _) ?_;refine R.scutH (runN s digs) jU (Nat.zero_le _) (Ua _ _) (hb := Lt s digs) ?_;refine B3 ?_;refine R.fin [6] ?_;refine Z0 ?_
 refine R.call Tryz.call138 (y7 (Be s digs) (by have := Fk s digs; omega) _) ?_
 refine Z78 ?_;refine Z10 ?_;refine B3 ?_;refine R.fin [6, 8] ?_;refine Z31 ?_;refine R.slen jU ?_;refine C3 ?_;refine Ze ?_;exact K.fin (V.four V.tmp V.tmp V.tmp V.tmp) ⟨rfl, rfl⟩

/-- Behind a mark: how many bytes up to the one that closes, it too. -/
def Bn : Str → Option Nat
 | [] => none
 | [c] => if c == 39 then some 1 else none
 | c :: d :: t => if c == 39 then (if d == 39 then (Bn t).map (· + 2) else some 1) else (Bn (d :: t)).map (· + 1)
theorem Ga {c : UInt8} (h : ¬ (c == 39) = true) (r : Str) : Bn (c :: r) = (Bn r).map (· + 1) := by
 cases r with
 | nil => simp [Bn, h]
 | cons d t => rw [Bn, if_neg h]
theorem L7 (r : Str) : Bn (39 :: r) = match r with
   | [] => some 1
   | d :: t => if d == 39 then (Bn t).map (· + 2) else some 1 := by
 cases r with
 | nil => rfl
 | cons d t => rw [Bn]; simp
def El (s : Str) : Int × Str × Int × Int :=
 match Bn (s.drop 1) with
 | none => (0, [], 0, 7)
 | some n => if (Bz (s.take (n + 1))).2 != 0 then (0, [], 0, 3) else (4, (Bz (s.take (n + 1))).1.s, ((n + 1 : Nat) : Int), 0)
theorem Pq : ∀ l : Str, Lib.indexByte l 39 = -1 → Bn l = none
 | [], _ => by rw [Bn]
 | c :: r, h => by
  rw [Lib.indexByte] at h
  split at h
  ·omega
  rename_i hc
  rw [Ga hc]
  split at h
  ·rename_i hi
   rw [Pq r (by simpa using hi)]
   rfl
  have := Lib.indexByte_ge r 39; omega
theorem Wa : ∀ (l : Str) (k : Nat), Lib.indexByte l 39 = (k : Int) → k < l.length ∧ Bn l = (Bn (l.drop k)).map (· + k) ∧ l[k]? = some 39
 | [], k, h => by rw [Lib.indexByte] at h; omega
 | c :: r, k, h => by
  rw [Lib.indexByte] at h
  split at h
  ·rename_i hc
   have : k = 0 := by omega
   subst this
   refine ⟨by simp, ?_, by simpa using hc⟩
   rw [List.drop_zero]
   cases Bn (c :: r) <;> simp
  rename_i hc
  split at h
  ·omega
  have hg := Lib.indexByte_ge r 39
  rename_i hi
  have hi' : Lib.indexByte r 39 ≠ -1 := by simpa using hi
  obtain ⟨m, rfl⟩ : ∃ m, k = m + 1 := ⟨k - 1, by omega⟩
  obtain ⟨h1, h2, h3⟩ := Wa r m (by omega)
  refine ⟨by simpa using h1, ?_, by simpa using h3⟩
  rw [Ga hc, List.drop_succ_cons, h2]
  cases Bn (r.drop m) <;> simp [Nat.add_assoc]
theorem Ij {s : Str} {n : Nat} {c : UInt8} (h : s[n]? = some c) : s.drop n = c :: s.drop (n + 1) := by
 obtain ⟨hlt, he⟩ := List.getElem?_eq_some_iff.1 h
 rw [List.drop_eq_getElem_cons hlt, he]
theorem D9 {s : Str} {n : Nat} (h : n < s.length) : s[n]? = some (s.getD n 0) := by
 rw [List.getD_eq_getElem?_getD, List.getElem?_eq_getElem h]; rfl
theorem ma {s : Str} {x k : Nat} (h : (decide (((x : Int) + ((k : Int) + 1)) < s.length) == true) = true) : x + (k + 1) < s.length := by
 have := of_decide_eq_true (by simpa using h : decide (((x : Int) + ((k : Int) + 1)) < s.length) = true)
 omega
/-- What a round of the search for the mark that closes comes to. -/
theorem Zt {s : Str} {x k : Nat} (h1 : 1 ≤ x) (hx : Bn (s.drop 1) = (Bn (s.drop x)).map (· + (x - 1))) (hk : Lib.indexByte (s.drop x) 39 = (k : Int)) :
  x + (k + 1) ≤ s.length ∧
   ((decide (((x : Int) + ((k : Int) + 1)) < s.length) && (((s.getD (x + (k + 1)) 0).toNat : Int) == 39)) = true → x + (k + 1) + 1 ≤ s.length ∧ Bn (s.drop 1) = (Bn (s.drop (x + (k + 1) + 1))).map (· + (x + (k + 1) + 1 - 1))) ∧
   ((decide (((x : Int) + ((k : Int) + 1)) < s.length) && (((s.getD (x + (k + 1)) 0).toNat : Int) == 39)) = false → Bn (s.drop 1) = some (x + k)) := by
 obtain ⟨g1, g2, g3⟩ := Wa _ k hk
 rw [List.length_drop] at g1
 rw [List.getElem?_drop] at g3
 have e0 : (s.drop x).drop k = 39 :: s.drop (x + (k + 1)) := by rw [List.drop_drop, Ij g3, Nat.add_assoc]
 rw [e0] at g2
 refine ⟨by omega, fun h => ?_, fun h => ?_⟩
 ·simp only [Bool.and_eq_true, decide_eq_true_eq, beq_iff_eq] at h
  have hlt : x + (k + 1) < s.length := by omega
  have hc : s.getD (x + (k + 1)) 0 = 39 := UInt8.toNat_inj.1 (by have : (39 : UInt8).toNat = 39 := rfl; omega)
  have hd := Ij (D9 hlt)
  rw [hc] at hd
  refine ⟨by omega, ?_⟩
  rw [hx, g2, hd, L7]
  simp only [beq_self_eq_true, if_true]
  cases Bn (s.drop (x + (k + 1) + 1)) with
  | none => rfl
  | some m => simp; omega
 rw [hx, g2, L7]
 cases hd : s.drop (x + (k + 1)) with
 | nil => simp; omega
 | cons d t =>
  have hlt : x + (k + 1) < s.length := by
   have := congrArg List.length hd
   simp at this; omega
  have hg := Ij (D9 hlt)
  rw [hd] at hg
  injection hg with hg1 hg2
  have hne : (d == 39) = false := by
   rw [hg1, beq_eq_false_iff_ne]
   intro e
   rw [e] at h
   simp at h
   omega
  simp [hne]; omega
theorem ADe (s : Str) (h0 : 1 ≤ s.length) (hs : s.length ≤ 1048576) (Hp : List AObj) : AFun Tryz.prog 107 [A7 s] Hp (m9 (El s)) := by
 refine ACall.body [.tmp 2, .tmp 3, .tmp 4, .tmp 5] [0] Tryz.func107 Tryz.ntmps107 (fun d => ?_)
 refine lg ?_;refine Z1 ?_;refine R.fin [0, 6] ?_
 refine AW.loopC (α := Nat) (fun x => ⟨44, A5 0 (A7 s) (A5 6 (A3 (x : Nat)) (fun _ => .any)), Hp, [], [], none⟩) (fun x => 1 ≤ x ∧ x ≤ s.length ∧ Bn (s.drop 1) = (Bn (s.drop x)).map (· + (x - 1))) (fun x => s.length - x) (1) ⟨Nat.le_refl _, h0, by cases Bn (s.drop 1) <;> rfl⟩ (StLe.refl _) rfl (fun x hx => ?_)
 refine AW.block ?_;refine Z31 ?_;refine R.scutL x jU hx.2.1 (Nat.le_refl _) ?_;refine R.call Tryz.call139 (ACz (s.drop x) 39 _) ?_;refine B3 ?_;refine R.fin [0, 6, 7] ?_;refine Pg ?_;refine R.fin [0, 6, 7, 15] ?_
 refine W.cond (fun ht15 => ?_) (fun ht15 => ?_)
 ·have hk : Lib.indexByte (s.drop x) 39 = -1 := by have := Lib.indexByte_ge (s.drop x) 39; simp at ht15; omega
  have hcq : Bn (s.drop 1) = none := by rw [hx.2.2, Pq _ hk]; rfl
  refine l3 ?_;refine Z63 ?_;refine K.thR ?_;refine gr ?_;exact K.fin (V.four V.tmp V.tmp V.tmp V.tmp) ⟨by simp only [El, hcq], rfl⟩
 obtain ⟨k0, hk⟩ := Int.eq_ofNat_of_zero_le (show 0 ≤ Lib.indexByte (s.drop x) 39 by simp at ht15; omega)
 rw [hk]
 refine Oa ?_
 have hst := Zt hx.1 hx.2.2 hk
 refine Z53 ?_;refine R.add64 ?_;refine Z23 ?_;refine R.fin [0, 6] ?_;refine ll ?_;refine G.sindex (x + (k0 + 1)) (s.getD (x + (k0 + 1)) 0) jU (fun hB => D9 (ma hB))  ?_;refine G.eql ?_;refine F6 ?_;refine R.fin [0, 6, 29] ?_
 refine W.cond (fun ht29 => ?_) (fun ht29 => ?_)
 ·have hon := hst.2.1 ht29
  refine Z0 ?_;refine Z23 ?_;refine R.fin [0, 6] ?_;refine Z40 ?_;refine K.blE ?_;exact K.lpN ((x + (k0 + 1)) + 1) ⟨by omega, hon.1, hon.2⟩ (by omega) (StCut.of_eq rfl)
 have hcq := hst.2.2 ht29
 refine Zh ?_;refine R.scutH (x + (k0 + 1)) jU (Nat.zero_le _) hst.1 ?_
 refine R.call Tryz.call138 (y7 (s.take (x + (k0 + 1))) (by simp; omega) _) ?_
 refine Z78 ?_;refine Z10 ?_;refine B3 ?_;refine R.fin [6, 8, 9] ?_;refine Z8 ?_;refine R.neq ?_;refine R.fin [6, 8, 40] ?_
 refine W.cond (fun ht40 => ?_) (fun ht40 => ?_)
 ·refine l3 ?_;refine Z63 ?_;refine K.thR ?_;refine gr ?_;exact K.fin (V.four V.tmp V.tmp V.tmp V.tmp) ⟨by simp only [El, hcq, show x + k0 + 1 = x + (k0 + 1) by omega]; rw [if_pos ht40], rfl⟩
 refine Z4 ?_;refine W.draw [0, 1, 0, 0, 11, 31, 63] 5 Ae (by kernel_rfl) ?_;refine D.fieldAddrPtr (fo := 2) jU Tryz.sizeOf9 ?_;refine D.loadOwn jA ?_;refine D.move ?_;refine D.assign ?_;refine D.assign ?_;refine D.tail ?_;refine Z18 ?_;refine Z63 ?_;refine gr ?_;exact K.fin (V.four V.tmp V.tmp V.tmp V.tmp) ⟨by simp only [El, hcq, show x + k0 + 1 = x + (k0 + 1) by omega]; rw [if_neg (by rw [ht40]; simp)]; rfl, rfl⟩

def Kg : Str := [60, 61, 32, 62, 61, 32, 33, 61]
def singles : Str := [40, 41, 44, 59, 61, 60, 62, 43, 45, 42, 47, 37, 38, 58]
def Hc (s : Str) : Int × Str × Int × Int :=
 if (decide ((1 : Int) < s.length) && Lib.contains Kg (s.take 2)) && (((s.getD 1 0).toNat : Int) == 61) then (5, s.take 2, 2, 0)
 else if Lib.contains singles (s.take 1) then (5, s.take 1, 1, 0) else (0, [], 0, 7)
theorem ie {s : Str} {b c : Bool} (h : (((decide ((1 : Int) < s.length) && b) && c) == true) = true) : 1 < s.length := by
 revert h
 cases hd : decide ((1 : Int) < s.length) with
 | true => intro _; have := of_decide_eq_true hd; omega
 | false => intro h; simp at h
theorem Pr {s : Str} {b : Bool} (h : ((decide ((1 : Int) < s.length) && b) == true) = true) : 1 < s.length := ie (c := true) (by rw [Bool.and_true]; exact h)
theorem Zu {s : Str} (h : (decide ((1 : Int) < s.length) == true) = true) : 2 ≤ s.length := Pr (b := true) (by rw [Bool.and_true]; exact h)
theorem ADf (s : Str) (h0 : 1 ≤ s.length) (Hp : List AObj) : AFun Tryz.prog 108 [A7 s] Hp (m9 (Hc s)) := by
 refine ACall.body [.tmp 2, .tmp 3, .tmp 4, .tmp 5] [0] Tryz.func108 Tryz.ntmps108 (fun d => ?_)
 refine lg ?_;refine Z8 ?_;refine Za ?_;refine Z14 ?_;refine G.scutH 2 jU (fun _ => Nat.zero_le _) (fun hB => Zu hB) ?_;refine G.call Tryz.call96 (fun hB => c96 Kg (s.take 2) (by decide) _) ?_;refine U5 ?_;refine G.sindex 1 (s.getD 1 0) jU (fun hB => D9 (Pr hB))  ?_;refine G.eql ?_;refine F6 ?_;refine R.fin [0, 18] ?_
 refine W.cond (fun ht18 => ?_) (fun ht18 => ?_)
 ·have h2 : 2 ≤ s.length := by revert ht18; cases hd : decide ((1 : Int) < s.length) with
   | true => intro _; have := of_decide_eq_true hd; omega
   | false => intro h; simp at h
  refine W.draw [0, 1, 0, 7, 15, 31] 3 Ae (by kernel_rfl) ?_;refine D.move ?_;refine D.scutH 2 jU (Nat.zero_le _) h2 ?_;refine D.assign ?_;refine D.tail ?_;refine qb ?_;refine Z63 ?_;refine K.thR ?_;exact K.fin (V.four V.tmp V.tmp V.tmp V.tmp) ⟨by simp only [Hc, ht18, if_true, if_false, Bool.false_eq_true]; try rfl, rfl⟩
 refine Vy ?_;refine R.scutH 1 jU (Nat.zero_le _) h0 ?_;refine R.call Tryz.call96 (c96 singles (s.take 1) (by decide) _) ?_;refine R.fin [0, 23] ?_
 refine W.cond (fun ht23 => ?_) (fun ht23 => ?_)
 ·refine W.draw [0, 1, 0, 7, 15, 31] 3 Ae (by kernel_rfl) ?_;refine D.move ?_;refine D.scutH 1 jU (Nat.zero_le _) h0 ?_;refine D.assign ?_;refine D.tail ?_;refine qb ?_;refine Z63 ?_;refine K.thR ?_;exact AAx
 refine Z4 ?_;refine l3 ?_;refine Z63 ?_;exact AAx

def Aq (s : Str) : Int × Str × Int × Int :=
 if decide (0 < G9 (s.take 1) letters) then Hb s else if decide (0 < G9 (s.take 1) digs) then Ii s else if ((s.getD 0 0).toNat : Int) == 39 then El s else Hc s
theorem c79 (s : Str) (h0 : 1 ≤ s.length) (hs : s.length ≤ 1048576) (Hp : List AObj) : AFun Tryz.prog 79 [A7 s] Hp (m9 (Aq s)) := by
 refine ACall.body [.tmp 2, .tmp 3, .tmp 4, .tmp 5] [0] Tryz.func79 Tryz.ntmps79 (fun d => ?_)
 refine lg ?_;refine Z38 ?_;refine Z0 ?_;refine R.scutH 1 jU (Nat.zero_le _) h0 ?_
 refine R.call Tryz.call66 (c66 (s.take 1) letters (by simp; omega) (by decide) Rq _) ?_
 refine lf ?_;refine R.fin [0, 6] ?_
 refine W.cond (fun ht6 => ?_) (fun ht6 => ?_)
 ·refine Z0 ?_;refine R.call Tryz.call105 (ADc s hs _) ?_;refine Z25 ?_;refine Z25 ?_;refine Ze ?_;refine Z6 ?_;exact K.fin (V.four V.tmp V.tmp V.tmp V.tmp) ⟨by simp only [Aq, ht6, if_true, if_false, Bool.false_eq_true], rfl⟩
 refine Z0 ?_;refine R.scutH 1 jU (Nat.zero_le _) h0 ?_
 refine R.call Tryz.call66 (c66 (s.take 1) digs (by simp; omega) (by decide) L6 _) ?_
 refine lf ?_;refine R.fin [0, 17] ?_
 refine W.cond (fun ht17 => ?_) (fun ht17 => ?_)
 ·refine Z0 ?_;refine R.call Tryz.call106 (ADd s hs _) ?_;refine Z25 ?_;refine Z25 ?_;refine Ze ?_;refine Z6 ?_;exact K.fin (V.four V.tmp V.tmp V.tmp V.tmp) ⟨by simp only [Aq, ht6, ht17, if_true, if_false, Bool.false_eq_true], rfl⟩
 refine Z0 ?_;refine R.sindex 0 (s.getD 0 0) jU (D9 h0)  ?_;refine Z30 ?_;refine R.fin [0, 28] ?_
 refine W.cond (fun ht28 => ?_) (fun ht28 => ?_)
 ·refine Z0 ?_;refine R.call Tryz.call107 (ADe s h0 hs _) ?_;refine Z25 ?_;refine Z25 ?_;refine Ze ?_;refine Z6 ?_;exact AAy
 refine Z34 ?_;refine Z0 ?_;refine R.call Tryz.call108 (ADf s h0 _) ?_;refine Z25 ?_;refine Z25 ?_;refine Ze ?_;exact AAy

structure Tok where
 kind : Int
 text : Str
 at_ : Nat
 deriving DecidableEq
abbrev D0 (t : Tok) : AV := .agg [.v (.int .i64 t.kind), .v (sv t.text), .v (.int .i64 (t.at_ : Int))]
abbrev Np (l : List Tok) : AV := .slice false 3 (l.map D0)
theorem cf {c : UInt8} {of : Str} (h : decide (0 < G9 ([c] : Str) of) = true) : of.contains c = true := by
 have := of_decide_eq_true h
 unfold G9 Lib.trimLeftS at this
 rw [List.dropWhile_cons] at this
 cases hc : of.contains c with
 | true => rfl
 | false => rw [hc] at this; simp at this
theorem Ps {c : UInt8} {r of : Str} (h : of.contains c = true) : 1 ≤ (Be (c :: r) of).length := by
 unfold Be
 rw [W8, List.takeWhile_cons, h]
 simp
theorem Rr : ∀ c : UInt8, letters.contains c = true → tails.contains c = true := by
 have h : ((List.range 256).all fun n => !letters.contains (UInt8.ofNat n) || tails.contains (UInt8.ofNat n)) = true := by kernel_rfl
 intro c hc
 have := List.all_eq_true.1 h c.toNat (List.mem_range.2 c.toNat_lt)
 rw [show UInt8.ofNat c.toNat = c by simp, hc] at this
 simpa using this
theorem Pt : ∀ (l : Str) (n : Nat), Bn l = some n → 1 ≤ n ∧ n ≤ l.length
 | [], n, h => by cases h
 | [c], n, h => by
  rw [Bn] at h
  split at h
  ·injection h with h; subst h; simp
  cases h
 | c :: d :: t, n, h => by
  rw [Bn] at h
  split at h
  ·split at h
   ·rw [Option.map_eq_some_iff] at h
    obtain ⟨m, hm, rfl⟩ := h
    have := Pt t m hm
    simp only [List.length_cons]; omega
   injection h with h; subst h; simp
  rw [Option.map_eq_some_iff] at h
  obtain ⟨m, hm, rfl⟩ := h
  have := Pt (d :: t) m hm
  simp only [List.length_cons] at this ⊢; omega
theorem Lu {s : Str} (h0 : 1 ≤ s.length) (h : (Aq s).2.2.2 = 0) : ∃ n : Nat, (Aq s).2.2.1 = (n : Int) ∧ 1 ≤ n ∧ n ≤ s.length := by
 cases s with
 | nil => simp at h0
 | cons c r =>
  unfold Aq at h ⊢
  split at h
  ·rename_i h1
   rw [if_pos h1]
   have hc := Rr c (cf h1)
   have hw := Ps (r := r) hc
   have hl := Fk (c :: r) tails
   unfold Hb at h ⊢
   split at h
   ·rename_i h2; rw [if_pos h2]; exact ⟨_, rfl, hw, hl⟩
   rename_i h2
   rw [if_neg h2]
   split at h
   ·exact lm
   rename_i h3; rw [if_neg h3]; exact ⟨_, rfl, hw, hl⟩
  rename_i h1
  rw [if_neg h1]
  split at h
  ·rename_i h2
   rw [if_pos h2]
   exact ⟨_, rfl, Ps (r := r) (cf h2), Fk _ _⟩
  rename_i h2
  rw [if_neg h2]
  split at h
  ·rename_i h3
   rw [if_pos h3]
   unfold El at h ⊢
   split at h
   ·exact lm
   rename_i n hn
   split at h
   ·exact lm
   rename_i h4
   simp only [if_neg h4]
   have := Pt _ n hn
   simp at this
   exact ⟨n + 1, rfl, by omega, by simp only [List.length_cons]; omega⟩
  rename_i h3
  rw [if_neg h3]
  unfold Hc at h ⊢
  split at h
  ·rename_i h4
   rw [if_pos h4]
   refine ⟨2, rfl, by omega, ?_⟩
   simp only [Bool.and_eq_true, decide_eq_true_eq] at h4
   have := h4.1.1
   omega
  rename_i h4
  rw [if_neg h4]
  split at h
  ·rename_i h5; rw [if_pos h5]; exact ⟨1, rfl, by omega, h0⟩
  exact lm
/-- The words from a place on, up to one that is wrong. -/
def Cj : Nat → Nat → Str → List (Tok × Int)
 | 0, _, _ => []
 | f + 1, k, s => if s == [] then [] else
  (⟨(Aq s).1, (Aq s).2.1, k⟩, (Aq s).2.2.2) :: (if (Aq s).2.2.2 == 0 then Cj f (k + (Aq s).2.2.1.toNat + gapM (s.drop (Aq s).2.2.1.toNat)) ((s.drop (Aq s).2.2.1.toNat).drop (gapM (s.drop (Aq s).2.2.1.toNat))) else [])
def Ax (s : Str) : List (Tok × Int) := Cj (s.length + 1) (gapM s) (s.drop (gapM s))
theorem Uc (s : Str) : gapM s ≤ s.length := Nat.sub_le _ _
end Go.SX.Nb
namespace Go.SX
variable [GI : GlobInv]
open Classical
section
variable {P : Program} {d : Nat} {st : St} {dst : Option Tmp} {ty : TypeId} {pos : String} {aft : Array Edge} {gd : Option (Nat × Bool)}
end
section
variable {P : Program} {d : Nat} {ops : Array Oper}
variable {sz : Nat} {fr : Nat → AV} {up own own' : List AObj} {dfs : List Nat} {rnd : Option Nat} {Q : St → Prop} {rest : List Oper} {s : Nat} {ty : TypeId} {pos : String} {aft : Array Edge}
end
end Go.SX
namespace Go.SX
variable [GI : GlobInv]
open Classical
variable {P : Program} {d : Nat} {l0 : List Oper} {kd : Nat} {ops : Array Oper} {rest : List Oper} {sz : Nat} {fr : Nat → AV} {up own : List AObj} {dfs : List Nat} {rnd : Option Nat} {Q : St → Prop} {s : Nat} {ty : TypeId} {pos : String} {aft : Array Edge} {E : List Oper → (Nat → AV) → Prop}
theorem D.bytesStr {a t e : TypeId} {x : Operand} {o : Bool} (l : List UInt8) (hs' : P.underlying a = some (.slice e)) (he : P.underlying e = some (.int .u8)) (ht : P.underlying t = some .string) (hr : ADraw P d l0 sz up own dfs rnd E kd rest (A5 s (.v (sv l)) fr))
  (hx : A9 fr x = .slice o 1 (l.map u8A) := by exact sL0) (hs : Nat.blt s sz = true := by rfl) :
  ADraw P d l0 sz up own dfs rnd E (kd + 1) (⟨some s, .convert a t x, ty, pos, aft, none⟩ :: rest) fr :=
 ⟨s, _, rfl, by simpa using hs, fun f0 hag => OpV.bytesStr hs' he ht ((agr hag (by simp [Op.operands, Call.operands])).trans hx), hr⟩
theorem R.nilTmp {l : List Oper} (s k : Nat) (o : Bool) (hr : ARun P d ops l ⟨sz, A5 s (.slice o k []) fr, up, own, dfs, rnd⟩ Q) (h : fr s = .nil := by exact sL0) :
  ARun P d ops l ⟨sz, fr, up, own, dfs, rnd⟩ Q :=
 ARun.le (st' := ⟨sz, A5 s (.slice o k []) fr, up, own, dfs, rnd⟩) (StLe.frame (s := ⟨sz, fr, up, own, dfs, rnd⟩) fun i => by
  show Le (fr i) (A5 s (.slice o k []) fr i)
  unfold A5
  by_cases hi : i = s
  ·subst hi; rw [if_pos rfl, h]; exact .nil _ _
  rw [if_neg hi]; exact .refl _) hr
/-! A slice without room behind its end: whoever appends to it gets a new one. -/
theorem Zv (k : Nat) (xs : List AV) : (AV.full k xs).strip = .full k xs := rfl
theorem Zw (k : Nat) (xs : List AV) : (AV.full k xs).cells = [.full k xs] := rfl
theorem mb (k : Nat) (xs : List AV) : (AV.full k xs).one = true := rfl
attribute [go_sem] Zv Zw mb
theorem Rep.thaw {G : Gh} {w : World} {L : Loc} {k : Nat} {xs : List AV} {u : Value} (hne : xs ≠ []) (h : Rep G w (some L) (.full k xs) u) : Rep G w (some L) (.slice true k xs) u := by
 cases h with
 | full _ _ _ ad n h =>
  cases h with
  | sliceE => exact absurd rfl hne
  | slice _ _ _ _ _ _ _ f hs hn hc hk h1 hf hr _ => exact .slice _ true k xs ad n n f hs hn hc hk h1 hf hr (fun _ => ⟨L, rfl, fun o a b => by omega⟩)
theorem StLe.thaw {n k j0 : Nat} {t : TypeId} {cs xs : List AV} (ho : own[n]? = some (.cells t cs)) (hc : cs[j0]? = some (.full k xs)) (hne : xs ≠ []) : StLe d ⟨sz, fr, up, own, dfs, rnd⟩ ⟨sz, fr, up, own.set n (.cells t (cs.set j0 (.slice true k xs))), dfs, rnd⟩ := by
 refine ⟨fun G a w h => ?_, rfl, rfl, rfl⟩
 refine ⟨h.size, h.slots, ⟨fun i x hx => ?_, ?_, h.heap.inj⟩, h.defs, fun o hoo => ?_, h.defsNodup, h.defsGe, h.tags, h.rnd, h.low⟩
 ·by_cases hi : i = up.length + n
  ·subst hi
   simp only at hx
   rw [Bp, List.getElem?_set_self (List.getElem?_eq_some_iff.1 ho).1] at hx
   injection hx with hx
   subst hx
   have hob := h.heap.obj (up.length + n) (.cells t cs) (by simp only [Bp]; exact ho)
   obtain ⟨vs, h1, h2, h3, h4⟩ := hob
   refine ⟨vs, h1, by simpa using h2, fun j y u p q => ?_, by simpa using h4⟩
   by_cases hj : j = j0
   ·subst hj
    rw [List.getElem?_set_self (List.getElem?_eq_some_iff.1 hc).1] at p
    have e : y = .slice true k xs := by simpa using p.symm
    subst e
    exact (h3 j (.full k xs) u hc q).thaw hne
   rw [List.getElem?_set_ne (fun e => hj e.symm)] at p
   exact h3 j y u p q
  refine h.heap.obj i x ?_
  simp only at hx ⊢
  rwa [← As, List.getElem?_set_ne (fun e => hi e.symm)] at hx
 ·have := h.heap.n; simpa using this
 have h1 := h.defsAt o hoo
 simp only at h1 ⊢
 rw [← As]
 by_cases hi : o = up.length + n
 ·subst hi
  rw [Bp, ho] at h1
  cases h1
 rw [List.getElem?_set_ne (fun e => hi e.symm)]
 exact h1
theorem D.buildFull {t e : TypeId} {k len : Nat} {z : Value} {parts : List (Nat × Operand)} {ys : List AV} (hu : P.underlying t = some (.slice e)) (hsz : ∀ w, (Go.sizeOf e).run P w = .ok k w) (hz : ∀ w, (zeroValue e).run P w = .ok z w)
  (hr : ADraw P d l0 sz up own dfs rnd E kd rest (A5 s (.full k ys) fr)) (hp : parts.toArray = (((parts.map Prod.snd).zipIdx).map fun x => (x.2, x.1)).toArray := by rfl) (hev : (parts.map Prod.snd).map (A9 fr) = ys := by exact sL0)
  (hk : ys.all (fun y => decide (y.cells.length = k) && y.cells.all AV.one) = true := by simp [go_sem]) (hl : len = ys.length := by rfl) (hlen : ys.length * k ≤ 16777216 := by exact sL3) (hs : Nat.blt s sz = true := by rfl) :
  ADraw P d l0 sz up own dfs rnd E (kd + 1) (⟨some s, .buildSlice t len parts.toArray, ty, pos, aft, none⟩ :: rest) fr := by
 have h2 : ∀ y ∈ ys, y.cells.length = k ∧ y.cells.all AV.one = true := fun y hy => by simpa using List.all_eq_true.1 hk y hy
 refine ⟨s, _, rfl, by simpa using hs, fun f0 hag => ?_, hr⟩
 have hev' : (parts.map Prod.snd).map (A9 f0) = ys := by
  rw [← hev]
  refine List.map_congr_left fun x hx => ?_
  refine agr hag ?_
  simp only [Op.operands, List.toList_toArray, Array.toList_map, List.mem_map] at hx ⊢
  exact hx
 exact OpV.buildFull (st := ⟨sz, f0, up, own, dfs, rnd⟩) hu hsz hz hev' (fun y hy => (h2 y hy).1) (fun y hy c hc => List.all_eq_true.1 (h2 y hy).2 c hc) hlen hl hp
section
variable {up own : (Nat → Bool) → List AObj} {S : List SegY} {l : List Oper} {T F : List Nat}
/-- The p-th of those that turn the heap: a call that turns one object of ours. -/
theorem Y.callOwn {g : FuncId} {xs : List Operand} {ats : Array TypeId} {args : List AV} {r : AV} {n pn : Nat} {x x0 : AObj} (hcall : ∀ args w, (callFunc g args).run P w = .ok (.enter g args) w)
  (hU : ∀ B : Nat → Bool, (∀ p ∈ T, B p = true) → (∀ p ∈ F, B p = false) → B pn = false → (own B)[n]? = some x0 ∧ own (upd B pn) = (own B).set n x ∧ up (upd B pn) = up B ∧ ACall P g args (up B ++ own B) (fun y H' => y = r ∧ H' = (up B ++ own B).set (oid (up B).length n) x))
  (h : ChainY P d l0 sz up own dfs rnd E S l (A5 s r fr)) (hx0' : x0 ≠ .defs := by simp)
  (ha : xs.map (A9 fr) = args := by exact sL0) (hs : Nat.blt s sz = true := by rfl) :
  ChainY P d l0 sz up own dfs rnd E (.s [s] (some pn) T F :: S) (⟨some s, .call ⟨.value (.func g), xs.toArray, ats⟩, ty, pos, aft, none⟩ :: l) fr := by
 refine ⟨_, l, [(s, r)], rfl, ⟨rfl, rfl, fun B f hT hF hB hf => ?_⟩, h⟩
 obtain ⟨a1, a2, a3, a5⟩ := hU B hT hF (hB pn rfl)
 have e : xs.map (A9 f) = args := by rw [ko hf (fun x hx => by simp [Op.operands, Call.operands, hx])]; exact ha
 refine AOp.callG (st := ⟨sz, f, up B, own B, dfs, rnd⟩) (first := []) (caps := []) hcall rfl (by rw [← e]; simp [St.ev] <;> rfl) a5 (by simpa using hs) (fun y H' _ hy => ?_)
 obtain ⟨rfl, rfl⟩ := hy
 refine ⟨up B, (own B).set n x, As, rfl, fun h => h, fun hd o' ho => ?_, ?_⟩
 ·have := hd o' ho
  rw [← As, List.getElem?_set]
  split
  ·rename_i e
   subst e
   rw [Bp, a1] at this
   injection this with this
   exact absurd this hx0'
  exact this
 show St.mk sz (A5 s y f) (up B) ((own B).set n x) dfs rnd = St.mk sz (F1 [(s, y)] f) (up (upd B pn)) (own (upd B pn)) dfs rnd
 rw [a2, a3]
 rfl
/-- The p-th of those that turn the heap: a store into an object of whoever waits. -/
theorem Y.storeUp {t t' : TypeId} {p x : Operand} {o off k pn : Nat} {y : AV} {ys cs cs' : List AV} (hsz : ∀ w, (Go.sizeOf t).run P w = .ok k w)
  (hU : ∀ B : Nat → Bool, B pn = false → (up B)[o]? = some (.cells t' cs) ∧ up (upd B pn) = (up B).set o (.cells t' cs') ∧ own (upd B pn) = own B ∧ ∀ y ∈ ys, Low (up B).length y)
  (h : ChainY P d l0 sz up own dfs rnd E S l fr)
  (hp : A9 fr p = .ptr o off := by exact sL0) (hx : A9 fr x = y := by exact sL0) (hc : y.cells = ys := by exact sL0) (hk : ys.length = k := by rfl)
  (h1 : ys.all AV.one = true := by exact sL4) (hfit : off + k ≤ cs.length := by exact sL3) (hput : B8 cs off ys = cs' := by exact sL0) :
  ChainY P d l0 sz up own dfs rnd E (.s [] (some pn) T F :: S) (⟨none, .store t p x, ty, pos, aft, none⟩ :: l) fr := by
 subst hput
 subst hc
 refine ⟨_, l, [], rfl, ⟨rfl, rfl, fun B f _ _ hB hf => ?_⟩, h⟩
 obtain ⟨a1, a2, a3, a4⟩ := hU B (hB pn rfl)
 have e : A9 f p = .ptr o off := by rw [agr hf (by simp [Op.operands])]; exact hp
 have ex : A9 f x = y := by rw [agr hf (by simp [Op.operands])]; exact hx
 refine AOp.eqTo (AOp.storeUp (st := ⟨sz, f, up B, own B, dfs, rnd⟩) hsz e a1 ex hk h1 hfit a4) ?_
 show _ = St.mk sz f (up (upd B pn)) (own (upd B pn)) dfs rnd
 rw [a2, a3]
end
end Go.SX
