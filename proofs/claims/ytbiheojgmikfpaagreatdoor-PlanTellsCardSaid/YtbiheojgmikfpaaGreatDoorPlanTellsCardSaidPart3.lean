/- Texts on the way to this: PlanTells answers true for whatever it is handed: of any columns and any moves the plan, its text, the plan back and the shadows are what the reference says, or the migration is not sound. (part 3) -/
import Derived.Below
import Derived.Test.YtbiheojgmikfpaaGreatDoorProg
import Derived.KernelRfl
import Derived.Shelf.Strconv.Itoa4
import Derived.Shelf.Strings.SplitShaped
import Derived.Shelf.Strings.SlTrimAscii
import Derived.Shelf.Strings.OnBuilder
import Derived.Shelf.Strings.Replace
import Derived.Shelf.Small.Strs
import Derived.Shelf.Strings.Prefix
import Derived.Shelf.Strings.Builder1
import Derived.Shelf.Strings.Cut
import Derived.Lib.SplitLaws
import Derived.WalkKit
import Derived.Lib.AtoiErrMem
import Derived.Lib.Strings
import Derived.BigCall
import Derived.Lib.ParseIntB
import Derived.Test.YtbiheojgmikfpaaGreatDoorPlanTellsCardSaidPart2
set_option linter.all false
namespace Go.SX
variable [GI : GlobInv]
open Classical Go.RowKit
section
variable {P : Program} {g : FuncId} {Hp : List AObj}

/-- What is known of package-level variables, of a world alone. -/
def Ic (w : World) : Prop := ∀ x ∈ GI.blocks, ∃ o, w.heap[x.1]? = some o ∧ x.2 o

theorem Xw {G : Gh} {w : World} {xs : List Value} {vs : Array Value} (hn : vs.size = (xs.map AV.v).length) (h : ∀ (i : Nat) (y : AV) (u : Value), (xs.map AV.v)[i]? = some y → vs[i]? = some u → ∃ l, Rep G w l y u) : vs = xs.toArray := by
 apply Array.ext
 ·simpa using hn
 intro i h1 h2
 have hi : i < xs.length := by simpa using h2
 obtain ⟨l, hr⟩ := h i (.v xs[i]) vs[i] (by simp [hi]) (Array.getElem?_eq_getElem h1)
 have := Hu hr
 simpa using this

theorem He {G : Gh} {w w' : World} (hT : TagOK G w) (hb : Below w.heap.size w w') {b o : Nat} (h : G.tag b o ≠ .free) : w'.cell? ⟨b, o, none⟩ = w.cell? ⟨b, o, none⟩ ∧ w'.frozen? ⟨b, o, none⟩ = w.frozen? ⟨b, o, none⟩ := by
 obtain ⟨u, hu⟩ := hT.ex b o h
 have hlt : b < w.heap.size := World.block_lt_of_cell? _ _ hu
 have := hb.block b hlt
 exact ⟨Cj this, C3 this⟩

theorem Jx {G : Gh} {w w' : World} (hT : TagOK G w) (hb : Below w.heap.size w w') : Turn G w G w' :=
 ⟨fun b o h => ⟨h, (He hT hb (by rw [h]; simp)).1⟩, fun _ _ _ h => h, fun _ _ _ h => h, Nat.le_refl _, fun _ _ => rfl, hb.os, hb.tape, hb.output, hb.size, Still.tags (fun b hv => hb.block b hv.1) hb.size (fun _ _ _ => .inl rfl) (fun _ hi => .inl ⟨hi, rfl⟩)⟩

theorem Nn {G : Gh} {H : List AObj} {w w' : World} (hH : HeapRel G H w) (hT : TagOK G w) (hb : Below w.heap.size w w') : HeapRel G H w' ∧ TagOK G w' := by
 have T := Jx hT hb
 refine ⟨⟨fun i x hx => ?_, hH.n, hH.inj⟩, ⟨fun b o h => ?_, fun b o i h => ?_, fun b o L h => ?_, hT.globKeep T.old⟩⟩
 ·have hi : i < G.n := by rw [hH.n]; exact (List.getElem?_eq_some_iff.1 hx).1
  exact T.objRel hi (hb.block _ (M8 hH i hi)) (hH.obj i x hx) (fun b h => hb.block b h.lt)
 ·rw [(He hT hb h).1]; exact hT.ex b o h
 ·rw [(He hT hb (by rw [h]; simp)).2]; exact hT.obj b o i h
 rw [(He hT hb (by rw [h]; simp)).2]; exact hT.tail b o L h

/-- A function of vf values that hands back a vf value. -/
theorem AFun.lib {xs : List Value} {r : AV} {v : Value} (hr : ∀ G w, Rep G w none r v) (h : ∀ w, Ic w → Calls P g xs.toArray w (fun e w' => e = .returned v ∧ Below w.heap.size w w')) : AFun P g (xs.map .v) Hp r := by
 intro d G w vs hn hv hH hT
 have hvs := Xw hn (fun i y u a b => ⟨_, hv i y u a b⟩)
 subst hvs
 refine (callsIn_wide.2 (h w (fun x hx => let ⟨_, u, a, b⟩ := hT.glob x hx; ⟨u, a, b⟩))).mono ?_
 rintro e w' ⟨rfl, hb⟩
 obtain ⟨h1, h2⟩ := Nn hH hT hb
 exact ⟨v, G, r, Hp, rfl, (hr G w').lift, h1, h2, (Jx hT hb).keep _, rfl, rfl, rfl⟩


/-- A function of vf values that hands back a new slice of vf values. -/
theorem AFun.libSlice {xs ys : List Value} {t : TypeId} (hone : ∀ y ∈ ys, y.oneCell' = true) (h : ∀ w, Ic w → Calls P g xs.toArray w (fun e w' => e = .returned (.slice (some ⟨w.heap.size, 0, none⟩) ys.length ys.length) ∧ w' = w.alloc (.cells ys.toArray t))) :
  AFun P g (xs.map .v) Hp (.slice false 1 (ys.map .v)) := by
 intro d G w vs hn hv hH hT
 have hvs := Xw hn (fun i y u a b => ⟨_, hv i y u a b⟩)
 subst hvs
 refine (callsIn_wide.2 (h w (fun x hx => let ⟨_, u, a, b⟩ := hT.glob x hx; ⟨u, a, b⟩))).mono ?_
 rintro e w' ⟨rfl, rfl⟩
 have hst : StRel 0 G ⟨0, fun _ => .any, Hp, [], [], none⟩ { tmps := #[], defers := [] } w :=
  ⟨rfl, fun s => .any _ _, by simpa using hH, rfl, (fun o ho => by simp at ho), List.nodup_nil, (fun o ho => by simp at ho), hT, (fun l hl => by cases hl), Nd hH⟩
 obtain ⟨G', g1, T, g2⟩ := La hst t ys.toArray
 refine ⟨_, G', _, Hp, rfl, ?_, by simpa using g1.heap, g1.tags, T.keep _, rfl, rfl, rfl⟩
 refine .slice _ false 1 _ _ _ _ (fun i j => ys.toArray.getD i undef) rfl (by simp) (Nat.le_refl _) (fun x hx => ?_) (fun x hx y hy => ?_) (fun i x j y hx hy => ?_) (fun i x j y hx hy => ?_) (fun h => by cases h)
 ·obtain ⟨z, _, rfl⟩ := List.mem_map.1 hx
  rfl
 ·obtain ⟨z, hz, rfl⟩ := List.mem_map.1 hx
  have : y = .v z := by simpa [AV.cells] using hy
  subst this
  exact hone z hz
 all_goals
  rw [List.getElem?_map, Option.map_eq_some_iff] at hx
  obtain ⟨z, hz, rfl⟩ := hx
  have hlt : i < ys.length := (List.getElem?_eq_some_iff.1 hz).1
  have hj : j = 0 := by
   match j, hy with
   | 0, _ => rfl
   | j + 1, hy => simp [AV.cells] at hy
  subst hj
 ·refine ⟨by simpa using g2 i (by simpa using hlt), ?_⟩
  rw [World.cell?_alloc_new]
  simp [hlt]
 have : y = .v z := by simpa [AV.cells] using hy.symm
 subst this
 have e : ys.toArray.getD i undef = z := by
  have := List.getElem?_eq_getElem hlt
  rw [this] at hz
  injection hz with hz
  simp [hlt, hz]
 rw [e]
 exact .v _ _
end
end Go.SX
namespace Go.SX.Nb
open Go Go.SX Go.Proofs
class JU (t : TypeId) (u : outParam TypeDesc) : Prop where h : Tryz.prog.underlying t = some u
theorem jU {t : TypeId} {u : TypeDesc} [i : JU t u] : Tryz.prog.underlying t = some u := i.h
@[reducible, instance] def JU2 := JU.mk Tryz.underlying2
@[reducible, instance] def JU3 := JU.mk Tryz.underlying3
@[reducible, instance] def JU4 := JU.mk Tryz.underlying4
@[reducible, instance] def JU5 := JU.mk Tryz.underlying5
@[reducible, instance] def JU9 := JU.mk Tryz.underlying9
@[reducible, instance] def yx := JU.mk Tryz.underlying22
@[reducible, instance] def yy := JU.mk Tryz.underlying23
@[reducible, instance] def yz := JU.mk Tryz.underlying27
@[reducible, instance] def z6 := JU.mk Tryz.underlying34
@[reducible, instance] def z7 := JU.mk Tryz.underlying37
@[reducible, instance] def z8 := JU.mk Tryz.underlying42
@[reducible, instance] def za := JU.mk Tryz.underlying47
@[reducible, instance] def zb := JU.mk Tryz.underlying53
@[reducible, instance] def zc := JU.mk Tryz.underlying55
@[reducible, instance] def zd := JU.mk Tryz.underlying58
@[reducible, instance] def ze := JU.mk Tryz.underlying60
@[reducible, instance] def zf := JU.mk Tryz.underlying64
@[reducible, instance] def yf := JU.mk Tryz.underlying112
@[reducible, instance] def yg := JU.mk Tryz.underlying135
@[reducible, instance] def yh := JU.mk Tryz.underlying136
@[reducible, instance] def yi := JU.mk Tryz.underlying138
@[reducible, instance] def yj := JU.mk Tryz.underlying140
@[reducible, instance] def yk := JU.mk Tryz.underlying157
@[reducible, instance] def yl := JU.mk Tryz.underlying200
class JS (t : TypeId) (u : outParam Nat) : Prop where h : ∀ w, (Go.sizeOf t).run Tryz.prog w = .ok u w
theorem jS {t : TypeId} {u : Nat} [i : JS t u] : ∀ w, (Go.sizeOf t).run Tryz.prog w = .ok u w := i.h
@[reducible, instance] def JS3 := JS.mk Tryz.sizeOf3
@[reducible, instance] def JS4 := JS.mk Tryz.sizeOf4
@[reducible, instance] def JS5 := JS.mk Tryz.sizeOf5
@[reducible, instance] def JS9 := JS.mk Tryz.sizeOf9
@[reducible, instance] def zg := JS.mk Tryz.sizeOf22
@[reducible, instance] def zh := JS.mk Tryz.sizeOf28
@[reducible, instance] def zi := JS.mk Tryz.sizeOf34
@[reducible, instance] def zj := JS.mk Tryz.sizeOf37
@[reducible, instance] def zk := JS.mk Tryz.sizeOf42
@[reducible, instance] def zl := JS.mk Tryz.sizeOf47
@[reducible, instance] def zm := JS.mk Tryz.sizeOf53
@[reducible, instance] def zn := JS.mk Tryz.sizeOf55
@[reducible, instance] def zo := JS.mk Tryz.sizeOf58
@[reducible, instance] def zp := JS.mk Tryz.sizeOf60
@[reducible, instance] def ym := JS.mk Tryz.sizeOf135
@[reducible, instance] def yn := JS.mk Tryz.sizeOf138
@[reducible, instance] def yo := JS.mk Tryz.sizeOf200
class JA (t : TypeId) (u : outParam Bool) : Prop where h : ∀ w, (Go.isAgg t).run Tryz.prog w = .ok u w
theorem jA {t : TypeId} {u : Bool} [i : JA t u] : ∀ w, (Go.isAgg t).run Tryz.prog w = .ok u w := i.h
@[reducible, instance] def JA2 := JA.mk Tryz.isAgg2
@[reducible, instance] def JA3 := JA.mk Tryz.isAgg3
@[reducible, instance] def JA4 := JA.mk Tryz.isAgg4
@[reducible, instance] def JA9 := JA.mk Tryz.isAgg9
@[reducible, instance] def zq := JA.mk Tryz.isAgg22
@[reducible, instance] def zr := JA.mk Tryz.isAgg23
@[reducible, instance] def zt := JA.mk Tryz.isAgg28
@[reducible, instance] def zu := JA.mk Tryz.isAgg34
@[reducible, instance] def zv := JA.mk Tryz.isAgg37
@[reducible, instance] def zw := JA.mk Tryz.isAgg42
@[reducible, instance] def zx := JA.mk Tryz.isAgg47
@[reducible, instance] def zy := JA.mk Tryz.isAgg53
@[reducible, instance] def zz := JA.mk Tryz.isAgg55
@[reducible, instance] def AA0 := JA.mk Tryz.isAgg58
@[reducible, instance] def AA1 := JA.mk Tryz.isAgg60
@[reducible, instance] def yp := JA.mk Tryz.isAgg135
@[reducible, instance] def yq := JA.mk Tryz.isAgg138
@[reducible, instance] def yr := JA.mk Tryz.isAgg157
class JZ (t : TypeId) (u : outParam Value) : Prop where h : ∀ w, (Go.zeroValue t).run Tryz.prog w = .ok u w
theorem jZ {t : TypeId} {u : Value} [i : JZ t u] : ∀ w, (Go.zeroValue t).run Tryz.prog w = .ok u w := i.h
@[reducible, instance] def JZ3 := JZ.mk Tryz.zeroValue3
@[reducible, instance] def JZ4 := JZ.mk Tryz.zeroValue4
@[reducible, instance] def JZ5 := JZ.mk Tryz.zeroValue5
@[reducible, instance] def JZ9 := JZ.mk Tryz.zeroValue9
@[reducible, instance] def AA2 := JZ.mk Tryz.zeroValue22
@[reducible, instance] def AA3 := JZ.mk Tryz.zeroValue28
@[reducible, instance] def AA4 := JZ.mk Tryz.zeroValue34
@[reducible, instance] def AA5 := JZ.mk Tryz.zeroValue37
@[reducible, instance] def AA6 := JZ.mk Tryz.zeroValue42
@[reducible, instance] def AA7 := JZ.mk Tryz.zeroValue47
@[reducible, instance] def AA8 := JZ.mk Tryz.zeroValue53
@[reducible, instance] def AA9 := JZ.mk Tryz.zeroValue55
@[reducible, instance] def AAa := JZ.mk Tryz.zeroValue58
@[reducible, instance] def AAb := JZ.mk Tryz.zeroValue60
@[reducible, instance] def AAc := JZ.mk Tryz.zeroValue66
@[reducible, instance] def yt := JZ.mk Tryz.zeroValue112
@[reducible, instance] def yu := JZ.mk Tryz.zeroValue138
@[reducible, instance] def yw := JZ.mk Tryz.zeroValue200
structure Hk (q : Prop) : Prop where h : q
variable {p q : Prop}
theorem Z0(k:q)(h:Hk q→p:=by intro qk;refine Ba ?_;refine Av ?_;exact qk.h):p:=h ⟨k⟩
theorem Z1(k:q)(h:Hk q→p:=by intro qk;refine Ba ?_;refine Ar ?_;exact qk.h):p:=h ⟨k⟩
theorem Z2(k:q)(h:Hk q→p:=by intro qk;refine R.fin [2] ?_;refine AW.ret ?_;exact qk.h):p:=h ⟨k⟩
theorem Z4(k:q)(h:Hk q→p:=by intro qk;refine AW.skip ?_;refine K.thN ?_;exact qk.h):p:=h ⟨k⟩
theorem Z5(k:q)(h:Hk q→p:=by intro qk;refine K.blR ?_;refine K.thR ?_;exact qk.h):p:=h ⟨k⟩
theorem Z6(k:q)(h:Hk q→p:=by intro qk;refine K.blN ?_;refine K.thN ?_;exact qk.h):p:=h ⟨k⟩
theorem Z7(k:q)(h:Hk q→p:=by intro qk;refine Hh ?_;refine Av ?_;exact qk.h):p:=h ⟨k⟩
theorem Z8(k:q)(h:Hk q→p:=by intro qk;refine Ar ?_;refine Ar ?_;exact qk.h):p:=h ⟨k⟩
theorem Z9(k:q)(h:Hk q→p:=by intro qk;refine R.fieldAddrRo (off := 0) jU Tryz.sizeOf3 ?_;refine Dw ?_;exact qk.h):p:=h ⟨k⟩
theorem Z10(k:q)(h:Hk q→p:=by intro qk;refine W.seq ?_;refine Z0 ?_;exact qk.h):p:=h ⟨k⟩
theorem Z11(k:q)(h:Hk q→p:=by intro qk;refine R.seql ?_;refine Ar ?_;exact qk.h):p:=h ⟨k⟩
theorem Z12(k:q)(h:Hk q→p:=by intro qk;refine Z2 ?_;refine Z5 ?_;exact qk.h):p:=h ⟨k⟩
theorem Z13(k:q)(h:Hk q→p:=by intro qk;refine R.fin [4, 5] ?_;refine AW.ret ?_;exact qk.h):p:=h ⟨k⟩
theorem Z14(k:q)(h:Hk q→p:=by intro qk;refine Av ?_;refine G.move ?_;exact qk.h):p:=h ⟨k⟩
theorem Z15(k:q)(h:Hk q→p:=by intro qk;refine W.seq ?_;refine AW.block ?_;exact qk.h):p:=h ⟨k⟩
theorem Z16(k:q)(h:Hk q→p:=by intro qk;refine W.seq ?_;refine Ba ?_;exact qk.h):p:=h ⟨k⟩
theorem Z18(k:q)(h:Hk q→p:=by intro qk;refine AW.skip ?_;refine Z6 ?_;exact qk.h):p:=h ⟨k⟩
theorem Z19(k:q)(h:Hk q→p:=by intro qk;refine R.fieldAddrRo (off := 5) jU Tryz.sizeOf53 ?_;refine Dw ?_;exact qk.h):p:=h ⟨k⟩
theorem Z21(k:q)(h:Hk q→p:=by intro qk;refine R.add64 ?_;refine Ar ?_;exact qk.h):p:=h ⟨k⟩
theorem Z22(k:q)(h:Hk q→p:=by intro qk;refine R.eql ?_;refine Ar ?_;exact qk.h):p:=h ⟨k⟩
theorem Z23(k:q)(h:Hk q→p:=by intro qk;refine K.lpE ?_;refine K.thN ?_;exact qk.h):p:=h ⟨k⟩
theorem Z24(k:q)(h:Hk q→p:=by intro qk;refine R.fieldAddrRo (off := 1) jU Tryz.sizeOf9 ?_;refine Dw ?_;exact qk.h):p:=h ⟨k⟩
theorem Z25(k:q)(h:Hk q→p:=by intro qk;refine Hf ?_;refine Ar ?_;exact qk.h):p:=h ⟨k⟩
theorem Z26(k:q)(h:Hk q→p:=by intro qk;refine G.fieldAddrRo (off := 1) jU Tryz.sizeOf9 ?_;refine K3 ?_;exact qk.h):p:=h ⟨k⟩
theorem Z27(k:q)(h:Hk q→p:=by intro qk;refine R.fin [4] ?_;refine AW.ret ?_;exact qk.h):p:=h ⟨k⟩
theorem Z28(k:q)(h:Hk q→p:=by intro qk;refine Ba ?_;refine H0 ?_;refine e8 ?_;refine G9 ?_;exact qk.h):p:=h ⟨k⟩
theorem Z29(k:q)(h:Hk q→p:=by intro qk;refine AW.exit ?_;refine K.thE ?_;exact qk.h):p:=h ⟨k⟩
theorem Z30(k:q)(h:Hk q→p:=by intro qk;refine Ba ?_;refine R.boxRo ?_;exact qk.h):p:=h ⟨k⟩
theorem Z31(k:q)(h:Hk q→p:=by intro qk;refine Ba ?_;refine Z11 ?_;exact qk.h):p:=h ⟨k⟩
theorem Z32(k:q)(h:Hk q→p:=by intro qk;refine Z0 ?_;refine Av ?_;exact qk.h):p:=h ⟨k⟩
theorem Z33(k:q)(h:Hk q→p:=by intro qk;refine K.lpR ?_;refine K.thR ?_;exact qk.h):p:=h ⟨k⟩
theorem Z34(k:q)(h:Hk q→p:=by intro qk;refine R.extract ?_;refine R.extract ?_;exact qk.h):p:=h ⟨k⟩
theorem Z36(k:q)(h:Hk q→p:=by intro qk;refine Av ?_;refine R.len jU ?_;exact qk.h):p:=h ⟨k⟩
theorem Z37(k:q)(h:Hk q→p:=by intro qk;refine Ba ?_;refine Z22 ?_;exact qk.h):p:=h ⟨k⟩
theorem Z39(k:q)(h:Hk q→p:=by intro qk;refine k7 ?_;refine G9 ?_;exact qk.h):p:=h ⟨k⟩
theorem Z40(k:q)(h:Hk q→p:=by intro qk;refine Z0 ?_;refine Ar ?_;exact qk.h):p:=h ⟨k⟩
theorem Z41(k:q)(h:Hk q→p:=by intro qk;refine Z7 ?_;refine Z21 ?_;exact qk.h):p:=h ⟨k⟩
theorem Z42(k:q)(h:Hk q→p:=by intro qk;refine R.alloc jZ ?_;refine G9 ?_;exact qk.h):p:=h ⟨k⟩
theorem Z43(k:q)(h:Hk q→p:=by intro qk;refine e8 ?_;refine Av ?_;exact qk.h):p:=h ⟨k⟩
theorem Z44(k:q)(h:Hk q→p:=by intro qk;refine R.fin [6, 7] ?_;refine AW.ret ?_;exact qk.h):p:=h ⟨k⟩
theorem Z45(k:q)(h:Hk q→p:=by intro qk;refine G.fieldAddrRo (off := 5) jU Tryz.sizeOf53 ?_;refine K3 ?_;exact qk.h):p:=h ⟨k⟩
theorem Z46(k:q)(h:Hk q→p:=by intro qk;refine Z4 ?_;refine Z15 ?_;exact qk.h):p:=h ⟨k⟩
theorem Z47(k:q)(h:Hk q→p:=by intro qk;refine Z29 ?_;refine Z23 ?_;exact qk.h):p:=h ⟨k⟩
theorem Z48(k:q)(h:Hk q→p:=by intro qk;refine Z1 ?_;refine Ar ?_;exact qk.h):p:=h ⟨k⟩
theorem Z49(k:q)(h:Hk q→p:=by intro qk;refine Z28 ?_;refine Z12 ?_;exact qk.h):p:=h ⟨k⟩
theorem Z50(h:p:=by refine K.thR ?_;exact k9):p:=h
theorem Z52(k:q)(h:Hk q→p:=by intro qk;refine W.seq ?_;refine Z1 ?_;exact qk.h):p:=h ⟨k⟩
theorem Z53(k:q)(h:Hk q→p:=by intro qk;refine Hh ?_;refine R.add64 ?_;refine Av ?_;exact qk.h):p:=h ⟨k⟩
theorem Z54(k:q)(h:Hk q→p:=by intro qk;refine D.move ?_;refine D.move ?_;exact qk.h):p:=h ⟨k⟩
theorem Z55(k:q)(h:Hk q→p:=by intro qk;refine Z1 ?_;refine R.fin [0] ?_;exact qk.h):p:=h ⟨k⟩
theorem Z56(k:q)(h:Hk q→p:=by intro qk;refine Z30 ?_;refine Ar ?_;exact qk.h):p:=h ⟨k⟩
theorem Z57(k:q)(h:Hk q→p:=by intro qk;refine Ba ?_;refine R.lss ?_;exact qk.h):p:=h ⟨k⟩
theorem Z58(k:q)(h:Hk q→p:=by intro qk;refine Av ?_;refine Av ?_;exact qk.h):p:=h ⟨k⟩
theorem Z59(k:q)(h:Hk q→p:=by intro qk;refine R.indexAddr (x) (A5 e.kids[x]) jU jS (A9 hlt) ?_;refine Ek ?_;exact qk.h):p:=h ⟨k⟩
theorem Z60(k:q)(h:Hk q→p:=by intro qk;refine Av ?_;refine Z34 ?_;exact qk.h):p:=h ⟨k⟩
theorem Z61(k:q)(h:Hk q→p:=by intro qk;refine Z5 ?_;refine Z33 ?_;exact qk.h):p:=h ⟨k⟩
theorem Z62(k:q)(h:Hk q→p:=by intro qk;refine Z19 ?_;refine R.indexAddr (0) (A5 (e.kids.getD 0 A8)) jU jS (Fv (by omega)).1 ?_;exact qk.h):p:=h ⟨k⟩
theorem Z63(k:q)(h:Hk q→p:=by intro qk;refine R.indexAddr (0) (A3 (ks.getD 0 0)) jU jS (Gq (by omega)) ?_;refine Dw ?_;exact qk.h):p:=h ⟨k⟩
theorem Z64(k:q)(h:Hk q→p:=by intro qk;refine R.len jU ?_;refine Av ?_;exact qk.h):p:=h ⟨k⟩
theorem Z65(k:q)(h:Hk q→p:=by intro qk;refine Z8 ?_;refine Z13 ?_;exact qk.h):p:=h ⟨k⟩
theorem Z66(h:p:=by refine K.thJ ?_;exact StLe.of_eq (by unfold Gf; first | (simp only [ht38, ht41, ht49, ht57, ht57, ht66, ht74, hk3, hk6, Bool.true_or, Bool.false_or, Bool.or_true, Bool.or_false, if_true, if_false, Bool.false_eq_true, ↓reduceIte] <;> rfl) | (simp only [ht38, ht41, ht49, ht57, ht57, ht66, ht74, hk3, Bool.true_or, Bool.false_or, Bool.or_true, if_true, if_false, Bool.false_eq_true, ↓reduceIte] <;> rfl) | (simp only [ht38, ht41, ht49, ht57, ht57, ht66, ht74, if_true, if_false, Bool.false_eq_true, ↓reduceIte] <;> rfl))):p:=h
theorem Z67(k:q)(h:Hk q→p:=by intro qk;refine Z1 ?_;refine Z2 ?_;exact qk.h):p:=h ⟨k⟩
theorem Z68(k:q)(h:Hk q→p:=by intro qk;refine Ar ?_;refine Z44 ?_;exact qk.h):p:=h ⟨k⟩
theorem Z69(h:p:=by refine Z12 ?_;exact jy):p:=h
theorem Z70(h:p:=by refine Z12 ?_;exact K.fin (V.one V.tmp) ⟨by rw [hn]; first | (simp only [ht22, ht25, ht33, ht41, ht41, hk3, hk6, Bool.true_or, Bool.false_or, Bool.or_true, Bool.or_false, if_true, if_false, Bool.false_eq_true, ↓reduceIte] <;> rfl) | (simp only [ht22, ht25, ht33, ht41, ht41, hk3, Bool.true_or, Bool.false_or, Bool.or_true, if_true, if_false, Bool.false_eq_true, ↓reduceIte] <;> rfl) | (simp only [ht22, ht25, ht33, ht41, ht41, if_true, if_false, Bool.false_eq_true, ↓reduceIte] <;> rfl), rfl⟩):p:=h
theorem Z72(h:p:=by refine K.thJ ?_;exact StLe.of_eq (by unfold Gf; first | (simp only [ht38, ht41, ht49, ht57, ht57, hk3, hk6, Bool.true_or, Bool.false_or, Bool.or_true, Bool.or_false, if_true, if_false, Bool.false_eq_true, ↓reduceIte] <;> rfl) | (simp only [ht38, ht41, ht49, ht57, ht57, hk3, Bool.true_or, Bool.false_or, Bool.or_true, if_true, if_false, Bool.false_eq_true, ↓reduceIte] <;> rfl) | (simp only [ht38, ht41, ht49, ht57, ht57, if_true, if_false, Bool.false_eq_true, ↓reduceIte] <;> rfl))):p:=h
theorem Z74(k:q)(h:Hk q→p:=by intro qk;refine H0 ?_;refine Fq ?_;exact qk.h):p:=h ⟨k⟩
theorem Z75(k:q)(h:Hk q→p:=by intro qk;refine Z1 ?_;refine R.fin [0, 1] ?_;exact qk.h):p:=h ⟨k⟩
theorem Z76(k:q)(h:Hk q→p:=by intro qk;refine R.indexAddr (x) (B3 c[x]) jU jS (A9 hlt) ?_;refine Ek ?_;exact qk.h):p:=h ⟨k⟩
theorem Z77(k:q)(h:Hk q→p:=by intro qk;refine R.fin [6] ?_;refine AW.ret ?_;exact qk.h):p:=h ⟨k⟩
theorem Z78(k:q)(h:Hk q→p:=by intro qk;refine R.fieldAddrRo (off := 1) jU Tryz.sizeOf34 ?_;refine Dw ?_;exact qk.h):p:=h ⟨k⟩
theorem Z79(k:q)(h:Hk q→p:=by intro qk;refine R.fieldAddrRo (off := 0) jU Tryz.sizeOf9 ?_;refine Dw ?_;exact qk.h):p:=h ⟨k⟩
theorem Z80(h:p:=by refine Z1 ?_;refine Z12 ?_;exact K.fin (V.one V.tmp) ⟨by simp_all [Lr], rfl⟩):p:=h
theorem Z81(h:p:=by refine K.thJ ?_;exact StLe.of_eq (by simp [*])):p:=h
theorem Z82(k:q)(h:Hk q→p:=by intro qk;refine G.eql ?_;refine Z25 ?_;exact qk.h):p:=h ⟨k⟩
theorem Z83(k:q)(h:Hk q→p:=by intro qk;refine Z10 ?_;refine Z36 ?_;refine R.lss ?_;exact qk.h):p:=h ⟨k⟩
theorem Z84(k:q)(h:Hk q→p:=by intro qk;refine Hh ?_;refine R.moveT ?_;exact qk.h):p:=h ⟨k⟩
theorem Z85(k:q)(h:Hk q→p:=by intro qk;refine Z18 ?_;refine Z41 ?_;exact qk.h):p:=h ⟨k⟩
theorem Z86(k:q)(h:Hk q→p:=by intro qk;refine Ba ?_;refine Ek ?_;exact qk.h):p:=h ⟨k⟩
theorem Z87(k:q)(h:Hk q→p:=by intro qk;refine R.fieldAddrRo (off := 1) jU Tryz.sizeOf3 ?_;refine Dw ?_;exact qk.h):p:=h ⟨k⟩
theorem Z88(k:q)(h:Hk q→p:=by intro qk;refine Ba ?_;refine O0 ?_;exact qk.h):p:=h ⟨k⟩
theorem Z89(k:q)(h:Hk q→p:=by intro qk;refine Z56 ?_;refine R.fin [1] ?_;exact qk.h):p:=h ⟨k⟩
theorem Z90(k:q)(h:Hk q→p:=by intro qk;refine Z6 ?_;refine Z41 ?_;exact qk.h):p:=h ⟨k⟩
theorem Z91(k:q)(h:Hk q→p:=by intro qk;refine R.nilPtr ?_;refine R.fieldAddrPtr (fo := 0) jU Tryz.sizeOf66 ?_;exact qk.h):p:=h ⟨k⟩
theorem Z92(k:q)(h:Hk q→p:=by intro qk;refine Z1 ?_;refine Z12 ?_;exact qk.h):p:=h ⟨k⟩
theorem Z93(k:q)(h:Hk q→p:=by intro qk;refine Z13 ?_;refine K.thR ?_;exact qk.h):p:=h ⟨k⟩
theorem Z94(h:p:=by refine Z2 ?_;exact S3):p:=h
theorem Z95(k:q)(h:Hk q→p:=by intro qk;refine G.gtr ?_;refine R.pickOr ?_;exact qk.h):p:=h ⟨k⟩
theorem Z96(k:q)(h:Hk q→p:=by intro qk;refine Z4 ?_;refine Z0 ?_;exact qk.h):p:=h ⟨k⟩
theorem Z97(k:q)(h:Hk q→p:=by intro qk;refine Z14 ?_;refine G.move ?_;exact qk.h):p:=h ⟨k⟩
theorem Z98(h:p:=by refine K.thR ?_;exact o7):p:=h
theorem Z99(k:q)(h:Hk q→p:=by intro qk;refine D.fieldAddrRo (off := 5) jU Tryz.sizeOf53 ?_;refine H1 ?_;exact qk.h):p:=h ⟨k⟩
theorem Zl(k:q)(h:Hk q→p:=by intro qk;refine R.fieldAddrPtr (fo := 0) jU Tryz.sizeOf9 ?_;refine Hi ?_;exact qk.h):p:=h ⟨k⟩
theorem Vz(k:q)(h:Hk q→p:=by intro qk;refine D.fieldAddrRo (off := 0) jU Tryz.sizeOf9 ?_;refine H1 ?_;exact qk.h):p:=h ⟨k⟩
theorem W0(k:q)(h:Hk q→p:=by intro qk;refine R.fieldAddrRo (off := 2) jU Tryz.sizeOf22 ?_;refine Dw ?_;exact qk.h):p:=h ⟨k⟩
theorem pw(k:q)(h:Hk q→p:=by intro qk;refine R.fieldAddrPtr (fo := 0) jU Tryz.sizeOf3 ?_;refine Hi ?_;exact qk.h):p:=h ⟨k⟩
theorem Fc(k:q)(h:Hk q→p:=by intro qk;refine Z60 ?_;refine Z8 ?_;exact qk.h):p:=h ⟨k⟩
theorem px(h:p:=by refine K.thR ?_;exact e7):p:=h
theorem Gs(k:q)(h:Hk q→p:=by intro qk;refine Z10 ?_;refine R.neq ?_;exact qk.h):p:=h ⟨k⟩
theorem py(k:q)(h:Hk q→p:=by intro qk;refine Ba ?_;refine R.freeze (k := 2) (n := 1) 5 1 [B3 ⟨y.name, (c.getD (Af s c).toNat ⟨[], 0⟩).kind⟩] hcc rfl rfl (Uv [⟨y.name, (c.getD (Af s c).toNat ⟨[], 0⟩).kind⟩]) (Uw [⟨y.name, (c.getD (Af s c).toNat ⟨[], 0⟩).kind⟩]) (Ot [⟨y.name, (c.getD (Af s c).toNat ⟨[], 0⟩).kind⟩]) ?_;exact qk.h):p:=h ⟨k⟩
theorem cv(k:q)(h:Hk q→p:=by intro qk;refine R.fieldAddrRo (off := 2) jU Tryz.sizeOf58 ?_;refine Ek ?_;exact qk.h):p:=h ⟨k⟩
theorem Rz(k:q)(h:Hk q→p:=by intro qk;refine Hf ?_;refine Av ?_;exact qk.h):p:=h ⟨k⟩
theorem Jy(k:q)(h:Hk q→p:=by intro qk;refine Ba ?_;refine Z24 ?_;exact qk.h):p:=h ⟨k⟩
theorem mx(h:p:=by refine K.thR ?_;exact ea):p:=h
theorem S0(k:q)(h:Hk q→p:=by intro qk;refine G.neq ?_;refine R.pickOr ?_;exact qk.h):p:=h ⟨k⟩
theorem Zm(h:p:=by refine Z61 ?_;exact ea):p:=h
theorem Hz(k:q)(h:Hk q→p:=by intro qk;refine Z4 ?_;refine Ba ?_;exact qk.h):p:=h ⟨k⟩
theorem cw(k:q)(h:Hk q→p:=by intro qk;refine D.fieldAddrRo (off := 1) jU Tryz.sizeOf34 ?_;refine H1 ?_;exact qk.h):p:=h ⟨k⟩
theorem Kv(k:q)(h:Hk q→p:=by intro qk;refine Z16 ?_;refine Z9 ?_;exact qk.h):p:=h ⟨k⟩
theorem cx(h:p:=by refine Z65 ?_;exact k9):p:=h
theorem J9(k:q)(h:Hk q→p:=by intro qk;refine Z15 ?_;refine Ba ?_;exact qk.h):p:=h ⟨k⟩
theorem Mr(k:q)(h:Hk q→p:=by intro qk;refine Z31 ?_;refine R.fin [2, 18] ?_;exact qk.h):p:=h ⟨k⟩
theorem cy(h:p:=by refine Z92 ?_;exact K.fin (V.one V.tmp) ⟨by simp_all [Kd], rfl⟩):p:=h
theorem Ja(k:q)(h:Hk q→p:=by intro qk;refine Z18 ?_;refine Z53 ?_;exact qk.h):p:=h ⟨k⟩
theorem Id(k:q)(h:Hk q→p:=by intro qk;refine Z48 ?_;refine Z93 ?_;exact qk.h):p:=h ⟨k⟩
theorem cz(k:q)(h:Hk q→p:=by intro qk;refine R.indexAddr (x) (A5 l[x]) jU jS (A9 hlt) ?_;refine Ek ?_;exact qk.h):p:=h ⟨k⟩
theorem my(h:p:=by refine K.thJ ?_;exact StLe.of_eq (by rw [hs1] <;> rfl)):p:=h
theorem Kw(k:q)(h:Hk q→p:=by intro qk;refine Hh ?_;refine Z11 ?_;exact qk.h):p:=h ⟨k⟩
theorem ir(k:q)(h:Hk q→p:=by intro qk;refine G.indexAddr (1) (A3 (ks.getD 1 0)) jU jS (fun _ => Gq (by omega)) ?_;refine K3 ?_;exact qk.h):p:=h ⟨k⟩
theorem Jz(k:q)(h:Hk q→p:=by intro qk;refine Z1 ?_;refine Z27 ?_;exact qk.h):p:=h ⟨k⟩
theorem iu(k:q)(h:Hk q→p:=by intro qk;refine D.fieldAddrPtr (fo := 0) jU Tryz.sizeOf66 ?_;refine D.fieldAddrRo (off := 1) jU Tryz.sizeOf9 ?_;exact qk.h):p:=h ⟨k⟩
theorem W1(k:q)(h:Hk q→p:=by intro qk;refine R.len jU ?_;refine R.lss ?_;exact qk.h):p:=h ⟨k⟩
theorem Ms(k:q)(h:Hk q→p:=by intro qk;refine Z31 ?_;refine R.fin [13] ?_;exact qk.h):p:=h ⟨k⟩
theorem mz(k:q)(h:Hk q→p:=by intro qk;refine R.nilTmp 4 2 false ?_;refine Ar ?_;exact qk.h):p:=h ⟨k⟩
theorem iv(k:q)(h:Hk q→p:=by intro qk;refine R.alloc jZ ?_;refine Ar ?_;exact qk.h):p:=h ⟨k⟩
theorem Tk(k:q)(h:Hk q→p:=by intro qk;refine Z14 ?_;refine Z82 ?_;exact qk.h):p:=h ⟨k⟩
theorem Pu(k:q)(h:Hk q→p:=by intro qk;refine Z31 ?_;refine R.fin [2, 3, 9] ?_;exact qk.h):p:=h ⟨k⟩
theorem d8(k:q)(h:Hk q→p:=by intro qk;refine R.fieldAddrRo (off := 3) jU Tryz.sizeOf53 ?_;refine Dw ?_;exact qk.h):p:=h ⟨k⟩
theorem d9(k:q)(h:Hk q→p:=by intro qk;refine D.fieldAddrRo (off := 1) jU Tryz.sizeOf3 ?_;refine H1 ?_;exact qk.h):p:=h ⟨k⟩
theorem da(k:q)(h:Hk q→p:=by intro qk;refine R.fieldAddrRo (off := 2) jU Tryz.sizeOf9 ?_;refine Dw ?_;exact qk.h):p:=h ⟨k⟩
theorem Jb(k:q)(h:Hk q→p:=by intro qk;refine Z18 ?_;refine Z28 ?_;refine Z2 ?_;exact qk.h):p:=h ⟨k⟩
theorem Jc(k:q)(h:Hk q→p:=by intro qk;refine Z46 ?_;refine Z32 ?_;exact qk.h):p:=h ⟨k⟩
theorem Ld(k:q)(h:Hk q→p:=by intro qk;refine AW.block ?_;refine Z37 ?_;exact qk.h):p:=h ⟨k⟩
theorem No(k:q)(h:Hk q→p:=by intro qk;refine Z48 ?_;refine R.fin [0, 1] ?_;exact qk.h):p:=h ⟨k⟩
theorem K1(k:q)(h:Hk q→p:=by intro qk;refine Z0 ?_;refine R.eql ?_;exact qk.h):p:=h ⟨k⟩
theorem Pv(h:p:=by refine Ar ?_;refine Z12 ?_;exact tf):p:=h
theorem Pw(k:q)(h:Hk q→p:=by intro qk;refine Z92 ?_;refine Z33 ?_;exact qk.h):p:=h ⟨k⟩
theorem Mt(k:q)(h:Hk q→p:=by intro qk;refine R.eql ?_;refine Av ?_;exact qk.h):p:=h ⟨k⟩
theorem iw(k:q)(h:Hk q→p:=by intro qk;refine Z43 ?_;refine e8 ?_;exact qk.h):p:=h ⟨k⟩
theorem Lf(k:q)(h:Hk q→p:=by intro qk;refine Z26 ?_;refine G.seql ?_;exact qk.h):p:=h ⟨k⟩
theorem Np(k:q)(h:Hk q→p:=by intro qk;refine G.not ?_;refine R.pickOr ?_;exact qk.h):p:=h ⟨k⟩
theorem pz(h:p:=by refine Z65 ?_;exact K.fin (V.two V.tmp V.tmp) ⟨by rw [hm, hm2], rfl⟩ (hlow := by simp only [My, List.mem_cons, List.mem_nil_iff, or_false]; rintro y (rfl | rfl); exact Cf; simp)):p:=h
theorem K2(k:q)(h:Hk q→p:=by intro qk;refine Z6 ?_;refine Z53 ?_;exact qk.h):p:=h ⟨k⟩
theorem n3(k:q)(h:Hk q→p:=by intro qk;refine R.fieldAddrPtr (fo := 1) jU Tryz.sizeOf22 ?_;refine R.loadOwn (n := O.length + 1) (ho := batc.trans rfl) jA ?_;exact qk.h):p:=h ⟨k⟩
theorem Mu(h:p:=by refine Z18 ?_;refine Z1 ?_;refine Z2 ?_;exact K.fin (V.one V.tmp) ⟨by simp_all [Lr], rfl⟩):p:=h
theorem q8(h:p:=by refine Z61 ?_;exact o7):p:=h
theorem db(h:p:=by refine AW.skip ?_;exact Z81):p:=h
theorem Px(k:q)(h:Hk q→p:=by intro qk;refine R.len jU ?_;refine R.gtr ?_;exact qk.h):p:=h ⟨k⟩
theorem q9(h:p:=by refine Z5 ?_;exact o7):p:=h
theorem n4(h:p:=by refine K.thR ?_;exact td):p:=h
theorem n5(k:q)(h:Hk q→p:=by intro qk;refine R.fieldAddrPtr (fo := 1) jU Tryz.sizeOf136 ?_;refine R.indexArrPtr (0) jU Tryz.sizeOf135 (by decide) ?_;exact qk.h):p:=h ⟨k⟩
theorem n6(k:q)(h:Hk q→p:=by intro qk;refine R.fieldAddrPtr (fo := 1) jU Tryz.sizeOf136 ?_;refine R.indexArrPtr (1) jU Tryz.sizeOf135 (by decide) ?_;exact qk.h):p:=h ⟨k⟩
theorem Tl(k:q)(h:Hk q→p:=by intro qk;refine Z40 ?_;refine Z27 ?_;exact qk.h):p:=h ⟨k⟩
theorem S1(k:q)(h:Hk q→p:=by intro qk;refine Z10 ?_;refine Z64 ?_;exact qk.h):p:=h ⟨k⟩
theorem ix(k:q)(h:Hk q→p:=by intro qk;refine G.fieldAddrRo (off := 2) jU Tryz.sizeOf58 ?_;refine G.loadRoN jA jS ?_;exact qk.h):p:=h ⟨k⟩
theorem Zn(h:p:=by refine Ar ?_;exact Z94):p:=h
theorem dc(k:q)(h:Hk q→p:=by intro qk;refine O0 ?_;refine H0 ?_;exact qk.h):p:=h ⟨k⟩
theorem qa(k:q)(h:Hk q→p:=by intro qk;refine R.freeze (k := 2) (n := 1) 5 1 [B3 ⟨y.name, y.kind⟩] hcc rfl rfl (Uv [⟨y.name, y.kind⟩]) (Uw [⟨y.name, y.kind⟩]) (Ot [⟨y.name, y.kind⟩]) ?_;refine Av ?_;exact qk.h):p:=h ⟨k⟩
theorem n7(k:q)(h:Hk q→p:=by intro qk;refine Z45 ?_;refine G.indexAddr (0) (A5 (e.kids.getD 0 A8)) jU jS (fun _ => (Fv (by omega)).1) ?_;exact qk.h):p:=h ⟨k⟩
theorem Zo(h:p:=by refine Z27 ?_;exact S3):p:=h
theorem qb(k:q)(h:Hk q→p:=by intro qk;refine Z10 ?_;refine R.not ?_;refine R.fin [11, 235] ?_;exact qk.h):p:=h ⟨k⟩
theorem Nq(k:q)(h:Hk q→p:=by intro qk;refine Z10 ?_;refine Av ?_;exact qk.h):p:=h ⟨k⟩
theorem iy(k:q)(h:Hk q→p:=by intro qk;refine G.fieldAddrPtr (fo := 2) jU Tryz.sizeOf9 ?_;refine G.loadOwn jA ?_;exact qk.h):p:=h ⟨k⟩
theorem qc(h:p:=by refine R.fin [0, 1, 2, 10, 11] ?_;exact K.lpN (i + 1) hli (by omega) (StCut.of_eq (by simp only [hst, List.map_append, List.map_cons, List.map_nil] <;> rfl))):p:=h
theorem iz(k:q)(h:Hk q→p:=by intro qk;refine G.fieldAddrPtr (fo := 1) jU Tryz.sizeOf2 ?_;refine G.loadOwn jA ?_;exact qk.h):p:=h ⟨k⟩
theorem j1(k:q)(h:Hk q→p:=by intro qk;refine D.fieldAddrRo (off := 2) jU Tryz.sizeOf22 ?_;refine H1 ?_;exact qk.h):p:=h ⟨k⟩
theorem j2(k:q)(h:Hk q→p:=by intro qk;refine G.fieldAddrRo (off := 0) jU Tryz.sizeOf3 ?_;refine K3 ?_;exact qk.h):p:=h ⟨k⟩
theorem Kx(k:q)(h:Hk q→p:=by intro qk;refine Z4 ?_;refine Z52 ?_;exact qk.h):p:=h ⟨k⟩
theorem j3(k:q)(h:Hk q→p:=by intro qk;refine R.fieldAddrRo (off := 1) jU Tryz.sizeOf2 ?_;refine Dw ?_;exact qk.h):p:=h ⟨k⟩
theorem j4(k:q)(h:Hk q→p:=by intro qk;refine G.fieldAddrRo (off := 4) jU Tryz.sizeOf53 ?_;refine K3 ?_;exact qk.h):p:=h ⟨k⟩
theorem Nr(k:q)(h:Hk q→p:=by intro qk;refine Ba ?_;refine Z9 ?_;exact qk.h):p:=h ⟨k⟩
theorem qd(h:p:=by refine R.fin [0, 1, 5, 6] ?_;exact K.lpN (x + 1) hlt (by omega) (StCut.of_eq (by simp only [hls, List.map_append, List.map_cons, List.map_nil] <;> rfl))):p:=h
theorem j5(k:q)(h:Hk q→p:=by intro qk;refine R.fin [11, 12] ?_;refine Z6 ?_;refine qb ?_;exact qk.h):p:=h ⟨k⟩
theorem j6(k:q)(h:Hk q→p:=by intro qk;refine R.indexAddr (x) (B3 c[x]) jU jS (A9 hlt) ?_;refine Z79 ?_;exact qk.h):p:=h ⟨k⟩
theorem Mv(k:q)(h:Hk q→p:=by intro qk;refine Z96 ?_;refine Z65 ?_;exact qk.h):p:=h ⟨k⟩
theorem n8(h:p:=by refine Z61 ?_;exact k9):p:=h
theorem qe(k:q)(h:Hk q→p:=by intro qk;refine R.fin [1, 3, 4, 5] ?_;refine K.blN ?_;exact qk.h):p:=h ⟨k⟩
theorem j7(k:q)(h:Hk q→p:=by intro qk;refine Z45 ?_;refine G.len jU ?_;exact qk.h):p:=h ⟨k⟩
theorem qf(h:p:=by refine R.fin [1, 10, 11] ?_;exact K.lpN (x + 1) hlt (by omega) (StCut.of_eq (by simp only [hst, List.append_assoc, List.append_nil] <;> rfl))):p:=h
theorem W3(k:q)(h:Hk q→p:=by intro qk;refine Ek ?_;refine Z42 ?_;exact qk.h):p:=h ⟨k⟩
theorem Tm(k:q)(h:Hk q→p:=by intro qk;refine Z56 ?_;refine Fd ?_;exact qk.h):p:=h ⟨k⟩
theorem Ns(k:q)(h:Hk q→p:=by intro qk;refine Z1 ?_;refine R.nilSl 6 2 ?_;refine Z68 ?_;exact qk.h):p:=h ⟨k⟩
theorem Zp(k:q)(h:Hk q→p:=by intro qk;refine Z57 ?_;refine R.fin [0, 1, 7, 8, 9] ?_;exact qk.h):p:=h ⟨k⟩
theorem Mw(k:q)(h:Hk q→p:=by intro qk;refine Z15 ?_;refine Z0 ?_;exact qk.h):p:=h ⟨k⟩
theorem j8(k:q)(h:Hk q→p:=by intro qk;refine Ba ?_;refine Z39 ?_;exact qk.h):p:=h ⟨k⟩
theorem Nt(k:q)(h:Hk q→p:=by intro qk;refine Z1 ?_;refine Z77 ?_;exact qk.h):p:=h ⟨k⟩
theorem W4(k:q)(h:Hk q→p:=by intro qk;refine iv ?_;refine G9 ?_;exact qk.h):p:=h ⟨k⟩
theorem qg(h:p:=by refine Z61 ?_;exact K.fin (V.one V.tmp) ⟨by rw [f5 hlt (by simpa using (Eq.symm (by simpa using ht16) : l[x] = v)) hx.2], rfl⟩):p:=h
theorem n9(h:p:=by refine Pw ?_;exact e7):p:=h
theorem W5(k:q)(h:Hk q→p:=by intro qk;refine Kv ?_;refine R.eql ?_;exact qk.h):p:=h ⟨k⟩
theorem W6(k:q)(h:Hk q→p:=by intro qk;refine Z16 ?_;refine Ek ?_;exact qk.h):p:=h ⟨k⟩
theorem Py(k:q)(h:Hk q→p:=by intro qk;refine R.not ?_;refine Z14 ?_;exact qk.h):p:=h ⟨k⟩
theorem dd(k:q)(h:Hk q→p:=by intro qk;refine Pz ?_;refine D.tail ?_;exact qk.h):p:=h ⟨k⟩
theorem S2(k:q)(h:Hk q→p:=by intro qk;refine Ba ?_;refine Z74 ?_;exact qk.h):p:=h ⟨k⟩
theorem Nu(k:q)(h:Hk q→p:=by intro qk;refine Z16 ?_;refine Z11 ?_;exact qk.h):p:=h ⟨k⟩
theorem Mx(k:q)(h:Hk q→p:=by intro qk;refine Z55 ?_;refine Z0 ?_;exact qk.h):p:=h ⟨k⟩
theorem W7(k:q)(h:Hk q→p:=by intro qk;refine R.pickOr ?_;refine Ar ?_;exact qk.h):p:=h ⟨k⟩
theorem qh(h:p:=by refine Z2 ?_;exact K.fin (V.one V.tmp) ⟨by rw [show Bn k = kindNames.getD k.toNat [] from if_neg (by omega)], rfl⟩):p:=h
theorem Nv(k:q)(h:Hk q→p:=by intro qk;refine Z55 ?_;refine Z10 ?_;exact qk.h):p:=h ⟨k⟩
theorem na(h:p:=by refine Z82 ?_;refine Z12 ?_;exact tg):p:=h
theorem nb(h:p:=by refine Pw ?_;exact ea):p:=h
theorem de(h:p:=by refine W.keep [3, 8] ?_;exact db):p:=h
theorem nc(h:p:=by refine Z13 ?_;exact Z50):p:=h
theorem nd(k:q)(h:Hk q→p:=by intro qk;refine Z97 ?_;refine G.indexAddr (y) (A5 x.1[y]) jU jS (fun _ => A9 hlt) ?_;exact qk.h):p:=h ⟨k⟩
theorem Zq(h:p:=by refine R.fin [] ?_;refine K.blN ?_;exact K.finN .nores ⟨rfl, by rw [pe] <;> simp [Ul]⟩):p:=h
theorem Tn(k:q)(h:Hk q→p:=by intro qk;refine Z46 ?_;refine Ba ?_;exact qk.h):p:=h ⟨k⟩
theorem j9(k:q)(h:Hk q→p:=by intro qk;refine Ek ?_;refine H0 ?_;exact qk.h):p:=h ⟨k⟩
theorem Zr(k:q)(h:Hk q→p:=by intro qk;refine Z62 ?_;refine Ek ?_;exact qk.h):p:=h ⟨k⟩
theorem W8(k:q)(h:Hk q→p:=by intro qk;refine G.move ?_;refine G.len jU ?_;exact qk.h):p:=h ⟨k⟩
theorem W9(k:q)(h:Hk q→p:=by intro qk;refine H.move ?_;refine H.move ?_;exact qk.h):p:=h ⟨k⟩
theorem To(k:q)(h:Hk q→p:=by intro qk;refine Z18 ?_;refine Z67 ?_;exact qk.h):p:=h ⟨k⟩
theorem qi(h:p:=by refine Jz ?_;exact K.fin (V.one V.tmp) ⟨by rw [Wj (H2 (by simp at ht9; omega) hx.2)], rfl⟩):p:=h
theorem Zs(k:q)(h:Hk q→p:=by intro qk;refine Ba ?_;refine Dw ?_;exact qk.h):p:=h ⟨k⟩
theorem qj(h:p:=by refine Jz ?_;exact K.fin (V.one V.tmp) ⟨by rw [f6 (H2 (by simp at ht9; omega) hx.2)], rfl⟩):p:=h
theorem nf(k:q)(h:Hk q→p:=by intro qk;refine Z32 ?_;refine Av ?_;exact qk.h):p:=h ⟨k⟩
theorem ql(h:p:=by refine Ny ?_;exact K.lpN (x + 1) hlt (by omega) (by simp only [em]; exact StCut.of_eq rfl)):p:=h
theorem Wa(k:q)(h:Hk q→p:=by intro qk;refine G.move ?_;refine G.move ?_;exact qk.h):p:=h ⟨k⟩
theorem Tp(k:q)(h:Hk q→p:=by intro qk;refine Z67 ?_;refine K.thR ?_;exact qk.h):p:=h ⟨k⟩
theorem qm(h:p:=by refine Nw ?_;exact K.lpN (x + 1) hxl (by omega) (StCut.of_eq (by rw [hsu, Ue]; simp))):p:=h
theorem ng(h:p:=by refine K.lpE ?_;exact K.finN .nores (hp := by rw [hxe])):p:=h
theorem dg(h:p:=by refine Rz ?_;refine j7 ?_;exact na):p:=h
theorem nh(h:p:=by refine D.buildSlice jU jS jZ ?_;exact D.end rfl rfl):p:=h
theorem Tq(k:q)(h:Hk q→p:=by intro qk;refine K.thN ?_;refine Z0 ?_;exact qk.h):p:=h ⟨k⟩
theorem Zt(k:q)(h:Hk q→p:=by intro qk;refine Z88 ?_;refine G9 ?_;exact qk.h):p:=h ⟨k⟩
theorem ni(k:q)(h:Hk q→p:=by intro qk;refine R.fieldAddrPtr (fo := 1) jU Tryz.sizeOf2 ?_;refine Hi ?_;exact qk.h):p:=h ⟨k⟩
theorem nj(k:q)(h:Hk q→p:=by intro qk;refine R.fieldAddrPtr (fo := 2) jU Tryz.sizeOf9 ?_;refine Hi ?_;exact qk.h):p:=h ⟨k⟩
theorem qn(k:q)(h:Hk q→p:=by intro qk;refine W.draw0 [0, 0, 0, 6, 14, 30, 63, 127, 0, 0, 768, 1792, 3840, 7936, 16383, 32767] 14 Ah (by kernel_rfl) ?_;refine Z54 ?_;exact qk.h):p:=h ⟨k⟩
theorem qo(h:p:=by refine Z2 ?_;exact K.fin (V.one (V.cellN jA jS)) ⟨by simp only [gk, hm] <;> simp_all, rfl⟩):p:=h
theorem nk(k:q)(h:Hk q→p:=by intro qk;refine G.fieldAddrRo (off := 1) jU Tryz.sizeOf3 ?_;refine K3 ?_;exact qk.h):p:=h ⟨k⟩
theorem nl(k:q)(h:Hk q→p:=by intro qk;refine H.fieldAddrRo (off := 0) jU Tryz.sizeOf9 ?_;refine Hg ?_;exact qk.h):p:=h ⟨k⟩
theorem np(k:q)(h:Hk q→p:=by intro qk;refine D.fieldAddrRo (off := 0) jU Tryz.sizeOf3 ?_;refine H1 ?_;exact qk.h):p:=h ⟨k⟩
theorem qq(h:p:=by refine K.thJ ?_;exact StLe.of_eq (by rw [hcw] <;> (first | rfl | simp [List.append_assoc]))):p:=h
theorem qr(h:p:=by refine G.call Tryz.call120 (fun hB => w5 e.text Iz hs (by decide) _) ?_;exact dg):p:=h
theorem Zu(k:q)(h:Hk q→p:=by intro qk;refine R.boxRo ?_;refine Ar ?_;exact qk.h):p:=h ⟨k⟩
theorem Zv(h:p:=by refine Z40 ?_;refine mz ?_;exact nc):p:=h
theorem Wb(k:q)(h:Hk q→p:=by intro qk;refine G.move ?_;refine S0 ?_;exact qk.h):p:=h ⟨k⟩
theorem qt(h:p:=by refine To ?_;exact jy):p:=h
theorem qu(h:p:=by refine Z61 ?_;exact K.fin (V.two V.tmp V.tmp) ⟨by rw [Ww hr hkn]; try rfl, rfl⟩):p:=h
theorem qv(k:q)(h:Hk q→p:=by intro qk;refine R.indexAddrSl (n := 1) 0 jU Tryz.sizeOf47 (by decide) ?_;refine R.fieldAddrPtr (fo := 1) jU Tryz.sizeOf3 (hc := rfl) ?_;exact qk.h):p:=h ⟨k⟩
theorem Zw(k:q)(h:Hk q→p:=by intro qk;refine R.pickOr ?_;refine Av ?_;exact qk.h):p:=h ⟨k⟩
theorem dh(k:q)(h:Hk q→p:=by intro qk;refine Hi ?_;refine Av ?_;exact qk.h):p:=h ⟨k⟩
theorem di(k:q)(h:Hk q→p:=by intro qk;refine Hh ?_;refine Ar ?_;exact qk.h):p:=h ⟨k⟩
theorem nq(k:q)(h:Hk q→p:=by intro qk;refine Z63 ?_;refine R.call Tryz.call125 (Oq (ks.getD 0 0) 1 _) ?_;exact qk.h):p:=h ⟨k⟩
theorem nr(k:q)(h:Hk q→p:=by intro qk;refine Z63 ?_;refine R.call Tryz.call125 (Oq (ks.getD 0 0) 2 _) ?_;exact qk.h):p:=h ⟨k⟩
theorem qw(h:p:=by refine Z77 ?_;exact K.fin (V.one V.tmp) (hlow := by simp [or_imp, forall_and, B0])):p:=h
theorem ja(k:q)(h:Hk q→p:=by intro qk;refine Dw ?_;refine Ar ?_;exact qk.h):p:=h ⟨k⟩
theorem dj(k:q)(h:Hk q→p:=by intro qk;refine Ba ?_;refine Hi ?_;exact qk.h):p:=h ⟨k⟩
theorem qx(h:p:=by refine K.thR ?_;exact K.fin (V.two V.tmp V.tmp) ⟨by rw [f8 hr]; try rfl, rfl⟩):p:=h
theorem Tr(k:q)(h:Hk q→p:=by intro qk;refine Z8 ?_;refine j5 ?_;exact qk.h):p:=h ⟨k⟩
theorem jb(k:q)(h:Hk q→p:=by intro qk;refine Av ?_;refine H0 ?_;exact qk.h):p:=h ⟨k⟩
theorem qy(k:q)(h:Hk q→p:=by intro qk;refine Z58 ?_;refine R.indexAddr ((Af s c).toNat) (B3 (c.getD (Af s c).toNat ⟨[], 0⟩)) jU jS (Sm hf) ?_;exact qk.h):p:=h ⟨k⟩
theorem qz(k:q)(h:Hk q→p:=by intro qk;refine o6 ?_;refine R.fieldAddrRo (off := 1) jU Tryz.sizeOf22 ?_;exact qk.h):p:=h ⟨k⟩
theorem nt(k:q)(h:Hk q→p:=by intro qk;refine R.geq ?_;refine Ar ?_;exact qk.h):p:=h ⟨k⟩
theorem dk(k:q)(h:Hk q→p:=by intro qk;refine R.makeFunc ?_;refine Ar ?_;exact qk.h):p:=h ⟨k⟩
theorem Wc(k:q)(h:Hk q→p:=by intro qk;refine Z36 ?_;refine Av ?_;exact qk.h):p:=h ⟨k⟩
theorem nu(h:p:=by refine Z65 ?_;exact K.fin (V.two V.tmp V.tmp)):p:=h
theorem Zx(k:q)(h:Hk q→p:=by intro qk;refine D.assign ?_;refine D.tail ?_;refine Ar ?_;exact qk.h):p:=h ⟨k⟩
theorem jc(k:q)(h:Hk q→p:=by intro qk;refine H1 ?_;refine D.move ?_;exact qk.h):p:=h ⟨k⟩
theorem dl(k:q)(h:Hk q→p:=by intro qk;refine AW.ret ?_;refine K.thR ?_;exact qk.h):p:=h ⟨k⟩
theorem Zy(k:q)(h:Hk q→p:=by intro qk;refine Ar ?_;refine Z12 ?_;exact qk.h):p:=h ⟨k⟩
theorem Zz(k:q)(h:Hk q→p:=by intro qk;refine Hf ?_;refine Z14 ?_;exact qk.h):p:=h ⟨k⟩
theorem jd(k:q)(h:Hk q→p:=by intro qk;refine R.buildSl jU jS jZ ?_;refine Ar ?_;exact qk.h):p:=h ⟨k⟩
theorem r6(k:q)(h:Hk q→p:=by intro qk;refine H.indexAddr (x) (V2 a[x]) jU jS (fun _ => A9 hlt) ?_;refine H.fieldAddrRo (off := 1) jU Tryz.sizeOf22 ?_;exact qk.h):p:=h ⟨k⟩
theorem r7(h:p:=by refine AW.skip ?_;exact my):p:=h
theorem r8(k:q)(h:Hk q→p:=by intro qk;refine R.fieldAddrPtr (fo := 0) jU Tryz.sizeOf3 ?_;refine R.loadOwn (n := O.length + 1) (ho := batc.trans rfl) jA ?_;exact qk.h):p:=h ⟨k⟩
theorem r9(h:p:=by refine To ?_;exact tg):p:=h
theorem dm(k:q)(h:Hk q→p:=by intro qk;refine Z0 ?_;refine Ek ?_;exact qk.h):p:=h ⟨k⟩
theorem dn(h:p:=by refine Tk ?_;exact Z69):p:=h
theorem ra(h:p:=by refine dl ?_;exact t8):p:=h
theorem dp(k:q)(h:Hk q→p:=by intro qk;refine Ba ?_;refine R.alloc jZ ?_;exact qk.h):p:=h ⟨k⟩
theorem rb(h:p:=by refine Tl ?_;exact K.fin (V.one V.tmp) ⟨by rw [l9 h3] <;> rfl, rfl⟩):p:=h
theorem dq(h:p:=by refine Z67 ?_;exact px):p:=h
theorem rc(h:p:=by refine K.thR ?_;exact th):p:=h
theorem je(h:p:=by refine Ar ?_;refine Z27 ?_;exact K.fin (V.one V.tmp) ⟨by first | (rw [hgy hf]; rfl) | (rw [hgv hf]; rfl), rfl⟩):p:=h
theorem nv(k:q)(h:Hk q→p:=by intro qk;refine H0 ?_;refine H0 ?_;exact qk.h):p:=h ⟨k⟩
theorem nw(k:q)(h:Hk q→p:=by intro qk;refine Z32 ?_;refine R.call Tryz.call20 (c20 c hc hc2 l h _) ?_;exact qk.h):p:=h ⟨k⟩
theorem rd(h:p:=by refine K.thJ ?_;exact StLe.of_eq (by rw [hcw] <;> (first | rfl | simp))):p:=h
theorem re(h:p:=by refine Z92 ?_;exact o5):p:=h
theorem jf(k:q)(h:Hk q→p:=by intro qk;refine Ar ?_;refine Nw ?_;exact qk.h):p:=h ⟨k⟩
theorem Ts(k:q)(h:Hk q→p:=by intro qk;refine Z47 ?_;refine Z0 ?_;exact qk.h):p:=h ⟨k⟩
theorem Tt(k:q)(h:Hk q→p:=by intro qk;refine Z4 ?_;refine Z32 ?_;exact qk.h):p:=h ⟨k⟩
theorem dr(k:q)(h:Hk q→p:=by intro qk;refine Z31 ?_;refine R.fin [3, 8] ?_;exact qk.h):p:=h ⟨k⟩
theorem rf(h:p:=by refine Z61 ?_;exact K.fin (V.two V.tmp V.tmp) ⟨by rw [hbad], rfl⟩):p:=h
theorem rg(h:p:=by refine Z5 ?_;exact th):p:=h
theorem rh(h:p:=by refine Z33 ?_;exact K.fin (V.one V.tmp) ⟨by rw [hx.eq, hw], rfl⟩):p:=h
theorem ri(h:p:=by refine Z2 ?_;exact K.fin (V.one V.tmp) ⟨by rw [hm, hD] <;> rfl, rfl⟩):p:=h
theorem nx(k:q)(h:Hk q→p:=by intro qk;refine Ar ?_;refine R.fin [1, 7, 8, 9, 10, 11, 12] ?_;exact qk.h):p:=h ⟨k⟩
theorem rj(k:q)(h:Hk q→p:=by intro qk;refine H.call Tryz.call121 (fun hB => w6 e.text _) ?_;refine H.fieldAddrRo (off := 5) jU Tryz.sizeOf53 ?_;exact qk.h):p:=h ⟨k⟩
theorem jg(k:q)(h:Hk q→p:=by intro qk;refine Z30 ?_;refine Z8 ?_;exact qk.h):p:=h ⟨k⟩
theorem dt(k:q)(h:Hk q→p:=by intro qk;refine jg ?_;refine R.fin [1, 2] ?_;exact qk.h):p:=h ⟨k⟩
theorem rk(h:p:=by refine Z61 ?_;exact K.fin (V.two V.tmp V.tmp) ⟨by rw [hkb], rfl⟩):p:=h
theorem du(k:q)(h:Hk q→p:=by intro qk;refine D.move ?_;refine D.nilPtr ?_;exact qk.h):p:=h ⟨k⟩
theorem rl(k:q)(h:Hk q→p:=by intro qk;refine R.indexAddr (1) (A5 (e.kids.getD 1 A8)) jU jS (Fv (by omega)).1 ?_;refine Ek ?_;exact qk.h):p:=h ⟨k⟩
theorem dv(k:q)(h:Hk q→p:=by intro qk;refine H1 ?_;refine Z54 ?_;exact qk.h):p:=h ⟨k⟩
theorem rm(h:p:=by refine Z12 ?_;exact e7):p:=h
theorem rn(h:p:=by refine Z92 ?_;exact o3):p:=h
theorem rp(k:q)(h:Hk q→p:=by intro qk;refine D.indexAddr (0) (A5 (e.kids.getD 0 A8)) jU jS (Fv (by omega)).1 ?_;refine Pz ?_;exact qk.h):p:=h ⟨k⟩
theorem Wd(k:q)(h:Hk q→p:=by intro qk;refine Z10 ?_;refine Z19 ?_;refine W1 ?_;exact qk.h):p:=h ⟨k⟩
theorem ny(k:q)(h:Hk q→p:=by intro qk;refine Jy ?_;refine R.call Tryz.call76 (c76 e.text _) ?_;exact qk.h):p:=h ⟨k⟩
theorem rq(h:p:=by refine Id ?_;exact jz):p:=h
theorem dw(k:q)(h:Hk q→p:=by intro qk;refine R.fin [] ?_;refine K.blN ?_;exact qk.h):p:=h ⟨k⟩
theorem rr(h:p:=by refine Z2 ?_;exact e7):p:=h
theorem rt(k:q)(h:Hk q→p:=by intro qk;refine W.draw [0, 1, 3, 7, 0, 16, 48, 112, 240, 511, 1023] 9 Ah (by kernel_rfl) ?_;refine cw ?_;exact qk.h):p:=h ⟨k⟩
theorem ru(k:q)(h:Hk q→p:=by intro qk;refine W.draw [0, 1, 3, 7, 15, 3, 35, 99, 255, 511, 1023] 8 Ah (by kernel_rfl) ?_;refine Z54 ?_;exact qk.h):p:=h ⟨k⟩
theorem rx(k:q)(h:Hk q→p:=by intro qk;refine Zl ?_;refine k7 ?_;exact qk.h):p:=h ⟨k⟩
theorem We(k:q)(h:Hk q→p:=by intro qk;refine Z4 ?_;refine Z84 ?_;exact qk.h):p:=h ⟨k⟩
theorem ry(h:p:=by refine Z65 ?_;exact jz):p:=h
theorem jh(h:p:=by refine Tl ?_;refine Z61 ?_;exact K.fin (V.one V.tmp) ⟨by rw [fw hlt ht16 hx.2], rfl⟩):p:=h
theorem rz(h:p:=by refine W.keep [1, 7, 8, 9, 10, 11, 12, 13, 14] ?_;exact r7):p:=h
theorem s0(k:q)(h:Hk q→p:=by intro qk;refine G.fieldAddrRo (off := 2) jU Tryz.sizeOf58 ?_;refine G.fieldAddrRo (off := 1) jU Tryz.sizeOf2 ?_;exact qk.h):p:=h ⟨k⟩
theorem s6(h:p:=by refine Z27 ?_;exact K.fin (V.one V.tmp) ⟨by rw [kt], rfl⟩):p:=h
theorem Wf(k:q)(h:Hk q→p:=by intro qk;refine Z14 ?_;refine Z95 ?_;exact qk.h):p:=h ⟨k⟩
theorem Wg(k:q)(h:Hk q→p:=by intro qk;refine Z47 ?_;refine Z52 ?_;exact qk.h):p:=h ⟨k⟩
theorem s7(h:p:=by refine K.thR ?_;exact K.fin (V.one V.tmp) ⟨by rw [hf], rfl⟩):p:=h
theorem s8(h:p:=by refine Z61 ?_;exact K.fin (V.one V.tmp) ⟨by rw [hf], rfl⟩):p:=h
theorem aa(k:q)(h:Hk q→p:=by intro qk;refine j8 ?_;refine R.nilCell 1 5 6 ?_;refine Z68 ?_;exact qk.h):p:=h ⟨k⟩
theorem s9(k:q)(h:Hk q→p:=by intro qk;refine Nw ?_;refine W.draw [0, 1, 3, 0, 8, 24, 56, 127] 7 Ah (by kernel_rfl) ?_;exact qk.h):p:=h ⟨k⟩
theorem sa(h:p:=by refine Tl ?_;exact K.fin (V.one V.tmp) ⟨by rw [hxe], rfl⟩):p:=h
theorem ji(h:p:=by refine Ja ?_;refine R.fin [0, 1, 7, 8] ?_;exact K.lpN (x + 1) ⟨hlt, Aq hlt hx.2 ht16⟩ (by omega) (StCut.of_eq rfl)):p:=h
theorem sb(k:q)(h:Hk q→p:=by intro qk;refine R.call Tryz.call32 (hev (e.kids.getD 0 A8) (Fv (by omega)).2.1 _) ?_;refine Ar ?_;exact qk.h):p:=h ⟨k⟩
theorem dx(k:q)(h:Hk q→p:=by intro qk;refine R.not ?_;refine Ar ?_;exact qk.h):p:=h ⟨k⟩
theorem ab(k:q)(h:Hk q→p:=by intro qk;refine Z10 ?_;refine R.lss ?_;exact qk.h):p:=h ⟨k⟩
theorem jk(k:q)(h:Hk q→p:=by intro qk;refine Z31 ?_;refine R.fin [2, 3, 18] ?_;exact qk.h):p:=h ⟨k⟩
theorem sc(h:p:=by refine Nt ?_;exact ea):p:=h
theorem nz(h:p:=by refine R.not ?_;exact Zn):p:=h
theorem sd(h:p:=by refine R.call Tryz.call64 (c64 61 e hok (by decide) _) ?_;exact nz):p:=h
theorem se(k:q)(h:Hk q→p:=by intro qk;refine D.indexAddr (k) (A4 (colsAt c l k)) jU jS (wy (Pe (by omega))) ?_;refine jc ?_;exact qk.h):p:=h ⟨k⟩
theorem jl(k:q)(h:Hk q→p:=by intro qk;refine Ny ?_;refine Z90 ?_;exact qk.h):p:=h ⟨k⟩
theorem ae(k:q)(h:Hk q→p:=by intro qk;refine Z19 ?_;refine Av ?_;refine Z59 ?_;exact qk.h):p:=h ⟨k⟩
theorem Wh(k:q)(h:Hk q→p:=by intro qk;refine Z25 ?_;refine Z2 ?_;exact qk.h):p:=h ⟨k⟩
theorem af(k:q)(h:Hk q→p:=by intro qk;refine Z15 ?_;refine Z40 ?_;refine R.fin [0, 1, 5, 7, 8] ?_;refine nf ?_;exact qk.h):p:=h ⟨k⟩
theorem jm(h:p:=by refine Z67 ?_;exact mx):p:=h
theorem sf(h:p:=by refine W.keep [0, 5, 6, 8, 9, 18, 19, 20] ?_;exact r7):p:=h
theorem sg(k:q)(h:Hk q→p:=by intro qk;refine D.indexAddr (1) (A5 (e.kids.getD 1 A8)) jU jS (Fv (by omega)).1 ?_;refine dd ?_;exact qk.h):p:=h ⟨k⟩
theorem sh(k:q)(h:Hk q→p:=by intro qk;refine Z46 ?_;refine W.draw [0, 0, 3, 7, 0, 0, 48, 112, 240, 511] 9 Ah (by kernel_rfl) ?_;exact qk.h):p:=h ⟨k⟩
theorem jn(k:q)(h:Hk q→p:=by intro qk;refine Pz ?_;refine Z54 ?_;exact qk.h):p:=h ⟨k⟩
theorem jo(h:p:=by refine nt ?_;refine Z27 ?_;exact K.fin (V.one V.tmp) ⟨by rw [← ba]; try rfl, rfl⟩):p:=h
theorem jp(k:q)(h:Hk q→p:=by intro qk;refine Dw ?_;refine Av ?_;exact qk.h):p:=h ⟨k⟩
theorem dy(k:q)(h:Hk q→p:=by intro qk;refine Ba ?_;refine R.box ?_;exact qk.h):p:=h ⟨k⟩
theorem jq(k:q)(h:Hk q→p:=by intro qk;refine R.fin [0, 3, 5] ?_;refine W5 ?_;exact qk.h):p:=h ⟨k⟩
theorem si(k:q)(h:Hk q→p:=by intro qk;refine cv ?_;refine R.build (places := #[(0, 1), (1, 1), (2, 1)]) jU (fun w => by simp) jZ ?_;exact qk.h):p:=h ⟨k⟩
theorem sj(h:p:=by refine K.thJ ?_;exact StLe.of_eq (by rw [hbk] <;> rfl)):p:=h
theorem sk(k:q)(h:Hk q→p:=by intro qk;refine Z46 ?_;refine W.draw [0, 0, 3, 7, 0, 0, 48, 112, 255] 8 Ah (by kernel_rfl) ?_;exact qk.h):p:=h ⟨k⟩
theorem jr(h:p:=by refine Z47 ?_;refine Z67 ?_;exact ea):p:=h
theorem js(h:p:=by refine Z23 ?_;refine Jz ?_;exact K.fin (V.one V.tmp) ⟨by rw [Xc (E1 hxe hx.2)], rfl⟩):p:=h
theorem ag(k:q)(h:Hk q→p:=by intro qk;refine Z16 ?_;refine pw ?_;exact qk.h):p:=h ⟨k⟩
theorem jt(k:q)(h:Hk q→p:=by intro qk;refine R.fin [3, 9] ?_;refine K.thN ?_;exact qk.h):p:=h ⟨k⟩
theorem ai(k:q)(h:Hk q→p:=by intro qk;refine Z75 ?_;refine S1 ?_;refine R.fin [0, 1, 7, 8] ?_;exact qk.h):p:=h ⟨k⟩
theorem sm(k:q)(h:Hk q→p:=by intro qk;refine R.indexAddr (k.toNat) (A7 (kindNames.getD k.toNat [])) jU jS hget ?_;refine ja ?_;exact qk.h):p:=h ⟨k⟩
theorem ju(h:p:=by refine Z25 ?_;exact Z94):p:=h
theorem sn(k:q)(h:Hk q→p:=by intro qk;refine D.indexAddr (i) (A5 x.kids[i]) jU jS (A9 hlt) ?_;refine Pz ?_;exact qk.h):p:=h ⟨k⟩
theorem jv(k:q)(h:Hk q→p:=by intro qk;refine Z31 ?_;refine R.fin [2, 22] ?_;exact qk.h):p:=h ⟨k⟩
theorem dz(k:q)(h:Hk q→p:=by intro qk;refine Tk ?_;refine qe ?_;exact qk.h):p:=h ⟨k⟩
theorem Fd(k:q)(h:Hk q→p:=by intro qk;refine R.fin [0, 3] ?_;exact qk.h):p:=h ⟨k⟩
theorem Nw(k:q)(h:Hk q→p:=by intro qk;refine R.fin [0, 3, 4] ?_;exact qk.h):p:=h ⟨k⟩
theorem Hf(k:q)(h:Hk q→p:=by intro qk;refine R.pickAnd ?_;exact qk.h):p:=h ⟨k⟩
theorem Nx(k:q)(h:Hk q→p:=by intro qk;refine R.fin [0, 1, 5] ?_;exact qk.h):p:=h ⟨k⟩
theorem Av(k:q)(h:Hk q→p:=by intro qk;refine R.move ?_;exact qk.h):p:=h ⟨k⟩
theorem so(h:p:=by exact h (y, j) (by rw [List.mem_zipIdx_iff_getElem?]; exact hj)):p:=h
theorem o0(k:q)(h:Hk q→p:=by intro qk;refine G.indexAddr (x) (B3 c[x]) jU jS (fun _ => A9 hlt) ?_;exact qk.h):p:=h ⟨k⟩
theorem K3(k:q)(h:Hk q→p:=by intro qk;refine G.loadRo jA ?_;exact qk.h):p:=h ⟨k⟩
theorem Ar(k:q)(h:Hk q→p:=by intro qk;refine R.assign ?_;exact qk.h):p:=h ⟨k⟩
theorem Ba(k:q)(h:Hk q→p:=by intro qk;refine AW.seqR ?_;exact qk.h):p:=h ⟨k⟩
theorem sq(h:p:=by exact K.fin (V.one V.tmp) ⟨by simp [Cd, ht5], rfl⟩):p:=h
theorem sr(h:p:=by exact K.fin (V.one V.tmp) ⟨by simp [Cd, ht5, ht16, ht22], rfl⟩):p:=h
theorem Dw(k:q)(h:Hk q→p:=by intro qk;refine R.loadRo jA ?_;exact qk.h):p:=h ⟨k⟩
theorem S3(h:p:=by exact K.fin (V.one V.tmp)):p:=h
theorem aj(k:q)(h:Hk q→p:=by intro qk;refine R.fin [0, 1, 5, 7, 8, 16] ?_;exact qk.h):p:=h ⟨k⟩
theorem su(h:p:=by exact K.fin (V.one V.tmp) ⟨by simp only [Dg, hp, ht7, ht14, ht23, ht27, Bool.not_true, Bool.false_eq_true, if_false, if_true]; try rfl, rfl⟩):p:=h
theorem Hg(k:q)(h:Hk q→p:=by intro qk;refine H.loadRo jA ?_;exact qk.h):p:=h ⟨k⟩
theorem Hh(k:q)(h:Hk q→p:=by intro qk;refine AW.region ?_;exact qk.h):p:=h ⟨k⟩
theorem Ek(k:q)(h:Hk q→p:=by intro qk;refine R.loadRoN jA jS ?_;exact qk.h):p:=h ⟨k⟩
theorem G9(k:q)(h:Hk q→p:=by intro qk;refine R.storeOwn jS ?_;exact qk.h):p:=h ⟨k⟩
theorem jx(k:q)(h:Hk q→p:=by intro qk;refine D.indexAddr (x) (B3 c[x]) jU jS (A9 hxl) ?_;exact qk.h):p:=h ⟨k⟩
theorem Ny(k:q)(h:Hk q→p:=by intro qk;refine R.fin [1, 3, 4] ?_;exact qk.h):p:=h ⟨k⟩
theorem H0(k:q)(h:Hk q→p:=by intro qk;refine R.buildSlice jU jS jZ ?_;exact qk.h):p:=h ⟨k⟩
theorem Fq(k:q)(h:Hk q→p:=by intro qk;refine R.assignT ?_;exact qk.h):p:=h ⟨k⟩
theorem Nz(k:q)(h:Hk q→p:=by intro qk;refine K.lpN (x + 1) hlt (by omega) ?_;exact qk.h):p:=h ⟨k⟩
theorem sw(h:p:=by exact K.lpN (x + 1) ⟨hlt, Aq hlt hx.2 (fun e => by rw [e] at ht16; simp at ht16)⟩ (by omega) (StCut.of_eq rfl)):p:=h
theorem O0(k:q)(h:Hk q→p:=by intro qk;refine R.loadOwnN jA jS ?_;exact qk.h):p:=h ⟨k⟩
theorem H1(k:q)(h:Hk q→p:=by intro qk;refine D.loadRo jA ?_;exact qk.h):p:=h ⟨k⟩
theorem jy(h:p:=by exact K.fin (V.one V.tmp) ⟨by simp_all [D5, H4, b7], rfl⟩):p:=h
theorem Hi(k:q)(h:Hk q→p:=by intro qk;refine R.loadOwn jA ?_;exact qk.h):p:=h ⟨k⟩
theorem ak(k:q)(h:Hk q→p:=by intro qk;refine R.fin [2, 6, 13, 14, 15] ?_;exact qk.h):p:=h ⟨k⟩
theorem jz(h:p:=by exact K.fin (V.two V.tmp V.tmp) ⟨by rw [hk], rfl⟩):p:=h
theorem o1(k:q)(h:Hk q→p:=by intro qk;refine R.indexAddr (x) (Gc l[x]) jU jS (A9 hlt) ?_;exact qk.h):p:=h ⟨k⟩
theorem Pz(k:q)(h:Hk q→p:=by intro qk;refine D.loadRoN jA jS ?_;exact qk.h):p:=h ⟨k⟩
theorem sx(h:p:=by exact K.fin (V.one V.tmp) ⟨by rw [hn]; first | (simp only [ht22, ht25, ht33, ht41, ht41, ht50, ht58, hk3, hk6, Bool.true_or, Bool.false_or, Bool.or_true, Bool.or_false, if_true, if_false, Bool.false_eq_true, ↓reduceIte] <;> rfl) | (simp only [ht22, ht25, ht33, ht41, ht41, ht50, ht58, hk3, Bool.true_or, Bool.false_or, Bool.or_true, if_true, if_false, Bool.false_eq_true, ↓reduceIte] <;> rfl) | (simp only [ht22, ht25, ht33, ht41, ht41, ht50, ht58, if_true, if_false, Bool.false_eq_true, ↓reduceIte] <;> rfl), rfl⟩):p:=h
theorem e7(h:p:=by exact K.fin (V.one V.tmp) ⟨by rw [hm] <;> rfl, rfl⟩):p:=h
theorem sy(h:p:=by exact K.fin (V.two V.tmp V.tmp) ⟨by rw [hm], rfl⟩ (hlow := by simp only [My, List.mem_cons, List.mem_nil_iff, or_false]; rintro y (rfl | rfl); exact F1; simp)):p:=h
theorem t6(h:p:=by exact K.fin (V.four V.tmp V.tmp V.tmp V.tmp) ⟨by rw [hm] <;> rfl, rfl⟩):p:=h
theorem e8(k:q)(h:Hk q→p:=by intro qk;refine R.build (places := #[(0, 1), (1, 1)]) jU (fun w => by simp) jZ ?_;exact qk.h):p:=h ⟨k⟩
theorem k7(k:q)(h:Hk q→p:=by intro qk;refine R.build (places := #[(0, 1), (1, 1), (2, 3), (5, 1)]) jU (fun w => by simp) jZ ?_;exact qk.h):p:=h ⟨k⟩
theorem e9(k:q)(h:Hk q→p:=by intro qk;refine R.fieldAddrPtr (fo := 5) jU Tryz.sizeOf53 ?_;exact qk.h):p:=h ⟨k⟩
theorem t7(h:p:=by exact K.fin (V.two (V.cellN jA jS) V.tmp) ⟨by rw [hm]; show _ = AV.tup [A5 A8, Am false]; rw [Bg]; rfl, rfl⟩ (hlow := by simp [or_imp, forall_and])):p:=h
theorem o3(h:p:=by exact K.fin (V.one V.tmp) ⟨by simp_all [L8], rfl⟩):p:=h
theorem t8(h:p:=by exact K.fin (V.two V.tmp V.tmp) ⟨by rw [hsh] <;> rfl, rfl⟩):p:=h
theorem k8(k:q)(h:Hk q→p:=by intro qk;refine R.indexAddr (k) (Gc l[k]) jU jS (A9 hlt) ?_;exact qk.h):p:=h ⟨k⟩
theorem ta(h:p:=by exact K.fin (V.two V.tmp V.tmp) ⟨by rw [hm, hm2] <;> rfl, rfl⟩):p:=h
theorem tc(h:p:=by exact Nat.le_trans ih (Nat.mul_le_mul_right _ (Nat.le_succ k))):p:=h
theorem k9(h:p:=by exact K.fin (V.two V.tmp V.tmp) ⟨by rw [hm] <;> rfl, rfl⟩):p:=h
theorem o4(h:p:=by exact K.lpN (x + 1) hlt (by omega) (StCut.of_eq rfl)):p:=h
theorem o5(h:p:=by exact K.fin (V.one V.tmp) ⟨by simp [Dg, hp, *], rfl⟩):p:=h
theorem td(h:p:=by exact K.fin (V.one V.tmp) ⟨by first | rw [hz] | simp_all [L8], rfl⟩):p:=h
theorem tf(h:p:=by exact K.fin (V.one V.tmp) ⟨by first | (rw [pe, hxe]; simp; done) | (rw [pe] <;> simp [Ul]), rfl⟩):p:=h
theorem o6(k:q)(h:Hk q→p:=by intro qk;refine R.indexAddr (k) (V2 (Bh c t)[k]) jU jS (A9 hlt) ?_;exact qk.h):p:=h ⟨k⟩
theorem tg(h:p:=by exact K.fin (V.one V.tmp) ⟨by simp_all [Bp, H4], rfl⟩):p:=h
theorem o7(h:p:=by exact K.fin (V.two (V.cellN jA jS) V.tmp) ⟨by rw [hm]; show _ = AV.tup [A5 A8, A3 _]; rw [Bg]; rfl, rfl⟩ (hlow := by simp [or_imp, forall_and])):p:=h
theorem ea(h:p:=by exact K.fin (V.one V.tmp) ⟨by rw [hm], rfl⟩):p:=h
theorem th(h:p:=by exact K.fin (V.two V.tmp V.tmp) ⟨by rw [hk, hk2], rfl⟩):p:=h
end Go.SX.Nb
namespace Go.SX.Nb
open Go Go.SX Go.Proofs
set_option maxRecDepth 4000

/-- No package-level variable of this program is an error. -/
class ErrAt where
/-- The package-level variables of which something is known: bytealg.MaxLen is a number; the table of powers of ten. -/
def Tu : List (Nat × (Obj → Prop)) := [(0, fun o => ∃ m t f, o = .cells #[.int .i64 m] t f), (3, fun o => ∃ t f, o = .cells (Lib.pow10Tab.map fun z => Value.int .u64 z).toArray t f)]
instance globInv [ErrAt] : GlobInv := ⟨Tu⟩
variable [ErrAt]

abbrev Str := List UInt8
structure Col where
 name : Str
 kind : Int
 deriving DecidableEq
structure Val where
 kind : Int
 n : Int
 s : Str
 deriving DecidableEq
structure Row where
 key : Int
 l : List Val
 deriving DecidableEq
abbrev A7 (s : Str) : AV := .v (sv s)
abbrev A3 (n : Int) : AV := .v (.int .i64 n)
abbrev al (n : Int) : AV := .v (.int .u64 n)
abbrev Am (b : Bool) : AV := .v (.bool b)
abbrev B3 (c : Col) : AV := .agg [.v (sv c.name), .v (.int .i64 c.kind)]
abbrev A4 (c : List Col) : AV := .slice false 2 (c.map B3)
abbrev am (v : Val) : AV := .agg [.v (.int .i64 v.kind), .v (.int .i64 v.n), .v (sv v.s)]
abbrev C2 (l : List Str) : AV := .slice false 1 (l.map A7)
theorem A9 {α β : Type} {f : α → β} {l : List α} {i : Nat} (h : i < l.length) : (l.map f)[i]? = some (f l[i]) := by simp [h]
theorem Ah : Tryz.prog.follows .mixedOrders = true := by kernel_rfl
theorem eb : Tryz.prog.eqGuardType Tryz.prog.depth 58 = false := by kernel_rfl
theorem Ky (k n k' n' : Int) (s s' : List UInt8) (w : World) : (Op.equal 58 (.agg #[.int .i64 k, .int .i64 n, .string ⟨s.toArray⟩]) (.agg #[.int .i64 k', .int .i64 n', .string ⟨s'.toArray⟩])).run Tryz.prog w = .ok (k == k' && n == n' && s == s') w := by
 have h1 : Tryz.prog.stoodInHeld 58 = false := by kernel_rfl
 show (Op.equalIn (9999 + 1) _ _ _).run _ _ = _
 rw [Op.equalIn]
 generalize hd : (9999 : Nat) = d
 obtain ⟨d, rfl⟩ : ∃ e, d = e + 1 := ⟨9998, hd.symm⟩
 clear hd
 simp [run_underlying Tryz.underlying58, h1, part, cm _ _ _ _ _ _ Tryz.underlying3, cm _ _ _ _ _ _ Tryz.underlying2, mb _ _ _ _ _ Tryz.underlying9, Tryz.isAgg3, Tryz.isAgg2, Tryz.isAgg9]
 by_cases e1 : k = k' <;> by_cases e2 : n = n' <;> by_cases e3 : s = s' <;> simp [e1, e2, e3]
end Go.SX.Nb
namespace Go.Proofs
open Go Go.Shelf
def Tryz.ren144 : Ren where
 f := fun x => match x with | 144 => 143 | 143 => 79 | 219 => 105 | 217 => 128 | 225 => 129 | 224 => 130 | 267 => 131 | 266 => 149 | 314 => 150 | n => n
 t := fun x => match x with | 9 => 9 | 4 => 4 | 3 => 3 | 5 => 5 | 46 => 160 | 146 => 173 | 51 => 172 | n => n
 g := fun x => match x with | 1 => 0 | n => n
theorem Tryz.lays144 : Lays.n144 Tryz.prog Tryz.ren144 where
 mixed := by kernel_rfl
 f143 := Tryz.func79
 f144 := Tryz.func143
 f217 := Tryz.func128
 f219 := Tryz.func105
 f224 := Tryz.func130
 f225 := Tryz.func129
 f266 := Tryz.func149
 f267 := Tryz.func131
 f314 := Tryz.func150
 t3 := Tryz.underlying3
 a3 := Tryz.isAgg3
 z3 := Tryz.sizeOf3
 v3 := Tryz.zeroValue3
 t4 := Tryz.underlying4
 a4 := Tryz.isAgg4
 z4 := Tryz.sizeOf4
 v4 := Tryz.zeroValue4
 t5 := Tryz.underlying5
 a5 := Tryz.isAgg5
 z5 := Tryz.sizeOf5
 v5 := Tryz.zeroValue5
 t9 := Tryz.underlying9
 a9 := Tryz.isAgg9
 z9 := Tryz.sizeOf9
 v9 := Tryz.zeroValue9
 t46 := Tryz.underlying160
 a46 := Tryz.isAgg160
 z46 := Tryz.sizeOf160
 v46 := Tryz.zeroValue160
 t51 := Tryz.underlying172
 a51 := Tryz.isAgg172
 z51 := Tryz.sizeOf172
 v51 := Tryz.zeroValue172
 t146 := Tryz.underlying173
 a146 := Tryz.isAgg173
 z146 := Tryz.sizeOf173
 v146 := Tryz.zeroValue173
 g1 := by kernel_rfl
def Tryz.ren145 : Ren where
 f := fun x => match x with | 145 => 144 | 220 => 165 | 219 => 105 | 217 => 128 | 225 => 129 | 224 => 130 | 267 => 131 | 266 => 149 | 314 => 150 | n => n
 t := fun x => match x with | 9 => 9 | 4 => 4 | 59 => 164 | 3 => 3 | 5 => 5 | 46 => 160 | 146 => 173 | 51 => 172 | n => n
 g := fun x => match x with | 1 => 0 | n => n
theorem Tryz.lays145 : Lays.n145 Tryz.prog Tryz.ren145 where
 mixed := by kernel_rfl
 f145 := Tryz.func144
 f217 := Tryz.func128
 f219 := Tryz.func105
 f220 := Tryz.func165
 f224 := Tryz.func130
 f225 := Tryz.func129
 f266 := Tryz.func149
 f267 := Tryz.func131
 f314 := Tryz.func150
 t3 := Tryz.underlying3
 a3 := Tryz.isAgg3
 z3 := Tryz.sizeOf3
 v3 := Tryz.zeroValue3
 t4 := Tryz.underlying4
 a4 := Tryz.isAgg4
 z4 := Tryz.sizeOf4
 v4 := Tryz.zeroValue4
 t5 := Tryz.underlying5
 a5 := Tryz.isAgg5
 z5 := Tryz.sizeOf5
 v5 := Tryz.zeroValue5
 t9 := Tryz.underlying9
 a9 := Tryz.isAgg9
 z9 := Tryz.sizeOf9
 v9 := Tryz.zeroValue9
 t46 := Tryz.underlying160
 a46 := Tryz.isAgg160
 z46 := Tryz.sizeOf160
 v46 := Tryz.zeroValue160
 t51 := Tryz.underlying172
 a51 := Tryz.isAgg172
 z51 := Tryz.sizeOf172
 v51 := Tryz.zeroValue172
 t59 := Tryz.underlying164
 a59 := Tryz.isAgg164
 z59 := Tryz.sizeOf164
 v59 := Tryz.zeroValue164
 t146 := Tryz.underlying173
 a146 := Tryz.isAgg173
 z146 := Tryz.sizeOf173
 v146 := Tryz.zeroValue173
 g1 := by kernel_rfl
def Tryz.ren146 : Ren where
 f := fun x => match x with | 146 => 34 | 221 => 55 | 268 => 77 | 138 => 78 | 143 => 79 | 195 => 102 | 197 => 103 | 218 => 104 | 219 => 105 | 260 => 127 | 217 => 128 | 225 => 129 | 224 => 130 | 267 => 131 | 266 => 149 | 314 => 150 | n => n
 t := fun x => match x with | 9 => 9 | 31 => 34 | 3 => 3 | 4 => 4 | 0 => 0 | 105 => 141 | 21 => 21 | 5 => 5 | 46 => 160 | 119 => 168 | 139 => 171 | 138 => 170 | 146 => 173 | 51 => 172 | n => n
 g := fun x => match x with | 1 => 0 | 3 => 1 | 4 => 2 | n => n
theorem Tryz.lays146 : Lays.n146 Tryz.prog Tryz.ren146 where
 mixed := by kernel_rfl
 f138 := Tryz.func78
 f143 := Tryz.func79
 f146 := Tryz.func34
 f195 := Tryz.func102
 f197 := Tryz.func103
 f217 := Tryz.func128
 f218 := Tryz.func104
 f219 := Tryz.func105
 f221 := Tryz.func55
 f224 := Tryz.func130
 f225 := Tryz.func129
 f260 := Tryz.func127
 f266 := Tryz.func149
 f267 := Tryz.func131
 f268 := Tryz.func77
 f314 := Tryz.func150
 t0 := Tryz.underlying0
 a0 := Tryz.isAgg0
 z0 := Tryz.sizeOf0
 v0 := Tryz.zeroValue0
 t3 := Tryz.underlying3
 a3 := Tryz.isAgg3
 z3 := Tryz.sizeOf3
 v3 := Tryz.zeroValue3
 t4 := Tryz.underlying4
 a4 := Tryz.isAgg4
 z4 := Tryz.sizeOf4
 v4 := Tryz.zeroValue4
 t5 := Tryz.underlying5
 a5 := Tryz.isAgg5
 z5 := Tryz.sizeOf5
 v5 := Tryz.zeroValue5
 t9 := Tryz.underlying9
 a9 := Tryz.isAgg9
 z9 := Tryz.sizeOf9
 v9 := Tryz.zeroValue9
 t21 := Tryz.underlying21
 a21 := Tryz.isAgg21
 z21 := Tryz.sizeOf21
 v21 := Tryz.zeroValue21
 t31 := Tryz.underlying34
 a31 := Tryz.isAgg34
 z31 := Tryz.sizeOf34
 v31 := Tryz.zeroValue34
 t46 := Tryz.underlying160
 a46 := Tryz.isAgg160
 z46 := Tryz.sizeOf160
 v46 := Tryz.zeroValue160
 t51 := Tryz.underlying172
 a51 := Tryz.isAgg172
 z51 := Tryz.sizeOf172
 v51 := Tryz.zeroValue172
 t105 := Tryz.underlying141
 a105 := Tryz.isAgg141
 z105 := Tryz.sizeOf141
 v105 := Tryz.zeroValue141
 t119 := Tryz.underlying168
 a119 := Tryz.isAgg168
 z119 := Tryz.sizeOf168
 t138 := Tryz.underlying170
 a138 := Tryz.isAgg170
 z138 := Tryz.sizeOf170
 v138 := Tryz.zeroValue170
 t139 := Tryz.underlying171
 a139 := Tryz.isAgg171
 z139 := Tryz.sizeOf171
 v139 := Tryz.zeroValue171
 t146 := Tryz.underlying173
 a146 := Tryz.isAgg173
 z146 := Tryz.sizeOf173
 v146 := Tryz.zeroValue173
 g1 := by kernel_rfl
 g3 := by kernel_rfl
 g4 := by kernel_rfl
def Tryz.ren161 : Ren where
 f := fun x => match x with | 161 => 164 | 231 => 171 | 227 => 172 | 233 => 173 | 235 => 174 | 228 => 181 | 197 => 103 | 151 => 182 | 260 => 127 | 152 => 191 | 137 => 194 | 119 => 195 | 224 => 130 | 225 => 129 | 217 => 128 | 266 => 149 | n => n
 t := fun x => match x with | 9 => 9 | 4 => 4 | 3 => 3 | 5 => 5 | 117 => 190 | 116 => 189 | 0 => 0 | 124 => 193 | 105 => 141 | 21 => 21 | 119 => 168 | 46 => 160 | 139 => 171 | 138 => 170 | n => n
 g := fun x => match x with | 3 => 1 | 4 => 2 | n => n
theorem Tryz.lays161 : Lays.n161 Tryz.prog Tryz.ren161 where
 mixed := by kernel_rfl
 f119 := Tryz.func195
 f137 := Tryz.func194
 f151 := Tryz.func182
 f152 := Tryz.func191
 f161 := Tryz.func164
 f197 := Tryz.func103
 f217 := Tryz.func128
 f224 := Tryz.func130
 f225 := Tryz.func129
 f227 := Tryz.func172
 f228 := Tryz.func181
 f231 := Tryz.func171
 f233 := Tryz.func173
 f235 := Tryz.func174
 f260 := Tryz.func127
 f266 := Tryz.func149
 t0 := Tryz.underlying0
 a0 := Tryz.isAgg0
 z0 := Tryz.sizeOf0
 v0 := Tryz.zeroValue0
 t3 := Tryz.underlying3
 a3 := Tryz.isAgg3
 z3 := Tryz.sizeOf3
 v3 := Tryz.zeroValue3
 t4 := Tryz.underlying4
 a4 := Tryz.isAgg4
 z4 := Tryz.sizeOf4
 v4 := Tryz.zeroValue4
 t5 := Tryz.underlying5
 a5 := Tryz.isAgg5
 z5 := Tryz.sizeOf5
 v5 := Tryz.zeroValue5
 t9 := Tryz.underlying9
 a9 := Tryz.isAgg9
 z9 := Tryz.sizeOf9
 v9 := Tryz.zeroValue9
 t21 := Tryz.underlying21
 a21 := Tryz.isAgg21
 z21 := Tryz.sizeOf21
 v21 := Tryz.zeroValue21
 t46 := Tryz.underlying160
 a46 := Tryz.isAgg160
 z46 := Tryz.sizeOf160
 v46 := Tryz.zeroValue160
 t105 := Tryz.underlying141
 a105 := Tryz.isAgg141
 z105 := Tryz.sizeOf141
 v105 := Tryz.zeroValue141
 t116 := Tryz.underlying189
 a116 := Tryz.isAgg189
 z116 := Tryz.sizeOf189
 t117 := Tryz.underlying190
 a117 := Tryz.isAgg190
 z117 := Tryz.sizeOf190
 v117 := Tryz.zeroValue190
 t119 := Tryz.underlying168
 a119 := Tryz.isAgg168
 z119 := Tryz.sizeOf168
 t124 := Tryz.underlying193
 a124 := Tryz.isAgg193
 z124 := Tryz.sizeOf193
 v124 := Tryz.zeroValue193
 t138 := Tryz.underlying170
 a138 := Tryz.isAgg170
 z138 := Tryz.sizeOf170
 v138 := Tryz.zeroValue170
 t139 := Tryz.underlying171
 a139 := Tryz.isAgg171
 z139 := Tryz.sizeOf171
 v139 := Tryz.zeroValue171
 g3 := by kernel_rfl
 g4 := by kernel_rfl
def Tryz.ren155 : Ren where
 f := fun x => match x with | 155 => 124 | 154 => 146 | 138 => 78 | 165 => 60 | 143 => 79 | 166 => 21 | 197 => 103 | 169 => 24 | 195 => 102 | 218 => 104 | 240 => 38 | 241 => 85 | 219 => 105 | 260 => 127 | 276 => 58 | 277 => 112 | 217 => 128 | 225 => 129 | 224 => 130 | 267 => 131 | 266 => 149 | 314 => 150 | n => n
 t := fun x => match x with | 9 => 9 | 3 => 3 | 4 => 4 | 72 => 66 | 0 => 0 | 76 => 69 | 105 => 141 | 21 => 21 | 5 => 5 | 70 => 63 | 20 => 20 | 37 => 64 | 75 => 68 | 127 => 91 | 164 => 102 | 46 => 160 | 119 => 168 | 139 => 171 | 138 => 170 | 146 => 173 | 51 => 172 | 80 => 75 | n => n
 g := fun x => match x with | 1 => 0 | 3 => 1 | 4 => 2 | n => n
theorem Tryz.lays155 : Lays.n155 Tryz.prog Tryz.ren155 where
 mixed := by kernel_rfl
 f138 := Tryz.func78
 f143 := Tryz.func79
 f154 := Tryz.func146
 f155 := Tryz.func124
 f165 := Tryz.func60
 f166 := Tryz.func21
 f169 := Tryz.func24
 f195 := Tryz.func102
 f197 := Tryz.func103
 f217 := Tryz.func128
 f218 := Tryz.func104
 f219 := Tryz.func105
 f224 := Tryz.func130
 f225 := Tryz.func129
 f240 := Tryz.func38
 f241 := Tryz.func85
 f260 := Tryz.func127
 f266 := Tryz.func149
 f267 := Tryz.func131
 f276 := Tryz.func58
 f277 := Tryz.func112
 f314 := Tryz.func150
 t0 := Tryz.underlying0
 a0 := Tryz.isAgg0
 z0 := Tryz.sizeOf0
 v0 := Tryz.zeroValue0
 t3 := Tryz.underlying3
 a3 := Tryz.isAgg3
 z3 := Tryz.sizeOf3
 v3 := Tryz.zeroValue3
 t4 := Tryz.underlying4
 a4 := Tryz.isAgg4
 z4 := Tryz.sizeOf4
 v4 := Tryz.zeroValue4
 t5 := Tryz.underlying5
 a5 := Tryz.isAgg5
 z5 := Tryz.sizeOf5
 v5 := Tryz.zeroValue5
 t9 := Tryz.underlying9
 a9 := Tryz.isAgg9
 z9 := Tryz.sizeOf9
 v9 := Tryz.zeroValue9
 t20 := Tryz.underlying20
 a20 := Tryz.isAgg20
 z20 := Tryz.sizeOf20
 v20 := Tryz.zeroValue20
 t21 := Tryz.underlying21
 a21 := Tryz.isAgg21
 z21 := Tryz.sizeOf21
 v21 := Tryz.zeroValue21
 t37 := Tryz.underlying64
 a37 := Tryz.isAgg64
 z37 := Tryz.sizeOf64
 v37 := Tryz.zeroValue64
 t46 := Tryz.underlying160
 a46 := Tryz.isAgg160
 z46 := Tryz.sizeOf160
 v46 := Tryz.zeroValue160
 t51 := Tryz.underlying172
 a51 := Tryz.isAgg172
 z51 := Tryz.sizeOf172
 v51 := Tryz.zeroValue172
 t70 := Tryz.underlying63
 a70 := Tryz.isAgg63
 z70 := Tryz.sizeOf63
 v70 := Tryz.zeroValue63
 t72 := Tryz.underlying66
 a72 := Tryz.isAgg66
 z72 := Tryz.sizeOf66
 v72 := Tryz.zeroValue66
 t75 := Tryz.underlying68
 a75 := Tryz.isAgg68
 z75 := Tryz.sizeOf68
 v75 := Tryz.zeroValue68
 t76 := Tryz.underlying69
 a76 := Tryz.isAgg69
 z76 := Tryz.sizeOf69
 v76 := Tryz.zeroValue69
 t105 := Tryz.underlying141
 a105 := Tryz.isAgg141
 z105 := Tryz.sizeOf141
 v105 := Tryz.zeroValue141
 t119 := Tryz.underlying168
 a119 := Tryz.isAgg168
 z119 := Tryz.sizeOf168
 t127 := Tryz.underlying91
 a127 := Tryz.isAgg91
 z127 := Tryz.sizeOf91
 v127 := Tryz.zeroValue91
 t138 := Tryz.underlying170
 a138 := Tryz.isAgg170
 z138 := Tryz.sizeOf170
 v138 := Tryz.zeroValue170
 t139 := Tryz.underlying171
 a139 := Tryz.isAgg171
 z139 := Tryz.sizeOf171
 v139 := Tryz.zeroValue171
 t146 := Tryz.underlying173
 a146 := Tryz.isAgg173
 z146 := Tryz.sizeOf173
 v146 := Tryz.zeroValue173
 t164 := Tryz.underlying102
 a164 := Tryz.isAgg102
 z164 := Tryz.sizeOf102
 v164 := Tryz.zeroValue102
 g1 := by kernel_rfl
 g3 := by kernel_rfl
 g4 := by kernel_rfl
def Tryz.ren156 : Ren where
 f := fun x => match x with | 156 => 41 | 165 => 60 | 166 => 21 | 169 => 24 | 240 => 38 | 241 => 85 | 276 => 58 | 277 => 112 | n => n
 t := fun x => match x with | 31 => 34 | 9 => 9 | 3 => 3 | 4 => 4 | 0 => 0 | 20 => 20 | 72 => 66 | 76 => 69 | 70 => 63 | 37 => 64 | 75 => 68 | 127 => 91 | 164 => 102 | 5 => 5 | 80 => 75 | n => n
 g := fun x => x
theorem Tryz.lays156 : Lays.n156 Tryz.prog Tryz.ren156 where
 mixed := by kernel_rfl
 f156 := Tryz.func41
 f165 := Tryz.func60
 f166 := Tryz.func21
 f169 := Tryz.func24
 f240 := Tryz.func38
 f241 := Tryz.func85
 f276 := Tryz.func58
 f277 := Tryz.func112
 t0 := Tryz.underlying0
 a0 := Tryz.isAgg0
 z0 := Tryz.sizeOf0
 v0 := Tryz.zeroValue0
 t3 := Tryz.underlying3
 a3 := Tryz.isAgg3
 z3 := Tryz.sizeOf3
 v3 := Tryz.zeroValue3
 t4 := Tryz.underlying4
 a4 := Tryz.isAgg4
 z4 := Tryz.sizeOf4
 v4 := Tryz.zeroValue4
 t9 := Tryz.underlying9
 a9 := Tryz.isAgg9
 z9 := Tryz.sizeOf9
 v9 := Tryz.zeroValue9
 t20 := Tryz.underlying20
 a20 := Tryz.isAgg20
 z20 := Tryz.sizeOf20
 v20 := Tryz.zeroValue20
 t31 := Tryz.underlying34
 a31 := Tryz.isAgg34
 z31 := Tryz.sizeOf34
 v31 := Tryz.zeroValue34
 t37 := Tryz.underlying64
 a37 := Tryz.isAgg64
 z37 := Tryz.sizeOf64
 v37 := Tryz.zeroValue64
 t70 := Tryz.underlying63
 a70 := Tryz.isAgg63
 z70 := Tryz.sizeOf63
 v70 := Tryz.zeroValue63
 t72 := Tryz.underlying66
 a72 := Tryz.isAgg66
 z72 := Tryz.sizeOf66
 v72 := Tryz.zeroValue66
 t75 := Tryz.underlying68
 a75 := Tryz.isAgg68
 z75 := Tryz.sizeOf68
 v75 := Tryz.zeroValue68
 t76 := Tryz.underlying69
 a76 := Tryz.isAgg69
 z76 := Tryz.sizeOf69
 v76 := Tryz.zeroValue69
 t127 := Tryz.underlying91
 a127 := Tryz.isAgg91
 z127 := Tryz.sizeOf91
 v127 := Tryz.zeroValue91
 t164 := Tryz.underlying102
 a164 := Tryz.isAgg102
 z164 := Tryz.sizeOf102
 v164 := Tryz.zeroValue102
def Tryz.ren173 : Ren where
 f := fun x => match x with | 173 => 145 | 246 => 166 | 283 => 175 | 284 => 176 | 285 => 177 | 286 => 178 | 129 => 184 | 317 => 183 | 318 => 185 | 319 => 186 | 320 => 187 | 337 => 192 | 338 => 193 | n => n
 t := fun x => match x with | 2 => 2 | 3 => 3 | 9 => 9 | 4 => 4 | 171 => 194 | 0 => 0 | 53 => 135 | 37 => 64 | 5 => 5 | 173 => 197 | 212 => 205 | 51 => 172 | 20 => 20 | 213 => 206 | 46 => 160 | 232 => 216 | 233 => 217 | n => n
 g := fun x => match x with | 17 => 3 | 18 => 4 | 19 => 5 | n => n
theorem Tryz.lays173 : LaysM.n173 Tryz.prog Tryz.ren173 where
 mixed := by kernel_rfl
 f129 := Tryz.func184
 f173 := Tryz.func145
 f246 := Tryz.func166
 f283 := Tryz.func175
 f284 := Tryz.func176
 f285 := Tryz.func177
 f286 := Tryz.func178
 f317 := Tryz.func183
 f318 := Tryz.func185
 f319 := Tryz.func186
 f320 := Tryz.func187
 f337 := Tryz.func192
 f338 := Tryz.func193
 t0 := Tryz.underlying0
 a0 := Tryz.isAgg0
 z0 := Tryz.sizeOf0
 v0 := Tryz.zeroValue0
 t2 := Tryz.underlying2
 a2 := Tryz.isAgg2
 z2 := Tryz.sizeOf2
 v2 := Tryz.zeroValue2
 t3 := Tryz.underlying3
 a3 := Tryz.isAgg3
 z3 := Tryz.sizeOf3
 v3 := Tryz.zeroValue3
 t4 := Tryz.underlying4
 a4 := Tryz.isAgg4
 z4 := Tryz.sizeOf4
 v4 := Tryz.zeroValue4
 t5 := Tryz.underlying5
 a5 := Tryz.isAgg5
 z5 := Tryz.sizeOf5
 v5 := Tryz.zeroValue5
 t9 := Tryz.underlying9
 a9 := Tryz.isAgg9
 z9 := Tryz.sizeOf9
 v9 := Tryz.zeroValue9
 t20 := Tryz.underlying20
 a20 := Tryz.isAgg20
 z20 := Tryz.sizeOf20
 v20 := Tryz.zeroValue20
 t37 := Tryz.underlying64
 a37 := Tryz.isAgg64
 z37 := Tryz.sizeOf64
 v37 := Tryz.zeroValue64
 t46 := Tryz.underlying160
 a46 := Tryz.isAgg160
 z46 := Tryz.sizeOf160
 v46 := Tryz.zeroValue160
 t51 := Tryz.underlying172
 a51 := Tryz.isAgg172
 z51 := Tryz.sizeOf172
 v51 := Tryz.zeroValue172
 t53 := Tryz.underlying135
 a53 := Tryz.isAgg135
 z53 := Tryz.sizeOf135
 v53 := Tryz.zeroValue135
 t171 := Tryz.underlying194
 a171 := Tryz.isAgg194
 z171 := Tryz.sizeOf194
 v171 := Tryz.zeroValue194
 t173 := Tryz.underlying197
 a173 := Tryz.isAgg197
 z173 := Tryz.sizeOf197
 v173 := Tryz.zeroValue197
 t212 := Tryz.underlying205
 a212 := Tryz.isAgg205
 z212 := Tryz.sizeOf205
 v212 := Tryz.zeroValue205
 t213 := Tryz.underlying206
 a213 := Tryz.isAgg206
 z213 := Tryz.sizeOf206
 t232 := Tryz.underlying216
 a232 := Tryz.isAgg216
 z232 := Tryz.sizeOf216
 v232 := Tryz.zeroValue216
 t233 := Tryz.underlying217
 a233 := Tryz.isAgg217
 z233 := Tryz.sizeOf217
 v233 := Tryz.zeroValue217
 g17 := by kernel_rfl
 g18 := by kernel_rfl
 g19 := by kernel_rfl
 i0 := by kernel_rfl
 i2 := by kernel_rfl
 i3 := by kernel_rfl
 i4 := by kernel_rfl
 i5 := by kernel_rfl
 i9 := by kernel_rfl
 i20 := by kernel_rfl
 i37 := by kernel_rfl
 i46 := by kernel_rfl
 i51 := by kernel_rfl
 i53 := by kernel_rfl
 i171 := by kernel_rfl
 i173 := by kernel_rfl
 i212 := by kernel_rfl
 i232 := by kernel_rfl
 i233 := by kernel_rfl
 m17 := by kernel_rfl
 m18 := by kernel_rfl
 m19 := by kernel_rfl
def Tryz.ren170 : Ren where
 f := fun x => match x with | 170 => 66 | n => n
 t := fun x => match x with | 70 => 63 | 3 => 3 | 0 => 0 | 72 => 66 | 37 => 64 | 5 => 5 | n => n
 g := fun x => x
theorem Tryz.lays170 : Lays.n170 Tryz.prog Tryz.ren170 where
 mixed := by kernel_rfl
 f170 := Tryz.func66
 t0 := Tryz.underlying0
 a0 := Tryz.isAgg0
 z0 := Tryz.sizeOf0
 v0 := Tryz.zeroValue0
 t3 := Tryz.underlying3
 a3 := Tryz.isAgg3
 z3 := Tryz.sizeOf3
 v3 := Tryz.zeroValue3
 t37 := Tryz.underlying64
 a37 := Tryz.isAgg64
 z37 := Tryz.sizeOf64
 v37 := Tryz.zeroValue64
 t70 := Tryz.underlying63
 a70 := Tryz.isAgg63
 z70 := Tryz.sizeOf63
 v70 := Tryz.zeroValue63
 t72 := Tryz.underlying66
 a72 := Tryz.isAgg66
 z72 := Tryz.sizeOf66
 v72 := Tryz.zeroValue66
theorem Tryz.lays166 : Lays.n166 Tryz.prog Tryz.ren155 := { Tryz.lays155 with }
end Go.Proofs
namespace Go.SX.Nb
open Go Go.SX Go.Proofs Go.RowKit
variable [ErrAt]
set_option maxRecDepth 4000
theorem Ix {w : World} (h : Ic w) : ∃ m, w.cell? ⟨0, 0, none⟩ = some (.int .i64 m) := by
 obtain ⟨_, a, m, t, f, rfl⟩ := h (0, fun o => ∃ m t f, o = .cells #[.int .i64 m] t f) (by simp [GlobInv.blocks, Tu])
 exact ⟨m, by simp [World.cell?, a]⟩
theorem ec {w : World} (h : Ic w) : Lib.TabIs Tryz.prog w "internal/strconv.uint64pow10" .u64 Lib.pow10Tab := by
 obtain ⟨_, a, t, f, rfl⟩ := h (3, fun o => ∃ t f, o = .cells (Lib.pow10Tab.map fun z => Value.int .u64 z).toArray t f) (by simp [GlobInv.blocks, Tu])
 have hg : Tryz.prog.globalNamed "internal/strconv.uint64pow10" = some 3 := by kernel_rfl
 simp only at a
 simp [Lib.TabIs, World.var?, hg, a]
theorem Tv (w : World) (n : Nat) : Below w.heap.size w (w.drewN n) := ⟨rfl, rfl, rfl, Nat.le_refl _, fun _ _ => rfl⟩
theorem ka (s t : Str) (hs : s.length < 4294967281) (Hp : List AObj) : AFun Tryz.prog 143 [A7 s, A7 t] Hp (Am (Lib.contains s t)) := by
 refine AFun.lib (xs := [sv s, sv t]) (v := .bool (Lib.contains s t)) (fun G w => .v _ _) (fun w hg => ?_)
 obtain ⟨m, hm⟩ := Ix hg
 refine (Any.strings_Contains Tryz.lays144 ⟨s.toArray⟩ ⟨t.toArray⟩ m w (by simpa [ByteArray.size] using hs) hm).mono ?_
 rintro e w' ⟨rfl, rfl⟩
 exact ⟨rfl, Below.refl _ _⟩
theorem vm (s t : Str) (hs : s.length < 4294967281) (Hp : List AObj) : AFun Tryz.prog 144 [A7 s, A7 t] Hp (.tup [A7 (Lib.cut s t).1, A7 (Lib.cut s t).2.1, Am (Lib.cut s t).2.2]) := by
 refine AFun.lib (xs := [sv s, sv t]) (v := .tuple #[sv (Lib.cut s t).1, sv (Lib.cut s t).2.1, .bool (Lib.cut s t).2.2]) (fun G w => Ko rfl (fun i y u hy hu => ?_)) (fun w hg => ?_)
 ·match i with
  | 0 => simp at hy hu; subst hy; subst hu; exact .v _ _
  | 1 => simp at hy hu; subst hy; subst hu; exact .v _ _
  | 2 => simp at hy hu; subst hy; subst hu; exact .v _ _
  | i + 3 => simp at hy
 obtain ⟨m, hm⟩ := Ix hg
 refine (Any.strings_Cut Tryz.lays145 ⟨s.toArray⟩ ⟨t.toArray⟩ m w (by simpa [ByteArray.size] using hs) hm).mono ?_
 rintro e w' ⟨rfl, n, rfl⟩
 exact ⟨rfl, Tv _ _⟩
theorem vn (s t : Str) (ht : t.length < 4294967281) (ha : ∀ c ∈ t, c.toNat < 128) (Hp : List AObj) : AFun Tryz.prog 164 [A7 s, A7 t] Hp (A7 (Lib.trimLeftS s t)) := by
 refine AFun.lib (xs := [sv s, sv t]) (v := sv (Lib.trimLeftS s t)) (fun G w => .v _ _) (fun w hg => ?_)
 refine (Any.strings_TrimLeft_laid Tryz.lays161 (by kernel_rfl) ⟨s.toArray⟩ ⟨t.toArray⟩ w (by simpa [ByteArray.size] using ht) (fun j b hj => ha b (List.mem_of_getElem? hj))).mono ?_
 rintro e w' ⟨rfl, hb⟩
 exact ⟨rfl, hb⟩
/-- The pieces of a split. -/
def Ie (s t : Str) : List Str := (Lib.splitB ⟨t.toArray⟩ 0 (Lib.countB ⟨s.toArray⟩ ⟨t.toArray⟩) ⟨s.toArray⟩).map (·.data.toList)
theorem c34 (s t : Str) (hs : s.length < 4294967281) (ht : 1 ≤ t.length) (Hp : List AObj) : AFun Tryz.prog 34 [A7 s, A7 t] Hp (C2 (Ie s t)) := by
 have := AFun.libSlice (P := Tryz.prog) (g := 34) (Hp := Hp) (xs := [sv s, sv t]) (ys := (Ie s t).map sv) (t := 9) (by intro y hy; obtain ⟨z, _, rfl⟩ := List.mem_map.1 hy; rfl) (fun w hg => by
  obtain ⟨m, hm⟩ := Ix hg
  refine (Any.strings_Split Tryz.lays146 (by kernel_rfl) ⟨s.toArray⟩ ⟨t.toArray⟩ m w (by simpa [ByteArray.size] using hs) hm (by simpa [ByteArray.size] using ht)).mono ?_
  rintro e w' ⟨rfl, rfl⟩
  have hl : ((Ie s t).map sv).length = Lib.countB ⟨s.toArray⟩ ⟨t.toArray⟩ + 1 := by
   rw [List.length_map]
   unfold Ie
   rw [List.length_map]
   exact Lib.splitB_all _ (by simpa [ByteArray.size] using ht) _ _ _ rfl
  refine ⟨by rw [hl], ?_⟩
  unfold Ie
  rw [List.map_map]
  rfl)
 rw [List.map_map] at this
 exact this
end Go.SX.Nb
namespace Go.SX.Nb
end Go.SX.Nb
namespace Go.SX.Nb
open Go Go.SX Go.Proofs Go.RowKit Go.Sort
variable [ErrAt]
set_option maxRecDepth 4000
theorem vo : Builder.Extra Tryz.prog Tryz.ren155 := { sizeBuilder := by kernel_rfl, liesBuilder := by kernel_rfl, t5 := Tryz.underlying5, a5 := Tryz.isAgg5, z5 := Tryz.sizeOf5, v5 := Tryz.zeroValue5, infoByte := by kernel_rfl, cellsByte := by kernel_rfl, sizeByte := by kernel_rfl, neB5 := by decide }
theorem Xx : Builder.Extra Tryz.prog Tryz.ren156 := { sizeBuilder := by kernel_rfl, liesBuilder := by kernel_rfl, t5 := Tryz.underlying5, a5 := Tryz.isAgg5, z5 := Tryz.sizeOf5, v5 := Tryz.zeroValue5, infoByte := by kernel_rfl, cellsByte := by kernel_rfl, sizeByte := by kernel_rfl, neB5 := by decide }
theorem vp (s o n : Str) (hs : s.length < 4294967281) (ho : 1 ≤ o.length) (hl : s.length + Lib.countB ⟨s.toArray⟩ ⟨o.toArray⟩ * n.length ≤ 140737488355328) (Hp : List AObj) : AFun Tryz.prog 124 [A7 s, A7 o, A7 n] Hp (A7 (Lib.replaceAll s o n)) := by
 refine AFun.lib (xs := [sv s, sv o, sv n]) (v := sv (Lib.replaceAll s o n)) (fun G w => .v _ _) (fun w hg => ?_)
 obtain ⟨m, hm⟩ := Ix hg
 refine (Any.strings_ReplaceAll Tryz.lays155 vo ⟨s.toArray⟩ ⟨o.toArray⟩ ⟨n.toArray⟩ m w (by simpa [ByteArray.size] using hs) hm (by simpa [ByteArray.size] using ho) (by simpa [ByteArray.size] using hl)).mono ?_
 rintro e w' ⟨rfl, hb⟩
 exact ⟨rfl, hb⟩
theorem Wi (w : World) (k : Nat) (os : Array Obj) : Below w.heap.size w (grow (w.drewN k) os) := by
 refine ⟨rfl, rfl, rfl, by simp [grow], fun b hb => ?_⟩
 show ((w.drewN k).heap ++ os)[b]? = w.heap[b]?
 rw [Array.getElem?_append_left (by exact hb)]
 rfl
theorem vq (n : Int) (h0 : -9223372036854775808 ≤ n) (h1 : n ≤ 9223372036854775807) (Hp : List AObj) : AFun Tryz.prog 145 [.v (.int .i64 n), A3 10] Hp (A7 (Lib.itoa n)) := by
 refine AFun.lib (xs := [.int .i64 n, .int .i64 10]) (v := sv (Lib.itoa n)) (fun G w => .v _ _) (fun w hg => ?_)
 refine (Any.strconv_FormatInt_10 Tryz.lays173 n h0 h1 w (ec hg)).mono ?_
 rintro e w' ⟨rfl, k, os, rfl⟩
 exact ⟨rfl, Wi _ _ _⟩
end Go.SX.Nb
namespace Go.SX.Nb
open Go Go.SX Go.Proofs Go.RowKit
variable [ErrAt]
set_option maxRecDepth 4000
def vr : Str := [48, 49, 50, 51, 52, 53, 54, 55, 56, 57]
def ee (s : Str) : Str := Lib.trimPrefix s [45]
def o8 (s : Str) : Bool := (ee s == []) || !(Lib.trimS (ee s) vr == []) || (((ee s).headD 0 == 48) && decide (1 < s.length))
def O1 (s : Str) : Int × Int := if o8 s then (0, 6) else match Lib.parseIntB 64 s with | .ok v => (v, 0) | .range => (0, 4) | _ => (0, 0)
end Go.SX.Nb
namespace Go.SX.Nb
open Go Go.SX Go.Proofs
variable [ErrAt]
set_option maxRecDepth 4000
def Dl (c : UInt8) : Bool := decide ((97 : Int) ≤ c.toNat) && decide ((c.toNat : Int) ≤ 122)
def Lg (c : UInt8) : Bool := decide ((48 : Int) ≤ c.toNat) && decide ((c.toNat : Int) ≤ 57)
theorem c94 (c : UInt8) (Hp : List AObj) : AFun Tryz.prog 94 [.v (.int .u8 (c.toNat : Int))] Hp (.v (.bool (Dl c))) := by
 refine ACall.body [.tmp 2] [0] Tryz.func94 Tryz.ntmps94 (fun d => ?_)
 refine Mx ?_;refine R.geq ?_;refine Z14 ?_;refine G.leq ?_;exact ju

theorem c96 (c : UInt8) (Hp : List AObj) : AFun Tryz.prog 96 [.v (.int .u8 (c.toNat : Int))] Hp (.v (.bool (Lg c))) := by
 refine ACall.body [.tmp 2] [0] Tryz.func96 Tryz.ntmps96 (fun d => ?_)
 refine Mx ?_;refine R.geq ?_;refine Z14 ?_;refine G.leq ?_;exact ju

def words : List Str := [[97, 100, 100], [100, 114, 111, 112], [114, 101, 110, 97, 109, 101], [115, 112, 108, 105, 116], [109, 101, 114, 103, 101], [114, 101, 116, 121, 112, 101], [105, 110, 116, 111], [116, 111], [98, 97, 99, 107], [97, 110, 100], [111, 114], [110, 111, 116], [116, 114, 117, 101], [102, 97, 108, 115, 101], [110, 117, 108, 108], [105, 110, 116], [116, 101, 120, 116], [98, 111, 111, 108], [115, 101, 108, 101, 99, 116], [119, 104, 101, 114, 101], [102, 114, 111, 109], [108, 105, 109, 105, 116]]
def Eu (s : Str) : Bool := words.any (· == s)
theorem Qb : words.length = 22 := rfl
theorem o9 {α : Type} {p : α → Bool} {l : List α} {i : Nat} (h : i < l.length) (hp : p l[i] = true) : l.any p = true := by
 rw [List.any_eq_true]; exact ⟨l[i], List.getElem_mem h, hp⟩
theorem ef {α : Type} {p : α → Bool} {l : List α} (h : ∀ (j : Nat) (y : α), l[j]? = some y → p y = false) : l.any p = false := by
 rw [List.any_eq_false]
 intro x hx
 obtain ⟨j, hj⟩ := List.getElem?_of_mem hx
 simp [h j x hj]
theorem Aq {α : Type} {l : List α} {x : Nat} {p : α → Prop} (hlt : x < l.length) (h : ∀ (j : Nat) (y : α), j < x → l[j]? = some y → p y) (hx : p l[x]) : ∀ (j : Nat) (y : α), j < x + 1 → l[j]? = some y → p y := by
 intro j y hj hy
 rcases Nat.lt_or_ge j x with h' | h'
 ·exact h j y h' hy
 have : j = x := by omega
 subst this
 rw [List.getElem?_eq_getElem hlt] at hy
 injection hy with hy
 subst hy
 exact hx
theorem H2 {α : Type} {l : List α} {x : Nat} {p : α → Prop} (hge : l.length ≤ x) (h : ∀ (j : Nat) (y : α), j < x → l[j]? = some y → p y) : ∀ (j : Nat) (y : α), l[j]? = some y → p y :=
 fun j y hy => h j y (by have := (List.getElem?_eq_some_iff.1 hy).1; omega) hy
theorem c95 (s : Str) (Hp : List AObj) : AFun Tryz.prog 95 [A7 s] Hp (Am (Eu s)) := by
 refine ACall.body [.tmp 2] [0] Tryz.func95 Tryz.ntmps95 (fun d => ?_)
 refine Z55 ?_;refine S2 ?_;refine Fd ?_;refine Z52 ?_;refine Nw ?_
 refine AW.loopC (α := Nat) (fun x => ⟨18, A2 0 (A7 s) (A2 3 (.slice true 1 (words.map A7)) (A2 4 (A3 (x : Nat)) (fun _ => .any))), Hp, [], [], none⟩) (fun x => x ≤ words.length ∧ ∀ (j : Nat) (y : Str), j < x → words[j]? = some y → (y == s) = false) (fun x => words.length - x) (0) (by simp) (StLe.refl _) rfl (fun x hx => ?_)
 refine Z83 ?_;refine R.fin [0, 3, 4, 9] ?_
 refine W.cond (fun ht9 => ?_) (fun ht9 => ?_)
 ·have hlt : x < words.length := by simpa using ht9
  have hwl := Qb
  refine Jc ?_;refine R.indexAddr (x) (A7 words[x]) jU jS (A9 hlt) ?_;refine jp ?_;refine R.seql ?_;refine R.fin [0, 3, 4, 17] ?_
  refine W.cond (fun ht17 => ?_) (fun ht17 => ?_)
  ·refine Pw ?_;exact K.fin (V.one V.tmp) ⟨by rw [show Eu s = true from o9 hlt ht17], rfl⟩
  refine Z85 ?_;refine Nw ?_;exact K.lpN (x + 1) ⟨hlt, Aq hlt hx.2 ht17⟩ (by have := Qb; omega) (StCut.of_eq rfl)
 refine Z47 ?_;refine Z67 ?_;exact K.fin (V.one V.tmp) ⟨by rw [show Eu s = false from ef (H2 (by simp at ht9; omega) hx.2)], rfl⟩

def H3 (c : UInt8) : Bool := Dl c || Lg c || c == 95
def Dy (s : Str) : Bool := match s with
 | [] => false
 | c :: _ => decide (s.length ≤ 16) && Dl c && !Eu s && s.all H3
theorem eg {α : Type} {p : α → Bool} {l : List α} {i : Nat} (h : i < l.length) (hp : p l[i] = false) : l.all p = false := by
 rw [List.all_eq_false]; exact ⟨l[i], List.getElem_mem h, by simp [hp]⟩
theorem oa {α : Type} {p : α → Bool} {l : List α} (h : ∀ (j : Nat) (y : α), l[j]? = some y → p y = true) : l.all p = true := by
 rw [List.all_eq_true]
 intro x hx
 obtain ⟨j, hj⟩ := List.getElem?_of_mem hx
 exact h j x hj
theorem nn {s : Str} {b : Bool} (h : ((((s.length : Int) == 0) || b) == false) = true) : s ≠ [] := by rintro rfl; simp at h
theorem an {s : Str} (h : s ≠ []) : s[0]? = some (s.headD 0) := by cases s with
 | nil => exact absurd rfl h
 | cons c r => rfl
theorem O2 (s : Str) : Dy s = (!((s.length : Int) == 0 || decide ((16 : Int) < s.length) || !Dl (s.headD 0) || Eu s) && s.all H3) := by
 cases s with
 | nil => rfl
 | cons c r =>
  have h1 : (((c :: r).length : Int) == 0) = false := by simp; omega
  have h2 : decide ((c :: r).length ≤ 16) = !decide ((16 : Int) < (c :: r).length) := by
   by_cases h : (c :: r).length ≤ 16
   ·have : ¬ ((16 : Int) < (c :: r).length) := by omega
    simp only [h, this, decide_true, decide_false, Bool.not_false]
   have : ((16 : Int) < (c :: r).length) := by omega
   simp only [h, this, decide_true, decide_false, Bool.not_true]
  simp only [Dy, h1, h2, List.headD_cons, Bool.not_or, Bool.not_not, Bool.false_or]
theorem kb {c : UInt8} (h : ((!Dl c && !Lg c) && ((c.toNat : Int) != 95)) = false) : H3 c = true := by
 unfold H3
 have e : ((c.toNat : Int) != 95) = !(c == 95) := by
  by_cases hc : c = 95
  ·subst hc; rfl
  have : c.toNat ≠ 95 := fun h => hc (UInt8.toNat_inj.1 h)
  have : (c.toNat : Int) ≠ 95 := by omega
  rw [bne_iff_ne.2 this, beq_eq_false_iff_ne.2 hc]; rfl
 rw [e] at h
 revert h
 cases Dl c <;> cases Lg c <;> cases (c == 95) <;> simp
theorem kc {c : UInt8} (h : ((!Dl c && !Lg c) && ((c.toNat : Int) != 95)) = true) : H3 c = false := by
 unfold H3
 have e : ((c.toNat : Int) != 95) = !(c == 95) := by
  by_cases hc : c = 95
  ·subst hc; rfl
  have : c.toNat ≠ 95 := fun h => hc (UInt8.toNat_inj.1 h)
  have : (c.toNat : Int) ≠ 95 := by omega
  rw [bne_iff_ne.2 this, beq_eq_false_iff_ne.2 hc]; rfl
 rw [e] at h
 revert h
 cases Dl c <;> cases Lg c <;> cases (c == 95) <;> simp
theorem c67 (s : Str) (hs : s.length ≤ 1048576) (Hp : List AObj) : AFun Tryz.prog 67 [A7 s] Hp (Am (Dy s)) := by
 refine ACall.body [.tmp 2] [0] Tryz.func67 Tryz.ntmps67 (fun d => ?_)
 refine Nv ?_;refine R.slen jU ?_;refine R.eql ?_;refine Z14 ?_;refine G.slen jU ?_;refine Z95 ?_;refine Z14 ?_;refine G.sindex 0 (s.headD 0) jU (fun hB => an (nn hB))  ?_;refine G.call Tryz.call94 (fun hB => c94 (s.headD 0) _) ?_;refine Np ?_;refine Z14 ?_;refine G.call Tryz.call95 (fun hB => c95 s _) ?_;refine R.pickOr ?_;refine R.fin [0, 21] ?_
 refine W.cond (fun ht21 => ?_) (fun ht21 => ?_)
 ·refine Tp ?_;exact K.fin (V.one V.tmp) ⟨by rw [O2, ht21]; rfl, rfl⟩
 refine Kx ?_;refine Fd ?_
 refine AW.loopC (α := Nat) (fun x => ⟨46, A2 0 (A7 s) (A2 3 (A3 (x : Nat)) (fun _ => .any)), Hp, [], [], none⟩) (fun x => x ≤ s.length ∧ ∀ (j : Nat) (y : UInt8), j < x → s[j]? = some y → H3 y = true) (fun x => s.length - x) (0) (by simp) (StLe.refl _) rfl (fun x hx => ?_)
 refine Nq ?_;refine R.slen jU ?_;refine R.lss ?_;refine R.fin [0, 3, 25] ?_
 refine W.cond (fun ht25 => ?_) (fun ht25 => ?_)
 ·have hlt : x < s.length := by simpa using ht25
  refine Jc ?_
  refine R.sindex x s[x] jU (List.getElem?_eq_getElem hlt)  ?_
  refine R.call Tryz.call94 (c94 s[x] _) ?_;refine R.not ?_;refine Z97 ?_
  refine G.sindex x s[x] jU (fun _ => List.getElem?_eq_getElem hlt)  ?_
  refine G.call Tryz.call96 (fun hB => c96 s[x] _) ?_;refine G.not ?_;refine Hf ?_;refine Z97 ?_
  refine G.sindex x s[x] jU (fun _ => List.getElem?_eq_getElem hlt)  ?_
  refine G.neq ?_;refine Hf ?_;refine R.fin [0, 3, 45] ?_
  refine W.cond (fun ht45 => ?_) (fun ht45 => ?_)
  ·refine Pw ?_;exact K.fin (V.one V.tmp) ⟨by rw [O2, ht21, eg hlt (kc ht45)]; rfl, rfl⟩
  refine Z85 ?_;refine Fd ?_;exact K.lpN (x + 1) ⟨hlt, Aq hlt hx.2 (kb ht45)⟩ (by omega) (StCut.of_eq rfl)
 refine Z47 ?_;refine Z67 ?_;exact K.fin (V.one V.tmp) ⟨by rw [O2, ht21, oa (H2 (by simp at ht25; omega) hx.2)]; rfl, rfl⟩

def Af (nm : Str) (c : List Col) : Int := match c.findIdx? (fun y => y.name == nm) with | some i => i | none => -1
theorem O3 {nm : List UInt8} {c : List Col} {x : Nat} (h : x < c.length) (h1 : c[x].name = nm) (h2 : ∀ (j : Nat) (y : Col), j < x → c[j]? = some y → ¬ (y.name = nm)) : Af nm c = x := by
 have : c.findIdx? (fun y => y.name == nm) = some x := by
  rw [List.findIdx?_eq_some_iff_getElem]
  exact ⟨h, by simpa using h1, fun j hj => by simpa using h2 j c[j] hj (List.getElem?_eq_getElem _)⟩
 simp [Af, this]
theorem Wj {nm : List UInt8} {c : List Col} (h : ∀ (j : Nat) (y : Col), c[j]? = some y → ¬ (y.name = nm)) : Af nm c = -1 := by
 have : c.findIdx? (fun y => y.name == nm) = none := by
  rw [List.findIdx?_eq_none_iff]
  intro y hy
  obtain ⟨j, hj⟩ := List.getElem?_of_mem hy
  simpa using h j y hj
 simp [Af, this]
structure OkCols (c : List Col) : Prop where
 len : c.length ≤ 1048576
 names : ∀ y ∈ c, y.name.length ≤ 1048576
theorem c50 (c : List Col) (hc : OkCols c) (nm : Str) (Hp : List AObj) : AFun Tryz.prog 50 [A4 c, A7 nm] Hp (A3 (Af nm c)) := by
 refine ACall.body [.tmp 4] [0, 1] Tryz.func50 Tryz.ntmps50 (fun d => ?_)
 refine Z75 ?_;refine Z52 ?_;refine Nx ?_
 refine AW.loopC (α := Nat) (fun x => ⟨20, A2 0 (A4 c) (A2 1 (A7 nm) (A2 5 (A3 (x : Nat)) (fun _ => .any))), Hp, [], [], none⟩) (fun x => x ≤ c.length ∧ ∀ (j : Nat) (y : Col), j < x → c[j]? = some y → ¬ (y.name = nm)) (fun x => c.length - x) (0) (by simp) (StLe.refl _) rfl (fun x hx => ?_)
 refine Z83 ?_;refine R.fin [0, 1, 5, 9] ?_
 refine W.cond (fun ht9 => ?_) (fun ht9 => ?_)
 ·have hlt : x < c.length := by simpa using ht9
  have hcl := hc.len
  refine Jc ?_;refine j6 ?_;refine Av ?_;refine R.seql ?_;refine R.fin [0, 1, 5, 18] ?_
  refine W.cond (fun ht18 => ?_) (fun ht18 => ?_)
  ·refine Tl ?_;refine Z61 ?_;exact K.fin (V.one V.tmp) ⟨by rw [O3 hlt (by simpa using ht18) hx.2], rfl⟩
  refine Z85 ?_;refine Nx ?_;exact K.lpN (x + 1) ⟨hlt, Aq hlt hx.2 (by simpa using ht18)⟩ (by omega) (StCut.of_eq rfl)
 refine Z47 ?_;exact qi

def Jj (c : List Col) (x : Nat) (y : Col) : Bool := !(((!Dy y.name || decide (y.kind < 1)) || decide ((3 : Int) < y.kind)) || (Af y.name c != (x : Int)))
def Cw (c : List Col) : Bool := c.zipIdx.all fun x => Jj c x.2 x.1
theorem colsM_true {c : List Col} : Cw c = true ↔ ∀ (j : Nat) (y : Col), c[j]? = some y → Jj c j y = true := by
 unfold Cw
 rw [List.all_eq_true]
 constructor
 ·intro h j y hj
  exact so
 rintro h ⟨y, j⟩ hx
 rw [List.mem_zipIdx_iff_getElem?] at hx
 exact h j y hx
theorem E6 {α : Type} {l : List α} {x : Nat} {p : Nat → α → Prop} (hlt : x < l.length) (h : ∀ (j : Nat) (y : α), j < x → l[j]? = some y → p j y) (hx : p x l[x]) : ∀ (j : Nat) (y : α), j < x + 1 → l[j]? = some y → p j y := by
 intro j y hj hy
 rcases Nat.lt_or_ge j x with h' | h'
 ·exact h j y h' hy
 have : j = x := by omega
 subst this
 rw [List.getElem?_eq_getElem hlt] at hy
 injection hy with hy
 subst hy
 exact hx
theorem Ev {α : Type} {l : List α} {x : Nat} {p : Nat → α → Prop} (hge : l.length ≤ x) (h : ∀ (j : Nat) (y : α), j < x → l[j]? = some y → p j y) : ∀ (j : Nat) (y : α), l[j]? = some y → p j y :=
 fun j y hy => h j y (by have := (List.getElem?_eq_some_iff.1 hy).1; omega) hy
theorem c45 (c : List Col) (hc : OkCols c) (Hp : List AObj) : AFun Tryz.prog 45 [A4 c] Hp (Am (Cw c)) := by
 refine ACall.body [.tmp 2] [0] Tryz.func45 Tryz.ntmps45 (fun d => ?_)
 refine Z55 ?_;refine Z52 ?_;refine Fd ?_
 refine AW.loopC (α := Nat) (fun x => ⟨44, A2 0 (A4 c) (A2 3 (A3 (x : Nat)) (fun _ => .any)), Hp, [], [], none⟩) (fun x => x ≤ c.length ∧ ∀ (j : Nat) (y : Col), j < x → c[j]? = some y → Jj c j y = true) (fun x => c.length - x) (0) (by simp) (StLe.refl _) rfl (fun x hx => ?_)
 refine Z83 ?_;refine R.fin [0, 3, 7] ?_
 refine W.cond (fun ht7 => ?_) (fun ht7 => ?_)
 ·have hlt : x < c.length := by simpa using ht7
  have hcl := hc.len
  refine Jc ?_;refine j6 ?_;refine R.call Tryz.call67 (c67 c[x].name (hc.names _ (List.getElem_mem hlt)) _) ?_;refine R.not ?_;refine Z97 ?_;refine o0 ?_;refine nk ?_;refine G.lss ?_;refine R.pickOr ?_;refine Z97 ?_;refine o0 ?_;refine nk ?_;refine Z95 ?_;refine Z97 ?_;refine G.move ?_;refine o0 ?_;refine G.fieldAddrRo (off := 0) jU Tryz.sizeOf9 ?_;refine K3 ?_;refine G.call Tryz.call50 (fun hB => c50 c hc c[x].name _) ?_;refine Wb ?_;refine R.fin [0, 3, 43] ?_
  refine W.cond (fun ht43 => ?_) (fun ht43 => ?_)
  ·refine Pw ?_
   exact K.fin (V.one V.tmp) ⟨by rw [show Cw c = false from Bool.eq_false_iff.2 fun h => by have := colsM_true.1 h x c[x] (List.getElem?_eq_getElem hlt); unfold Jj at this; rw [ht43] at this; cases this], rfl⟩
  refine Z85 ?_;refine Fd ?_;exact K.lpN (x + 1) ⟨hlt, E6 hlt hx.2 (by unfold Jj; rw [ht43]; rfl)⟩ (by omega) (StCut.of_eq rfl)
 refine Z47 ?_;refine Z67 ?_;exact K.fin (V.one V.tmp) ⟨by rw [colsM_true.2 (Ev (by simp at ht7; omega) hx.2)], rfl⟩

def B1 (c : List Col) : Bool := decide ((c.length : Int) ≤ 12) && Cw c
theorem c26 (c : List Col) (hc : OkCols c) (Hp : List AObj) : AFun Tryz.prog 26 [A4 c] Hp (Am (B1 c)) := by
 refine ACall.body [.tmp 2] [0] Tryz.func26 Tryz.ntmps26 (fun d => ?_)
 refine Mx ?_;refine R.len jU ?_;refine R.leq ?_;refine Z14 ?_;refine G.call Tryz.call45 (fun hB => c45 c hc _) ?_;refine Wh ?_;exact K.fin (V.one V.tmp) ⟨by unfold B1; simp, rfl⟩

def Cd (v : Val) : Bool := if v.kind == 0 then v.n == 0 && v.s == [] else if v.kind == 1 then v.s == [] else if v.kind == 2 then v.n == 0 && decide ((v.s.length : Int) ≤ 200) else v.kind == 3 && v.s == [] && decide (0 ≤ v.n) && decide (v.n ≤ 1)
theorem vt (v : Val) (Hp : List AObj) : AFun Tryz.prog 147 [am v] Hp (Am (Cd v)) := by
 refine ACall.body [.tmp 2] [0] Tryz.func147 Tryz.ntmps147 (fun d => ?_)
 refine dy ?_;refine Ar ?_;refine R.fin [1] ?_;refine ag ?_;refine R.eql ?_;refine R.fin [1, 5] ?_
 refine W.cond (fun ht5 => ?_) (fun ht5 => ?_)
 ·refine Ba ?_;refine ni ?_;refine Mt ?_;refine iy ?_;refine G.seql ?_;refine Wh ?_;refine K.thR ?_;exact sq
 refine Z4 ?_;refine ag ?_;refine R.eql ?_;refine R.fin [1, 16] ?_
 refine W.cond (fun ht16 => ?_) (fun ht16 => ?_)
 ·refine Ba ?_;refine nj ?_;refine Z11 ?_;refine Z2 ?_;refine K.thR ?_;exact K.fin (V.one V.tmp) ⟨by simp [Cd, ht5, ht16], rfl⟩
 refine Z4 ?_;refine ag ?_;refine R.eql ?_;refine R.fin [1, 22] ?_
 refine W.cond (fun ht22 => ?_) (fun ht22 => ?_)
 ·refine Ba ?_;refine ni ?_;refine Mt ?_;refine iy ?_;refine G.slen jU ?_;refine G.leq ?_;refine Wh ?_;refine K.thR ?_;exact sr
 refine Hz ?_;refine pw ?_;refine Mt ?_;refine iy ?_;refine G.seql ?_;refine Rz ?_;refine iz ?_;refine G.geq ?_;refine Rz ?_;refine iz ?_;refine G.leq ?_;refine Wh ?_;exact sr

theorem ob (e : Bool) (n : Int) : (e && (n == 0 || n == 1)) = (e && decide (0 ≤ n) && decide (n ≤ 1)) := by
 cases e
 ·rfl
 rw [Bool.eq_iff_iff]
 simp
 omega
theorem tj (v : Val) (Hp : List AObj) : AFun Tryz.prog 118 [am v] Hp (Am (Cd v)) := by
 refine ACall.body [.tmp 2] [0] Tryz.func118 Tryz.ntmps118 (fun d => ?_)
 refine dy ?_;refine Ar ?_;refine R.fin [1] ?_;refine ag ?_;refine R.fin [1, 4] ?_;refine Ld ?_;refine R.fin [1, 4, 5] ?_
 refine W.cond (fun ht5 => ?_) (fun ht5 => ?_)
 ·refine Z88 ?_;refine R.build (places := #[(0, 1), (1, 1), (2, 1)]) jU (fun w => by simp) jZ ?_;refine R.eqlAgg eb (Ky v.kind v.n 0 0 v.s []) ?_;refine Zy ?_;exact sq
 refine Z37 ?_;refine R.fin [1, 4, 10] ?_
 refine W.cond (fun ht10 => ?_) (fun ht10 => ?_)
 ·refine Ba ?_;refine nj ?_;refine Z11 ?_;refine Z12 ?_;exact K.fin (V.one V.tmp) ⟨by simp [Cd, ht5, ht10], rfl⟩
 refine Z37 ?_;refine R.fin [1, 4, 15] ?_
 refine W.cond (fun ht15 => ?_) (fun ht15 => ?_)
 ·refine Ba ?_;refine ni ?_;refine Mt ?_;refine iy ?_;refine G.slen jU ?_;refine G.leq ?_;refine Z25 ?_;refine Z12 ?_;exact K.fin (V.one V.tmp) ⟨by simp [Cd, ht5, ht10, ht15], rfl⟩
 refine Z37 ?_;refine R.fin [1, 26] ?_
 refine W.cond (fun ht26 => ?_) (fun ht26 => ?_)
 ·refine Ba ?_;refine nj ?_;refine R.seql ?_;refine Av ?_;refine iz ?_;refine G.eql ?_;refine G.move ?_;refine iz ?_;refine G.eql ?_;refine G.pickOr ?_;refine Z25 ?_;refine Z12 ?_;exact K.fin (V.one V.tmp) ⟨by simp [Cd, ht5, ht10, ht15, ht26]; rw [ob], rfl⟩
 refine To ?_;exact K.fin (V.one V.tmp) ⟨by simp [Cd, ht5, ht10, ht15, ht26], rfl⟩

def Hw (c : List Col) : Bool := decide ((50 : Int) < c.length) || c.any fun y => decide ((100 : Int) < y.name.length)
theorem tm {α : Type} [DecidableEq α] {a b : List α} (h : ((a.length : Int) != b.length) = true) : decide (a = b) = false := by
 rw [decide_eq_false_iff_not]
 rintro rfl
 simp at h
theorem vu {α : Type} [DecidableEq α] {a b : List α} {x : Nat} (h1 : x < a.length) (h2 : x < b.length) (h : a[x] ≠ b[x]) : decide (a = b) = false := by
 rw [decide_eq_false_iff_not]
 rintro rfl
 exact h rfl
theorem tp {α β : Type} {a : List α} {b : List β} (hl : ((a.length : Int) != b.length) = false) : a.length = b.length := by simp at hl; omega
theorem tq {α : Type} [DecidableEq α] {a b : List α} (hl : ((a.length : Int) != b.length) = false) (h : ∀ (j : Nat) (y : α), a[j]? = some y → b[j]? = some y) : decide (a = b) = true := by
 rw [decide_eq_true_eq]
 have hl' : a.length = b.length := tp hl
 apply List.ext_getElem? fun i => ?_
 cases hi : a[i]? with
 | some y => exact (h i y hi).symm
 | none => rw [List.getElem?_eq_none_iff] at hi; exact (List.getElem?_eq_none (by omega)).symm
theorem od {α β γ δ : Type} {a : List α} {b : List β} {f : α → γ} {g : β → δ} (hl : (((a.map f).length : Int) != (b.map g).length) = false) : a.length = b.length := by simp at hl; omega
theorem K4 {α : Type} {c : List α} {p : Nat → α → Bool} : (c.zipIdx.all fun x => p x.2 x.1) = true ↔ ∀ (j : Nat) (y : α), c[j]? = some y → p j y = true := by
 rw [List.all_eq_true]
 constructor
 ·intro h j y hj
  exact so
 rintro h ⟨y, j⟩ hx
 rw [List.mem_zipIdx_iff_getElem?] at hx
 exact h j y hx
theorem vw (y : Col) (nm : Str) (Hp : List AObj) : AFun Tryz.prog 111 [B3 y, .ro [A7 nm]] Hp (Am (y.name == nm)) := by
 refine ACall.body [.tmp 3] [0, 1] Tryz.func111 Tryz.ntmps111 (fun d => ?_)
 refine Z56 ?_;refine R.fin [1, 2] ?_;refine Ba ?_;refine Z79 ?_;refine Dw ?_;refine Z11 ?_;refine R.fin [3] ?_;refine AW.ret ?_;exact S3

theorem vz (c : List Col) (hc : OkCols c) (nm : Str) (Hp : List AObj) : AFun Tryz.prog 110 [A4 c, .fn (.func 111) [] [.ro [A7 nm]]] Hp (A3 (Af nm c)) := by
 refine ACall.body [.tmp 4] [0, 1] Tryz.func110 Tryz.ntmps110 (fun d => ?_)
 refine ai ?_
 refine AW.loopC (α := Nat) (fun x => ⟨19, A2 0 (A4 c) (A2 1 (.fn (.func 111) [] [.ro [A7 nm]]) (A2 7 (A3 c.length) (A2 8 (A3 (x : Nat)) (fun _ => .any)))), Hp, [], [], none⟩) (fun x => x ≤ c.length ∧ ∀ (j : Nat) (y : Col), j < x → c[j]? = some y → ¬ (y.name = nm)) (fun x => c.length - x) (0) (by simp) (StLe.of_eq (by simp)) rfl (fun x hx => ?_)
 refine Zp ?_
 refine W.condX (fun ht9 => ?_) (fun ht9 => ?_)
 ·have hlt : x < c.length := by simpa using ht9
  have hcl := hc.len
  refine af ?_;refine Z76 ?_;refine R.callV Tryz.call111 (vw c[x] nm _) ?_;refine aj ?_
  refine W.cond (fun ht16 => ?_) (fun ht16 => ?_)
  ·refine Tl ?_;refine Z61 ?_;exact K.fin (V.one V.tmp) ⟨by rw [O3 hlt (by simpa using ht16) hx.2], rfl⟩
  refine Ja ?_;refine R.fin [0, 1, 7, 8] ?_;exact K.lpN (x + 1) ⟨hlt, Aq hlt hx.2 (by simpa using ht16)⟩ (by omega) (StCut.of_eq rfl)
 refine Z23 ?_;exact qi

theorem c84 (c : List Col) (hc : OkCols c) (nm : Str) (Hp : List AObj) : AFun Tryz.prog 84 [A4 c, A7 nm] Hp (A3 (Af nm c)) := by
 refine ACall.body [.tmp 4] [0, 1] Tryz.func84 Tryz.ntmps84 (fun d => ?_)
 refine Tm ?_;refine Z0 ?_;refine R.makeFunc ?_;refine R.call Tryz.call110 (vz c hc nm _) ?_;refine Ar ?_;exact Zo

def ap (s of : Str) : Int := (s.length : Int) - (Lib.trimLeftS s of).length
theorem ke (s of : Str) : (Lib.trimLeftS s of).length ≤ s.length := by
 unfold Lib.trimLeftS
 exact (List.dropWhile_sublist _).length_le
def Hj : Str := [32, 97, 100, 100, 32, 100, 114, 111, 112, 32, 114, 101, 110, 97, 109, 101, 32, 115, 112, 108, 105, 116, 32, 109, 101, 114, 103, 101, 32, 114, 101, 116, 121, 112, 101, 32, 105, 110, 116, 111, 32, 116, 111, 32, 98, 97, 99, 107, 32, 97, 110, 100, 32, 111, 114, 32, 110, 111, 116, 32, 116, 114, 117, 101, 32, 102, 97, 108, 115, 101, 32, 110, 117, 108, 108, 32, 105, 110, 116, 32, 116, 101, 120, 116, 32, 98, 111, 111, 108, 32, 115, 101, 108, 101, 99, 116, 32, 119, 104, 101, 114, 101, 32, 102, 114, 111, 109, 32, 108, 105, 109, 105, 116, 32]
def letters : Str := [97, 98, 99, 100, 101, 102, 103, 104, 105, 106, 107, 108, 109, 110, 111, 112, 113, 114, 115, 116, 117, 118, 119, 120, 121, 122]
def tails : Str := [97, 98, 99, 100, 101, 102, 103, 104, 105, 106, 107, 108, 109, 110, 111, 112, 113, 114, 115, 116, 117, 118, 119, 120, 121, 122, 48, 49, 50, 51, 52, 53, 54, 55, 56, 57, 95]
theorem tr (s of : Str) (hs : s.length ≤ 1048576) (ho : of.length ≤ 1048576) (ha : ∀ c ∈ of, c.toNat < 128) (Hp : List AObj) : AFun Tryz.prog 141 [A7 s, A7 of] Hp (A3 (ap s of)) := by
 refine ACall.body [.tmp 4] [0, 1] Tryz.func141 Tryz.ntmps141 (fun d => ?_)
 refine Z75 ?_;refine Z0 ?_;refine R.slen jU ?_;refine Z58 ?_;refine R.call Tryz.call164 (vn s of (by omega) ha _) ?_;refine R.slen jU ?_
 have htl := ke s of
 refine R.sub64 ?_;refine Ar ?_;exact Zo

def Fs (s : Str) : Bool := (!(s == []) && !Lib.contains s [32]) && Lib.contains Hj ([32] ++ s ++ [32])
theorem w4 (s : Str) (hs : s.length ≤ 1048576) (Hp : List AObj) : AFun Tryz.prog 142 [A7 s] Hp (Am (Fs s)) := by
 refine ACall.body [.tmp 2] [0] Tryz.func142 Tryz.ntmps142 (fun d => ?_)
 refine Mx ?_;refine R.sneq ?_;refine Z14 ?_;refine G.call Tryz.call143 (fun hB => ka s [32] (by omega) _) ?_;refine G.not ?_;refine Zz ?_;refine G.sadd ?_;refine G.sadd ?_;refine G.call Tryz.call143 (fun hB => ka Hj ([32] ++ s ++ [32]) (by decide) _) ?_;exact ju

theorem oe {s : Str} {b c : Bool} (h : (((!(s == []) && b) && c) == true) = true) : 1 ≤ s.length := by
 cases s with
 | nil => simp at h
 | cons x r => simp
def Bw (s : Str) : Bool := ((((!(s == []) && decide ((s.length : Int) ≤ 16)) && (ap s tails == (s.length : Int))) && (ap (s.take 1) letters == 1)) && !Fs s)
theorem kf (s : Str) (hs : s.length ≤ 1048576) (Hp : List AObj) : AFun Tryz.prog 119 [A7 s] Hp (Am (Bw s)) := by
 refine ACall.body [.tmp 2] [0] Tryz.func119 Tryz.ntmps119 (fun d => ?_)
 refine Mx ?_;refine R.sneq ?_;refine Z14 ?_;refine G.slen jU ?_;refine G.leq ?_;refine Zz ?_;refine G.call Tryz.call141 (fun hB => tr s tails hs (by decide) (by decide) _) ?_;refine G.move ?_;refine G.slen jU ?_;refine G.eql ?_;refine Zz ?_;refine G.scutH 1 jU (fun _ => Nat.zero_le _) (fun hB => oe hB) ?_
 refine G.call Tryz.call141 (fun hB => tr (s.take 1) letters (by simp; omega) (by decide) (by decide) _) ?_
 refine G.eql ?_;refine Zz ?_;refine G.call Tryz.call142 (fun hB => w4 s hs _) ?_;refine G.not ?_;exact ju

end Go.SX.Nb
namespace Go.SX.Nb
open Go Go.SX Go.Proofs Go.RowKit
variable [ErrAt]
set_option maxRecDepth 4000
end Go.SX.Nb
namespace Go.SX.Nb
open Go Go.SX Go.Proofs
variable [ErrAt]
set_option maxRecDepth 4000
def Tw : Str := [32, 105, 110, 116, 32, 116, 101, 120, 116, 32, 98, 111, 111, 108]
def kindNames : List Str := [[], [105, 110, 116], [116, 101, 120, 116], [98, 111, 111, 108]]
theorem aq : Ie Tw [32] = kindNames := by kernel_rfl
def Bn (k : Int) : Str := if k < 1 ∨ 3 < k then [] else kindNames.getD k.toNat []
theorem c40 (k : Int) (Hp : List AObj) : AFun Tryz.prog 40 [A3 k] Hp (A7 (Bn k)) := by
 refine ACall.body [.tmp 2] [0] Tryz.func40 Tryz.ntmps40 (fun d => ?_)
 refine Nv ?_;refine R.lss ?_;refine Wf ?_;refine R.fin [0, 8] ?_
 refine W.cond (fun ht8 => ?_) (fun ht8 => ?_)
 ·refine Tp ?_;exact K.fin (V.one V.tmp) ⟨by rw [show Bn k = [] from if_pos (by simpa using ht8)], rfl⟩
 refine Hz ?_
 have hk : 1 ≤ k ∧ k ≤ 3 := by simp at ht8; omega
 have hget : (kindNames.map A7)[k.toNat]? = some (A7 (kindNames.getD k.toNat [])) := by
  have hlt : k.toNat < kindNames.length := by show k.toNat < 4; omega
  rw [List.getElem?_map, List.getElem?_eq_getElem hlt, List.getD_eq_getElem?_getD, List.getElem?_eq_getElem hlt]
  rfl
 refine R.call Tryz.call34 (aq ▸ c34 Tw [32] (by decide) (by decide) _) ?_;refine Av ?_;refine sm ?_;exact qh

def Iy (s of : Str) : Bool := (!(s == []) && !Lib.contains s [32]) && Lib.contains of ([32] ++ s ++ [32])
theorem w5 (s of : Str) (hs : s.length ≤ 1048576) (ho : of.length ≤ 1048576) (Hp : List AObj) : AFun Tryz.prog 120 [A7 s, A7 of] Hp (Am (Iy s of)) := by
 refine ACall.body [.tmp 4] [0, 1] Tryz.func120 Tryz.ntmps120 (fun d => ?_)
 refine Z75 ?_;refine Z0 ?_;refine R.sneq ?_;refine Z14 ?_;refine G.call Tryz.call143 (fun hB => ka s [32] (by omega) _) ?_;refine G.not ?_;refine Hf ?_;refine Z97 ?_;refine G.sadd ?_;refine G.sadd ?_;refine G.call Tryz.call143 (fun hB => ka of ([32] ++ s ++ [32]) (by omega) _) ?_;refine Z25 ?_;exact Zo

def Qc : Str := [108, 101, 110, 58, 49, 32, 115, 116, 114, 58, 49, 32, 110, 117, 109, 58, 49, 32, 105, 115, 110, 117, 108, 108, 58, 49, 32, 110, 118, 108, 58, 50, 32, 108, 101, 102, 116, 58, 50, 32, 114, 105, 103, 104, 116, 58, 50, 32, 105, 102, 58, 51]
def arityList : List (Str × UInt8) := [([108, 101, 110], 49), ([115, 116, 114], 49), ([110, 117, 109], 49), ([105, 115, 110, 117, 108, 108], 49), ([110, 118, 108], 50), ([108, 101, 102, 116], 50), ([114, 105, 103, 104, 116], 50), ([105, 102], 51)]
def F6 (p : Str × UInt8) : Str := p.1 ++ [58, p.2]
theorem Wk : Ie Qc [32] = arityList.map F6 := by kernel_rfl
theorem eh {p : Str × UInt8} (hp : p ∈ arityList) : Lib.cut (F6 p) [58] = (p.1, [p.2], true) := by
 have h : (arityList.all fun p => decide (Lib.cut (F6 p) [58] = (p.1, [p.2], true))) = true := by kernel_rfl
 exact of_decide_eq_true (List.all_eq_true.1 h p hp)
def og (p : Str × UInt8) : Int := IntKind.i64.wrap (IntKind.u8.wrap ((p.2.toNat : Int) - 48))
def Bb (nm : Str) : Int := match arityList.find? (fun p => p.1 == nm) with | some p => og p | none => -1
theorem Xy {α : Type} {p : α → Bool} {l : List α} {x : Nat} (h : x < l.length) (hp : p l[x] = true) (h2 : ∀ (j : Nat) (y : α), j < x → l[j]? = some y → p y = false) : l.find? p = some l[x] := by
 rw [List.find?_eq_some_iff_getElem]
 exact ⟨hp, x, h, rfl, fun j hj => by simpa using h2 j l[j] hj (List.getElem?_eq_getElem _)⟩
theorem Qd {α : Type} {p : α → Bool} {l : List α} (h : ∀ (j : Nat) (y : α), l[j]? = some y → p y = false) : l.find? p = none := by
 rw [List.find?_eq_none]
 intro y hy
 obtain ⟨j, hj⟩ := List.getElem?_of_mem hy
 simpa using h j y hj
theorem Lh : arityList.length = 8 := rfl
theorem ar {p : Str × UInt8} (hp : p ∈ arityList) : (F6 p).length < 4294967281 := by
 have h : (arityList.all fun p => decide ((F6 p).length < 4294967281)) = true := by kernel_rfl
 exact of_decide_eq_true (List.all_eq_true.1 h p hp)
theorem w6 (nm : Str) (Hp : List AObj) : AFun Tryz.prog 121 [A7 nm] Hp (A3 (Bb nm)) := by
 refine ACall.body [.tmp 2] [0] Tryz.func121 Tryz.ntmps121 (fun d => ?_)
 refine Z55 ?_;refine Z16 ?_;refine R.call Tryz.call34 (Wk ▸ c34 Qc [32] (by decide) (by decide) _) ?_;refine Z64 ?_;refine R.fin [0, 8, 9, 10] ?_
 refine AW.loopC (α := Nat) (fun x => ⟨28, A2 0 (A7 nm) (A2 8 (C2 (arityList.map F6)) (A2 9 (A3 8) (A2 10 (A3 (x : Nat)) (fun _ => .any)))), Hp, [], [], none⟩) (fun x => x ≤ 8 ∧ ∀ (j : Nat) (y : Str × UInt8), j < x → arityList[j]? = some y → (y.1 == nm) = false) (fun x => 8 - x) (0) (by simp) (StLe.refl _) rfl (fun x hx => ?_)
 refine Z57 ?_;refine R.fin [0, 8, 9, 10, 11] ?_
 refine W.condX (fun ht11 => ?_) (fun ht11 => ?_)
 ·have hlt : x < arityList.length := by rw [Lh]; simp at ht11; omega
  have hal := Lh
  have hget : ((arityList.map F6).map A7)[x]? = some (A7 (F6 arityList[x])) := by rw [List.map_map]; exact A9 hlt
  refine J9 ?_;refine R.indexAddr (x) (A7 (F6 arityList[x])) jU jS hget ?_;refine ja ?_;refine R.fin [0, 4, 8, 9, 10] ?_;refine Z0 ?_;refine R.call Tryz.call144 ((eh (List.getElem_mem hlt)) ▸ vm (F6 arityList[x]) [58] (ar (List.getElem_mem hlt)) _) ?_;refine Z60 ?_;refine R.extract ?_;refine Z8 ?_;refine Ar ?_;refine R.fin [0, 5, 6, 8, 9, 10] ?_;refine Z32 ?_;refine R.seql ?_;refine R.fin [0, 6, 8, 9, 10, 22] ?_
  refine W.cond (fun ht22 => ?_) (fun ht22 => ?_)
  ·refine Z0 ?_;refine R.sindex 0 arityList[x].2 jU rfl  ?_;refine R.sub ?_;refine R.iconv jU jU ?_;refine Zy ?_;refine Z33 ?_;exact K.fin (V.one V.tmp) ⟨by rw [Bb, Xy hlt ht22 hx.2]; rfl, rfl⟩
  refine Ja ?_;refine R.fin [0, 8, 9, 10] ?_;exact K.lpN (x + 1) ⟨by omega, Aq hlt hx.2 ht22⟩ (by omega) (StCut.of_eq rfl)
 have hal := Lh
 refine Z23 ?_;refine Z67 ?_;exact K.fin (V.one V.tmp) ⟨by rw [Bb, Qd (H2 (by simp at ht11; omega) hx.2)], rfl⟩

theorem w7 (n : Int) (h0 : -9223372036854775808 ≤ n) (h1 : n ≤ 9223372036854775807) (Hp : List AObj) : AFun Tryz.prog 123 [A3 n] Hp (A7 (Lib.itoa n)) := by
 refine ACall.body [.tmp 2] [0] Tryz.func123 Tryz.ntmps123 (fun d => ?_)
 refine Mx ?_;refine R.call Tryz.call145 (vq n h0 h1 _) ?_;exact Zn

theorem Wl {p s : Str} (h : p.isPrefixOf s = true) : p.length ≤ s.length := (List.isPrefixOf_iff_prefix.1 h).length_le
theorem Wm (s o : Str) (h : 0 ≤ Lib.index s o) : (Lib.index s o).toNat + o.length ≤ s.length := by
 induction s with
 | nil =>
  unfold Lib.index at h ⊢
  split at h
  ·rename_i he
   rw [if_pos he]
   cases o with
   | nil => simp
   | cons a b => simp at he
  omega
 | cons b l ih =>
  unfold Lib.index at h ⊢
  split at h
  ·rename_i hp
   rw [if_pos hp]
   have := Wl hp
   simpa using this
  rename_i hp
  rw [if_neg hp]
  split at h
  ·omega
  rename_i hi
  rw [if_neg hi]
  have hg := Lib.index_ge l o
  have hi' : Lib.index l o ≠ -1 := by simpa using hi
  have := ih (by omega)
  simp only [List.length_cons]
  omega
def Xz : Val := ⟨0, 0, []⟩
def Ty (b : Bool) : Val := ⟨3, if b then 1 else 0, []⟩
def Tz (n : Int) : Prop := -9223372036854775808 ≤ n ∧ n ≤ 9223372036854775807
def Dg (v : Val) : Str :=
 if !Cd v then [] else if v.kind == 1 then Lib.itoa v.n else if v.kind == 2 then [39] ++ Lib.replaceAll v.s [39] [39, 39] ++ [39]
 else if v.kind == 0 then [110, 117, 108, 108] else if v.n == 1 then [116, 114, 117, 101] else [102, 97, 108, 115, 101]
theorem au {v : Val} (h : Cd v = true) (h2 : (v.kind == 2) = true) : v.s.length ≤ 200 := by
 have e : v.kind = 2 := by simpa using h2
 unfold Cd at h
 rw [e] at h
 simp at h
 omega
theorem ek (s o : Str) (ho : 1 ≤ o.length) : Lib.countB ⟨s.toArray⟩ ⟨o.toArray⟩ ≤ s.length := Lib.countB_le ⟨o.toArray⟩ (by simpa [ByteArray.size] using ho) s.length ⟨s.toArray⟩ (by simp [ByteArray.size])
theorem M9 (o n : Str) (B : Nat) (hn : n.length ≤ B * o.length) (hB : 1 ≤ B) : ∀ (k : Nat) (s : Str), (Lib.replaceK o n k s).length ≤ B * s.length
 | 0, s => by rw [Lib.replaceK]; exact Nat.le_mul_of_pos_left _ hB
 | k + 1, s => by
  rw [Lib.replaceK]
  split
  ·exact Nat.le_mul_of_pos_left _ hB
  rename_i h
  have ih := M9 o n B hn hB k (s.drop ((Lib.index s o).toNat + o.length))
  have hx : (Lib.index s o).toNat + o.length ≤ s.length := by
   have hg := Lib.index_ge s o
   have hi : Lib.index s o ≠ -1 := by simpa using h
   exact Wm s o (by omega)
  simp only [List.length_append, List.length_drop, List.length_take] at ih ⊢
  have h1 : min (Lib.index s o).toNat s.length ≤ B * (Lib.index s o).toNat := Nat.le_trans (Nat.min_le_left _ _) (Nat.le_mul_of_pos_left _ hB)
  have h2 : B * s.length = B * (Lib.index s o).toNat + B * o.length + B * (s.length - ((Lib.index s o).toNat + o.length)) := by
   rw [← Nat.mul_add, ← Nat.mul_add]; congr 1; omega
  omega
theorem Q0 (s o n : Str) (B : Nat) (hn : n.length ≤ B * o.length) (hB : 1 ≤ B) : (Lib.replaceAll s o n).length ≤ B * s.length := by
 unfold Lib.replaceAll Lib.replace
 split
 ·exact Nat.le_mul_of_pos_left _ hB
 exact M9 o n B hn hB _ s
theorem c92 (v : Val) (hn : Tz v.n) (Hp : List AObj) : AFun Tryz.prog 92 [am v] Hp (A7 (Dg v)) := by
 refine ACall.body [.tmp 2] [0] Tryz.func92 Tryz.ntmps92 (fun d => ?_)
 refine Z89 ?_;refine Z15 ?_;refine Z86 ?_;refine R.call Tryz.call118 (tj v _) ?_;refine dx ?_;refine R.fin [1, 3] ?_
 refine W.cond (fun ht3 => ?_) (fun ht3 => ?_)
 ·refine Z92 ?_;exact K.fin (V.one V.tmp) ⟨by simp only [Dg, ht3, if_true], rfl⟩
 have hp : Cd v = true := by simpa using ht3
 refine Nr ?_;refine Z22 ?_;refine R.fin [1, 7] ?_
 refine W.cond (fun ht7 => ?_) (fun ht7 => ?_)
 ·refine Ba ?_;refine j3 ?_;refine R.call Tryz.call123 (w7 v.n hn.1 hn.2 _) ?_;refine Zy ?_;exact K.fin (V.one V.tmp) ⟨by simp only [Dg, hp, ht7, Bool.not_true, Bool.false_eq_true, if_false, if_true]; try rfl, rfl⟩
 refine Nr ?_;refine Z22 ?_;refine R.fin [1, 14] ?_
 refine W.cond (fun ht14 => ?_) (fun ht14 => ?_)
 ·refine Ba ?_;refine da ?_
  have hl := au hp ht14
  have hrl := Q0 v.s [39] [39, 39] 2 (by decide) (by decide)
  refine R.call Tryz.call124 (vp v.s [39] [39, 39] (by omega) (by decide) (by have := ek v.s [39] (by decide); simp; omega) _) ?_
  refine R.sadd ?_;refine R.sadd ?_;refine Zy ?_;exact K.fin (V.one V.tmp) ⟨by simp only [Dg, hp, ht7, ht14, Bool.not_true, Bool.false_eq_true, if_false, if_true]; try rfl, rfl⟩
 refine Nr ?_;refine Z22 ?_;refine R.fin [1, 23] ?_
 refine W.cond (fun ht23 => ?_) (fun ht23 => ?_)
 ·refine Z92 ?_;exact K.fin (V.one V.tmp) ⟨by simp only [Dg, hp, ht7, ht14, ht23, Bool.not_true, Bool.false_eq_true, if_false, if_true]; try rfl, rfl⟩
 refine Ba ?_;refine j3 ?_;refine Z22 ?_;refine R.fin [27] ?_
 refine W.cond (fun ht27 => ?_) (fun ht27 => ?_)
 ·refine Z92 ?_;exact su
 refine To ?_;exact su

def oh (s : Str) : Str := Lib.replaceAll ((s.take (s.length - 1)).drop 1) [39, 39] [39]
def mc (s : Str) : Val := ⟨2, 0, (oh s).take 200⟩
def tw (s : Str) : Val × Int := if !(Dg (mc s) == s) then (Xz, 7) else (mc s, 0)
def tx (s : Str) : Bool := (decide ((1 : Int) < s.length) && Lib.hasPrefix s [39]) && Lib.hasSuffix s [39]
def tz (s : Str) : Val × Int :=
 if s == [110, 117, 108, 108] then (Xz, 0) else if (s == [116, 114, 117, 101]) || (s == [102, 97, 108, 115, 101]) then (Ty (s == [116, 114, 117, 101]), 0)
 else if tx s then tw s else if (O1 s).2 == 0 then (⟨1, (O1 s).1, []⟩, 0) else if (O1 s).2 == 4 then (Xz, 4) else (Xz, 7)
structure Tok where
 kind : Int
 text : Str
 at_ : Nat
 deriving DecidableEq
inductive Expr where
 | mk (op : Int) (text : Str) (val : Val) (kids : List Expr)
def Expr.op : Expr → Int | .mk o _ _ _ => o
def Expr.text : Expr → Str | .mk _ t _ _ => t
def Expr.val : Expr → Val | .mk _ _ v _ => v
def Expr.kids : Expr → List Expr | .mk _ _ _ k => k
mutual
def A5 : Expr → AV
 | .mk o t v k => .agg [.v (.int .i64 o), .v (sv t), .v (.int .i64 v.kind), .v (.int .i64 v.n), .v (sv v.s), .slice false 6 (Li k)]
def Li : List Expr → List AV
  | [] => []
  | e :: r => A5 e :: Li r
 end
theorem O4 : ∀ l, Li l = l.map A5
 | [] => rfl
 | e :: r => by rw [Li, O4 r]; rfl
theorem Bg (e : Expr) : A5 e = .agg [.v (.int .i64 e.op), .v (sv e.text), .v (.int .i64 e.val.kind), .v (.int .i64 e.val.n), .v (sv e.val.s), .slice false 6 (e.kids.map A5)] := by
 cases e with
 | mk o t v k => rw [A5, O4]; rfl
attribute [go_sem] Bg
def Iz : Str := [32, 111, 114, 32, 32, 97, 110, 100, 32, 32, 61, 32, 33, 61, 32, 60, 32, 60, 61, 32, 62, 32, 62, 61, 32, 32, 43, 32, 45, 32, 38, 32, 32, 42, 32, 47, 32, 37, 32]
def H4 (v : Val) : Bool := v.kind == 0 && v.n == 0 && v.s == []
def Bp (e : Expr) : Bool :=
 if e.op == 1 then ((Cd e.val && decide (0 ≤ e.val.n)) && (e.text == [])) && ((e.kids.length : Int) == 0)
 else if e.op == 2 then (H4 e.val && Bw e.text) && ((e.kids.length : Int) == 0)
 else if e.op == 3 || e.op == 4 then (H4 e.val && (e.text == [])) && ((e.kids.length : Int) == 1)
 else if e.op == 5 then (H4 e.val && Iy e.text Iz) && ((e.kids.length : Int) == 2)
 else if e.op == 6 then H4 e.val && (Bb e.text == (e.kids.length : Int))
 else false
theorem c90 (e : Expr) (hs : e.text.length ≤ 1048576) (Hp : List AObj) : AFun Tryz.prog 90 [A5 e] Hp (Am (Bp e)) := by
 refine ACall.body [.tmp 2] [0] Tryz.func90 Tryz.ntmps90 (fun d => ?_)
 refine Z89 ?_;refine Ba ?_;refine si ?_;refine R.eqlAgg eb (Ky e.val.kind e.val.n 0 0 e.val.s []) ?_;refine Ar ?_;refine R.fin [1, 3] ?_;refine Kv ?_;refine R.fin [1, 3, 9] ?_;refine Ld ?_;refine R.fin [1, 3, 9, 10] ?_
 refine W.cond (fun ht10 => ?_) (fun ht10 => ?_)
 ·refine Ba ?_;refine cv ?_;refine R.call Tryz.call118 (tj e.val _) ?_;refine Av ?_;refine s0 ?_;refine K3 ?_;refine G.geq ?_;refine Rz ?_;refine Lf ?_;exact dg
 refine Z37 ?_;refine R.fin [1, 3, 9, 32] ?_
 refine W.cond (fun ht32 => ?_) (fun ht32 => ?_)
 ·refine Z32 ?_;refine Z26 ?_;refine G.call Tryz.call119 (fun hB => kf e.text hs _) ?_;exact dg
 refine Z16 ?_;refine Z22 ?_;refine R.fin [1, 3, 9, 46] ?_
 refine W.cond (fun ht46 => ?_) (fun ht46 => ?_)
 ·refine Z4 ?_
  refine W.cond (fun ht46 => ?_) (fun ht46 => ?_)
  ·refine Z32 ?_;refine Lf ?_;exact dg
  refine Z37 ?_;refine R.fin [1, 3, 9, 61] ?_
  refine W.cond (fun ht61 => ?_) (fun ht61 => ?_)
  ·refine Z32 ?_;refine Z26 ?_;exact qr
  refine Z37 ?_;refine R.fin [1, 3, 75] ?_
  refine W.cond (fun ht75 => ?_) (fun ht75 => ?_)
  ·refine ru ?_;refine H.fieldAddrRo (off := 1) jU Tryz.sizeOf9 ?_;refine Hg ?_;refine rj ?_;refine Hg ?_;refine H.len jU ?_;refine D.tail ?_;exact na
  exact r9
 refine Hh ?_;refine Z22 ?_;refine R.fin [1, 3, 9, 46] ?_;refine K.thN ?_
 refine W.cond (fun ht46 => ?_) (fun ht46 => ?_)
 ·refine Z32 ?_;refine Lf ?_;exact dg
 refine Z37 ?_;refine R.fin [1, 3, 9, 61] ?_
 refine W.cond (fun ht61 => ?_) (fun ht61 => ?_)
 ·refine Z32 ?_;refine Z26 ?_;exact qr
 refine Z37 ?_;refine R.fin [1, 3, 75] ?_
 refine W.cond (fun ht75 => ?_) (fun ht75 => ?_)
 ·refine ru ?_;refine H.fieldAddrRo (off := 1) jU Tryz.sizeOf9 ?_;refine Hg ?_;refine rj ?_;refine Hg ?_;refine H.len jU ?_;refine D.tail ?_;exact na
 exact r9

mutual
def Bc (d : Int) : Expr → List (Int × Expr)
 | .mk o t v k => (d, .mk o t v k) :: Ap (d + 1) k
def Ap (d : Int) : List Expr → List (Int × Expr)
  | [] => []
  | e :: r => Bc d e ++ Ap d r
 end
theorem Ew (d : Int) (e : Expr) : Bc d e = (d, e) :: Ap (d + 1) e.kids := by cases e; rfl
theorem Gt (d : Int) : ∀ a b, Ap d (a ++ b) = Ap d a ++ Ap d b
 | [], b => rfl
 | e :: r, b => by rw [List.cons_append, Ap, Ap, Gt d r b, List.append_assoc]
theorem U0 (d : Int) (l : List Expr) {x : Nat} (h : x < l.length) : Ap d (l.take (x + 1)) = Ap d (l.take x) ++ Bc d l[x] := by
 rw [List.take_succ_eq_append_getElem h, Gt]
 simp [Ap]
theorem Kz (d : Int) (l : List Expr) {x : Nat} (h : x < l.length) : Ap d l = Ap d (l.take x) ++ (Bc d l[x] ++ Ap d (l.drop (x + 1))) := by
 have e : l = l.take x ++ (l[x] :: l.drop (x + 1)) := by rw [← List.drop_eq_getElem_cons h, List.take_append_drop]
 conv => lhs; rw [e]
 rw [Gt, Ap]
mutual
def sizeE : Expr → Nat
 | .mk _ _ _ k => 1 + At k
def At : List Expr → Nat
  | [] => 0
  | e :: r => sizeE e + At r
 end
theorem El (e : Expr) : sizeE e = 1 + At e.kids := by cases e; rfl
theorem Qe : ∀ (l : List Expr) {x : Nat} (h : x < l.length), sizeE l[x] ≤ At l
 | e :: r, 0, _ => by simp only [List.getElem_cons_zero, At]; omega
 | e :: r, x + 1, h => by
  have := Qe r (x := x) (by simpa using h)
  simp only [List.getElem_cons_succ, At]
  omega
theorem O5 (e : Expr) {x : Nat} (h : x < e.kids.length) : sizeE e.kids[x] + 1 ≤ sizeE e := by
 have := Qe e.kids h
 rw [El e]
 omega
/-- Each node has few kids. -/
def okE : Nat → Expr → Prop
 | 0, _ => False
 | n + 1, e => e.text.length ≤ 1048576 ∧ e.kids.length ≤ 1048576 ∧ ∀ y ∈ e.kids, okE n y
/-- Who takes what a tree yields: item k is taken at U k; it goes on (go k) to U (k + 1), or ends at F k. Behind U k there may stand others' objects. -/
structure Takes (P : Program) (l : Nat) (L : List (Int × Expr)) (go : Nat → Bool) (U F : Nat → List AObj) (n0 : Nat) : Prop where
 lenU : ∀ k, (U k).length = n0
 lenF : ∀ k, (F k).length = n0
 lowU : ∀ k, ∀ x ∈ U k, ObjLow n0 x
 lowF : ∀ k, ∀ x ∈ F k, ObjLow n0 x
 lt : l < n0
 y : ∀ (X : List AObj) (k : Nat) (it : Int × Expr), L[k]? = some it → (∀ j, j < k → go j = true) → AYield P l [A3 it.1, A5 it.2] (U k ++ X) (fun b H' => b = go k ∧ H' = (if go k then U (k + 1) else F k) ++ X)
theorem ObjLow.le {m m' : Nat} (h : m ≤ m') {x : AObj} (hx : ObjLow m x) : ObjLow m' x := by
 cases x with
 | cells t cs => exact fun y hy => (hx y hy).mono h
 | loop s pd fr sz ps as' bd df => exact ⟨fun s => (hx.1 s).mono h, Nat.lt_of_lt_of_le hx.2 h⟩
 | defs => trivial
 | dead => trivial
 | bld _ _ _ => trivial
 | gone => trivial
/-- What the walk over n items from k0 on comes to. -/
def U1 (go : Nat → Bool) (U F : Nat → List AObj) (k0 n : Nat) (X : List AObj) : AV → List AObj → Prop := fun r H' =>
 ((∀ j, j < n → go (k0 + j) = true) ∧ r = Am true ∧ H' = U (k0 + n) ++ X) ∨ (∃ j, j < n ∧ (∀ i, i < j → go (k0 + i) = true) ∧ go (k0 + j) = false ∧ r = Am false ∧ H' = F (k0 + j) ++ X)
mutual
theorem B0 (m : Nat) : ∀ e, Low m (A5 e)
 | .mk o t v k => by
  rw [A5]
  refine .agg _ fun y hy => ?_
  simp only [List.mem_cons, List.mem_nil_iff, or_false] at hy
  rcases hy with rfl | rfl | rfl | rfl | rfl | rfl
  ·exact .v _
  ·exact .v _
  ·exact .v _
  ·exact .v _
  ·exact .v _
  exact low_slice.2 (O6 m k)
theorem O6 (m : Nat) : ∀ l, ∀ y ∈ Li l, Low m y
  | [], y, hy => by cases hy
  | e :: r, y, hy => by
    rw [Li] at hy
    rcases List.mem_cons.1 hy with rfl | h
    · exact B0 m e
    exact O6 m r y h
 end
theorem L0 {V O A B own : List AObj} (h : V ++ O = A ++ (B ++ own)) (hl : V.length = (A ++ B).length) : V = A ++ B ∧ O = own := by
 rw [← List.append_assoc] at h
 exact List.append_inj h hl
theorem Gn {m : Nat} {A X : List AObj} (hA : ∀ x ∈ A, ObjLow m x) (hX : ∀ x ∈ X, ObjLow m x) : ∀ x ∈ A ++ X, ObjLow m x := fun x hx => by
 rcases List.mem_append.1 hx with h | h
 ·exact hA x h
 exact hX x h
theorem Wn {P : Program} {l : Nat} {L : List (Int × Expr)} {go : Nat → Bool} {U F : Nat → List AObj} {n0 k n K : Nat} {X own V O : List AObj} {r : AV} (T : Takes P l L go U F n0) (hV : V.length = (U K ++ X).length) (hp : U1 go U F k n (X ++ own) r (V ++ O)) :
  ∃ b, r = Am b ∧ O = own ∧ (if b then (∀ j, j < n → go (k + j) = true) ∧ V = U (k + n) ++ X else ∃ j, j < n ∧ (∀ i, i < j → go (k + i) = true) ∧ go (k + j) = false ∧ V = F (k + j) ++ X) ∧ ((∀ x ∈ U K ++ X, ObjLow V.length x) → ∀ x ∈ V, ObjLow V.length x) := by
 have hn : n0 ≤ V.length := by rw [hV, List.length_append, T.lenU]; omega
 rcases hp with ⟨h1, h2, h3⟩ | ⟨j, hj, h1, h2, h3, h4⟩
 ·obtain ⟨e1, e2⟩ := L0 h3 (by rw [hV]; simp [T.lenU])
  refine ⟨true, h2, e2, ⟨h1, e1⟩, fun h => ?_⟩
  rw [e1] at h ⊢
  exact Gn (fun x hx => ObjLow.le (by rw [List.length_append, T.lenU]; omega) (T.lowU _ x hx)) (fun x hx => h x (List.mem_append_right _ hx))
 obtain ⟨e1, e2⟩ := L0 h4 (by rw [hV]; simp [T.lenU, T.lenF])
 refine ⟨false, h3, e2, ⟨j, hj, h1, h2, e1⟩, fun h => ?_⟩
 rw [e1] at h ⊢
 exact Gn (fun x hx => ObjLow.le (by rw [List.length_append, T.lenF]; omega) (T.lowF _ x hx)) (fun x hx => h x (List.mem_append_right _ hx))
theorem U2 (d : Int) (l : List Expr) {x : Nat} (h : x < l.length) : (Ap d (l.take (x + 1))).length = (Ap d (l.take x)).length + (Bc d l[x]).length := by rw [U0 d l h, List.length_append]
theorem el {d0 : Int} {e : Expr} {x : Nat} (h : x < e.kids.length) {j : Nat} {it : Int × Expr} (hj : (Bc (d0 + 1) e.kids[x])[j]? = some it) : (Bc d0 e)[1 + (Ap (d0 + 1) (e.kids.take x)).length + j]? = some it := by
 rw [Ew d0 e, show 1 + (Ap (d0 + 1) (e.kids.take x)).length + j = ((Ap (d0 + 1) (e.kids.take x)).length + j) + 1 by omega, List.getElem?_cons_succ, Kz (d0 + 1) e.kids h, List.getElem?_append_right (by omega)]
 rw [show (Ap (d0 + 1) (e.kids.take x)).length + j - (Ap (d0 + 1) (e.kids.take x)).length = j by omega, List.getElem?_append_left (List.getElem?_eq_some_iff.1 hj).1]
 exact hj
theorem av (d0 : Int) (e : Expr) {x : Nat} (h : x < e.kids.length) : 1 + (Ap (d0 + 1) (e.kids.take x)).length + (Bc (d0 + 1) e.kids[x]).length ≤ (Bc d0 e).length := by
 rw [Ew d0 e, List.length_cons, Kz (d0 + 1) e.kids h]
 simp only [List.length_append]
 omega
theorem w8 {l : Nat} {L : List (Int × Expr)} {go : Nat → Bool} {U F : Nat → List AObj} {n0 : Nat} (T : Takes Tryz.prog l L go U F n0) : ∀ (n : Nat) (e : Expr), okE n e → ∀ (d0 : Int) (k0 : Nat) (X : List AObj), 0 ≤ d0 → d0 + n ≤ 1099511627776 → (∀ (j : Nat) (it : Int × Expr), (Bc d0 e)[j]? = some it → L[k0 + j]? = some it) → (∀ j, j < k0 → go j = true) → ACall Tryz.prog 117 [A5 e, A3 d0, .yield l] (U k0 ++ X) (U1 go U F k0 (Bc d0 e).length X) := by
 intro n
 induction n with
 | zero => exact fun e h => h.elim
 | succ n ih =>
 intro e hok d0 k0 X hd hdn hit hgo
 have hlen0 : (U k0 ++ X).length = n0 + X.length := by rw [List.length_append, T.lenU]
 refine ACall.body [.tmp 6] [0, 1, 2] Tryz.func117 Tryz.ntmps117 (fun d => ?_)
 refine Z56 ?_;refine R.fin [1, 2, 3] ?_;refine Nq ?_;refine Ek ?_
 refine R.yield0 (T.y X k0 (d0, e) (hit 0 _ (by rw [Ew]; rfl)) hgo) ?_
 intro b Vv hV hb
 refine R.not ?_;refine R.fin [1, 2, 3, 13] ?_
 refine W.cond (fun ht13 => ?_) (fun ht13 => ?_)
 ·have hb' : b = false := by simpa using ht13
  subst hb'
  refine Nt ?_;refine K.thR ?_;exact K.fin (V.one V.tmp) (Or.inr ⟨0, by rw [Ew]; simp, fun i hi => by omega, hb.1.symm, rfl, by have := hb.2; rw [show go k0 = false from hb.1.symm] at this; exact this⟩)
 have hb' : b = true := by simpa using ht13
 subst hb'
 have hgo0 : go (k0 + 0) = true := hb.1.symm
 have hVe : Vv = U (k0 + 1) ++ X := by have := hb.2; rw [show go k0 = true from hb.1.symm] at this; exact this
 subst hVe
 have h0x : 0 ≤ e.kids.length ∧ ∀ j, j < 1 + (Ap (d0 + 1) (e.kids.take 0)).length → go (k0 + j) = true := ⟨Nat.zero_le _, fun j hj => by
  have : j = 0 := by simp [Ap] at hj; omega
  subst this
  exact hgo0⟩
 refine Z4 ?_;refine Z16 ?_;refine Z19 ?_;refine Z64 ?_;refine R.fin [1, 2, 15, 16, 17] ?_
 refine AW.loopC (α := Nat) (fun x => ⟨28, A2 1 (A3 d0) (A2 2 (.yield l) (A2 15 (.slice false 6 (e.kids.map A5)) (A2 16 (A3 e.kids.length) (A2 17 (A3 (x : Nat)) (fun _ => .any))))), U (k0 + (1 + (Ap (d0 + 1) (e.kids.take x)).length)) ++ X, [], [], none⟩) (fun x => x ≤ e.kids.length ∧ ∀ j, j < 1 + (Ap (d0 + 1) (e.kids.take x)).length → go (k0 + j) = true) (fun x => e.kids.length - x) (0) h0x (StLe.of_eq (by simp [Ap])) rfl (fun x hx => ?_)
 refine Z57 ?_;refine R.fin [1, 2, 15, 16, 17, 18] ?_
 refine W.condX (fun ht18 => ?_) (fun ht18 => ?_)
 ·have hlt : x < e.kids.length := by simpa using ht18
  have hkl := hok.2.1
  refine J9 ?_;refine Z59 ?_;refine Z42 ?_;refine R.fin [1, 2, 8, 15, 16, 17] ?_;refine Z88 ?_;refine Av ?_;refine R.add64 ?_;refine Av ?_
  refine R.callG Tryz.call117 (args := [A5 e.kids[x], A3 (d0 + 1), .yield l]) (by rw [List.append_assoc]; exact ih e.kids[x] (hok.2.2 _ (List.getElem_mem hlt)) (d0 + 1) (k0 + (1 + (Ap (d0 + 1) (e.kids.take x)).length)) (X ++ _) (by omega) (by omega) (fun j it hj => by have := hit _ it (el hlt hj); rwa [← Nat.add_assoc] at this) (fun j hj => by rcases Nat.lt_or_ge j k0 with h | h; exact hgo j h; have := hx.2 (j - k0) (by omega); rwa [show k0 + (j - k0) = j by omega] at this)) ?_
  intro r Vv O hV hp
  obtain ⟨b, rfl, rfl, hc, hlowV⟩ := Wn T hV hp
  refine ⟨hlowV, fun o ho => by simp at ho, ?_⟩
  refine R.not ?_;refine R.fin [1, 2, 15, 16, 17, 26] ?_
  refine W.cond (fun ht26 => ?_) (fun ht26 => ?_)
  ·have hb' : b = false := by simpa using ht26
   subst hb'
   obtain ⟨j, hj, h1, h2, h3⟩ := hc
   refine Nt ?_;refine Z61 ?_
   have hil := av d0 e hlt
   refine K.fin (V.one V.tmp) (Or.inr ⟨1 + (Ap (d0 + 1) (e.kids.take x)).length + j, by omega, fun i hi => ?_, by rwa [Nat.add_assoc] at h2, rfl, by rwa [Nat.add_assoc] at h3⟩)
   rcases Nat.lt_or_ge i (1 + (Ap (d0 + 1) (e.kids.take x)).length) with h | h
   ·exact hx.2 i h
   have := h1 (i - (1 + (Ap (d0 + 1) (e.kids.take x)).length)) (by omega)
   rwa [show k0 + (1 + (Ap (d0 + 1) (e.kids.take x)).length) + (i - (1 + (Ap (d0 + 1) (e.kids.take x)).length)) = k0 + i by omega] at this
  have hb' : b = true := by simpa using ht26
  subst hb'
  obtain ⟨h1, h3⟩ := hc
  refine Ja ?_;refine R.fin [1, 2, 15, 16, 17] ?_
  subst h3
  have hll := U2 (d0 + 1) e.kids hlt
  have e1 : k0 + (1 + (Ap (d0 + 1) (e.kids.take (x + 1))).length) = k0 + (1 + (Ap (d0 + 1) (e.kids.take x)).length) + (Bc (d0 + 1) e.kids[x]).length := by omega
  refine K.lpN (x + 1) ⟨hlt, fun j hj => ?_⟩ (by omega) ?_
  ·rcases Nat.lt_or_ge j (1 + (Ap (d0 + 1) (e.kids.take x)).length) with h | h
   ·exact hx.2 j h
   have := h1 (j - (1 + (Ap (d0 + 1) (e.kids.take x)).length)) (by omega)
   rwa [show k0 + (1 + (Ap (d0 + 1) (e.kids.take x)).length) + (j - (1 + (Ap (d0 + 1) (e.kids.take x)).length)) = k0 + j by omega] at this
  simp only [e1]
  exact StCut.take (own := []) (fun _ => .refl _) (by repeat (first | exact Al | refine Ak (by first | (simp [B0]; done) | (have := T.lt; simp [T.lenU]; omega)) ?_)) (by simp) (by simp)
 have hxe : e.kids.take x = e.kids := List.take_of_length_le (by simp at ht18; omega)
 refine Z23 ?_;refine Nt ?_
 have hl2 : (Bc d0 e).length = 1 + (Ap (d0 + 1) (e.kids.take x)).length := by rw [Ew, hxe, List.length_cons]; omega
 exact K.fin (V.one V.tmp) (Or.inl ⟨fun j hj => hx.2 j (by omega), rfl, by rw [hl2]⟩)

abbrev Cx (e : Expr) : List AV := [.v (.int .i64 e.op), .v (sv e.text), .v (.int .i64 e.val.kind), .v (.int .i64 e.val.n), .v (sv e.val.s), .slice false 6 (e.kids.map A5)]
/-- What taking all of a tree comes to. -/
def O7 (go : Nat → Bool) (U F : Nat → List AObj) (n : Nat) (H' : List AObj) : Prop :=
 ((∀ j, j < n → go j = true) ∧ H' = U n) ∨ (∃ j, j < n ∧ (∀ i, i < j → go i = true) ∧ go j = false ∧ H' = F j)
theorem w9 {l : Nat} {e : Expr} {go : Nat → Bool} {U F : Nat → List AObj} {n0 : Nat} (T : Takes Tryz.prog l (Bc 1 e) go U F n0) (n : Nat) (hok : okE n e) (hn : n ≤ 1048576) : ACall Tryz.prog 116 [.yield l, .ro (Cx e)] (U 0) (fun r H' => O7 go U F (Bc 1 e).length H') := by
 refine ACall.body [] [0, 1] Tryz.func116 Tryz.ntmps116 (fun d => ?_)
 refine Hh ?_;refine Ek ?_;refine Av ?_;refine R.callG Tryz.call117 (args := [A5 e, A3 1, .yield l]) (w8 T n e hok 1 0 [] (by omega) (by omega) (fun j it hj => by rwa [Nat.zero_add]) (fun j hj => by omega)) ?_
 intro r Vv O hV hp
 have hO : O = [] := by
  have h1 : (Vv ++ O).length = n0 := by rcases hp with ⟨_, _, h⟩ | ⟨j, _, _, _, _, h⟩ <;> rw [h] <;> simp [T.lenU, T.lenF]
  have h2 := T.lenU 0
  rw [List.length_append, hV, h2] at h1
  exact List.eq_nil_of_length_eq_zero (by omega)
 subst hO
 rw [List.append_nil] at hp
 have hq : O7 go U F (Bc 1 e).length Vv := by
  rcases hp with ⟨h1, _, h⟩ | ⟨j, h1, h2, h3, _, h⟩
  ·exact .inl ⟨fun j hj => by have := h1 j hj; rwa [Nat.zero_add] at this, by rw [h]; simp⟩
  exact .inr ⟨j, h1, fun i hi => by have := h2 i hi; rwa [Nat.zero_add] at this, by rwa [Nat.zero_add] at h3, by rw [h]; simp⟩
 refine ⟨fun h => ?_, fun o ho => by simp at ho, ?_⟩
 ·rcases hq with ⟨_, h⟩ | ⟨j, _, _, _, h⟩ <;> rw [h]
  ·rw [T.lenU]; exact T.lowU _
  rw [T.lenF]; exact T.lowF _
 refine R.fin [] ?_;exact K.finN .nores (hp := hq)

theorem c89 (e : Expr) (Hp : List AObj) : AFun Tryz.prog 89 [A5 e] Hp (.fn (.func 116) [] [.ro (Cx e)]) := by
 refine ACall.body [.tmp 2] [0] Tryz.func89 Tryz.ntmps89 (fun d => ?_)
 refine Z89 ?_;refine Ba ?_;refine dk ?_;refine Z2 ?_;exact K.fin (V.one V.tmp) (hlow := by have := B0 Hp.length e; rw [Bg] at this; simpa using this)

def goM (e : Expr) (k : Nat) : Bool := match (Bc 1 e)[k]? with
 | some it => !((!Bp it.2 || decide ((30 : Int) < it.1)) || decide ((300 : Int) < (k : Int) + 1))
 | none => true
def Ad (e : Expr) : Bool := (List.range (Bc 1 e).length).all (goM e)
mutual
theorem Qf : ∀ (n : Nat) (e : Expr), okE n e → ∀ d, ∀ it ∈ Bc d e, it.2.text.length ≤ 1048576
 | 0, _, h, _, _, _ => h.elim
 | n + 1, e, h, d, it, hit => by
  rw [Ew] at hit
  rcases List.mem_cons.1 hit with rfl | h'
  ·exact h.1
  exact Qg n e.kids h.2.2 (d + 1) it h'
 termination_by n e => (n, 0)
theorem Qg : ∀ (n : Nat) (l : List Expr), (∀ y ∈ l, okE n y) → ∀ d, ∀ it ∈ Ap d l, it.2.text.length ≤ 1048576
  | n, [], _, _, _, h => by cases h
  | n, e :: r, h, d, it, hit => by
    rw [Ap] at hit
    rcases List.mem_append.1 hit with h' | h'
    · exact Qf n e (h e (by simp)) d it h'
    exact Qg n r (fun y hy => h y (by simp [hy])) d it h'
  termination_by n l => (n, l.length + 1)
 end
theorem Wo {U : List AObj} {i j : Nat} {x y : AObj} (h : U[i]? = some x) (hne : j ≠ i) : (U.set j y)[i]? = some x := by rw [List.getElem?_set_ne hne]; exact h
theorem oi {e : Expr} {k : Nat} {it : Int × Expr} (hit : (Bc 1 e)[k]? = some it) (h : ∀ j, j < k → goM e j = true) : (k : Int) ≤ 300 := by
 rcases Nat.eq_zero_or_pos k with h0 | h0
 ·omega
 have hl := (List.getElem?_eq_some_iff.1 hit).1
 have := h (k - 1) (by omega)
 unfold goM at this
 rw [List.getElem?_eq_getElem (by omega)] at this
 simp at this
 omega
theorem S4 {e : Expr} {k : Nat} {it : Int × Expr} (hit : (Bc 1 e)[k]? = some it) : goM e k = !((!Bp it.2 || decide ((30 : Int) < it.1)) || decide ((300 : Int) < (k : Int) + 1)) := by
 unfold goM; rw [hit]
theorem c64 (n : Nat) (e : Expr) (hok : okE n e) (hn : n ≤ 1048576) (Hp : List AObj) : AFun Tryz.prog 64 [A5 e] Hp (Am (Ad e)) := by
 refine ACall.body [.cell 2 4] [0, 4, 5] Tryz.func64 Tryz.ntmps64 (fun d => ?_)
 refine Z30 ?_;refine R.alloc jZ ?_;refine R.fin [1, 2, 4, 5] ?_;refine Ba ?_;refine Z42 ?_;refine R.fin [1, 2, 3, 4, 5] ?_;refine Z16 ?_
 refine R.assumeLow (fun hlow => ?_)
 refine Ek ?_;refine R.call Tryz.call89 (c89 e _) ?_;refine R.fin [2, 3, 4, 5, 7] ?_;refine AW.block ?_
 refine W.rangeV (m := 2) Tryz.call116 (fun FR as' bd' hFR has hbd => ?_)
 have hFRl : ∀ s, Low (Hp.length + 4) (FR s) := by
  intro s
  rw [hFR]
  refine Low.strip ?_
  revert s
  repeat (first | exact Al | refine Ak (by simp [oid, B0] <;> try omega) ?_)
 have hOl : ∀ {k : Nat}, ∀ x ∈ [AObj.cells 4 [Am false], AObj.cells 3 [A3 (k : Nat)], AObj.defs, AObj.loop LoopState.ready none FR 23 #[8, 9] as' bd' (oid Hp.length 2)], ObjLow (Hp.length + 4) x := by
  intro k x hx
  simp only [List.mem_cons, List.mem_nil_iff, or_false] at hx
  rcases hx with rfl | rfl | rfl | rfl
  ·exact iq
  ·exact iq
  ·trivial
  exact ⟨hFRl, by simp [oid]⟩
 have hOf : ∀ {k : Nat}, ∀ x ∈ [AObj.cells 4 [Am false], AObj.cells 3 [A3 ((k : Nat) + 1)], AObj.defs, AObj.loop LoopState.done (some Code.ret) FR 23 #[8, 9] as' bd' (oid Hp.length 2)], ObjLow (Hp.length + 4) x := by
  intro k x hx
  simp only [List.mem_cons, List.mem_nil_iff, or_false] at hx
  rcases hx with rfl | rfl | rfl | rfl
  ·exact iq
  ·exact iq
  ·trivial
  exact ⟨hFRl, by simp [oid]⟩
 refine ⟨fun _ H' => O7 (goM e) (fun k => Hp ++ [AObj.cells 4 [Am false], AObj.cells 3 [A3 (k : Nat)], AObj.defs, AObj.loop LoopState.ready none FR 23 #[8, 9] as' bd' (oid Hp.length 2)]) (fun k => Hp ++ [AObj.cells 4 [Am false], AObj.cells 3 [A3 ((k : Nat) + 1)], AObj.defs, AObj.loop LoopState.done (some Code.ret) FR 23 #[8, 9] as' bd' (oid Hp.length 2)]) (Bc 1 e).length H', w9 (l := oid Hp.length 3) (go := goM e) (U := fun k => Hp ++ [AObj.cells 4 [Am false], AObj.cells 3 [A3 (k : Nat)], AObj.defs, AObj.loop LoopState.ready none FR 23 #[8, 9] as' bd' (oid Hp.length 2)]) (F := fun k => Hp ++ [AObj.cells 4 [Am false], AObj.cells 3 [A3 ((k : Nat) + 1)], AObj.defs, AObj.loop LoopState.done (some Code.ret) FR 23 #[8, 9] as' bd' (oid Hp.length 2)]) (n0 := Hp.length + 4) ⟨fun k => by simp, fun k => by simp, fun k x hx => ?_, fun k x hx => ?_, by simp [oid], fun X k it hit hgo => ?_⟩ n hok hn, ?_⟩
 ·exact Gn (fun x hx => ObjLow.le (by omega) (hlow x hx)) hOl x hx
 ·exact Gn (fun x hx => ObjLow.le (by omega) (hlow x hx)) hOf x hx
 ·have hk3 := oi hit hgo
  generalize hV : (Hp ++ [AObj.cells 4 [Am false], AObj.cells 3 [A3 (k : Nat)], AObj.defs, AObj.loop LoopState.ready none FR 23 #[8, 9] as' bd' (oid Hp.length 2)] ++ X) = V
  have hL : V[oid Hp.length 3]? = some (AObj.loop LoopState.ready none FR 23 #[8, 9] as' bd' (oid Hp.length 2)) := by rw [← hV, List.append_assoc, Bu]; rfl
  have hA0 : V[oid Hp.length 1]? = some (AObj.cells 3 [A3 (k : Nat)]) := by rw [← hV, List.append_assoc, Bu]; rfl
  have hB0 : V[oid Hp.length 0]? = some (AObj.cells 4 [Am false]) := by rw [← hV, List.append_assoc, Bu]; rfl
  refine AYield.ofRound (pd := none) (fr := FR) (sz := 23) (ps := #[8, 9]) (df := oid Hp.length 2) (asg := as') (bd := bd') hL rfl (by decide) (fun d => ?_)
  subst hFR has hbd
  refine W.keep [2, 3, 8, 9] ?_;refine Z1 ?_;refine R.fin [2, 3, 4, 9] ?_;refine Hh ?_;refine Z42 ?_;refine R.fin [2, 3, 4, 5] ?_
  refine ⟨rfl, none, hL, ?_⟩
  generalize hbz : (AObj.loop LoopState.busy _ _ _ _ _ _ _) = bz
  have hA : (V.set (oid Hp.length 3) bz)[oid Hp.length 1]? = some (AObj.cells 3 [A3 (k : Nat)]) := by rw [List.getElem?_set_ne (Cs (by decide))]; exact hA0
  have hB : (V.set (oid Hp.length 3) bz)[oid Hp.length 0]? = some (AObj.cells 4 [Am false]) := by rw [List.getElem?_set_ne (Cs (by decide))]; exact hB0
  refine AW.block ?_;refine Ba ?_;refine R.loadUp jA hA ?_;refine R.add64 ?_
  refine R.storeUp jS hA ?_ ?_
  ·simp
  refine R.fin [2, 3, 4, 5] ?_;refine Z88 ?_;refine R.call Tryz.call90 (c90 it.2 (Qf n e hok 1 it (List.mem_of_getElem? hit)) _) ?_;refine Py ?_;refine Z95 ?_;refine Av ?_;refine G.loadUp jA (Ay hA) ?_;refine Z95 ?_;refine R.fin [2, 22] ?_
  refine W.cond (fun ht22 => ?_) (fun ht22 => ?_)
  ·have hgf : goM e k = false := by rw [S4 hit, ht22]; rfl
   refine Ba ?_
   refine R.storeUp jS (Wo (j := oid Hp.length 1) hB (Cs (by decide))) ?_ ?_
   ·simp
   refine R.fin [] ?_;refine AW.ret ?_;refine K.blR ?_
   subst hbz
   refine K.rdR (Tj hL (Cs (by decide)) (Cs (by decide))) ?_
   refine ⟨hgf.symm, ?_⟩
   rw [if_neg (by rw [hgf]; simp)]
   subst hV
   simp only [List.append_assoc, Fp, List.cons_append, List.nil_append, List.set_cons_succ, List.set_cons_zero]
   try rfl
  have hgt : goM e k = true := by rw [S4 hit, ht22]; rfl
  refine AW.skip ?_;refine K.blN ?_
  subst hbz
  refine K.rdN (cr hL (Cs (by decide))) ?_
  refine ⟨hgt.symm, ?_⟩
  rw [if_pos hgt]
  subst hV
  simp only [List.append_assoc, Fp, List.cons_append, List.nil_append, List.set_cons_succ, List.set_cons_zero]
  try rfl
 rintro r H' (⟨h1, rfl⟩ | ⟨j, hj, h1, h2, rfl⟩)
 ·refine ⟨Hp, _, _, _, rfl, rfl, fun h => h, ?_, rfl, by simp, ?_⟩
  ·intro o ho
   have : o = oid Hp.length 2 := by simpa using ho
   subst this
   rw [Bu]
   rfl
  refine Z6 ?_;refine Ba ?_;refine G9 ?_;refine Z2 ?_;exact K.fin (V.one (V.cell jA)) ⟨by rw [show Ad e = true from List.all_eq_true.2 fun j hj => h1 j (List.mem_range.1 hj)], rfl⟩
 refine ⟨Hp, _, _, _, rfl, rfl, fun h => h, ?_, rfl, by simp, ?_⟩
 ·intro o ho
  have : o = oid Hp.length 2 := by simpa using ho
  subst this
  rw [Bu]
  rfl
 refine AW.ret ?_;refine Z5 ?_;exact K.fin (V.one (V.cell jA)) ⟨by rw [show Ad e = false from List.all_eq_false.2 ⟨j, List.mem_range.2 hj, by rw [h2]; simp⟩], rfl⟩

def An (s : Str) : Expr := .mk 2 s ⟨0, 0, []⟩ []
theorem en (s : Str) : Le (.agg [A3 2, A7 s, A3 0, A3 0, A7 [], .nil]) (A5 (An s)) := by
 rw [Bg]
 refine .agg _ _ rfl (by simp [AV.one, Value.oneCell', sv]) fun i y y' h1 h2 => ?_
 match i with
 | 0 => simp at h1 h2; subst h1; subst h2; exact .inl rfl
 | 1 => simp at h1 h2; subst h1; subst h2; exact .inl rfl
 | 2 => simp at h1 h2; subst h1; subst h2; exact .inl rfl
 | 3 => simp at h1 h2; subst h1; subst h2; exact .inl rfl
 | 4 => simp at h1 h2; subst h1; subst h2; exact .inl rfl
 | 5 => simp at h1 h2; subst h1; subst h2; exact .inr ⟨rfl, 6, rfl⟩
 | i + 6 => simp at h1
theorem eo (s : Str) (h : s.length ≤ 1048576) : okE 1 (An s) := ⟨h, by simp [An, Expr.kids], fun y hy => by cases hy⟩
def Lj (c : List Col) (x : Nat) (y : Col) : Bool := !(((!Ad (An y.name)) || (Bn y.kind == [])) || (Af y.name c != (x : Int)))
def Jk (c : List Col) : Bool := c.zipIdx.all fun x => Lj c x.2 x.1
theorem colsP_true {c : List Col} : Jk c = true ↔ ∀ (j : Nat) (y : Col), c[j]? = some y → Lj c j y = true := K4
theorem c59 (c : List Col) (hc : OkCols c) (Hp : List AObj) : AFun Tryz.prog 59 [A4 c] Hp (Am (Jk c)) := by
 refine ACall.body [.tmp 2] [0] Tryz.func59 Tryz.ntmps59 (fun d => ?_)
 refine Z55 ?_;refine S1 ?_;refine R.fin [0, 5, 6, 7] ?_
 refine AW.loopC (α := Nat) (fun x => ⟨32, A2 0 (A4 c) (A2 5 (A4 c) (A2 6 (A3 c.length) (A2 7 (A3 (x : Nat)) (fun _ => .any)))), Hp, [], [], none⟩) (fun x => x ≤ c.length ∧ ∀ (j : Nat) (y : Col), j < x → c[j]? = some y → Lj c j y = true) (fun x => c.length - x) (0) (by simp) (StLe.of_eq (by simp)) rfl (fun x hx => ?_)
 refine Z57 ?_;refine R.fin [0, 5, 6, 7, 8] ?_
 refine W.condX (fun ht8 => ?_) (fun ht8 => ?_)
 ·have hlt : x < c.length := by simpa using ht8
  have hcl := hc.len
  refine Mw ?_;refine Z76 ?_;refine W4 ?_;refine R.fin [0, 3, 4, 5, 6, 7] ?_;refine Ba ?_;refine rx ?_;refine R.wk 14 _ (en c[x].name) ?_;refine R.call Tryz.call64 (c64 1 (An c[x].name) (eo _ (hc.names _ (List.getElem_mem hlt))) (by decide) _) ?_;refine R.not ?_;refine Av ?_;refine G.fieldAddrPtr (fo := 1) jU Tryz.sizeOf3 ?_;refine G.loadOwn jA ?_;refine G.call Tryz.call40 (fun hB => c40 c[x].kind _) ?_;refine G.seql ?_;refine R.pickOr ?_;refine Z14 ?_;refine G.fieldAddrPtr (fo := 0) jU Tryz.sizeOf9 ?_;refine G.loadOwn jA ?_;refine G.call Tryz.call84 (fun hB => c84 c hc c[x].name _) ?_;refine Wb ?_;refine R.fin [0, 5, 6, 7, 30] ?_
  refine W.cond (fun ht30 => ?_) (fun ht30 => ?_)
  ·refine Pw ?_
   exact K.fin (V.one V.tmp) ⟨by rw [show Jk c = false from Bool.eq_false_iff.2 fun h => by have := colsP_true.1 h x c[x] (List.getElem?_eq_getElem hlt); unfold Lj at this; rw [ht30] at this; cases this], rfl⟩
  refine Ja ?_;refine R.fin [0, 5, 6, 7] ?_
  refine K.lpN (x + 1) ⟨hlt, E6 hlt hx.2 (by unfold Lj; rw [ht30]; rfl)⟩ (by omega) ?_
  exact StCut.take (own := []) (fun _ => .refl _) (by repeat (first | exact Al | refine Ak (by simp) ?_)) (by simp) (by simp)
 refine Z23 ?_;refine Z67 ?_;exact K.fin (V.one V.tmp) ⟨by rw [colsP_true.2 (Ev (by simp at ht8; omega) hx.2)], rfl⟩

def Gu (c : List Col) : Bool := decide ((c.length : Int) ≤ 12) && Jk c
theorem c39 (c : List Col) (hc : OkCols c) (Hp : List AObj) : AFun Tryz.prog 39 [A4 c] Hp (Am (Gu c)) := by
 refine ACall.body [.tmp 2] [0] Tryz.func39 Tryz.ntmps39 (fun d => ?_)
 refine Mx ?_;refine R.len jU ?_;refine R.leq ?_;refine Z14 ?_;refine G.call Tryz.call59 (fun hB => c59 c hc _) ?_;refine Wh ?_;exact K.fin (V.one V.tmp) ⟨by unfold Gu; simp, rfl⟩

theorem S5 (s : Str) (h : s ≠ []) : Lib.contains [] s = false := by
 cases s with
 | nil => exact absurd rfl h
 | cons a r => rfl
theorem contains_cons (b : UInt8) (l s : Str) : Lib.contains (b :: l) s = (s.isPrefixOf (b :: l) || Lib.contains l s) := by
 unfold Lib.contains
 have hge := Lib.index_ge l s
 rw [Lib.index]
 by_cases hp : s.isPrefixOf (b :: l) = true
 ·rw [if_pos hp, hp]; rfl
 rw [if_neg hp]
 have hp' : s.isPrefixOf (b :: l) = false := Bool.eq_false_iff.2 hp
 rw [hp', Bool.false_or]
 by_cases hi : Lib.index l s = -1
 ·rw [hi]; rfl
 have : (Lib.index l s == -1) = false := by simpa using hi
 rw [this, if_neg (by simp)]
 rw [decide_eq_decide]
 omega
/-- Words between blanks. -/
def If : List Str → Str
 | [] => [32]
 | w :: r => 32 :: (w ++ If r)
theorem Qh (sub : Str) : ∀ (w R : Str), (32 : UInt8) ∉ w → Lib.contains (w ++ R) (32 :: sub) = Lib.contains R (32 :: sub)
 | [], R, _ => rfl
 | b :: w, R, h => by
  have hb : b ≠ 32 := fun e => h (by simp [e])
  rw [List.cons_append, contains_cons, Qh sub w R (fun hm => h (by simp [hm]))]
  have : (32 :: sub).isPrefixOf (b :: (w ++ R)) = false := by
   simp [List.isPrefixOf, Ne.symm hb]
  rw [this, Bool.false_or]
theorem Ma : ∀ (s w : Str) (R : Str), (32 : UInt8) ∉ s → (32 : UInt8) ∉ w → (s ++ [32]).isPrefixOf (w ++ 32 :: R) = (s == w)
 | [], [], R, _, _ => by simp [List.isPrefixOf]
 | [], b :: w, R, _, hw => by
  have hb : (32 : UInt8) ≠ b := fun e => hw (by simp [e])
  simp [List.isPrefixOf, hb]
 | a :: s, [], R, hs, _ => by
  have hb : a ≠ (32 : UInt8) := fun e => hs (by simp [e])
  simp [List.isPrefixOf, hb]
 | a :: s, b :: w, R, hs, hw => by
  have ih := Ma s w R (fun h => hs (by simp [h])) (fun h => hw (by simp [h]))
  rw [List.cons_append, List.cons_append, List.isPrefixOf, ih]
  rfl
theorem U3 : ∀ ws, ∃ R, If ws = 32 :: R
 | [] => ⟨[], rfl⟩
 | w :: r => ⟨_, rfl⟩
theorem Ga (s : Str) (hs : (32 : UInt8) ∉ s) : ∀ (ws : List Str), (∀ w ∈ ws, (32 : UInt8) ∉ w) → Lib.contains (If ws) ([32] ++ s ++ [32]) = ws.any (· == s)
 | [], _ => by
  rw [If, contains_cons, S5 _ (by simp), Bool.or_false]
  cases s <;> simp [List.isPrefixOf]
 | w :: r, h => by
  have hw := h w (by simp)
  obtain ⟨R, hR⟩ := U3 r
  have ih := Ga s hs r (fun x hx => h x (by simp [hx]))
  have e1 : ([32] ++ s ++ [32] : Str) = 32 :: (s ++ [32]) := rfl
  rw [If, contains_cons, e1, Qh _ w _ hw, ← e1, ih, List.any_cons]
  congr 1
  rw [e1, hR]
  have := Ma s w R hs hw
  rw [List.isPrefixOf, this]
  simp only [beq_self_eq_true, Bool.true_and]
  by_cases hsw : s = w
  ·subst hsw; rfl
  rw [beq_eq_false_iff_ne.2 hsw, beq_eq_false_iff_ne.2 (Ne.symm hsw)]
theorem Q2 : Hj = If words := by kernel_rfl
theorem U4 : ∀ w ∈ words, (32 : UInt8) ∉ w := by decide
theorem U5 (s : Str) : Lib.contains s [32] = s.contains 32 := by
 induction s with
 | nil => rfl
 | cons b l ih =>
  rw [contains_cons, ih, List.contains_cons]
  congr 1
  simp [List.isPrefixOf]
theorem O8 (s : Str) (h1 : s ≠ []) (h2 : (32 : UInt8) ∉ s) : Fs s = Eu s := by
 unfold Fs
 rw [U5, Q2, Ga s h2 words U4]
 have e1 : (s == []) = false := by simpa using h1
 have e2 : s.contains 32 = false := by simpa using h2
 rw [e1, e2]
 rfl
set_option maxRecDepth 8000
theorem ep {p : UInt8 → Bool} (h : ((List.range 256).all fun n => p (UInt8.ofNat n)) = true) (c : UInt8) : p c = true := by
 have := List.all_eq_true.1 h c.toNat (List.mem_range.2 c.toNat_lt)
 simpa using this
theorem Wp (c : UInt8) : tails.contains c = H3 c := by
 have := ep (p := fun c => tails.contains c == H3 c) (by kernel_rfl) c
 simpa using this
theorem S6 (c : UInt8) : letters.contains c = Dl c := by
 have := ep (p := fun c => letters.contains c == Dl c) (by kernel_rfl) c
 simpa using this
theorem Wq : H3 32 = false := by kernel_rfl
theorem Y0 (s of : Str) : (ap s of == (s.length : Int)) = s.all (of.contains ·) := by
 unfold ap Lib.trimLeftS
 induction s with
 | nil => rfl
 | cons c r ih =>
  rw [List.dropWhile_cons, List.all_cons]
  cases hc : of.contains c with
  | true =>
   simp only [if_true, Bool.true_and]
   rw [← ih, Bool.eq_iff_iff]
   have := (List.dropWhile_sublist (fun x => of.contains x) (l := r)).length_le
   simp only [beq_iff_eq, List.length_cons]
   omega
  | false =>
   simp only [Bool.false_eq_true, if_false, Bool.false_and]
   rw [beq_eq_false_iff_ne]
   simp only [List.length_cons]
   omega
theorem Ca (s : Str) : Bw s = Dy s := by
 cases s with
 | nil => rfl
 | cons c r =>
  unfold Bw
  rw [Y0]
  have e1 : ((c :: r).all fun x => tails.contains x) = (c :: r).all H3 := by
   congr 1
   funext x
   exact Wp x
  have e2 : (ap ((c :: r).take 1) letters == 1) = Dl c := by
   have := Y0 [c] letters
   rw [← S6 c]
   simpa using this
  rw [e1, e2]
  have e3 : ((c :: r : Str) == []) = false := rfl
  have e4 : decide (((c :: r).length : Int) ≤ 16) = decide ((c :: r).length ≤ 16) := by
   rw [decide_eq_decide]; omega
  rw [e3, e4]
  show _ = (decide ((c :: r).length ≤ 16) && Dl c && !Eu (c :: r) && (c :: r).all H3)
  cases ha : (c :: r).all H3 with
  | false => simp
  | true =>
   have hb : (32 : UInt8) ∉ (c :: r) := fun hm => by
    have := List.all_eq_true.1 ha 32 hm
    rw [Wq] at this
    cases this
   rw [O8 _ (by simp) hb]
   simp
theorem O9 (s : Str) : Ad (An s) = Dy s := by
 have e : Bc 1 (An s) = [(1, An s)] := by rw [Ew]; rfl
 unfold Ad
 rw [e]
 show ((List.range 1).all (goM (An s))) = _
 have g : goM (An s) 0 = Bp (An s) := by
  unfold goM
  rw [e]
  simp
 simp only [List.range_succ, List.range_zero, List.nil_append, List.all_cons, List.all_nil, Bool.and_true]
 rw [g, ← Ca]
 simp [Bp, An, Expr.op, Expr.val, Expr.text, Expr.kids, H4]
theorem S7 (k : Int) : (Bn k == []) = (decide (k < 1) || decide ((3 : Int) < k)) := by
 unfold Bn
 by_cases h : k < 1 ∨ 3 < k
 ·rw [if_pos h]
  have : (decide (k < 1) || decide ((3 : Int) < k)) = true := by simpa using h
  rw [this]; rfl
 rw [if_neg h]
 have : (decide (k < 1) || decide ((3 : Int) < k)) = false := by simp; omega
 rw [this]
 have hk : k = 1 ∨ k = 2 ∨ k = 3 := by omega
 rcases hk with rfl | rfl | rfl <;> rfl
theorem J0 (c : List Col) : Jk c = Cw c := by
 unfold Jk Cw
 congr 1
 funext x
 unfold Lj Jj
 rw [O9, S7, ← Bool.or_assoc (!Dy x.1.name)]
theorem Dz (c : List Col) : Gu c = B1 c := by unfold Gu B1; rw [J0]
set_option maxRecDepth 4000
def Dp (l : List Tok) (i : Nat) : Tok := l.getD i ⟨0, [], 0⟩
end Go.SX.Nb
