/- Texts on the way to this: PlanLines answers true for whatever it is handed: of any sound migration the text of its plan has a line for each step and one more for each column behind; what comes and what goes is what both schemas differ in. (part 3) -/
import Derived.Below
import Derived.Test.YtbiheojgmikfpaaGreatDoorProg
import Derived.KernelRfl
import Derived.Shelf.Strconv.Itoa4
import Derived.Shelf.Strings.SplitShaped
import Derived.Shelf.Strings.SlTrimAscii
import Derived.Shelf.Strings.OnBuilder
import Derived.Shelf.Strings.Replace
import Derived.Shelf.Small.Strs
import Derived.Shelf.Strings.Prefix
import Derived.Shelf.Strings.Builder1
import Derived.Shelf.Strings.Cut
import Derived.Lib.SplitLaws
import Derived.WalkKit
import Derived.Lib.AtoiErrMem
import Derived.Lib.Strings
import Derived.BigCall
import Derived.Lib.ParseIntB
import Derived.Test.YtbiheojgmikfpaaGreatDoorPlanLinesCardSaidPart2
set_option linter.all false
namespace Go.SX
variable [GI : GlobInv]
open Classical Go.RowKit
section
variable {P : Program} {g : FuncId} {Hp : List AObj}

/-- What is known of package-level variables, of a world alone. -/
def H4 (w : World) : Prop := ∀ x ∈ GI.blocks, ∃ o, w.heap[x.1]? = some o ∧ x.2 o

theorem Ul {G : Gh} {w : World} {xs : List Value} {vs : Array Value} (hn : vs.size = (xs.map AV.v).length) (h : ∀ (i : Nat) (y : AV) (u : Value), (xs.map AV.v)[i]? = some y → vs[i]? = some u → ∃ l, Rep G w l y u) : vs = xs.toArray := by
 apply Array.ext
 ·simpa using hn
 intro i h1 h2
 have hi : i < xs.length := by simpa using h2
 obtain ⟨l, hr⟩ := h i (.v xs[i]) vs[i] (by simp [hi]) (Array.getElem?_eq_getElem h1)
 have := Gw hr
 simpa using this

theorem Gb {G : Gh} {w w' : World} (hT : TagOK G w) (hb : Below w.heap.size w w') {b o : Nat} (h : G.tag b o ≠ .free) : w'.cell? ⟨b, o, none⟩ = w.cell? ⟨b, o, none⟩ ∧ w'.frozen? ⟨b, o, none⟩ = w.frozen? ⟨b, o, none⟩ := by
 obtain ⟨u, hu⟩ := hT.ex b o h
 have hlt : b < w.heap.size := World.block_lt_of_cell? _ _ hu
 have := hb.block b hlt
 exact ⟨C5 this, Bq this⟩

theorem If {G : Gh} {w w' : World} (hT : TagOK G w) (hb : Below w.heap.size w w') : Turn G w G w' :=
 ⟨fun b o h => ⟨h, (Gb hT hb (by rw [h]; simp)).1⟩, fun _ _ _ h => h, fun _ _ _ h => h, Nat.le_refl _, fun _ _ => rfl, hb.os, hb.tape, hb.output, hb.size, Still.tags (fun b hv => hb.block b hv.1) hb.size (fun _ _ _ => .inl rfl) (fun _ hi => .inl ⟨hi, rfl⟩)⟩

theorem Ln {G : Gh} {H : List AObj} {w w' : World} (hH : HeapRel G H w) (hT : TagOK G w) (hb : Below w.heap.size w w') : HeapRel G H w' ∧ TagOK G w' := by
 have T := If hT hb
 refine ⟨⟨fun i x hx => ?_, hH.n, hH.inj⟩, ⟨fun b o h => ?_, fun b o i h => ?_, fun b o L h => ?_, hT.globKeep T.old⟩⟩
 ·have hi : i < G.n := by rw [hH.n]; exact (List.getElem?_eq_some_iff.1 hx).1
  exact T.objRel hi (hb.block _ (Ki hH i hi)) (hH.obj i x hx) (fun b h => hb.block b h.lt)
 ·rw [(Gb hT hb h).1]; exact hT.ex b o h
 ·rw [(Gb hT hb (by rw [h]; simp)).2]; exact hT.obj b o i h
 rw [(Gb hT hb (by rw [h]; simp)).2]; exact hT.tail b o L h

/-- A function of nl values that hands back a nl value. -/
theorem AFun.lib {xs : List Value} {r : AV} {v : Value} (hr : ∀ G w, Rep G w none r v) (h : ∀ w, H4 w → Calls P g xs.toArray w (fun e w' => e = .returned v ∧ Below w.heap.size w w')) : AFun P g (xs.map .v) Hp r := by
 intro d G w vs hn hv hH hT
 have hvs := Ul hn (fun i y u a b => ⟨_, hv i y u a b⟩)
 subst hvs
 refine (callsIn_wide.2 (h w (fun x hx => let ⟨_, u, a, b⟩ := hT.glob x hx; ⟨u, a, b⟩))).mono ?_
 rintro e w' ⟨rfl, hb⟩
 obtain ⟨h1, h2⟩ := Ln hH hT hb
 exact ⟨v, G, r, Hp, rfl, (hr G w').lift, h1, h2, (If hT hb).keep _, rfl, rfl, rfl⟩


/-- A function of nl values that hands back a new slice of nl values. -/
theorem AFun.libSlice {xs ys : List Value} {t : TypeId} (hone : ∀ y ∈ ys, y.oneCell' = true) (h : ∀ w, H4 w → Calls P g xs.toArray w (fun e w' => e = .returned (.slice (some ⟨w.heap.size, 0, none⟩) ys.length ys.length) ∧ w' = w.alloc (.cells ys.toArray t))) :
  AFun P g (xs.map .v) Hp (.slice false 1 (ys.map .v)) := by
 intro d G w vs hn hv hH hT
 have hvs := Ul hn (fun i y u a b => ⟨_, hv i y u a b⟩)
 subst hvs
 refine (callsIn_wide.2 (h w (fun x hx => let ⟨_, u, a, b⟩ := hT.glob x hx; ⟨u, a, b⟩))).mono ?_
 rintro e w' ⟨rfl, rfl⟩
 have hst : StRel 0 G ⟨0, fun _ => .any, Hp, [], [], none⟩ { tmps := #[], defers := [] } w :=
  ⟨rfl, fun s => .any _ _, by simpa using hH, rfl, (fun o ho => by simp at ho), List.nodup_nil, (fun o ho => by simp at ho), hT, (fun l hl => by cases hl), Lf hH⟩
 obtain ⟨G', g1, T, g2⟩ := Js hst t ys.toArray
 refine ⟨_, G', _, Hp, rfl, ?_, by simpa using g1.heap, g1.tags, T.keep _, rfl, rfl, rfl⟩
 refine .slice _ false 1 _ _ _ _ (fun i j => ys.toArray.getD i undef) rfl (by simp) (Nat.le_refl _) (fun x hx => ?_) (fun x hx y hy => ?_) (fun i x j y hx hy => ?_) (fun i x j y hx hy => ?_) (fun h => by cases h)
 ·obtain ⟨z, _, rfl⟩ := List.mem_map.1 hx
  rfl
 ·obtain ⟨z, hz, rfl⟩ := List.mem_map.1 hx
  have : y = .v z := by simpa [AV.cells] using hy
  subst this
  exact hone z hz
 all_goals
  rw [List.getElem?_map, Option.map_eq_some_iff] at hx
  obtain ⟨z, hz, rfl⟩ := hx
  have hlt : i < ys.length := (List.getElem?_eq_some_iff.1 hz).1
  have hj : j = 0 := by
   match j, hy with
   | 0, _ => rfl
   | j + 1, hy => simp [AV.cells] at hy
  subst hj
 ·refine ⟨by simpa using g2 i (by simpa using hlt), ?_⟩
  rw [World.cell?_alloc_new]
  simp [hlt]
 have : y = .v z := by simpa [AV.cells] using hy.symm
 subst this
 have e : ys.toArray.getD i undef = z := by
  have := List.getElem?_eq_getElem hlt
  rw [this] at hz
  injection hz with hz
  simp [hlt, hz]
 rw [e]
 exact .v _ _
end
end Go.SX
namespace Go.SX.Nb
open Go Go.SX Go.Proofs
class JU (t : TypeId) (u : outParam TypeDesc) : Prop where h : Tryz.prog.underlying t = some u
theorem jU {t : TypeId} {u : TypeDesc} [i : JU t u] : Tryz.prog.underlying t = some u := i.h
@[reducible, instance] def JU3 := JU.mk Tryz.underlying3
@[reducible, instance] def JU4 := JU.mk Tryz.underlying4
@[reducible, instance] def JU5 := JU.mk Tryz.underlying5
@[reducible, instance] def JU9 := JU.mk Tryz.underlying9
@[reducible, instance] def qt := JU.mk Tryz.underlying22
@[reducible, instance] def qu := JU.mk Tryz.underlying23
@[reducible, instance] def qv := JU.mk Tryz.underlying27
@[reducible, instance] def qw := JU.mk Tryz.underlying34
@[reducible, instance] def qx := JU.mk Tryz.underlying37
@[reducible, instance] def qy := JU.mk Tryz.underlying42
@[reducible, instance] def qz := JU.mk Tryz.underlying47
@[reducible, instance] def r6 := JU.mk Tryz.underlying53
@[reducible, instance] def r7 := JU.mk Tryz.underlying55
@[reducible, instance] def r8 := JU.mk Tryz.underlying58
@[reducible, instance] def r9 := JU.mk Tryz.underlying60
@[reducible, instance] def qi := JU.mk Tryz.underlying112
@[reducible, instance] def qj := JU.mk Tryz.underlying140
@[reducible, instance] def ql := JU.mk Tryz.underlying157
@[reducible, instance] def qm := JU.mk Tryz.underlying200
class JS (t : TypeId) (u : outParam Nat) : Prop where h : ∀ w, (Go.sizeOf t).run Tryz.prog w = .ok u w
theorem jS {t : TypeId} {u : Nat} [i : JS t u] : ∀ w, (Go.sizeOf t).run Tryz.prog w = .ok u w := i.h
@[reducible, instance] def JS3 := JS.mk Tryz.sizeOf3
@[reducible, instance] def JS4 := JS.mk Tryz.sizeOf4
@[reducible, instance] def JS9 := JS.mk Tryz.sizeOf9
@[reducible, instance] def ra := JS.mk Tryz.sizeOf22
@[reducible, instance] def rb := JS.mk Tryz.sizeOf28
@[reducible, instance] def rc := JS.mk Tryz.sizeOf34
@[reducible, instance] def rd := JS.mk Tryz.sizeOf37
@[reducible, instance] def re := JS.mk Tryz.sizeOf42
@[reducible, instance] def rf := JS.mk Tryz.sizeOf47
@[reducible, instance] def rg := JS.mk Tryz.sizeOf53
@[reducible, instance] def rh := JS.mk Tryz.sizeOf55
@[reducible, instance] def ri := JS.mk Tryz.sizeOf58
@[reducible, instance] def rj := JS.mk Tryz.sizeOf60
@[reducible, instance] def qn := JS.mk Tryz.sizeOf200
class JA (t : TypeId) (u : outParam Bool) : Prop where h : ∀ w, (Go.isAgg t).run Tryz.prog w = .ok u w
theorem jA {t : TypeId} {u : Bool} [i : JA t u] : ∀ w, (Go.isAgg t).run Tryz.prog w = .ok u w := i.h
@[reducible, instance] def JA2 := JA.mk Tryz.isAgg2
@[reducible, instance] def JA3 := JA.mk Tryz.isAgg3
@[reducible, instance] def JA4 := JA.mk Tryz.isAgg4
@[reducible, instance] def JA9 := JA.mk Tryz.isAgg9
@[reducible, instance] def rk := JA.mk Tryz.isAgg22
@[reducible, instance] def rl := JA.mk Tryz.isAgg23
@[reducible, instance] def rm := JA.mk Tryz.isAgg28
@[reducible, instance] def rn := JA.mk Tryz.isAgg34
@[reducible, instance] def rp := JA.mk Tryz.isAgg37
@[reducible, instance] def rq := JA.mk Tryz.isAgg42
@[reducible, instance] def rr := JA.mk Tryz.isAgg47
@[reducible, instance] def rt := JA.mk Tryz.isAgg53
@[reducible, instance] def ru := JA.mk Tryz.isAgg55
@[reducible, instance] def rx := JA.mk Tryz.isAgg58
@[reducible, instance] def ry := JA.mk Tryz.isAgg60
@[reducible, instance] def qo := JA.mk Tryz.isAgg157
class JZ (t : TypeId) (u : outParam Value) : Prop where h : ∀ w, (Go.zeroValue t).run Tryz.prog w = .ok u w
theorem jZ {t : TypeId} {u : Value} [i : JZ t u] : ∀ w, (Go.zeroValue t).run Tryz.prog w = .ok u w := i.h
@[reducible, instance] def JZ3 := JZ.mk Tryz.zeroValue3
@[reducible, instance] def JZ4 := JZ.mk Tryz.zeroValue4
@[reducible, instance] def JZ9 := JZ.mk Tryz.zeroValue9
@[reducible, instance] def rz := JZ.mk Tryz.zeroValue22
@[reducible, instance] def s0 := JZ.mk Tryz.zeroValue28
@[reducible, instance] def s6 := JZ.mk Tryz.zeroValue34
@[reducible, instance] def s7 := JZ.mk Tryz.zeroValue37
@[reducible, instance] def s8 := JZ.mk Tryz.zeroValue42
@[reducible, instance] def s9 := JZ.mk Tryz.zeroValue47
@[reducible, instance] def sa := JZ.mk Tryz.zeroValue53
@[reducible, instance] def sb := JZ.mk Tryz.zeroValue55
@[reducible, instance] def sc := JZ.mk Tryz.zeroValue58
@[reducible, instance] def sd := JZ.mk Tryz.zeroValue60
@[reducible, instance] def se := JZ.mk Tryz.zeroValue66
@[reducible, instance] def qq := JZ.mk Tryz.zeroValue112
@[reducible, instance] def qr := JZ.mk Tryz.zeroValue200
structure Hk (q : Prop) : Prop where h : q
variable {p q : Prop}
theorem Z0(k:q)(h:Hk q→p:=by intro qk;refine B2 ?_;refine B6 ?_;exact qk.h):p:=h ⟨k⟩
theorem Z1(k:q)(h:Hk q→p:=by intro qk;refine B2 ?_;refine Ap ?_;exact qk.h):p:=h ⟨k⟩
theorem Z2(k:q)(h:Hk q→p:=by intro qk;refine R.fin [2] ?_;refine AW.ret ?_;exact qk.h):p:=h ⟨k⟩
theorem Z4(k:q)(h:Hk q→p:=by intro qk;refine K.blR ?_;refine K.thR ?_;exact qk.h):p:=h ⟨k⟩
theorem Z5(k:q)(h:Hk q→p:=by intro qk;refine AW.skip ?_;refine K.thN ?_;exact qk.h):p:=h ⟨k⟩
theorem Z6(k:q)(h:Hk q→p:=by intro qk;refine K.blN ?_;refine K.thN ?_;exact qk.h):p:=h ⟨k⟩
theorem Z7(k:q)(h:Hk q→p:=by intro qk;refine B6 ?_;refine B6 ?_;exact qk.h):p:=h ⟨k⟩
theorem Z8(k:q)(h:Hk q→p:=by intro qk;refine R.seql ?_;refine B6 ?_;exact qk.h):p:=h ⟨k⟩
theorem Z9(k:q)(h:Hk q→p:=by intro qk;refine R.fin [4, 5] ?_;refine AW.ret ?_;exact qk.h):p:=h ⟨k⟩
theorem Z10(k:q)(h:Hk q→p:=by intro qk;refine Z2 ?_;refine Z4 ?_;exact qk.h):p:=h ⟨k⟩
theorem Z11(k:q)(h:Hk q→p:=by intro qk;refine R.fieldAddrRo (off := 0) jU Tryz.sizeOf3 ?_;refine Dr ?_;exact qk.h):p:=h ⟨k⟩
theorem Z12(k:q)(h:Hk q→p:=by intro qk;refine W.seq ?_;refine Z1 ?_;exact qk.h):p:=h ⟨k⟩
theorem Z14(k:q)(h:Hk q→p:=by intro qk;refine Gq ?_;refine Ap ?_;exact qk.h):p:=h ⟨k⟩
theorem Z15(k:q)(h:Hk q→p:=by intro qk;refine Ap ?_;refine G.move ?_;exact qk.h):p:=h ⟨k⟩
theorem Z16(k:q)(h:Hk q→p:=by intro qk;refine AW.skip ?_;refine Z6 ?_;exact qk.h):p:=h ⟨k⟩
theorem Z18(k:q)(h:Hk q→p:=by intro qk;refine W.seq ?_;refine B2 ?_;exact qk.h):p:=h ⟨k⟩
theorem Z19(k:q)(h:Hk q→p:=by intro qk;refine W.seq ?_;refine AW.block ?_;exact qk.h):p:=h ⟨k⟩
theorem Z20(k:q)(h:Hk q→p:=by intro qk;refine R.pickAnd ?_;refine B6 ?_;exact qk.h):p:=h ⟨k⟩
theorem Z21(k:q)(h:Hk q→p:=by intro qk;refine R.eql ?_;refine B6 ?_;exact qk.h):p:=h ⟨k⟩
theorem Z22(k:q)(h:Hk q→p:=by intro qk;refine B2 ?_;refine J9 ?_;refine dh ?_;refine H6 ?_;exact qk.h):p:=h ⟨k⟩
theorem Z23(k:q)(h:Hk q→p:=by intro qk;refine R.fin [4] ?_;refine AW.ret ?_;exact qk.h):p:=h ⟨k⟩
theorem Z24(k:q)(h:Hk q→p:=by intro qk;refine R.fieldAddrRo (off := 5) jU Tryz.sizeOf53 ?_;refine Dr ?_;exact qk.h):p:=h ⟨k⟩
theorem Z25(k:q)(h:Hk q→p:=by intro qk;refine B2 ?_;refine Z8 ?_;exact qk.h):p:=h ⟨k⟩
theorem Z26(k:q)(h:Hk q→p:=by intro qk;refine G.fieldAddrRo (off := 1) jU Tryz.sizeOf9 ?_;refine Ii ?_;exact qk.h):p:=h ⟨k⟩
theorem Z27(k:q)(h:Hk q→p:=by intro qk;refine K.lpR ?_;refine K.thR ?_;exact qk.h):p:=h ⟨k⟩
theorem Z28(k:q)(h:Hk q→p:=by intro qk;refine B2 ?_;refine R.boxRo ?_;exact qk.h):p:=h ⟨k⟩
theorem Z29(k:q)(h:Hk q→p:=by intro qk;refine K.lpE ?_;refine K.thN ?_;exact qk.h):p:=h ⟨k⟩
theorem Z30(k:q)(h:Hk q→p:=by intro qk;refine R.add64 ?_;refine B6 ?_;exact qk.h):p:=h ⟨k⟩
theorem Z31(k:q)(h:Hk q→p:=by intro qk;refine Z1 ?_;refine Ap ?_;exact qk.h):p:=h ⟨k⟩
theorem Z33(k:q)(h:Hk q→p:=by intro qk;refine R.fieldAddrRo (off := 1) jU Tryz.sizeOf9 ?_;refine Dr ?_;exact qk.h):p:=h ⟨k⟩
theorem Z34(k:q)(h:Hk q→p:=by intro qk;refine R.extract ?_;refine R.extract ?_;exact qk.h):p:=h ⟨k⟩
theorem Z35(k:q)(h:Hk q→p:=by intro qk;refine R.len jU ?_;refine Ap ?_;exact qk.h):p:=h ⟨k⟩
theorem Z36(k:q)(h:Hk q→p:=by intro qk;refine Z1 ?_;refine B6 ?_;exact qk.h):p:=h ⟨k⟩
theorem Z37(k:q)(h:Hk q→p:=by intro qk;refine Z22 ?_;refine Z10 ?_;exact qk.h):p:=h ⟨k⟩
theorem Z39(k:q)(h:Hk q→p:=by intro qk;refine B2 ?_;refine Z21 ?_;exact qk.h):p:=h ⟨k⟩
theorem Z40(k:q)(h:Hk q→p:=by intro qk;refine AW.exit ?_;refine K.thE ?_;exact qk.h):p:=h ⟨k⟩
theorem Z41(k:q)(h:Hk q→p:=by intro qk;refine Z0 ?_;refine B6 ?_;exact qk.h):p:=h ⟨k⟩
theorem Z42(k:q)(h:Hk q→p:=by intro qk;refine R.alloc jZ ?_;refine H6 ?_;exact qk.h):p:=h ⟨k⟩
theorem Z43(k:q)(h:Hk q→p:=by intro qk;refine Gq ?_;refine R.add64 ?_;refine Ap ?_;exact qk.h):p:=h ⟨k⟩
theorem Z44(k:q)(h:Hk q→p:=by intro qk;refine B2 ?_;refine R.lss ?_;exact qk.h):p:=h ⟨k⟩
theorem Z45(k:q)(h:Hk q→p:=by intro qk;refine G.fieldAddrRo (off := 5) jU Tryz.sizeOf53 ?_;refine Ii ?_;exact qk.h):p:=h ⟨k⟩
theorem Z46(k:q)(h:Hk q→p:=by intro qk;refine R.fin [6, 7] ?_;refine AW.ret ?_;exact qk.h):p:=h ⟨k⟩
theorem Z47(k:q)(h:Hk q→p:=by intro qk;refine Z9 ?_;refine K.thR ?_;exact qk.h):p:=h ⟨k⟩
theorem Z48(k:q)(h:Hk q→p:=by intro qk;refine R.indexAddr (0) (A3 (ks.getD 0 0)) jU jS (Fe (by omega)) ?_;refine Dr ?_;exact qk.h):p:=h ⟨k⟩
theorem Z49(k:q)(h:Hk q→p:=by intro qk;refine Z0 ?_;refine R.fin [0] ?_;exact qk.h):p:=h ⟨k⟩
theorem Z50(h:p:=by refine Z47 ?_;exact iv):p:=h
theorem Z51(k:q)(h:Hk q→p:=by intro qk;refine Z14 ?_;refine Z30 ?_;exact qk.h):p:=h ⟨k⟩
theorem Z52(h:p:=by refine K.thJ ?_;exact StLe.of_eq (by unfold F7; first | (simp only [ht38, ht41, ht49, ht57, ht57, ht66, ht74, hk3, hk6, Bool.true_or, Bool.false_or, Bool.or_true, Bool.or_false, if_true, if_false, Bool.false_eq_true, ↓reduceIte] <;> rfl) | (simp only [ht38, ht41, ht49, ht57, ht57, ht66, ht74, hk3, Bool.true_or, Bool.false_or, Bool.or_true, if_true, if_false, Bool.false_eq_true, ↓reduceIte] <;> rfl) | (simp only [ht38, ht41, ht49, ht57, ht57, ht66, ht74, if_true, if_false, Bool.false_eq_true, ↓reduceIte] <;> rfl))):p:=h
theorem Z53(k:q)(h:Hk q→p:=by intro qk;refine R.len jU ?_;refine R.lss ?_;exact qk.h):p:=h ⟨k⟩
theorem Z54(h:p:=by refine Z10 ?_;exact iw):p:=h
theorem Z55(k:q)(h:Hk q→p:=by intro qk;refine Z28 ?_;refine B6 ?_;exact qk.h):p:=h ⟨k⟩
theorem Z56(h:p:=by refine Z10 ?_;exact K.fin (V.one V.tmp) ⟨by rw [hn]; first | (simp only [ht22, ht25, ht33, ht41, ht41, hk3, hk6, Bool.true_or, Bool.false_or, Bool.or_true, Bool.or_false, if_true, if_false, Bool.false_eq_true, ↓reduceIte] <;> rfl) | (simp only [ht22, ht25, ht33, ht41, ht41, hk3, Bool.true_or, Bool.false_or, Bool.or_true, if_true, if_false, Bool.false_eq_true, ↓reduceIte] <;> rfl) | (simp only [ht22, ht25, ht33, ht41, ht41, if_true, if_false, Bool.false_eq_true, ↓reduceIte] <;> rfl), rfl⟩):p:=h
theorem Z58(h:p:=by refine K.thJ ?_;exact StLe.of_eq (by unfold F7; first | (simp only [ht38, ht41, ht49, ht57, ht57, hk3, hk6, Bool.true_or, Bool.false_or, Bool.or_true, Bool.or_false, if_true, if_false, Bool.false_eq_true, ↓reduceIte] <;> rfl) | (simp only [ht38, ht41, ht49, ht57, ht57, hk3, Bool.true_or, Bool.false_or, Bool.or_true, if_true, if_false, Bool.false_eq_true, ↓reduceIte] <;> rfl) | (simp only [ht38, ht41, ht49, ht57, ht57, if_true, if_false, Bool.false_eq_true, ↓reduceIte] <;> rfl))):p:=h
theorem Z59(k:q)(h:Hk q→p:=by intro qk;refine Z4 ?_;refine Z27 ?_;exact qk.h):p:=h ⟨k⟩
theorem Z60(k:q)(h:Hk q→p:=by intro qk;refine Ap ?_;refine Z34 ?_;exact qk.h):p:=h ⟨k⟩
theorem Z61(k:q)(h:Hk q→p:=by intro qk;refine R.build (places := #[(0, 1), (1, 1), (2, 3), (5, 1)]) jU (fun w => by simp) jZ ?_;refine H6 ?_;exact qk.h):p:=h ⟨k⟩
theorem Z62(k:q)(h:Hk q→p:=by intro qk;refine R.indexAddr (x) (B3 c[x]) jU jS (Ae hlt) ?_;refine E0 ?_;exact qk.h):p:=h ⟨k⟩
theorem Z63(k:q)(h:Hk q→p:=by intro qk;refine R.fieldAddrRo (off := 1) jU Tryz.sizeOf34 ?_;refine Dr ?_;exact qk.h):p:=h ⟨k⟩
theorem Z64(k:q)(h:Hk q→p:=by intro qk;refine Z0 ?_;refine Z2 ?_;exact qk.h):p:=h ⟨k⟩
theorem Z65(k:q)(h:Hk q→p:=by intro qk;refine Z19 ?_;refine B2 ?_;exact qk.h):p:=h ⟨k⟩
theorem Z66(h:p:=by refine Z0 ?_;refine Z10 ?_;exact K.fin (V.one V.tmp) ⟨by simp_all [K7], rfl⟩):p:=h
theorem Z67(k:q)(h:Hk q→p:=by intro qk;refine Z12 ?_;refine Ap ?_;exact qk.h):p:=h ⟨k⟩
theorem Z68(h:p:=by refine K.thJ ?_;exact StLe.of_eq (by simp [*])):p:=h
theorem Z69(k:q)(h:Hk q→p:=by intro qk;refine R.indexAddr (x) (A6 e.kids[x]) jU jS (Ae hlt) ?_;refine E0 ?_;exact qk.h):p:=h ⟨k⟩
theorem Z70(k:q)(h:Hk q→p:=by intro qk;refine G.eql ?_;refine Z20 ?_;exact qk.h):p:=h ⟨k⟩
theorem Z71(k:q)(h:Hk q→p:=by intro qk;refine Z0 ?_;refine R.fin [0, 1] ?_;exact qk.h):p:=h ⟨k⟩
theorem Z72(k:q)(h:Hk q→p:=by intro qk;refine R.fieldAddrRo (off := 1) jU Tryz.sizeOf3 ?_;refine Dr ?_;exact qk.h):p:=h ⟨k⟩
theorem Z73(k:q)(h:Hk q→p:=by intro qk;refine Z40 ?_;refine Z29 ?_;exact qk.h):p:=h ⟨k⟩
theorem Z74(k:q)(h:Hk q→p:=by intro qk;refine W.seq ?_;refine Z0 ?_;exact qk.h):p:=h ⟨k⟩
theorem Z75(k:q)(h:Hk q→p:=by intro qk;refine R.nilPtr ?_;refine R.fieldAddrPtr (fo := 0) jU Tryz.sizeOf66 ?_;exact qk.h):p:=h ⟨k⟩
theorem Z76(k:q)(h:Hk q→p:=by intro qk;refine B6 ?_;refine Z46 ?_;exact qk.h):p:=h ⟨k⟩
theorem Z77(k:q)(h:Hk q→p:=by intro qk;refine Z7 ?_;refine Z9 ?_;exact qk.h):p:=h ⟨k⟩
theorem Z78(k:q)(h:Hk q→p:=by intro qk;refine Z0 ?_;refine Z10 ?_;exact qk.h):p:=h ⟨k⟩
theorem Z79(k:q)(h:Hk q→p:=by intro qk;refine R.fieldAddrPtr (fo := 0) jU Tryz.sizeOf9 ?_;refine Ij ?_;exact qk.h):p:=h ⟨k⟩
theorem Z80(k:q)(h:Hk q→p:=by intro qk;refine R.fieldAddrRo (off := 2) jU Tryz.sizeOf22 ?_;refine Dr ?_;exact qk.h):p:=h ⟨k⟩
theorem Z82(h:p:=by refine K.thR ?_;exact Yv):p:=h
theorem Z84(k:q)(h:Hk q→p:=by intro qk;refine R.fin [6] ?_;refine AW.ret ?_;exact qk.h):p:=h ⟨k⟩
theorem Z85(k:q)(h:Hk q→p:=by intro qk;refine G.gtr ?_;refine R.pickOr ?_;exact qk.h):p:=h ⟨k⟩
theorem Z86(k:q)(h:Hk q→p:=by intro qk;refine Z16 ?_;refine Z51 ?_;exact qk.h):p:=h ⟨k⟩
theorem Z87(k:q)(h:Hk q→p:=by intro qk;refine B2 ?_;refine R.freeze (k := 2) (n := 1) 5 1 [B3 ⟨y.name, (c.getD (Ah s c).toNat ⟨[], 0⟩).kind⟩] hcc rfl rfl (Rw [⟨y.name, (c.getD (Ah s c).toNat ⟨[], 0⟩).kind⟩]) (Rx [⟨y.name, (c.getD (Ah s c).toNat ⟨[], 0⟩).kind⟩]) (Mg [⟨y.name, (c.getD (Ah s c).toNat ⟨[], 0⟩).kind⟩]) ?_;exact qk.h):p:=h ⟨k⟩
theorem Z88(k:q)(h:Hk q→p:=by intro qk;refine B2 ?_;refine E0 ?_;exact qk.h):p:=h ⟨k⟩
theorem Z89(k:q)(h:Hk q→p:=by intro qk;refine Z5 ?_;refine Z19 ?_;exact qk.h):p:=h ⟨k⟩
theorem Z90(h:p:=by refine Z2 ?_;exact Wh):p:=h
theorem Z92(k:q)(h:Hk q→p:=by intro qk;refine Ik ?_;refine D.move ?_;exact qk.h):p:=h ⟨k⟩
theorem Z93(k:q)(h:Hk q→p:=by intro qk;refine R.pickAnd ?_;refine Ap ?_;exact qk.h):p:=h ⟨k⟩
theorem Z94(k:q)(h:Hk q→p:=by intro qk;refine Z15 ?_;refine G.move ?_;exact qk.h):p:=h ⟨k⟩
theorem Z96(k:q)(h:Hk q→p:=by intro qk;refine Z60 ?_;refine Z7 ?_;exact qk.h):p:=h ⟨k⟩
theorem Z97(k:q)(h:Hk q→p:=by intro qk;refine Z55 ?_;refine R.fin [1] ?_;exact qk.h):p:=h ⟨k⟩
theorem Z98(h:p:=by refine K.thR ?_;exact Yw):p:=h
theorem Z99(h:p:=by refine Z59 ?_;exact Yw):p:=h
theorem Jv(k:q)(h:Hk q→p:=by intro qk;refine Z5 ?_;refine Z1 ?_;exact qk.h):p:=h ⟨k⟩
theorem Y0(k:q)(h:Hk q→p:=by intro qk;refine dh ?_;refine Ap ?_;exact qk.h):p:=h ⟨k⟩
theorem W3(k:q)(h:Hk q→p:=by intro qk;refine R.fieldAddrRo (off := 0) jU Tryz.sizeOf9 ?_;refine Dr ?_;exact qk.h):p:=h ⟨k⟩
theorem W4(k:q)(h:Hk q→p:=by intro qk;refine R.fieldAddrPtr (fo := 0) jU Tryz.sizeOf3 ?_;refine Ij ?_;exact qk.h):p:=h ⟨k⟩
theorem Y1(h:p:=by refine Z77 ?_;exact iv):p:=h
theorem Gp(k:q)(h:Hk q→p:=by intro qk;refine Z12 ?_;refine R.neq ?_;exact qk.h):p:=h ⟨k⟩
theorem Kw(k:q)(h:Hk q→p:=by intro qk;refine Z25 ?_;refine R.fin [2, 18] ?_;exact qk.h):p:=h ⟨k⟩
theorem Y2(h:p:=by refine Z78 ?_;exact K.fin (V.one V.tmp) ⟨by simp_all [Iu], rfl⟩):p:=h
theorem bx(k:q)(h:Hk q→p:=by intro qk;refine R.indexAddr (0) (A6 (e.kids.getD 0 Aa)) jU jS (Jn (by omega)).1 ?_;refine E0 ?_;exact qk.h):p:=h ⟨k⟩
theorem Hx(k:q)(h:Hk q→p:=by intro qk;refine Z16 ?_;refine Z43 ?_;exact qk.h):p:=h ⟨k⟩
theorem H5(k:q)(h:Hk q→p:=by intro qk;refine Z41 ?_;refine Z47 ?_;exact qk.h):p:=h ⟨k⟩
theorem Y3(k:q)(h:Hk q→p:=by intro qk;refine R.indexAddr (x) (A6 l[x]) jU jS (Ae hlt) ?_;refine E0 ?_;exact qk.h):p:=h ⟨k⟩
theorem Jw(k:q)(h:Hk q→p:=by intro qk;refine Ap ?_;refine Ap ?_;exact qk.h):p:=h ⟨k⟩
theorem c6(k:q)(h:Hk q→p:=by intro qk;refine G.indexAddr (1) (A3 (ks.getD 1 0)) jU jS (fun _ => Fe (by omega)) ?_;refine Ii ?_;exact qk.h):p:=h ⟨k⟩
theorem ca(k:q)(h:Hk q→p:=by intro qk;refine D.fieldAddrPtr (fo := 0) jU Tryz.sizeOf66 ?_;refine D.fieldAddrRo (off := 1) jU Tryz.sizeOf9 ?_;exact qk.h):p:=h ⟨k⟩
theorem J6(k:q)(h:Hk q→p:=by intro qk;refine Gq ?_;refine Z8 ?_;exact qk.h):p:=h ⟨k⟩
theorem Pe(k:q)(h:Hk q→p:=by intro qk;refine B2 ?_;refine Pj ?_;exact qk.h):p:=h ⟨k⟩
theorem Kx(k:q)(h:Hk q→p:=by intro qk;refine Z25 ?_;refine R.fin [13] ?_;exact qk.h):p:=h ⟨k⟩
theorem J7(k:q)(h:Hk q→p:=by intro qk;refine B2 ?_;refine Z33 ?_;exact qk.h):p:=h ⟨k⟩
theorem Ig(k:q)(h:Hk q→p:=by intro qk;refine Z5 ?_;refine B2 ?_;exact qk.h):p:=h ⟨k⟩
theorem Qq(k:q)(h:Hk q→p:=by intro qk;refine Z15 ?_;refine Z70 ?_;exact qk.h):p:=h ⟨k⟩
theorem N4(k:q)(h:Hk q→p:=by intro qk;refine Z25 ?_;refine R.fin [2, 3, 9] ?_;exact qk.h):p:=h ⟨k⟩
theorem cb(k:q)(h:Hk q→p:=by intro qk;refine D.fieldAddrRo (off := 1) jU Tryz.sizeOf34 ?_;refine Ik ?_;exact qk.h):p:=h ⟨k⟩
theorem N5(k:q)(h:Hk q→p:=by intro qk;refine D.move ?_;refine D.move ?_;exact qk.h):p:=h ⟨k⟩
theorem Hy(k:q)(h:Hk q→p:=by intro qk;refine Z16 ?_;refine Z22 ?_;refine Z2 ?_;exact qk.h):p:=h ⟨k⟩
theorem N6(k:q)(h:Hk q→p:=by intro qk;refine Gq ?_;refine R.moveT ?_;exact qk.h):p:=h ⟨k⟩
theorem Y4(k:q)(h:Hk q→p:=by intro qk;refine B2 ?_;refine R.fieldAddrRo (off := 2) jU Tryz.sizeOf58 ?_;exact qk.h):p:=h ⟨k⟩
theorem Hz(k:q)(h:Hk q→p:=by intro qk;refine Z67 ?_;refine Z53 ?_;exact qk.h):p:=h ⟨k⟩
theorem N7(k:q)(h:Hk q→p:=by intro qk;refine Z78 ?_;refine Z27 ?_;exact qk.h):p:=h ⟨k⟩
theorem Pf(k:q)(h:Hk q→p:=by intro qk;refine Z18 ?_;refine Z11 ?_;exact qk.h):p:=h ⟨k⟩
theorem gn(k:q)(h:Hk q→p:=by intro qk;refine R.alloc jZ ?_;refine B6 ?_;exact qk.h):p:=h ⟨k⟩
theorem J8(k:q)(h:Hk q→p:=by intro qk;refine Z1 ?_;refine R.eql ?_;exact qk.h):p:=h ⟨k⟩
theorem Ih(k:q)(h:Hk q→p:=by intro qk;refine Z6 ?_;refine Z43 ?_;exact qk.h):p:=h ⟨k⟩
theorem cd(k:q)(h:Hk q→p:=by intro qk;refine Z41 ?_;refine R.fin [0, 1] ?_;exact qk.h):p:=h ⟨k⟩
theorem gq(k:q)(h:Hk q→p:=by intro qk;refine R.fieldAddrPtr (fo := 1) jU Tryz.sizeOf22 ?_;refine R.loadOwn (n := O.length + 1) (ho := batc.trans rfl) jA ?_;exact qk.h):p:=h ⟨k⟩
theorem N8(k:q)(h:Hk q→p:=by intro qk;refine Z12 ?_;refine Z35 ?_;exact qk.h):p:=h ⟨k⟩
theorem Ky(h:p:=by refine Z16 ?_;refine Z0 ?_;refine Z2 ?_;exact K.fin (V.one V.tmp) ⟨by simp_all [K7], rfl⟩):p:=h
theorem ce(k:q)(h:Hk q→p:=by intro qk;refine G.neq ?_;refine R.pickOr ?_;exact qk.h):p:=h ⟨k⟩
theorem Y5(h:p:=by refine AW.skip ?_;exact Z68):p:=h
theorem ke(h:p:=by refine Z4 ?_;exact md):p:=h
theorem W5(k:q)(h:Hk q→p:=by intro qk;refine J9 ?_;refine R.assignT ?_;exact qk.h):p:=h ⟨k⟩
theorem cf(k:q)(h:Hk q→p:=by intro qk;refine G.fieldAddrRo (off := 2) jU Tryz.sizeOf58 ?_;refine G.loadRoN jA jS ?_;exact qk.h):p:=h ⟨k⟩
theorem Kz(k:q)(h:Hk q→p:=by intro qk;refine Z0 ?_;refine Z23 ?_;exact qk.h):p:=h ⟨k⟩
theorem Lo(k:q)(h:Hk q→p:=by intro qk;refine B2 ?_;refine Z11 ?_;exact qk.h):p:=h ⟨k⟩
theorem kf(k:q)(h:Hk q→p:=by intro qk;refine R.freeze (k := 2) (n := 1) 5 1 [B3 ⟨y.name, y.kind⟩] hcc rfl rfl (Rw [⟨y.name, y.kind⟩]) (Rx [⟨y.name, y.kind⟩]) (Mg [⟨y.name, y.kind⟩]) ?_;refine Ap ?_;exact qk.h):p:=h ⟨k⟩
theorem L0(k:q)(h:Hk q→p:=by intro qk;refine Jv ?_;refine Z77 ?_;exact qk.h):p:=h ⟨k⟩
theorem cg(k:q)(h:Hk q→p:=by intro qk;refine G.fieldAddrPtr (fo := 2) jU Tryz.sizeOf9 ?_;refine G.loadOwn jA ?_;exact qk.h):p:=h ⟨k⟩
theorem kg(h:p:=by refine R.fin [0, 1, 2, 10, 11] ?_;exact K.lpN (i + 1) hli (by omega) (StCut.of_eq (by simp only [hst, List.map_append, List.map_cons, List.map_nil] <;> rfl))):p:=h
theorem cj(k:q)(h:Hk q→p:=by intro qk;refine G.fieldAddrPtr (fo := 1) jU Tryz.sizeOf2 ?_;refine G.loadOwn jA ?_;exact qk.h):p:=h ⟨k⟩
theorem Lp(k:q)(h:Hk q→p:=by intro qk;refine Z26 ?_;refine G.seql ?_;exact qk.h):p:=h ⟨k⟩
theorem ck(k:q)(h:Hk q→p:=by intro qk;refine D.fieldAddrRo (off := 2) jU Tryz.sizeOf22 ?_;refine Ik ?_;exact qk.h):p:=h ⟨k⟩
theorem cl(k:q)(h:Hk q→p:=by intro qk;refine G.fieldAddrRo (off := 4) jU Tryz.sizeOf53 ?_;refine Ii ?_;exact qk.h):p:=h ⟨k⟩
theorem Qr(k:q)(h:Hk q→p:=by intro qk;refine Z36 ?_;refine Z23 ?_;exact qk.h):p:=h ⟨k⟩
theorem N9(k:q)(h:Hk q→p:=by intro qk;refine AW.block ?_;refine Z39 ?_;exact qk.h):p:=h ⟨k⟩
theorem Na(k:q)(h:Hk q→p:=by intro qk;refine Z89 ?_;refine Z31 ?_;exact qk.h):p:=h ⟨k⟩
theorem W6(k:q)(h:Hk q→p:=by intro qk;refine R.not ?_;refine B6 ?_;exact qk.h):p:=h ⟨k⟩
theorem ki(k:q)(h:Hk q→p:=by intro qk;refine Z12 ?_;refine R.not ?_;refine R.fin [11, 235] ?_;exact qk.h):p:=h ⟨k⟩
theorem cm(k:q)(h:Hk q→p:=by intro qk;refine R.fin [11, 12] ?_;refine Z6 ?_;refine ki ?_;exact qk.h):p:=h ⟨k⟩
theorem gr(h:p:=by refine Z59 ?_;exact iv):p:=h
theorem kj(k:q)(h:Hk q→p:=by intro qk;refine R.fin [1, 3, 4, 5] ?_;refine K.blN ?_;exact qk.h):p:=h ⟨k⟩
theorem cn(k:q)(h:Hk q→p:=by intro qk;refine Z45 ?_;refine G.len jU ?_;exact qk.h):p:=h ⟨k⟩
theorem Qs(k:q)(h:Hk q→p:=by intro qk;refine Z55 ?_;refine Ep ?_;exact qk.h):p:=h ⟨k⟩
theorem Lq(k:q)(h:Hk q→p:=by intro qk;refine Z0 ?_;refine R.nilSl 6 2 ?_;refine Z76 ?_;exact qk.h):p:=h ⟨k⟩
theorem W7(k:q)(h:Hk q→p:=by intro qk;refine Z44 ?_;refine R.fin [0, 1, 7, 8, 9] ?_;exact qk.h):p:=h ⟨k⟩
theorem L1(k:q)(h:Hk q→p:=by intro qk;refine Z19 ?_;refine Z1 ?_;exact qk.h):p:=h ⟨k⟩
theorem Sw(k:q)(h:Hk q→p:=by intro qk;refine gn ?_;refine H6 ?_;exact qk.h):p:=h ⟨k⟩
theorem km(h:p:=by refine Z59 ?_;exact K.fin (V.one V.tmp) ⟨by rw [Zo hlt (by simpa using (Eq.symm (by simpa using ht16) : l[x] = v)) hx.2], rfl⟩):p:=h
theorem gt(h:p:=by refine N7 ?_;exact Yv):p:=h
theorem Sx(k:q)(h:Hk q→p:=by intro qk;refine Z18 ?_;refine E0 ?_;exact qk.h):p:=h ⟨k⟩
theorem Y6(h:p:=by refine Z23 ?_;exact Wh):p:=h
theorem Qt(k:q)(h:Hk q→p:=by intro qk;refine R.len jU ?_;refine R.gtr ?_;exact qk.h):p:=h ⟨k⟩
theorem Lr(k:q)(h:Hk q→p:=by intro qk;refine Z6 ?_;refine Z51 ?_;exact qk.h):p:=h ⟨k⟩
theorem gu(h:p:=by refine Z70 ?_;refine Z10 ?_;exact mg):p:=h
theorem gw(h:p:=by refine N7 ?_;exact Yw):p:=h
theorem Y7(h:p:=by refine W.keep [3, 8] ?_;exact Y5):p:=h
theorem gx(k:q)(h:Hk q→p:=by intro qk;refine Z94 ?_;refine G.indexAddr (y) (A6 x.1[y]) jU jS (fun _ => Ae hlt) ?_;exact qk.h):p:=h ⟨k⟩
theorem Ls(k:q)(h:Hk q→p:=by intro qk;refine Z18 ?_;refine Z8 ?_;exact qk.h):p:=h ⟨k⟩
theorem Qu(k:q)(h:Hk q→p:=by intro qk;refine R.eql ?_;refine Ap ?_;exact qk.h):p:=h ⟨k⟩
theorem co(k:q)(h:Hk q→p:=by intro qk;refine Pj ?_;refine J9 ?_;exact qk.h):p:=h ⟨k⟩
theorem gy(k:q)(h:Hk q→p:=by intro qk;refine R.indexAddr (x) (F4 l[x]) jU jS (Ae hlt) ?_;refine E0 ?_;exact qk.h):p:=h ⟨k⟩
theorem Pg(k:q)(h:Hk q→p:=by intro qk;refine R.not ?_;refine Z15 ?_;exact qk.h):p:=h ⟨k⟩
theorem W8(h:p:=by refine R.fin [] ?_;refine K.blN ?_;exact K.finN .nores ⟨rfl, by rw [pe] <;> simp [Wx]⟩):p:=h
theorem Sy(k:q)(h:Hk q→p:=by intro qk;refine R.pickOr ?_;refine Ap ?_;exact qk.h):p:=h ⟨k⟩
theorem Qv(k:q)(h:Hk q→p:=by intro qk;refine Z16 ?_;refine Z64 ?_;exact qk.h):p:=h ⟨k⟩
theorem kn(h:p:=by refine Kz ?_;exact K.fin (V.one V.tmp) ⟨by rw [T8 (Fm (by simp at ht9; omega) hx.2)], rfl⟩):p:=h
theorem W9(k:q)(h:Hk q→p:=by intro qk;refine B2 ?_;refine Dr ?_;exact qk.h):p:=h ⟨k⟩
theorem Nc(k:q)(h:Hk q→p:=by intro qk;refine Z49 ?_;refine Z12 ?_;exact qk.h):p:=h ⟨k⟩
theorem Ph(k:q)(h:Hk q→p:=by intro qk;refine Z0 ?_;refine Z84 ?_;exact qk.h):p:=h ⟨k⟩
theorem gz(h:p:=by refine K.thJ ?_;exact StLe.of_eq (by rw [hs1] <;> rfl)):p:=h
theorem ko(h:p:=by refine Kz ?_;exact K.fin (V.one V.tmp) ⟨by rw [Zp (Fm (by simp at ht9; omega) hx.2)], rfl⟩):p:=h
theorem kp(h:p:=by refine R.fin [1, 3, 4] ?_;exact K.lpN (x + 1) hlt (by omega) (by simp only [em]; exact StCut.of_eq rfl)):p:=h
theorem i6(h:p:=by refine K.lpE ?_;exact K.finN .nores (hp := by rw [hxe])):p:=h
theorem Nd(k:q)(h:Hk q→p:=by intro qk;refine Z5 ?_;refine Z74 ?_;exact qk.h):p:=h ⟨k⟩
theorem Nf(k:q)(h:Hk q→p:=by intro qk;refine Z49 ?_;refine Z1 ?_;exact qk.h):p:=h ⟨k⟩
theorem Y8(k:q)(h:Hk q→p:=by intro qk;refine Pf ?_;refine R.eql ?_;exact qk.h):p:=h ⟨k⟩
theorem i7(k:q)(h:Hk q→p:=by intro qk;refine R.fieldAddrPtr (fo := 1) jU Tryz.sizeOf2 ?_;refine Ij ?_;exact qk.h):p:=h ⟨k⟩
theorem i8(k:q)(h:Hk q→p:=by intro qk;refine R.fieldAddrPtr (fo := 2) jU Tryz.sizeOf9 ?_;refine Ij ?_;exact qk.h):p:=h ⟨k⟩
theorem ia(k:q)(h:Hk q→p:=by intro qk;refine G.fieldAddrRo (off := 1) jU Tryz.sizeOf3 ?_;refine Ii ?_;exact qk.h):p:=h ⟨k⟩
theorem ib(k:q)(h:Hk q→p:=by intro qk;refine H.fieldAddrRo (off := 0) jU Tryz.sizeOf9 ?_;refine I0 ?_;exact qk.h):p:=h ⟨k⟩
theorem ic(k:q)(h:Hk q→p:=by intro qk;refine G.fieldAddrRo (off := 0) jU Tryz.sizeOf3 ?_;refine Ii ?_;exact qk.h):p:=h ⟨k⟩
theorem Y9(h:p:=by refine Z93 ?_;refine cn ?_;exact gu):p:=h
theorem ie(k:q)(h:Hk q→p:=by intro qk;refine Z36 ?_;refine R.nilTmp 4 2 false ?_;refine B6 ?_;exact qk.h):p:=h ⟨k⟩
theorem ig(k:q)(h:Hk q→p:=by intro qk;refine R.fieldAddrRo (off := 3) jU Tryz.sizeOf53 ?_;refine Dr ?_;exact qk.h):p:=h ⟨k⟩
theorem ii(k:q)(h:Hk q→p:=by intro qk;refine Na ?_;refine R.indexAddr (x) (B3 c[x]) jU jS (Ae hlt) ?_;exact qk.h):p:=h ⟨k⟩
theorem kq(h:p:=by refine K.thR ?_;exact iw):p:=h
theorem kr(h:p:=by refine G.call Tryz.call120 (fun hB => o7 e.text Hr hs (by decide) _) ?_;exact Y9):p:=h
theorem Wa(k:q)(h:Hk q→p:=by intro qk;refine R.boxRo ?_;refine B6 ?_;exact qk.h):p:=h ⟨k⟩
theorem Wb(h:p:=by refine ie ?_;exact Z50):p:=h
theorem Sz(k:q)(h:Hk q→p:=by intro qk;refine G.move ?_;refine ce ?_;exact qk.h):p:=h ⟨k⟩
theorem kt(h:p:=by refine Qv ?_;exact iw):p:=h
theorem ku(h:p:=by refine Z59 ?_;exact K.fin (V.two V.tmp V.tmp) ⟨by rw [Tn hr hkn]; try rfl, rfl⟩):p:=h
theorem kv(k:q)(h:Hk q→p:=by intro qk;refine R.indexAddrSl (n := 1) 0 jU Tryz.sizeOf47 (by decide) ?_;refine R.fieldAddrPtr (fo := 1) jU Tryz.sizeOf3 (hc := rfl) ?_;exact qk.h):p:=h ⟨k⟩
theorem Ya(k:q)(h:Hk q→p:=by intro qk;refine Ij ?_;refine Ap ?_;exact qk.h):p:=h ⟨k⟩
theorem ij(k:q)(h:Hk q→p:=by intro qk;refine Z48 ?_;refine R.call Tryz.call125 (Mf (ks.getD 0 0) 1 _) ?_;exact qk.h):p:=h ⟨k⟩
theorem ik(k:q)(h:Hk q→p:=by intro qk;refine Z48 ?_;refine R.call Tryz.call125 (Mf (ks.getD 0 0) 2 _) ?_;exact qk.h):p:=h ⟨k⟩
theorem kw(h:p:=by refine Z84 ?_;exact K.fin (V.one V.tmp) (hlow := by simp [or_imp, forall_and, As])):p:=h
theorem kx(k:q)(h:Hk q→p:=by intro qk;refine Z31 ?_;refine Ap ?_;exact qk.h):p:=h ⟨k⟩
theorem Yb(k:q)(h:Hk q→p:=by intro qk;refine Dr ?_;refine B6 ?_;exact qk.h):p:=h ⟨k⟩
theorem Yc(k:q)(h:Hk q→p:=by intro qk;refine B2 ?_;refine Ij ?_;exact qk.h):p:=h ⟨k⟩
theorem Yd(k:q)(h:Hk q→p:=by intro qk;refine E0 ?_;refine Z42 ?_;exact qk.h):p:=h ⟨k⟩
theorem ky(h:p:=by refine K.thR ?_;exact K.fin (V.two V.tmp V.tmp) ⟨by rw [Zq hr]; try rfl, rfl⟩):p:=h
theorem Qw(k:q)(h:Hk q→p:=by intro qk;refine Z7 ?_;refine cm ?_;exact qk.h):p:=h ⟨k⟩
theorem kz(k:q)(h:Hk q→p:=by intro qk;refine Jw ?_;refine R.indexAddr ((Ah s c).toNat) (B3 (c.getD (Ah s c).toNat ⟨[], 0⟩)) jU jS (Q0 hf) ?_;exact qk.h):p:=h ⟨k⟩
theorem cp(k:q)(h:Hk q→p:=by intro qk;refine Ap ?_;refine J9 ?_;exact qk.h):p:=h ⟨k⟩
theorem Wc(k:q)(h:Hk q→p:=by intro qk;refine G.not ?_;refine R.pickOr ?_;exact qk.h):p:=h ⟨k⟩
theorem il(k:q)(h:Hk q→p:=by intro qk;refine R.geq ?_;refine B6 ?_;exact qk.h):p:=h ⟨k⟩
theorem Ye(k:q)(h:Hk q→p:=by intro qk;refine Ik ?_;refine D.tail ?_;exact qk.h):p:=h ⟨k⟩
theorem Qx(k:q)(h:Hk q→p:=by intro qk;refine Z5 ?_;refine Z65 ?_;exact qk.h):p:=h ⟨k⟩
theorem Yf(k:q)(h:Hk q→p:=by intro qk;refine R.makeFunc ?_;refine B6 ?_;exact qk.h):p:=h ⟨k⟩
theorem T0(k:q)(h:Hk q→p:=by intro qk;refine Ap ?_;refine Z35 ?_;exact qk.h):p:=h ⟨k⟩
theorem im(h:p:=by refine Z77 ?_;exact K.fin (V.two V.tmp V.tmp)):p:=h
theorem Wd(k:q)(h:Hk q→p:=by intro qk;refine D.assign ?_;refine D.tail ?_;refine B6 ?_;exact qk.h):p:=h ⟨k⟩
theorem Yg(k:q)(h:Hk q→p:=by intro qk;refine AW.ret ?_;refine K.thR ?_;exact qk.h):p:=h ⟨k⟩
theorem l3(k:q)(h:Hk q→p:=by intro qk;refine R.fieldAddrPtr (fo := 0) jU Tryz.sizeOf3 ?_;refine R.loadOwn (n := O.length + 1) (ho := batc.trans rfl) jA ?_;exact qk.h):p:=h ⟨k⟩
theorem l4(h:p:=by refine Qv ?_;exact mg):p:=h
theorem Yh(k:q)(h:Hk q→p:=by intro qk;refine Z1 ?_;refine E0 ?_;exact qk.h):p:=h ⟨k⟩
theorem Yi(h:p:=by refine Qq ?_;exact Z54):p:=h
theorem l5(h:p:=by refine Yg ?_;exact me):p:=h
theorem l6(h:p:=by refine Qr ?_;exact K.fin (V.one V.tmp) ⟨by rw [eo h3] <;> rfl, rfl⟩):p:=h
theorem io(k:q)(h:Hk q→p:=by intro qk;refine J9 ?_;refine J9 ?_;exact qk.h):p:=h ⟨k⟩
theorem l7(h:p:=by refine K.thJ ?_;exact StLe.of_eq (by rw [hcw] <;> (first | rfl | simp))):p:=h
theorem Qy(k:q)(h:Hk q→p:=by intro qk;refine Z5 ?_;refine Z31 ?_;exact qk.h):p:=h ⟨k⟩
theorem Yj(k:q)(h:Hk q→p:=by intro qk;refine Z25 ?_;refine R.fin [3, 8] ?_;exact qk.h):p:=h ⟨k⟩
theorem Yk(k:q)(h:Hk q→p:=by intro qk;refine R.pickOr ?_;refine B6 ?_;exact qk.h):p:=h ⟨k⟩
theorem l8(h:p:=by refine Z59 ?_;exact K.fin (V.two V.tmp V.tmp) ⟨by rw [hbad], rfl⟩):p:=h
theorem l9(h:p:=by refine Z4 ?_;exact ir):p:=h
theorem cq(h:p:=by refine B6 ?_;refine Z23 ?_;exact K.fin (V.one V.tmp) ⟨by first | (rw [hgy hf]; rfl) | (rw [hgv hf]; rfl), rfl⟩):p:=h
theorem la(h:p:=by refine Z27 ?_;exact K.fin (V.one V.tmp) ⟨by rw [hx.eq, hw], rfl⟩):p:=h
theorem Yl(h:p:=by refine Z64 ?_;exact Z82):p:=h
theorem lb(k:q)(h:Hk q→p:=by intro qk;refine H.call Tryz.call121 (fun hB => o8 e.text _) ?_;refine H.fieldAddrRo (off := 5) jU Tryz.sizeOf53 ?_;exact qk.h):p:=h ⟨k⟩
theorem cr(k:q)(h:Hk q→p:=by intro qk;refine Z28 ?_;refine Z7 ?_;exact qk.h):p:=h ⟨k⟩
theorem Ym(k:q)(h:Hk q→p:=by intro qk;refine cr ?_;refine R.fin [1, 2] ?_;exact qk.h):p:=h ⟨k⟩
theorem lc(h:p:=by refine Z59 ?_;exact K.fin (V.two V.tmp V.tmp) ⟨by rw [hkb], rfl⟩):p:=h
theorem Yn(k:q)(h:Hk q→p:=by intro qk;refine D.move ?_;refine D.nilPtr ?_;exact qk.h):p:=h ⟨k⟩
theorem ld(k:q)(h:Hk q→p:=by intro qk;refine R.indexAddr (1) (A6 (e.kids.getD 1 Aa)) jU jS (Jn (by omega)).1 ?_;refine E0 ?_;exact qk.h):p:=h ⟨k⟩
theorem lg(h:p:=by refine Z10 ?_;exact Yv):p:=h
theorem lh(h:p:=by refine Z78 ?_;exact iu):p:=h
theorem T3(k:q)(h:Hk q→p:=by intro qk;refine cd ?_;refine Z31 ?_;exact qk.h):p:=h ⟨k⟩
theorem li(h:p:=by refine H5 ?_;exact dg):p:=h
theorem Yo(k:q)(h:Hk q→p:=by intro qk;refine G.not ?_;refine R.pickAnd ?_;exact qk.h):p:=h ⟨k⟩
theorem Yp(k:q)(h:Hk q→p:=by intro qk;refine R.fin [] ?_;refine K.blN ?_;exact qk.h):p:=h ⟨k⟩
theorem lj(k:q)(h:Hk q→p:=by intro qk;refine E0 ?_;refine R.build (places := #[(0, 1), (1, 1), (2, 1)]) jU (fun w => by simp) jZ ?_;exact qk.h):p:=h ⟨k⟩
theorem ll(k:q)(h:Hk q→p:=by intro qk;refine W.draw [0, 1, 3, 7, 15, 3, 35, 99, 255, 511, 1023] 8 Am (by kernel_rfl) ?_;refine N5 ?_;exact qk.h):p:=h ⟨k⟩
theorem lm(h:p:=by refine Z2 ?_;exact Yv):p:=h
theorem ln(k:q)(h:Hk q→p:=by intro qk;refine W.draw [0, 1, 3, 7, 0, 16, 48, 112, 240, 511, 1023] 9 Am (by kernel_rfl) ?_;refine cb ?_;exact qk.h):p:=h ⟨k⟩
theorem lq(h:p:=by refine Z77 ?_;exact dg):p:=h
theorem ct(h:p:=by refine Qr ?_;refine Z59 ?_;exact K.fin (V.one V.tmp) ⟨by rw [ai hlt ht16 hx.2], rfl⟩):p:=h
theorem lr(k:q)(h:Hk q→p:=by intro qk;refine G.fieldAddrRo (off := 2) jU Tryz.sizeOf58 ?_;refine G.fieldAddrRo (off := 1) jU Tryz.sizeOf2 ?_;exact qk.h):p:=h ⟨k⟩
theorem ls(k:q)(h:Hk q→p:=by intro qk;refine Z79 ?_;refine R.build (places := #[(0, 1), (1, 1), (2, 3), (5, 1)]) jU (fun w => by simp) jZ ?_;exact qk.h):p:=h ⟨k⟩
theorem lu(h:p:=by refine Z23 ?_;exact K.fin (V.one V.tmp) ⟨by rw [ea], rfl⟩):p:=h
theorem Yq(k:q)(h:Hk q→p:=by intro qk;refine G.move ?_;refine G.len jU ?_;exact qk.h):p:=h ⟨k⟩
theorem lv(h:p:=by refine K.thR ?_;exact K.fin (V.one V.tmp) ⟨by rw [hf], rfl⟩):p:=h
theorem lw(h:p:=by refine Z59 ?_;exact K.fin (V.one V.tmp) ⟨by rw [hf], rfl⟩):p:=h
theorem lx(k:q)(h:Hk q→p:=by intro qk;refine Pi ?_;refine W.draw [0, 1, 3, 0, 8, 24, 56, 127] 7 Am (by kernel_rfl) ?_;exact qk.h):p:=h ⟨k⟩
theorem cu(k:q)(h:Hk q→p:=by intro qk;refine Z25 ?_;refine R.fin [2, 3, 18] ?_;exact qk.h):p:=h ⟨k⟩
theorem ly(h:p:=by refine Ph ?_;exact Yw):p:=h
theorem lz(k:q)(h:Hk q→p:=by intro qk;refine N5 ?_;refine D.indexAddr (k) (A4 (colsAt c l k)) jU jS (p8 (Mw (by omega))) ?_;exact qk.h):p:=h ⟨k⟩
theorem Yr(k:q)(h:Hk q→p:=by intro qk;refine G.move ?_;refine G.move ?_;exact qk.h):p:=h ⟨k⟩
theorem T5(k:q)(h:Hk q→p:=by intro qk;refine Z20 ?_;refine Z2 ?_;exact qk.h):p:=h ⟨k⟩
theorem Ys(k:q)(h:Hk q→p:=by intro qk;refine B6 ?_;refine Z10 ?_;exact qk.h):p:=h ⟨k⟩
theorem We(k:q)(h:Hk q→p:=by intro qk;refine Z19 ?_;refine Z36 ?_;refine R.fin [0, 1, 5, 7, 8] ?_;refine kx ?_;exact qk.h):p:=h ⟨k⟩
theorem cv(h:p:=by refine Hx ?_;refine R.fin [0, 1, 7, 8] ?_;exact K.lpN (x + 1) ⟨hlt, An hlt hx.2 ht16⟩ (by omega) (StCut.of_eq rfl)):p:=h
theorem cw(h:p:=by refine il ?_;refine Z23 ?_;exact K.fin (V.one V.tmp) ⟨by rw [← Wz]; try rfl, rfl⟩):p:=h
theorem cx(k:q)(h:Hk q→p:=by intro qk;refine Dr ?_;refine Ap ?_;exact qk.h):p:=h ⟨k⟩
theorem cy(k:q)(h:Hk q→p:=by intro qk;refine Gq ?_;refine B6 ?_;exact qk.h):p:=h ⟨k⟩
theorem cz(k:q)(h:Hk q→p:=by intro qk;refine R.fin [0, 3, 5] ?_;refine Y8 ?_;exact qk.h):p:=h ⟨k⟩
theorem d8(k:q)(h:Hk q→p:=by intro qk;refine Z61 ?_;refine R.nilCell 0 5 6 ?_;exact qk.h):p:=h ⟨k⟩
theorem d9(h:p:=by refine Z64 ?_;exact Z98):p:=h
theorem m0(h:p:=by refine D.buildSlice jU jS jZ ?_;exact D.end rfl rfl):p:=h
theorem da(h:p:=by refine Z73 ?_;refine Z64 ?_;exact Yw):p:=h
theorem ip(h:p:=by refine W6 ?_;exact Z90):p:=h
theorem m3(h:p:=by refine R.call Tryz.call64 (c64 61 e hok (by decide) _) ?_;exact ip):p:=h
theorem db(k:q)(h:Hk q→p:=by intro qk;refine R.fin [3, 9] ?_;refine K.thN ?_;exact qk.h):p:=h ⟨k⟩
theorem Wf(k:q)(h:Hk q→p:=by intro qk;refine Z71 ?_;refine N8 ?_;refine R.fin [0, 1, 7, 8] ?_;exact qk.h):p:=h ⟨k⟩
theorem dc(h:p:=by refine Z20 ?_;exact Z90):p:=h
theorem dd(k:q)(h:Hk q→p:=by intro qk;refine Z25 ?_;refine R.fin [2, 22] ?_;exact qk.h):p:=h ⟨k⟩
theorem Wg(k:q)(h:Hk q→p:=by intro qk;refine Z7 ?_;refine Z47 ?_;exact qk.h):p:=h ⟨k⟩
theorem de(h:p:=by refine Z29 ?_;refine Z0 ?_;refine Z23 ?_;exact K.fin (V.one V.tmp) ⟨by rw [U4 (Da hxe hx.2)], rfl⟩):p:=h
theorem Yt(k:q)(h:Hk q→p:=by intro qk;refine Z14 ?_;refine R.eql ?_;exact qk.h):p:=h ⟨k⟩
theorem Yu(k:q)(h:Hk q→p:=by intro qk;refine Qq ?_;refine kj ?_;exact qk.h):p:=h ⟨k⟩
theorem B2(k:q)(h:Hk q→p:=by intro qk;refine AW.seqR ?_;exact qk.h):p:=h ⟨k⟩
theorem Ep(k:q)(h:Hk q→p:=by intro qk;refine R.fin [0, 3] ?_;exact qk.h):p:=h ⟨k⟩
theorem Pi(k:q)(h:Hk q→p:=by intro qk;refine R.fin [0, 3, 4] ?_;exact qk.h):p:=h ⟨k⟩
theorem Ap(k:q)(h:Hk q→p:=by intro qk;refine R.move ?_;exact qk.h):p:=h ⟨k⟩
theorem m4(h:p:=by exact h (y, j) (by rw [List.mem_zipIdx_iff_getElem?]; exact hj)):p:=h
theorem iq(k:q)(h:Hk q→p:=by intro qk;refine G.indexAddr (x) (B3 c[x]) jU jS (fun _ => Ae hlt) ?_;exact qk.h):p:=h ⟨k⟩
theorem Ii(k:q)(h:Hk q→p:=by intro qk;refine G.loadRo jA ?_;exact qk.h):p:=h ⟨k⟩
theorem B6(k:q)(h:Hk q→p:=by intro qk;refine R.assign ?_;exact qk.h):p:=h ⟨k⟩
theorem m5(h:p:=by exact K.fin (V.one V.tmp) ⟨by simp [Cp, ht5], rfl⟩):p:=h
theorem m6(h:p:=by exact K.fin (V.one V.tmp) ⟨by simp [Cp, ht5, ht16, ht22], rfl⟩):p:=h
theorem Dr(k:q)(h:Hk q→p:=by intro qk;refine R.loadRo jA ?_;exact qk.h):p:=h ⟨k⟩
theorem Wh(h:p:=by exact K.fin (V.one V.tmp)):p:=h
theorem Wi(k:q)(h:Hk q→p:=by intro qk;refine R.fin [0, 1, 5, 7, 8, 16] ?_;exact qk.h):p:=h ⟨k⟩
theorem E0(k:q)(h:Hk q→p:=by intro qk;refine R.loadRoN jA jS ?_;exact qk.h):p:=h ⟨k⟩
theorem m7(h:p:=by exact K.fin (V.one V.tmp) ⟨by simp only [Ds, hp, ht7, ht14, ht23, ht27, Bool.not_true, Bool.false_eq_true, if_false, if_true]; try rfl, rfl⟩):p:=h
theorem I0(k:q)(h:Hk q→p:=by intro qk;refine H.loadRo jA ?_;exact qk.h):p:=h ⟨k⟩
theorem Gq(k:q)(h:Hk q→p:=by intro qk;refine AW.region ?_;exact qk.h):p:=h ⟨k⟩
theorem H6(k:q)(h:Hk q→p:=by intro qk;refine R.storeOwn jS ?_;exact qk.h):p:=h ⟨k⟩
theorem Ng(k:q)(h:Hk q→p:=by intro qk;refine K.lpN (x + 1) hlt (by omega) ?_;exact qk.h):p:=h ⟨k⟩
theorem m8(h:p:=by exact K.lpN (x + 1) ⟨hlt, An hlt hx.2 (fun e => by rw [e] at ht16; simp at ht16)⟩ (by omega) (StCut.of_eq rfl)):p:=h
theorem Nh(k:q)(h:Hk q→p:=by intro qk;refine D.loadRoN jA jS ?_;exact qk.h):p:=h ⟨k⟩
theorem Pj(k:q)(h:Hk q→p:=by intro qk;refine R.loadOwnN jA jS ?_;exact qk.h):p:=h ⟨k⟩
theorem J9(k:q)(h:Hk q→p:=by intro qk;refine R.buildSlice jU jS jZ ?_;exact qk.h):p:=h ⟨k⟩
theorem Wj(k:q)(h:Hk q→p:=by intro qk;refine R.fin [2, 6, 13, 14, 15] ?_;exact qk.h):p:=h ⟨k⟩
theorem Ij(k:q)(h:Hk q→p:=by intro qk;refine R.loadOwn jA ?_;exact qk.h):p:=h ⟨k⟩
theorem dg(h:p:=by exact K.fin (V.two V.tmp V.tmp) ⟨by rw [hk], rfl⟩):p:=h
theorem ir(h:p:=by exact K.fin (V.two V.tmp V.tmp) ⟨by rw [hk, hk2], rfl⟩):p:=h
theorem Ik(k:q)(h:Hk q→p:=by intro qk;refine D.loadRo jA ?_;exact qk.h):p:=h ⟨k⟩
theorem m9(h:p:=by exact K.fin (V.one V.tmp) ⟨by rw [hn]; first | (simp only [ht22, ht25, ht33, ht41, ht41, ht50, ht58, hk3, hk6, Bool.true_or, Bool.false_or, Bool.or_true, Bool.or_false, if_true, if_false, Bool.false_eq_true, ↓reduceIte] <;> rfl) | (simp only [ht22, ht25, ht33, ht41, ht41, ht50, ht58, hk3, Bool.true_or, Bool.false_or, Bool.or_true, if_true, if_false, Bool.false_eq_true, ↓reduceIte] <;> rfl) | (simp only [ht22, ht25, ht33, ht41, ht41, ht50, ht58, if_true, if_false, Bool.false_eq_true, ↓reduceIte] <;> rfl), rfl⟩):p:=h
theorem Yv(h:p:=by exact K.fin (V.one V.tmp) ⟨by rw [hm] <;> rfl, rfl⟩):p:=h
theorem ma(h:p:=by exact K.fin (V.two V.tmp V.tmp) ⟨by rw [hm], rfl⟩ (hlow := by simp only [L3, List.mem_cons, List.mem_nil_iff, or_false]; rintro y (rfl | rfl); exact Fy; simp)):p:=h
theorem mb(h:p:=by exact K.fin (V.four V.tmp V.tmp V.tmp V.tmp) ⟨by rw [hm] <;> rfl, rfl⟩):p:=h
theorem dh(k:q)(h:Hk q→p:=by intro qk;refine R.build (places := #[(0, 1), (1, 1)]) jU (fun w => by simp) jZ ?_;exact qk.h):p:=h ⟨k⟩
theorem mc(h:p:=by exact K.fin (V.two (V.cellN jA jS) V.tmp) ⟨by rw [hm]; show _ = AV.tup [A6 Aa, Af false]; rw [Bv]; rfl, rfl⟩ (hlow := by simp [or_imp, forall_and])):p:=h
theorem di(k:q)(h:Hk q→p:=by intro qk;refine R.fieldAddrPtr (fo := 5) jU Tryz.sizeOf53 ?_;exact qk.h):p:=h ⟨k⟩
theorem md(h:p:=by exact K.fin (V.two (V.cellN jA jS) V.tmp) ⟨by rw [hm]; show _ = AV.tup [A6 Aa, A3 _]; rw [Bv]; rfl, rfl⟩ (hlow := by simp [or_imp, forall_and])):p:=h
theorem iu(h:p:=by exact K.fin (V.one V.tmp) ⟨by simp_all [X7], rfl⟩):p:=h
theorem me(h:p:=by exact K.fin (V.two V.tmp V.tmp) ⟨by rw [hsh] <;> rfl, rfl⟩):p:=h
theorem T6(h:p:=by exact Nat.zero_le _):p:=h
theorem mf(h:p:=by exact Nat.le_trans ih (Nat.mul_le_mul_right _ (Nat.le_succ k))):p:=h
theorem iv(h:p:=by exact K.fin (V.two V.tmp V.tmp) ⟨by rw [hm] <;> rfl, rfl⟩):p:=h
theorem iw(h:p:=by exact K.fin (V.one V.tmp) ⟨by simp_all [Cz, Fp, Ww], rfl⟩):p:=h
theorem mg(h:p:=by exact K.fin (V.one V.tmp) ⟨by simp_all [C3, Fp], rfl⟩):p:=h
theorem Yw(h:p:=by exact K.fin (V.one V.tmp) ⟨by rw [hm], rfl⟩):p:=h
end Go.SX.Nb
namespace Go.SX.Nb
open Go Go.SX Go.Proofs
set_option maxRecDepth 4000

/-- No package-level variable of this program is an error. -/
class ErrAt where
/-- The package-level variables of which something is known: bytealg.MaxLen is a number; the table of powers of ten. -/
def Qz : List (Nat × (Obj → Prop)) := [(0, fun o => ∃ m t f, o = .cells #[.int .i64 m] t f), (3, fun o => ∃ t f, o = .cells (Lib.pow10Tab.map fun z => Value.int .u64 z).toArray t f)]
instance globInv [ErrAt] : GlobInv := ⟨Qz⟩
variable [ErrAt]

abbrev Str := List UInt8
structure Col where
 name : Str
 kind : Int
 deriving DecidableEq
structure Val where
 kind : Int
 n : Int
 s : Str
 deriving DecidableEq
structure Row where
 key : Int
 l : List Val
 deriving DecidableEq
abbrev A8 (s : Str) : AV := .v (sv s)
abbrev A3 (n : Int) : AV := .v (.int .i64 n)
abbrev Af (b : Bool) : AV := .v (.bool b)
abbrev B3 (c : Col) : AV := .agg [.v (sv c.name), .v (.int .i64 c.kind)]
abbrev A4 (c : List Col) : AV := .slice false 2 (c.map B3)
abbrev dj (v : Val) : AV := .agg [.v (.int .i64 v.kind), .v (.int .i64 v.n), .v (sv v.s)]
abbrev C2 (l : List Str) : AV := .slice false 1 (l.map A8)
theorem Ae {α β : Type} {f : α → β} {l : List α} {i : Nat} (h : i < l.length) : (l.map f)[i]? = some (f l[i]) := by simp [h]
theorem Am : Tryz.prog.follows .mixedOrders = true := by kernel_rfl
theorem Yx : Tryz.prog.eqGuardType Tryz.prog.depth 58 = false := by kernel_rfl
theorem Ja (k n k' n' : Int) (s s' : List UInt8) (w : World) : (Op.equal 58 (.agg #[.int .i64 k, .int .i64 n, .string ⟨s.toArray⟩]) (.agg #[.int .i64 k', .int .i64 n', .string ⟨s'.toArray⟩])).run Tryz.prog w = .ok (k == k' && n == n' && s == s') w := by
 have h1 : Tryz.prog.stoodInHeld 58 = false := by kernel_rfl
 show (Op.equalIn (9999 + 1) _ _ _).run _ _ = _
 rw [Op.equalIn]
 generalize hd : (9999 : Nat) = d
 obtain ⟨d, rfl⟩ : ∃ e, d = e + 1 := ⟨9998, hd.symm⟩
 clear hd
 simp [run_underlying Tryz.underlying58, h1, part, Xs _ _ _ _ _ _ Tryz.underlying3, Xs _ _ _ _ _ _ Tryz.underlying2, fq _ _ _ _ _ Tryz.underlying9, Tryz.isAgg3, Tryz.isAgg2, Tryz.isAgg9]
 by_cases e1 : k = k' <;> by_cases e2 : n = n' <;> by_cases e3 : s = s' <;> simp [e1, e2, e3]
end Go.SX.Nb
namespace Go.Proofs
open Go Go.Shelf
def Tryz.ren144 : Ren where
 f := fun x => match x with | 144 => 143 | 143 => 79 | 219 => 105 | 217 => 128 | 225 => 129 | 224 => 130 | 267 => 131 | 266 => 149 | 314 => 150 | n => n
 t := fun x => match x with | 9 => 9 | 4 => 4 | 3 => 3 | 5 => 5 | 46 => 160 | 146 => 173 | 51 => 172 | n => n
 g := fun x => match x with | 1 => 0 | n => n
theorem Tryz.lays144 : Lays.n144 Tryz.prog Tryz.ren144 where
 mixed := by kernel_rfl
 f143 := Tryz.func79
 f144 := Tryz.func143
 f217 := Tryz.func128
 f219 := Tryz.func105
 f224 := Tryz.func130
 f225 := Tryz.func129
 f266 := Tryz.func149
 f267 := Tryz.func131
 f314 := Tryz.func150
 t3 := Tryz.underlying3
 a3 := Tryz.isAgg3
 z3 := Tryz.sizeOf3
 v3 := Tryz.zeroValue3
 t4 := Tryz.underlying4
 a4 := Tryz.isAgg4
 z4 := Tryz.sizeOf4
 v4 := Tryz.zeroValue4
 t5 := Tryz.underlying5
 a5 := Tryz.isAgg5
 z5 := Tryz.sizeOf5
 v5 := Tryz.zeroValue5
 t9 := Tryz.underlying9
 a9 := Tryz.isAgg9
 z9 := Tryz.sizeOf9
 v9 := Tryz.zeroValue9
 t46 := Tryz.underlying160
 a46 := Tryz.isAgg160
 z46 := Tryz.sizeOf160
 v46 := Tryz.zeroValue160
 t51 := Tryz.underlying172
 a51 := Tryz.isAgg172
 z51 := Tryz.sizeOf172
 v51 := Tryz.zeroValue172
 t146 := Tryz.underlying173
 a146 := Tryz.isAgg173
 z146 := Tryz.sizeOf173
 v146 := Tryz.zeroValue173
 g1 := by kernel_rfl
def Tryz.ren145 : Ren where
 f := fun x => match x with | 145 => 144 | 220 => 165 | 219 => 105 | 217 => 128 | 225 => 129 | 224 => 130 | 267 => 131 | 266 => 149 | 314 => 150 | n => n
 t := fun x => match x with | 9 => 9 | 4 => 4 | 59 => 164 | 3 => 3 | 5 => 5 | 46 => 160 | 146 => 173 | 51 => 172 | n => n
 g := fun x => match x with | 1 => 0 | n => n
theorem Tryz.lays145 : Lays.n145 Tryz.prog Tryz.ren145 where
 mixed := by kernel_rfl
 f145 := Tryz.func144
 f217 := Tryz.func128
 f219 := Tryz.func105
 f220 := Tryz.func165
 f224 := Tryz.func130
 f225 := Tryz.func129
 f266 := Tryz.func149
 f267 := Tryz.func131
 f314 := Tryz.func150
 t3 := Tryz.underlying3
 a3 := Tryz.isAgg3
 z3 := Tryz.sizeOf3
 v3 := Tryz.zeroValue3
 t4 := Tryz.underlying4
 a4 := Tryz.isAgg4
 z4 := Tryz.sizeOf4
 v4 := Tryz.zeroValue4
 t5 := Tryz.underlying5
 a5 := Tryz.isAgg5
 z5 := Tryz.sizeOf5
 v5 := Tryz.zeroValue5
 t9 := Tryz.underlying9
 a9 := Tryz.isAgg9
 z9 := Tryz.sizeOf9
 v9 := Tryz.zeroValue9
 t46 := Tryz.underlying160
 a46 := Tryz.isAgg160
 z46 := Tryz.sizeOf160
 v46 := Tryz.zeroValue160
 t51 := Tryz.underlying172
 a51 := Tryz.isAgg172
 z51 := Tryz.sizeOf172
 v51 := Tryz.zeroValue172
 t59 := Tryz.underlying164
 a59 := Tryz.isAgg164
 z59 := Tryz.sizeOf164
 v59 := Tryz.zeroValue164
 t146 := Tryz.underlying173
 a146 := Tryz.isAgg173
 z146 := Tryz.sizeOf173
 v146 := Tryz.zeroValue173
 g1 := by kernel_rfl
def Tryz.ren146 : Ren where
 f := fun x => match x with | 146 => 34 | 221 => 55 | 268 => 77 | 138 => 78 | 143 => 79 | 195 => 102 | 197 => 103 | 218 => 104 | 219 => 105 | 260 => 127 | 217 => 128 | 225 => 129 | 224 => 130 | 267 => 131 | 266 => 149 | 314 => 150 | n => n
 t := fun x => match x with | 9 => 9 | 31 => 34 | 3 => 3 | 4 => 4 | 0 => 0 | 105 => 141 | 21 => 21 | 5 => 5 | 46 => 160 | 119 => 168 | 139 => 171 | 138 => 170 | 146 => 173 | 51 => 172 | n => n
 g := fun x => match x with | 1 => 0 | 3 => 1 | 4 => 2 | n => n
theorem Tryz.lays146 : Lays.n146 Tryz.prog Tryz.ren146 where
 mixed := by kernel_rfl
 f138 := Tryz.func78
 f143 := Tryz.func79
 f146 := Tryz.func34
 f195 := Tryz.func102
 f197 := Tryz.func103
 f217 := Tryz.func128
 f218 := Tryz.func104
 f219 := Tryz.func105
 f221 := Tryz.func55
 f224 := Tryz.func130
 f225 := Tryz.func129
 f260 := Tryz.func127
 f266 := Tryz.func149
 f267 := Tryz.func131
 f268 := Tryz.func77
 f314 := Tryz.func150
 t0 := Tryz.underlying0
 a0 := Tryz.isAgg0
 z0 := Tryz.sizeOf0
 v0 := Tryz.zeroValue0
 t3 := Tryz.underlying3
 a3 := Tryz.isAgg3
 z3 := Tryz.sizeOf3
 v3 := Tryz.zeroValue3
 t4 := Tryz.underlying4
 a4 := Tryz.isAgg4
 z4 := Tryz.sizeOf4
 v4 := Tryz.zeroValue4
 t5 := Tryz.underlying5
 a5 := Tryz.isAgg5
 z5 := Tryz.sizeOf5
 v5 := Tryz.zeroValue5
 t9 := Tryz.underlying9
 a9 := Tryz.isAgg9
 z9 := Tryz.sizeOf9
 v9 := Tryz.zeroValue9
 t21 := Tryz.underlying21
 a21 := Tryz.isAgg21
 z21 := Tryz.sizeOf21
 v21 := Tryz.zeroValue21
 t31 := Tryz.underlying34
 a31 := Tryz.isAgg34
 z31 := Tryz.sizeOf34
 v31 := Tryz.zeroValue34
 t46 := Tryz.underlying160
 a46 := Tryz.isAgg160
 z46 := Tryz.sizeOf160
 v46 := Tryz.zeroValue160
 t51 := Tryz.underlying172
 a51 := Tryz.isAgg172
 z51 := Tryz.sizeOf172
 v51 := Tryz.zeroValue172
 t105 := Tryz.underlying141
 a105 := Tryz.isAgg141
 z105 := Tryz.sizeOf141
 v105 := Tryz.zeroValue141
 t119 := Tryz.underlying168
 a119 := Tryz.isAgg168
 z119 := Tryz.sizeOf168
 t138 := Tryz.underlying170
 a138 := Tryz.isAgg170
 z138 := Tryz.sizeOf170
 v138 := Tryz.zeroValue170
 t139 := Tryz.underlying171
 a139 := Tryz.isAgg171
 z139 := Tryz.sizeOf171
 v139 := Tryz.zeroValue171
 t146 := Tryz.underlying173
 a146 := Tryz.isAgg173
 z146 := Tryz.sizeOf173
 v146 := Tryz.zeroValue173
 g1 := by kernel_rfl
 g3 := by kernel_rfl
 g4 := by kernel_rfl
def Tryz.ren161 : Ren where
 f := fun x => match x with | 161 => 164 | 231 => 171 | 227 => 172 | 233 => 173 | 235 => 174 | 228 => 181 | 197 => 103 | 151 => 182 | 260 => 127 | 152 => 191 | 137 => 194 | 119 => 195 | 224 => 130 | 225 => 129 | 217 => 128 | 266 => 149 | n => n
 t := fun x => match x with | 9 => 9 | 4 => 4 | 3 => 3 | 5 => 5 | 117 => 190 | 116 => 189 | 0 => 0 | 124 => 193 | 105 => 141 | 21 => 21 | 119 => 168 | 46 => 160 | 139 => 171 | 138 => 170 | n => n
 g := fun x => match x with | 3 => 1 | 4 => 2 | n => n
theorem Tryz.lays161 : Lays.n161 Tryz.prog Tryz.ren161 where
 mixed := by kernel_rfl
 f119 := Tryz.func195
 f137 := Tryz.func194
 f151 := Tryz.func182
 f152 := Tryz.func191
 f161 := Tryz.func164
 f197 := Tryz.func103
 f217 := Tryz.func128
 f224 := Tryz.func130
 f225 := Tryz.func129
 f227 := Tryz.func172
 f228 := Tryz.func181
 f231 := Tryz.func171
 f233 := Tryz.func173
 f235 := Tryz.func174
 f260 := Tryz.func127
 f266 := Tryz.func149
 t0 := Tryz.underlying0
 a0 := Tryz.isAgg0
 z0 := Tryz.sizeOf0
 v0 := Tryz.zeroValue0
 t3 := Tryz.underlying3
 a3 := Tryz.isAgg3
 z3 := Tryz.sizeOf3
 v3 := Tryz.zeroValue3
 t4 := Tryz.underlying4
 a4 := Tryz.isAgg4
 z4 := Tryz.sizeOf4
 v4 := Tryz.zeroValue4
 t5 := Tryz.underlying5
 a5 := Tryz.isAgg5
 z5 := Tryz.sizeOf5
 v5 := Tryz.zeroValue5
 t9 := Tryz.underlying9
 a9 := Tryz.isAgg9
 z9 := Tryz.sizeOf9
 v9 := Tryz.zeroValue9
 t21 := Tryz.underlying21
 a21 := Tryz.isAgg21
 z21 := Tryz.sizeOf21
 v21 := Tryz.zeroValue21
 t46 := Tryz.underlying160
 a46 := Tryz.isAgg160
 z46 := Tryz.sizeOf160
 v46 := Tryz.zeroValue160
 t105 := Tryz.underlying141
 a105 := Tryz.isAgg141
 z105 := Tryz.sizeOf141
 v105 := Tryz.zeroValue141
 t116 := Tryz.underlying189
 a116 := Tryz.isAgg189
 z116 := Tryz.sizeOf189
 t117 := Tryz.underlying190
 a117 := Tryz.isAgg190
 z117 := Tryz.sizeOf190
 v117 := Tryz.zeroValue190
 t119 := Tryz.underlying168
 a119 := Tryz.isAgg168
 z119 := Tryz.sizeOf168
 t124 := Tryz.underlying193
 a124 := Tryz.isAgg193
 z124 := Tryz.sizeOf193
 v124 := Tryz.zeroValue193
 t138 := Tryz.underlying170
 a138 := Tryz.isAgg170
 z138 := Tryz.sizeOf170
 v138 := Tryz.zeroValue170
 t139 := Tryz.underlying171
 a139 := Tryz.isAgg171
 z139 := Tryz.sizeOf171
 v139 := Tryz.zeroValue171
 g3 := by kernel_rfl
 g4 := by kernel_rfl
def Tryz.ren155 : Ren where
 f := fun x => match x with | 155 => 124 | 154 => 146 | 138 => 78 | 165 => 60 | 143 => 79 | 166 => 21 | 197 => 103 | 169 => 24 | 195 => 102 | 218 => 104 | 240 => 38 | 241 => 85 | 219 => 105 | 260 => 127 | 276 => 58 | 277 => 112 | 217 => 128 | 225 => 129 | 224 => 130 | 267 => 131 | 266 => 149 | 314 => 150 | n => n
 t := fun x => match x with | 9 => 9 | 3 => 3 | 4 => 4 | 72 => 66 | 0 => 0 | 76 => 69 | 105 => 141 | 21 => 21 | 5 => 5 | 70 => 63 | 20 => 20 | 37 => 64 | 75 => 68 | 127 => 91 | 164 => 102 | 46 => 160 | 119 => 168 | 139 => 171 | 138 => 170 | 146 => 173 | 51 => 172 | 80 => 75 | n => n
 g := fun x => match x with | 1 => 0 | 3 => 1 | 4 => 2 | n => n
theorem Tryz.lays155 : Lays.n155 Tryz.prog Tryz.ren155 where
 mixed := by kernel_rfl
 f138 := Tryz.func78
 f143 := Tryz.func79
 f154 := Tryz.func146
 f155 := Tryz.func124
 f165 := Tryz.func60
 f166 := Tryz.func21
 f169 := Tryz.func24
 f195 := Tryz.func102
 f197 := Tryz.func103
 f217 := Tryz.func128
 f218 := Tryz.func104
 f219 := Tryz.func105
 f224 := Tryz.func130
 f225 := Tryz.func129
 f240 := Tryz.func38
 f241 := Tryz.func85
 f260 := Tryz.func127
 f266 := Tryz.func149
 f267 := Tryz.func131
 f276 := Tryz.func58
 f277 := Tryz.func112
 f314 := Tryz.func150
 t0 := Tryz.underlying0
 a0 := Tryz.isAgg0
 z0 := Tryz.sizeOf0
 v0 := Tryz.zeroValue0
 t3 := Tryz.underlying3
 a3 := Tryz.isAgg3
 z3 := Tryz.sizeOf3
 v3 := Tryz.zeroValue3
 t4 := Tryz.underlying4
 a4 := Tryz.isAgg4
 z4 := Tryz.sizeOf4
 v4 := Tryz.zeroValue4
 t5 := Tryz.underlying5
 a5 := Tryz.isAgg5
 z5 := Tryz.sizeOf5
 v5 := Tryz.zeroValue5
 t9 := Tryz.underlying9
 a9 := Tryz.isAgg9
 z9 := Tryz.sizeOf9
 v9 := Tryz.zeroValue9
 t20 := Tryz.underlying20
 a20 := Tryz.isAgg20
 z20 := Tryz.sizeOf20
 v20 := Tryz.zeroValue20
 t21 := Tryz.underlying21
 a21 := Tryz.isAgg21
 z21 := Tryz.sizeOf21
 v21 := Tryz.zeroValue21
 t37 := Tryz.underlying64
 a37 := Tryz.isAgg64
 z37 := Tryz.sizeOf64
 v37 := Tryz.zeroValue64
 t46 := Tryz.underlying160
 a46 := Tryz.isAgg160
 z46 := Tryz.sizeOf160
 v46 := Tryz.zeroValue160
 t51 := Tryz.underlying172
 a51 := Tryz.isAgg172
 z51 := Tryz.sizeOf172
 v51 := Tryz.zeroValue172
 t70 := Tryz.underlying63
 a70 := Tryz.isAgg63
 z70 := Tryz.sizeOf63
 v70 := Tryz.zeroValue63
 t72 := Tryz.underlying66
 a72 := Tryz.isAgg66
 z72 := Tryz.sizeOf66
 v72 := Tryz.zeroValue66
 t75 := Tryz.underlying68
 a75 := Tryz.isAgg68
 z75 := Tryz.sizeOf68
 v75 := Tryz.zeroValue68
 t76 := Tryz.underlying69
 a76 := Tryz.isAgg69
 z76 := Tryz.sizeOf69
 v76 := Tryz.zeroValue69
 t105 := Tryz.underlying141
 a105 := Tryz.isAgg141
 z105 := Tryz.sizeOf141
 v105 := Tryz.zeroValue141
 t119 := Tryz.underlying168
 a119 := Tryz.isAgg168
 z119 := Tryz.sizeOf168
 t127 := Tryz.underlying91
 a127 := Tryz.isAgg91
 z127 := Tryz.sizeOf91
 v127 := Tryz.zeroValue91
 t138 := Tryz.underlying170
 a138 := Tryz.isAgg170
 z138 := Tryz.sizeOf170
 v138 := Tryz.zeroValue170
 t139 := Tryz.underlying171
 a139 := Tryz.isAgg171
 z139 := Tryz.sizeOf171
 v139 := Tryz.zeroValue171
 t146 := Tryz.underlying173
 a146 := Tryz.isAgg173
 z146 := Tryz.sizeOf173
 v146 := Tryz.zeroValue173
 t164 := Tryz.underlying102
 a164 := Tryz.isAgg102
 z164 := Tryz.sizeOf102
 v164 := Tryz.zeroValue102
 g1 := by kernel_rfl
 g3 := by kernel_rfl
 g4 := by kernel_rfl
def Tryz.ren156 : Ren where
 f := fun x => match x with | 156 => 41 | 165 => 60 | 166 => 21 | 169 => 24 | 240 => 38 | 241 => 85 | 276 => 58 | 277 => 112 | n => n
 t := fun x => match x with | 31 => 34 | 9 => 9 | 3 => 3 | 4 => 4 | 0 => 0 | 20 => 20 | 72 => 66 | 76 => 69 | 70 => 63 | 37 => 64 | 75 => 68 | 127 => 91 | 164 => 102 | 5 => 5 | 80 => 75 | n => n
 g := fun x => x
theorem Tryz.lays156 : Lays.n156 Tryz.prog Tryz.ren156 where
 mixed := by kernel_rfl
 f156 := Tryz.func41
 f165 := Tryz.func60
 f166 := Tryz.func21
 f169 := Tryz.func24
 f240 := Tryz.func38
 f241 := Tryz.func85
 f276 := Tryz.func58
 f277 := Tryz.func112
 t0 := Tryz.underlying0
 a0 := Tryz.isAgg0
 z0 := Tryz.sizeOf0
 v0 := Tryz.zeroValue0
 t3 := Tryz.underlying3
 a3 := Tryz.isAgg3
 z3 := Tryz.sizeOf3
 v3 := Tryz.zeroValue3
 t4 := Tryz.underlying4
 a4 := Tryz.isAgg4
 z4 := Tryz.sizeOf4
 v4 := Tryz.zeroValue4
 t9 := Tryz.underlying9
 a9 := Tryz.isAgg9
 z9 := Tryz.sizeOf9
 v9 := Tryz.zeroValue9
 t20 := Tryz.underlying20
 a20 := Tryz.isAgg20
 z20 := Tryz.sizeOf20
 v20 := Tryz.zeroValue20
 t31 := Tryz.underlying34
 a31 := Tryz.isAgg34
 z31 := Tryz.sizeOf34
 v31 := Tryz.zeroValue34
 t37 := Tryz.underlying64
 a37 := Tryz.isAgg64
 z37 := Tryz.sizeOf64
 v37 := Tryz.zeroValue64
 t70 := Tryz.underlying63
 a70 := Tryz.isAgg63
 z70 := Tryz.sizeOf63
 v70 := Tryz.zeroValue63
 t72 := Tryz.underlying66
 a72 := Tryz.isAgg66
 z72 := Tryz.sizeOf66
 v72 := Tryz.zeroValue66
 t75 := Tryz.underlying68
 a75 := Tryz.isAgg68
 z75 := Tryz.sizeOf68
 v75 := Tryz.zeroValue68
 t76 := Tryz.underlying69
 a76 := Tryz.isAgg69
 z76 := Tryz.sizeOf69
 v76 := Tryz.zeroValue69
 t127 := Tryz.underlying91
 a127 := Tryz.isAgg91
 z127 := Tryz.sizeOf91
 v127 := Tryz.zeroValue91
 t164 := Tryz.underlying102
 a164 := Tryz.isAgg102
 z164 := Tryz.sizeOf102
 v164 := Tryz.zeroValue102
def Tryz.ren173 : Ren where
 f := fun x => match x with | 173 => 145 | 246 => 166 | 283 => 175 | 284 => 176 | 285 => 177 | 286 => 178 | 129 => 184 | 317 => 183 | 318 => 185 | 319 => 186 | 320 => 187 | 337 => 192 | 338 => 193 | n => n
 t := fun x => match x with | 2 => 2 | 3 => 3 | 9 => 9 | 4 => 4 | 171 => 194 | 0 => 0 | 53 => 135 | 37 => 64 | 5 => 5 | 173 => 197 | 212 => 205 | 51 => 172 | 20 => 20 | 213 => 206 | 46 => 160 | 232 => 216 | 233 => 217 | n => n
 g := fun x => match x with | 17 => 3 | 18 => 4 | 19 => 5 | n => n
theorem Tryz.lays173 : LaysM.n173 Tryz.prog Tryz.ren173 where
 mixed := by kernel_rfl
 f129 := Tryz.func184
 f173 := Tryz.func145
 f246 := Tryz.func166
 f283 := Tryz.func175
 f284 := Tryz.func176
 f285 := Tryz.func177
 f286 := Tryz.func178
 f317 := Tryz.func183
 f318 := Tryz.func185
 f319 := Tryz.func186
 f320 := Tryz.func187
 f337 := Tryz.func192
 f338 := Tryz.func193
 t0 := Tryz.underlying0
 a0 := Tryz.isAgg0
 z0 := Tryz.sizeOf0
 v0 := Tryz.zeroValue0
 t2 := Tryz.underlying2
 a2 := Tryz.isAgg2
 z2 := Tryz.sizeOf2
 v2 := Tryz.zeroValue2
 t3 := Tryz.underlying3
 a3 := Tryz.isAgg3
 z3 := Tryz.sizeOf3
 v3 := Tryz.zeroValue3
 t4 := Tryz.underlying4
 a4 := Tryz.isAgg4
 z4 := Tryz.sizeOf4
 v4 := Tryz.zeroValue4
 t5 := Tryz.underlying5
 a5 := Tryz.isAgg5
 z5 := Tryz.sizeOf5
 v5 := Tryz.zeroValue5
 t9 := Tryz.underlying9
 a9 := Tryz.isAgg9
 z9 := Tryz.sizeOf9
 v9 := Tryz.zeroValue9
 t20 := Tryz.underlying20
 a20 := Tryz.isAgg20
 z20 := Tryz.sizeOf20
 v20 := Tryz.zeroValue20
 t37 := Tryz.underlying64
 a37 := Tryz.isAgg64
 z37 := Tryz.sizeOf64
 v37 := Tryz.zeroValue64
 t46 := Tryz.underlying160
 a46 := Tryz.isAgg160
 z46 := Tryz.sizeOf160
 v46 := Tryz.zeroValue160
 t51 := Tryz.underlying172
 a51 := Tryz.isAgg172
 z51 := Tryz.sizeOf172
 v51 := Tryz.zeroValue172
 t53 := Tryz.underlying135
 a53 := Tryz.isAgg135
 z53 := Tryz.sizeOf135
 v53 := Tryz.zeroValue135
 t171 := Tryz.underlying194
 a171 := Tryz.isAgg194
 z171 := Tryz.sizeOf194
 v171 := Tryz.zeroValue194
 t173 := Tryz.underlying197
 a173 := Tryz.isAgg197
 z173 := Tryz.sizeOf197
 v173 := Tryz.zeroValue197
 t212 := Tryz.underlying205
 a212 := Tryz.isAgg205
 z212 := Tryz.sizeOf205
 v212 := Tryz.zeroValue205
 t213 := Tryz.underlying206
 a213 := Tryz.isAgg206
 z213 := Tryz.sizeOf206
 t232 := Tryz.underlying216
 a232 := Tryz.isAgg216
 z232 := Tryz.sizeOf216
 v232 := Tryz.zeroValue216
 t233 := Tryz.underlying217
 a233 := Tryz.isAgg217
 z233 := Tryz.sizeOf217
 v233 := Tryz.zeroValue217
 g17 := by kernel_rfl
 g18 := by kernel_rfl
 g19 := by kernel_rfl
 i0 := by kernel_rfl
 i2 := by kernel_rfl
 i3 := by kernel_rfl
 i4 := by kernel_rfl
 i5 := by kernel_rfl
 i9 := by kernel_rfl
 i20 := by kernel_rfl
 i37 := by kernel_rfl
 i46 := by kernel_rfl
 i51 := by kernel_rfl
 i53 := by kernel_rfl
 i171 := by kernel_rfl
 i173 := by kernel_rfl
 i212 := by kernel_rfl
 i232 := by kernel_rfl
 i233 := by kernel_rfl
 m17 := by kernel_rfl
 m18 := by kernel_rfl
 m19 := by kernel_rfl
def Tryz.ren170 : Ren where
 f := fun x => match x with | 170 => 66 | n => n
 t := fun x => match x with | 70 => 63 | 3 => 3 | 0 => 0 | 72 => 66 | 37 => 64 | 5 => 5 | n => n
 g := fun x => x
theorem Tryz.lays170 : Lays.n170 Tryz.prog Tryz.ren170 where
 mixed := by kernel_rfl
 f170 := Tryz.func66
 t0 := Tryz.underlying0
 a0 := Tryz.isAgg0
 z0 := Tryz.sizeOf0
 v0 := Tryz.zeroValue0
 t3 := Tryz.underlying3
 a3 := Tryz.isAgg3
 z3 := Tryz.sizeOf3
 v3 := Tryz.zeroValue3
 t37 := Tryz.underlying64
 a37 := Tryz.isAgg64
 z37 := Tryz.sizeOf64
 v37 := Tryz.zeroValue64
 t70 := Tryz.underlying63
 a70 := Tryz.isAgg63
 z70 := Tryz.sizeOf63
 v70 := Tryz.zeroValue63
 t72 := Tryz.underlying66
 a72 := Tryz.isAgg66
 z72 := Tryz.sizeOf66
 v72 := Tryz.zeroValue66
theorem Tryz.lays166 : Lays.n166 Tryz.prog Tryz.ren155 := { Tryz.lays155 with }
end Go.Proofs
namespace Go.SX.Nb
open Go Go.SX Go.Proofs Go.RowKit
variable [ErrAt]
set_option maxRecDepth 4000
theorem Ho {w : World} (h : H4 w) : ∃ m, w.cell? ⟨0, 0, none⟩ = some (.int .i64 m) := by
 obtain ⟨_, a, m, t, f, rfl⟩ := h (0, fun o => ∃ m t f, o = .cells #[.int .i64 m] t f) (by simp [GlobInv.blocks, Qz])
 exact ⟨m, by simp [World.cell?, a]⟩
theorem Yy {w : World} (h : H4 w) : Lib.TabIs Tryz.prog w "internal/strconv.uint64pow10" .u64 Lib.pow10Tab := by
 obtain ⟨_, a, t, f, rfl⟩ := h (3, fun o => ∃ t f, o = .cells (Lib.pow10Tab.map fun z => Value.int .u64 z).toArray t f) (by simp [GlobInv.blocks, Qz])
 have hg : Tryz.prog.globalNamed "internal/strconv.uint64pow10" = some 3 := by kernel_rfl
 simp only at a
 simp [Lib.TabIs, World.var?, hg, a]
theorem R0 (w : World) (n : Nat) : Below w.heap.size w (w.drewN n) := ⟨rfl, rfl, rfl, Nat.le_refl _, fun _ _ => rfl⟩
theorem dk (s t : Str) (hs : s.length < 4294967281) (Hp : List AObj) : AFun Tryz.prog 143 [A8 s, A8 t] Hp (Af (Lib.contains s t)) := by
 refine AFun.lib (xs := [sv s, sv t]) (v := .bool (Lib.contains s t)) (fun G w => .v _ _) (fun w hg => ?_)
 obtain ⟨m, hm⟩ := Ho hg
 refine (Any.strings_Contains Tryz.lays144 ⟨s.toArray⟩ ⟨t.toArray⟩ m w (by simpa [ByteArray.size] using hs) hm).mono ?_
 rintro e w' ⟨rfl, rfl⟩
 exact ⟨rfl, Below.refl _ _⟩
theorem nw (s t : Str) (hs : s.length < 4294967281) (Hp : List AObj) : AFun Tryz.prog 144 [A8 s, A8 t] Hp (.tup [A8 (Lib.cut s t).1, A8 (Lib.cut s t).2.1, Af (Lib.cut s t).2.2]) := by
 refine AFun.lib (xs := [sv s, sv t]) (v := .tuple #[sv (Lib.cut s t).1, sv (Lib.cut s t).2.1, .bool (Lib.cut s t).2.2]) (fun G w => Iz rfl (fun i y u hy hu => ?_)) (fun w hg => ?_)
 ·match i with
  | 0 => simp at hy hu; subst hy; subst hu; exact .v _ _
  | 1 => simp at hy hu; subst hy; subst hu; exact .v _ _
  | 2 => simp at hy hu; subst hy; subst hu; exact .v _ _
  | i + 3 => simp at hy
 obtain ⟨m, hm⟩ := Ho hg
 refine (Any.strings_Cut Tryz.lays145 ⟨s.toArray⟩ ⟨t.toArray⟩ m w (by simpa [ByteArray.size] using hs) hm).mono ?_
 rintro e w' ⟨rfl, n, rfl⟩
 exact ⟨rfl, R0 _ _⟩
theorem nx (s t : Str) (ht : t.length < 4294967281) (ha : ∀ c ∈ t, c.toNat < 128) (Hp : List AObj) : AFun Tryz.prog 164 [A8 s, A8 t] Hp (A8 (Lib.trimLeftS s t)) := by
 refine AFun.lib (xs := [sv s, sv t]) (v := sv (Lib.trimLeftS s t)) (fun G w => .v _ _) (fun w hg => ?_)
 refine (Any.strings_TrimLeft_laid Tryz.lays161 (by kernel_rfl) ⟨s.toArray⟩ ⟨t.toArray⟩ w (by simpa [ByteArray.size] using ht) (fun j b hj => ha b (List.mem_of_getElem? hj))).mono ?_
 rintro e w' ⟨rfl, hb⟩
 exact ⟨rfl, hb⟩
/-- The pieces of a split. -/
def H7 (s t : Str) : List Str := (Lib.splitB ⟨t.toArray⟩ 0 (Lib.countB ⟨s.toArray⟩ ⟨t.toArray⟩) ⟨s.toArray⟩).map (·.data.toList)
theorem c34 (s t : Str) (hs : s.length < 4294967281) (ht : 1 ≤ t.length) (Hp : List AObj) : AFun Tryz.prog 34 [A8 s, A8 t] Hp (C2 (H7 s t)) := by
 have := AFun.libSlice (P := Tryz.prog) (g := 34) (Hp := Hp) (xs := [sv s, sv t]) (ys := (H7 s t).map sv) (t := 9) (by intro y hy; obtain ⟨z, _, rfl⟩ := List.mem_map.1 hy; rfl) (fun w hg => by
  obtain ⟨m, hm⟩ := Ho hg
  refine (Any.strings_Split Tryz.lays146 (by kernel_rfl) ⟨s.toArray⟩ ⟨t.toArray⟩ m w (by simpa [ByteArray.size] using hs) hm (by simpa [ByteArray.size] using ht)).mono ?_
  rintro e w' ⟨rfl, rfl⟩
  have hl : ((H7 s t).map sv).length = Lib.countB ⟨s.toArray⟩ ⟨t.toArray⟩ + 1 := by
   rw [List.length_map]
   unfold H7
   rw [List.length_map]
   exact Lib.splitB_all _ (by simpa [ByteArray.size] using ht) _ _ _ rfl
  refine ⟨by rw [hl], ?_⟩
  unfold H7
  rw [List.map_map]
  rfl)
 rw [List.map_map] at this
 exact this
end Go.SX.Nb
namespace Go.SX.Nb
end Go.SX.Nb
namespace Go.SX.Nb
open Go Go.SX Go.Proofs Go.RowKit Go.Sort
variable [ErrAt]
set_option maxRecDepth 4000
theorem ny : Builder.Extra Tryz.prog Tryz.ren155 := { sizeBuilder := by kernel_rfl, liesBuilder := by kernel_rfl, t5 := Tryz.underlying5, a5 := Tryz.isAgg5, z5 := Tryz.sizeOf5, v5 := Tryz.zeroValue5, infoByte := by kernel_rfl, cellsByte := by kernel_rfl, sizeByte := by kernel_rfl, neB5 := by decide }
theorem Um : Builder.Extra Tryz.prog Tryz.ren156 := { sizeBuilder := by kernel_rfl, liesBuilder := by kernel_rfl, t5 := Tryz.underlying5, a5 := Tryz.isAgg5, z5 := Tryz.sizeOf5, v5 := Tryz.zeroValue5, infoByte := by kernel_rfl, cellsByte := by kernel_rfl, sizeByte := by kernel_rfl, neB5 := by decide }
theorem nz (s o n : Str) (hs : s.length < 4294967281) (ho : 1 ≤ o.length) (hl : s.length + Lib.countB ⟨s.toArray⟩ ⟨o.toArray⟩ * n.length ≤ 140737488355328) (Hp : List AObj) : AFun Tryz.prog 124 [A8 s, A8 o, A8 n] Hp (A8 (Lib.replaceAll s o n)) := by
 refine AFun.lib (xs := [sv s, sv o, sv n]) (v := sv (Lib.replaceAll s o n)) (fun G w => .v _ _) (fun w hg => ?_)
 obtain ⟨m, hm⟩ := Ho hg
 refine (Any.strings_ReplaceAll Tryz.lays155 ny ⟨s.toArray⟩ ⟨o.toArray⟩ ⟨n.toArray⟩ m w (by simpa [ByteArray.size] using hs) hm (by simpa [ByteArray.size] using ho) (by simpa [ByteArray.size] using hl)).mono ?_
 rintro e w' ⟨rfl, hb⟩
 exact ⟨rfl, hb⟩
theorem T7 (w : World) (k : Nat) (os : Array Obj) : Below w.heap.size w (grow (w.drewN k) os) := by
 refine ⟨rfl, rfl, rfl, by simp [grow], fun b hb => ?_⟩
 show ((w.drewN k).heap ++ os)[b]? = w.heap[b]?
 rw [Array.getElem?_append_left (by exact hb)]
 rfl
theorem o0 (n : Int) (h0 : -9223372036854775808 ≤ n) (h1 : n ≤ 9223372036854775807) (Hp : List AObj) : AFun Tryz.prog 145 [.v (.int .i64 n), A3 10] Hp (A8 (Lib.itoa n)) := by
 refine AFun.lib (xs := [.int .i64 n, .int .i64 10]) (v := sv (Lib.itoa n)) (fun G w => .v _ _) (fun w hg => ?_)
 refine (Any.strconv_FormatInt_10 Tryz.lays173 n h0 h1 w (Yy hg)).mono ?_
 rintro e w' ⟨rfl, k, os, rfl⟩
 exact ⟨rfl, T7 _ _ _⟩
end Go.SX.Nb
namespace Go.SX.Nb
open Go Go.SX Go.Proofs Go.RowKit
variable [ErrAt]
set_option maxRecDepth 4000
def o1 : Str := [48, 49, 50, 51, 52, 53, 54, 55, 56, 57]
def Yz (s : Str) : Str := Lib.trimPrefix s [45]
def ix (s : Str) : Bool := (Yz s == []) || !(Lib.trimS (Yz s) o1 == []) || (((Yz s).headD 0 == 48) && decide (1 < s.length))
def Lt (s : Str) : Int × Int := if ix s then (0, 6) else match Lib.parseIntB 64 s with | .ok v => (v, 0) | .range => (0, 4) | _ => (0, 0)
end Go.SX.Nb
namespace Go.SX.Nb
open Go Go.SX Go.Proofs
variable [ErrAt]
set_option maxRecDepth 4000
def D6 (c : UInt8) : Bool := decide ((97 : Int) ≤ c.toNat) && decide ((c.toNat : Int) ≤ 122)
def Jx (c : UInt8) : Bool := decide ((48 : Int) ≤ c.toNat) && decide ((c.toNat : Int) ≤ 57)
theorem c94 (c : UInt8) (Hp : List AObj) : AFun Tryz.prog 94 [.v (.int .u8 (c.toNat : Int))] Hp (.v (.bool (D6 c))) := by
 refine ACall.body [.tmp 2] [0] Tryz.func94 Tryz.ntmps94 (fun d => ?_)
 refine Nf ?_;refine R.geq ?_;refine Z15 ?_;refine G.leq ?_;exact dc

theorem c96 (c : UInt8) (Hp : List AObj) : AFun Tryz.prog 96 [.v (.int .u8 (c.toNat : Int))] Hp (.v (.bool (Jx c))) := by
 refine ACall.body [.tmp 2] [0] Tryz.func96 Tryz.ntmps96 (fun d => ?_)
 refine Nf ?_;refine R.geq ?_;refine Z15 ?_;refine G.leq ?_;exact dc

def words : List Str := [[97, 100, 100], [100, 114, 111, 112], [114, 101, 110, 97, 109, 101], [115, 112, 108, 105, 116], [109, 101, 114, 103, 101], [114, 101, 116, 121, 112, 101], [105, 110, 116, 111], [116, 111], [98, 97, 99, 107], [97, 110, 100], [111, 114], [110, 111, 116], [116, 114, 117, 101], [102, 97, 108, 115, 101], [110, 117, 108, 108], [105, 110, 116], [116, 101, 120, 116], [98, 111, 111, 108], [115, 101, 108, 101, 99, 116], [119, 104, 101, 114, 101], [102, 114, 111, 109], [108, 105, 109, 105, 116]]
def E3 (s : Str) : Bool := words.any (· == s)
theorem Nr : words.length = 22 := rfl
theorem iy {α : Type} {p : α → Bool} {l : List α} {i : Nat} (h : i < l.length) (hp : p l[i] = true) : l.any p = true := by
 rw [List.any_eq_true]; exact ⟨l[i], List.getElem_mem h, hp⟩
theorem Z3 {α : Type} {p : α → Bool} {l : List α} (h : ∀ (j : Nat) (y : α), l[j]? = some y → p y = false) : l.any p = false := by
 rw [List.any_eq_false]
 intro x hx
 obtain ⟨j, hj⟩ := List.getElem?_of_mem hx
 simp [h j x hj]
theorem An {α : Type} {l : List α} {x : Nat} {p : α → Prop} (hlt : x < l.length) (h : ∀ (j : Nat) (y : α), j < x → l[j]? = some y → p y) (hx : p l[x]) : ∀ (j : Nat) (y : α), j < x + 1 → l[j]? = some y → p y := by
 intro j y hj hy
 rcases Nat.lt_or_ge j x with h' | h'
 ·exact h j y h' hy
 have : j = x := by omega
 subst this
 rw [List.getElem?_eq_getElem hlt] at hy
 injection hy with hy
 subst hy
 exact hx
theorem Fm {α : Type} {l : List α} {x : Nat} {p : α → Prop} (hge : l.length ≤ x) (h : ∀ (j : Nat) (y : α), j < x → l[j]? = some y → p y) : ∀ (j : Nat) (y : α), l[j]? = some y → p y :=
 fun j y hy => h j y (by have := (List.getElem?_eq_some_iff.1 hy).1; omega) hy
theorem c95 (s : Str) (Hp : List AObj) : AFun Tryz.prog 95 [A8 s] Hp (Af (E3 s)) := by
 refine ACall.body [.tmp 2] [0] Tryz.func95 Tryz.ntmps95 (fun d => ?_)
 refine Z49 ?_;refine B2 ?_;refine W5 ?_;refine Ep ?_;refine Z74 ?_;refine Pi ?_
 refine AW.loopC (α := Nat) (fun x => ⟨18, A2 0 (A8 s) (A2 3 (.slice true 1 (words.map A8)) (A2 4 (A3 (x : Nat)) (fun _ => .any))), Hp, [], [], none⟩) (fun x => x ≤ words.length ∧ ∀ (j : Nat) (y : Str), j < x → words[j]? = some y → (y == s) = false) (fun x => words.length - x) (0) (by simp) (StLe.refl _) rfl (fun x hx => ?_)
 refine Hz ?_;refine R.fin [0, 3, 4, 9] ?_
 refine W.cond (fun ht9 => ?_) (fun ht9 => ?_)
 ·have hlt : x < words.length := by simpa using ht9
  have hwl := Nr
  refine Na ?_;refine R.indexAddr (x) (A8 words[x]) jU jS (Ae hlt) ?_;refine cx ?_;refine R.seql ?_;refine R.fin [0, 3, 4, 17] ?_
  refine W.cond (fun ht17 => ?_) (fun ht17 => ?_)
  ·refine N7 ?_;exact K.fin (V.one V.tmp) ⟨by rw [show E3 s = true from iy hlt ht17], rfl⟩
  refine Z86 ?_;refine Pi ?_;exact K.lpN (x + 1) ⟨hlt, An hlt hx.2 ht17⟩ (by have := Nr; omega) (StCut.of_eq rfl)
 refine Z73 ?_;refine Z64 ?_;exact K.fin (V.one V.tmp) ⟨by rw [show E3 s = false from Z3 (Fm (by simp at ht9; omega) hx.2)], rfl⟩

def Fo (c : UInt8) : Bool := D6 c || Jx c || c == 95
def Ey (s : Str) : Bool := match s with
 | [] => false
 | c :: _ => decide (s.length ≤ 16) && D6 c && !E3 s && s.all Fo
theorem Za {α : Type} {p : α → Bool} {l : List α} {i : Nat} (h : i < l.length) (hp : p l[i] = false) : l.all p = false := by
 rw [List.all_eq_false]; exact ⟨l[i], List.getElem_mem h, by simp [hp]⟩
theorem iz {α : Type} {p : α → Bool} {l : List α} (h : ∀ (j : Nat) (y : α), l[j]? = some y → p y = true) : l.all p = true := by
 rw [List.all_eq_true]
 intro x hx
 obtain ⟨j, hj⟩ := List.getElem?_of_mem hx
 exact h j x hj
theorem nn {s : Str} {b : Bool} (h : ((((s.length : Int) == 0) || b) == false) = true) : s ≠ [] := by rintro rfl; simp at h
theorem Wk {s : Str} (h : s ≠ []) : s[0]? = some (s.headD 0) := by cases s with
 | nil => exact absurd rfl h
 | cons c r => rfl
theorem Lu (s : Str) : Ey s = (!((s.length : Int) == 0 || decide ((16 : Int) < s.length) || !D6 (s.headD 0) || E3 s) && s.all Fo) := by
 cases s with
 | nil => rfl
 | cons c r =>
  have h1 : (((c :: r).length : Int) == 0) = false := by simp; omega
  have h2 : decide ((c :: r).length ≤ 16) = !decide ((16 : Int) < (c :: r).length) := by
   by_cases h : (c :: r).length ≤ 16
   ·have : ¬ ((16 : Int) < (c :: r).length) := by omega
    simp only [h, this, decide_true, decide_false, Bool.not_false]
   have : ((16 : Int) < (c :: r).length) := by omega
   simp only [h, this, decide_true, decide_false, Bool.not_true]
  simp only [Ey, h1, h2, List.headD_cons, Bool.not_or, Bool.not_not, Bool.false_or]
theorem dl {c : UInt8} (h : ((!D6 c && !Jx c) && ((c.toNat : Int) != 95)) = false) : Fo c = true := by
 unfold Fo
 have e : ((c.toNat : Int) != 95) = !(c == 95) := by
  by_cases hc : c = 95
  ·subst hc; rfl
  have : c.toNat ≠ 95 := fun h => hc (UInt8.toNat_inj.1 h)
  have : (c.toNat : Int) ≠ 95 := by omega
  rw [bne_iff_ne.2 this, beq_eq_false_iff_ne.2 hc]; rfl
 rw [e] at h
 revert h
 cases D6 c <;> cases Jx c <;> cases (c == 95) <;> simp
theorem dm {c : UInt8} (h : ((!D6 c && !Jx c) && ((c.toNat : Int) != 95)) = true) : Fo c = false := by
 unfold Fo
 have e : ((c.toNat : Int) != 95) = !(c == 95) := by
  by_cases hc : c = 95
  ·subst hc; rfl
  have : c.toNat ≠ 95 := fun h => hc (UInt8.toNat_inj.1 h)
  have : (c.toNat : Int) ≠ 95 := by omega
  rw [bne_iff_ne.2 this, beq_eq_false_iff_ne.2 hc]; rfl
 rw [e] at h
 revert h
 cases D6 c <;> cases Jx c <;> cases (c == 95) <;> simp
theorem c67 (s : Str) (hs : s.length ≤ 1048576) (Hp : List AObj) : AFun Tryz.prog 67 [A8 s] Hp (Af (Ey s)) := by
 refine ACall.body [.tmp 2] [0] Tryz.func67 Tryz.ntmps67 (fun d => ?_)
 refine Nc ?_;refine R.slen jU ?_;refine R.eql ?_;refine Z15 ?_;refine G.slen jU ?_;refine Z85 ?_;refine Z15 ?_;refine G.sindex 0 (s.headD 0) jU (fun hB => Wk (nn hB))  ?_;refine G.call Tryz.call94 (fun hB => c94 (s.headD 0) _) ?_;refine Wc ?_;refine Z15 ?_;refine G.call Tryz.call95 (fun hB => c95 s _) ?_;refine R.pickOr ?_;refine R.fin [0, 21] ?_
 refine W.cond (fun ht21 => ?_) (fun ht21 => ?_)
 ·refine Z64 ?_;refine K.thR ?_;exact K.fin (V.one V.tmp) ⟨by rw [Lu, ht21]; rfl, rfl⟩
 refine Nd ?_;refine Ep ?_
 refine AW.loopC (α := Nat) (fun x => ⟨46, A2 0 (A8 s) (A2 3 (A3 (x : Nat)) (fun _ => .any)), Hp, [], [], none⟩) (fun x => x ≤ s.length ∧ ∀ (j : Nat) (y : UInt8), j < x → s[j]? = some y → Fo y = true) (fun x => s.length - x) (0) (by simp) (StLe.refl _) rfl (fun x hx => ?_)
 refine Z67 ?_;refine R.slen jU ?_;refine R.lss ?_;refine R.fin [0, 3, 25] ?_
 refine W.cond (fun ht25 => ?_) (fun ht25 => ?_)
 ·have hlt : x < s.length := by simpa using ht25
  refine Na ?_
  refine R.sindex x s[x] jU (List.getElem?_eq_getElem hlt)  ?_
  refine R.call Tryz.call94 (c94 s[x] _) ?_;refine R.not ?_;refine Z94 ?_
  refine G.sindex x s[x] jU (fun _ => List.getElem?_eq_getElem hlt)  ?_
  refine G.call Tryz.call96 (fun hB => c96 s[x] _) ?_;refine Yo ?_;refine Z94 ?_
  refine G.sindex x s[x] jU (fun _ => List.getElem?_eq_getElem hlt)  ?_
  refine G.neq ?_;refine R.pickAnd ?_;refine R.fin [0, 3, 45] ?_
  refine W.cond (fun ht45 => ?_) (fun ht45 => ?_)
  ·refine N7 ?_;exact K.fin (V.one V.tmp) ⟨by rw [Lu, ht21, Za hlt (dm ht45)]; rfl, rfl⟩
  refine Z86 ?_;refine Ep ?_;exact K.lpN (x + 1) ⟨hlt, An hlt hx.2 (dl ht45)⟩ (by omega) (StCut.of_eq rfl)
 refine Z73 ?_;refine Z64 ?_;exact K.fin (V.one V.tmp) ⟨by rw [Lu, ht21, iz (Fm (by simp at ht25; omega) hx.2)]; rfl, rfl⟩

def Ah (nm : Str) (c : List Col) : Int := match c.findIdx? (fun y => y.name == nm) with | some i => i | none => -1
theorem R1 {nm : List UInt8} {c : List Col} {x : Nat} (h : x < c.length) (h1 : c[x].name = nm) (h2 : ∀ (j : Nat) (y : Col), j < x → c[j]? = some y → ¬ (y.name = nm)) : Ah nm c = x := by
 have : c.findIdx? (fun y => y.name == nm) = some x := by
  rw [List.findIdx?_eq_some_iff_getElem]
  exact ⟨h, by simpa using h1, fun j hj => by simpa using h2 j c[j] hj (List.getElem?_eq_getElem _)⟩
 simp [Ah, this]
theorem T8 {nm : List UInt8} {c : List Col} (h : ∀ (j : Nat) (y : Col), c[j]? = some y → ¬ (y.name = nm)) : Ah nm c = -1 := by
 have : c.findIdx? (fun y => y.name == nm) = none := by
  rw [List.findIdx?_eq_none_iff]
  intro y hy
  obtain ⟨j, hj⟩ := List.getElem?_of_mem hy
  simpa using h j y hj
 simp [Ah, this]
structure OkCols (c : List Col) : Prop where
 len : c.length ≤ 1048576
 names : ∀ y ∈ c, y.name.length ≤ 1048576
theorem c50 (c : List Col) (hc : OkCols c) (nm : Str) (Hp : List AObj) : AFun Tryz.prog 50 [A4 c, A8 nm] Hp (A3 (Ah nm c)) := by
 refine ACall.body [.tmp 4] [0, 1] Tryz.func50 Tryz.ntmps50 (fun d => ?_)
 refine Z71 ?_;refine Z74 ?_;refine R.fin [0, 1, 5] ?_
 refine AW.loopC (α := Nat) (fun x => ⟨20, A2 0 (A4 c) (A2 1 (A8 nm) (A2 5 (A3 (x : Nat)) (fun _ => .any))), Hp, [], [], none⟩) (fun x => x ≤ c.length ∧ ∀ (j : Nat) (y : Col), j < x → c[j]? = some y → ¬ (y.name = nm)) (fun x => c.length - x) (0) (by simp) (StLe.refl _) rfl (fun x hx => ?_)
 refine Hz ?_;refine R.fin [0, 1, 5, 9] ?_
 refine W.cond (fun ht9 => ?_) (fun ht9 => ?_)
 ·have hlt : x < c.length := by simpa using ht9
  have hcl := hc.len
  refine ii ?_;refine W3 ?_;refine Ap ?_;refine R.seql ?_;refine R.fin [0, 1, 5, 18] ?_
  refine W.cond (fun ht18 => ?_) (fun ht18 => ?_)
  ·refine Qr ?_;refine Z59 ?_;exact K.fin (V.one V.tmp) ⟨by rw [R1 hlt (by simpa using ht18) hx.2], rfl⟩
  refine Z86 ?_;refine R.fin [0, 1, 5] ?_;exact K.lpN (x + 1) ⟨hlt, An hlt hx.2 (by simpa using ht18)⟩ (by omega) (StCut.of_eq rfl)
 refine Z73 ?_;exact kn

def Jb (c : List Col) (x : Nat) (y : Col) : Bool := !(((!Ey y.name || decide (y.kind < 1)) || decide ((3 : Int) < y.kind)) || (Ah y.name c != (x : Int)))
def Dm (c : List Col) : Bool := c.zipIdx.all fun x => Jb c x.2 x.1
theorem colsM_true {c : List Col} : Dm c = true ↔ ∀ (j : Nat) (y : Col), c[j]? = some y → Jb c j y = true := by
 unfold Dm
 rw [List.all_eq_true]
 constructor
 ·intro h j y hj
  exact m4
 rintro h ⟨y, j⟩ hx
 rw [List.mem_zipIdx_iff_getElem?] at hx
 exact h j y hx
theorem E4 {α : Type} {l : List α} {x : Nat} {p : Nat → α → Prop} (hlt : x < l.length) (h : ∀ (j : Nat) (y : α), j < x → l[j]? = some y → p j y) (hx : p x l[x]) : ∀ (j : Nat) (y : α), j < x + 1 → l[j]? = some y → p j y := by
 intro j y hj hy
 rcases Nat.lt_or_ge j x with h' | h'
 ·exact h j y h' hy
 have : j = x := by omega
 subst this
 rw [List.getElem?_eq_getElem hlt] at hy
 injection hy with hy
 subst hy
 exact hx
theorem Et {α : Type} {l : List α} {x : Nat} {p : Nat → α → Prop} (hge : l.length ≤ x) (h : ∀ (j : Nat) (y : α), j < x → l[j]? = some y → p j y) : ∀ (j : Nat) (y : α), l[j]? = some y → p j y :=
 fun j y hy => h j y (by have := (List.getElem?_eq_some_iff.1 hy).1; omega) hy
theorem c45 (c : List Col) (hc : OkCols c) (Hp : List AObj) : AFun Tryz.prog 45 [A4 c] Hp (Af (Dm c)) := by
 refine ACall.body [.tmp 2] [0] Tryz.func45 Tryz.ntmps45 (fun d => ?_)
 refine Z49 ?_;refine Z74 ?_;refine Ep ?_
 refine AW.loopC (α := Nat) (fun x => ⟨44, A2 0 (A4 c) (A2 3 (A3 (x : Nat)) (fun _ => .any)), Hp, [], [], none⟩) (fun x => x ≤ c.length ∧ ∀ (j : Nat) (y : Col), j < x → c[j]? = some y → Jb c j y = true) (fun x => c.length - x) (0) (by simp) (StLe.refl _) rfl (fun x hx => ?_)
 refine Hz ?_;refine R.fin [0, 3, 7] ?_
 refine W.cond (fun ht7 => ?_) (fun ht7 => ?_)
 ·have hlt : x < c.length := by simpa using ht7
  have hcl := hc.len
  refine ii ?_;refine W3 ?_;refine R.call Tryz.call67 (c67 c[x].name (hc.names _ (List.getElem_mem hlt)) _) ?_;refine R.not ?_;refine Z94 ?_;refine iq ?_;refine ia ?_;refine G.lss ?_;refine R.pickOr ?_;refine Z94 ?_;refine iq ?_;refine ia ?_;refine Z85 ?_;refine Z94 ?_;refine G.move ?_;refine iq ?_;refine G.fieldAddrRo (off := 0) jU Tryz.sizeOf9 ?_;refine Ii ?_;refine G.call Tryz.call50 (fun hB => c50 c hc c[x].name _) ?_;refine Sz ?_;refine R.fin [0, 3, 43] ?_
  refine W.cond (fun ht43 => ?_) (fun ht43 => ?_)
  ·refine N7 ?_
   exact K.fin (V.one V.tmp) ⟨by rw [show Dm c = false from Bool.eq_false_iff.2 fun h => by have := colsM_true.1 h x c[x] (List.getElem?_eq_getElem hlt); unfold Jb at this; rw [ht43] at this; cases this], rfl⟩
  refine Z86 ?_;refine Ep ?_;exact K.lpN (x + 1) ⟨hlt, E4 hlt hx.2 (by unfold Jb; rw [ht43]; rfl)⟩ (by omega) (StCut.of_eq rfl)
 refine Z73 ?_;refine Z64 ?_;exact K.fin (V.one V.tmp) ⟨by rw [colsM_true.2 (Et (by simp at ht7; omega) hx.2)], rfl⟩

def B9 (c : List Col) : Bool := decide ((c.length : Int) ≤ 12) && Dm c
theorem c26 (c : List Col) (hc : OkCols c) (Hp : List AObj) : AFun Tryz.prog 26 [A4 c] Hp (Af (B9 c)) := by
 refine ACall.body [.tmp 2] [0] Tryz.func26 Tryz.ntmps26 (fun d => ?_)
 refine Nf ?_;refine R.len jU ?_;refine R.leq ?_;refine Z15 ?_;refine G.call Tryz.call45 (fun hB => c45 c hc _) ?_;refine T5 ?_;exact K.fin (V.one V.tmp) ⟨by unfold B9; simp, rfl⟩

def Cp (v : Val) : Bool := if v.kind == 0 then v.n == 0 && v.s == [] else if v.kind == 1 then v.s == [] else if v.kind == 2 then v.n == 0 && decide ((v.s.length : Int) ≤ 200) else v.kind == 3 && v.s == [] && decide (0 ≤ v.n) && decide (v.n ≤ 1)
theorem o3 (v : Val) (Hp : List AObj) : AFun Tryz.prog 147 [dj v] Hp (Af (Cp v)) := by
 refine ACall.body [.tmp 2] [0] Tryz.func147 Tryz.ntmps147 (fun d => ?_)
 refine B2 ?_;refine R.box ?_;refine B6 ?_;refine R.fin [1] ?_;refine Z18 ?_;refine W4 ?_;refine R.eql ?_;refine R.fin [1, 5] ?_
 refine W.cond (fun ht5 => ?_) (fun ht5 => ?_)
 ·refine B2 ?_;refine i7 ?_;refine Qu ?_;refine cg ?_;refine G.seql ?_;refine T5 ?_;refine K.thR ?_;exact m5
 refine Z5 ?_;refine Z18 ?_;refine W4 ?_;refine R.eql ?_;refine R.fin [1, 16] ?_
 refine W.cond (fun ht16 => ?_) (fun ht16 => ?_)
 ·refine B2 ?_;refine i8 ?_;refine Z8 ?_;refine Z2 ?_;refine K.thR ?_;exact K.fin (V.one V.tmp) ⟨by simp [Cp, ht5, ht16], rfl⟩
 refine Z5 ?_;refine Z18 ?_;refine W4 ?_;refine R.eql ?_;refine R.fin [1, 22] ?_
 refine W.cond (fun ht22 => ?_) (fun ht22 => ?_)
 ·refine B2 ?_;refine i7 ?_;refine Qu ?_;refine cg ?_;refine G.slen jU ?_;refine G.leq ?_;refine T5 ?_;refine K.thR ?_;exact m6
 refine Ig ?_;refine W4 ?_;refine Qu ?_;refine cg ?_;refine G.seql ?_;refine Z93 ?_;refine cj ?_;refine G.geq ?_;refine Z93 ?_;refine cj ?_;refine G.leq ?_;refine T5 ?_;exact m6

theorem j1 (e : Bool) (n : Int) : (e && (n == 0 || n == 1)) = (e && decide (0 ≤ n) && decide (n ≤ 1)) := by
 cases e
 ·rfl
 rw [Bool.eq_iff_iff]
 simp
 omega
theorem mh (v : Val) (Hp : List AObj) : AFun Tryz.prog 118 [dj v] Hp (Af (Cp v)) := by
 refine ACall.body [.tmp 2] [0] Tryz.func118 Tryz.ntmps118 (fun d => ?_)
 refine B2 ?_;refine R.box ?_;refine B6 ?_;refine R.fin [1] ?_;refine Z18 ?_;refine W4 ?_;refine R.fin [1, 4] ?_;refine N9 ?_;refine R.fin [1, 4, 5] ?_
 refine W.cond (fun ht5 => ?_) (fun ht5 => ?_)
 ·refine Pe ?_;refine R.build (places := #[(0, 1), (1, 1), (2, 1)]) jU (fun w => by simp) jZ ?_;refine R.eqlAgg Yx (Ja v.kind v.n 0 0 v.s []) ?_;refine Ys ?_;exact m5
 refine Z39 ?_;refine R.fin [1, 4, 10] ?_
 refine W.cond (fun ht10 => ?_) (fun ht10 => ?_)
 ·refine B2 ?_;refine i8 ?_;refine Z8 ?_;refine Z10 ?_;exact K.fin (V.one V.tmp) ⟨by simp [Cp, ht5, ht10], rfl⟩
 refine Z39 ?_;refine R.fin [1, 4, 15] ?_
 refine W.cond (fun ht15 => ?_) (fun ht15 => ?_)
 ·refine B2 ?_;refine i7 ?_;refine Qu ?_;refine cg ?_;refine G.slen jU ?_;refine G.leq ?_;refine Z20 ?_;refine Z10 ?_;exact K.fin (V.one V.tmp) ⟨by simp [Cp, ht5, ht10, ht15], rfl⟩
 refine Z39 ?_;refine R.fin [1, 26] ?_
 refine W.cond (fun ht26 => ?_) (fun ht26 => ?_)
 ·refine B2 ?_;refine i8 ?_;refine R.seql ?_;refine Ap ?_;refine cj ?_;refine G.eql ?_;refine G.move ?_;refine cj ?_;refine G.eql ?_;refine G.pickOr ?_;refine Z20 ?_;refine Z10 ?_;exact K.fin (V.one V.tmp) ⟨by simp [Cp, ht5, ht10, ht15, ht26]; rw [j1], rfl⟩
 refine Qv ?_;exact K.fin (V.one V.tmp) ⟨by simp [Cp, ht5, ht10, ht15, ht26], rfl⟩

def Gk (c : List Col) : Bool := decide ((50 : Int) < c.length) || c.any fun y => decide ((100 : Int) < y.name.length)
theorem Il {α : Type} {c : List α} {p : Nat → α → Bool} : (c.zipIdx.all fun x => p x.2 x.1) = true ↔ ∀ (j : Nat) (y : α), c[j]? = some y → p j y = true := by
 rw [List.all_eq_true]
 constructor
 ·intro h j y hj
  exact m4
 rintro h ⟨y, j⟩ hx
 rw [List.mem_zipIdx_iff_getElem?] at hx
 exact h j y hx
theorem o4 (y : Col) (nm : Str) (Hp : List AObj) : AFun Tryz.prog 111 [B3 y, .ro [A8 nm]] Hp (Af (y.name == nm)) := by
 refine ACall.body [.tmp 3] [0, 1] Tryz.func111 Tryz.ntmps111 (fun d => ?_)
 refine Z55 ?_;refine R.fin [1, 2] ?_;refine B2 ?_;refine W3 ?_;refine Dr ?_;refine Z8 ?_;refine R.fin [3] ?_;refine AW.ret ?_;exact Wh

theorem o5 (c : List Col) (hc : OkCols c) (nm : Str) (Hp : List AObj) : AFun Tryz.prog 110 [A4 c, .fn (.func 111) [] [.ro [A8 nm]]] Hp (A3 (Ah nm c)) := by
 refine ACall.body [.tmp 4] [0, 1] Tryz.func110 Tryz.ntmps110 (fun d => ?_)
 refine Wf ?_
 refine AW.loopC (α := Nat) (fun x => ⟨19, A2 0 (A4 c) (A2 1 (.fn (.func 111) [] [.ro [A8 nm]]) (A2 7 (A3 c.length) (A2 8 (A3 (x : Nat)) (fun _ => .any)))), Hp, [], [], none⟩) (fun x => x ≤ c.length ∧ ∀ (j : Nat) (y : Col), j < x → c[j]? = some y → ¬ (y.name = nm)) (fun x => c.length - x) (0) (by simp) (StLe.of_eq (by simp)) rfl (fun x hx => ?_)
 refine W7 ?_
 refine W.condX (fun ht9 => ?_) (fun ht9 => ?_)
 ·have hlt : x < c.length := by simpa using ht9
  have hcl := hc.len
  refine We ?_;refine Z62 ?_;refine R.callV Tryz.call111 (o4 c[x] nm _) ?_;refine Wi ?_
  refine W.cond (fun ht16 => ?_) (fun ht16 => ?_)
  ·refine Qr ?_;refine Z59 ?_;exact K.fin (V.one V.tmp) ⟨by rw [R1 hlt (by simpa using ht16) hx.2], rfl⟩
  refine Hx ?_;refine R.fin [0, 1, 7, 8] ?_;exact K.lpN (x + 1) ⟨hlt, An hlt hx.2 (by simpa using ht16)⟩ (by omega) (StCut.of_eq rfl)
 refine Z29 ?_;exact kn

theorem c84 (c : List Col) (hc : OkCols c) (nm : Str) (Hp : List AObj) : AFun Tryz.prog 84 [A4 c, A8 nm] Hp (A3 (Ah nm c)) := by
 refine ACall.body [.tmp 4] [0, 1] Tryz.func84 Tryz.ntmps84 (fun d => ?_)
 refine Qs ?_;refine Z1 ?_;refine R.makeFunc ?_;refine R.call Tryz.call110 (o5 c hc nm _) ?_;refine B6 ?_;exact Y6

def Wl (s of : Str) : Int := (s.length : Int) - (Lib.trimLeftS s of).length
theorem dn (s of : Str) : (Lib.trimLeftS s of).length ≤ s.length := by
 unfold Lib.trimLeftS
 exact (List.dropWhile_sublist _).length_le
def Gc : Str := [32, 97, 100, 100, 32, 100, 114, 111, 112, 32, 114, 101, 110, 97, 109, 101, 32, 115, 112, 108, 105, 116, 32, 109, 101, 114, 103, 101, 32, 114, 101, 116, 121, 112, 101, 32, 105, 110, 116, 111, 32, 116, 111, 32, 98, 97, 99, 107, 32, 97, 110, 100, 32, 111, 114, 32, 110, 111, 116, 32, 116, 114, 117, 101, 32, 102, 97, 108, 115, 101, 32, 110, 117, 108, 108, 32, 105, 110, 116, 32, 116, 101, 120, 116, 32, 98, 111, 111, 108, 32, 115, 101, 108, 101, 99, 116, 32, 119, 104, 101, 114, 101, 32, 102, 114, 111, 109, 32, 108, 105, 109, 105, 116, 32]
def letters : Str := [97, 98, 99, 100, 101, 102, 103, 104, 105, 106, 107, 108, 109, 110, 111, 112, 113, 114, 115, 116, 117, 118, 119, 120, 121, 122]
def tails : Str := [97, 98, 99, 100, 101, 102, 103, 104, 105, 106, 107, 108, 109, 110, 111, 112, 113, 114, 115, 116, 117, 118, 119, 120, 121, 122, 48, 49, 50, 51, 52, 53, 54, 55, 56, 57, 95]
theorem mi (s of : Str) (hs : s.length ≤ 1048576) (ho : of.length ≤ 1048576) (ha : ∀ c ∈ of, c.toNat < 128) (Hp : List AObj) : AFun Tryz.prog 141 [A8 s, A8 of] Hp (A3 (Wl s of)) := by
 refine ACall.body [.tmp 4] [0, 1] Tryz.func141 Tryz.ntmps141 (fun d => ?_)
 refine Z71 ?_;refine Z1 ?_;refine R.slen jU ?_;refine Jw ?_;refine R.call Tryz.call164 (nx s of (by omega) ha _) ?_;refine R.slen jU ?_
 have htl := dn s of
 refine R.sub64 ?_;refine B6 ?_;exact Y6

def Er (s : Str) : Bool := (!(s == []) && !Lib.contains s [32]) && Lib.contains Gc ([32] ++ s ++ [32])
theorem o6 (s : Str) (hs : s.length ≤ 1048576) (Hp : List AObj) : AFun Tryz.prog 142 [A8 s] Hp (Af (Er s)) := by
 refine ACall.body [.tmp 2] [0] Tryz.func142 Tryz.ntmps142 (fun d => ?_)
 refine Nf ?_;refine R.sneq ?_;refine Z15 ?_;refine G.call Tryz.call143 (fun hB => dk s [32] (by omega) _) ?_;refine Yo ?_;refine Z15 ?_;refine G.sadd ?_;refine G.sadd ?_;refine G.call Tryz.call143 (fun hB => dk Gc ([32] ++ s ++ [32]) (by decide) _) ?_;exact dc

theorem j2 {s : Str} {b c : Bool} (h : (((!(s == []) && b) && c) == true) = true) : 1 ≤ s.length := by
 cases s with
 | nil => simp at h
 | cons x r => simp
def Be (s : Str) : Bool := ((((!(s == []) && decide ((s.length : Int) ≤ 16)) && (Wl s tails == (s.length : Int))) && (Wl (s.take 1) letters == 1)) && !Er s)
theorem dp (s : Str) (hs : s.length ≤ 1048576) (Hp : List AObj) : AFun Tryz.prog 119 [A8 s] Hp (Af (Be s)) := by
 refine ACall.body [.tmp 2] [0] Tryz.func119 Tryz.ntmps119 (fun d => ?_)
 refine Nf ?_;refine R.sneq ?_;refine Z15 ?_;refine G.slen jU ?_;refine G.leq ?_;refine R.pickAnd ?_;refine Z15 ?_;refine G.call Tryz.call141 (fun hB => mi s tails hs (by decide) (by decide) _) ?_;refine G.move ?_;refine G.slen jU ?_;refine G.eql ?_;refine R.pickAnd ?_;refine Z15 ?_;refine G.scutH 1 jU (fun _ => Nat.zero_le _) (fun hB => j2 hB) ?_
 refine G.call Tryz.call141 (fun hB => mi (s.take 1) letters (by simp; omega) (by decide) (by decide) _) ?_
 refine G.eql ?_;refine R.pickAnd ?_;refine Z15 ?_;refine G.call Tryz.call142 (fun hB => o6 s hs _) ?_;refine G.not ?_;exact dc

end Go.SX.Nb
namespace Go.SX.Nb
open Go Go.SX Go.Proofs Go.RowKit
variable [ErrAt]
set_option maxRecDepth 4000
end Go.SX.Nb
namespace Go.SX.Nb
open Go Go.SX Go.Proofs
variable [ErrAt]
set_option maxRecDepth 4000
def R2 : Str := [32, 105, 110, 116, 32, 116, 101, 120, 116, 32, 98, 111, 111, 108]
def kindNames : List Str := [[], [105, 110, 116], [116, 101, 120, 116], [98, 111, 111, 108]]
theorem Wm : H7 R2 [32] = kindNames := by kernel_rfl
def Bh (k : Int) : Str := if k < 1 ∨ 3 < k then [] else kindNames.getD k.toNat []
theorem c40 (k : Int) (Hp : List AObj) : AFun Tryz.prog 40 [A3 k] Hp (A8 (Bh k)) := by
 refine ACall.body [.tmp 2] [0] Tryz.func40 Tryz.ntmps40 (fun d => ?_)
 refine Nc ?_;refine R.lss ?_;refine Z15 ?_;refine Z85 ?_;refine R.fin [0, 8] ?_
 refine W.cond (fun ht8 => ?_) (fun ht8 => ?_)
 ·refine Z64 ?_;refine K.thR ?_;exact K.fin (V.one V.tmp) ⟨by rw [show Bh k = [] from if_pos (by simpa using ht8)], rfl⟩
 refine Ig ?_
 have hk : 1 ≤ k ∧ k ≤ 3 := by simp at ht8; omega
 have hget : (kindNames.map A8)[k.toNat]? = some (A8 (kindNames.getD k.toNat [])) := by
  have hlt : k.toNat < kindNames.length := by show k.toNat < 4; omega
  rw [List.getElem?_map, List.getElem?_eq_getElem hlt, List.getD_eq_getElem?_getD, List.getElem?_eq_getElem hlt]
  rfl
 refine R.call Tryz.call34 (Wm ▸ c34 R2 [32] (by decide) (by decide) _) ?_;refine Ap ?_;refine R.indexAddr (k.toNat) (A8 (kindNames.getD k.toNat [])) jU jS hget ?_;refine Yb ?_;refine Z2 ?_;exact K.fin (V.one V.tmp) ⟨by rw [show Bh k = kindNames.getD k.toNat [] from if_neg (by omega)], rfl⟩

def Hq (s of : Str) : Bool := (!(s == []) && !Lib.contains s [32]) && Lib.contains of ([32] ++ s ++ [32])
theorem o7 (s of : Str) (hs : s.length ≤ 1048576) (ho : of.length ≤ 1048576) (Hp : List AObj) : AFun Tryz.prog 120 [A8 s, A8 of] Hp (Af (Hq s of)) := by
 refine ACall.body [.tmp 4] [0, 1] Tryz.func120 Tryz.ntmps120 (fun d => ?_)
 refine Z71 ?_;refine Z1 ?_;refine R.sneq ?_;refine Z15 ?_;refine G.call Tryz.call143 (fun hB => dk s [32] (by omega) _) ?_;refine Yo ?_;refine Z94 ?_;refine G.sadd ?_;refine G.sadd ?_;refine G.call Tryz.call143 (fun hB => dk of ([32] ++ s ++ [32]) (by omega) _) ?_;refine Z20 ?_;exact Y6

def Ns : Str := [108, 101, 110, 58, 49, 32, 115, 116, 114, 58, 49, 32, 110, 117, 109, 58, 49, 32, 105, 115, 110, 117, 108, 108, 58, 49, 32, 110, 118, 108, 58, 50, 32, 108, 101, 102, 116, 58, 50, 32, 114, 105, 103, 104, 116, 58, 50, 32, 105, 102, 58, 51]
def arityList : List (Str × UInt8) := [([108, 101, 110], 49), ([115, 116, 114], 49), ([110, 117, 109], 49), ([105, 115, 110, 117, 108, 108], 49), ([110, 118, 108], 50), ([108, 101, 102, 116], 50), ([114, 105, 103, 104, 116], 50), ([105, 102], 51)]
def Ec (p : Str × UInt8) : Str := p.1 ++ [58, p.2]
theorem T9 : H7 Ns [32] = arityList.map Ec := by kernel_rfl
theorem Zb {p : Str × UInt8} (hp : p ∈ arityList) : Lib.cut (Ec p) [58] = (p.1, [p.2], true) := by
 have h : (arityList.all fun p => decide (Lib.cut (Ec p) [58] = (p.1, [p.2], true))) = true := by kernel_rfl
 exact of_decide_eq_true (List.all_eq_true.1 h p hp)
def j3 (p : Str × UInt8) : Int := IntKind.i64.wrap (IntKind.u8.wrap ((p.2.toNat : Int) - 48))
def Av (nm : Str) : Int := match arityList.find? (fun p => p.1 == nm) with | some p => j3 p | none => -1
theorem Un {α : Type} {p : α → Bool} {l : List α} {x : Nat} (h : x < l.length) (hp : p l[x] = true) (h2 : ∀ (j : Nat) (y : α), j < x → l[j]? = some y → p y = false) : l.find? p = some l[x] := by
 rw [List.find?_eq_some_iff_getElem]
 exact ⟨hp, x, h, rfl, fun j hj => by simpa using h2 j l[j] hj (List.getElem?_eq_getElem _)⟩
theorem Nt {α : Type} {p : α → Bool} {l : List α} (h : ∀ (j : Nat) (y : α), l[j]? = some y → p y = false) : l.find? p = none := by
 rw [List.find?_eq_none]
 intro y hy
 obtain ⟨j, hj⟩ := List.getElem?_of_mem hy
 simpa using h j y hj
theorem Jy : arityList.length = 8 := rfl
theorem Wn {p : Str × UInt8} (hp : p ∈ arityList) : (Ec p).length < 4294967281 := by
 have h : (arityList.all fun p => decide ((Ec p).length < 4294967281)) = true := by kernel_rfl
 exact of_decide_eq_true (List.all_eq_true.1 h p hp)
theorem o8 (nm : Str) (Hp : List AObj) : AFun Tryz.prog 121 [A8 nm] Hp (A3 (Av nm)) := by
 refine ACall.body [.tmp 2] [0] Tryz.func121 Tryz.ntmps121 (fun d => ?_)
 refine Z49 ?_;refine Z18 ?_;refine R.call Tryz.call34 (T9 ▸ c34 Ns [32] (by decide) (by decide) _) ?_;refine Z35 ?_;refine R.fin [0, 8, 9, 10] ?_
 refine AW.loopC (α := Nat) (fun x => ⟨28, A2 0 (A8 nm) (A2 8 (C2 (arityList.map Ec)) (A2 9 (A3 8) (A2 10 (A3 (x : Nat)) (fun _ => .any)))), Hp, [], [], none⟩) (fun x => x ≤ 8 ∧ ∀ (j : Nat) (y : Str × UInt8), j < x → arityList[j]? = some y → (y.1 == nm) = false) (fun x => 8 - x) (0) (by simp) (StLe.refl _) rfl (fun x hx => ?_)
 refine Z44 ?_;refine R.fin [0, 8, 9, 10, 11] ?_
 refine W.condX (fun ht11 => ?_) (fun ht11 => ?_)
 ·have hlt : x < arityList.length := by rw [Jy]; simp at ht11; omega
  have hal := Jy
  have hget : ((arityList.map Ec).map A8)[x]? = some (A8 (Ec arityList[x])) := by rw [List.map_map]; exact Ae hlt
  refine Z65 ?_;refine R.indexAddr (x) (A8 (Ec arityList[x])) jU jS hget ?_;refine Yb ?_;refine R.fin [0, 4, 8, 9, 10] ?_;refine Z1 ?_;refine R.call Tryz.call144 ((Zb (List.getElem_mem hlt)) ▸ nw (Ec arityList[x]) [58] (Wn (List.getElem_mem hlt)) _) ?_;refine Z60 ?_;refine R.extract ?_;refine Z7 ?_;refine B6 ?_;refine R.fin [0, 5, 6, 8, 9, 10] ?_;refine Z31 ?_;refine R.seql ?_;refine R.fin [0, 6, 8, 9, 10, 22] ?_
  refine W.cond (fun ht22 => ?_) (fun ht22 => ?_)
  ·refine Z1 ?_;refine R.sindex 0 arityList[x].2 jU rfl  ?_;refine R.sub ?_;refine R.iconv jU jU ?_;refine Ys ?_;refine Z27 ?_;exact K.fin (V.one V.tmp) ⟨by rw [Av, Un hlt ht22 hx.2]; rfl, rfl⟩
  refine Hx ?_;refine R.fin [0, 8, 9, 10] ?_;exact K.lpN (x + 1) ⟨by omega, An hlt hx.2 ht22⟩ (by omega) (StCut.of_eq rfl)
 have hal := Jy
 refine Z29 ?_;refine Z64 ?_;exact K.fin (V.one V.tmp) ⟨by rw [Av, Nt (Fm (by simp at ht11; omega) hx.2)], rfl⟩

theorem o9 (n : Int) (h0 : -9223372036854775808 ≤ n) (h1 : n ≤ 9223372036854775807) (Hp : List AObj) : AFun Tryz.prog 123 [A3 n] Hp (A8 (Lib.itoa n)) := by
 refine ACall.body [.tmp 2] [0] Tryz.func123 Tryz.ntmps123 (fun d => ?_)
 refine Nf ?_;refine R.call Tryz.call145 (o0 n h0 h1 _) ?_;refine B6 ?_;exact Z90

theorem Ta {p s : Str} (h : p.isPrefixOf s = true) : p.length ≤ s.length := (List.isPrefixOf_iff_prefix.1 h).length_le
theorem Tb (s o : Str) (h : 0 ≤ Lib.index s o) : (Lib.index s o).toNat + o.length ≤ s.length := by
 induction s with
 | nil =>
  unfold Lib.index at h ⊢
  split at h
  ·rename_i he
   rw [if_pos he]
   cases o with
   | nil => simp
   | cons a b => simp at he
  omega
 | cons b l ih =>
  unfold Lib.index at h ⊢
  split at h
  ·rename_i hp
   rw [if_pos hp]
   have := Ta hp
   simpa using this
  rename_i hp
  rw [if_neg hp]
  split at h
  ·omega
  rename_i hi
  rw [if_neg hi]
  have hg := Lib.index_ge l o
  have hi' : Lib.index l o ≠ -1 := by simpa using hi
  have := ih (by omega)
  simp only [List.length_cons]
  omega
def Uo : Val := ⟨0, 0, []⟩
def R3 (b : Bool) : Val := ⟨3, if b then 1 else 0, []⟩
def dq (n : Int) : Prop := -9223372036854775808 ≤ n ∧ n ≤ 9223372036854775807
def Ds (v : Val) : Str :=
 if !Cp v then [] else if v.kind == 1 then Lib.itoa v.n else if v.kind == 2 then [39] ++ Lib.replaceAll v.s [39] [39, 39] ++ [39]
 else if v.kind == 0 then [110, 117, 108, 108] else if v.n == 1 then [116, 114, 117, 101] else [102, 97, 108, 115, 101]
theorem Wo {v : Val} (h : Cp v = true) (h2 : (v.kind == 2) = true) : v.s.length ≤ 200 := by
 have e : v.kind = 2 := by simpa using h2
 unfold Cp at h
 rw [e] at h
 simp at h
 omega
theorem Zc (s o : Str) (ho : 1 ≤ o.length) : Lib.countB ⟨s.toArray⟩ ⟨o.toArray⟩ ≤ s.length := Lib.countB_le ⟨o.toArray⟩ (by simpa [ByteArray.size] using ho) s.length ⟨s.toArray⟩ (by simp [ByteArray.size])
theorem Kj (o n : Str) (B : Nat) (hn : n.length ≤ B * o.length) (hB : 1 ≤ B) : ∀ (k : Nat) (s : Str), (Lib.replaceK o n k s).length ≤ B * s.length
 | 0, s => by rw [Lib.replaceK]; exact Nat.le_mul_of_pos_left _ hB
 | k + 1, s => by
  rw [Lib.replaceK]
  split
  ·exact Nat.le_mul_of_pos_left _ hB
  rename_i h
  have ih := Kj o n B hn hB k (s.drop ((Lib.index s o).toNat + o.length))
  have hx : (Lib.index s o).toNat + o.length ≤ s.length := by
   have hg := Lib.index_ge s o
   have hi : Lib.index s o ≠ -1 := by simpa using h
   exact Tb s o (by omega)
  simp only [List.length_append, List.length_drop, List.length_take] at ih ⊢
  have h1 : min (Lib.index s o).toNat s.length ≤ B * (Lib.index s o).toNat := Nat.le_trans (Nat.min_le_left _ _) (Nat.le_mul_of_pos_left _ hB)
  have h2 : B * s.length = B * (Lib.index s o).toNat + B * o.length + B * (s.length - ((Lib.index s o).toNat + o.length)) := by
   rw [← Nat.mul_add, ← Nat.mul_add]; congr 1; omega
  omega
theorem Ni (s o n : Str) (B : Nat) (hn : n.length ≤ B * o.length) (hB : 1 ≤ B) : (Lib.replaceAll s o n).length ≤ B * s.length := by
 unfold Lib.replaceAll Lib.replace
 split
 ·exact Nat.le_mul_of_pos_left _ hB
 exact Kj o n B hn hB _ s
theorem c92 (v : Val) (hn : dq v.n) (Hp : List AObj) : AFun Tryz.prog 92 [dj v] Hp (A8 (Ds v)) := by
 refine ACall.body [.tmp 2] [0] Tryz.func92 Tryz.ntmps92 (fun d => ?_)
 refine Z97 ?_;refine Z65 ?_;refine E0 ?_;refine R.call Tryz.call118 (mh v _) ?_;refine W6 ?_;refine R.fin [1, 3] ?_
 refine W.cond (fun ht3 => ?_) (fun ht3 => ?_)
 ·refine Z78 ?_;exact K.fin (V.one V.tmp) ⟨by simp only [Ds, ht3, if_true], rfl⟩
 have hp : Cp v = true := by simpa using ht3
 refine Lo ?_;refine Z21 ?_;refine R.fin [1, 7] ?_
 refine W.cond (fun ht7 => ?_) (fun ht7 => ?_)
 ·refine B2 ?_;refine R.fieldAddrRo (off := 1) jU Tryz.sizeOf2 ?_;refine Dr ?_;refine R.call Tryz.call123 (o9 v.n hn.1 hn.2 _) ?_;refine Ys ?_;exact K.fin (V.one V.tmp) ⟨by simp only [Ds, hp, ht7, Bool.not_true, Bool.false_eq_true, if_false, if_true]; try rfl, rfl⟩
 refine Lo ?_;refine Z21 ?_;refine R.fin [1, 14] ?_
 refine W.cond (fun ht14 => ?_) (fun ht14 => ?_)
 ·refine B2 ?_;refine R.fieldAddrRo (off := 2) jU Tryz.sizeOf9 ?_;refine Dr ?_
  have hl := Wo hp ht14
  have hrl := Ni v.s [39] [39, 39] 2 (by decide) (by decide)
  refine R.call Tryz.call124 (nz v.s [39] [39, 39] (by omega) (by decide) (by have := Zc v.s [39] (by decide); simp; omega) _) ?_
  refine R.sadd ?_;refine R.sadd ?_;refine Ys ?_;exact K.fin (V.one V.tmp) ⟨by simp only [Ds, hp, ht7, ht14, Bool.not_true, Bool.false_eq_true, if_false, if_true]; try rfl, rfl⟩
 refine Lo ?_;refine Z21 ?_;refine R.fin [1, 23] ?_
 refine W.cond (fun ht23 => ?_) (fun ht23 => ?_)
 ·refine Z78 ?_;exact K.fin (V.one V.tmp) ⟨by simp only [Ds, hp, ht7, ht14, ht23, Bool.not_true, Bool.false_eq_true, if_false, if_true]; try rfl, rfl⟩
 refine B2 ?_;refine R.fieldAddrRo (off := 1) jU Tryz.sizeOf2 ?_;refine Dr ?_;refine Z21 ?_;refine R.fin [27] ?_
 refine W.cond (fun ht27 => ?_) (fun ht27 => ?_)
 ·refine Z78 ?_;exact m7
 refine Qv ?_;exact m7

def j4 (s : Str) : Str := Lib.replaceAll ((s.take (s.length - 1)).drop 1) [39, 39] [39]
def fu (s : Str) : Val := ⟨2, 0, (j4 s).take 200⟩
def mj (s : Str) : Val × Int := if !(Ds (fu s) == s) then (Uo, 7) else (fu s, 0)
def ml (s : Str) : Bool := (decide ((1 : Int) < s.length) && Lib.hasPrefix s [39]) && Lib.hasSuffix s [39]
def mm (s : Str) : Val × Int :=
 if s == [110, 117, 108, 108] then (Uo, 0) else if (s == [116, 114, 117, 101]) || (s == [102, 97, 108, 115, 101]) then (R3 (s == [116, 114, 117, 101]), 0)
 else if ml s then mj s else if (Lt s).2 == 0 then (⟨1, (Lt s).1, []⟩, 0) else if (Lt s).2 == 4 then (Uo, 4) else (Uo, 7)
theorem dr {s : Str} {n : Nat} (h : n < s.length) : s[n]? = some (s.getD n 0) := by
 rw [List.getD_eq_getElem?_getD, List.getElem?_eq_getElem h]; rfl
structure Tok where
 kind : Int
 text : Str
 at_ : Nat
 deriving DecidableEq
inductive Expr where
 | mk (op : Int) (text : Str) (val : Val) (kids : List Expr)
def Expr.op : Expr → Int | .mk o _ _ _ => o
def Expr.text : Expr → Str | .mk _ t _ _ => t
def Expr.val : Expr → Val | .mk _ _ v _ => v
def Expr.kids : Expr → List Expr | .mk _ _ _ k => k
mutual
def A6 : Expr → AV
 | .mk o t v k => .agg [.v (.int .i64 o), .v (sv t), .v (.int .i64 v.kind), .v (.int .i64 v.n), .v (sv v.s), .slice false 6 (Jz k)]
def Jz : List Expr → List AV
  | [] => []
  | e :: r => A6 e :: Jz r
 end
theorem Lv : ∀ l, Jz l = l.map A6
 | [] => rfl
 | e :: r => by rw [Jz, Lv r]; rfl
theorem Bv (e : Expr) : A6 e = .agg [.v (.int .i64 e.op), .v (sv e.text), .v (.int .i64 e.val.kind), .v (.int .i64 e.val.n), .v (sv e.val.s), .slice false 6 (e.kids.map A6)] := by
 cases e with
 | mk o t v k => rw [A6, Lv]; rfl
attribute [go_sem] Bv
def Hr : Str := [32, 111, 114, 32, 32, 97, 110, 100, 32, 32, 61, 32, 33, 61, 32, 60, 32, 60, 61, 32, 62, 32, 62, 61, 32, 32, 43, 32, 45, 32, 38, 32, 32, 42, 32, 47, 32, 37, 32]
def Fp (v : Val) : Bool := v.kind == 0 && v.n == 0 && v.s == []
def C3 (e : Expr) : Bool :=
 if e.op == 1 then ((Cp e.val && decide (0 ≤ e.val.n)) && (e.text == [])) && ((e.kids.length : Int) == 0)
 else if e.op == 2 then (Fp e.val && Be e.text) && ((e.kids.length : Int) == 0)
 else if e.op == 3 || e.op == 4 then (Fp e.val && (e.text == [])) && ((e.kids.length : Int) == 1)
 else if e.op == 5 then (Fp e.val && Hq e.text Hr) && ((e.kids.length : Int) == 2)
 else if e.op == 6 then Fp e.val && (Av e.text == (e.kids.length : Int))
 else false
theorem c90 (e : Expr) (hs : e.text.length ≤ 1048576) (Hp : List AObj) : AFun Tryz.prog 90 [A6 e] Hp (Af (C3 e)) := by
 refine ACall.body [.tmp 2] [0] Tryz.func90 Tryz.ntmps90 (fun d => ?_)
 refine Z97 ?_;refine Y4 ?_;refine lj ?_;refine R.eqlAgg Yx (Ja e.val.kind e.val.n 0 0 e.val.s []) ?_;refine B6 ?_;refine R.fin [1, 3] ?_;refine Pf ?_;refine R.fin [1, 3, 9] ?_;refine N9 ?_;refine R.fin [1, 3, 9, 10] ?_
 refine W.cond (fun ht10 => ?_) (fun ht10 => ?_)
 ·refine Y4 ?_;refine E0 ?_;refine R.call Tryz.call118 (mh e.val _) ?_;refine Ap ?_;refine lr ?_;refine Ii ?_;refine G.geq ?_;refine Z93 ?_;refine Lp ?_;exact Y9
 refine Z39 ?_;refine R.fin [1, 3, 9, 32] ?_
 refine W.cond (fun ht32 => ?_) (fun ht32 => ?_)
 ·refine Z31 ?_;refine Z26 ?_;refine G.call Tryz.call119 (fun hB => dp e.text hs _) ?_;exact Y9
 refine Z18 ?_;refine Z21 ?_;refine R.fin [1, 3, 9, 46] ?_
 refine W.cond (fun ht46 => ?_) (fun ht46 => ?_)
 ·refine Z5 ?_
  refine W.cond (fun ht46 => ?_) (fun ht46 => ?_)
  ·refine Z31 ?_;refine Lp ?_;exact Y9
  refine Z39 ?_;refine R.fin [1, 3, 9, 61] ?_
  refine W.cond (fun ht61 => ?_) (fun ht61 => ?_)
  ·refine Z31 ?_;refine Z26 ?_;exact kr
  refine Z39 ?_;refine R.fin [1, 3, 75] ?_
  refine W.cond (fun ht75 => ?_) (fun ht75 => ?_)
  ·refine ll ?_;refine H.fieldAddrRo (off := 1) jU Tryz.sizeOf9 ?_;refine I0 ?_;refine lb ?_;refine I0 ?_;refine H.len jU ?_;refine D.tail ?_;exact gu
  exact l4
 refine Gq ?_;refine Z21 ?_;refine R.fin [1, 3, 9, 46] ?_;refine K.thN ?_
 refine W.cond (fun ht46 => ?_) (fun ht46 => ?_)
 ·refine Z31 ?_;refine Lp ?_;exact Y9
 refine Z39 ?_;refine R.fin [1, 3, 9, 61] ?_
 refine W.cond (fun ht61 => ?_) (fun ht61 => ?_)
 ·refine Z31 ?_;refine Z26 ?_;exact kr
 refine Z39 ?_;refine R.fin [1, 3, 75] ?_
 refine W.cond (fun ht75 => ?_) (fun ht75 => ?_)
 ·refine ll ?_;refine H.fieldAddrRo (off := 1) jU Tryz.sizeOf9 ?_;refine I0 ?_;refine lb ?_;refine I0 ?_;refine H.len jU ?_;refine D.tail ?_;exact gu
 exact l4

mutual
def Aw (d : Int) : Expr → List (Int × Expr)
 | .mk o t v k => (d, .mk o t v k) :: Ak (d + 1) k
def Ak (d : Int) : List Expr → List (Int × Expr)
  | [] => []
  | e :: r => Aw d e ++ Ak d r
 end
theorem E5 (d : Int) (e : Expr) : Aw d e = (d, e) :: Ak (d + 1) e.kids := by cases e; rfl
theorem Ff (d : Int) : ∀ a b, Ak d (a ++ b) = Ak d a ++ Ak d b
 | [], b => rfl
 | e :: r, b => by rw [List.cons_append, Ak, Ak, Ff d r b, List.append_assoc]
theorem R4 (d : Int) (l : List Expr) {x : Nat} (h : x < l.length) : Ak d (l.take (x + 1)) = Ak d (l.take x) ++ Aw d l[x] := by
 rw [List.take_succ_eq_append_getElem h, Ff]
 simp [Ak]
theorem Jc (d : Int) (l : List Expr) {x : Nat} (h : x < l.length) : Ak d l = Ak d (l.take x) ++ (Aw d l[x] ++ Ak d (l.drop (x + 1))) := by
 have e : l = l.take x ++ (l[x] :: l.drop (x + 1)) := by rw [← List.drop_eq_getElem_cons h, List.take_append_drop]
 conv => lhs; rw [e]
 rw [Ff, Ak]
mutual
def sizeE : Expr → Nat
 | .mk _ _ _ k => 1 + Bo k
def Bo : List Expr → Nat
  | [] => 0
  | e :: r => sizeE e + Bo r
 end
theorem Ez (e : Expr) : sizeE e = 1 + Bo e.kids := by cases e; rfl
theorem Nu : ∀ (l : List Expr) {x : Nat} (h : x < l.length), sizeE l[x] ≤ Bo l
 | e :: r, 0, _ => by simp only [List.getElem_cons_zero, Bo]; omega
 | e :: r, x + 1, h => by
  have := Nu r (x := x) (by simpa using h)
  simp only [List.getElem_cons_succ, Bo]
  omega
theorem R5 (e : Expr) {x : Nat} (h : x < e.kids.length) : sizeE e.kids[x] + 1 ≤ sizeE e := by
 have := Nu e.kids h
 rw [Ez e]
 omega
/-- Each node has few kids. -/
def okE : Nat → Expr → Prop
 | 0, _ => False
 | n + 1, e => e.text.length ≤ 1048576 ∧ e.kids.length ≤ 1048576 ∧ ∀ y ∈ e.kids, okE n y
/-- Who takes what a tree yields: item k is taken at U k; it goes on (go k) to U (k + 1), or ends at F k. Behind U k there may stand others' objects. -/
structure Takes (P : Program) (l : Nat) (L : List (Int × Expr)) (go : Nat → Bool) (U F : Nat → List AObj) (n0 : Nat) : Prop where
 lenU : ∀ k, (U k).length = n0
 lenF : ∀ k, (F k).length = n0
 lowU : ∀ k, ∀ x ∈ U k, ObjLow n0 x
 lowF : ∀ k, ∀ x ∈ F k, ObjLow n0 x
 lt : l < n0
 y : ∀ (X : List AObj) (k : Nat) (it : Int × Expr), L[k]? = some it → (∀ j, j < k → go j = true) → AYield P l [A3 it.1, A6 it.2] (U k ++ X) (fun b H' => b = go k ∧ H' = (if go k then U (k + 1) else F k) ++ X)
theorem ObjLow.le {m m' : Nat} (h : m ≤ m') {x : AObj} (hx : ObjLow m x) : ObjLow m' x := by
 cases x with
 | cells t cs => exact fun y hy => (hx y hy).mono h
 | loop s pd fr sz ps as' bd df => exact ⟨fun s => (hx.1 s).mono h, Nat.lt_of_lt_of_le hx.2 h⟩
 | defs => trivial
 | dead => trivial
 | bld _ _ _ => trivial
 | gone => trivial
/-- What the walk over n items from k0 on comes to. -/
def R6 (go : Nat → Bool) (U F : Nat → List AObj) (k0 n : Nat) (X : List AObj) : AV → List AObj → Prop := fun r H' =>
 ((∀ j, j < n → go (k0 + j) = true) ∧ r = Af true ∧ H' = U (k0 + n) ++ X) ∨ (∃ j, j < n ∧ (∀ i, i < j → go (k0 + i) = true) ∧ go (k0 + j) = false ∧ r = Af false ∧ H' = F (k0 + j) ++ X)
mutual
theorem As (m : Nat) : ∀ e, Low m (A6 e)
 | .mk o t v k => by
  rw [A6]
  refine .agg _ fun y hy => ?_
  simp only [List.mem_cons, List.mem_nil_iff, or_false] at hy
  rcases hy with rfl | rfl | rfl | rfl | rfl | rfl
  ·exact .v _
  ·exact .v _
  ·exact .v _
  ·exact .v _
  ·exact .v _
  exact low_slice.2 (Lw m k)
theorem Lw (m : Nat) : ∀ l, ∀ y ∈ Jz l, Low m y
  | [], y, hy => by cases hy
  | e :: r, y, hy => by
    rw [Jz] at hy
    rcases List.mem_cons.1 hy with rfl | h
    · exact As m e
    exact Lw m r y h
 end
theorem Jd {V O A B own : List AObj} (h : V ++ O = A ++ (B ++ own)) (hl : V.length = (A ++ B).length) : V = A ++ B ∧ O = own := by
 rw [← List.append_assoc] at h
 exact List.append_inj h hl
theorem Fd {m : Nat} {A X : List AObj} (hA : ∀ x ∈ A, ObjLow m x) (hX : ∀ x ∈ X, ObjLow m x) : ∀ x ∈ A ++ X, ObjLow m x := fun x hx => by
 rcases List.mem_append.1 hx with h | h
 ·exact hA x h
 exact hX x h
theorem Tc {P : Program} {l : Nat} {L : List (Int × Expr)} {go : Nat → Bool} {U F : Nat → List AObj} {n0 k n K : Nat} {X own V O : List AObj} {r : AV} (T : Takes P l L go U F n0) (hV : V.length = (U K ++ X).length) (hp : R6 go U F k n (X ++ own) r (V ++ O)) :
  ∃ b, r = Af b ∧ O = own ∧ (if b then (∀ j, j < n → go (k + j) = true) ∧ V = U (k + n) ++ X else ∃ j, j < n ∧ (∀ i, i < j → go (k + i) = true) ∧ go (k + j) = false ∧ V = F (k + j) ++ X) ∧ ((∀ x ∈ U K ++ X, ObjLow V.length x) → ∀ x ∈ V, ObjLow V.length x) := by
 have hn : n0 ≤ V.length := by rw [hV, List.length_append, T.lenU]; omega
 rcases hp with ⟨h1, h2, h3⟩ | ⟨j, hj, h1, h2, h3, h4⟩
 ·obtain ⟨e1, e2⟩ := Jd h3 (by rw [hV]; simp [T.lenU])
  refine ⟨true, h2, e2, ⟨h1, e1⟩, fun h => ?_⟩
  rw [e1] at h ⊢
  exact Fd (fun x hx => ObjLow.le (by rw [List.length_append, T.lenU]; omega) (T.lowU _ x hx)) (fun x hx => h x (List.mem_append_right _ hx))
 obtain ⟨e1, e2⟩ := Jd h4 (by rw [hV]; simp [T.lenU, T.lenF])
 refine ⟨false, h3, e2, ⟨j, hj, h1, h2, e1⟩, fun h => ?_⟩
 rw [e1] at h ⊢
 exact Fd (fun x hx => ObjLow.le (by rw [List.length_append, T.lenF]; omega) (T.lowF _ x hx)) (fun x hx => h x (List.mem_append_right _ hx))
theorem R7 (d : Int) (l : List Expr) {x : Nat} (h : x < l.length) : (Ak d (l.take (x + 1))).length = (Ak d (l.take x)).length + (Aw d l[x]).length := by rw [R4 d l h, List.length_append]
theorem Zd {d0 : Int} {e : Expr} {x : Nat} (h : x < e.kids.length) {j : Nat} {it : Int × Expr} (hj : (Aw (d0 + 1) e.kids[x])[j]? = some it) : (Aw d0 e)[1 + (Ak (d0 + 1) (e.kids.take x)).length + j]? = some it := by
 rw [E5 d0 e, show 1 + (Ak (d0 + 1) (e.kids.take x)).length + j = ((Ak (d0 + 1) (e.kids.take x)).length + j) + 1 by omega, List.getElem?_cons_succ, Jc (d0 + 1) e.kids h, List.getElem?_append_right (by omega)]
 rw [show (Ak (d0 + 1) (e.kids.take x)).length + j - (Ak (d0 + 1) (e.kids.take x)).length = j by omega, List.getElem?_append_left (List.getElem?_eq_some_iff.1 hj).1]
 exact hj
theorem Wp (d0 : Int) (e : Expr) {x : Nat} (h : x < e.kids.length) : 1 + (Ak (d0 + 1) (e.kids.take x)).length + (Aw (d0 + 1) e.kids[x]).length ≤ (Aw d0 e).length := by
 rw [E5 d0 e, List.length_cons, Jc (d0 + 1) e.kids h]
 simp only [List.length_append]
 omega
theorem oa {l : Nat} {L : List (Int × Expr)} {go : Nat → Bool} {U F : Nat → List AObj} {n0 : Nat} (T : Takes Tryz.prog l L go U F n0) : ∀ (n : Nat) (e : Expr), okE n e → ∀ (d0 : Int) (k0 : Nat) (X : List AObj), 0 ≤ d0 → d0 + n ≤ 1099511627776 → (∀ (j : Nat) (it : Int × Expr), (Aw d0 e)[j]? = some it → L[k0 + j]? = some it) → (∀ j, j < k0 → go j = true) → ACall Tryz.prog 117 [A6 e, A3 d0, .yield l] (U k0 ++ X) (R6 go U F k0 (Aw d0 e).length X) := by
 intro n
 induction n with
 | zero => exact fun e h => h.elim
 | succ n ih =>
 intro e hok d0 k0 X hd hdn hit hgo
 have hlen0 : (U k0 ++ X).length = n0 + X.length := by rw [List.length_append, T.lenU]
 refine ACall.body [.tmp 6] [0, 1, 2] Tryz.func117 Tryz.ntmps117 (fun d => ?_)
 refine Z55 ?_;refine R.fin [1, 2, 3] ?_;refine Z67 ?_;refine E0 ?_
 refine R.yield0 (T.y X k0 (d0, e) (hit 0 _ (by rw [E5]; rfl)) hgo) ?_
 intro b Vv hV hb
 refine R.not ?_;refine R.fin [1, 2, 3, 13] ?_
 refine W.cond (fun ht13 => ?_) (fun ht13 => ?_)
 ·have hb' : b = false := by simpa using ht13
  subst hb'
  refine Ph ?_;refine K.thR ?_;exact K.fin (V.one V.tmp) (Or.inr ⟨0, by rw [E5]; simp, fun i hi => by omega, hb.1.symm, rfl, by have := hb.2; rw [show go k0 = false from hb.1.symm] at this; exact this⟩)
 have hb' : b = true := by simpa using ht13
 subst hb'
 have hgo0 : go (k0 + 0) = true := hb.1.symm
 have hVe : Vv = U (k0 + 1) ++ X := by have := hb.2; rw [show go k0 = true from hb.1.symm] at this; exact this
 subst hVe
 have h0x : 0 ≤ e.kids.length ∧ ∀ j, j < 1 + (Ak (d0 + 1) (e.kids.take 0)).length → go (k0 + j) = true := ⟨Nat.zero_le _, fun j hj => by
  have : j = 0 := by simp [Ak] at hj; omega
  subst this
  exact hgo0⟩
 refine Z5 ?_;refine Z18 ?_;refine Z24 ?_;refine Z35 ?_;refine R.fin [1, 2, 15, 16, 17] ?_
 refine AW.loopC (α := Nat) (fun x => ⟨28, A2 1 (A3 d0) (A2 2 (.yield l) (A2 15 (.slice false 6 (e.kids.map A6)) (A2 16 (A3 e.kids.length) (A2 17 (A3 (x : Nat)) (fun _ => .any))))), U (k0 + (1 + (Ak (d0 + 1) (e.kids.take x)).length)) ++ X, [], [], none⟩) (fun x => x ≤ e.kids.length ∧ ∀ j, j < 1 + (Ak (d0 + 1) (e.kids.take x)).length → go (k0 + j) = true) (fun x => e.kids.length - x) (0) h0x (StLe.of_eq (by simp [Ak])) rfl (fun x hx => ?_)
 refine Z44 ?_;refine R.fin [1, 2, 15, 16, 17, 18] ?_
 refine W.condX (fun ht18 => ?_) (fun ht18 => ?_)
 ·have hlt : x < e.kids.length := by simpa using ht18
  have hkl := hok.2.1
  refine Z65 ?_;refine Z69 ?_;refine Z42 ?_;refine R.fin [1, 2, 8, 15, 16, 17] ?_;refine Pe ?_;refine Ap ?_;refine R.add64 ?_;refine Ap ?_
  refine R.callG Tryz.call117 (args := [A6 e.kids[x], A3 (d0 + 1), .yield l]) (by rw [List.append_assoc]; exact ih e.kids[x] (hok.2.2 _ (List.getElem_mem hlt)) (d0 + 1) (k0 + (1 + (Ak (d0 + 1) (e.kids.take x)).length)) (X ++ _) (by omega) (by omega) (fun j it hj => by have := hit _ it (Zd hlt hj); rwa [← Nat.add_assoc] at this) (fun j hj => by rcases Nat.lt_or_ge j k0 with h | h; exact hgo j h; have := hx.2 (j - k0) (by omega); rwa [show k0 + (j - k0) = j by omega] at this)) ?_
  intro r Vv O hV hp
  obtain ⟨b, rfl, rfl, hc, hlowV⟩ := Tc T hV hp
  refine ⟨hlowV, fun o ho => by simp at ho, ?_⟩
  refine R.not ?_;refine R.fin [1, 2, 15, 16, 17, 26] ?_
  refine W.cond (fun ht26 => ?_) (fun ht26 => ?_)
  ·have hb' : b = false := by simpa using ht26
   subst hb'
   obtain ⟨j, hj, h1, h2, h3⟩ := hc
   refine Ph ?_;refine Z59 ?_
   have hil := Wp d0 e hlt
   refine K.fin (V.one V.tmp) (Or.inr ⟨1 + (Ak (d0 + 1) (e.kids.take x)).length + j, by omega, fun i hi => ?_, by rwa [Nat.add_assoc] at h2, rfl, by rwa [Nat.add_assoc] at h3⟩)
   rcases Nat.lt_or_ge i (1 + (Ak (d0 + 1) (e.kids.take x)).length) with h | h
   ·exact hx.2 i h
   have := h1 (i - (1 + (Ak (d0 + 1) (e.kids.take x)).length)) (by omega)
   rwa [show k0 + (1 + (Ak (d0 + 1) (e.kids.take x)).length) + (i - (1 + (Ak (d0 + 1) (e.kids.take x)).length)) = k0 + i by omega] at this
  have hb' : b = true := by simpa using ht26
  subst hb'
  obtain ⟨h1, h3⟩ := hc
  refine Hx ?_;refine R.fin [1, 2, 15, 16, 17] ?_
  subst h3
  have hll := R7 (d0 + 1) e.kids hlt
  have e1 : k0 + (1 + (Ak (d0 + 1) (e.kids.take (x + 1))).length) = k0 + (1 + (Ak (d0 + 1) (e.kids.take x)).length) + (Aw (d0 + 1) e.kids[x]).length := by omega
  refine K.lpN (x + 1) ⟨hlt, fun j hj => ?_⟩ (by omega) ?_
  ·rcases Nat.lt_or_ge j (1 + (Ak (d0 + 1) (e.kids.take x)).length) with h | h
   ·exact hx.2 j h
   have := h1 (j - (1 + (Ak (d0 + 1) (e.kids.take x)).length)) (by omega)
   rwa [show k0 + (1 + (Ak (d0 + 1) (e.kids.take x)).length) + (j - (1 + (Ak (d0 + 1) (e.kids.take x)).length)) = k0 + j by omega] at this
  simp only [e1]
  exact StCut.take (own := []) (fun _ => .refl _) (by repeat (first | exact Aj | refine Ai (by first | (simp [As]; done) | (have := T.lt; simp [T.lenU]; omega)) ?_)) (by simp) (by simp)
 have hxe : e.kids.take x = e.kids := List.take_of_length_le (by simp at ht18; omega)
 refine Z29 ?_;refine Ph ?_
 have hl2 : (Aw d0 e).length = 1 + (Ak (d0 + 1) (e.kids.take x)).length := by rw [E5, hxe, List.length_cons]; omega
 exact K.fin (V.one V.tmp) (Or.inl ⟨fun j hj => hx.2 j (by omega), rfl, by rw [hl2]⟩)

abbrev Dn (e : Expr) : List AV := [.v (.int .i64 e.op), .v (sv e.text), .v (.int .i64 e.val.kind), .v (.int .i64 e.val.n), .v (sv e.val.s), .slice false 6 (e.kids.map A6)]
/-- What taking all of a tree comes to. -/
def Lx (go : Nat → Bool) (U F : Nat → List AObj) (n : Nat) (H' : List AObj) : Prop :=
 ((∀ j, j < n → go j = true) ∧ H' = U n) ∨ (∃ j, j < n ∧ (∀ i, i < j → go i = true) ∧ go j = false ∧ H' = F j)
theorem ob {l : Nat} {e : Expr} {go : Nat → Bool} {U F : Nat → List AObj} {n0 : Nat} (T : Takes Tryz.prog l (Aw 1 e) go U F n0) (n : Nat) (hok : okE n e) (hn : n ≤ 1048576) : ACall Tryz.prog 116 [.yield l, .ro (Dn e)] (U 0) (fun r H' => Lx go U F (Aw 1 e).length H') := by
 refine ACall.body [] [0, 1] Tryz.func116 Tryz.ntmps116 (fun d => ?_)
 refine Gq ?_;refine E0 ?_;refine Ap ?_;refine R.callG Tryz.call117 (args := [A6 e, A3 1, .yield l]) (oa T n e hok 1 0 [] (by omega) (by omega) (fun j it hj => by rwa [Nat.zero_add]) (fun j hj => by omega)) ?_
 intro r Vv O hV hp
 have hO : O = [] := by
  have h1 : (Vv ++ O).length = n0 := by rcases hp with ⟨_, _, h⟩ | ⟨j, _, _, _, _, h⟩ <;> rw [h] <;> simp [T.lenU, T.lenF]
  have h2 := T.lenU 0
  rw [List.length_append, hV, h2] at h1
  exact List.eq_nil_of_length_eq_zero (by omega)
 subst hO
 rw [List.append_nil] at hp
 have hq : Lx go U F (Aw 1 e).length Vv := by
  rcases hp with ⟨h1, _, h⟩ | ⟨j, h1, h2, h3, _, h⟩
  ·exact .inl ⟨fun j hj => by have := h1 j hj; rwa [Nat.zero_add] at this, by rw [h]; simp⟩
  exact .inr ⟨j, h1, fun i hi => by have := h2 i hi; rwa [Nat.zero_add] at this, by rwa [Nat.zero_add] at h3, by rw [h]; simp⟩
 refine ⟨fun h => ?_, fun o ho => by simp at ho, ?_⟩
 ·rcases hq with ⟨_, h⟩ | ⟨j, _, _, _, h⟩ <;> rw [h]
  ·rw [T.lenU]; exact T.lowU _
  rw [T.lenF]; exact T.lowF _
 refine R.fin [] ?_;exact K.finN .nores (hp := hq)

theorem c89 (e : Expr) (Hp : List AObj) : AFun Tryz.prog 89 [A6 e] Hp (.fn (.func 116) [] [.ro (Dn e)]) := by
 refine ACall.body [.tmp 2] [0] Tryz.func89 Tryz.ntmps89 (fun d => ?_)
 refine Z97 ?_;refine B2 ?_;refine Yf ?_;refine Z2 ?_;exact K.fin (V.one V.tmp) (hlow := by have := As Hp.length e; rw [Bv] at this; simpa using this)

def goM (e : Expr) (k : Nat) : Bool := match (Aw 1 e)[k]? with
 | some it => !((!C3 it.2 || decide ((30 : Int) < it.1)) || decide ((300 : Int) < (k : Int) + 1))
 | none => true
def Ab (e : Expr) : Bool := (List.range (Aw 1 e).length).all (goM e)
mutual
theorem Nv : ∀ (n : Nat) (e : Expr), okE n e → ∀ d, ∀ it ∈ Aw d e, it.2.text.length ≤ 1048576
 | 0, _, h, _, _, _ => h.elim
 | n + 1, e, h, d, it, hit => by
  rw [E5] at hit
  rcases List.mem_cons.1 hit with rfl | h'
  ·exact h.1
  exact Nw n e.kids h.2.2 (d + 1) it h'
 termination_by n e => (n, 0)
theorem Nw : ∀ (n : Nat) (l : List Expr), (∀ y ∈ l, okE n y) → ∀ d, ∀ it ∈ Ak d l, it.2.text.length ≤ 1048576
  | n, [], _, _, _, h => by cases h
  | n, e :: r, h, d, it, hit => by
    rw [Ak] at hit
    rcases List.mem_append.1 hit with h' | h'
    · exact Nv n e (h e (by simp)) d it h'
    exact Nw n r (fun y hy => h y (by simp [hy])) d it h'
  termination_by n l => (n, l.length + 1)
 end
theorem Td {U : List AObj} {i j : Nat} {x y : AObj} (h : U[i]? = some x) (hne : j ≠ i) : (U.set j y)[i]? = some x := by rw [List.getElem?_set_ne hne]; exact h
theorem j5 {e : Expr} {k : Nat} {it : Int × Expr} (hit : (Aw 1 e)[k]? = some it) (h : ∀ j, j < k → goM e j = true) : (k : Int) ≤ 300 := by
 rcases Nat.eq_zero_or_pos k with h0 | h0
 ·omega
 have hl := (List.getElem?_eq_some_iff.1 hit).1
 have := h (k - 1) (by omega)
 unfold goM at this
 rw [List.getElem?_eq_getElem (by omega)] at this
 simp at this
 omega
theorem Pk {e : Expr} {k : Nat} {it : Int × Expr} (hit : (Aw 1 e)[k]? = some it) : goM e k = !((!C3 it.2 || decide ((30 : Int) < it.1)) || decide ((300 : Int) < (k : Int) + 1)) := by
 unfold goM; rw [hit]
theorem c64 (n : Nat) (e : Expr) (hok : okE n e) (hn : n ≤ 1048576) (Hp : List AObj) : AFun Tryz.prog 64 [A6 e] Hp (Af (Ab e)) := by
 refine ACall.body [.cell 2 4] [0, 4, 5] Tryz.func64 Tryz.ntmps64 (fun d => ?_)
 refine Z28 ?_;refine R.alloc jZ ?_;refine R.fin [1, 2, 4, 5] ?_;refine B2 ?_;refine Z42 ?_;refine R.fin [1, 2, 3, 4, 5] ?_;refine Z18 ?_
 refine R.assumeLow (fun hlow => ?_)
 refine E0 ?_;refine R.call Tryz.call89 (c89 e _) ?_;refine R.fin [2, 3, 4, 5, 7] ?_;refine AW.block ?_
 refine W.rangeV (m := 2) Tryz.call116 (fun FR as' bd' hFR has hbd => ?_)
 have hFRl : ∀ s, Low (Hp.length + 4) (FR s) := by
  intro s
  rw [hFR]
  refine Low.strip ?_
  revert s
  repeat (first | exact Aj | refine Ai (by simp [oid, As] <;> try omega) ?_)
 have hOl : ∀ {k : Nat}, ∀ x ∈ [AObj.cells 4 [Af false], AObj.cells 3 [A3 (k : Nat)], AObj.defs, AObj.loop LoopState.ready none FR 23 #[8, 9] as' bd' (oid Hp.length 2)], ObjLow (Hp.length + 4) x := by
  intro k x hx
  simp only [List.mem_cons, List.mem_nil_iff, or_false] at hx
  rcases hx with rfl | rfl | rfl | rfl
  ·exact bw
  ·exact bw
  ·trivial
  exact ⟨hFRl, by simp [oid]⟩
 have hOf : ∀ {k : Nat}, ∀ x ∈ [AObj.cells 4 [Af false], AObj.cells 3 [A3 ((k : Nat) + 1)], AObj.defs, AObj.loop LoopState.done (some Code.ret) FR 23 #[8, 9] as' bd' (oid Hp.length 2)], ObjLow (Hp.length + 4) x := by
  intro k x hx
  simp only [List.mem_cons, List.mem_nil_iff, or_false] at hx
  rcases hx with rfl | rfl | rfl | rfl
  ·exact bw
  ·exact bw
  ·trivial
  exact ⟨hFRl, by simp [oid]⟩
 refine ⟨fun _ H' => Lx (goM e) (fun k => Hp ++ [AObj.cells 4 [Af false], AObj.cells 3 [A3 (k : Nat)], AObj.defs, AObj.loop LoopState.ready none FR 23 #[8, 9] as' bd' (oid Hp.length 2)]) (fun k => Hp ++ [AObj.cells 4 [Af false], AObj.cells 3 [A3 ((k : Nat) + 1)], AObj.defs, AObj.loop LoopState.done (some Code.ret) FR 23 #[8, 9] as' bd' (oid Hp.length 2)]) (Aw 1 e).length H', ob (l := oid Hp.length 3) (go := goM e) (U := fun k => Hp ++ [AObj.cells 4 [Af false], AObj.cells 3 [A3 (k : Nat)], AObj.defs, AObj.loop LoopState.ready none FR 23 #[8, 9] as' bd' (oid Hp.length 2)]) (F := fun k => Hp ++ [AObj.cells 4 [Af false], AObj.cells 3 [A3 ((k : Nat) + 1)], AObj.defs, AObj.loop LoopState.done (some Code.ret) FR 23 #[8, 9] as' bd' (oid Hp.length 2)]) (n0 := Hp.length + 4) ⟨fun k => by simp, fun k => by simp, fun k x hx => ?_, fun k x hx => ?_, by simp [oid], fun X k it hit hgo => ?_⟩ n hok hn, ?_⟩
 ·exact Fd (fun x hx => ObjLow.le (by omega) (hlow x hx)) hOl x hx
 ·exact Fd (fun x hx => ObjLow.le (by omega) (hlow x hx)) hOf x hx
 ·have hk3 := j5 hit hgo
  generalize hV : (Hp ++ [AObj.cells 4 [Af false], AObj.cells 3 [A3 (k : Nat)], AObj.defs, AObj.loop LoopState.ready none FR 23 #[8, 9] as' bd' (oid Hp.length 2)] ++ X) = V
  have hL : V[oid Hp.length 3]? = some (AObj.loop LoopState.ready none FR 23 #[8, 9] as' bd' (oid Hp.length 2)) := by rw [← hV, List.append_assoc, Bc]; rfl
  have hA0 : V[oid Hp.length 1]? = some (AObj.cells 3 [A3 (k : Nat)]) := by rw [← hV, List.append_assoc, Bc]; rfl
  have hB0 : V[oid Hp.length 0]? = some (AObj.cells 4 [Af false]) := by rw [← hV, List.append_assoc, Bc]; rfl
  refine AYield.ofRound (pd := none) (fr := FR) (sz := 23) (ps := #[8, 9]) (df := oid Hp.length 2) (asg := as') (bd := bd') hL rfl (by decide) (fun d => ?_)
  subst hFR has hbd
  refine W.keep [2, 3, 8, 9] ?_;refine Z0 ?_;refine R.fin [2, 3, 4, 9] ?_;refine Gq ?_;refine Z42 ?_;refine R.fin [2, 3, 4, 5] ?_
  refine ⟨rfl, none, hL, ?_⟩
  generalize hbz : (AObj.loop LoopState.busy _ _ _ _ _ _ _) = bz
  have hA : (V.set (oid Hp.length 3) bz)[oid Hp.length 1]? = some (AObj.cells 3 [A3 (k : Nat)]) := by rw [List.getElem?_set_ne (Cc (by decide))]; exact hA0
  have hB : (V.set (oid Hp.length 3) bz)[oid Hp.length 0]? = some (AObj.cells 4 [Af false]) := by rw [List.getElem?_set_ne (Cc (by decide))]; exact hB0
  refine AW.block ?_;refine B2 ?_;refine R.loadUp jA hA ?_;refine R.add64 ?_
  refine R.storeUp jS hA ?_ ?_
  ·simp
  refine R.fin [2, 3, 4, 5] ?_;refine Pe ?_;refine R.call Tryz.call90 (c90 it.2 (Nv n e hok 1 it (List.mem_of_getElem? hit)) _) ?_;refine Pg ?_;refine Z85 ?_;refine Ap ?_;refine G.loadUp jA (Ao hA) ?_;refine Z85 ?_;refine R.fin [2, 22] ?_
  refine W.cond (fun ht22 => ?_) (fun ht22 => ?_)
  ·have hgf : goM e k = false := by rw [Pk hit, ht22]; rfl
   refine B2 ?_
   refine R.storeUp jS (Td (j := oid Hp.length 1) hB (Cc (by decide))) ?_ ?_
   ·simp
   refine R.fin [] ?_;refine AW.ret ?_;refine K.blR ?_
   subst hbz
   refine K.rdR (Qp hL (Cc (by decide)) (Cc (by decide))) ?_
   refine ⟨hgf.symm, ?_⟩
   rw [if_neg (by rw [hgf]; simp)]
   subst hV
   simp only [List.append_assoc, Eo, List.cons_append, List.nil_append, List.set_cons_succ, List.set_cons_zero]
   try rfl
  have hgt : goM e k = true := by rw [Pk hit, ht22]; rfl
  refine AW.skip ?_;refine K.blN ?_
  subst hbz
  refine K.rdN (Xx hL (Cc (by decide))) ?_
  refine ⟨hgt.symm, ?_⟩
  rw [if_pos hgt]
  subst hV
  simp only [List.append_assoc, Eo, List.cons_append, List.nil_append, List.set_cons_succ, List.set_cons_zero]
  try rfl
 rintro r H' (⟨h1, rfl⟩ | ⟨j, hj, h1, h2, rfl⟩)
 ·refine ⟨Hp, _, _, _, rfl, rfl, fun h => h, ?_, rfl, by simp, ?_⟩
  ·intro o ho
   have : o = oid Hp.length 2 := by simpa using ho
   subst this
   rw [Bc]
   rfl
  refine Z6 ?_;refine B2 ?_;refine H6 ?_;refine Z2 ?_;exact K.fin (V.one (V.cell jA)) ⟨by rw [show Ab e = true from List.all_eq_true.2 fun j hj => h1 j (List.mem_range.1 hj)], rfl⟩
 refine ⟨Hp, _, _, _, rfl, rfl, fun h => h, ?_, rfl, by simp, ?_⟩
 ·intro o ho
  have : o = oid Hp.length 2 := by simpa using ho
  subst this
  rw [Bc]
  rfl
 refine AW.ret ?_;refine Z4 ?_;exact K.fin (V.one (V.cell jA)) ⟨by rw [show Ab e = false from List.all_eq_false.2 ⟨j, List.mem_range.2 hj, by rw [h2]; simp⟩], rfl⟩

def Bi (s : Str) : Expr := .mk 2 s ⟨0, 0, []⟩ []
theorem Ze (s : Str) : Le (.agg [A3 2, A8 s, A3 0, A3 0, A8 [], .nil]) (A6 (Bi s)) := by
 rw [Bv]
 refine .agg _ _ rfl (by simp [AV.one, Value.oneCell', sv]) fun i y y' h1 h2 => ?_
 match i with
 | 0 => simp at h1 h2; subst h1; subst h2; exact .inl rfl
 | 1 => simp at h1 h2; subst h1; subst h2; exact .inl rfl
 | 2 => simp at h1 h2; subst h1; subst h2; exact .inl rfl
 | 3 => simp at h1 h2; subst h1; subst h2; exact .inl rfl
 | 4 => simp at h1 h2; subst h1; subst h2; exact .inl rfl
 | 5 => simp at h1 h2; subst h1; subst h2; exact .inr ⟨rfl, 6, rfl⟩
 | i + 6 => simp at h1
theorem Zf (s : Str) (h : s.length ≤ 1048576) : okE 1 (Bi s) := ⟨h, by simp [Bi, Expr.kids], fun y hy => by cases hy⟩
def K1 (c : List Col) (x : Nat) (y : Col) : Bool := !(((!Ab (Bi y.name)) || (Bh y.kind == [])) || (Ah y.name c != (x : Int)))
def I6 (c : List Col) : Bool := c.zipIdx.all fun x => K1 c x.2 x.1
theorem colsP_true {c : List Col} : I6 c = true ↔ ∀ (j : Nat) (y : Col), c[j]? = some y → K1 c j y = true := Il
theorem c59 (c : List Col) (hc : OkCols c) (Hp : List AObj) : AFun Tryz.prog 59 [A4 c] Hp (Af (I6 c)) := by
 refine ACall.body [.tmp 2] [0] Tryz.func59 Tryz.ntmps59 (fun d => ?_)
 refine Z49 ?_;refine N8 ?_;refine R.fin [0, 5, 6, 7] ?_
 refine AW.loopC (α := Nat) (fun x => ⟨32, A2 0 (A4 c) (A2 5 (A4 c) (A2 6 (A3 c.length) (A2 7 (A3 (x : Nat)) (fun _ => .any)))), Hp, [], [], none⟩) (fun x => x ≤ c.length ∧ ∀ (j : Nat) (y : Col), j < x → c[j]? = some y → K1 c j y = true) (fun x => c.length - x) (0) (by simp) (StLe.of_eq (by simp)) rfl (fun x hx => ?_)
 refine Z44 ?_;refine R.fin [0, 5, 6, 7, 8] ?_
 refine W.condX (fun ht8 => ?_) (fun ht8 => ?_)
 ·have hlt : x < c.length := by simpa using ht8
  have hcl := hc.len
  refine L1 ?_;refine Z62 ?_;refine Sw ?_;refine R.fin [0, 3, 4, 5, 6, 7] ?_;refine B2 ?_;refine ls ?_;refine R.wk 14 _ (Ze c[x].name) ?_;refine R.call Tryz.call64 (c64 1 (Bi c[x].name) (Zf _ (hc.names _ (List.getElem_mem hlt))) (by decide) _) ?_;refine R.not ?_;refine Ap ?_;refine G.fieldAddrPtr (fo := 1) jU Tryz.sizeOf3 ?_;refine G.loadOwn jA ?_;refine G.call Tryz.call40 (fun hB => c40 c[x].kind _) ?_;refine G.seql ?_;refine R.pickOr ?_;refine Z15 ?_;refine G.fieldAddrPtr (fo := 0) jU Tryz.sizeOf9 ?_;refine G.loadOwn jA ?_;refine G.call Tryz.call84 (fun hB => c84 c hc c[x].name _) ?_;refine Sz ?_;refine R.fin [0, 5, 6, 7, 30] ?_
  refine W.cond (fun ht30 => ?_) (fun ht30 => ?_)
  ·refine N7 ?_
   exact K.fin (V.one V.tmp) ⟨by rw [show I6 c = false from Bool.eq_false_iff.2 fun h => by have := colsP_true.1 h x c[x] (List.getElem?_eq_getElem hlt); unfold K1 at this; rw [ht30] at this; cases this], rfl⟩
  refine Hx ?_;refine R.fin [0, 5, 6, 7] ?_
  refine K.lpN (x + 1) ⟨hlt, E4 hlt hx.2 (by unfold K1; rw [ht30]; rfl)⟩ (by omega) ?_
  exact StCut.take (own := []) (fun _ => .refl _) (by repeat (first | exact Aj | refine Ai (by simp) ?_)) (by simp) (by simp)
 refine Z29 ?_;refine Z64 ?_;exact K.fin (V.one V.tmp) ⟨by rw [colsP_true.2 (Et (by simp at ht8; omega) hx.2)], rfl⟩

def Fg (c : List Col) : Bool := decide ((c.length : Int) ≤ 12) && I6 c
theorem c39 (c : List Col) (hc : OkCols c) (Hp : List AObj) : AFun Tryz.prog 39 [A4 c] Hp (Af (Fg c)) := by
 refine ACall.body [.tmp 2] [0] Tryz.func39 Tryz.ntmps39 (fun d => ?_)
 refine Nf ?_;refine R.len jU ?_;refine R.leq ?_;refine Z15 ?_;refine G.call Tryz.call59 (fun hB => c59 c hc _) ?_;refine T5 ?_;exact K.fin (V.one V.tmp) ⟨by unfold Fg; simp, rfl⟩

theorem Pl (s : Str) (h : s ≠ []) : Lib.contains [] s = false := by
 cases s with
 | nil => exact absurd rfl h
 | cons a r => rfl
theorem contains_cons (b : UInt8) (l s : Str) : Lib.contains (b :: l) s = (s.isPrefixOf (b :: l) || Lib.contains l s) := by
 unfold Lib.contains
 have hge := Lib.index_ge l s
 rw [Lib.index]
 by_cases hp : s.isPrefixOf (b :: l) = true
 ·rw [if_pos hp, hp]; rfl
 rw [if_neg hp]
 have hp' : s.isPrefixOf (b :: l) = false := Bool.eq_false_iff.2 hp
 rw [hp', Bool.false_or]
 by_cases hi : Lib.index l s = -1
 ·rw [hi]; rfl
 have : (Lib.index l s == -1) = false := by simpa using hi
 rw [this, if_neg (by simp)]
 rw [decide_eq_decide]
 omega
/-- Words between blanks. -/
def H8 : List Str → Str
 | [] => [32]
 | w :: r => 32 :: (w ++ H8 r)
theorem Nx (sub : Str) : ∀ (w R : Str), (32 : UInt8) ∉ w → Lib.contains (w ++ R) (32 :: sub) = Lib.contains R (32 :: sub)
 | [], R, _ => rfl
 | b :: w, R, h => by
  have hb : b ≠ 32 := fun e => h (by simp [e])
  rw [List.cons_append, contains_cons, Nx sub w R (fun hm => h (by simp [hm]))]
  have : (32 :: sub).isPrefixOf (b :: (w ++ R)) = false := by
   simp [List.isPrefixOf, Ne.symm hb]
  rw [this, Bool.false_or]
theorem Kk : ∀ (s w : Str) (R : Str), (32 : UInt8) ∉ s → (32 : UInt8) ∉ w → (s ++ [32]).isPrefixOf (w ++ 32 :: R) = (s == w)
 | [], [], R, _, _ => by simp [List.isPrefixOf]
 | [], b :: w, R, _, hw => by
  have hb : (32 : UInt8) ≠ b := fun e => hw (by simp [e])
  simp [List.isPrefixOf, hb]
 | a :: s, [], R, hs, _ => by
  have hb : a ≠ (32 : UInt8) := fun e => hs (by simp [e])
  simp [List.isPrefixOf, hb]
 | a :: s, b :: w, R, hs, hw => by
  have ih := Kk s w R (fun h => hs (by simp [h])) (fun h => hw (by simp [h]))
  rw [List.cons_append, List.cons_append, List.isPrefixOf, ih]
  rfl
theorem R8 : ∀ ws, ∃ R, H8 ws = 32 :: R
 | [] => ⟨[], rfl⟩
 | w :: r => ⟨_, rfl⟩
theorem F0 (s : Str) (hs : (32 : UInt8) ∉ s) : ∀ (ws : List Str), (∀ w ∈ ws, (32 : UInt8) ∉ w) → Lib.contains (H8 ws) ([32] ++ s ++ [32]) = ws.any (· == s)
 | [], _ => by
  rw [H8, contains_cons, Pl _ (by simp), Bool.or_false]
  cases s <;> simp [List.isPrefixOf]
 | w :: r, h => by
  have hw := h w (by simp)
  obtain ⟨R, hR⟩ := R8 r
  have ih := F0 s hs r (fun x hx => h x (by simp [hx]))
  have e1 : ([32] ++ s ++ [32] : Str) = 32 :: (s ++ [32]) := rfl
  rw [H8, contains_cons, e1, Nx _ w _ hw, ← e1, ih, List.any_cons]
  congr 1
  rw [e1, hR]
  have := Kk s w R hs hw
  rw [List.isPrefixOf, this]
  simp only [beq_self_eq_true, Bool.true_and]
  by_cases hsw : s = w
  ·subst hsw; rfl
  rw [beq_eq_false_iff_ne.2 hsw, beq_eq_false_iff_ne.2 (Ne.symm hsw)]
theorem Nj : Gc = H8 words := by kernel_rfl
theorem R9 : ∀ w ∈ words, (32 : UInt8) ∉ w := by decide
theorem Ra (s : Str) : Lib.contains s [32] = s.contains 32 := by
 induction s with
 | nil => rfl
 | cons b l ih =>
  rw [contains_cons, ih, List.contains_cons]
  congr 1
  simp [List.isPrefixOf]
theorem Ly (s : Str) (h1 : s ≠ []) (h2 : (32 : UInt8) ∉ s) : Er s = E3 s := by
 unfold Er
 rw [Ra, Nj, F0 s h2 words R9]
 have e1 : (s == []) = false := by simpa using h1
 have e2 : s.contains 32 = false := by simpa using h2
 rw [e1, e2]
 rfl
set_option maxRecDepth 8000
theorem Zg {p : UInt8 → Bool} (h : ((List.range 256).all fun n => p (UInt8.ofNat n)) = true) (c : UInt8) : p c = true := by
 have := List.all_eq_true.1 h c.toNat (List.mem_range.2 c.toNat_lt)
 simpa using this
theorem Te (c : UInt8) : tails.contains c = Fo c := by
 have := Zg (p := fun c => tails.contains c == Fo c) (by kernel_rfl) c
 simpa using this
theorem Pm (c : UInt8) : letters.contains c = D6 c := by
 have := Zg (p := fun c => letters.contains c == D6 c) (by kernel_rfl) c
 simpa using this
theorem Tf : Fo 32 = false := by kernel_rfl
theorem Up (s of : Str) : (Wl s of == (s.length : Int)) = s.all (of.contains ·) := by
 unfold Wl Lib.trimLeftS
 induction s with
 | nil => rfl
 | cons c r ih =>
  rw [List.dropWhile_cons, List.all_cons]
  cases hc : of.contains c with
  | true =>
   simp only [if_true, Bool.true_and]
   rw [← ih, Bool.eq_iff_iff]
   have := (List.dropWhile_sublist (fun x => of.contains x) (l := r)).length_le
   simp only [beq_iff_eq, List.length_cons]
   omega
  | false =>
   simp only [Bool.false_eq_true, if_false, Bool.false_and]
   rw [beq_eq_false_iff_ne]
   simp only [List.length_cons]
   omega
theorem Cq (s : Str) : Be s = Ey s := by
 cases s with
 | nil => rfl
 | cons c r =>
  unfold Be
  rw [Up]
  have e1 : ((c :: r).all fun x => tails.contains x) = (c :: r).all Fo := by
   congr 1
   funext x
   exact Te x
  have e2 : (Wl ((c :: r).take 1) letters == 1) = D6 c := by
   have := Up [c] letters
   rw [← Pm c]
   simpa using this
  rw [e1, e2]
  have e3 : ((c :: r : Str) == []) = false := rfl
  have e4 : decide (((c :: r).length : Int) ≤ 16) = decide ((c :: r).length ≤ 16) := by
   rw [decide_eq_decide]; omega
  rw [e3, e4]
  show _ = (decide ((c :: r).length ≤ 16) && D6 c && !E3 (c :: r) && (c :: r).all Fo)
  cases ha : (c :: r).all Fo with
  | false => simp
  | true =>
   have hb : (32 : UInt8) ∉ (c :: r) := fun hm => by
    have := List.all_eq_true.1 ha 32 hm
    rw [Tf] at this
    cases this
   rw [Ly _ (by simp) hb]
   simp
theorem Tg (s : Str) : Ab (Bi s) = Ey s := by
 have e : Aw 1 (Bi s) = [(1, Bi s)] := by rw [E5]; rfl
 unfold Ab
 rw [e]
 show ((List.range 1).all (goM (Bi s))) = _
 have g : goM (Bi s) 0 = C3 (Bi s) := by
  unfold goM
  rw [e]
  simp
 simp only [List.range_succ, List.range_zero, List.nil_append, List.all_cons, List.all_nil, Bool.and_true]
 rw [g, ← Cq]
 simp [C3, Bi, Expr.op, Expr.val, Expr.text, Expr.kids, Fp]
theorem Pn (k : Int) : (Bh k == []) = (decide (k < 1) || decide ((3 : Int) < k)) := by
 unfold Bh
 by_cases h : k < 1 ∨ 3 < k
 ·rw [if_pos h]
  have : (decide (k < 1) || decide ((3 : Int) < k)) = true := by simpa using h
  rw [this]; rfl
 rw [if_neg h]
 have : (decide (k < 1) || decide ((3 : Int) < k)) = false := by simp; omega
 rw [this]
 have hk : k = 1 ∨ k = 2 ∨ k = 3 := by omega
 rcases hk with rfl | rfl | rfl <;> rfl
theorem Je (c : List Col) : I6 c = Dm c := by
 unfold I6 Dm
 congr 1
 funext x
 unfold K1 Jb
 rw [Tg, Pn, ← Bool.or_assoc (!Ey x.1.name)]
theorem H9 (c : List Col) : Fg c = B9 c := by unfold Fg B9; rw [Je]
set_option maxRecDepth 4000
def Cy (l : List Tok) (i : Nat) : Tok := l.getD i ⟨0, [], 0⟩
end Go.SX.Nb
