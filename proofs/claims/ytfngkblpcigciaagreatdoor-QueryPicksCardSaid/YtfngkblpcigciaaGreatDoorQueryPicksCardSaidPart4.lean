/- Texts on the way to this: QueryPicks answers true for whatever it is handed: the answer has, of each row that the query of all columns tells, just the values of its own columns. (part 4) -/
import Derived.Below
import Derived.Test.YtfngkblpcigciaaGreatDoorProg
import Derived.KernelRfl
import Derived.Shelf.Strconv.Itoa4
import Derived.Shelf.Strings.SplitShaped
import Derived.Shelf.Strings.SlTrimAscii
import Derived.Shelf.Strings.OnBuilder
import Derived.Shelf.Strings.Replace
import Derived.Shelf.Small.Strs
import Derived.Shelf.Strings.Prefix
import Derived.Shelf.Strconv.ErrVarParseInt
import Derived.Shelf.Strconv.AtoiAll
import Derived.Shelf.Strings.Builder1
import Derived.Shelf.Bits.Mul64
import Derived.Shelf.Strings.Cut
import Derived.Lib.SplitLaws
import Derived.LaidEql
import Derived.Stop.Asserts
import Derived.RowKitTokens
import Derived.WalkKit
import Derived.Lib.AtoiErrMem
import Derived.Lib.Strings
import Derived.BigCall
import Derived.Lib.ParseIntB
import Derived.Test.YtfngkblpcigciaaGreatDoorQueryPicksCardSaidPart3
set_option linter.all false
namespace Go.SX
variable [GI : GlobInv]
open Classical Go.RowKit
section
variable {P : Program} {g : FuncId} {Hp : List AObj}

/-- What is known of package-level variables, of a world alone. -/
def Ds (w : World) : Prop := ∀ x ∈ GI.blocks, ∃ o, w.heap[x.1]? = some o ∧ x.2 o

theorem Lp {G : Gh} {w : World} {xs : List Value} {vs : Array Value} (hn : vs.size = (xs.map AV.v).length) (h : ∀ (i : Nat) (y : AV) (u : Value), (xs.map AV.v)[i]? = some y → vs[i]? = some u → ∃ l, Rep G w l y u) : vs = xs.toArray := by
 apply Array.ext
 ·simpa using hn
 intro i h1 h2
 have hi : i < xs.length := by simpa using h2
 obtain ⟨l, hr⟩ := h i (.v xs[i]) vs[i] (by simp [hi]) (Array.getElem?_eq_getElem h1)
 have := G4 hr
 simpa using this

theorem D5 {G : Gh} {w w' : World} (hT : TagOK G w) (hb : Below w.heap.size w w') {b o : Nat} (h : G.tag b o ≠ .free) : w'.cell? ⟨b, o, none⟩ = w.cell? ⟨b, o, none⟩ ∧ w'.frozen? ⟨b, o, none⟩ = w.frozen? ⟨b, o, none⟩ := by
 obtain ⟨u, hu⟩ := hT.ex b o h
 have hlt : b < w.heap.size := World.block_lt_of_cell? _ _ hu
 have := hb.block b hlt
 exact ⟨C5 this, Bp this⟩

theorem Gf {G : Gh} {w w' : World} (hT : TagOK G w) (hb : Below w.heap.size w w') : Turn G w G w' :=
 ⟨fun b o h => ⟨h, (D5 hT hb (by rw [h]; simp)).1⟩, fun _ _ _ h => h, fun _ _ _ h => h, Nat.le_refl _, fun _ _ => rfl, hb.os, hb.tape, hb.output, hb.size, Still.tags (fun b hv => hb.block b hv.1) hb.size (fun _ _ _ => .inl rfl) (fun _ hi => .inl ⟨hi, rfl⟩)⟩

theorem Im {G : Gh} {H : List AObj} {w w' : World} (hH : HeapRel G H w) (hT : TagOK G w) (hb : Below w.heap.size w w') : HeapRel G H w' ∧ TagOK G w' := by
 have T := Gf hT hb
 refine ⟨⟨fun i x hx => ?_, hH.n, hH.inj⟩, ⟨fun b o h => ?_, fun b o i h => ?_, fun b o L h => ?_, hT.globKeep T.old⟩⟩
 ·have hi : i < G.n := by rw [hH.n]; exact (List.getElem?_eq_some_iff.1 hx).1
  exact T.objRel hi (hb.block _ (H4 hH i hi)) (hH.obj i x hx) (fun b h => hb.block b h.lt)
 ·rw [(D5 hT hb h).1]; exact hT.ex b o h
 ·rw [(D5 hT hb (by rw [h]; simp)).2]; exact hT.obj b o i h
 rw [(D5 hT hb (by rw [h]; simp)).2]; exact hT.tail b o L h

/-- A function of plain values that hands back a plain value. -/
theorem AFun.lib {xs : List Value} {r : AV} {v : Value} (hr : ∀ G w, Rep G w none r v) (h : ∀ w, Ds w → Calls P g xs.toArray w (fun e w' => e = .returned v ∧ Below w.heap.size w w')) : AFun P g (xs.map .v) Hp r := by
 intro d G w vs hn hv hH hT
 have hvs := Lp hn (fun i y u a b => ⟨_, hv i y u a b⟩)
 subst hvs
 refine (callsIn_wide.2 (h w (fun x hx => let ⟨_, u, a, b⟩ := hT.glob x hx; ⟨u, a, b⟩))).mono ?_
 rintro e w' ⟨rfl, hb⟩
 obtain ⟨h1, h2⟩ := Im hH hT hb
 exact ⟨v, G, r, Hp, rfl, (hr G w').lift, h1, h2, (Gf hT hb).keep _, rfl, rfl, rfl⟩


/-- A function of plain values that hands back a new slice of plain values. -/
theorem AFun.libSlice {xs ys : List Value} {t : TypeId} (hone : ∀ y ∈ ys, y.oneCell' = true) (h : ∀ w, Ds w → Calls P g xs.toArray w (fun e w' => e = .returned (.slice (some ⟨w.heap.size, 0, none⟩) ys.length ys.length) ∧ w' = w.alloc (.cells ys.toArray t))) :
  AFun P g (xs.map .v) Hp (.slice false 1 (ys.map .v)) := by
 intro d G w vs hn hv hH hT
 have hvs := Lp hn (fun i y u a b => ⟨_, hv i y u a b⟩)
 subst hvs
 refine (callsIn_wide.2 (h w (fun x hx => let ⟨_, u, a, b⟩ := hT.glob x hx; ⟨u, a, b⟩))).mono ?_
 rintro e w' ⟨rfl, rfl⟩
 have hst : StRel 0 G ⟨0, fun _ => .any, Hp, [], [], none⟩ { tmps := #[], defers := [] } w :=
  ⟨rfl, fun s => .any _ _, by simpa using hH, rfl, (fun o ho => by simp at ho), List.nodup_nil, (fun o ho => by simp at ho), hT, (fun l hl => by cases hl), M3 hH⟩
 obtain ⟨G', g1, T, g2⟩ := K2 hst t ys.toArray
 refine ⟨_, G', _, Hp, rfl, ?_, by simpa using g1.heap, g1.tags, T.keep _, rfl, rfl, rfl⟩
 refine .slice _ false 1 _ _ _ _ (fun i j => ys.toArray.getD i undef) rfl (by simp) (Nat.le_refl _) (fun x hx => ?_) (fun x hx y hy => ?_) (fun i x j y hx hy => ?_) (fun i x j y hx hy => ?_) (fun h => by cases h)
 ·obtain ⟨z, _, rfl⟩ := List.mem_map.1 hx
  rfl
 ·obtain ⟨z, hz, rfl⟩ := List.mem_map.1 hx
  have : y = .v z := by simpa [AV.cells] using hy
  subst this
  exact hone z hz
 all_goals
  rw [List.getElem?_map, Option.map_eq_some_iff] at hx
  obtain ⟨z, hz, rfl⟩ := hx
  have hlt : i < ys.length := (List.getElem?_eq_some_iff.1 hz).1
  have hj : j = 0 := by
   match j, hy with
   | 0, _ => rfl
   | j + 1, hy => simp [AV.cells] at hy
  subst hj
 ·refine ⟨by simpa using g2 i (by simpa using hlt), ?_⟩
  rw [World.cell?_alloc_new]
  simp [hlt]
 have : y = .v z := by simpa [AV.cells] using hy.symm
 subst this
 have e : ys.toArray.getD i undef = z := by
  have := List.getElem?_eq_getElem hlt
  rw [this] at hz
  injection hz with hz
  simp [hlt, hz]
 rw [e]
 exact .v _ _
/-- A function that hands back a plain value and, behind an interface value, a new record of plain values. -/
theorem AFun.libErr {xs cs : List Value} {n : Value} {T te : TypeId} (hone : ∀ y ∈ cs, y.oneCell' = true) (h : ∀ w, Ds w → Calls P g xs.toArray w (fun e w' => ∃ N, e = .returned (.tuple #[n, .iface T (.pointer (some ⟨N, 0, none⟩))]) ∧ w.heap.size ≤ N ∧ w'.heap[N]? = some (.cells cs.toArray te (0, 0)) ∧ Below w.heap.size w w')) :
  AFun P g (xs.map .v) Hp (.tup [.v n, .iface T (.ro (cs.map .v))]) := by
 intro d G w vs hn hv hH hT
 have hvs := Lp hn (fun i y u a b => ⟨_, hv i y u a b⟩)
 subst hvs
 refine (callsIn_wide.2 (h w (fun x hx => let ⟨_, u, a, b⟩ := hT.glob x hx; ⟨u, a, b⟩))).mono ?_
 rintro e w' ⟨N, rfl, hN, hcell, hb⟩
 have hfree : ∀ o, G.tag N o = .free := fun o => Cd hT _ o hN
 let G' : Gh := { G with tag := fun b o => if b = N ∧ o < cs.length then .fix else G.tag b o }
 have hne : ∀ b o, G.tag b o ≠ .free → ¬ (b = N ∧ o < cs.length) := fun b o hb hc => by rw [hc.1] at hb; exact hb (hfree o)
 have hnew : ∀ o, o < cs.length → w'.cell? ⟨N, o, none⟩ = cs[o]? := fun o ho => by simp [World.cell?, hcell, ho]
 have T1 : Turn G w G' w' := by
  refine ⟨fun b o h => ⟨?_, (D5 hT hb (by rw [h]; simp)).1⟩, fun b o L h => ?_, fun b o i h => ?_, Nat.le_refl _, fun _ _ => rfl, hb.os, hb.tape, hb.output, hb.size,
   Still.tags (fun b hv => hb.block b hv.1) hb.size (fun b o hlt => .inl ?_) (fun _ hi => .inl ⟨hi, rfl⟩)⟩
  ·simp only [G']; rw [if_neg (hne b o (by rw [h]; simp))]; exact h
  ·simp only [G']; rw [if_neg (hne b o (by rw [h]; simp))]; exact h
  ·simp only [G']; rw [if_neg (hne b o (by rw [h]; simp))]; exact h
  simp only [G']; rw [if_neg (by omega)]
 have hH' : HeapRel G' Hp w' := ⟨fun i x hx => by
  have hi : i < G.n := by rw [hH.n]; exact (List.getElem?_eq_some_iff.1 hx).1
  exact T1.objRel hi (hb.block _ (H4 hH i hi)) (hH.obj i x hx) (fun b h => hb.block b h.lt), hH.n, hH.inj⟩
 have hT' : TagOK G' w' := by
  refine ⟨fun b o h => ?_, fun b o i h => ?_, fun b o L h => ?_, hT.globKeep T1.old⟩
  ·simp only [G'] at h
   split at h
   ·rename_i hc; obtain ⟨rfl, ho⟩ := hc; exact ⟨_, (hnew o ho).trans (List.getElem?_eq_getElem ho)⟩
   rw [(D5 hT hb h).1]; exact hT.ex b o h
  ·simp only [G'] at h
   split at h
   ·cases h
   rw [(D5 hT hb (by rw [h]; simp)).2]; exact hT.obj b o i h
  simp only [G'] at h
  split at h
  ·cases h
  rw [(D5 hT hb (by rw [h]; simp)).2]; exact hT.tail b o L h
 refine ⟨_, G', _, Hp, rfl, ?_, hH', hT', T1.keep _, rfl, rfl, rfl⟩
 refine .tup _ _ _ rfl (fun i y u hy hu => ?_)
 match i with
 | 0 => simp at hy hu; subst hy; subst hu; exact .v _ _
 | 1 =>
  simp at hy hu; subst hy; subst hu
  refine .iface _ _ _ _ (.ro _ _ ⟨N, 0, none⟩ (fun j => cs.getD j undef) rfl (fun y hy => ?_) (fun j y hy => ?_) (fun j y hy => ?_))
  ·obtain ⟨z, hz, rfl⟩ := List.mem_map.1 hy
   exact hone z hz
  all_goals
   rw [List.getElem?_map, Option.map_eq_some_iff] at hy
   obtain ⟨z, hz, rfl⟩ := hy
   have hlt : j < cs.length := (List.getElem?_eq_some_iff.1 hz).1
   have e : cs.getD j undef = z := by rw [List.getD_eq_getElem?_getD, hz]; rfl
  ·refine ⟨by simp [G', hlt], ?_⟩
   rw [Nat.zero_add, hnew j hlt, hz, e]
  rw [e]; exact .v _ _
 | i + 2 => simp at hy
theorem TagOK.globIn {G : Gh} {w : World} (h : TagOK G w) : Ds w := fun x hx => (h.glob x hx).2
/-- A package-level variable of which something is known. -/
theorem R.loadGlob {d : Nat} {ops : Array Oper} {rest : List Oper} {sz : Nat} {fr : Nat → AV} {up own : List AObj} {dfs : List Nat} {rnd : Option Nat} {Q : St → Prop} {s : Nat} {ty : TypeId} {pos : String} {aft : Array Edge} {t : TypeId} {gl : Nat} {v : Value}
  (hagg : ∀ w, (isAgg t).run P w = .ok false w) (hv : ∀ w, Ds w → w.cell? ⟨gl, 0, none⟩ = some v) (hr : ARun P d ops rest ⟨sz, A6 s (.v v) fr, up, own, dfs, rnd⟩ Q) (hs : Nat.blt s sz = true := by rfl) :
  ARun P d ops (⟨some s, .load t (.global gl), ty, pos, aft, none⟩ :: rest) ⟨sz, fr, up, own, dfs, rnd⟩ Q := by
 refine ARun.v rfl rfl (by simpa using hs) (OpV.pure (by intro c h; cases h) fun G a w h => ⟨v, ?_, .v _ _⟩) hr
 have hc := hv w h.tags.globIn
 have e : a.eval (.global gl) = .pointer (some ⟨gl, 0, none⟩) := rfl
 simp [execOp, e, Instr.loadAt, Instr.sureAddr, loadVar, hagg, hc]
end
end Go.SX
namespace Go.SX.Nb
open Go Go.SX Go.Proofs
class JU (t : TypeId) (u : outParam TypeDesc) : Prop where h : Tryz.prog.underlying t = some u
theorem jU {t : TypeId} {u : TypeDesc} [i : JU t u] : Tryz.prog.underlying t = some u := i.h
@[reducible, instance] def JU2 := JU.mk Tryz.underlying2
@[reducible, instance] def JU3 := JU.mk Tryz.underlying3
@[reducible, instance] def JU4 := JU.mk Tryz.underlying4
@[reducible, instance] def JU5 := JU.mk Tryz.underlying5
@[reducible, instance] def JU9 := JU.mk Tryz.underlying9
@[reducible, instance] def w8 := JU.mk Tryz.underlying22
@[reducible, instance] def w9 := JU.mk Tryz.underlying24
@[reducible, instance] def wc := JU.mk Tryz.underlying25
@[reducible, instance] def wd := JU.mk Tryz.underlying27
@[reducible, instance] def we := JU.mk Tryz.underlying29
@[reducible, instance] def wg := JU.mk Tryz.underlying30
@[reducible, instance] def wh := JU.mk Tryz.underlying31
@[reducible, instance] def wi := JU.mk Tryz.underlying44
@[reducible, instance] def wj := JU.mk Tryz.underlying46
@[reducible, instance] def wl := JU.mk Tryz.underlying48
@[reducible, instance] def wm := JU.mk Tryz.underlying50
@[reducible, instance] def wn := JU.mk Tryz.underlying72
@[reducible, instance] def wo := JU.mk Tryz.underlying77
@[reducible, instance] def wq := JU.mk Tryz.underlying82
@[reducible, instance] def wr := JU.mk Tryz.underlying97
@[reducible, instance] def vm := JU.mk Tryz.underlying126
@[reducible, instance] def vn := JU.mk Tryz.underlying142
@[reducible, instance] def vo := JU.mk Tryz.underlying144
@[reducible, instance] def vp := JU.mk Tryz.underlying154
@[reducible, instance] def vq := JU.mk Tryz.underlying194
class JS (t : TypeId) (u : outParam Nat) : Prop where h : ∀ w, (Go.sizeOf t).run Tryz.prog w = .ok u w
theorem jS {t : TypeId} {u : Nat} [i : JS t u] : ∀ w, (Go.sizeOf t).run Tryz.prog w = .ok u w := i.h
@[reducible, instance] def JS2 := JS.mk Tryz.sizeOf2
@[reducible, instance] def JS3 := JS.mk Tryz.sizeOf3
@[reducible, instance] def JS4 := JS.mk Tryz.sizeOf4
@[reducible, instance] def JS9 := JS.mk Tryz.sizeOf9
@[reducible, instance] def wt := JS.mk Tryz.sizeOf22
@[reducible, instance] def wu := JS.mk Tryz.sizeOf24
@[reducible, instance] def wv := JS.mk Tryz.sizeOf25
@[reducible, instance] def ww := JS.mk Tryz.sizeOf27
@[reducible, instance] def wx := JS.mk Tryz.sizeOf29
@[reducible, instance] def wy := JS.mk Tryz.sizeOf31
@[reducible, instance] def wz := JS.mk Tryz.sizeOf36
@[reducible, instance] def x5 := JS.mk Tryz.sizeOf44
@[reducible, instance] def x6 := JS.mk Tryz.sizeOf46
@[reducible, instance] def x7 := JS.mk Tryz.sizeOf48
@[reducible, instance] def x8 := JS.mk Tryz.sizeOf50
@[reducible, instance] def x9 := JS.mk Tryz.sizeOf72
@[reducible, instance] def xa := JS.mk Tryz.sizeOf82
@[reducible, instance] def vr := JS.mk Tryz.sizeOf144
@[reducible, instance] def vt := JS.mk Tryz.sizeOf194
class JA (t : TypeId) (u : outParam Bool) : Prop where h : ∀ w, (Go.isAgg t).run Tryz.prog w = .ok u w
theorem jA {t : TypeId} {u : Bool} [i : JA t u] : ∀ w, (Go.isAgg t).run Tryz.prog w = .ok u w := i.h
@[reducible, instance] def JA2 := JA.mk Tryz.isAgg2
@[reducible, instance] def JA3 := JA.mk Tryz.isAgg3
@[reducible, instance] def JA4 := JA.mk Tryz.isAgg4
@[reducible, instance] def JA9 := JA.mk Tryz.isAgg9
@[reducible, instance] def xb := JA.mk Tryz.isAgg22
@[reducible, instance] def xc := JA.mk Tryz.isAgg24
@[reducible, instance] def xd := JA.mk Tryz.isAgg25
@[reducible, instance] def xe := JA.mk Tryz.isAgg27
@[reducible, instance] def xf := JA.mk Tryz.isAgg29
@[reducible, instance] def xg := JA.mk Tryz.isAgg30
@[reducible, instance] def xh := JA.mk Tryz.isAgg31
@[reducible, instance] def xi := JA.mk Tryz.isAgg36
@[reducible, instance] def xj := JA.mk Tryz.isAgg44
@[reducible, instance] def xk := JA.mk Tryz.isAgg46
@[reducible, instance] def xl := JA.mk Tryz.isAgg48
@[reducible, instance] def xm := JA.mk Tryz.isAgg50
@[reducible, instance] def xn := JA.mk Tryz.isAgg72
@[reducible, instance] def xp := JA.mk Tryz.isAgg82
@[reducible, instance] def vu := JA.mk Tryz.isAgg142
@[reducible, instance] def vw := JA.mk Tryz.isAgg152
@[reducible, instance] def vz := JA.mk Tryz.isAgg194
class JZ (t : TypeId) (u : outParam Value) : Prop where h : ∀ w, (Go.zeroValue t).run Tryz.prog w = .ok u w
theorem jZ {t : TypeId} {u : Value} [i : JZ t u] : ∀ w, (Go.zeroValue t).run Tryz.prog w = .ok u w := i.h
@[reducible, instance] def JZ3 := JZ.mk Tryz.zeroValue3
@[reducible, instance] def JZ4 := JZ.mk Tryz.zeroValue4
@[reducible, instance] def JZ9 := JZ.mk Tryz.zeroValue9
@[reducible, instance] def xq := JZ.mk Tryz.zeroValue24
@[reducible, instance] def xr := JZ.mk Tryz.zeroValue27
@[reducible, instance] def xt := JZ.mk Tryz.zeroValue29
@[reducible, instance] def xu := JZ.mk Tryz.zeroValue31
@[reducible, instance] def xv := JZ.mk Tryz.zeroValue36
@[reducible, instance] def xw := JZ.mk Tryz.zeroValue46
@[reducible, instance] def xy := JZ.mk Tryz.zeroValue48
@[reducible, instance] def xz := JZ.mk Tryz.zeroValue50
@[reducible, instance] def y6 := JZ.mk Tryz.zeroValue72
@[reducible, instance] def y7 := JZ.mk Tryz.zeroValue77
@[reducible, instance] def y8 := JZ.mk Tryz.zeroValue82
@[reducible, instance] def w4 := JZ.mk Tryz.zeroValue126
@[reducible, instance] def w5 := JZ.mk Tryz.zeroValue144
@[reducible, instance] def w6 := JZ.mk Tryz.zeroValue154
@[reducible, instance] def w7 := JZ.mk Tryz.zeroValue194
structure Hk (q : Prop) : Prop where h : q
variable {p q : Prop}
theorem Z0(k:q)(h:Hk q→p:=by intro qk;refine Ba ?_;refine At ?_;exact qk.h):p:=h ⟨k⟩
theorem Z2(k:q)(h:Hk q→p:=by intro qk;refine R.fin [2] ?_;refine AW.ret ?_;exact qk.h):p:=h ⟨k⟩
theorem Z3(k:q)(h:Hk q→p:=by intro qk;refine Ba ?_;refine Au ?_;exact qk.h):p:=h ⟨k⟩
theorem Z4(k:q)(h:Hk q→p:=by intro qk;refine K.blR ?_;refine K.thR ?_;exact qk.h):p:=h ⟨k⟩
theorem Z5(k:q)(h:Hk q→p:=by intro qk;refine AW.skip ?_;refine K.thN ?_;exact qk.h):p:=h ⟨k⟩
theorem Z6(k:q)(h:Hk q→p:=by intro qk;refine Do ?_;refine Z2 ?_;exact qk.h):p:=h ⟨k⟩
theorem Z7(k:q)(h:Hk q→p:=by intro qk;refine Au ?_;refine R.fin [4, 5] ?_;exact qk.h):p:=h ⟨k⟩
theorem Z8(k:q)(h:Hk q→p:=by intro qk;refine R.extract ?_;refine R.extract ?_;exact qk.h):p:=h ⟨k⟩
theorem Z9(k:q)(h:Hk q→p:=by intro qk;refine W.seq ?_;refine Z0 ?_;exact qk.h):p:=h ⟨k⟩
theorem Z10(k:q)(h:Hk q→p:=by intro qk;refine R.seql ?_;refine Au ?_;exact qk.h):p:=h ⟨k⟩
theorem Z11(k:q)(h:Hk q→p:=by intro qk;refine AW.ret ?_;refine K.thR ?_;exact qk.h):p:=h ⟨k⟩
theorem Z12(h:p:=by refine Z4 ?_;exact bh):p:=h
theorem Z13(k:q)(h:Hk q→p:=by intro qk;refine K.blN ?_;refine K.thN ?_;exact qk.h):p:=h ⟨k⟩
theorem Z14(k:q)(h:Hk q→p:=by intro qk;refine Au ?_;refine Au ?_;exact qk.h):p:=h ⟨k⟩
theorem Z15(k:q)(h:Hk q→p:=by intro qk;refine R.fieldAddrRo (off := 0) jU Tryz.sizeOf3 ?_;refine Cq ?_;exact qk.h):p:=h ⟨k⟩
theorem Z16(k:q)(h:Hk q→p:=by intro qk;refine R.alloc jZ ?_;refine Do ?_;exact qk.h):p:=h ⟨k⟩
theorem Z17(k:q)(h:Hk q→p:=by intro qk;refine AW.skip ?_;refine Z13 ?_;exact qk.h):p:=h ⟨k⟩
theorem Z19(k:q)(h:Hk q→p:=by intro qk;refine Ba ?_;refine Z10 ?_;exact qk.h):p:=h ⟨k⟩
theorem Z20(k:q)(h:Hk q→p:=by intro qk;refine R.eql ?_;refine Au ?_;exact qk.h):p:=h ⟨k⟩
theorem Z21(k:q)(h:Hk q→p:=by intro qk;refine AW.region ?_;refine At ?_;exact qk.h):p:=h ⟨k⟩
theorem Z22(k:q)(h:Hk q→p:=by intro qk;refine At ?_;refine G.move ?_;exact qk.h):p:=h ⟨k⟩
theorem Z23(k:q)(h:Hk q→p:=by intro qk;refine Z7 ?_;refine AW.ret ?_;exact qk.h):p:=h ⟨k⟩
theorem Z24(k:q)(h:Hk q→p:=by intro qk;refine Ba ?_;refine R.boxRo ?_;exact qk.h):p:=h ⟨k⟩
theorem Z25(k:q)(h:Hk q→p:=by intro qk;refine Ba ?_;refine Mk ?_;refine Uk ?_;refine Z6 ?_;exact qk.h):p:=h ⟨k⟩
theorem Z26(k:q)(h:Hk q→p:=by intro qk;refine W.seq ?_;refine Eq ?_;exact qk.h):p:=h ⟨k⟩
theorem Z27(k:q)(h:Hk q→p:=by intro qk;refine W.seq ?_;refine Ba ?_;exact qk.h):p:=h ⟨k⟩
theorem Z28(k:q)(h:Hk q→p:=by intro qk;refine G.fieldAddrRo (off := 1) jU Tryz.sizeOf9 ?_;refine G.loadRo jA ?_;exact qk.h):p:=h ⟨k⟩
theorem Z29(k:q)(h:Hk q→p:=by intro qk;refine Z0 ?_;refine At ?_;exact qk.h):p:=h ⟨k⟩
theorem Z30(k:q)(h:Hk q→p:=by intro qk;refine Ba ?_;refine R.alloc jZ ?_;exact qk.h):p:=h ⟨k⟩
theorem Z31(k:q)(h:Hk q→p:=by intro qk;refine Ba ?_;refine Mj ?_;exact qk.h):p:=h ⟨k⟩
theorem Z32(k:q)(h:Hk q→p:=by intro qk;refine R.pickAnd ?_;refine Au ?_;exact qk.h):p:=h ⟨k⟩
theorem Z34(h:p:=by refine Z11 ?_;exact qi):p:=h
theorem Z35(k:q)(h:Hk q→p:=by intro qk;refine Z25 ?_;refine Z4 ?_;exact qk.h):p:=h ⟨k⟩
theorem Z36(k:q)(h:Hk q→p:=by intro qk;refine Z8 ?_;refine Do ?_;exact qk.h):p:=h ⟨k⟩
theorem Z37(h:p:=by refine Z11 ?_;exact bh):p:=h
theorem Z38(k:q)(h:Hk q→p:=by intro qk;refine R.fieldAddrRo (off := 5) jU Tryz.sizeOf25 ?_;refine Cq ?_;exact qk.h):p:=h ⟨k⟩
theorem Z39(k:q)(h:Hk q→p:=by intro qk;refine R.fieldAddrRo (off := 1) jU Tryz.sizeOf9 ?_;refine Cq ?_;exact qk.h):p:=h ⟨k⟩
theorem Z40(k:q)(h:Hk q→p:=by intro qk;refine Au ?_;refine R.fin [2, 3] ?_;exact qk.h):p:=h ⟨k⟩
theorem Z41(k:q)(h:Hk q→p:=by intro qk;refine R.fin [4] ?_;refine AW.ret ?_;exact qk.h):p:=h ⟨k⟩
theorem Z42(k:q)(h:Hk q→p:=by intro qk;refine R.nilPtr ?_;refine R.fieldAddrPtr (fo := 1) jU Tryz.sizeOf3 ?_;exact qk.h):p:=h ⟨k⟩
theorem Z43(k:q)(h:Hk q→p:=by intro qk;refine R.call Tryz.call157 (ue _ _) ?_;refine Z36 ?_;exact qk.h):p:=h ⟨k⟩
theorem Z44(k:q)(h:Hk q→p:=by intro qk;refine D.move ?_;refine D.nilPtr ?_;exact qk.h):p:=h ⟨k⟩
theorem Z45(k:q)(h:Hk q→p:=by intro qk;refine D.move ?_;refine D.indexAddr (0) (Bh a) jU jS (show ([Bh a, Bh b] : List AV)[0]? = some (Bh a) from rfl) ?_;exact qk.h):p:=h ⟨k⟩
theorem Z46(k:q)(h:Hk q→p:=by intro qk;refine D.move ?_;refine D.indexAddr (1) (Bh b) jU jS (show ([Bh a, Bh b] : List AV)[1]? = some (Bh b) from rfl) ?_;exact qk.h):p:=h ⟨k⟩
theorem Z48(k:q)(h:Hk q→p:=by intro qk;refine Ba ?_;refine Z20 ?_;exact qk.h):p:=h ⟨k⟩
theorem Z49(h:p:=by refine Z23 ?_;exact bh):p:=h
theorem Z50(k:q)(h:Hk q→p:=by intro qk;refine G.fieldAddrRo (off := 5) jU Tryz.sizeOf25 ?_;refine G.loadRo jA ?_;exact qk.h):p:=h ⟨k⟩
theorem Z51(k:q)(h:Hk q→p:=by intro qk;refine R.fieldAddrRo (off := 1) jU Tryz.sizeOf22 ?_;refine Cq ?_;exact qk.h):p:=h ⟨k⟩
theorem Z53(h:p:=by refine K.thJ ?_;exact StLe.of_eq (by simp [*])):p:=h
theorem Z54(k:q)(h:Hk q→p:=by intro qk;refine Ba ?_;refine Dn ?_;exact qk.h):p:=h ⟨k⟩
theorem Z55(k:q)(h:Hk q→p:=by intro qk;refine K.lpE ?_;refine K.thN ?_;exact qk.h):p:=h ⟨k⟩
theorem Z56(k:q)(h:Hk q→p:=by intro qk;refine qf ?_;refine Y.storeOwnT (u := Hp.length) (n := 1) (t' := 24) (cs := [A4 0, A4 0, A8 []]) (cs' := [A4 (Ai ra).1.kind, A4 (Ai ra).1.n, A8 (Ai ra).1.s]) Tryz.sizeOf24 (fun B hT hF hB => ⟨rfl, by simp [hT 0 (by simp), hB], by simp [upd, hT 0 (by simp), hB], rfl⟩) ?_;exact qk.h):p:=h ⟨k⟩
theorem Z57(k:q)(h:Hk q→p:=by intro qk;refine Z3 ?_;refine Z2 ?_;exact qk.h):p:=h ⟨k⟩
theorem Z58(k:q)(h:Hk q→p:=by intro qk;refine Z0 ?_;refine R.callUp Tryz.call171 ho (by simp) Bf (c171 l S o _ (Ac ho) hi hll) ?_;exact qk.h):p:=h ⟨k⟩
theorem Z59(k:q)(h:Hk q→p:=by intro qk;refine AW.ret ?_;refine Z4 ?_;exact qk.h):p:=h ⟨k⟩
theorem Z60(h:p:=by refine K.thR ?_;exact Y1):p:=h
theorem Z61(k:q)(h:Hk q→p:=by intro qk;refine R.fieldAddrPtr (fo := 0) jU Tryz.sizeOf3 ?_;refine In ?_;exact qk.h):p:=h ⟨k⟩
theorem Z62(k:q)(h:Hk q→p:=by intro qk;refine At ?_;refine Z8 ?_;exact qk.h):p:=h ⟨k⟩
theorem Z63(k:q)(h:Hk q→p:=by intro qk;refine R.nilPtr ?_;refine R.fieldAddrPtr (fo := 0) jU Tryz.sizeOf121 ?_;exact qk.h):p:=h ⟨k⟩
theorem Z64(k:q)(h:Hk q→p:=by intro qk;refine Z0 ?_;refine Au ?_;exact qk.h):p:=h ⟨k⟩
theorem Z65(k:q)(h:Hk q→p:=by intro qk;refine I9 ?_;refine D.fieldAddrRo (off := 5) jU Tryz.sizeOf25 ?_;exact qk.h):p:=h ⟨k⟩
theorem Z66(k:q)(h:Hk q→p:=by intro qk;refine Au ?_;refine R.fin [6, 7] ?_;exact qk.h):p:=h ⟨k⟩
theorem Z67(h:p:=by refine R.fin [] ?_;exact K.finN .nores (hp := ⟨rfl, by first | (rw [e]; exact (Pw hne ho hoq).symm) | (rw [e]; exact (B4 (Yx hne hoq)).symm) | (rw [e]; simp only [List.set_set]; exact (B4 (Yx hne hoq)).symm) | (rw [e]; simp only [List.set_set]; rw [di hne]; rfl) | (rw [e]; simp only [List.set_set]; rw [List.set_comm _ _ hne]; rfl)⟩)):p:=h
theorem Z68(h:p:=by refine Z59 ?_;exact qi):p:=h
theorem Z69(k:q)(h:Hk q→p:=by intro qk;refine Z44 ?_;refine D.fieldAddrPtr (fo := 1) jU Tryz.sizeOf3 ?_;exact qk.h):p:=h ⟨k⟩
theorem Z70(k:q)(h:Hk q→p:=by intro qk;refine R.len jU ?_;refine At ?_;exact qk.h):p:=h ⟨k⟩
theorem Z71(k:q)(h:Hk q→p:=by intro qk;refine G.fieldAddrPtr (fo := 0) jU Tryz.sizeOf3 ?_;refine G.loadOwn jA ?_;exact qk.h):p:=h ⟨k⟩
theorem Z72(k:q)(h:Hk q→p:=by intro qk;refine D.fieldAddrRo (off := 1) jU Tryz.sizeOf9 ?_;refine Fs ?_;exact qk.h):p:=h ⟨k⟩
theorem Z75(k:q)(h:Hk q→p:=by intro qk;refine D.fieldAddrRo (off := 2) jU Tryz.sizeOf9 ?_;refine Fs ?_;exact qk.h):p:=h ⟨k⟩
theorem Z76(k:q)(h:Hk q→p:=by intro qk;refine Au ?_;refine Z2 ?_;exact qk.h):p:=h ⟨k⟩
theorem Z77(k:q)(h:Hk q→p:=by intro qk;refine AW.region ?_;refine R.add64 ?_;refine At ?_;exact qk.h):p:=h ⟨k⟩
theorem Z78(k:q)(h:Hk q→p:=by intro qk;refine Ba ?_;refine Uj ?_;exact qk.h):p:=h ⟨k⟩
theorem Z79(k:q)(h:Hk q→p:=by intro qk;refine At ?_;refine At ?_;exact qk.h):p:=h ⟨k⟩
theorem Z80(k:q)(h:Hk q→p:=by intro qk;refine Z30 ?_;refine R.fin [0, 2] ?_;exact qk.h):p:=h ⟨k⟩
theorem Z81(k:q)(h:Hk q→p:=by intro qk;refine D.extract ?_;refine D.extract ?_;exact qk.h):p:=h ⟨k⟩
theorem Z82(k:q)(h:Hk q→p:=by intro qk;refine R.add64 ?_;refine Au ?_;exact qk.h):p:=h ⟨k⟩
theorem Z83(k:q)(h:Hk q→p:=by intro qk;refine R.alloc jZ ?_;refine Au ?_;exact qk.h):p:=h ⟨k⟩
theorem Z84(k:q)(h:Hk q→p:=by intro qk;refine Z4 ?_;refine K.lpR ?_;exact qk.h):p:=h ⟨k⟩
theorem Z85(k:q)(h:Hk q→p:=by intro qk;refine R.fieldAddrRo (off := 2) jU Tryz.sizeOf27 ?_;refine Dn ?_;exact qk.h):p:=h ⟨k⟩
theorem Z86(k:q)(h:Hk q→p:=by intro qk;refine Z44 ?_;refine D.fieldAddrPtr (fo := 0) jU Tryz.sizeOf72 ?_;exact qk.h):p:=h ⟨k⟩
theorem Z87(k:q)(h:Hk q→p:=by intro qk;refine Z3 ?_;refine R.fin [0, 1] ?_;exact qk.h):p:=h ⟨k⟩
theorem Z88(k:q)(h:Hk q→p:=by intro qk;refine Z3 ?_;refine R.fin [0] ?_;exact qk.h):p:=h ⟨k⟩
theorem Z89(k:q)(h:Hk q→p:=by intro qk;refine Ba ?_;refine R.lss ?_;exact qk.h):p:=h ⟨k⟩
theorem Z90(k:q)(h:Hk q→p:=by intro qk;refine R.fin [4] ?_;refine Z11 ?_;exact qk.h):p:=h ⟨k⟩
theorem Z91(k:q)(h:Hk q→p:=by intro qk;refine Au ?_;refine Z23 ?_;exact qk.h):p:=h ⟨k⟩
theorem Z92(k:q)(h:Hk q→p:=by intro qk;refine R.fieldAddrPtr (fo := 2) jU Tryz.sizeOf3 ?_;refine In ?_;exact qk.h):p:=h ⟨k⟩
theorem Z94(h:p:=by refine D.buildSlice jU jS jZ ?_;exact Jd):p:=h
theorem Z95(k:q)(h:Hk q→p:=by intro qk;refine Z19 ?_;refine R.fin [2, 3, 9] ?_;exact qk.h):p:=h ⟨k⟩
theorem Z96(k:q)(h:Hk q→p:=by intro qk;refine AW.exit ?_;refine K.thE ?_;exact qk.h):p:=h ⟨k⟩
theorem Z97(k:q)(h:Hk q→p:=by intro qk;refine Z24 ?_;refine Au ?_;exact qk.h):p:=h ⟨k⟩
theorem Z98(k:q)(h:Hk q→p:=by intro qk;refine G.fieldAddrRo (off := 0) jU Tryz.sizeOf3 ?_;refine G.loadRo jA ?_;exact qk.h):p:=h ⟨k⟩
theorem Z99(k:q)(h:Hk q→p:=by intro qk;refine qa ?_;refine Y.tail (tn := [5])  ?_;exact qk.h):p:=h ⟨k⟩
theorem Rp(h:p:=by refine Z23 ?_;exact Z12):p:=h
theorem Lg(k:q)(h:Hk q→p:=by intro qk;refine Z19 ?_;refine R.fin [2, 18] ?_;exact qk.h):p:=h ⟨k⟩
theorem fj(k:q)(h:Hk q→p:=by intro qk;refine R.indexAddr (0) (Ab (e.kids.getD 0 Ah)) jU jS (Jx (by omega)).1 ?_;refine Dn ?_;exact qk.h):p:=h ⟨k⟩
theorem Mb(k:q)(h:Hk q→p:=by intro qk;refine Ba ?_;refine Z15 ?_;exact qk.h):p:=h ⟨k⟩
theorem nx(h:p:=by refine Z90 ?_;exact K.fin (V.one V.tmp) ⟨by rw [hm] <;> rfl, rfl⟩):p:=h
theorem fk(h:p:=by refine K.thR ?_;exact bh):p:=h
theorem Qf(h:p:=by refine Do ?_;exact Rp):p:=h
theorem Lh(k:q)(h:Hk q→p:=by intro qk;refine Z9 ?_;refine At ?_;exact qk.h):p:=h ⟨k⟩
theorem U2(k:q)(h:Hk q→p:=by intro qk;refine R.pickAnd ?_;refine At ?_;exact qk.h):p:=h ⟨k⟩
theorem Mc(k:q)(h:Hk q→p:=by intro qk;refine Z27 ?_;refine Dn ?_;exact qk.h):p:=h ⟨k⟩
theorem Gg(k:q)(h:Hk q→p:=by intro qk;refine Z26 ?_;refine Z0 ?_;exact qk.h):p:=h ⟨k⟩
theorem fl(k:q)(h:Hk q→p:=by intro qk;refine Do ?_;refine R.fin [6] ?_;exact qk.h):p:=h ⟨k⟩
theorem Rq(k:q)(h:Hk q→p:=by intro qk;refine Do ?_;refine R.fin [2, 3] ?_;exact qk.h):p:=h ⟨k⟩
theorem ny(h:p:=by refine Z41 ?_;exact Y1):p:=h
theorem I8(k:q)(h:Hk q→p:=by intro qk;refine Z17 ?_;refine Z25 ?_;exact qk.h):p:=h ⟨k⟩
theorem ai(k:q)(h:Hk q→p:=by intro qk;refine R.fieldAddrRo (off := 1) jU Tryz.sizeOf2 ?_;refine Cq ?_;exact qk.h):p:=h ⟨k⟩
theorem aj(k:q)(h:Hk q→p:=by intro qk;refine D.fieldAddrRo (off := 1) jU Tryz.sizeOf2 ?_;refine Fs ?_;exact qk.h):p:=h ⟨k⟩
theorem l8(h:p:=by refine K.thR ?_;exact q8):p:=h
theorem fm(k:q)(h:Hk q→p:=by intro qk;refine R.indexAddr (x) (Ab e.kids[x]) jU jS (Be hlt) ?_;refine Dn ?_;exact qk.h):p:=h ⟨k⟩
theorem Md(k:q)(h:Hk q→p:=by intro qk;refine G.gtr ?_;refine R.pickOr ?_;exact qk.h):p:=h ⟨k⟩
theorem ak(k:q)(h:Hk q→p:=by intro qk;refine R.nilPtr ?_;refine R.fieldAddrPtr (fo := 2) jU Tryz.sizeOf3 ?_;exact qk.h):p:=h ⟨k⟩
theorem l9(k:q)(h:Hk q→p:=by intro qk;refine Z14 ?_;refine Au ?_;exact qk.h):p:=h ⟨k⟩
theorem nz(h:p:=by refine AW.ret ?_;exact K.fin (V.two (V.cellN jA jS) (V.cellN jA jS)) ⟨by rw [e] <;> rfl, rfl⟩ (hlow := by have := jp (n := Hp.length) (q := (r3Q (Ap s).1).1); simp at this ⊢; exact this)):p:=h
theorem Me(k:q)(h:Hk q→p:=by intro qk;refine Z22 ?_;refine G.move ?_;exact qk.h):p:=h ⟨k⟩
theorem al(k:q)(h:Hk q→p:=by intro qk;refine Z44 ?_;refine D.fieldAddrPtr (fo := 0) jU Tryz.sizeOf121 ?_;exact qk.h):p:=h ⟨k⟩
theorem Qg(k:q)(h:Hk q→p:=by intro qk;refine Ba ?_;refine Cq ?_;exact qk.h):p:=h ⟨k⟩
theorem o0(h:p:=by refine R.fin [1, 3, 7, 10, 12, 13, 14, 15] ?_;exact K.lpN (j + 1) hjl (by omega) (StCut.of_eq (by first | (rw [← kt hjl ht123] <;> rfl) | (rw [← et hjl ht123] <;> rfl)))):p:=h
theorem o1(k:q)(h:Hk q→p:=by intro qk;refine Z14 ?_;refine R.fin [2, 3, 4, 5] ?_;exact qk.h):p:=h ⟨k⟩
theorem la(h:p:=by refine Z11 ?_;exact K.fin (V.two (V.cellN jA jS) (V.cellN jA jS)) ⟨by rw [e] <;> rfl, rfl⟩):p:=h
theorem Li(k:q)(h:Hk q→p:=by intro qk;refine Z24 ?_;refine R.boxRo ?_;exact qk.h):p:=h ⟨k⟩
theorem Qh(k:q)(h:Hk q→p:=by intro qk;refine Do ?_;refine Z40 ?_;exact qk.h):p:=h ⟨k⟩
theorem am(h:p:=by refine AW.skip ?_;exact Z53):p:=h
theorem Jb(k:q)(h:Hk q→p:=by intro qk;refine Z62 ?_;refine Z14 ?_;exact qk.h):p:=h ⟨k⟩
theorem Mf(k:q)(h:Hk q→p:=by intro qk;refine R.eql ?_;refine At ?_;exact qk.h):p:=h ⟨k⟩
theorem Lj(k:q)(h:Hk q→p:=by intro qk;refine Z5 ?_;refine Ba ?_;exact qk.h):p:=h ⟨k⟩
theorem an(k:q)(h:Hk q→p:=by intro qk;refine G.eql ?_;refine Z32 ?_;exact qk.h):p:=h ⟨k⟩
theorem lb(h:p:=by refine AW.ret ?_;exact bh):p:=h
theorem Oa(k:q)(h:Hk q→p:=by intro qk;refine Z84 ?_;refine K.thR ?_;exact qk.h):p:=h ⟨k⟩
theorem Ob(k:q)(h:Hk q→p:=by intro qk;refine Z97 ?_;refine R.fin [1] ?_;exact qk.h):p:=h ⟨k⟩
theorem fp(k:q)(h:Hk q→p:=by intro qk;refine R.fieldAddrRo (off := 2) jU Tryz.sizeOf3 ?_;refine Cq ?_;exact qk.h):p:=h ⟨k⟩
theorem fq(k:q)(h:Hk q→p:=by intro qk;refine R.fieldAddrRo (off := 2) jU Tryz.sizeOf9 ?_;refine Cq ?_;exact qk.h):p:=h ⟨k⟩
theorem fu(k:q)(h:Hk q→p:=by intro qk;refine R.fieldAddrRo (off := 8) jU Tryz.sizeOf3 ?_;refine Cq ?_;exact qk.h):p:=h ⟨k⟩
theorem fw(k:q)(h:Hk q→p:=by intro qk;refine R.call Tryz.call199 (tj l S o _ (Ac ho) hi) ?_;refine Z16 ?_;exact qk.h):p:=h ⟨k⟩
theorem fx(k:q)(h:Hk q→p:=by intro qk;refine D.fieldAddrRo (off := 0) jU Tryz.sizeOf3 ?_;refine Fs ?_;exact qk.h):p:=h ⟨k⟩
theorem Oc(k:q)(h:Hk q→p:=by intro qk;refine Ba ?_;refine Z43 ?_;exact qk.h):p:=h ⟨k⟩
theorem lc(k:q)(h:Hk q→p:=by intro qk;refine Ry ?_;refine Z6 ?_;exact qk.h):p:=h ⟨k⟩
theorem g7(k:q)(h:Hk q→p:=by intro qk;refine Ba ?_;refine R.fieldAddrRo (off := 2) jU Tryz.sizeOf24 ?_;exact qk.h):p:=h ⟨k⟩
theorem Mg(k:q)(h:Hk q→p:=by intro qk;refine Z7 ?_;refine Z11 ?_;exact qk.h):p:=h ⟨k⟩
theorem Jc(k:q)(h:Hk q→p:=by intro qk;refine Z5 ?_;refine Z0 ?_;exact qk.h):p:=h ⟨k⟩
theorem Qi(k:q)(h:Hk q→p:=by intro qk;refine AW.region ?_;refine Z10 ?_;exact qk.h):p:=h ⟨k⟩
theorem ld(k:q)(h:Hk q→p:=by intro qk;refine W.draw [0, 0, 2, 6, 14, 31, 63, 63, 255, 511] 8 Ae (by kernel_rfl) ?_;refine Z65 ?_;exact qk.h):p:=h ⟨k⟩
theorem lf(k:q)(h:Hk q→p:=by intro qk;refine Uk ?_;refine Do ?_;exact qk.h):p:=h ⟨k⟩
theorem Mh(k:q)(h:Hk q→p:=by intro qk;refine Z9 ?_;refine R.neq ?_;exact qk.h):p:=h ⟨k⟩
theorem o3(k:q)(h:Hk q→p:=by intro qk;refine Y.tail (tn := [9, 10]) (O := [.cells 24 [A4 0, A4 0, A8 []], .cells 24 [A4 (Ai ra).1.kind, A4 (Ai ra).1.n, A8 (Ai ra).1.s]]) ?_;refine Au ?_;exact qk.h):p:=h ⟨k⟩
theorem o4(h:p:=by refine R.fin [] ?_;exact ql):p:=h
theorem Mi(k:q)(h:Hk q→p:=by intro qk;refine Z17 ?_;refine Z77 ?_;exact qk.h):p:=h ⟨k⟩
theorem Qj(k:q)(h:Hk q→p:=by intro qk;refine R.nilPtr ?_;refine R.fieldAddrPtr (fo := 3) jU Tryz.sizeOf50 ?_;refine i7 ?_;exact qk.h):p:=h ⟨k⟩
theorem lg(k:q)(h:Hk q→p:=by intro qk;refine D.loadUp jA ho ?_;refine D.indexAddr (S.i) (Er (A9 l S.i)) jU jS (It hi) ?_;exact qk.h):p:=h ⟨k⟩
theorem o5(h:p:=by refine AW.skip ?_;exact ql):p:=h
theorem Qk(k:q)(h:Hk q→p:=by intro qk;refine Z26 ?_;refine Ba ?_;exact qk.h):p:=h ⟨k⟩
theorem Xl(k:q)(h:Hk q→p:=by intro qk;refine l9 ?_;refine R.fin [2, 3, 4, 5] ?_;exact qk.h):p:=h ⟨k⟩
theorem ap(h:p:=by refine Z76 ?_;exact Y0):p:=h
theorem lh(k:q)(h:Hk q→p:=by intro qk;refine R.len jU ?_;refine R.lss ?_;exact qk.h):p:=h ⟨k⟩
theorem li(h:p:=by refine D.loadOwnN jA jS ?_;exact Jd):p:=h
theorem lj(h:p:=by refine Z4 ?_;exact K.fin (V.one V.tmp) ⟨by simp_all [Vj], rfl⟩):p:=h
theorem o6(h:p:=by refine AW.ret ?_;exact K.fin (V.two (V.cell jA) (V.cell jA)) ⟨by rw [hy.2, hrun], rfl⟩ (hlow := by simp [or_imp, forall_and])):p:=h
theorem Rr(k:q)(h:Hk q→p:=by intro qk;refine R.neq ?_;refine Au ?_;exact qk.h):p:=h ⟨k⟩
theorem o7(h:p:=by refine Z41 ?_;exact K.fin (V.one V.tmp) ⟨rfl, by first | (rw [e]; done) | (rw [e]; rfl) | (rw [e]; exact (B4 ho).symm)⟩):p:=h
theorem o8(h:p:=by refine R.fin [0, 1, 7, 8] ?_;exact K.lpN (x + 1) ⟨hlt, Da hlt hx.2 (by rw [ht16]; simp)⟩ (by omega) (StCut.of_eq rfl)):p:=h
theorem Od(k:q)(h:Hk q→p:=by intro qk;refine Z23 ?_;refine Z4 ?_;exact qk.h):p:=h ⟨k⟩
theorem o9(k:q)(h:Hk q→p:=by intro qk;refine H.call Tryz.call122 (fun hB => Ut true _) ?_;refine H.eqlAgg S1 (fun w => Fl (Fh x c l).1.kind (Fh x c l).1.n 3 1 (Fh x c l).1.s [] w) ?_;exact qk.h):p:=h ⟨k⟩
theorem Ql(k:q)(h:Hk q→p:=by intro qk;refine Z28 ?_;refine G.seql ?_;exact qk.h):p:=h ⟨k⟩
theorem ll(k:q)(h:Hk q→p:=by intro qk;refine Me ?_;refine G.indexAddr (y) (Ab x.1[y]) jU jS (fun _ => Be hlt) ?_;exact qk.h):p:=h ⟨k⟩
theorem aq(h:p:=by refine W.keep [3, 8] ?_;exact am):p:=h
theorem Rt(k:q)(h:Hk q→p:=by intro qk;refine Z3 ?_;refine R.fin [6] ?_;exact qk.h):p:=h ⟨k⟩
theorem lm(h:p:=by refine an ?_;refine Z2 ?_;refine Z4 ?_;exact qj):p:=h
theorem U3(k:q)(h:Hk q→p:=by intro qk;refine R.slen jU ?_;refine R.gtr ?_;exact qk.h):p:=h ⟨k⟩
theorem Xm(h:p:=by refine R.fin [] ?_;refine K.blN ?_;exact K.finN .nores ⟨rfl, by rw [pe] <;> simp [Yo]⟩):p:=h
theorem Ru(k:q)(h:Hk q→p:=by intro qk;refine Eq ?_;refine Z48 ?_;exact qk.h):p:=h ⟨k⟩
theorem Rv(k:q)(h:Hk q→p:=by intro qk;refine Z30 ?_;refine Au ?_;exact qk.h):p:=h ⟨k⟩
theorem Oe(k:q)(h:Hk q→p:=by intro qk;refine Z96 ?_;refine Z55 ?_;exact qk.h):p:=h ⟨k⟩
theorem Xn(k:q)(h:Hk q→p:=by intro qk;refine AW.region ?_;refine Au ?_;exact qk.h):p:=h ⟨k⟩
theorem Xo(k:q)(h:Hk q→p:=by intro qk;refine D.move ?_;refine D.move ?_;exact qk.h):p:=h ⟨k⟩
theorem Qm(k:q)(h:Hk q→p:=by intro qk;refine Z21 ?_;refine Z82 ?_;exact qk.h):p:=h ⟨k⟩
theorem g8(h:p:=by refine AW.ret ?_;exact Y0):p:=h
theorem Rw(k:q)(h:Hk q→p:=by intro qk;refine Ba ?_;refine Z39 ?_;exact qk.h):p:=h ⟨k⟩
theorem U4(k:q)(h:Hk q→p:=by intro qk;refine G.neq ?_;refine R.pickOr ?_;exact qk.h):p:=h ⟨k⟩
theorem g9(h:p:=by refine Z41 ?_;exact Y0):p:=h
theorem ln(k:q)(h:Hk q→p:=by intro qk;refine H.fieldAddrRo (off := 1) jU Tryz.sizeOf44 ?_;refine H.loadRo jA ?_;exact qk.h):p:=h ⟨k⟩
theorem Of(k:q)(h:Hk q→p:=by intro qk;refine Z9 ?_;refine Z70 ?_;exact qk.h):p:=h ⟨k⟩
theorem U5(k:q)(h:Hk q→p:=by intro qk;refine R.pickAnd ?_;refine Z22 ?_;exact qk.h):p:=h ⟨k⟩
theorem lq(k:q)(h:Hk q→p:=by intro qk;refine R.fieldAddrRo (off := 1) jU Tryz.sizeOf44 ?_;refine Cq ?_;exact qk.h):p:=h ⟨k⟩
theorem oa(h:p:=by refine D.build (places := #[(0, 1), (1, 1)]) jU (fun w => by simp) jZ ?_;exact Jd):p:=h
theorem ar(h:p:=by refine U2 ?_;refine Z50 ?_;refine G.len jU ?_;exact lm):p:=h
theorem Qn(k:q)(h:Hk q→p:=by intro qk;refine Z91 ?_;refine Z4 ?_;exact qk.h):p:=h ⟨k⟩
theorem lr(k:q)(h:Hk q→p:=by intro qk;refine D.indexAddr (0) (Ab k0) jU jS h0 ?_;refine I9 ?_;exact qk.h):p:=h ⟨k⟩
theorem ls(k:q)(h:Hk q→p:=by intro qk;refine R.fieldAddrRo (off := 0) jU Tryz.sizeOf4 ?_;refine Cq ?_;exact qk.h):p:=h ⟨k⟩
theorem lu(k:q)(h:Hk q→p:=by intro qk;refine R.fieldAddrRo (off := 1) jU Tryz.sizeOf3 ?_;refine Cq ?_;exact qk.h):p:=h ⟨k⟩
theorem ob(h:p:=by refine G.call Tryz.call128 (fun hB => qq e.text I5 hs (by decide) _) ?_;exact ar):p:=h
theorem lv(k:q)(h:Hk q→p:=by intro qk;refine G.fieldAddrRo (off := 8) jU Tryz.sizeOf3 ?_;refine G.loadRo jA ?_;exact qk.h):p:=h ⟨k⟩
theorem oc(h:p:=by refine AW.ret ?_;exact K.fin (V.two V.tmp V.tmp) ⟨by unfold Wp; rw [hm]; try rfl, rfl⟩):p:=h
theorem Xp(k:q)(h:Hk q→p:=by intro qk;refine D.assign ?_;refine D.tail ?_;exact qk.h):p:=h ⟨k⟩
theorem U6(k:q)(h:Hk q→p:=by intro qk;refine Ba ?_;refine Z16 ?_;exact qk.h):p:=h ⟨k⟩
theorem au(k:q)(h:Hk q→p:=by intro qk;refine Ba ?_;refine In ?_;exact qk.h):p:=h ⟨k⟩
theorem lw(h:p:=by refine Z6 ?_;exact K.fin (V.one (V.cellN jA jS))):p:=h
theorem U7(k:q)(h:Hk q→p:=by intro qk;refine Z81 ?_;refine D.tail ?_;exact qk.h):p:=h ⟨k⟩
theorem Xq(k:q)(h:Hk q→p:=by intro qk;refine R.gtr ?_;refine Au ?_;exact qk.h):p:=h ⟨k⟩
theorem lx(k:q)(h:Hk q→p:=by intro qk;refine Y.allocP Tryz.zeroValue82 ?_;refine Y.storeP Tryz.sizeOf82 ?_;exact qk.h):p:=h ⟨k⟩
theorem Xr(k:q)(h:Hk q→p:=by intro qk;refine R.len jU ?_;refine R.gtr ?_;exact qk.h):p:=h ⟨k⟩
theorem ly(h:p:=by refine I9 ?_;exact Jd):p:=h
theorem Xs(h:p:=by refine Z3 ?_;refine Z90 ?_;exact Y1):p:=h
theorem ga(h:p:=by refine Z7 ?_;exact Z37):p:=h
theorem gb(h:p:=by refine Do ?_;exact Z49):p:=h
theorem gc(k:q)(h:Hk q→p:=by intro qk;refine Z5 ?_;refine Z21 ?_;exact qk.h):p:=h ⟨k⟩
theorem od(k:q)(h:Hk q→p:=by intro qk;refine Ry ?_;refine R.wk 19 _ Nm ?_;exact qk.h):p:=h ⟨k⟩
theorem ge(k:q)(h:Hk q→p:=by intro qk;refine Do ?_;refine R.fin [6, 7] ?_;exact qk.h):p:=h ⟨k⟩
theorem av(k:q)(h:Hk q→p:=by intro qk;refine Z83 ?_;refine Do ?_;exact qk.h):p:=h ⟨k⟩
theorem aw(k:q)(h:Hk q→p:=by intro qk;refine R.fin [0, 2, 3] ?_;refine Z0 ?_;exact qk.h):p:=h ⟨k⟩
theorem oe(h:p:=by refine Z57 ?_;exact qj):p:=h
theorem lz(k:q)(h:Hk q→p:=by intro qk;refine Dn ?_;refine R.call Tryz.call92 (c92 e _) ?_;exact qk.h):p:=h ⟨k⟩
theorem og(h:p:=by refine Z11 ?_;exact qc):p:=h
theorem ax(h:p:=by refine Z84 ?_;exact Z60):p:=h
theorem oh(h:p:=by refine K.lpN (x + 1) ⟨hlt, hn⟩ (by omega) ?_;exact StCut.of_eq (by simp)):p:=h
theorem Xt(k:q)(h:Hk q→p:=by intro qk;refine K.blR ?_;refine K.lpR ?_;exact qk.h):p:=h ⟨k⟩
theorem ay(h:p:=by refine Z57 ?_;refine Z4 ?_;exact K.fin (V.one V.tmp) ⟨by simp_all [J5], rfl⟩):p:=h
theorem oi(h:p:=by refine Z11 ?_;exact qh):p:=h
theorem ol(h:p:=by refine Z11 ?_;exact m9):p:=h
theorem om(k:q)(h:Hk q→p:=by intro qk;refine In ?_;refine Ry ?_;exact qk.h):p:=h ⟨k⟩
theorem oo(k:q)(h:Hk q→p:=by intro qk;refine Z92 ?_;refine R.callUp Tryz.call110 ho (by simp) Bf (Yp l S 8 (A9 l S.i).at_ o _ (Ac ho)) ?_;exact qk.h):p:=h ⟨k⟩
theorem ot(h:p:=by refine K.thR ?_;exact K.fin (V.one V.tmp) ⟨by rw [hx.eq, hw], rfl⟩):p:=h
theorem az(k:q)(h:Hk q→p:=by intro qk;refine Z19 ?_;refine R.fin [3, 8] ?_;exact qk.h):p:=h ⟨k⟩
theorem U8(k:q)(h:Hk q→p:=by intro qk;refine Z13 ?_;refine Z77 ?_;exact qk.h):p:=h ⟨k⟩
theorem ou(h:p:=by refine Oa ?_;exact K.fin (V.two V.tmp V.tmp) ⟨by rw [hbad], rfl⟩):p:=h
theorem ov(h:p:=by refine Z6 ?_;exact K.fin (V.one (V.cellN jA jS)) ⟨by simp [ht5], rfl⟩):p:=h
theorem U9(k:q)(h:Hk q→p:=by intro qk;refine Z14 ?_;refine o1 ?_;exact qk.h):p:=h ⟨k⟩
theorem ow(h:p:=by refine D.fieldAddrPtr (fo := 5) jU Tryz.sizeOf25 ?_;exact Jd):p:=h
theorem b6(k:q)(h:Hk q→p:=by intro qk;refine Z14 ?_;refine R.fin [2, 3] ?_;exact qk.h):p:=h ⟨k⟩
theorem Ua(k:q)(h:Hk q→p:=by intro qk;refine W.seq ?_;refine Z3 ?_;exact qk.h):p:=h ⟨k⟩
theorem Ub(k:q)(h:Hk q→p:=by intro qk;refine Z9 ?_;refine R.lss ?_;exact qk.h):p:=h ⟨k⟩
theorem oy(k:q)(h:Hk q→p:=by intro qk;refine H.call Tryz.call129 (fun hB => qr e.text _) ?_;refine H.fieldAddrRo (off := 5) jU Tryz.sizeOf25 ?_;exact qk.h):p:=h ⟨k⟩
theorem m0(h:p:=by refine D.assign ?_;exact Jd):p:=h
theorem oz(k:q)(h:Hk q→p:=by intro qk;refine R.indexAddr (1) (Ab (e.kids.getD 1 Ah)) jU jS (Jx (by omega)).1 ?_;refine Dn ?_;exact qk.h):p:=h ⟨k⟩
theorem Xu(k:q)(h:Hk q→p:=by intro qk;refine Ba ?_;refine Z61 ?_;exact qk.h):p:=h ⟨k⟩
theorem Xv(k:q)(h:Hk q→p:=by intro qk;refine fl ?_;refine AW.ret ?_;exact qk.h):p:=h ⟨k⟩
theorem p8(h:p:=by refine Mg ?_;exact i8):p:=h
theorem p9(h:p:=by refine Od ?_;exact i8):p:=h
theorem Uc(k:q)(h:Hk q→p:=by intro qk;refine Z8 ?_;refine R.call Tryz.call224 (uf _ _ _) ?_;refine Z36 ?_;exact qk.h):p:=h ⟨k⟩
theorem m3(h:p:=by refine D.move ?_;refine Z81 ?_;exact Jd):p:=h
theorem gg(h:p:=by refine K.blN ?_;refine K.thJ ?_;exact StLe.of_eq (by rw [e] <;> rfl)):p:=h
theorem pa(k:q)(h:Hk q→p:=by intro qk;refine D.build (places := #[(0, 1), (1, 1), (2, 6), (8, 1)]) jU (fun w => by simp) jZ ?_;refine Z44 ?_;exact qk.h):p:=h ⟨k⟩
theorem Ud(k:q)(h:Hk q→p:=by intro qk;refine Z5 ?_;refine Z26 ?_;exact qk.h):p:=h ⟨k⟩
theorem pc(k:q)(h:Hk q→p:=by intro qk;refine W.draw [0, 1, 3, 7, 15, 3, 35, 99, 255, 511, 1023] 8 Ae (by kernel_rfl) ?_;refine Xo ?_;exact qk.h):p:=h ⟨k⟩
theorem pg(h:p:=by refine D.fieldAddrPtr (fo := 2) jU Tryz.sizeOf50 ?_;exact li):p:=h
theorem ph(h:p:=by refine Z23 ?_;exact i8):p:=h
theorem gh(k:q)(h:Hk q→p:=by intro qk;refine R.loadUp jA ho ?_;refine R.add64 ?_;exact qk.h):p:=h ⟨k⟩
theorem pi(h:p:=by refine D.call Tryz.call206 (s0 c l k0 ra ha _) ?_;exact m3):p:=h
theorem m4(k:q)(h:Hk q→p:=by intro qk;refine Ba ?_;refine R.call Tryz.call183 (sx _) ?_;exact qk.h):p:=h ⟨k⟩
theorem gi(k:q)(h:Hk q→p:=by intro qk;refine Z30 ?_;refine R.fin [0, 1, 2, 6] ?_;exact qk.h):p:=h ⟨k⟩
theorem pj(k:q)(h:Hk q→p:=by intro qk;refine R.fin [0, 3, 4] ?_;refine W.draw [0, 1, 3, 0, 8, 24, 56, 127] 7 Ae (by kernel_rfl) ?_;exact qk.h):p:=h ⟨k⟩
theorem Ue(k:q)(h:Hk q→p:=by intro qk;refine Z24 ?_;refine Z14 ?_;exact qk.h):p:=h ⟨k⟩
theorem Uf(k:q)(h:Hk q→p:=by intro qk;refine Z3 ?_;refine Au ?_;refine R.fin [0, 1] ?_;exact qk.h):p:=h ⟨k⟩
theorem pk(k:q)(h:Hk q→p:=by intro qk;refine W.draw [0, 0, 0, 7, 15, 15, 63, 127] 6 Ae (by kernel_rfl) ?_;refine I9 ?_;exact qk.h):p:=h ⟨k⟩
theorem gj(k:q)(h:Hk q→p:=by intro qk;refine Au ?_;refine Lk ?_;exact qk.h):p:=h ⟨k⟩
theorem b7(k:q)(h:Hk q→p:=by intro qk;refine G.eql ?_;refine R.pickOr ?_;exact qk.h):p:=h ⟨k⟩
theorem m5(h:p:=by refine Do ?_;exact ga):p:=h
theorem pl(k:q)(h:Hk q→p:=by intro qk;refine H.move ?_;refine H.indexAddr (x) (Df (C3 q c rows).1[x]) jU jS (fun _ => Be hlt) ?_;exact qk.h):p:=h ⟨k⟩
theorem Uh(k:q)(h:Hk q→p:=by intro qk;refine Z3 ?_;refine Z41 ?_;exact qk.h):p:=h ⟨k⟩
theorem b8(k:q)(h:Hk q→p:=by intro qk;refine l9 ?_;refine R.fin [0] ?_;exact qk.h):p:=h ⟨k⟩
theorem b9(k:q)(h:Hk q→p:=by intro qk;refine R.fin [] ?_;refine Z11 ?_;exact qk.h):p:=h ⟨k⟩
theorem Xw(k:q)(h:Hk q→p:=by intro qk;refine Lh ?_;refine lh ?_;exact qk.h):p:=h ⟨k⟩
theorem ba(k:q)(h:Hk q→p:=by intro qk;refine G.not ?_;refine R.pickOr ?_;exact qk.h):p:=h ⟨k⟩
theorem gk(k:q)(h:Hk q→p:=by intro qk;refine Z19 ?_;refine R.fin [2, 3, 18] ?_;exact qk.h):p:=h ⟨k⟩
theorem gm(k:q)(h:Hk q→p:=by intro qk;refine R.fin [2, 3, 6, 7] ?_;refine Z0 ?_;exact qk.h):p:=h ⟨k⟩
theorem pm(h:p:=by refine Z57 ?_;exact Y1):p:=h
theorem pq(k:q)(h:Hk q→p:=by intro qk;refine W.draw [0, 1, 3, 7, 7, 31, 63, 0, 127, 511] 9 Ae (by kernel_rfl) ?_;refine D.move ?_;exact qk.h):p:=h ⟨k⟩
theorem Ui(k:q)(h:Hk q→p:=by intro qk;refine Z5 ?_;refine Z31 ?_;exact qk.h):p:=h ⟨k⟩
theorem Xx(k:q)(h:Hk q→p:=by intro qk;refine R.eql ?_;refine Z22 ?_;exact qk.h):p:=h ⟨k⟩
theorem bb(k:q)(h:Hk q→p:=by intro qk;refine Z29 ?_;refine R.slen jU ?_;exact qk.h):p:=h ⟨k⟩
theorem pt(h:p:=by refine Z76 ?_;exact K.fin (V.one V.tmp) ⟨by simp, rfl⟩):p:=h
theorem gn(h:p:=by refine Z3 ?_;exact nx):p:=h
theorem Xy(k:q)(h:Hk q→p:=by intro qk;refine Z62 ?_;refine Z16 ?_;refine Au ?_;exact qk.h):p:=h ⟨k⟩
theorem bc(k:q)(h:Hk q→p:=by intro qk;refine gc ?_;refine At ?_;exact qk.h):p:=h ⟨k⟩
theorem m6(k:q)(h:Hk q→p:=by intro qk;refine R.nilCell 0 1 1 ?_;refine R.nilCell 0 7 6 ?_;exact qk.h):p:=h ⟨k⟩
theorem gt(k:q)(h:Hk q→p:=by intro qk;refine Z86 ?_;refine D.loadUp jA ho ?_;exact qk.h):p:=h ⟨k⟩
theorem be(k:q)(h:Hk q→p:=by intro qk;refine R.nilPtr ?_;refine R.fieldAddrPtr (fo := 2) jU Tryz.sizeOf50 ?_;refine i7 ?_;exact qk.h):p:=h ⟨k⟩
theorem gu(k:q)(h:Hk q→p:=by intro qk;refine Z83 ?_;refine R.fin [2, 3, 4] ?_;exact qk.h):p:=h ⟨k⟩
theorem Xz(k:q)(h:Hk q→p:=by intro qk;refine Mb ?_;refine Z20 ?_;exact qk.h):p:=h ⟨k⟩
theorem gv(k:q)(h:Hk q→p:=by intro qk;refine R.fin [0, 2, 3] ?_;refine Z9 ?_;exact qk.h):p:=h ⟨k⟩
theorem gw(k:q)(h:Hk q→p:=by intro qk;refine In ?_;refine R.neq ?_;exact qk.h):p:=h ⟨k⟩
theorem gx(h:p:=by refine Z3 ?_;exact ny):p:=h
theorem pu(h:p:=by refine R.call Tryz.call122 (Ut _ _) ?_;exact Qf):p:=h
theorem gy(k:q)(h:Hk q→p:=by intro qk;refine Z19 ?_;refine R.fin [2, 22] ?_;exact qk.h):p:=h ⟨k⟩
theorem Rx(h:p:=by exact ⟨rfl, Below.refl _ _⟩):p:=h
theorem Ba(k:q)(h:Hk q→p:=by intro qk;refine AW.seqR ?_;exact qk.h):p:=h ⟨k⟩
theorem Au(k:q)(h:Hk q→p:=by intro qk;refine R.assign ?_;exact qk.h):p:=h ⟨k⟩
theorem Uj(k:q)(h:Hk q→p:=by intro qk;refine R.build (places := #[(0, 1), (1, 1), (2, 1)]) jU (fun w => by simp) jZ ?_;exact qk.h):p:=h ⟨k⟩
theorem In(k:q)(h:Hk q→p:=by intro qk;refine R.loadOwn jA ?_;exact qk.h):p:=h ⟨k⟩
theorem At(k:q)(h:Hk q→p:=by intro qk;refine R.move ?_;exact qk.h):p:=h ⟨k⟩
theorem Cq(k:q)(h:Hk q→p:=by intro qk;refine R.loadRo jA ?_;exact qk.h):p:=h ⟨k⟩
theorem m7(k:q)(h:Hk q→p:=by intro qk;refine R.indexAddr (x) (Rz c[x]) jU jS (Be hlt) ?_;exact qk.h):p:=h ⟨k⟩
theorem Dn(k:q)(h:Hk q→p:=by intro qk;refine R.loadRoN jA jS ?_;exact qk.h):p:=h ⟨k⟩
theorem Lk(k:q)(h:Hk q→p:=by intro qk;refine R.fin [0, 3] ?_;exact qk.h):p:=h ⟨k⟩
theorem Y0(h:p:=by exact K.fin (V.one V.tmp)):p:=h
theorem Do(k:q)(h:Hk q→p:=by intro qk;refine R.storeOwn jS ?_;exact qk.h):p:=h ⟨k⟩
theorem pv(h:p:=by exact K.fin (V.one V.tmp) ⟨by simp only [D6, hp, ht7, ht14, ht23, ht27, Bool.not_true, Bool.false_eq_true, if_false, if_true]; try rfl, rfl⟩):p:=h
theorem Mj(k:q)(h:Hk q→p:=by intro qk;refine R.loadOwnN jA jS ?_;exact qk.h):p:=h ⟨k⟩
theorem pw(h:p:=by exact K.fin (V.two (V.cellN jA jS) V.tmp) ⟨by simp only [S7, ht17, if_true, if_false, Bool.false_eq_true]; rfl, rfl⟩):p:=h
theorem Eq(k:q)(h:Hk q→p:=by intro qk;refine AW.block ?_;exact qk.h):p:=h ⟨k⟩
theorem px(h:p:=by exact K.fin (V.four V.tmp V.tmp V.tmp V.tmp) ⟨by simp only [Iq, ht11, ht17, if_true, if_false, Bool.false_eq_true]; try rfl, rfl⟩):p:=h
theorem py(h:p:=by exact K.fin (V.four V.tmp V.tmp V.tmp V.tmp) ⟨by simp only [Mt, ht18, ht23, if_true, if_false, Bool.false_eq_true]; try rfl, rfl⟩):p:=h
theorem pz(h:p:=by exact K.fin (V.four V.tmp V.tmp V.tmp V.tmp) ⟨by simp only [Az, ht6, ht17, ht28, if_true, if_false, Bool.false_eq_true], rfl⟩):p:=h
theorem bf(h:p:=by exact absurd h (by decide)):p:=h
theorem Mk(k:q)(h:Hk q→p:=by intro qk;refine R.buildSlice jU jS jZ ?_;exact qk.h):p:=h ⟨k⟩
theorem Uk(k:q)(h:Hk q→p:=by intro qk;refine R.build (places := #[(0, 1), (1, 1)]) jU (fun w => by simp) jZ ?_;exact qk.h):p:=h ⟨k⟩
theorem gz(k:q)(h:Hk q→p:=by intro qk;refine G.fieldAddrRo (off := 2) jU Tryz.sizeOf24 ?_;exact qk.h):p:=h ⟨k⟩
theorem i6(h:p:=by exact ⟨hFRl, by simp [oid]⟩):p:=h
theorem bg(h:p:=by exact Jj (fun x hx => ObjLow.le (by omega) (hlow x hx)) hOl x hx):p:=h
theorem Ry(k:q)(h:Hk q→p:=by intro qk;refine R.build (places := #[(0, 1), (1, 1), (2, 3), (5, 1)]) jU (fun w => by simp) jZ ?_;exact qk.h):p:=h ⟨k⟩
theorem Jd(h:p:=by exact D.end rfl rfl):p:=h
theorem Og(h:p:=by exact Nr _):p:=h
theorem Fs(k:q)(h:Hk q→p:=by intro qk;refine D.loadRo jA ?_;exact qk.h):p:=h ⟨k⟩
theorem q8(h:p:=by exact K.fin (V.one (V.cellN jA jS)) ⟨by rw [e, Af], by rw [e]⟩ (hlow := low_agg _)):p:=h
theorem q9(h:p:=by exact ⟨Nat.le_of_eq (Jw _ _ _).symm, by rw [Jw]; exact hi, hc⟩):p:=h
theorem i7(k:q)(h:Hk q→p:=by intro qk;refine R.fieldAddrPtr (fo := 0) jU Tryz.sizeOf36 ?_;exact qk.h):p:=h ⟨k⟩
theorem qa(k:q)(h:Hk q→p:=by intro qk;refine Y.storeOwn (u := Hp.length) (n := 0) (t' := 29) (cs := [Ak false, .nil, A4 0, A8 [], A4 0, A4 0, A8 [], .nil, A4 0]) (cs' := [Ak false, .nil, A4 0, A8 [], A4 0, A4 0, A8 [], .nil, A4 0]) Tryz.sizeOf29 (fun B hB => ⟨rfl, rfl, rfl, rfl⟩) ?_;exact qk.h):p:=h ⟨k⟩
theorem qb(k:q)(h:Hk q→p:=by intro qk;refine W.drawY [0, 0, 2, 6, 14, 1, 63] [5] [.q 5 [] [], .s [] (some 0) [] []] (fun _ => Hp) (fun _ => [.cells 29 [Ak false, .nil, A4 0, A8 [], A4 0, A4 0, A8 [], .nil, A4 0], .cells 50 [A4 0, A4 0], .cells 50 [A4 (Ap s).2.1, A4 ((Ap s).2.2 : Nat)], prq (Ap s).1 (s5Q (Ap s).1), qo true (r3Q (Ap s).1).1]) Ae (by kernel_rfl) rfl rfl (fun _ => rfl) ?_;exact qk.h):p:=h ⟨k⟩
theorem I9(k:q)(h:Hk q→p:=by intro qk;refine D.loadRoN jA jS ?_;exact qk.h):p:=h ⟨k⟩
theorem qc(h:p:=by exact K.fin (V.two V.tmp V.tmp) ⟨by rw [hsh] <;> rfl, rfl⟩):p:=h
theorem m8(h:p:=by exact K.fin (V.one V.tmp) ⟨by rw [e], rfl⟩):p:=h
theorem m9(h:p:=by exact K.fin (V.two V.tmp V.tmp) ⟨by rw [e] <;> rfl, rfl⟩):p:=h
theorem qd(h:p:=by exact K.fin (V.two (V.cellN jA jS) V.tmp) ⟨by rw [hw]; try rfl, rfl⟩):p:=h
theorem Y1(h:p:=by exact K.fin (V.one V.tmp) ⟨by rw [hm], rfl⟩):p:=h
theorem i8(h:p:=by exact K.fin (V.two V.tmp V.tmp) ⟨by rw [hm], rfl⟩):p:=h
theorem qe(h:p:=by exact K.fin (V.one (V.cellN jA jS)) ⟨by rw [hm]; try rfl, rfl⟩):p:=h
theorem qf(k:q)(h:Hk q→p:=by intro qk;refine Y.alloc (zs := [A4 0, A4 0, A8 []]) (n := 1) (u := Hp.length) Tryz.zeroValue24 (fun B hT hF hB => ⟨rfl, by simp [hB], by simp [upd, hB, hF 1 (by simp)], rfl⟩) ?_;exact qk.h):p:=h ⟨k⟩
theorem Y2(k:q)(h:Hk q→p:=by intro qk;refine R.fin [2, 6, 13, 14, 15] ?_;exact qk.h):p:=h ⟨k⟩
theorem ma(h:p:=by exact K.fin (V.two V.tmp V.tmp) ⟨by rw [hk], rfl⟩):p:=h
theorem qg(h:p:=by exact K.fin (V.two V.tmp V.tmp) ⟨by rw [hk, hk2], rfl⟩):p:=h
theorem qh(h:p:=by exact K.fin (V.two V.tmp V.tmp) ⟨by rw [hm] <;> rfl, rfl⟩):p:=h
theorem bh(h:p:=by exact K.fin (V.two (V.cellN jA jS) V.tmp) ⟨by rw [hm]; try rfl, rfl⟩):p:=h
theorem qi(h:p:=by exact K.fin .nores (hp := ⟨rfl, by first | (rw [e]; exact (Pw hne ho hoq).symm) | (rw [e]; exact (B4 (Yx hne hoq)).symm) | (rw [e]; simp only [List.set_set]; exact (B4 (Yx hne hoq)).symm) | (rw [e]; simp only [List.set_set]; rw [di hne]; rfl) | (rw [e]; simp only [List.set_set]; rw [List.set_comm _ _ hne]; rfl)⟩)):p:=h
theorem qj(h:p:=by exact K.fin (V.one V.tmp) ⟨by simp_all [C8, Gr], rfl⟩):p:=h
theorem ql(h:p:=by exact K.finN .nores (hp := ⟨rfl, by first | (rw [e]; done) | (rw [e]; rfl) | (rw [e]; exact (B4 ho).symm)⟩)):p:=h
end Go.SX.Nb
namespace Go.SX.Nb
open Go Go.SX Go.Proofs
set_option maxRecDepth 4000

/-- Where strconv.ErrRange and strconv.ErrSyntax point. -/
class ErrAt where
 b : Addr
 bs : Addr
/-- The package-level variables of which something is known: bytealg.MaxLen is a number; strconv.ErrRange is an error of errors.New's make; the table of powers of ten. -/
def Ml [E : ErrAt] : List (Nat × (Obj → Prop)) := [(2, fun o => ∃ m t f, o = .cells #[.int .i64 m] t f), (1, fun o => ∃ t f, o = .cells #[.iface 229 (.pointer (some E.b))] t f), (0, fun o => ∃ t f, o = .cells #[.iface 229 (.pointer (some E.bs))] t f), (3, fun o => ∃ t f, o = .cells (Lib.pow10Tab.map fun z => Value.int .u64 z).toArray t f)]
instance globInv [ErrAt] : GlobInv := ⟨Ml⟩
variable [ErrAt]

abbrev Str := List UInt8
structure Col where
 name : Str
 kind : Int
 deriving DecidableEq
structure Val where
 kind : Int
 n : Int
 s : Str
 deriving DecidableEq
structure Row where
 key : Int
 l : List Val
 deriving DecidableEq
abbrev A8 (s : Str) : AV := .v (sv s)
abbrev A4 (n : Int) : AV := .v (.int .i64 n)
abbrev bi (n : Int) : AV := .v (.int .u64 n)
abbrev Ak (b : Bool) : AV := .v (.bool b)
abbrev Rz (c : Col) : AV := .agg [.v (sv c.name), .v (.int .i64 c.kind)]
abbrev C0 (c : List Col) : AV := .slice false 2 (c.map Rz)
abbrev Bh (v : Val) : AV := .agg [.v (.int .i64 v.kind), .v (.int .i64 v.n), .v (sv v.s)]
abbrev Ev (l : List Val) : AV := .slice false 3 (l.map Bh)
abbrev Df (r : Row) : AV := .agg [.v (.int .i64 r.key), .slice false 3 (r.l.map Bh)]
abbrev Ew (l : List Row) : AV := .slice false 2 (l.map Df)
abbrev Gq (l : List Str) : AV := .slice false 1 (l.map A8)
theorem Be {α β : Type} {f : α → β} {l : List α} {i : Nat} (h : i < l.length) : (l.map f)[i]? = some (f l[i]) := by simp [h]
theorem Ae : Tryz.prog.follows .mixedOrders = true := by kernel_rfl
theorem S1 : Tryz.prog.eqGuardType Tryz.prog.depth 24 = false := by kernel_rfl
theorem Fl (k n k' n' : Int) (s s' : List UInt8) (w : World) : (Op.equal 24 (.agg #[.int .i64 k, .int .i64 n, .string ⟨s.toArray⟩]) (.agg #[.int .i64 k', .int .i64 n', .string ⟨s'.toArray⟩])).run Tryz.prog w = .ok (k == k' && n == n' && s == s') w := by
 have h1 : Tryz.prog.stoodInHeld 24 = false := by kernel_rfl
 show (Op.equalIn (9999 + 1) _ _ _).run _ _ = _
 rw [Op.equalIn]
 generalize hd : (9999 : Nat) = d
 obtain ⟨d, rfl⟩ : ∃ e, d = e + 1 := ⟨9998, hd.symm⟩
 clear hd
 simp [run_underlying Tryz.underlying24, h1, part, kz _ _ _ _ _ _ Tryz.underlying3, kz _ _ _ _ _ _ Tryz.underlying2, nv _ _ _ _ _ Tryz.underlying9, Tryz.isAgg3, Tryz.isAgg2, Tryz.isAgg9]
 by_cases e1 : k = k' <;> by_cases e2 : n = n' <;> by_cases e3 : s = s' <;> simp [e1, e2, e3]
end Go.SX.Nb
namespace Go.Proofs
open Go Go.Shelf
def Tryz.ren144 : Ren where
 f := fun x => match x with | 144 => 125 | 143 => 163 | 219 => 190 | 217 => 198 | 225 => 210 | 224 => 211 | 267 => 212 | 266 => 220 | 314 => 229 | n => n
 t := fun x => match x with | 9 => 9 | 4 => 4 | 3 => 3 | 5 => 5 | 46 => 42 | 146 => 250 | 51 => 217 | n => n
 g := fun x => match x with | 1 => 2 | n => n
theorem Tryz.lays144 : Lays.n144 Tryz.prog Tryz.ren144 where
 mixed := by kernel_rfl
 f143 := Tryz.func163
 f144 := Tryz.func125
 f217 := Tryz.func198
 f219 := Tryz.func190
 f224 := Tryz.func211
 f225 := Tryz.func210
 f266 := Tryz.func220
 f267 := Tryz.func212
 f314 := Tryz.func229
 t3 := Tryz.underlying3
 a3 := Tryz.isAgg3
 z3 := Tryz.sizeOf3
 v3 := Tryz.zeroValue3
 t4 := Tryz.underlying4
 a4 := Tryz.isAgg4
 z4 := Tryz.sizeOf4
 v4 := Tryz.zeroValue4
 t5 := Tryz.underlying5
 a5 := Tryz.isAgg5
 z5 := Tryz.sizeOf5
 v5 := Tryz.zeroValue5
 t9 := Tryz.underlying9
 a9 := Tryz.isAgg9
 z9 := Tryz.sizeOf9
 v9 := Tryz.zeroValue9
 t46 := Tryz.underlying42
 a46 := Tryz.isAgg42
 z46 := Tryz.sizeOf42
 v46 := Tryz.zeroValue42
 t51 := Tryz.underlying217
 a51 := Tryz.isAgg217
 z51 := Tryz.sizeOf217
 v51 := Tryz.zeroValue217
 t146 := Tryz.underlying250
 a146 := Tryz.isAgg250
 z146 := Tryz.sizeOf250
 v146 := Tryz.zeroValue250
 g1 := by kernel_rfl
def Tryz.ren145 : Ren where
 f := fun x => match x with | 145 => 136 | 220 => 167 | 219 => 190 | 217 => 198 | 225 => 210 | 224 => 211 | 267 => 212 | 266 => 220 | 314 => 229 | n => n
 t := fun x => match x with | 9 => 9 | 4 => 4 | 59 => 174 | 3 => 3 | 5 => 5 | 46 => 42 | 146 => 250 | 51 => 217 | n => n
 g := fun x => match x with | 1 => 2 | n => n
theorem Tryz.lays145 : Lays.n145 Tryz.prog Tryz.ren145 where
 mixed := by kernel_rfl
 f145 := Tryz.func136
 f217 := Tryz.func198
 f219 := Tryz.func190
 f220 := Tryz.func167
 f224 := Tryz.func211
 f225 := Tryz.func210
 f266 := Tryz.func220
 f267 := Tryz.func212
 f314 := Tryz.func229
 t3 := Tryz.underlying3
 a3 := Tryz.isAgg3
 z3 := Tryz.sizeOf3
 v3 := Tryz.zeroValue3
 t4 := Tryz.underlying4
 a4 := Tryz.isAgg4
 z4 := Tryz.sizeOf4
 v4 := Tryz.zeroValue4
 t5 := Tryz.underlying5
 a5 := Tryz.isAgg5
 z5 := Tryz.sizeOf5
 v5 := Tryz.zeroValue5
 t9 := Tryz.underlying9
 a9 := Tryz.isAgg9
 z9 := Tryz.sizeOf9
 v9 := Tryz.zeroValue9
 t46 := Tryz.underlying42
 a46 := Tryz.isAgg42
 z46 := Tryz.sizeOf42
 v46 := Tryz.zeroValue42
 t51 := Tryz.underlying217
 a51 := Tryz.isAgg217
 z51 := Tryz.sizeOf217
 v51 := Tryz.zeroValue217
 t59 := Tryz.underlying174
 a59 := Tryz.isAgg174
 z59 := Tryz.sizeOf174
 v59 := Tryz.zeroValue174
 t146 := Tryz.underlying250
 a146 := Tryz.isAgg250
 z146 := Tryz.sizeOf250
 v146 := Tryz.zeroValue250
 g1 := by kernel_rfl
def Tryz.ren146 : Ren where
 f := fun x => match x with | 146 => 94 | 221 => 130 | 268 => 164 | 138 => 165 | 143 => 163 | 195 => 191 | 197 => 188 | 218 => 192 | 219 => 190 | 260 => 208 | 217 => 198 | 225 => 210 | 224 => 211 | 267 => 212 | 266 => 220 | 314 => 229 | n => n
 t := fun x => match x with | 9 => 9 | 31 => 22 | 3 => 3 | 4 => 4 | 0 => 0 | 105 => 223 | 21 => 21 | 5 => 5 | 46 => 42 | 119 => 245 | 139 => 248 | 138 => 247 | 146 => 250 | 51 => 217 | n => n
 g := fun x => match x with | 1 => 2 | 3 => 6 | 4 => 7 | n => n
theorem Tryz.lays146 : Lays.n146 Tryz.prog Tryz.ren146 where
 mixed := by kernel_rfl
 f138 := Tryz.func165
 f143 := Tryz.func163
 f146 := Tryz.func94
 f195 := Tryz.func191
 f197 := Tryz.func188
 f217 := Tryz.func198
 f218 := Tryz.func192
 f219 := Tryz.func190
 f221 := Tryz.func130
 f224 := Tryz.func211
 f225 := Tryz.func210
 f260 := Tryz.func208
 f266 := Tryz.func220
 f267 := Tryz.func212
 f268 := Tryz.func164
 f314 := Tryz.func229
 t0 := Tryz.underlying0
 a0 := Tryz.isAgg0
 z0 := Tryz.sizeOf0
 v0 := Tryz.zeroValue0
 t3 := Tryz.underlying3
 a3 := Tryz.isAgg3
 z3 := Tryz.sizeOf3
 v3 := Tryz.zeroValue3
 t4 := Tryz.underlying4
 a4 := Tryz.isAgg4
 z4 := Tryz.sizeOf4
 v4 := Tryz.zeroValue4
 t5 := Tryz.underlying5
 a5 := Tryz.isAgg5
 z5 := Tryz.sizeOf5
 v5 := Tryz.zeroValue5
 t9 := Tryz.underlying9
 a9 := Tryz.isAgg9
 z9 := Tryz.sizeOf9
 v9 := Tryz.zeroValue9
 t21 := Tryz.underlying21
 a21 := Tryz.isAgg21
 z21 := Tryz.sizeOf21
 v21 := Tryz.zeroValue21
 t31 := Tryz.underlying22
 a31 := Tryz.isAgg22
 z31 := Tryz.sizeOf22
 v31 := Tryz.zeroValue22
 t46 := Tryz.underlying42
 a46 := Tryz.isAgg42
 z46 := Tryz.sizeOf42
 v46 := Tryz.zeroValue42
 t51 := Tryz.underlying217
 a51 := Tryz.isAgg217
 z51 := Tryz.sizeOf217
 v51 := Tryz.zeroValue217
 t105 := Tryz.underlying223
 a105 := Tryz.isAgg223
 z105 := Tryz.sizeOf223
 v105 := Tryz.zeroValue223
 t119 := Tryz.underlying245
 a119 := Tryz.isAgg245
 z119 := Tryz.sizeOf245
 t138 := Tryz.underlying247
 a138 := Tryz.isAgg247
 z138 := Tryz.sizeOf247
 v138 := Tryz.zeroValue247
 t139 := Tryz.underlying248
 a139 := Tryz.isAgg248
 z139 := Tryz.sizeOf248
 v139 := Tryz.zeroValue248
 t146 := Tryz.underlying250
 a146 := Tryz.isAgg250
 z146 := Tryz.sizeOf250
 v146 := Tryz.zeroValue250
 g1 := by kernel_rfl
 g3 := by kernel_rfl
 g4 := by kernel_rfl
def Tryz.ren161 : Ren where
 f := fun x => match x with | 161 => 124 | 231 => 159 | 227 => 160 | 233 => 161 | 235 => 162 | 228 => 187 | 197 => 188 | 151 => 189 | 260 => 208 | 152 => 209 | 137 => 169 | 119 => 228 | 224 => 211 | 225 => 210 | 217 => 198 | 266 => 220 | n => n
 t := fun x => match x with | 9 => 9 | 4 => 4 | 3 => 3 | 5 => 5 | 117 => 199 | 116 => 198 | 0 => 0 | 124 => 202 | 105 => 223 | 21 => 21 | 119 => 245 | 46 => 42 | 139 => 248 | 138 => 247 | n => n
 g := fun x => match x with | 3 => 6 | 4 => 7 | n => n
theorem Tryz.lays161 : Lays.n161 Tryz.prog Tryz.ren161 where
 mixed := by kernel_rfl
 f119 := Tryz.func228
 f137 := Tryz.func169
 f151 := Tryz.func189
 f152 := Tryz.func209
 f161 := Tryz.func124
 f197 := Tryz.func188
 f217 := Tryz.func198
 f224 := Tryz.func211
 f225 := Tryz.func210
 f227 := Tryz.func160
 f228 := Tryz.func187
 f231 := Tryz.func159
 f233 := Tryz.func161
 f235 := Tryz.func162
 f260 := Tryz.func208
 f266 := Tryz.func220
 t0 := Tryz.underlying0
 a0 := Tryz.isAgg0
 z0 := Tryz.sizeOf0
 v0 := Tryz.zeroValue0
 t3 := Tryz.underlying3
 a3 := Tryz.isAgg3
 z3 := Tryz.sizeOf3
 v3 := Tryz.zeroValue3
 t4 := Tryz.underlying4
 a4 := Tryz.isAgg4
 z4 := Tryz.sizeOf4
 v4 := Tryz.zeroValue4
 t5 := Tryz.underlying5
 a5 := Tryz.isAgg5
 z5 := Tryz.sizeOf5
 v5 := Tryz.zeroValue5
 t9 := Tryz.underlying9
 a9 := Tryz.isAgg9
 z9 := Tryz.sizeOf9
 v9 := Tryz.zeroValue9
 t21 := Tryz.underlying21
 a21 := Tryz.isAgg21
 z21 := Tryz.sizeOf21
 v21 := Tryz.zeroValue21
 t46 := Tryz.underlying42
 a46 := Tryz.isAgg42
 z46 := Tryz.sizeOf42
 v46 := Tryz.zeroValue42
 t105 := Tryz.underlying223
 a105 := Tryz.isAgg223
 z105 := Tryz.sizeOf223
 v105 := Tryz.zeroValue223
 t116 := Tryz.underlying198
 a116 := Tryz.isAgg198
 z116 := Tryz.sizeOf198
 t117 := Tryz.underlying199
 a117 := Tryz.isAgg199
 z117 := Tryz.sizeOf199
 v117 := Tryz.zeroValue199
 t119 := Tryz.underlying245
 a119 := Tryz.isAgg245
 z119 := Tryz.sizeOf245
 t124 := Tryz.underlying202
 a124 := Tryz.isAgg202
 z124 := Tryz.sizeOf202
 v124 := Tryz.zeroValue202
 t138 := Tryz.underlying247
 a138 := Tryz.isAgg247
 z138 := Tryz.sizeOf247
 v138 := Tryz.zeroValue247
 t139 := Tryz.underlying248
 a139 := Tryz.isAgg248
 z139 := Tryz.sizeOf248
 v139 := Tryz.zeroValue248
 g3 := by kernel_rfl
 g4 := by kernel_rfl
def Tryz.ren99 : Ren where
 f := fun x => match x with | 99 => 193 | 206 => 213 | n => n
 t := fun x => match x with | 9 => 9 | 4 => 4 | 3 => 3 | n => n
 g := fun x => x
theorem Tryz.lays99 : Lays.n99 Tryz.prog Tryz.ren99 where
 mixed := by kernel_rfl
 f99 := Tryz.func193
 f206 := Tryz.func213
 t3 := Tryz.underlying3
 a3 := Tryz.isAgg3
 z3 := Tryz.sizeOf3
 v3 := Tryz.zeroValue3
 t4 := Tryz.underlying4
 a4 := Tryz.isAgg4
 z4 := Tryz.sizeOf4
 v4 := Tryz.zeroValue4
 t9 := Tryz.underlying9
 a9 := Tryz.isAgg9
 z9 := Tryz.sizeOf9
 v9 := Tryz.zeroValue9
def Tryz.ren100 : Ren where
 f := fun x => match x with | 100 => 194 | 207 => 214 | n => n
 t := fun x => match x with | 9 => 9 | 4 => 4 | 3 => 3 | n => n
 g := fun x => x
theorem Tryz.lays100 : Lays.n100 Tryz.prog Tryz.ren100 where
 mixed := by kernel_rfl
 f100 := Tryz.func194
 f207 := Tryz.func214
 t3 := Tryz.underlying3
 a3 := Tryz.isAgg3
 z3 := Tryz.sizeOf3
 v3 := Tryz.zeroValue3
 t4 := Tryz.underlying4
 a4 := Tryz.isAgg4
 z4 := Tryz.sizeOf4
 v4 := Tryz.zeroValue4
 t9 := Tryz.underlying9
 a9 := Tryz.isAgg9
 z9 := Tryz.sizeOf9
 v9 := Tryz.zeroValue9
def Tryz.ren101 : Ren where
 f := fun x => match x with | 101 => 216 | 208 => 230 | 206 => 213 | n => n
 t := fun x => match x with | 9 => 9 | 4 => 4 | 3 => 3 | n => n
 g := fun x => x
theorem Tryz.lays101 : Lays.n101 Tryz.prog Tryz.ren101 where
 mixed := by kernel_rfl
 f101 := Tryz.func216
 f206 := Tryz.func213
 f208 := Tryz.func230
 t3 := Tryz.underlying3
 a3 := Tryz.isAgg3
 z3 := Tryz.sizeOf3
 v3 := Tryz.zeroValue3
 t4 := Tryz.underlying4
 a4 := Tryz.isAgg4
 z4 := Tryz.sizeOf4
 v4 := Tryz.zeroValue4
 t9 := Tryz.underlying9
 a9 := Tryz.isAgg9
 z9 := Tryz.sizeOf9
 v9 := Tryz.zeroValue9
def Tryz.ren160 : Ren where
 f := fun x => match x with | 160 => 217 | 232 => 231 | 231 => 159 | 227 => 160 | 234 => 232 | 233 => 161 | 236 => 233 | 235 => 162 | 228 => 187 | 271 => 242 | 151 => 189 | 197 => 188 | 120 => 252 | 152 => 209 | 260 => 208 | 137 => 169 | 119 => 228 | 224 => 211 | 225 => 210 | 217 => 198 | 266 => 220 | n => n
 t := fun x => match x with | 9 => 9 | 4 => 4 | 3 => 3 | 5 => 5 | 117 => 199 | 116 => 198 | 0 => 0 | 124 => 202 | 21 => 21 | 105 => 223 | 46 => 42 | 119 => 245 | 139 => 248 | 138 => 247 | n => n
 g := fun x => match x with | 3 => 6 | 4 => 7 | n => n
theorem Tryz.lays160 : Lays.n160 Tryz.prog Tryz.ren160 where
 mixed := by kernel_rfl
 f119 := Tryz.func228
 f120 := Tryz.func252
 f137 := Tryz.func169
 f151 := Tryz.func189
 f152 := Tryz.func209
 f160 := Tryz.func217
 f197 := Tryz.func188
 f217 := Tryz.func198
 f224 := Tryz.func211
 f225 := Tryz.func210
 f227 := Tryz.func160
 f228 := Tryz.func187
 f231 := Tryz.func159
 f232 := Tryz.func231
 f233 := Tryz.func161
 f234 := Tryz.func232
 f235 := Tryz.func162
 f236 := Tryz.func233
 f260 := Tryz.func208
 f266 := Tryz.func220
 f271 := Tryz.func242
 t0 := Tryz.underlying0
 a0 := Tryz.isAgg0
 z0 := Tryz.sizeOf0
 v0 := Tryz.zeroValue0
 t3 := Tryz.underlying3
 a3 := Tryz.isAgg3
 z3 := Tryz.sizeOf3
 v3 := Tryz.zeroValue3
 t4 := Tryz.underlying4
 a4 := Tryz.isAgg4
 z4 := Tryz.sizeOf4
 v4 := Tryz.zeroValue4
 t5 := Tryz.underlying5
 a5 := Tryz.isAgg5
 z5 := Tryz.sizeOf5
 v5 := Tryz.zeroValue5
 t9 := Tryz.underlying9
 a9 := Tryz.isAgg9
 z9 := Tryz.sizeOf9
 v9 := Tryz.zeroValue9
 t21 := Tryz.underlying21
 a21 := Tryz.isAgg21
 z21 := Tryz.sizeOf21
 v21 := Tryz.zeroValue21
 t46 := Tryz.underlying42
 a46 := Tryz.isAgg42
 z46 := Tryz.sizeOf42
 v46 := Tryz.zeroValue42
 t105 := Tryz.underlying223
 a105 := Tryz.isAgg223
 z105 := Tryz.sizeOf223
 v105 := Tryz.zeroValue223
 t116 := Tryz.underlying198
 a116 := Tryz.isAgg198
 z116 := Tryz.sizeOf198
 t117 := Tryz.underlying199
 a117 := Tryz.isAgg199
 z117 := Tryz.sizeOf199
 v117 := Tryz.zeroValue199
 t119 := Tryz.underlying245
 a119 := Tryz.isAgg245
 z119 := Tryz.sizeOf245
 t124 := Tryz.underlying202
 a124 := Tryz.isAgg202
 z124 := Tryz.sizeOf202
 v124 := Tryz.zeroValue202
 t138 := Tryz.underlying247
 a138 := Tryz.isAgg247
 z138 := Tryz.sizeOf247
 v138 := Tryz.zeroValue247
 t139 := Tryz.underlying248
 a139 := Tryz.isAgg248
 z139 := Tryz.sizeOf248
 v139 := Tryz.zeroValue248
 g3 := by kernel_rfl
 g4 := by kernel_rfl
def Tryz.ren155 : Ren where
 f := fun x => match x with | 155 => 152 | 154 => 177 | 138 => 165 | 165 => 76 | 143 => 163 | 166 => 77 | 197 => 188 | 169 => 78 | 195 => 191 | 218 => 192 | 240 => 114 | 241 => 115 | 219 => 190 | 260 => 208 | 276 => 148 | 277 => 149 | 217 => 198 | 225 => 210 | 224 => 211 | 267 => 212 | 266 => 220 | 314 => 229 | n => n
 t := fun x => match x with | 9 => 9 | 3 => 3 | 4 => 4 | 72 => 121 | 0 => 0 | 76 => 116 | 105 => 223 | 21 => 21 | 5 => 5 | 70 => 118 | 20 => 20 | 37 => 119 | 75 => 115 | 127 => 158 | 164 => 183 | 46 => 42 | 119 => 245 | 139 => 248 | 138 => 247 | 146 => 250 | 51 => 217 | 80 => 123 | n => n
 g := fun x => match x with | 1 => 2 | 3 => 6 | 4 => 7 | n => n
theorem Tryz.lays155 : Lays.n155 Tryz.prog Tryz.ren155 where
 mixed := by kernel_rfl
 f138 := Tryz.func165
 f143 := Tryz.func163
 f154 := Tryz.func177
 f155 := Tryz.func152
 f165 := Tryz.func76
 f166 := Tryz.func77
 f169 := Tryz.func78
 f195 := Tryz.func191
 f197 := Tryz.func188
 f217 := Tryz.func198
 f218 := Tryz.func192
 f219 := Tryz.func190
 f224 := Tryz.func211
 f225 := Tryz.func210
 f240 := Tryz.func114
 f241 := Tryz.func115
 f260 := Tryz.func208
 f266 := Tryz.func220
 f267 := Tryz.func212
 f276 := Tryz.func148
 f277 := Tryz.func149
 f314 := Tryz.func229
 t0 := Tryz.underlying0
 a0 := Tryz.isAgg0
 z0 := Tryz.sizeOf0
 v0 := Tryz.zeroValue0
 t3 := Tryz.underlying3
 a3 := Tryz.isAgg3
 z3 := Tryz.sizeOf3
 v3 := Tryz.zeroValue3
 t4 := Tryz.underlying4
 a4 := Tryz.isAgg4
 z4 := Tryz.sizeOf4
 v4 := Tryz.zeroValue4
 t5 := Tryz.underlying5
 a5 := Tryz.isAgg5
 z5 := Tryz.sizeOf5
 v5 := Tryz.zeroValue5
 t9 := Tryz.underlying9
 a9 := Tryz.isAgg9
 z9 := Tryz.sizeOf9
 v9 := Tryz.zeroValue9
 t20 := Tryz.underlying20
 a20 := Tryz.isAgg20
 z20 := Tryz.sizeOf20
 v20 := Tryz.zeroValue20
 t21 := Tryz.underlying21
 a21 := Tryz.isAgg21
 z21 := Tryz.sizeOf21
 v21 := Tryz.zeroValue21
 t37 := Tryz.underlying119
 a37 := Tryz.isAgg119
 z37 := Tryz.sizeOf119
 v37 := Tryz.zeroValue119
 t46 := Tryz.underlying42
 a46 := Tryz.isAgg42
 z46 := Tryz.sizeOf42
 v46 := Tryz.zeroValue42
 t51 := Tryz.underlying217
 a51 := Tryz.isAgg217
 z51 := Tryz.sizeOf217
 v51 := Tryz.zeroValue217
 t70 := Tryz.underlying118
 a70 := Tryz.isAgg118
 z70 := Tryz.sizeOf118
 v70 := Tryz.zeroValue118
 t72 := Tryz.underlying121
 a72 := Tryz.isAgg121
 z72 := Tryz.sizeOf121
 v72 := Tryz.zeroValue121
 t75 := Tryz.underlying115
 a75 := Tryz.isAgg115
 z75 := Tryz.sizeOf115
 v75 := Tryz.zeroValue115
 t76 := Tryz.underlying116
 a76 := Tryz.isAgg116
 z76 := Tryz.sizeOf116
 v76 := Tryz.zeroValue116
 t105 := Tryz.underlying223
 a105 := Tryz.isAgg223
 z105 := Tryz.sizeOf223
 v105 := Tryz.zeroValue223
 t119 := Tryz.underlying245
 a119 := Tryz.isAgg245
 z119 := Tryz.sizeOf245
 t127 := Tryz.underlying158
 a127 := Tryz.isAgg158
 z127 := Tryz.sizeOf158
 v127 := Tryz.zeroValue158
 t138 := Tryz.underlying247
 a138 := Tryz.isAgg247
 z138 := Tryz.sizeOf247
 v138 := Tryz.zeroValue247
 t139 := Tryz.underlying248
 a139 := Tryz.isAgg248
 z139 := Tryz.sizeOf248
 v139 := Tryz.zeroValue248
 t146 := Tryz.underlying250
 a146 := Tryz.isAgg250
 z146 := Tryz.sizeOf250
 v146 := Tryz.zeroValue250
 t164 := Tryz.underlying183
 a164 := Tryz.isAgg183
 z164 := Tryz.sizeOf183
 v164 := Tryz.zeroValue183
 g1 := by kernel_rfl
 g3 := by kernel_rfl
 g4 := by kernel_rfl
def Tryz.ren156 : Ren where
 f := fun x => match x with | 156 => 43 | 165 => 76 | 166 => 77 | 169 => 78 | 240 => 114 | 241 => 115 | 276 => 148 | 277 => 149 | n => n
 t := fun x => match x with | 31 => 22 | 9 => 9 | 3 => 3 | 4 => 4 | 0 => 0 | 20 => 20 | 72 => 121 | 76 => 116 | 70 => 118 | 37 => 119 | 75 => 115 | 127 => 158 | 164 => 183 | 5 => 5 | 80 => 123 | n => n
 g := fun x => x
theorem Tryz.lays156 : Lays.n156 Tryz.prog Tryz.ren156 where
 mixed := by kernel_rfl
 f156 := Tryz.func43
 f165 := Tryz.func76
 f166 := Tryz.func77
 f169 := Tryz.func78
 f240 := Tryz.func114
 f241 := Tryz.func115
 f276 := Tryz.func148
 f277 := Tryz.func149
 t0 := Tryz.underlying0
 a0 := Tryz.isAgg0
 z0 := Tryz.sizeOf0
 v0 := Tryz.zeroValue0
 t3 := Tryz.underlying3
 a3 := Tryz.isAgg3
 z3 := Tryz.sizeOf3
 v3 := Tryz.zeroValue3
 t4 := Tryz.underlying4
 a4 := Tryz.isAgg4
 z4 := Tryz.sizeOf4
 v4 := Tryz.zeroValue4
 t9 := Tryz.underlying9
 a9 := Tryz.isAgg9
 z9 := Tryz.sizeOf9
 v9 := Tryz.zeroValue9
 t20 := Tryz.underlying20
 a20 := Tryz.isAgg20
 z20 := Tryz.sizeOf20
 v20 := Tryz.zeroValue20
 t31 := Tryz.underlying22
 a31 := Tryz.isAgg22
 z31 := Tryz.sizeOf22
 v31 := Tryz.zeroValue22
 t37 := Tryz.underlying119
 a37 := Tryz.isAgg119
 z37 := Tryz.sizeOf119
 v37 := Tryz.zeroValue119
 t70 := Tryz.underlying118
 a70 := Tryz.isAgg118
 z70 := Tryz.sizeOf118
 v70 := Tryz.zeroValue118
 t72 := Tryz.underlying121
 a72 := Tryz.isAgg121
 z72 := Tryz.sizeOf121
 v72 := Tryz.zeroValue121
 t75 := Tryz.underlying115
 a75 := Tryz.isAgg115
 z75 := Tryz.sizeOf115
 v75 := Tryz.zeroValue115
 t76 := Tryz.underlying116
 a76 := Tryz.isAgg116
 z76 := Tryz.sizeOf116
 v76 := Tryz.zeroValue116
 t127 := Tryz.underlying158
 a127 := Tryz.isAgg158
 z127 := Tryz.sizeOf158
 v127 := Tryz.zeroValue158
 t164 := Tryz.underlying183
 a164 := Tryz.isAgg183
 z164 := Tryz.sizeOf183
 v164 := Tryz.zeroValue183
def Tryz.ren174 : Ren where
 f := fun x => match x with | 174 => 218 | 247 => 143 | 245 => 113 | 287 => 173 | 279 => 144 | 280 => 145 | 281 => 146 | 282 => 147 | 321 => 202 | 322 => 203 | 316 => 174 | 171 => 45 | 205 => 175 | 243 => 81 | 246 => 119 | 283 => 153 | 284 => 154 | 285 => 155 | 286 => 156 | 129 => 179 | 317 => 178 | 318 => 180 | 319 => 181 | 320 => 182 | 337 => 204 | 338 => 205 | n => n
 t := fun x => match x with | 9 => 9 | 3 => 3 | 2 => 2 | 75 => 115 | 85 => 178 | 4 => 4 | 167 => 177 | 5 => 5 | 53 => 97 | 175 => 207 | 46 => 42 | 168 => 180 | 37 => 119 | 0 => 0 | 210 => 211 | 21 => 21 | 127 => 158 | 145 => 231 | 143 => 229 | 171 => 187 | 173 => 190 | 212 => 216 | 51 => 217 | 20 => 20 | 213 => 218 | 232 => 237 | 233 => 238 | 80 => 123 | n => n
 g := fun x => match x with | 15 => 0 | 16 => 1 | 17 => 3 | 18 => 4 | 19 => 5 | n => n
theorem Tryz.lays174 : LaysC.n174 Tryz.prog Tryz.ren174 where
 mixed := by kernel_rfl
 f129 := Tryz.func179
 f171 := Tryz.func45
 f174 := Tryz.func218
 f205 := Tryz.func175
 f243 := Tryz.func81
 f245 := Tryz.func113
 f246 := Tryz.func119
 f247 := Tryz.func143
 f279 := Tryz.func144
 f280 := Tryz.func145
 f281 := Tryz.func146
 f282 := Tryz.func147
 f283 := Tryz.func153
 f284 := Tryz.func154
 f285 := Tryz.func155
 f286 := Tryz.func156
 f287 := Tryz.func173
 f316 := Tryz.func174
 f317 := Tryz.func178
 f318 := Tryz.func180
 f319 := Tryz.func181
 f320 := Tryz.func182
 f321 := Tryz.func202
 f322 := Tryz.func203
 f337 := Tryz.func204
 f338 := Tryz.func205
 t0 := Tryz.underlying0
 a0 := Tryz.isAgg0
 z0 := Tryz.sizeOf0
 v0 := Tryz.zeroValue0
 t2 := Tryz.underlying2
 a2 := Tryz.isAgg2
 z2 := Tryz.sizeOf2
 v2 := Tryz.zeroValue2
 t3 := Tryz.underlying3
 a3 := Tryz.isAgg3
 z3 := Tryz.sizeOf3
 v3 := Tryz.zeroValue3
 t4 := Tryz.underlying4
 a4 := Tryz.isAgg4
 z4 := Tryz.sizeOf4
 v4 := Tryz.zeroValue4
 t5 := Tryz.underlying5
 a5 := Tryz.isAgg5
 z5 := Tryz.sizeOf5
 v5 := Tryz.zeroValue5
 t9 := Tryz.underlying9
 a9 := Tryz.isAgg9
 z9 := Tryz.sizeOf9
 v9 := Tryz.zeroValue9
 t20 := Tryz.underlying20
 a20 := Tryz.isAgg20
 z20 := Tryz.sizeOf20
 v20 := Tryz.zeroValue20
 t21 := Tryz.underlying21
 a21 := Tryz.isAgg21
 z21 := Tryz.sizeOf21
 v21 := Tryz.zeroValue21
 t37 := Tryz.underlying119
 a37 := Tryz.isAgg119
 z37 := Tryz.sizeOf119
 v37 := Tryz.zeroValue119
 t46 := Tryz.underlying42
 a46 := Tryz.isAgg42
 z46 := Tryz.sizeOf42
 v46 := Tryz.zeroValue42
 t51 := Tryz.underlying217
 a51 := Tryz.isAgg217
 z51 := Tryz.sizeOf217
 v51 := Tryz.zeroValue217
 t53 := Tryz.underlying97
 a53 := Tryz.isAgg97
 z53 := Tryz.sizeOf97
 v53 := Tryz.zeroValue97
 t75 := Tryz.underlying115
 a75 := Tryz.isAgg115
 z75 := Tryz.sizeOf115
 v75 := Tryz.zeroValue115
 t85 := Tryz.underlying178
 a85 := Tryz.isAgg178
 z85 := Tryz.sizeOf178
 v85 := Tryz.zeroValue178
 t127 := Tryz.underlying158
 a127 := Tryz.isAgg158
 z127 := Tryz.sizeOf158
 v127 := Tryz.zeroValue158
 t143 := Tryz.underlying229
 a143 := Tryz.isAgg229
 z143 := Tryz.sizeOf229
 v143 := Tryz.zeroValue229
 t145 := Tryz.underlying231
 a145 := Tryz.isAgg231
 z145 := Tryz.sizeOf231
 v145 := Tryz.zeroValue231
 t167 := Tryz.underlying177
 a167 := Tryz.isAgg177
 z167 := Tryz.sizeOf177
 v167 := Tryz.zeroValue177
 t168 := Tryz.underlying180
 a168 := Tryz.isAgg180
 z168 := Tryz.sizeOf180
 v168 := Tryz.zeroValue180
 t171 := Tryz.underlying187
 a171 := Tryz.isAgg187
 z171 := Tryz.sizeOf187
 v171 := Tryz.zeroValue187
 t173 := Tryz.underlying190
 a173 := Tryz.isAgg190
 z173 := Tryz.sizeOf190
 v173 := Tryz.zeroValue190
 t175 := Tryz.underlying207
 a175 := Tryz.isAgg207
 z175 := Tryz.sizeOf207
 v175 := Tryz.zeroValue207
 t210 := Tryz.underlying211
 a210 := Tryz.isAgg211
 z210 := Tryz.sizeOf211
 v210 := Tryz.zeroValue211
 t212 := Tryz.underlying216
 a212 := Tryz.isAgg216
 z212 := Tryz.sizeOf216
 v212 := Tryz.zeroValue216
 t213 := Tryz.underlying218
 a213 := Tryz.isAgg218
 z213 := Tryz.sizeOf218
 t232 := Tryz.underlying237
 a232 := Tryz.isAgg237
 z232 := Tryz.sizeOf237
 v232 := Tryz.zeroValue237
 t233 := Tryz.underlying238
 a233 := Tryz.isAgg238
 z233 := Tryz.sizeOf238
 v233 := Tryz.zeroValue238
 g15 := by kernel_rfl
 g16 := by kernel_rfl
 g17 := by kernel_rfl
 g18 := by kernel_rfl
 g19 := by kernel_rfl
 t80 := Tryz.underlying123
 a80 := Tryz.isAgg123
 z80 := Tryz.sizeOf123
 v80 := Tryz.zeroValue123
 i0 := by kernel_rfl
 i2 := by kernel_rfl
 i3 := by kernel_rfl
 i4 := by kernel_rfl
 i5 := by kernel_rfl
 i9 := by kernel_rfl
 i20 := by kernel_rfl
 i21 := by kernel_rfl
 i37 := by kernel_rfl
 i46 := by kernel_rfl
 i51 := by kernel_rfl
 i53 := by kernel_rfl
 i75 := by kernel_rfl
 i80 := by kernel_rfl
 i85 := by kernel_rfl
 i127 := by kernel_rfl
 i143 := by kernel_rfl
 i145 := by kernel_rfl
 i167 := by kernel_rfl
 i168 := by kernel_rfl
 i171 := by kernel_rfl
 i173 := by kernel_rfl
 i175 := by kernel_rfl
 i210 := by kernel_rfl
 i212 := by kernel_rfl
 i232 := by kernel_rfl
 i233 := by kernel_rfl
 m15 := by kernel_rfl
 m16 := by kernel_rfl
 m17 := by kernel_rfl
 m18 := by kernel_rfl
 m19 := by kernel_rfl
 c0 := by kernel_rfl
 c2 := by kernel_rfl
 c3 := by kernel_rfl
 c4 := by kernel_rfl
 c5 := by kernel_rfl
 c9 := by kernel_rfl
 c20 := by kernel_rfl
 c21 := by kernel_rfl
 c37 := by kernel_rfl
 c46 := by kernel_rfl
 c51 := by kernel_rfl
 c53 := by kernel_rfl
 c75 := by kernel_rfl
 c80 := by kernel_rfl
 c85 := by kernel_rfl
 c127 := by kernel_rfl
 c143 := by kernel_rfl
 c145 := by kernel_rfl
 c167 := by kernel_rfl
 c168 := by kernel_rfl
 c171 := by kernel_rfl
 c173 := by kernel_rfl
 c175 := by kernel_rfl
 c210 := by kernel_rfl
 c212 := by kernel_rfl
 c213 := by kernel_rfl
 c232 := by kernel_rfl
 c233 := by kernel_rfl
def Tryz.ren173 : Ren where
 f := fun x => match x with | 173 => 176 | 246 => 119 | 283 => 153 | 284 => 154 | 285 => 155 | 286 => 156 | 129 => 179 | 317 => 178 | 318 => 180 | 319 => 181 | 320 => 182 | 337 => 204 | 338 => 205 | n => n
 t := fun x => match x with | 2 => 2 | 3 => 3 | 9 => 9 | 4 => 4 | 171 => 187 | 0 => 0 | 53 => 97 | 37 => 119 | 5 => 5 | 173 => 190 | 212 => 216 | 51 => 217 | 20 => 20 | 213 => 218 | 46 => 42 | 232 => 237 | 233 => 238 | n => n
 g := fun x => match x with | 17 => 3 | 18 => 4 | 19 => 5 | n => n
theorem Tryz.lays173 : LaysM.n173 Tryz.prog Tryz.ren173 where
 mixed := by kernel_rfl
 f129 := Tryz.func179
 f173 := Tryz.func176
 f246 := Tryz.func119
 f283 := Tryz.func153
 f284 := Tryz.func154
 f285 := Tryz.func155
 f286 := Tryz.func156
 f317 := Tryz.func178
 f318 := Tryz.func180
 f319 := Tryz.func181
 f320 := Tryz.func182
 f337 := Tryz.func204
 f338 := Tryz.func205
 t0 := Tryz.underlying0
 a0 := Tryz.isAgg0
 z0 := Tryz.sizeOf0
 v0 := Tryz.zeroValue0
 t2 := Tryz.underlying2
 a2 := Tryz.isAgg2
 z2 := Tryz.sizeOf2
 v2 := Tryz.zeroValue2
 t3 := Tryz.underlying3
 a3 := Tryz.isAgg3
 z3 := Tryz.sizeOf3
 v3 := Tryz.zeroValue3
 t4 := Tryz.underlying4
 a4 := Tryz.isAgg4
 z4 := Tryz.sizeOf4
 v4 := Tryz.zeroValue4
 t5 := Tryz.underlying5
 a5 := Tryz.isAgg5
 z5 := Tryz.sizeOf5
 v5 := Tryz.zeroValue5
 t9 := Tryz.underlying9
 a9 := Tryz.isAgg9
 z9 := Tryz.sizeOf9
 v9 := Tryz.zeroValue9
 t20 := Tryz.underlying20
 a20 := Tryz.isAgg20
 z20 := Tryz.sizeOf20
 v20 := Tryz.zeroValue20
 t37 := Tryz.underlying119
 a37 := Tryz.isAgg119
 z37 := Tryz.sizeOf119
 v37 := Tryz.zeroValue119
 t46 := Tryz.underlying42
 a46 := Tryz.isAgg42
 z46 := Tryz.sizeOf42
 v46 := Tryz.zeroValue42
 t51 := Tryz.underlying217
 a51 := Tryz.isAgg217
 z51 := Tryz.sizeOf217
 v51 := Tryz.zeroValue217
 t53 := Tryz.underlying97
 a53 := Tryz.isAgg97
 z53 := Tryz.sizeOf97
 v53 := Tryz.zeroValue97
 t171 := Tryz.underlying187
 a171 := Tryz.isAgg187
 z171 := Tryz.sizeOf187
 v171 := Tryz.zeroValue187
 t173 := Tryz.underlying190
 a173 := Tryz.isAgg190
 z173 := Tryz.sizeOf190
 v173 := Tryz.zeroValue190
 t212 := Tryz.underlying216
 a212 := Tryz.isAgg216
 z212 := Tryz.sizeOf216
 v212 := Tryz.zeroValue216
 t213 := Tryz.underlying218
 a213 := Tryz.isAgg218
 z213 := Tryz.sizeOf218
 t232 := Tryz.underlying237
 a232 := Tryz.isAgg237
 z232 := Tryz.sizeOf237
 v232 := Tryz.zeroValue237
 t233 := Tryz.underlying238
 a233 := Tryz.isAgg238
 z233 := Tryz.sizeOf238
 v233 := Tryz.zeroValue238
 g17 := by kernel_rfl
 g18 := by kernel_rfl
 g19 := by kernel_rfl
 i0 := by kernel_rfl
 i2 := by kernel_rfl
 i3 := by kernel_rfl
 i4 := by kernel_rfl
 i5 := by kernel_rfl
 i9 := by kernel_rfl
 i20 := by kernel_rfl
 i37 := by kernel_rfl
 i46 := by kernel_rfl
 i51 := by kernel_rfl
 i53 := by kernel_rfl
 i171 := by kernel_rfl
 i173 := by kernel_rfl
 i212 := by kernel_rfl
 i232 := by kernel_rfl
 i233 := by kernel_rfl
 m17 := by kernel_rfl
 m18 := by kernel_rfl
 m19 := by kernel_rfl
def Tryz.ren137 : Ren where
 f := fun x => match x with | 137 => 169 | 217 => 198 | 266 => 220 | n => n
 t := fun x => match x with | 9 => 9 | 5 => 5 | 3 => 3 | n => n
 g := fun x => x
theorem Tryz.lays137 : Lays.n137 Tryz.prog Tryz.ren137 where
 mixed := by kernel_rfl
 f137 := Tryz.func169
 f217 := Tryz.func198
 f266 := Tryz.func220
 t3 := Tryz.underlying3
 a3 := Tryz.isAgg3
 z3 := Tryz.sizeOf3
 v3 := Tryz.zeroValue3
 t5 := Tryz.underlying5
 a5 := Tryz.isAgg5
 z5 := Tryz.sizeOf5
 v5 := Tryz.zeroValue5
 t9 := Tryz.underlying9
 a9 := Tryz.isAgg9
 z9 := Tryz.sizeOf9
 v9 := Tryz.zeroValue9
def Tryz.ren170 : Ren where
 f := fun x => match x with | 170 => 80 | n => n
 t := fun x => match x with | 70 => 118 | 3 => 3 | 0 => 0 | 72 => 121 | 37 => 119 | 5 => 5 | n => n
 g := fun x => x
theorem Tryz.lays170 : Lays.n170 Tryz.prog Tryz.ren170 where
 mixed := by kernel_rfl
 f170 := Tryz.func80
 t0 := Tryz.underlying0
 a0 := Tryz.isAgg0
 z0 := Tryz.sizeOf0
 v0 := Tryz.zeroValue0
 t3 := Tryz.underlying3
 a3 := Tryz.isAgg3
 z3 := Tryz.sizeOf3
 v3 := Tryz.zeroValue3
 t37 := Tryz.underlying119
 a37 := Tryz.isAgg119
 z37 := Tryz.sizeOf119
 v37 := Tryz.zeroValue119
 t70 := Tryz.underlying118
 a70 := Tryz.isAgg118
 z70 := Tryz.sizeOf118
 v70 := Tryz.zeroValue118
 t72 := Tryz.underlying121
 a72 := Tryz.isAgg121
 z72 := Tryz.sizeOf121
 v72 := Tryz.zeroValue121
def Tryz.ren172 : Ren where
 f := fun x => match x with | 172 => 75 | 244 => 112 | 245 => 113 | 247 => 143 | 279 => 144 | 280 => 145 | 281 => 146 | 282 => 147 | 287 => 173 | 316 => 174 | 171 => 45 | 205 => 175 | 321 => 202 | 322 => 203 | 243 => 81 | 246 => 119 | 283 => 153 | 284 => 154 | 285 => 155 | 286 => 156 | 129 => 179 | 317 => 178 | 318 => 180 | 319 => 181 | 320 => 182 | 337 => 204 | 338 => 205 | n => n
 t := fun x => match x with | 9 => 9 | 3 => 3 | 75 => 115 | 76 => 116 | 4 => 4 | 5 => 5 | 167 => 177 | 37 => 119 | 0 => 0 | 85 => 178 | 2 => 2 | 168 => 180 | 53 => 97 | 175 => 207 | 46 => 42 | 210 => 211 | 127 => 158 | 145 => 231 | 143 => 229 | 21 => 21 | 171 => 187 | 173 => 190 | 212 => 216 | 51 => 217 | 20 => 20 | 213 => 218 | 232 => 237 | 233 => 238 | 80 => 123 | n => n
 g := fun x => match x with | 15 => 0 | 16 => 1 | 17 => 3 | 18 => 4 | 19 => 5 | n => n
theorem Tryz.lays172 : LaysC.n172 Tryz.prog Tryz.ren172 where
 mixed := by kernel_rfl
 f129 := Tryz.func179
 f171 := Tryz.func45
 f172 := Tryz.func75
 f205 := Tryz.func175
 f243 := Tryz.func81
 f244 := Tryz.func112
 f245 := Tryz.func113
 f246 := Tryz.func119
 f247 := Tryz.func143
 f279 := Tryz.func144
 f280 := Tryz.func145
 f281 := Tryz.func146
 f282 := Tryz.func147
 f283 := Tryz.func153
 f284 := Tryz.func154
 f285 := Tryz.func155
 f286 := Tryz.func156
 f287 := Tryz.func173
 f316 := Tryz.func174
 f317 := Tryz.func178
 f318 := Tryz.func180
 f319 := Tryz.func181
 f320 := Tryz.func182
 f321 := Tryz.func202
 f322 := Tryz.func203
 f337 := Tryz.func204
 f338 := Tryz.func205
 t0 := Tryz.underlying0
 a0 := Tryz.isAgg0
 z0 := Tryz.sizeOf0
 v0 := Tryz.zeroValue0
 t2 := Tryz.underlying2
 a2 := Tryz.isAgg2
 z2 := Tryz.sizeOf2
 v2 := Tryz.zeroValue2
 t3 := Tryz.underlying3
 a3 := Tryz.isAgg3
 z3 := Tryz.sizeOf3
 v3 := Tryz.zeroValue3
 t4 := Tryz.underlying4
 a4 := Tryz.isAgg4
 z4 := Tryz.sizeOf4
 v4 := Tryz.zeroValue4
 t5 := Tryz.underlying5
 a5 := Tryz.isAgg5
 z5 := Tryz.sizeOf5
 v5 := Tryz.zeroValue5
 t9 := Tryz.underlying9
 a9 := Tryz.isAgg9
 z9 := Tryz.sizeOf9
 v9 := Tryz.zeroValue9
 t20 := Tryz.underlying20
 a20 := Tryz.isAgg20
 z20 := Tryz.sizeOf20
 v20 := Tryz.zeroValue20
 t21 := Tryz.underlying21
 a21 := Tryz.isAgg21
 z21 := Tryz.sizeOf21
 v21 := Tryz.zeroValue21
 t37 := Tryz.underlying119
 a37 := Tryz.isAgg119
 z37 := Tryz.sizeOf119
 v37 := Tryz.zeroValue119
 t46 := Tryz.underlying42
 a46 := Tryz.isAgg42
 z46 := Tryz.sizeOf42
 v46 := Tryz.zeroValue42
 t51 := Tryz.underlying217
 a51 := Tryz.isAgg217
 z51 := Tryz.sizeOf217
 v51 := Tryz.zeroValue217
 t53 := Tryz.underlying97
 a53 := Tryz.isAgg97
 z53 := Tryz.sizeOf97
 v53 := Tryz.zeroValue97
 t75 := Tryz.underlying115
 a75 := Tryz.isAgg115
 z75 := Tryz.sizeOf115
 v75 := Tryz.zeroValue115
 t76 := Tryz.underlying116
 a76 := Tryz.isAgg116
 z76 := Tryz.sizeOf116
 v76 := Tryz.zeroValue116
 t85 := Tryz.underlying178
 a85 := Tryz.isAgg178
 z85 := Tryz.sizeOf178
 v85 := Tryz.zeroValue178
 t127 := Tryz.underlying158
 a127 := Tryz.isAgg158
 z127 := Tryz.sizeOf158
 v127 := Tryz.zeroValue158
 t143 := Tryz.underlying229
 a143 := Tryz.isAgg229
 z143 := Tryz.sizeOf229
 v143 := Tryz.zeroValue229
 t145 := Tryz.underlying231
 a145 := Tryz.isAgg231
 z145 := Tryz.sizeOf231
 v145 := Tryz.zeroValue231
 t167 := Tryz.underlying177
 a167 := Tryz.isAgg177
 z167 := Tryz.sizeOf177
 v167 := Tryz.zeroValue177
 t168 := Tryz.underlying180
 a168 := Tryz.isAgg180
 z168 := Tryz.sizeOf180
 v168 := Tryz.zeroValue180
 t171 := Tryz.underlying187
 a171 := Tryz.isAgg187
 z171 := Tryz.sizeOf187
 v171 := Tryz.zeroValue187
 t173 := Tryz.underlying190
 a173 := Tryz.isAgg190
 z173 := Tryz.sizeOf190
 v173 := Tryz.zeroValue190
 t175 := Tryz.underlying207
 a175 := Tryz.isAgg207
 z175 := Tryz.sizeOf207
 v175 := Tryz.zeroValue207
 t210 := Tryz.underlying211
 a210 := Tryz.isAgg211
 z210 := Tryz.sizeOf211
 v210 := Tryz.zeroValue211
 t212 := Tryz.underlying216
 a212 := Tryz.isAgg216
 z212 := Tryz.sizeOf216
 v212 := Tryz.zeroValue216
 t213 := Tryz.underlying218
 a213 := Tryz.isAgg218
 z213 := Tryz.sizeOf218
 t232 := Tryz.underlying237
 a232 := Tryz.isAgg237
 z232 := Tryz.sizeOf237
 v232 := Tryz.zeroValue237
 t233 := Tryz.underlying238
 a233 := Tryz.isAgg238
 z233 := Tryz.sizeOf238
 v233 := Tryz.zeroValue238
 g15 := by kernel_rfl
 g16 := by kernel_rfl
 g17 := by kernel_rfl
 g18 := by kernel_rfl
 g19 := by kernel_rfl
 t80 := Tryz.underlying123
 a80 := Tryz.isAgg123
 z80 := Tryz.sizeOf123
 v80 := Tryz.zeroValue123
 i0 := by kernel_rfl
 i2 := by kernel_rfl
 i3 := by kernel_rfl
 i4 := by kernel_rfl
 i5 := by kernel_rfl
 i9 := by kernel_rfl
 i20 := by kernel_rfl
 i21 := by kernel_rfl
 i37 := by kernel_rfl
 i46 := by kernel_rfl
 i51 := by kernel_rfl
 i53 := by kernel_rfl
 i75 := by kernel_rfl
 i76 := by kernel_rfl
 i80 := by kernel_rfl
 i85 := by kernel_rfl
 i127 := by kernel_rfl
 i143 := by kernel_rfl
 i145 := by kernel_rfl
 i167 := by kernel_rfl
 i168 := by kernel_rfl
 i171 := by kernel_rfl
 i173 := by kernel_rfl
 i175 := by kernel_rfl
 i210 := by kernel_rfl
 i212 := by kernel_rfl
 i232 := by kernel_rfl
 i233 := by kernel_rfl
 m15 := by kernel_rfl
 m16 := by kernel_rfl
 m17 := by kernel_rfl
 m18 := by kernel_rfl
 m19 := by kernel_rfl
 c0 := by kernel_rfl
 c2 := by kernel_rfl
 c3 := by kernel_rfl
 c4 := by kernel_rfl
 c5 := by kernel_rfl
 c9 := by kernel_rfl
 c20 := by kernel_rfl
 c21 := by kernel_rfl
 c37 := by kernel_rfl
 c46 := by kernel_rfl
 c51 := by kernel_rfl
 c53 := by kernel_rfl
 c75 := by kernel_rfl
 c76 := by kernel_rfl
 c80 := by kernel_rfl
 c85 := by kernel_rfl
 c127 := by kernel_rfl
 c143 := by kernel_rfl
 c145 := by kernel_rfl
 c167 := by kernel_rfl
 c168 := by kernel_rfl
 c171 := by kernel_rfl
 c173 := by kernel_rfl
 c175 := by kernel_rfl
 c210 := by kernel_rfl
 c212 := by kernel_rfl
 c213 := by kernel_rfl
 c232 := by kernel_rfl
 c233 := by kernel_rfl
def Tryz.ren264 : Ren where
 f := fun x => match x with | 264 => 257 | n => n
 t := fun x => match x with | 53 => 97 | 46 => 42 | n => n
 g := fun x => x
theorem Tryz.lays264 : Lays.n264 Tryz.prog Tryz.ren264 where
 mixed := by kernel_rfl
 f264 := Tryz.func257
 t46 := Tryz.underlying42
 a46 := Tryz.isAgg42
 z46 := Tryz.sizeOf42
 v46 := Tryz.zeroValue42
 t53 := Tryz.underlying97
 a53 := Tryz.isAgg97
 z53 := Tryz.sizeOf97
 v53 := Tryz.zeroValue97
def Tryz.ren106 : Ren where
 f := fun x => match x with | 106 => 247 | 213 => 256 | 265 => 262 | n => n
 t := fun x => match x with | 9 => 9 | 3 => 3 | n => n
 g := fun x => x
theorem Tryz.lays106 : Lays.n106 Tryz.prog Tryz.ren106 where
 mixed := by kernel_rfl
 f106 := Tryz.func247
 f213 := Tryz.func256
 f265 := Tryz.func262
 t3 := Tryz.underlying3
 a3 := Tryz.isAgg3
 z3 := Tryz.sizeOf3
 v3 := Tryz.zeroValue3
 t9 := Tryz.underlying9
 a9 := Tryz.isAgg9
 z9 := Tryz.sizeOf9
 v9 := Tryz.zeroValue9
theorem Tryz.lays166 : Lays.n166 Tryz.prog Tryz.ren155 := { Tryz.lays155 with }
end Go.Proofs
namespace Go.SX.Nb
open Go Go.SX Go.Proofs Go.RowKit
variable [ErrAt]
set_option maxRecDepth 4000
theorem I3 {w : World} (h : Ds w) : ∃ m, w.cell? ⟨2, 0, none⟩ = some (.int .i64 m) := by
 obtain ⟨_, a, m, t, f, rfl⟩ := h (2, fun o => ∃ m t f, o = .cells #[.int .i64 m] t f) (by simp [GlobInv.blocks, Ml])
 exact ⟨m, by simp [World.cell?, a]⟩
theorem H9 {w : World} (h : Ds w) : w.cell? ⟨1, 0, none⟩ = some (.iface 229 (.pointer (some ErrAt.b))) := by
 obtain ⟨_, a, t, f, rfl⟩ := h (1, fun o => ∃ t f, o = .cells #[.iface 229 (.pointer (some ErrAt.b))] t f) (by simp [GlobInv.blocks, Ml])
 simp [World.cell?, a]
theorem Qo {w : World} (h : Ds w) : w.cell? ⟨0, 0, none⟩ = some (.iface 229 (.pointer (some ErrAt.bs))) := by
 obtain ⟨_, a, t, f, rfl⟩ := h (0, fun o => ∃ t f, o = .cells #[.iface 229 (.pointer (some ErrAt.bs))] t f) (by simp [GlobInv.blocks, Ml])
 simp [World.cell?, a]
theorem S3 {w : World} (h : Ds w) : Lib.TabIs Tryz.prog w "internal/strconv.uint64pow10" .u64 Lib.pow10Tab := by
 obtain ⟨_, a, t, f, rfl⟩ := h (3, fun o => ∃ t f, o = .cells (Lib.pow10Tab.map fun z => Value.int .u64 z).toArray t f) (by simp [GlobInv.blocks, Ml])
 have hg : Tryz.prog.globalNamed "internal/strconv.uint64pow10" = some 3 := by kernel_rfl
 simp only at a
 simp [Lib.TabIs, World.var?, hg, a]
theorem S4 (w : World) (n : Nat) : Below w.heap.size w (w.drewN n) := ⟨rfl, rfl, rfl, Nat.le_refl _, fun _ _ => rfl⟩
theorem Y3 (s t : Str) (hs : s.length < 4294967281) (Hp : List AObj) : AFun Tryz.prog 125 [A8 s, A8 t] Hp (Ak (Lib.contains s t)) := by
 refine AFun.lib (xs := [sv s, sv t]) (v := .bool (Lib.contains s t)) (fun G w => .v _ _) (fun w hg => ?_)
 obtain ⟨m, hm⟩ := I3 hg
 refine (Any.strings_Contains Tryz.lays144 ⟨s.toArray⟩ ⟨t.toArray⟩ m w (by simpa [ByteArray.size] using hs) hm).mono ?_
 rintro e w' ⟨rfl, rfl⟩
 exact Rx
theorem qm (s t : Str) (hs : s.length < 4294967281) (Hp : List AObj) : AFun Tryz.prog 136 [A8 s, A8 t] Hp (.tup [A8 (Lib.cut s t).1, A8 (Lib.cut s t).2.1, Ak (Lib.cut s t).2.2]) := by
 refine AFun.lib (xs := [sv s, sv t]) (v := .tuple #[sv (Lib.cut s t).1, sv (Lib.cut s t).2.1, .bool (Lib.cut s t).2.2]) (fun G w => Gd rfl (fun i y u hy hu => ?_)) (fun w hg => ?_)
 ·match i with
  | 0 => simp at hy hu; subst hy; subst hu; exact .v _ _
  | 1 => simp at hy hu; subst hy; subst hu; exact .v _ _
  | 2 => simp at hy hu; subst hy; subst hu; exact .v _ _
  | i + 3 => simp at hy
 obtain ⟨m, hm⟩ := I3 hg
 refine (Any.strings_Cut Tryz.lays145 ⟨s.toArray⟩ ⟨t.toArray⟩ m w (by simpa [ByteArray.size] using hs) hm).mono ?_
 rintro e w' ⟨rfl, n, rfl⟩
 exact ⟨rfl, S4 _ _⟩
theorem si (s t : Str) (ht : t.length < 4294967281) (ha : ∀ c ∈ t, c.toNat < 128) (Hp : List AObj) : AFun Tryz.prog 124 [A8 s, A8 t] Hp (A8 (Lib.trimLeftS s t)) := by
 refine AFun.lib (xs := [sv s, sv t]) (v := sv (Lib.trimLeftS s t)) (fun G w => .v _ _) (fun w hg => ?_)
 refine (Any.strings_TrimLeft_laid Tryz.lays161 (by kernel_rfl) ⟨s.toArray⟩ ⟨t.toArray⟩ w (by simpa [ByteArray.size] using ht) (fun j b hj => ha b (List.mem_of_getElem? hj))).mono ?_
 rintro e w' ⟨rfl, hb⟩
 exact ⟨rfl, hb⟩
/-- The pieces of a split. -/
def Io (s t : Str) : List Str := (Lib.splitB ⟨t.toArray⟩ 0 (Lib.countB ⟨s.toArray⟩ ⟨t.toArray⟩) ⟨s.toArray⟩).map (·.data.toList)
theorem c94 (s t : Str) (hs : s.length < 4294967281) (ht : 1 ≤ t.length) (Hp : List AObj) : AFun Tryz.prog 94 [A8 s, A8 t] Hp (Gq (Io s t)) := by
 have := AFun.libSlice (P := Tryz.prog) (g := 94) (Hp := Hp) (xs := [sv s, sv t]) (ys := (Io s t).map sv) (t := 9) (by intro y hy; obtain ⟨z, _, rfl⟩ := List.mem_map.1 hy; rfl) (fun w hg => by
  obtain ⟨m, hm⟩ := I3 hg
  refine (Any.strings_Split Tryz.lays146 (by kernel_rfl) ⟨s.toArray⟩ ⟨t.toArray⟩ m w (by simpa [ByteArray.size] using hs) hm (by simpa [ByteArray.size] using ht)).mono ?_
  rintro e w' ⟨rfl, rfl⟩
  have hl : ((Io s t).map sv).length = Lib.countB ⟨s.toArray⟩ ⟨t.toArray⟩ + 1 := by
   rw [List.length_map]
   unfold Io
   rw [List.length_map]
   exact Lib.splitB_all _ (by simpa [ByteArray.size] using ht) _ _ _ rfl
  refine ⟨by rw [hl], ?_⟩
  unfold Io
  rw [List.map_map]
  rfl)
 rw [List.map_map] at this
 exact this
end Go.SX.Nb
namespace Go.Proofs
open Go Go.RowKit Go.Extern.Stop Go.Stop Go.Extern
theorem Tryz.isTypeOf (v : Value) (w : World) : (Extern.ReflectliteType.typeOf #[.iface 229 v]).run Tryz.prog w = .ok (.iface 263 (.agg #[.pointer (some ⟨8, 229, none⟩)])) w := by kernel_rfl
def Tryz.cmpOf : Array Value → Sem Value := Extern.ReflectliteType.method fun t => do Extern.Rtype.noPackHeld "Comparable" t; pure (.bool (← typeInfo t).comparable)
theorem Tryz.isComparable (w : World) : (Tryz.cmpOf #[.agg #[.pointer (some ⟨8, 229, none⟩)]]).run Tryz.prog w = .ok (.bool true) w := by kernel_rfl
theorem Tryz.isMethodComparable (v : Value) (w : World) : (Go.method 411 263 v "Comparable").run Tryz.prog w = .ok (287, v) w := by kernel_rfl
theorem Tryz.isComp : (Tryz.prog.info? 229).map (·.comparable) = some true := by kernel_rfl
theorem Tryz.isSize : (Tryz.prog.info? 231).map (·.size) = some 1 := by kernel_rfl
theorem Tryz.noIsW (v : Value) (xT : TypeId) (w : World) : (Instr.typeAssert (.iface 180 v) xT 265 true).run Tryz.prog w = .ok (.tuple #[.nilIface, .bool false]) w := run_typeAssert_lacksB Tryz.underlying265 (by kernel_rfl) (by kernel_rfl) v xT w
theorem Tryz.hasUnwrapW (v : Value) (xT : TypeId) (w : World) : (Instr.typeAssert (.iface 180 v) xT 268 true).run Tryz.prog w = .ok (.tuple #[.iface 180 v, .bool true]) w := run_typeAssert_hasB Tryz.underlying268 (by kernel_rfl) v xT w
theorem Tryz.methodUnwrap (v : Value) (w : World) : (Go.method 411 180 v "Unwrap").run Tryz.prog w = .ok (282, v) w := by kernel_rfl
namespace Tryz
theorem is_nil (b : Addr) (w : World) :
  Calls Tryz.prog 219 #[.nilIface, .iface 229 (.pointer (some b))] w fun e w' => e = .returned (.bool false) ∧ w' = w := by
 have hn := run_eql_iface_nil_left (P := Tryz.prog) w 229 (.pointer (some b)) Tryz.underlying115
 go_enter Tryz.func219, Tryz.ntmps219
 go_wp2
 go_ret
 exact ⟨rfl, rfl⟩
set_option maxRecDepth 100000 in
theorem is_range (pb po : Nat) (b : Addr) (w : World) (h1 : w.cell? ⟨pb, po + 2, none⟩ = some (.iface 229 (.pointer (some b)))) :
  Calls Tryz.prog 219 #[.iface 180 (.pointer (some ⟨pb, po, none⟩)), .iface 229 (.pointer (some b))] w fun e w' => e = .returned (.bool true) ∧ w' = w := by
 obtain ⟨i, hi, hcmp⟩ := Option.map_eq_some_iff.1 Tryz.isComp
 obtain ⟨j, hj, hjs⟩ := Option.map_eq_some_iff.1 Tryz.isSize
 have h8 := @run_callFunc_extern Tryz.prog 234 _ Extern.ReflectliteType.typeOf Tryz.func234 (by kernel_rfl) (by kernel_rfl) (by kernel_rfl) (by kernel_rfl)
 have h32 := @run_callFunc_extern Tryz.prog 287 _ Tryz.cmpOf Tryz.func287 (by kernel_rfl) (by kernel_rfl) (by kernel_rfl) (by kernel_rfl)
 have tT := Tryz.isTypeOf
 have cT := Tryz.isComparable
 have mR := Tryz.isMethodComparable
 have nW := Tryz.noIsW
 have uW := Tryz.hasUnwrapW
 have mU := Tryz.methodUnwrap
 have heq := run_eql_iface_ptr_same (P := Tryz.prog) w b Tryz.underlying115 Tryz.underlying229 hi hcmp hj
 have hty := run_eql_iface_types (P := Tryz.prog) 180 229 (.pointer (some ⟨pb, po, none⟩)) (.pointer (some b)) Tryz.underlying115 (by decide) w
 go_enter Tryz.func219, Tryz.ntmps219
 go_wp2
 refine wp_loop_rounds 2 ?_
 rw [rounds_succ]
 go_wp2
 rw [rounds_succ]
 go_wp2
 go_ret
 exact ⟨rfl, rfl⟩
end Tryz
end Go.Proofs
namespace Go.SX.Nb
open Go Go.SX Go.Proofs Go.RowKit Go.Sort
variable [ErrAt]
set_option maxRecDepth 4000
theorem sj (s t : Str) (Hp : List AObj) : AFun Tryz.prog 193 [A8 s, A8 t] Hp (Ak (Lib.hasPrefix s t)) := by
 refine AFun.lib (xs := [sv s, sv t]) (v := .bool (Lib.hasPrefix s t)) (fun G w => .v _ _) (fun w hg => ?_)
 refine (Any.strings_HasPrefix Tryz.lays99 ⟨s.toArray⟩ ⟨t.toArray⟩ w).mono ?_
 rintro e w' ⟨rfl, rfl⟩
 exact Rx
theorem sk (s t : Str) (hs : s.length ≤ 9223372036854775807) (Hp : List AObj) : AFun Tryz.prog 194 [A8 s, A8 t] Hp (Ak (Lib.hasSuffix s t)) := by
 refine AFun.lib (xs := [sv s, sv t]) (v := .bool (Lib.hasSuffix s t)) (fun G w => .v _ _) (fun w hg => ?_)
 refine (Any.strings_HasSuffix Tryz.lays100 ⟨s.toArray⟩ ⟨t.toArray⟩ w (by simpa [ByteArray.size] using hs)).mono ?_
 rintro e w' ⟨rfl, rfl⟩
 exact Rx
theorem sm (s : Str) (c : UInt8) (Hp : List AObj) : AFun Tryz.prog 169 [A8 s, .v (.int .u8 (c.toNat : Int))] Hp (A4 (Lib.indexByte s c)) := by
 refine AFun.lib (xs := [sv s, .int .u8 (c.toNat : Int)]) (v := .int .i64 (Lib.indexByte s c)) (fun G w => .v _ _) (fun w hg => ?_)
 refine (Any.strings_IndexByte Tryz.lays137 ⟨s.toArray⟩ (c.toNat : Int) w).mono ?_
 rintro e w' ⟨rfl, rfl⟩
 exact ⟨by simp, Below.refl _ _⟩
theorem sn : Builder.Extra Tryz.prog Tryz.ren155 := { sizeBuilder := by kernel_rfl, liesBuilder := by kernel_rfl, t5 := Tryz.underlying5, a5 := Tryz.isAgg5, z5 := Tryz.sizeOf5, v5 := Tryz.zeroValue5, infoByte := by kernel_rfl, cellsByte := by kernel_rfl, sizeByte := by kernel_rfl, neB5 := by decide }
theorem Vw : Builder.Extra Tryz.prog Tryz.ren156 := { sizeBuilder := by kernel_rfl, liesBuilder := by kernel_rfl, t5 := Tryz.underlying5, a5 := Tryz.isAgg5, z5 := Tryz.sizeOf5, v5 := Tryz.zeroValue5, infoByte := by kernel_rfl, cellsByte := by kernel_rfl, sizeByte := by kernel_rfl, neB5 := by decide }
theorem qn (s o n : Str) (hs : s.length < 4294967281) (ho : 1 ≤ o.length) (hl : s.length + Lib.countB ⟨s.toArray⟩ ⟨o.toArray⟩ * n.length ≤ 140737488355328) (Hp : List AObj) : AFun Tryz.prog 152 [A8 s, A8 o, A8 n] Hp (A8 (Lib.replaceAll s o n)) := by
 refine AFun.lib (xs := [sv s, sv o, sv n]) (v := sv (Lib.replaceAll s o n)) (fun G w => .v _ _) (fun w hg => ?_)
 obtain ⟨m, hm⟩ := I3 hg
 refine (Any.strings_ReplaceAll Tryz.lays155 sn ⟨s.toArray⟩ ⟨o.toArray⟩ ⟨n.toArray⟩ m w (by simpa [ByteArray.size] using hs) hm (by simpa [ByteArray.size] using ho) (by simpa [ByteArray.size] using hl)).mono ?_
 rintro e w' ⟨rfl, hb⟩
 exact ⟨rfl, hb⟩
theorem Mm (w : World) (k : Nat) (os : Array Obj) : Below w.heap.size w (grow (w.drewN k) os) := by
 refine ⟨rfl, rfl, rfl, by simp [grow], fun b hb => ?_⟩
 show ((w.drewN k).heap ++ os)[b]? = w.heap[b]?
 rw [Array.getElem?_append_left (by exact hb)]
 rfl
theorem so (n : Int) (h0 : -9223372036854775808 ≤ n) (h1 : n ≤ 9223372036854775807) (Hp : List AObj) : AFun Tryz.prog 176 [.v (.int .i64 n), A4 10] Hp (A8 (Lib.itoa n)) := by
 refine AFun.lib (xs := [.int .i64 n, .int .i64 10]) (v := sv (Lib.itoa n)) (fun G w => .v _ _) (fun w hg => ?_)
 refine (Any.strconv_FormatInt_10 Tryz.lays173 n h0 h1 w (S3 hg)).mono ?_
 rintro e w' ⟨rfl, k, os, rfl⟩
 exact ⟨rfl, Mm _ _ _⟩
end Go.SX.Nb
namespace Go.SX.Nb
open Go Go.SX Go.Proofs Go.RowKit
variable [ErrAt]
set_option maxRecDepth 4000
def digs : Str := [48, 49, 50, 51, 52, 53, 54, 55, 56, 57]
def Ks (s : Str) : Str := Lib.trimPrefix s [45]
def Fc (s : Str) : Bool := (Ks s == []) || !(Lib.trimS (Ks s) digs == []) || (((Ks s).headD 0 == 48) && decide (1 < s.length))
def Br (s : Str) : Int × Int := if Fc s then (0, 6) else match Lib.parseIntB 64 s with | .ok v => (v, 0) | .range => (0, 4) | _ => (0, 0)
def ia {α : Type} : Lib.NumEnd α → Bool | .ok _ => false | .range => false | _ => true
theorem bj {p : UInt8 → Bool} : ∀ {l : Str}, l.dropWhile p = [] ↔ ∀ b ∈ l, p b = true
 | [] => by simp
 | b :: r => by
  rw [List.dropWhile_cons]
  by_cases h : p b = true
  ·rw [if_pos h, bj]
   simp [h]
  rw [if_neg h]
  simp [h]
theorem bl {p : UInt8 → Bool} : ∀ {l : Str} {b : UInt8}, b ∈ l → p b = false → b ∈ l.dropWhile p
 | x :: r, b, h, hb => by
  rw [List.dropWhile_cons]
  by_cases hx : p x = true
  ·rw [if_pos hx]
   rcases List.mem_cons.1 h with rfl | h
   ·rw [hb] at hx; cases hx
   exact bl h hb
  rw [if_neg hx]; exact h
theorem Oy {l cs : Str} : Lib.trimS l cs = [] ↔ ∀ b ∈ l, cs.contains b = true := by
 unfold Lib.trimS Lib.trimLeftS Lib.trimRightS
 rw [bj]
 constructor
 ·intro h b hb
  cases hc : cs.contains b with
  | true => rfl
  | false =>
   have := h b (List.mem_reverse.2 (bl (p := (cs.contains ·)) (List.mem_reverse.2 hb) hc))
   rw [hc] at this; exact this
 intro h b hb
 exact h b (List.mem_reverse.1 ((List.dropWhile_sublist (cs.contains ·)).subset (List.mem_reverse.1 hb)))
theorem Id (c : UInt8) : digs.contains c = (decide (48 ≤ c.toNat) && decide (c.toNat ≤ 57)) := by
 have h : ((List.range 256).all fun n => digs.contains (UInt8.ofNat n) == (decide (48 ≤ (UInt8.ofNat n).toNat) && decide ((UInt8.ofNat n).toNat ≤ 57))) = true := by kernel_rfl
 have := List.all_eq_true.1 h c.toNat (List.mem_range.2 c.toNat_lt)
 simpa using this
theorem Oz (M : Nat) : ∀ (l : Str) (acc : Nat), (∀ b ∈ l, digs.contains b = true) → ia (Lib.parseUintM M acc l) = false
 | [], acc, _ => by rw [Lib.parseUintM]; rfl
 | c :: r, acc, h => by
  have hc := h c (by simp)
  rw [Id] at hc
  simp only [Bool.and_eq_true, decide_eq_true_eq] at hc
  rw [Lib.parseUintM, if_pos hc]
  split
  ·rfl
  split
  ·rfl
  exact Oz M r _ (fun b hb => h b (by simp [hb]))
theorem Kt (s : Str) : (s.head? ≠ some 45 ∧ Ks s = s) ∨ ∃ r, s = 45 :: r ∧ Ks s = r := by
 unfold Ks Lib.trimPrefix Lib.hasPrefix
 cases s with
 | nil => exact .inl ⟨by simp, rfl⟩
 | cons c r =>
  by_cases hc : c = 45
  ·subst hc; exact .inr ⟨r, rfl, by simp [List.isPrefixOf]⟩
  refine .inl ⟨by simpa using hc, ?_⟩
  rw [if_neg]
  simp [List.isPrefixOf, Ne.symm hc]
theorem Ha {s : Str} (h : Fc s = false) : ia (Lib.parseIntB 64 s) = false := by
 unfold Fc at h
 simp only [Bool.or_eq_false_iff, Bool.not_eq_false', beq_iff_eq, beq_eq_false_iff_ne] at h
 obtain ⟨⟨h1, h2⟩, _⟩ := h
 rw [Oy] at h2
 have key : ∀ l : Str, l ≠ [] → (∀ b ∈ l, digs.contains b = true) → ia (Lib.parseUintB 64 l) = false := fun l hl ha => by
  unfold Lib.parseUintB
  rw [if_neg hl]
  exact Oz _ l 0 ha
 rcases Kt s with ⟨h3, h4⟩ | ⟨r, rfl, h4⟩
 ·rw [h4] at h1 h2
  cases s with
  | nil => exact absurd rfl h1
  | cons c r =>
   have hcd := h2 c (by simp)
   rw [Id] at hcd
   simp only [Bool.and_eq_true, decide_eq_true_eq] at hcd
   have e1 : ¬ (c.toNat = 43 ∨ c.toNat = 45) := by omega
   have := key (c :: r) (by simp) h2
   simp only [Lib.parseIntB, if_neg e1]
   revert this
   cases Lib.parseUintB 64 (c :: r) with
   | range => intro _; rfl
   | ok u => intro _; simp only; split <;> (try split) <;> rfl
   | _ => intro h; cases h
 rw [h4] at h1 h2
 have := key r h1 h2
 have e1 : ((45 : UInt8).toNat = 43 ∨ (45 : UInt8).toNat = 45) := .inr rfl
 simp only [Lib.parseIntB, if_pos e1]
 revert this
 cases Lib.parseUintB 64 r with
 | range => intro _; rfl
 | ok u => intro _; simp only; split <;> (try split) <;> rfl
 | _ => intro h; cases h
end Go.SX.Nb
namespace Go.SX.Nb
open Go Go.SX Go.Proofs
variable [ErrAt]
set_option maxRecDepth 4000
def Gi (c : UInt8) : Bool := decide ((97 : Int) ≤ c.toNat) && decide ((c.toNat : Int) ≤ 122)
def mb (c : UInt8) : Bool := decide ((48 : Int) ≤ c.toNat) && decide ((c.toNat : Int) ≤ 57)
def words : List Str := [[97, 100, 100], [100, 114, 111, 112], [114, 101, 110, 97, 109, 101], [115, 112, 108, 105, 116], [109, 101, 114, 103, 101], [114, 101, 116, 121, 112, 101], [105, 110, 116, 111], [116, 111], [98, 97, 99, 107], [97, 110, 100], [111, 114], [110, 111, 116], [116, 114, 117, 101], [102, 97, 108, 115, 101], [110, 117, 108, 108], [105, 110, 116], [116, 101, 120, 116], [98, 111, 111, 108], [115, 101, 108, 101, 99, 116], [119, 104, 101, 114, 101], [102, 114, 111, 109], [108, 105, 109, 105, 116]]
def K5 (s : Str) : Bool := words.any (· == s)
theorem mc {α : Type} {p : α → Bool} {l : List α} {i : Nat} (h : i < l.length) (hp : p l[i] = true) : l.any p = true := by
 rw [List.any_eq_true]; exact ⟨l[i], List.getElem_mem h, hp⟩
theorem bm {α : Type} {p : α → Bool} {l : List α} (h : ∀ (j : Nat) (y : α), l[j]? = some y → p y = false) : l.any p = false := by
 rw [List.any_eq_false]
 intro x hx
 obtain ⟨j, hj⟩ := List.getElem?_of_mem hx
 simp [h j x hj]
theorem Da {α : Type} {l : List α} {x : Nat} {p : α → Prop} (hlt : x < l.length) (h : ∀ (j : Nat) (y : α), j < x → l[j]? = some y → p y) (hx : p l[x]) : ∀ (j : Nat) (y : α), j < x + 1 → l[j]? = some y → p y := by
 intro j y hj hy
 rcases Nat.lt_or_ge j x with h' | h'
 ·exact h j y h' hy
 have : j = x := by omega
 subst this
 rw [List.getElem?_eq_getElem hlt] at hy
 injection hy with hy
 subst hy
 exact hx
theorem Hb {α : Type} {l : List α} {x : Nat} {p : α → Prop} (hge : l.length ≤ x) (h : ∀ (j : Nat) (y : α), j < x → l[j]? = some y → p y) : ∀ (j : Nat) (y : α), l[j]? = some y → p y :=
 fun j y hy => h j y (by have := (List.getElem?_eq_some_iff.1 hy).1; omega) hy
def Mn (c : UInt8) : Bool := Gi c || mb c || c == 95
def Je (s : Str) : Bool := match s with
 | [] => false
 | c :: _ => decide (s.length ≤ 16) && Gi c && !K5 s && s.all Mn
theorem P0 {s : Str} (h : s ≠ []) : s[0]? = some (s.headD 0) := by cases s with
 | nil => exact absurd rfl h
 | cons c r => rfl
def B2 (nm : Str) (c : List Col) : Int := match c.findIdx? (fun y => y.name == nm) with | some i => i | none => -1
theorem bn {nm : List UInt8} {c : List Col} {x : Nat} (h : x < c.length) (h1 : c[x].name = nm) (h2 : ∀ (j : Nat) (y : Col), j < x → c[j]? = some y → ¬ (y.name = nm)) : B2 nm c = x := by
 have : c.findIdx? (fun y => y.name == nm) = some x := by
  rw [List.findIdx?_eq_some_iff_getElem]
  exact ⟨h, by simpa using h1, fun j hj => by simpa using h2 j c[j] hj (List.getElem?_eq_getElem _)⟩
 simp [B2, this]
theorem Ul {nm : List UInt8} {c : List Col} (h : ∀ (j : Nat) (y : Col), c[j]? = some y → ¬ (y.name = nm)) : B2 nm c = -1 := by
 have : c.findIdx? (fun y => y.name == nm) = none := by
  rw [List.findIdx?_eq_none_iff]
  intro y hy
  obtain ⟨j, hj⟩ := List.getElem?_of_mem hy
  simpa using h j y hj
 simp [B2, this]
structure OkCols (c : List Col) : Prop where
 len : c.length ≤ 1048576
 names : ∀ y ∈ c, y.name.length ≤ 1048576
def l3 (c : List Col) (x : Nat) (y : Col) : Bool := !(((!Je y.name || decide (y.kind < 1)) || decide ((3 : Int) < y.kind)) || (B2 y.name c != (x : Int)))
def bo (c : List Col) : Bool := c.zipIdx.all fun x => l3 c x.2 x.1
theorem Um {α : Type} {l : List α} {x : Nat} {p : Nat → α → Prop} (hlt : x < l.length) (h : ∀ (j : Nat) (y : α), j < x → l[j]? = some y → p j y) (hx : p x l[x]) : ∀ (j : Nat) (y : α), j < x + 1 → l[j]? = some y → p j y := by
 intro j y hj hy
 rcases Nat.lt_or_ge j x with h' | h'
 ·exact h j y h' hy
 have : j = x := by omega
 subst this
 rw [List.getElem?_eq_getElem hlt] at hy
 injection hy with hy
 subst hy
 exact hx
theorem Y4 {α : Type} {l : List α} {x : Nat} {p : Nat → α → Prop} (hge : l.length ≤ x) (h : ∀ (j : Nat) (y : α), j < x → l[j]? = some y → p j y) : ∀ (j : Nat) (y : α), l[j]? = some y → p j y :=
 fun j y hy => h j y (by have := (List.getElem?_eq_some_iff.1 hy).1; omega) hy
def Bu (v : Val) : Bool := if v.kind == 0 then v.n == 0 && v.s == [] else if v.kind == 1 then v.s == [] else if v.kind == 2 then v.n == 0 && decide ((v.s.length : Int) ≤ 200) else v.kind == 3 && v.s == [] && decide (0 ≤ v.n) && decide (v.n ≤ 1)
theorem md (e : Bool) (n : Int) : (e && (n == 0 || n == 1)) = (e && decide (0 ≤ n) && decide (n ≤ 1)) := by
 cases e
 ·rfl
 rw [Bool.eq_iff_iff]
 simp
 omega
theorem bp (v : Val) (Hp : List AObj) : AFun Tryz.prog 120 [Bh v] Hp (Ak (Bu v)) := by
 refine ACall.body [.tmp 2] [0] Tryz.func120 Tryz.ntmps120 (fun d => ?_)
 refine Ba ?_;refine R.box ?_;refine Au ?_;refine R.fin [1] ?_;refine Z27 ?_;refine Z61 ?_;refine R.fin [1, 4] ?_;refine Ru ?_;refine R.fin [1, 4, 5] ?_
 refine W.cond (fun ht5 => ?_) (fun ht5 => ?_)
 ·refine Z31 ?_;refine Uj ?_;refine R.eqlAgg S1 (Fl v.kind v.n 0 0 v.s []) ?_;refine Z76 ?_;refine Z4 ?_;exact K.fin (V.one V.tmp) ⟨by simp [Bu, ht5], rfl⟩
 refine Z48 ?_;refine R.fin [1, 4, 10] ?_
 refine W.cond (fun ht10 => ?_) (fun ht10 => ?_)
 ·refine Ba ?_;refine R.fieldAddrPtr (fo := 2) jU Tryz.sizeOf9 ?_;refine In ?_;refine Z10 ?_;refine Z2 ?_;refine Z4 ?_;exact K.fin (V.one V.tmp) ⟨by simp [Bu, ht5, ht10], rfl⟩
 refine Z48 ?_;refine R.fin [1, 4, 15] ?_
 refine W.cond (fun ht15 => ?_) (fun ht15 => ?_)
 ·refine Ba ?_;refine R.fieldAddrPtr (fo := 1) jU Tryz.sizeOf2 ?_;refine In ?_;refine Mf ?_;refine G.fieldAddrPtr (fo := 2) jU Tryz.sizeOf9 ?_;refine G.loadOwn jA ?_;refine G.slen jU ?_;refine G.leq ?_;refine Z32 ?_;refine Z2 ?_;refine Z4 ?_;exact K.fin (V.one V.tmp) ⟨by simp [Bu, ht5, ht10, ht15], rfl⟩
 refine Z48 ?_;refine R.fin [1, 26] ?_
 refine W.cond (fun ht26 => ?_) (fun ht26 => ?_)
 ·refine Ba ?_;refine R.fieldAddrPtr (fo := 2) jU Tryz.sizeOf9 ?_;refine In ?_;refine R.seql ?_;refine At ?_;refine G.fieldAddrPtr (fo := 1) jU Tryz.sizeOf2 ?_;refine G.loadOwn jA ?_;refine G.eql ?_;refine G.move ?_;refine G.fieldAddrPtr (fo := 1) jU Tryz.sizeOf2 ?_;refine G.loadOwn jA ?_;refine G.eql ?_;refine G.pickOr ?_;refine Z32 ?_;refine Z2 ?_;refine Z4 ?_;exact K.fin (V.one V.tmp) ⟨by simp [Bu, ht5, ht10, ht15, ht26]; rw [md], rfl⟩
 refine Z17 ?_;refine Z57 ?_;exact K.fin (V.one V.tmp) ⟨by simp [Bu, ht5, ht10, ht15, ht26], rfl⟩

def Ku (c : List Col) : Bool := decide ((50 : Int) < c.length) || c.any fun y => decide ((100 : Int) < y.name.length)
theorem Un {α : Type} {c : List α} {p : Nat → α → Bool} : (c.zipIdx.all fun x => p x.2 x.1) = true ↔ ∀ (j : Nat) (y : α), c[j]? = some y → p j y = true := by
 rw [List.all_eq_true]
 constructor
 ·intro h j y hj
  exact h (y, j) (by rw [List.mem_zipIdx_iff_getElem?]; exact hj)
 rintro h ⟨y, j⟩ hx
 rw [List.mem_zipIdx_iff_getElem?] at hx
 exact h j y hx
theorem c65 (y : Col) (nm : Str) (Hp : List AObj) : AFun Tryz.prog 65 [Rz y, .ro [A8 nm]] Hp (Ak (y.name == nm)) := by
 refine ACall.body [.tmp 3] [0, 1] Tryz.func65 Tryz.ntmps65 (fun d => ?_)
 refine Z97 ?_;refine R.fin [1, 2] ?_;refine Ba ?_;refine R.fieldAddrRo (off := 0) jU Tryz.sizeOf9 ?_;refine Cq ?_;refine Cq ?_;refine Z10 ?_;refine R.fin [3] ?_;exact g8

theorem c64 (c : List Col) (hc : OkCols c) (nm : Str) (Hp : List AObj) : AFun Tryz.prog 64 [C0 c, .fn (.func 65) [] [.ro [A8 nm]]] Hp (A4 (B2 nm c)) := by
 refine ACall.body [.tmp 4] [0, 1] Tryz.func64 Tryz.ntmps64 (fun d => ?_)
 refine Z87 ?_;refine Of ?_;refine R.fin [0, 1, 7, 8] ?_
 refine AW.loopC (α := Nat) (fun x => ⟨19, A6 0 (C0 c) (A6 1 (.fn (.func 65) [] [.ro [A8 nm]]) (A6 7 (A4 c.length) (A6 8 (A4 (x : Nat)) (fun _ => .any)))), Hp, [], [], none⟩) (fun x => x ≤ c.length ∧ ∀ (j : Nat) (y : Col), j < x → c[j]? = some y → ¬ (y.name = nm)) (fun x => c.length - x) (0) (by simp) (StLe.of_eq (by simp)) rfl (fun x hx => ?_)
 refine Z89 ?_;refine R.fin [0, 1, 7, 8, 9] ?_
 refine W.condX (fun ht9 => ?_) (fun ht9 => ?_)
 ·have hlt : x < c.length := by simpa using ht9
  have hcl := hc.len
  refine Z26 ?_;refine Z64 ?_;refine R.fin [0, 1, 5, 7, 8] ?_;refine Z29 ?_;refine At ?_;refine m7 ?_;refine Dn ?_;refine R.callV Tryz.call65 (c65 c[x] nm _) ?_;refine R.fin [0, 1, 5, 7, 8, 16] ?_
  refine W.cond (fun ht16 => ?_) (fun ht16 => ?_)
  ·refine Z64 ?_;refine Z41 ?_;refine Oa ?_;exact K.fin (V.one V.tmp) ⟨by rw [bn hlt (by simpa using ht16) hx.2], rfl⟩
  refine Mi ?_;refine R.fin [0, 1, 7, 8] ?_;exact K.lpN (x + 1) ⟨hlt, Da hlt hx.2 (by simpa using ht16)⟩ (by omega) (StCut.of_eq rfl)
 refine Z55 ?_;refine Uh ?_;exact K.fin (V.one V.tmp) ⟨by rw [Ul (Hb (by simp at ht9; omega) hx.2)], rfl⟩

theorem c29 (c : List Col) (hc : OkCols c) (nm : Str) (Hp : List AObj) : AFun Tryz.prog 29 [C0 c, A8 nm] Hp (A4 (B2 nm c)) := by
 refine ACall.body [.tmp 4] [0, 1] Tryz.func29 Tryz.ntmps29 (fun d => ?_)
 refine Z97 ?_;refine Lk ?_;refine Z0 ?_;refine R.makeFunc ?_;refine R.call Tryz.call64 (c64 c hc nm _) ?_;refine Au ?_;exact g9

def Jf (s of : Str) : Int := (s.length : Int) - (Lib.trimLeftS s of).length
theorem Lq (s of : Str) : (Lib.trimLeftS s of).length ≤ s.length := by
 unfold Lib.trimLeftS
 exact (List.dropWhile_sublist _).length_le
def Gj : Str := [32, 97, 100, 100, 32, 100, 114, 111, 112, 32, 114, 101, 110, 97, 109, 101, 32, 115, 112, 108, 105, 116, 32, 109, 101, 114, 103, 101, 32, 114, 101, 116, 121, 112, 101, 32, 105, 110, 116, 111, 32, 116, 111, 32, 98, 97, 99, 107, 32, 97, 110, 100, 32, 111, 114, 32, 110, 111, 116, 32, 116, 114, 117, 101, 32, 102, 97, 108, 115, 101, 32, 110, 117, 108, 108, 32, 105, 110, 116, 32, 116, 101, 120, 116, 32, 98, 111, 111, 108, 32, 115, 101, 108, 101, 99, 116, 32, 119, 104, 101, 114, 101, 32, 102, 114, 111, 109, 32, 108, 105, 109, 105, 116, 32]
def letters : Str := [97, 98, 99, 100, 101, 102, 103, 104, 105, 106, 107, 108, 109, 110, 111, 112, 113, 114, 115, 116, 117, 118, 119, 120, 121, 122]
def tails : Str := [97, 98, 99, 100, 101, 102, 103, 104, 105, 106, 107, 108, 109, 110, 111, 112, 113, 114, 115, 116, 117, 118, 119, 120, 121, 122, 48, 49, 50, 51, 52, 53, 54, 55, 56, 57, 95]
theorem c90 (s of : Str) (hs : s.length ≤ 1048576) (ho : of.length ≤ 1048576) (ha : ∀ c ∈ of, c.toNat < 128) (Hp : List AObj) : AFun Tryz.prog 90 [A8 s, A8 of] Hp (A4 (Jf s of)) := by
 refine ACall.body [.tmp 4] [0, 1] Tryz.func90 Tryz.ntmps90 (fun d => ?_)
 refine Z87 ?_;refine Z0 ?_;refine R.slen jU ?_;refine Z79 ?_;refine R.call Tryz.call124 (si s of (by omega) ha _) ?_;refine R.slen jU ?_
 have htl := Lq s of
 refine R.sub64 ?_;refine Au ?_;exact g9

def Db (s : Str) : Bool := (!(s == []) && !Lib.contains s [32]) && Lib.contains Gj ([32] ++ s ++ [32])
theorem c91 (s : Str) (hs : s.length ≤ 1048576) (Hp : List AObj) : AFun Tryz.prog 91 [A8 s] Hp (Ak (Db s)) := by
 refine ACall.body [.tmp 2] [0] Tryz.func91 Tryz.ntmps91 (fun d => ?_)
 refine Z88 ?_;refine Z0 ?_;refine R.sneq ?_;refine Z22 ?_;refine G.call Tryz.call125 (fun hB => Y3 s [32] (by omega) _) ?_;refine G.not ?_;refine U5 ?_;refine G.sadd ?_;refine G.sadd ?_;refine G.call Tryz.call125 (fun hB => Y3 Gj ([32] ++ s ++ [32]) (by decide) _) ?_;refine Z32 ?_;refine Z2 ?_;exact Y0

theorem me {s : Str} {b c : Bool} (h : (((!(s == []) && b) && c) == true) = true) : 1 ≤ s.length := by
 cases s with
 | nil => simp at h
 | cons x r => simp
def Dg (s : Str) : Bool := ((((!(s == []) && decide ((s.length : Int) ≤ 16)) && (Jf s tails == (s.length : Int))) && (Jf (s.take 1) letters == 1)) && !Db s)
theorem c60 (s : Str) (hs : s.length ≤ 1048576) (Hp : List AObj) : AFun Tryz.prog 60 [A8 s] Hp (Ak (Dg s)) := by
 refine ACall.body [.tmp 2] [0] Tryz.func60 Tryz.ntmps60 (fun d => ?_)
 refine Z88 ?_;refine Z0 ?_;refine R.sneq ?_;refine Z22 ?_;refine G.slen jU ?_;refine G.leq ?_;refine U5 ?_;refine G.call Tryz.call90 (fun hB => c90 s tails hs (by decide) (by decide) _) ?_;refine G.move ?_;refine G.slen jU ?_;refine G.eql ?_;refine U5 ?_;refine G.scutH 1 jU (fun _ => Nat.zero_le _) (fun hB => me hB) ?_
 refine G.call Tryz.call90 (fun hB => c90 (s.take 1) letters (by simp; omega) (by decide) (by decide) _) ?_
 refine G.eql ?_;refine U5 ?_;refine G.call Tryz.call91 (fun hB => c91 s hs _) ?_;refine G.not ?_;refine Z32 ?_;refine Z2 ?_;exact Y0

end Go.SX.Nb
namespace Go.SX.Nb
open Go Go.SX Go.Proofs Go.RowKit
variable [ErrAt]
set_option maxRecDepth 4000
theorem sq (s t : Str) (Hp : List AObj) : AFun Tryz.prog 216 [A8 s, A8 t] Hp (A8 (Lib.trimPrefix s t)) := by
 refine AFun.lib (xs := [sv s, sv t]) (v := sv (Lib.trimPrefix s t)) (fun G w => .v _ _) (fun w hg => ?_)
 refine (Any.strings_TrimPrefix Tryz.lays101 ⟨s.toArray⟩ ⟨t.toArray⟩ w).mono ?_
 rintro e w' ⟨rfl, rfl⟩
 exact Rx
theorem sr (s t : Str) (hs : s.length ≤ 9223372036854775807) (ht : t.length < 4294967281) (ha : ∀ c ∈ t, c.toNat < 128) (Hp : List AObj) : AFun Tryz.prog 217 [A8 s, A8 t] Hp (A8 (Lib.trimS s t)) := by
 refine AFun.lib (xs := [sv s, sv t]) (v := sv (Lib.trimS s t)) (fun G w => .v _ _) (fun w hg => ?_)
 refine (Any.strings_Trim_laid Tryz.lays160 (by kernel_rfl) ⟨s.toArray⟩ ⟨t.toArray⟩ w (by simpa [ByteArray.size] using hs) (by simpa [ByteArray.size] using ht) (fun j b hj => ha b (List.mem_of_getElem? hj))).mono ?_
 rintro e w' ⟨rfl, hb⟩
 exact ⟨rfl, hb⟩
theorem ib (s : Str) (hs : s.length ≤ 1048576) (v : Int) (h : Lib.parseIntB 64 s = .ok v) (Hp : List AObj) : AFun Tryz.prog 218 [A8 s, A4 10, A4 64] Hp (.tup [A4 v, .v .nilIface]) := by
 refine AFun.lib (xs := [sv s, .int .i64 10, .int .i64 64]) (v := .tuple #[.int .i64 v, .nilIface]) (fun G w => Gd rfl (fun i y u hy hu => ?_)) (fun w hg => ?_)
 ·match i with
  | 0 => simp at hy hu; subst hy; subst hu; exact .v _ _
  | 1 => simp at hy hu; subst hy; subst hu; exact .v _ _
  | i + 2 => simp at hy
 refine (Any.strconv_ParseInt_10_at64_ok Tryz.lays174 ⟨s.toArray⟩ (by simp [ByteArray.size]; omega) v h w).mono ?_
 rintro e w' ⟨rfl, rfl | ⟨t, rfl⟩⟩
 ·exact Rx
 exact ⟨rfl, Lib.bytesWorld_below _ _ _⟩
def K6 (s : Str) : AV := .iface 180 (.ro [.v (sv [80, 97, 114, 115, 101, 73, 110, 116]), .v (sv s), .v (.iface 229 (.pointer (some ErrAt.b)))])
theorem Uo (s : Str) (hs : s.length ≤ 1048576) (h : Lib.parseIntB 64 s = .range) (Hp : List AObj) : AFun Tryz.prog 218 [A8 s, A4 10, A4 64] Hp (.tup [A4 (Lib.intSat 64 s), K6 s]) := by
 refine AFun.libErr (xs := [sv s, .int .i64 10, .int .i64 64]) (n := .int .i64 (Lib.intSat 64 s)) (cs := [sv [80, 97, 114, 115, 101, 73, 110, 116], sv s, .iface 229 (.pointer (some ErrAt.b))]) (te := 211) (fun y hy => ?_) (fun w hg => ?_)
 ·simp only [List.mem_cons, List.mem_nil_iff, or_false] at hy
  rcases hy with rfl | rfl | rfl <;> rfl
 refine (Any.strconv_ParseInt_10_at64_range Tryz.lays174 ⟨s.toArray⟩ (by simp [ByteArray.size]; omega) h (.iface 229 (.pointer (some ErrAt.b))) w (H9 hg) (.inr ⟨_, _, rfl⟩)).mono ?_
 rintro e w' ⟨N, rfl, h1, h2, h3⟩
 exact ⟨N, rfl, h1, h2, h3⟩
theorem bq (Hp : List AObj) : AFun Tryz.prog 219 [.v .nilIface, .v (.iface 229 (.pointer (some ErrAt.b)))] Hp (Ak false) := by
 refine AFun.lib (xs := [.nilIface, .iface 229 (.pointer (some ErrAt.b))]) (v := .bool false) (fun G w => .v _ _) (fun w hg => ?_)
 refine (Tryz.is_nil _ w).mono ?_
 rintro e w' ⟨rfl, rfl⟩
 exact Rx
theorem Up (s : Str) (Hp : List AObj) : AFun Tryz.prog 219 [K6 s, .v (.iface 229 (.pointer (some ErrAt.b)))] Hp (Ak true) := by
 intro d G w vs hn hv hH hT
 have hsz : vs.size = 2 := hn
 have h0 := hv 0 (K6 s) vs[0] rfl (Array.getElem?_eq_getElem (by omega))
 have h1 := G4 (hv 1 (.v (.iface 229 (.pointer (some ErrAt.b)))) vs[1] rfl (Array.getElem?_eq_getElem (by omega)))
 have hvs : vs = #[vs[0], vs[1]] := by
  apply Array.ext
  ·exact hsz
  intro i hi1 hi2
  match i with
  | 0 => rfl
  | 1 => rfl
  | i + 2 => omega
 unfold K6 at h0
 generalize vs[0] = u0 at h0 hvs
 cases h0 with
 | iface _ _ _ u h =>
  cases h with
  | ro _ _ ad f hs h1' hf hr =>
   obtain ⟨ab, ao, asp⟩ := ad
   simp only at hs
   subst hs
   have hc := (hf 2 _ rfl).2
   have he := G4 (hr 2 _ rfl)
   rw [he] at hc
   rw [hvs, h1]
   refine (callsIn_wide.2 (Tryz.is_range ab ao ErrAt.b w hc)).mono ?_
   rintro e w' ⟨rfl, rfl⟩
   exact ⟨_, G, _, Hp, rfl, .v _ _, hH, hT, Keep.refl _ _ _, rfl, rfl, rfl⟩
end Go.SX.Nb
namespace Go.SX.Nb
open Go Go.SX Go.Proofs
variable [ErrAt]
set_option maxRecDepth 4000
def S5 : Str := [32, 105, 110, 116, 32, 116, 101, 120, 116, 32, 98, 111, 111, 108]
def kindNames : List Str := [[], [105, 110, 116], [116, 101, 120, 116], [98, 111, 111, 108]]
theorem Y5 : Io S5 [32] = kindNames := by kernel_rfl
def F7 (k : Int) : Str := if k < 1 ∨ 3 < k then [] else kindNames.getD k.toNat []
theorem c62 (k : Int) (Hp : List AObj) : AFun Tryz.prog 62 [A4 k] Hp (A8 (F7 k)) := by
 refine ACall.body [.tmp 2] [0] Tryz.func62 Tryz.ntmps62 (fun d => ?_)
 refine Z88 ?_;refine Ub ?_;refine Z22 ?_;refine Md ?_;refine R.fin [0, 8] ?_
 refine W.cond (fun ht8 => ?_) (fun ht8 => ?_)
 ·refine Z57 ?_;refine K.thR ?_;exact K.fin (V.one V.tmp) ⟨by rw [show F7 k = [] from if_pos (by simpa using ht8)], rfl⟩
 refine Lj ?_
 have hk : 1 ≤ k ∧ k ≤ 3 := by simp at ht8; omega
 have hget : (kindNames.map A8)[k.toNat]? = some (A8 (kindNames.getD k.toNat [])) := by
  have hlt : k.toNat < kindNames.length := by show k.toNat < 4; omega
  rw [List.getElem?_map, List.getElem?_eq_getElem hlt, List.getD_eq_getElem?_getD, List.getElem?_eq_getElem hlt]
  rfl
 refine R.call Tryz.call94 (Y5 ▸ c94 S5 [32] (by decide) (by decide) _) ?_;refine At ?_;refine R.indexAddr (k.toNat) (A8 (kindNames.getD k.toNat [])) jU jS hget ?_;refine Cq ?_;refine Z76 ?_;exact K.fin (V.one V.tmp) ⟨by rw [show F7 k = kindNames.getD k.toNat [] from if_neg (by omega)], rfl⟩

def I4 (s of : Str) : Bool := (!(s == []) && !Lib.contains s [32]) && Lib.contains of ([32] ++ s ++ [32])
theorem qq (s of : Str) (hs : s.length ≤ 1048576) (ho : of.length ≤ 1048576) (Hp : List AObj) : AFun Tryz.prog 128 [A8 s, A8 of] Hp (Ak (I4 s of)) := by
 refine ACall.body [.tmp 4] [0, 1] Tryz.func128 Tryz.ntmps128 (fun d => ?_)
 refine Z87 ?_;refine Z0 ?_;refine R.sneq ?_;refine Z22 ?_;refine G.call Tryz.call125 (fun hB => Y3 s [32] (by omega) _) ?_;refine G.not ?_;refine R.pickAnd ?_;refine Me ?_;refine G.sadd ?_;refine G.sadd ?_;refine G.call Tryz.call125 (fun hB => Y3 of ([32] ++ s ++ [32]) (by omega) _) ?_;refine Z32 ?_;exact g9

def P1 : Str := [108, 101, 110, 58, 49, 32, 115, 116, 114, 58, 49, 32, 110, 117, 109, 58, 49, 32, 105, 115, 110, 117, 108, 108, 58, 49, 32, 110, 118, 108, 58, 50, 32, 108, 101, 102, 116, 58, 50, 32, 114, 105, 103, 104, 116, 58, 50, 32, 105, 102, 58, 51]
def arityList : List (Str × UInt8) := [([108, 101, 110], 49), ([115, 116, 114], 49), ([110, 117, 109], 49), ([105, 115, 110, 117, 108, 108], 49), ([110, 118, 108], 50), ([108, 101, 102, 116], 50), ([114, 105, 103, 104, 116], 50), ([105, 102], 51)]
def Ef (p : Str × UInt8) : Str := p.1 ++ [58, p.2]
theorem Uq : Io P1 [32] = arityList.map Ef := by kernel_rfl
theorem br {p : Str × UInt8} (hp : p ∈ arityList) : Lib.cut (Ef p) [58] = (p.1, [p.2], true) := by
 have h : (arityList.all fun p => decide (Lib.cut (Ef p) [58] = (p.1, [p.2], true))) = true := by kernel_rfl
 exact of_decide_eq_true (List.all_eq_true.1 h p hp)
def mf (p : Str × UInt8) : Int := IntKind.i64.wrap (IntKind.u8.wrap ((p.2.toNat : Int) - 48))
def Av (nm : Str) : Int := match arityList.find? (fun p => p.1 == nm) with | some p => mf p | none => -1
theorem Qp {α : Type} {p : α → Bool} {l : List α} {x : Nat} (h : x < l.length) (hp : p l[x] = true) (h2 : ∀ (j : Nat) (y : α), j < x → l[j]? = some y → p y = false) : l.find? p = some l[x] := by
 rw [List.find?_eq_some_iff_getElem]
 exact ⟨hp, x, h, rfl, fun j hj => by simpa using h2 j l[j] hj (List.getElem?_eq_getElem _)⟩
theorem K7 {α : Type} {p : α → Bool} {l : List α} (h : ∀ (j : Nat) (y : α), l[j]? = some y → p y = false) : l.find? p = none := by
 rw [List.find?_eq_none]
 intro y hy
 obtain ⟨j, hj⟩ := List.getElem?_of_mem hy
 simpa using h j y hj
theorem K8 : arityList.length = 8 := rfl
theorem Y6 {p : Str × UInt8} (hp : p ∈ arityList) : (Ef p).length < 4294967281 := by
 have h : (arityList.all fun p => decide ((Ef p).length < 4294967281)) = true := by kernel_rfl
 exact of_decide_eq_true (List.all_eq_true.1 h p hp)
theorem qr (nm : Str) (Hp : List AObj) : AFun Tryz.prog 129 [A8 nm] Hp (A4 (Av nm)) := by
 refine ACall.body [.tmp 2] [0] Tryz.func129 Tryz.ntmps129 (fun d => ?_)
 refine Z88 ?_;refine Z27 ?_;refine R.call Tryz.call94 (Uq ▸ c94 P1 [32] (by decide) (by decide) _) ?_;refine Z70 ?_;refine R.fin [0, 8, 9, 10] ?_
 refine AW.loopC (α := Nat) (fun x => ⟨28, A6 0 (A8 nm) (A6 8 (Gq (arityList.map Ef)) (A6 9 (A4 8) (A6 10 (A4 (x : Nat)) (fun _ => .any)))), Hp, [], [], none⟩) (fun x => x ≤ 8 ∧ ∀ (j : Nat) (y : Str × UInt8), j < x → arityList[j]? = some y → (y.1 == nm) = false) (fun x => 8 - x) (0) (by simp) (StLe.refl _) rfl (fun x hx => ?_)
 refine Z89 ?_;refine R.fin [0, 8, 9, 10, 11] ?_
 refine W.condX (fun ht11 => ?_) (fun ht11 => ?_)
 ·have hlt : x < arityList.length := by rw [K8]; simp at ht11; omega
  have hal := K8
  have hget : ((arityList.map Ef).map A8)[x]? = some (A8 (Ef arityList[x])) := by rw [List.map_map]; exact Be hlt
  refine Qk ?_;refine R.indexAddr (x) (A8 (Ef arityList[x])) jU jS hget ?_;refine Cq ?_;refine Au ?_;refine R.fin [0, 4, 8, 9, 10] ?_;refine Z0 ?_;refine R.call Tryz.call136 ((br (List.getElem_mem hlt)) ▸ qm (Ef arityList[x]) [58] (Y6 (List.getElem_mem hlt)) _) ?_;refine Z62 ?_;refine R.extract ?_;refine l9 ?_;refine R.fin [0, 5, 6, 8, 9, 10] ?_;refine Z29 ?_;refine R.seql ?_;refine R.fin [0, 6, 8, 9, 10, 22] ?_
  refine W.cond (fun ht22 => ?_) (fun ht22 => ?_)
  ·refine Z0 ?_;refine R.sindex 0 arityList[x].2 jU rfl  ?_;refine R.sub ?_;refine R.iconv jU jU ?_;refine Z76 ?_;refine Oa ?_;exact K.fin (V.one V.tmp) ⟨by rw [Av, Qp hlt ht22 hx.2]; rfl, rfl⟩
  refine Mi ?_;refine R.fin [0, 8, 9, 10] ?_;exact K.lpN (x + 1) ⟨by omega, Da hlt hx.2 ht22⟩ (by omega) (StCut.of_eq rfl)
 have hal := K8
 refine Z55 ?_;refine Z57 ?_;exact K.fin (V.one V.tmp) ⟨by rw [Av, K7 (Hb (by simp at ht11; omega) hx.2)], rfl⟩

def Ur (s : Str) : Int := match Lib.parseIntB 64 s with | .ok v => v | _ => Lib.intSat 64 s
def Oh (s : Str) : Bool := match Lib.parseIntB 64 s with | .ok _ => false | _ => true
def Oi (s : Str) : AV := bif Oh s then K6 s else .v .nilIface
theorem Us (s : Str) : (Oi s).strip = Oi s := by unfold Oi; cases Oh s <;> rfl
attribute [go_sem] Us
theorem su (s : Str) (hs : s.length ≤ 1048576) (h : ia (Lib.parseIntB 64 s) = false) (Hp : List AObj) : AFun Tryz.prog 218 [A8 s, A4 10, A4 64] Hp (.tup [A4 (Ur s), Oi s]) := by
 cases hp : Lib.parseIntB 64 s with
 | ok v =>
  have := ib s hs v hp Hp
  rwa [show v = Ur s by unfold Ur; rw [hp], show AV.v .nilIface = Oi s by unfold Oi Oh; rw [hp]; rfl] at this
 | range =>
  have := Uo s hs hp Hp
  rwa [show Lib.intSat 64 s = Ur s by unfold Ur; rw [hp], show K6 s = Oi s by unfold Oi Oh; rw [hp]; rfl] at this
 | _ => rw [hp] at h; cases h
theorem sw (s : Str) (Hp : List AObj) : AFun Tryz.prog 219 [Oi s, .v (.iface 229 (.pointer (some ErrAt.b)))] Hp (Ak (Oh s)) := by
 unfold Oi
 cases Oh s
 ·exact bq Hp
 exact Up s Hp
theorem bt (s t : Str) : (Lib.trimPrefix s t).length ≤ s.length := by
 unfold Lib.trimPrefix; split <;> simp
theorem Y7 {d : Str} {b : Bool} (h : (((d == []) || b) == false) = true) : d ≠ [] := by rintro rfl; simp at h
theorem Ip : ∀ c ∈ digs, c.toNat < 128 := by decide
theorem Mo (s : Str) : ((((Lib.trimPrefix s [45] == []) || (Lib.trimS (Lib.trimPrefix s [45]) digs != [])) || ((((Lib.trimPrefix s [45]).headD 0).toNat : Int) == 48 && decide ((1 : Int) < s.length)))) = Fc s := by
 unfold Fc Ks
 have e1 : ((((Lib.trimPrefix s [45]).headD 0).toNat : Int) == 48) = ((Lib.trimPrefix s [45]).headD 0 == 48) := by
  rw [Bool.eq_iff_iff]
  simp only [beq_iff_eq]
  constructor
  ·intro h
   exact UInt8.toNat_inj.1 (by have : (48 : UInt8).toNat = 48 := rfl; omega)
  intro h; rw [h]; rfl
 have e2 : decide ((1 : Int) < s.length) = decide (1 < s.length) := by rw [decide_eq_decide]; omega
 rw [e1, e2]
 rfl
theorem Y8 {s : Str} (hb : Fc s = false) (h : Oh s = true) : Br s = (0, 4) := by
 unfold Br
 rw [hb]
 have := Ha hb
 unfold Oh at h
 revert h this
 cases Lib.parseIntB 64 s with
 | ok v => intro h; cases h
 | range => intro _ _; rfl
 | _ => intro _ h; cases h
theorem mg {s : Str} (hb : Fc s = false) (h : Oh s = false) : Br s = (Ur s, 0) := by
 unfold Br Ur
 rw [hb]
 unfold Oh at h
 revert h
 cases Lib.parseIntB 64 s with
 | ok v => intro h; rfl
 | _ => intro h; cases h
theorem bu (s : Str) : s.take (min s.length 200) = s.take 200 := by
 rcases Nat.le_total s.length 200 with h | h
 ·rw [Nat.min_eq_left h, List.take_of_length_le (Nat.le_refl _), List.take_of_length_le h]
 rw [Nat.min_eq_right h]
theorem qt (s : Str) (hs : s.length ≤ 1048576) (Hp : List AObj) : AFun Tryz.prog 196 [A8 s] Hp (.tup [A4 (Br s).1, A4 (Br s).2]) := by
 refine ACall.body [.tmp 2, .tmp 3] [0] Tryz.func196 Tryz.ntmps196 (fun d => ?_)
 refine Z3 ?_;refine Au ?_;refine R.fin [0] ?_;refine Z0 ?_;refine R.call Tryz.call216 (sq s [45] _) ?_;refine Au ?_;refine R.fin [0, 4] ?_;refine Z9 ?_;refine R.seql ?_;refine Z22 ?_
 refine G.call Tryz.call217 (fun hB => sr (Lib.trimPrefix s [45]) digs (by have := bt s [45]; omega) (by decide) Ip _) ?_
 refine G.sneq ?_;refine R.pickOr ?_;refine Z22 ?_;refine G.sindex 0 ((Lib.trimPrefix s [45]).headD 0) jU (fun hB => P0 (Y7 hB))  ?_;refine G.eql ?_;refine G.move ?_;refine G.move ?_;refine G.slen jU ?_;refine G.gtr ?_;refine G.pickAnd ?_;refine R.pickOr ?_;refine R.fin [0, 25] ?_
 refine W.cond (fun ht25 => ?_) (fun ht25 => ?_)
 ·have hb : Fc s = true := by rw [← Mo]; exact ht25
  refine Z3 ?_;refine Z40 ?_;refine Z11 ?_;exact K.fin (V.two V.tmp V.tmp) ⟨by rw [Br, hb]; rfl, rfl⟩
 have hb : Fc s = false := by rw [← Mo]; exact ht25
 refine Jc ?_;refine R.call Tryz.call218 (su s hs (Ha hb) _) ?_;refine Jb ?_;refine R.fin [5, 6] ?_;refine Z9 ?_;refine R.loadGlob Tryz.isAgg115 (fun w hg => H9 hg) ?_;refine R.call Tryz.call219 (sw s _) ?_;refine R.fin [5, 33] ?_
 refine W.cond (fun ht33 => ?_) (fun ht33 => ?_)
 ·refine Z3 ?_;refine Z40 ?_;refine Z11 ?_;exact K.fin (V.two V.tmp V.tmp) ⟨by rw [Y8 hb ht33], rfl⟩
 refine Jc ?_;refine b6 ?_;refine AW.ret ?_;exact K.fin (V.two V.tmp V.tmp) ⟨by rw [mg hb ht33], rfl⟩

theorem qu (n : Int) (h0 : -9223372036854775808 ≤ n) (h1 : n ≤ 9223372036854775807) (Hp : List AObj) : AFun Tryz.prog 151 [A4 n] Hp (A8 (Lib.itoa n)) := by
 refine ACall.body [.tmp 2] [0] Tryz.func151 Tryz.ntmps151 (fun d => ?_)
 refine Z88 ?_;refine Z0 ?_;refine R.call Tryz.call176 (so n h0 h1 _) ?_;exact ap

theorem sx (Hp : List AObj) : AFun Tryz.prog 183 [] Hp (Bh ⟨0, 0, []⟩) := by
 refine ACall.body [.cell 0 24] [] Tryz.func183 Tryz.ntmps183 (fun d => ?_)
 refine Z30 ?_;refine R.fin [0] ?_;refine Z78 ?_;refine Do ?_;refine R.fin [0] ?_;refine AW.ret ?_;exact K.fin (V.one (V.cellN jA jS))

theorem mh (n : Int) (Hp : List AObj) : AFun Tryz.prog 197 [A4 n] Hp (Bh ⟨1, n, []⟩) := by
 refine ACall.body [.cell 2 24] [0] Tryz.func197 Tryz.ntmps197 (fun d => ?_)
 refine Z80 ?_;refine Z0 ?_;refine Uj ?_;exact lw

theorem Ut (b : Bool) (Hp : List AObj) : AFun Tryz.prog 122 [Ak b] Hp (Bh ⟨3, if b then 1 else 0, []⟩) := by
 refine ACall.body [.cell 2 24] [0] Tryz.func122 Tryz.ntmps122 (fun d => ?_)
 refine Z80 ?_;refine Z78 ?_;refine Z16 ?_;refine gv ?_;refine R.fin [2, 3, 5] ?_
 refine W.cond (fun ht5 => ?_) (fun ht5 => ?_)
 ·refine AW.region ?_;refine R.fieldAddrPtr (fo := 1) jU Tryz.sizeOf2 ?_;refine Rq ?_;refine K.thN ?_;refine Z31 ?_;exact ov
 refine Ui ?_;exact ov

theorem Y9 (s : Str) (Hp : List AObj) : AFun Tryz.prog 215 [A8 s] Hp (Bh ⟨2, 0, s.take 200⟩) := by
 refine ACall.body [.cell 2 24] [0] Tryz.func215 Tryz.ntmps215 (fun d => ?_)
 refine Z80 ?_;refine bb ?_;refine R.minI ?_
 refine R.scutH (min s.length 200) jU (Nat.zero_le _) (Nat.min_le_left _ _) (hb := by split <;> omega) ?_
 refine Uj ?_;refine Z6 ?_;exact K.fin (V.one (V.cellN jA jS)) ⟨by rw [bu], rfl⟩

theorem Uu {p s : Str} (h : p.isPrefixOf s = true) : p.length ≤ s.length := (List.isPrefixOf_iff_prefix.1 h).length_le
theorem Uv (s o : Str) (h : 0 ≤ Lib.index s o) : (Lib.index s o).toNat + o.length ≤ s.length := by
 induction s with
 | nil =>
  unfold Lib.index at h ⊢
  split at h
  ·rename_i he
   rw [if_pos he]
   cases o with
   | nil => simp
   | cons a b => simp at he
  omega
 | cons b l ih =>
  unfold Lib.index at h ⊢
  split at h
  ·rename_i hp
   rw [if_pos hp]
   have := Uu hp
   simpa using this
  rename_i hp
  rw [if_neg hp]
  split at h
  ·omega
  rename_i hi
  rw [if_neg hi]
  have hg := Lib.index_ge l o
  have hi' : Lib.index l o ≠ -1 := by simpa using hi
  have := ih (by omega)
  simp only [List.length_cons]
  omega
def Vx : Val := ⟨0, 0, []⟩
def E0 (b : Bool) : Val := ⟨3, if b then 1 else 0, []⟩
def ic (n : Int) : Prop := -9223372036854775808 ≤ n ∧ n ≤ 9223372036854775807
def D6 (v : Val) : Str :=
 if !Bu v then [] else if v.kind == 1 then Lib.itoa v.n else if v.kind == 2 then [39] ++ Lib.replaceAll v.s [39] [39, 39] ++ [39]
 else if v.kind == 0 then [110, 117, 108, 108] else if v.n == 1 then [116, 114, 117, 101] else [102, 97, 108, 115, 101]
theorem Ya {v : Val} (h : Bu v = true) (h2 : (v.kind == 2) = true) : v.s.length ≤ 200 := by
 have e : v.kind = 2 := by simpa using h2
 unfold Bu at h
 rw [e] at h
 simp at h
 omega
theorem S6 (s o : Str) (ho : 1 ≤ o.length) : Lib.countB ⟨s.toArray⟩ ⟨o.toArray⟩ ≤ s.length := Lib.countB_le ⟨o.toArray⟩ (by simpa [ByteArray.size] using ho) s.length ⟨s.toArray⟩ (by simp [ByteArray.size])
theorem Kv (o n : Str) (B : Nat) (hn : n.length ≤ B * o.length) (hB : 1 ≤ B) : ∀ (k : Nat) (s : Str), (Lib.replaceK o n k s).length ≤ B * s.length
 | 0, s => by rw [Lib.replaceK]; exact Nat.le_mul_of_pos_left _ hB
 | k + 1, s => by
  rw [Lib.replaceK]
  split
  ·exact Nat.le_mul_of_pos_left _ hB
  rename_i h
  have ih := Kv o n B hn hB k (s.drop ((Lib.index s o).toNat + o.length))
  have hx : (Lib.index s o).toNat + o.length ≤ s.length := by
   have hg := Lib.index_ge s o
   have hi : Lib.index s o ≠ -1 := by simpa using h
   exact Uv s o (by omega)
  simp only [List.length_append, List.length_drop, List.length_take] at ih ⊢
  have h1 : min (Lib.index s o).toNat s.length ≤ B * (Lib.index s o).toNat := Nat.le_trans (Nat.min_le_left _ _) (Nat.le_mul_of_pos_left _ hB)
  have h2 : B * s.length = B * (Lib.index s o).toNat + B * o.length + B * (s.length - ((Lib.index s o).toNat + o.length)) := by
   rw [← Nat.mul_add, ← Nat.mul_add]; congr 1; omega
  omega
theorem Oj (s o n : Str) (B : Nat) (hn : n.length ≤ B * o.length) (hB : 1 ≤ B) : (Lib.replaceAll s o n).length ≤ B * s.length := by
 unfold Lib.replaceAll Lib.replace
 split
 ·exact Nat.le_mul_of_pos_left _ hB
 exact Kv o n B hn hB _ s
theorem qv (v : Val) (hn : ic v.n) (Hp : List AObj) : AFun Tryz.prog 117 [Bh v] Hp (A8 (D6 v)) := by
 refine ACall.body [.tmp 2] [0] Tryz.func117 Tryz.ntmps117 (fun d => ?_)
 refine Ob ?_;refine Z26 ?_;refine Z54 ?_;refine R.call Tryz.call120 (bp v _) ?_;refine R.not ?_;refine Au ?_;refine R.fin [1, 3] ?_
 refine W.cond (fun ht3 => ?_) (fun ht3 => ?_)
 ·refine Z57 ?_;refine Z4 ?_;exact K.fin (V.one V.tmp) ⟨by simp only [D6, ht3, if_true], rfl⟩
 have hp : Bu v = true := by simpa using ht3
 refine Xz ?_;refine R.fin [1, 7] ?_
 refine W.cond (fun ht7 => ?_) (fun ht7 => ?_)
 ·refine Ba ?_;refine ai ?_;refine R.call Tryz.call151 (qu v.n hn.1 hn.2 _) ?_;refine Z76 ?_;refine Z4 ?_;exact K.fin (V.one V.tmp) ⟨by simp only [D6, hp, ht7, Bool.not_true, Bool.false_eq_true, if_false, if_true]; try rfl, rfl⟩
 refine Xz ?_;refine R.fin [1, 14] ?_
 refine W.cond (fun ht14 => ?_) (fun ht14 => ?_)
 ·refine Ba ?_;refine fq ?_
  have hl := Ya hp ht14
  have hrl := Oj v.s [39] [39, 39] 2 (by decide) (by decide)
  refine R.call Tryz.call152 (qn v.s [39] [39, 39] (by omega) (by decide) (by have := S6 v.s [39] (by decide); simp; omega) _) ?_
  refine R.sadd ?_;refine R.sadd ?_;refine Z76 ?_;refine Z4 ?_;exact K.fin (V.one V.tmp) ⟨by simp only [D6, hp, ht7, ht14, Bool.not_true, Bool.false_eq_true, if_false, if_true]; try rfl, rfl⟩
 refine Xz ?_;refine R.fin [1, 23] ?_
 refine W.cond (fun ht23 => ?_) (fun ht23 => ?_)
 ·refine Z57 ?_;refine Z4 ?_;exact K.fin (V.one V.tmp) ⟨by simp only [D6, hp, ht7, ht14, ht23, Bool.not_true, Bool.false_eq_true, if_false, if_true]; try rfl, rfl⟩
 refine Ba ?_;refine ai ?_;refine Z20 ?_;refine R.fin [27] ?_
 refine W.cond (fun ht27 => ?_) (fun ht27 => ?_)
 ·refine Z57 ?_;refine Z4 ?_;exact pv
 refine Z17 ?_;refine Z57 ?_;exact pv

def bv (s : Str) : Str := Lib.replaceAll ((s.take (s.length - 1)).drop 1) [39, 39] [39]
def Mp (s : Str) : Val := ⟨2, 0, (bv s).take 200⟩
def S7 (s : Str) : Val × Int := if !(D6 (Mp s) == s) then (Vx, 7) else (Mp s, 0)
theorem sy (s : Str) (h2 : 2 ≤ s.length) (hs : s.length ≤ 1048576) (Hp : List AObj) : AFun Tryz.prog 195 [A8 s] Hp (.tup [Bh (S7 s).1, A4 (S7 s).2]) := by
 refine ACall.body [.cell 2 24, .tmp 3] [0] Tryz.func195 Tryz.ntmps195 (fun d => ?_)
 refine Rv ?_;refine R.fin [0, 2] ?_;refine bb ?_;refine R.sub64 ?_;refine R.scutLH 1 (s.length - 1) jU (show 1 ≤ s.length - 1 by omega) (show s.length - 1 ≤ s.length by omega) ?_
 refine R.call Tryz.call152 (qn ((s.take (s.length - 1)).drop 1) [39, 39] [39] (by simp; omega) (by decide) (by have := S6 ((s.take (s.length - 1)).drop 1) [39, 39] (by decide); simp at this ⊢; omega) _) ?_
 refine Au ?_;refine R.fin [0, 2, 4] ?_;refine Z0 ?_;refine R.call Tryz.call215 (Y9 (bv s) _) ?_;refine Z16 ?_;refine R.fin [0, 2, 5] ?_;refine Z27 ?_;refine Mj ?_
 refine R.call Tryz.call117 (qv (Mp s) ⟨by show (-9223372036854775808 : Int) ≤ 0; decide, by show (0 : Int) ≤ 9223372036854775807; decide⟩ _) ?_
 refine At ?_;refine R.sneq ?_;refine R.fin [2, 5, 17] ?_
 refine W.cond (fun ht17 => ?_) (fun ht17 => ?_)
 ·refine Z78 ?_;refine Qh ?_;refine Z11 ?_;exact pw
 refine Ui ?_;refine Qh ?_;refine AW.ret ?_;exact pw

def P2 (s : Str) : Bool := (decide ((1 : Int) < s.length) && Lib.hasPrefix s [39]) && Lib.hasSuffix s [39]
def Dt (s : Str) : Val × Int :=
 if s == [110, 117, 108, 108] then (Vx, 0) else if (s == [116, 114, 117, 101]) || (s == [102, 97, 108, 115, 101]) then (E0 (s == [116, 114, 117, 101]), 0)
 else if P2 s then S7 s else if (Br s).2 == 0 then (⟨1, (Br s).1, []⟩, 0) else if (Br s).2 == 4 then (Vx, 4) else (Vx, 7)
theorem bw {s : Str} (h : P2 s = true) : 2 ≤ s.length := by
 unfold P2 at h
 simp only [Bool.and_eq_true, decide_eq_true_eq] at h
 omega
theorem c168 (s : Str) (hs : s.length ≤ 1048576) (Hp : List AObj) : AFun Tryz.prog 168 [A8 s] Hp (.tup [Bh (Dt s).1, A4 (Dt s).2]) := by
 refine ACall.body [.cell 2 24, .tmp 3] [0] Tryz.func168 Tryz.ntmps168 (fun d => ?_)
 refine Rv ?_;refine R.fin [0, 2] ?_;refine Gg ?_;refine Z10 ?_;refine R.fin [0, 2, 6] ?_
 refine W.cond (fun ht6 => ?_) (fun ht6 => ?_)
 ·refine m4 ?_;refine Qh ?_;refine Z59 ?_;exact K.fin (V.two (V.cellN jA jS) V.tmp) ⟨by simp only [Dt, ht6, if_true, if_false, Bool.false_eq_true]; try rfl, rfl⟩
 refine Z0 ?_;refine R.seql ?_;refine Z22 ?_;refine G.seql ?_;refine R.pickOr ?_;refine Au ?_;refine R.fin [0, 2, 10] ?_
 refine W.cond (fun ht10 => ?_) (fun ht10 => ?_)
 ·refine Z0 ?_;refine R.seql ?_;refine R.call Tryz.call122 (Ut (s == [116, 114, 117, 101]) _) ?_;refine Qh ?_;refine Z59 ?_;exact K.fin (V.two (V.cellN jA jS) V.tmp) ⟨by simp only [Dt, ht6, ht10, if_true, if_false, Bool.false_eq_true]; try rfl, rfl⟩
 refine Z0 ?_;refine U3 ?_;refine Z22 ?_;refine G.call Tryz.call193 (fun hB => sj s [39] _) ?_;refine U5 ?_;refine G.call Tryz.call194 (fun hB => sk s [39] (by omega) _) ?_;refine Z32 ?_;refine R.fin [0, 2, 20] ?_
 refine W.cond (fun ht20 => ?_) (fun ht20 => ?_)
 ·have hq : P2 s = true := ht20
  refine Z0 ?_;refine R.call Tryz.call195 (sy s (bw hq) hs _) ?_;refine Z36 ?_;refine Z40 ?_;refine Z59 ?_;exact K.fin (V.two (V.cellN jA jS) V.tmp) ⟨by simp only [Dt, ht6, ht10, hq, if_true, if_false, Bool.false_eq_true]; try rfl, rfl⟩
 have hq : P2 s = false := ht20
 refine Z17 ?_;refine Z0 ?_;refine R.call Tryz.call196 (qt s hs _) ?_;refine Jb ?_;refine R.fin [2, 4, 5] ?_;refine Z9 ?_;refine R.fin [2, 4, 5, 41] ?_;refine Ru ?_;refine R.fin [2, 4, 5, 41, 42] ?_
 refine W.cond (fun ht42 => ?_) (fun ht42 => ?_)
 ·refine Z0 ?_;refine R.call Tryz.call197 (mh (Br s).1 _) ?_;refine Qh ?_;refine Z59 ?_;exact K.fin (V.two (V.cellN jA jS) V.tmp) ⟨by simp only [Dt, ht6, ht10, hq, ht42, if_true, if_false, Bool.false_eq_true]; try rfl, rfl⟩
 refine Z48 ?_;refine R.fin [2, 5, 46] ?_
 refine W.cond (fun ht46 => ?_) (fun ht46 => ?_)
 ·refine Z78 ?_;refine At ?_;refine Qh ?_;refine Z59 ?_;exact K.fin (V.two (V.cellN jA jS) V.tmp) ⟨by simp only [Dt, ht6, ht10, hq, ht42, ht46, if_true, if_false, Bool.false_eq_true]; rw [show (Br s).2 = 4 by simpa using ht46]; rfl, rfl⟩
 refine Z17 ?_;refine Z78 ?_;refine Qh ?_;refine AW.ret ?_;exact K.fin (V.two (V.cellN jA jS) V.tmp) ⟨by simp only [Dt, ht6, ht10, hq, ht42, ht46, if_true, if_false, Bool.false_eq_true]; try rfl, rfl⟩

def blanks : Str := [32, 9, 10]
/-- What stands behind blanks and notes. -/
def Dc : Str → Bool → Str
 | [], _ => []
 | c :: r, false => if blanks.contains c then Dc r false else if c == 35 then Dc r true else c :: r
 | c :: r, true => if c == 10 then Dc r false else Dc r true
def runN (s of : Str) : Nat := s.length - (Lib.trimLeftS s of).length
theorem Qq (s of : Str) : Jf s of = (runN s of : Int) := by
 have := Lq s of
 unfold Jf runN
 omega
theorem Qr (s of : Str) : runN s of ≤ s.length := Nat.sub_le _ _
theorem bx (s of : Str) : s.drop (runN s of) = Lib.trimLeftS s of := by
 unfold runN Lib.trimLeftS
 have h : ∀ l : Str, l.drop (l.length - (l.dropWhile (of.contains ·)).length) = l.dropWhile (of.contains ·) := by
  intro l
  have e := List.takeWhile_append_dropWhile (p := (of.contains ·)) (l := l)
  have hl : l.length - (l.dropWhile (of.contains ·)).length = (l.takeWhile (of.contains ·)).length := by
   have := congrArg List.length e
   simp only [List.length_append] at this
   omega
  rw [hl]
  conv => lhs; rw [← e]
  rw [List.drop_left']
  rw [e]
 exact h s
theorem c8 (s of : Str) : s.take (runN s of) = s.takeWhile (of.contains ·) := by
 have e := List.takeWhile_append_dropWhile (p := (of.contains ·)) (l := s)
 have hl : runN s of = (s.takeWhile (of.contains ·)).length := by
  unfold runN Lib.trimLeftS
  have := congrArg List.length e
  simp only [List.length_append] at this
  omega
 rw [hl]
 conv => lhs; rw [← e]
 rw [List.take_left']
 rw [e]
theorem K9 : ∀ s : Str, Dc (Lib.trimLeftS s blanks) false = Dc s false
 | [] => rfl
 | c :: r => by
  unfold Lib.trimLeftS
  rw [List.dropWhile_cons]
  by_cases h : blanks.contains c = true
  ·rw [if_pos h, Dc, if_pos h]
   exact K9 r
  rw [if_neg h]
theorem P3 (of : Str) : ∀ (s : Str) (c : UInt8) (t : Str), Lib.trimLeftS s of = c :: t → of.contains c = false
 | [], c, t, h => by cases h
 | b :: r, c, t, h => by
  unfold Lib.trimLeftS at h
  rw [List.dropWhile_cons] at h
  split at h
  ·exact P3 of r c t h
  rename_i hb
  injection h with h1 h2
  subst h1
  simpa using hb
def Eg : Str → Str
 | [] => []
 | c :: r => if c == 10 then r else Eg r
theorem mi (s : Str) : (Lib.cut s [10]).2.1 = Eg s := by
 unfold Lib.cut
 induction s with
 | nil => rfl
 | cons c r ih =>
  have hg := Lib.index_ge r [10]
  rw [Eg]
  unfold Lib.index
  by_cases hc : c = 10
  ·subst hc
   simp [List.isPrefixOf]
  have h1 : ([10] : Str).isPrefixOf (c :: r) = false := by simp [List.isPrefixOf, Ne.symm hc]
  have h2 : (c == 10) = false := by simpa using hc
  rw [h1, h2]
  simp only [Bool.false_eq_true, if_false]
  by_cases hi : Lib.index r [10] = -1
  ·rw [hi] at ih ⊢
   simpa using ih
  have h3 : (Lib.index r [10] == -1) = false := by simpa using hi
  rw [h3]
  simp only [Bool.false_eq_true, if_false]
  rw [if_pos (by omega)] at ih ⊢
  have e : (Lib.index r [10] + 1).toNat = (Lib.index r [10]).toNat + 1 := by omega
  rw [e]
  rw [← ih]
  show (c :: r).drop _ = _
  rw [show (Lib.index r [10]).toNat + 1 + ([10] : Str).length = ((Lib.index r [10]).toNat + ([10] : Str).length) + 1 by omega, List.drop_succ_cons]
theorem P4 : ∀ t : Str, Dc t true = Dc (Eg t) false
 | [] => rfl
 | c :: r => by
  rw [Dc, Eg]
  split
  ·rfl
  exact P4 r
theorem Mq : ∀ t : Str, (Eg t).length ≤ t.length
 | [] => Nat.le_refl _
 | c :: r => by
  rw [Eg]
  split
  ·simp
  have := Mq r; simp only [List.length_cons]; omega
def gapM (s : Str) : Nat := s.length - (Dc s false).length
theorem Yb {d : Str} (h : ((d == []) == false) = true) : d ≠ [] := by rintro rfl; simp at h
theorem Qs : ∀ c ∈ blanks, c.toNat < 128 := by decide
/-- The gap is at its end. -/
theorem ie {x s : Str} (hx : Dc x false = Dc s false) (h : ((Lib.trimLeftS x blanks == []) || ((((Lib.trimLeftS x blanks).headD 0).toNat : Int) != 35)) = true) : Dc s false = Lib.trimLeftS x blanks := by
 rw [← hx, ← K9]
 cases ht : Lib.trimLeftS x blanks with
 | nil => rfl
 | cons c t =>
  rw [ht] at h
  have hb := P3 blanks x c t ht
  have hc : (c == 35) = false := by
   simp at h
   rw [beq_eq_false_iff_ne]
   rintro rfl
   exact h rfl
  rw [Dc, hb, hc]
  rfl
theorem mj {x s : Str} (hx : Dc x false = Dc s false) (h : ((Lib.trimLeftS x blanks == []) || ((((Lib.trimLeftS x blanks).headD 0).toNat : Int) != 35)) = false) :
  Dc (Lib.cut (Lib.trimLeftS x blanks) [10]).2.1 false = Dc s false ∧ (Lib.cut (Lib.trimLeftS x blanks) [10]).2.1.length < x.length := by
 have hl := Lq x blanks
 rw [mi, ← hx, ← K9 x]
 cases ht : Lib.trimLeftS x blanks with
 | nil => rw [ht] at h; simp at h
 | cons c t =>
  rw [ht] at h hl
  have hc : c = 35 := by
   simp at h
   exact UInt8.toNat_inj.1 (by have : (35 : UInt8).toNat = 35 := rfl; omega)
  subst hc
  have ha := Mq t
  refine ⟨?_, ?_⟩
  ·rw [Eg, Dc]
   have e1 : blanks.contains 35 = false := by decide
   rw [e1]
   exact (P4 t).symm
  rw [Eg]
  simp only [List.length_cons] at hl
  show (Eg t).length < _
  omega
theorem qw (s : Str) (hs : s.length ≤ 1048576) (Hp : List AObj) : AFun Tryz.prog 106 [A8 s] Hp (A4 (gapM s)) := by
 refine ACall.body [.tmp 2] [0] Tryz.func106 Tryz.ntmps106 (fun d => ?_)
 refine Z88 ?_;refine Z64 ?_;refine Lk ?_
 refine AW.loopC (α := Str) (fun x => ⟨27, A6 0 (A8 s) (A6 3 (A8 x) (fun _ => .any)), Hp, [], [], none⟩) (fun x => Dc x false = Dc s false ∧ x.length ≤ s.length) (fun x => x.length) (s) (by simp) (StLe.refl _) rfl (fun x hx => ?_)
 refine Eq ?_;refine Ba ?_
 have hx2 := hx.2
 have htl := Lq x blanks
 refine Z79 ?_;refine R.call Tryz.call90 (c90 x blanks (by omega) (by decide) Qs _) ?_;refine R.scutL (runN x blanks) jU (Qr _ _) (Nat.le_refl _) (ha := Qq x blanks) ?_
 rw [bx]
 refine gj ?_;refine Z9 ?_;refine R.seql ?_;refine Z22 ?_;refine G.sindex 0 ((Lib.trimLeftS x blanks).headD 0) jU (fun hB => P0 (Yb hB))  ?_;refine U4 ?_;refine R.fin [0, 3, 15] ?_
 refine W.cond (fun ht15 => ?_) (fun ht15 => ?_)
 ·have he := ie hx.1 ht15
  refine Z0 ?_;refine R.slen jU ?_;refine At ?_;refine R.slen jU ?_;refine R.sub64 ?_;refine Z76 ?_;refine K.thR ?_;refine Xt ?_;exact K.fin (V.one V.tmp) ⟨by rw [show ((s.length : Int) - (Lib.trimLeftS x blanks).length) = (gapM s : Int) by unfold gapM; rw [he]; omega], rfl⟩
 have he := mj hx.1 ht15
 refine gc ?_;refine R.call Tryz.call136 (qm (Lib.trimLeftS x blanks) [10] (by omega) _) ?_;refine Z62 ?_;refine R.extract ?_;refine gj ?_;refine K.blN ?_;exact K.lpN _ ⟨he.1, by omega⟩ he.2 (StCut.of_eq rfl)

def Bw (s of : Str) : Str := s.take (runN s of)
theorem E6 (s of : Str) : (Bw s of).length ≤ s.length := by unfold Bw; simp; omega
def Iq (s : Str) : Int × Str × Int × Int :=
 if Db (Bw s tails) then (2, Bw s tails, (Bw s tails).length, 0) else if !Dg (Bw s tails) then (0, [], 0, 3) else (1, Bw s tails, (Bw s tails).length, 0)
abbrev ca (r : Int × Str × Int × Int) : AV := .tup [A4 r.1, A8 r.2.1, A4 r.2.2.1, A4 r.2.2.2]
theorem S8 : ∀ c ∈ tails, c.toNat < 128 := by decide
theorem Ok : ∀ c ∈ letters, c.toNat < 128 := by decide
theorem t6 (s : Str) (hs : s.length ≤ 1048576) (Hp : List AObj) : AFun Tryz.prog 137 [A8 s] Hp (ca (Iq s)) := by
 refine ACall.body [.tmp 2, .tmp 3, .tmp 4, .tmp 5] [0] Tryz.func137 Tryz.ntmps137 (fun d => ?_)
 refine Z3 ?_;refine b8 ?_;refine Z29 ?_;refine R.call Tryz.call90 (c90 s tails hs (by decide) S8 _) ?_;refine R.scutH (runN s tails) jU (Nat.zero_le _) (Qr _ _) (hb := Qq s tails) ?_;refine Au ?_;refine R.fin [6] ?_;refine Gg ?_
 refine R.call Tryz.call91 (c91 (Bw s tails) (by have := E6 s tails; omega) _) ?_
 refine Au ?_;refine R.fin [6, 11] ?_
 refine W.cond (fun ht11 => ?_) (fun ht11 => ?_)
 ·refine Ba ?_
  have hwl := E6 s tails
  refine Z79 ?_;refine R.slen jU ?_;refine U9 ?_;refine Z59 ?_;exact K.fin (V.four V.tmp V.tmp V.tmp V.tmp) ⟨by simp only [Iq, ht11, if_true, if_false, Bool.false_eq_true]; try rfl, rfl⟩
 refine Z0 ?_
 refine R.call Tryz.call60 (c60 (Bw s tails) (by have := E6 s tails; omega) _) ?_
 refine R.not ?_;refine Au ?_;refine R.fin [6, 17] ?_
 refine W.cond (fun ht17 => ?_) (fun ht17 => ?_)
 ·refine Z3 ?_;refine Xl ?_;refine Z59 ?_;exact px
 refine Z17 ?_;refine Ba ?_
 have hwl := E6 s tails
 refine Z79 ?_;refine R.slen jU ?_;refine U9 ?_;refine AW.ret ?_;exact px

def Qt (s : Str) : Int × Str × Int × Int := (3, Bw s digs, (Bw s digs).length, (Dt (Bw s digs)).2)
theorem t7 (s : Str) (hs : s.length ≤ 1048576) (Hp : List AObj) : AFun Tryz.prog 138 [A8 s] Hp (ca (Qt s)) := by
 refine ACall.body [.tmp 2, .tmp 3, .tmp 4, .tmp 5] [0] Tryz.func138 Tryz.ntmps138 (fun d => ?_)
 refine Z3 ?_;refine b8 ?_;refine Z29 ?_;refine R.call Tryz.call90 (c90 s digs hs (by decide) Ip _) ?_;refine R.scutH (runN s digs) jU (Nat.zero_le _) (Qr _ _) (hb := Qq s digs) ?_;refine Au ?_;refine R.fin [6] ?_;refine Z0 ?_
 refine R.call Tryz.call168 (c168 (Bw s digs) (by have := E6 s digs; omega) _) ?_
 refine Xy ?_;refine R.fin [6, 8] ?_;refine bb ?_;refine At ?_;refine U9 ?_;refine AW.ret ?_;exact K.fin (V.four V.tmp V.tmp V.tmp V.tmp) ⟨rfl, rfl⟩

/-- Behind a mark: how many bytes up to the one that closes, it too. -/
def Bl : Str → Option Nat
 | [] => none
 | [c] => if c == 39 then some 1 else none
 | c :: d :: t => if c == 39 then (if d == 39 then (Bl t).map (· + 2) else some 1) else (Bl (d :: t)).map (· + 1)
theorem Kw {c : UInt8} (h : ¬ (c == 39) = true) (r : Str) : Bl (c :: r) = (Bl r).map (· + 1) := by
 cases r with
 | nil => simp [Bl, h]
 | cons d t => rw [Bl, if_neg h]
theorem Mr (r : Str) : Bl (39 :: r) = match r with
   | [] => some 1
   | d :: t => if d == 39 then (Bl t).map (· + 2) else some 1 := by
 cases r with
 | nil => rfl
 | cons d t => rw [Bl]; simp
def Fm (s : Str) : Int × Str × Int × Int :=
 match Bl (s.drop 1) with
 | none => (0, [], 0, 7)
 | some n => if (Dt (s.take (n + 1))).2 != 0 then (0, [], 0, 3) else (4, (Dt (s.take (n + 1))).1.s, ((n + 1 : Nat) : Int), 0)
theorem Ms : ∀ l : Str, Lib.indexByte l 39 = -1 → Bl l = none
 | [], _ => by rw [Bl]
 | c :: r, h => by
  rw [Lib.indexByte] at h
  split at h
  ·omega
  rename_i hc
  rw [Kw hc]
  split at h
  ·rename_i hi
   rw [Ms r (by simpa using hi)]
   rfl
  have := Lib.indexByte_ge r 39; omega
theorem S9 : ∀ (l : Str) (k : Nat), Lib.indexByte l 39 = (k : Int) → k < l.length ∧ Bl l = (Bl (l.drop k)).map (· + k) ∧ l[k]? = some 39
 | [], k, h => by rw [Lib.indexByte] at h; omega
 | c :: r, k, h => by
  rw [Lib.indexByte] at h
  split at h
  ·rename_i hc
   have : k = 0 := by omega
   subst this
   refine ⟨by simp, ?_, by simpa using hc⟩
   rw [List.drop_zero]
   cases Bl (c :: r) <;> simp
  rename_i hc
  split at h
  ·omega
  have hg := Lib.indexByte_ge r 39
  rename_i hi
  have hi' : Lib.indexByte r 39 ≠ -1 := by simpa using hi
  obtain ⟨m, rfl⟩ : ∃ m, k = m + 1 := ⟨k - 1, by omega⟩
  obtain ⟨h1, h2, h3⟩ := S9 r m (by omega)
  refine ⟨by simpa using h1, ?_, by simpa using h3⟩
  rw [Kw hc, List.drop_succ_cons, h2]
  cases Bl (r.drop m) <;> simp [Nat.add_assoc]
theorem Gk {s : Str} {n : Nat} {c : UInt8} (h : s[n]? = some c) : s.drop n = c :: s.drop (n + 1) := by
 obtain ⟨hlt, he⟩ := List.getElem?_eq_some_iff.1 h
 rw [List.drop_eq_getElem_cons hlt, he]
theorem Jg {s : Str} {n : Nat} (h : n < s.length) : s[n]? = some (s.getD n 0) := by
 rw [List.getD_eq_getElem?_getD, List.getElem?_eq_getElem h]; rfl
theorem cb {s : Str} {x k : Nat} (h : (decide (((x : Int) + ((k : Int) + 1)) < s.length) == true) = true) : x + (k + 1) < s.length := by
 have := of_decide_eq_true (by simpa using h : decide (((x : Int) + ((k : Int) + 1)) < s.length) = true)
 omega
/-- What a round of the search for the mark that closes comes to. -/
theorem Uw {s : Str} {x k : Nat} (h1 : 1 ≤ x) (hx : Bl (s.drop 1) = (Bl (s.drop x)).map (· + (x - 1))) (hk : Lib.indexByte (s.drop x) 39 = (k : Int)) :
  x + (k + 1) ≤ s.length ∧
   ((decide (((x : Int) + ((k : Int) + 1)) < s.length) && (((s.getD (x + (k + 1)) 0).toNat : Int) == 39)) = true → x + (k + 1) + 1 ≤ s.length ∧ Bl (s.drop 1) = (Bl (s.drop (x + (k + 1) + 1))).map (· + (x + (k + 1) + 1 - 1))) ∧
   ((decide (((x : Int) + ((k : Int) + 1)) < s.length) && (((s.getD (x + (k + 1)) 0).toNat : Int) == 39)) = false → Bl (s.drop 1) = some (x + k)) := by
 obtain ⟨g1, g2, g3⟩ := S9 _ k hk
 rw [List.length_drop] at g1
 rw [List.getElem?_drop] at g3
 have e0 : (s.drop x).drop k = 39 :: s.drop (x + (k + 1)) := by rw [List.drop_drop, Gk g3, Nat.add_assoc]
 rw [e0] at g2
 refine ⟨by omega, fun h => ?_, fun h => ?_⟩
 ·simp only [Bool.and_eq_true, decide_eq_true_eq, beq_iff_eq] at h
  have hlt : x + (k + 1) < s.length := by omega
  have hc : s.getD (x + (k + 1)) 0 = 39 := UInt8.toNat_inj.1 (by have : (39 : UInt8).toNat = 39 := rfl; omega)
  have hd := Gk (Jg hlt)
  rw [hc] at hd
  refine ⟨by omega, ?_⟩
  rw [hx, g2, hd, Mr]
  simp only [beq_self_eq_true, if_true]
  cases Bl (s.drop (x + (k + 1) + 1)) with
  | none => rfl
  | some m => simp; omega
 rw [hx, g2, Mr]
 cases hd : s.drop (x + (k + 1)) with
 | nil => simp; omega
 | cons d t =>
  have hlt : x + (k + 1) < s.length := by
   have := congrArg List.length hd
   simp at this; omega
  have hg := Gk (Jg hlt)
  rw [hd] at hg
  injection hg with hg1 hg2
  have hne : (d == 39) = false := by
   rw [hg1, beq_eq_false_iff_ne]
   intro e
   rw [e] at h
   simp at h
   omega
  simp [hne]; omega
theorem t8 (s : Str) (h0 : 1 ≤ s.length) (hs : s.length ≤ 1048576) (Hp : List AObj) : AFun Tryz.prog 139 [A8 s] Hp (ca (Fm s)) := by
 refine ACall.body [.tmp 2, .tmp 3, .tmp 4, .tmp 5] [0] Tryz.func139 Tryz.ntmps139 (fun d => ?_)
 refine Z3 ?_;refine b8 ?_;refine Z3 ?_;refine R.fin [0, 6] ?_
 refine AW.loopC (α := Nat) (fun x => ⟨44, A6 0 (A8 s) (A6 6 (A4 (x : Nat)) (fun _ => .any)), Hp, [], [], none⟩) (fun x => 1 ≤ x ∧ x ≤ s.length ∧ Bl (s.drop 1) = (Bl (s.drop x)).map (· + (x - 1))) (fun x => s.length - x) (1) ⟨Nat.le_refl _, h0, by cases Bl (s.drop 1) <;> rfl⟩ (StLe.refl _) rfl (fun x hx => ?_)
 refine Eq ?_;refine Z29 ?_;refine R.scutL x jU hx.2.1 (Nat.le_refl _) ?_;refine R.call Tryz.call169 (sm (s.drop x) 39 _) ?_;refine Au ?_;refine R.fin [0, 6, 7] ?_;refine Ub ?_;refine R.fin [0, 6, 7, 15] ?_
 refine W.cond (fun ht15 => ?_) (fun ht15 => ?_)
 ·have hk : Lib.indexByte (s.drop x) 39 = -1 := by have := Lib.indexByte_ge (s.drop x) 39; simp at ht15; omega
  have hcq : Bl (s.drop 1) = none := by rw [hx.2.2, Ms _ hk]; rfl
  refine Z3 ?_;refine Xl ?_;refine Z11 ?_;refine Xt ?_;exact K.fin (V.four V.tmp V.tmp V.tmp V.tmp) ⟨by simp only [Fm, hcq], rfl⟩
 obtain ⟨k0, hk⟩ := Int.eq_ofNat_of_zero_le (show 0 ≤ Lib.indexByte (s.drop x) 39 by simp at ht15; omega)
 rw [hk]
 refine Lj ?_
 have hst := Uw hx.1 hx.2.2 hk
 refine Z79 ?_;refine R.add64 ?_;refine Z82 ?_;refine R.fin [0, 6] ?_;refine Lh ?_;refine R.slen jU ?_;refine R.lss ?_;refine Me ?_;refine G.sindex (x + (k0 + 1)) (s.getD (x + (k0 + 1)) 0) jU (fun hB => Jg (cb hB))  ?_;refine G.eql ?_;refine R.pickAnd ?_;refine R.fin [0, 6, 29] ?_
 refine W.cond (fun ht29 => ?_) (fun ht29 => ?_)
 ·have hon := hst.2.1 ht29
  refine Z0 ?_;refine Z82 ?_;refine R.fin [0, 6] ?_;refine Z96 ?_;refine K.blE ?_;exact K.lpN ((x + (k0 + 1)) + 1) ⟨by omega, hon.1, hon.2⟩ (by omega) (StCut.of_eq rfl)
 have hcq := hst.2.2 ht29
 refine Z5 ?_;refine Z29 ?_;refine R.scutH (x + (k0 + 1)) jU (Nat.zero_le _) hst.1 ?_
 refine R.call Tryz.call168 (c168 (s.take (x + (k0 + 1))) (by simp; omega) _) ?_
 refine Xy ?_;refine R.fin [6, 8, 9] ?_;refine Mh ?_;refine R.fin [6, 8, 40] ?_
 refine W.cond (fun ht40 => ?_) (fun ht40 => ?_)
 ·refine Z3 ?_;refine Xl ?_;refine Z11 ?_;refine Xt ?_;exact K.fin (V.four V.tmp V.tmp V.tmp V.tmp) ⟨by simp only [Fm, hcq, show x + k0 + 1 = x + (k0 + 1) by omega]; rw [if_pos ht40], rfl⟩
 refine Z5 ?_;refine W.draw [0, 1, 0, 0, 11, 31, 63] 5 Ae (by kernel_rfl) ?_;refine D.fieldAddrPtr (fo := 2) jU Tryz.sizeOf9 ?_;refine D.loadOwn jA ?_;refine D.move ?_;refine D.assign ?_;refine Xp ?_;refine o1 ?_;refine AW.ret ?_;refine Xt ?_;exact K.fin (V.four V.tmp V.tmp V.tmp V.tmp) ⟨by simp only [Fm, hcq, show x + k0 + 1 = x + (k0 + 1) by omega]; rw [if_neg (by rw [ht40]; simp)]; rfl, rfl⟩

def Vy : Str := [60, 61, 32, 62, 61, 32, 33, 61]
def Vz : Str := [40, 41, 44, 59, 61, 60, 62, 43, 45, 42, 47, 37, 38, 58]
def Mt (s : Str) : Int × Str × Int × Int :=
 if (decide ((1 : Int) < s.length) && Lib.contains Vy (s.take 2)) && (((s.getD 1 0).toNat : Int) == 61) then (5, s.take 2, 2, 0)
 else if Lib.contains Vz (s.take 1) then (5, s.take 1, 1, 0) else (0, [], 0, 7)
theorem Yc {s : Str} {b c : Bool} (h : (((decide ((1 : Int) < s.length) && b) && c) == true) = true) : 1 < s.length := by
 revert h
 cases hd : decide ((1 : Int) < s.length) with
 | true => intro _; have := of_decide_eq_true hd; omega
 | false => intro h; simp at h
theorem Mu {s : Str} {b : Bool} (h : ((decide ((1 : Int) < s.length) && b) == true) = true) : 1 < s.length := Yc (c := true) (by rw [Bool.and_true]; exact h)
theorem Ux {s : Str} (h : (decide ((1 : Int) < s.length) == true) = true) : 2 ≤ s.length := Mu (b := true) (by rw [Bool.and_true]; exact h)
theorem ta (s : Str) (h0 : 1 ≤ s.length) (Hp : List AObj) : AFun Tryz.prog 140 [A8 s] Hp (ca (Mt s)) := by
 refine ACall.body [.tmp 2, .tmp 3, .tmp 4, .tmp 5] [0] Tryz.func140 Tryz.ntmps140 (fun d => ?_)
 refine Z3 ?_;refine b8 ?_;refine Z9 ?_;refine U3 ?_;refine Z22 ?_;refine G.scutH 2 jU (fun _ => Nat.zero_le _) (fun hB => Ux hB) ?_;refine G.call Tryz.call125 (fun hB => Y3 Vy (s.take 2) (by decide) _) ?_;refine U5 ?_;refine G.sindex 1 (s.getD 1 0) jU (fun hB => Jg (Mu hB))  ?_;refine G.eql ?_;refine R.pickAnd ?_;refine R.fin [0, 18] ?_
 refine W.cond (fun ht18 => ?_) (fun ht18 => ?_)
 ·have h2 : 2 ≤ s.length := by revert ht18; cases hd : decide ((1 : Int) < s.length) with
   | true => intro _; have := of_decide_eq_true hd; omega
   | false => intro h; simp at h
  refine W.draw [0, 1, 0, 7, 15, 31] 3 Ae (by kernel_rfl) ?_;refine D.move ?_;refine D.scutH 2 jU (Nat.zero_le _) h2 ?_;refine Xp ?_;refine Xl ?_;refine Z11 ?_;exact K.fin (V.four V.tmp V.tmp V.tmp V.tmp) ⟨by simp only [Mt, ht18, if_true, if_false, Bool.false_eq_true]; try rfl, rfl⟩
 refine Z5 ?_;refine Z9 ?_;refine R.scutH 1 jU (Nat.zero_le _) h0 ?_;refine R.call Tryz.call125 (Y3 Vz (s.take 1) (by decide) _) ?_;refine R.fin [0, 23] ?_
 refine W.cond (fun ht23 => ?_) (fun ht23 => ?_)
 ·refine W.draw [0, 1, 0, 7, 15, 31] 3 Ae (by kernel_rfl) ?_;refine D.move ?_;refine D.scutH 1 jU (Nat.zero_le _) h0 ?_;refine Xp ?_;refine Xl ?_;refine Z11 ?_;exact py
 refine Z5 ?_;refine Z3 ?_;refine Xl ?_;refine AW.ret ?_;exact py

def Az (s : Str) : Int × Str × Int × Int :=
 if decide (0 < Jf (s.take 1) letters) then Iq s else if decide (0 < Jf (s.take 1) digs) then Qt s else if ((s.getD 0 0).toNat : Int) == 39 then Fm s else Mt s
theorem tc (s : Str) (h0 : 1 ≤ s.length) (hs : s.length ≤ 1048576) (Hp : List AObj) : AFun Tryz.prog 107 [A8 s] Hp (ca (Az s)) := by
 refine ACall.body [.tmp 2, .tmp 3, .tmp 4, .tmp 5] [0] Tryz.func107 Tryz.ntmps107 (fun d => ?_)
 refine Z3 ?_;refine b8 ?_;refine Gg ?_;refine R.scutH 1 jU (Nat.zero_le _) h0 ?_
 refine R.call Tryz.call90 (c90 (s.take 1) letters (by simp; omega) (by decide) Ok _) ?_
 refine Xq ?_;refine R.fin [0, 6] ?_
 refine W.cond (fun ht6 => ?_) (fun ht6 => ?_)
 ·refine Z0 ?_;refine R.call Tryz.call137 (t6 s hs _) ?_;refine Z8 ?_;refine Z8 ?_;refine U9 ?_;refine Z59 ?_;exact K.fin (V.four V.tmp V.tmp V.tmp V.tmp) ⟨by simp only [Az, ht6, if_true, if_false, Bool.false_eq_true], rfl⟩
 refine Z0 ?_;refine R.scutH 1 jU (Nat.zero_le _) h0 ?_
 refine R.call Tryz.call90 (c90 (s.take 1) digs (by simp; omega) (by decide) Ip _) ?_
 refine Xq ?_;refine R.fin [0, 17] ?_
 refine W.cond (fun ht17 => ?_) (fun ht17 => ?_)
 ·refine Z0 ?_;refine R.call Tryz.call138 (t7 s hs _) ?_;refine Z8 ?_;refine Z8 ?_;refine U9 ?_;refine Z59 ?_;exact K.fin (V.four V.tmp V.tmp V.tmp V.tmp) ⟨by simp only [Az, ht6, ht17, if_true, if_false, Bool.false_eq_true], rfl⟩
 refine Z0 ?_;refine R.sindex 0 (s.getD 0 0) jU (Jg h0)  ?_;refine Z20 ?_;refine R.fin [0, 28] ?_
 refine W.cond (fun ht28 => ?_) (fun ht28 => ?_)
 ·refine Z0 ?_;refine R.call Tryz.call139 (t8 s h0 hs _) ?_;refine Z8 ?_;refine Z8 ?_;refine U9 ?_;refine Z59 ?_;exact pz
 refine Z17 ?_;refine Z0 ?_;refine R.call Tryz.call140 (ta s h0 _) ?_;refine Z8 ?_;refine Z8 ?_;refine U9 ?_;refine AW.ret ?_;exact pz

structure Tok where
 kind : Int
 text : Str
 at_ : Nat
 deriving DecidableEq
abbrev Er (t : Tok) : AV := .agg [.v (.int .i64 t.kind), .v (sv t.text), .v (.int .i64 (t.at_ : Int))]
abbrev cc (l : List Tok) : AV := .slice false 3 (l.map Er)
theorem W0 {c : UInt8} {of : Str} (h : decide (0 < Jf ([c] : Str) of) = true) : of.contains c = true := by
 have := of_decide_eq_true h
 unfold Jf Lib.trimLeftS at this
 rw [List.dropWhile_cons] at this
 cases hc : of.contains c with
 | true => rfl
 | false => rw [hc] at this; simp at this
theorem Mv {c : UInt8} {r of : Str} (h : of.contains c = true) : 1 ≤ (Bw (c :: r) of).length := by
 unfold Bw
 rw [c8, List.takeWhile_cons, h]
 simp
theorem Ol : ∀ c : UInt8, letters.contains c = true → tails.contains c = true := by
 have h : ((List.range 256).all fun n => !letters.contains (UInt8.ofNat n) || tails.contains (UInt8.ofNat n)) = true := by kernel_rfl
 intro c hc
 have := List.all_eq_true.1 h c.toNat (List.mem_range.2 c.toNat_lt)
 rw [show UInt8.ofNat c.toNat = c by simp, hc] at this
 simpa using this
theorem Mw : ∀ (l : Str) (n : Nat), Bl l = some n → 1 ≤ n ∧ n ≤ l.length
 | [], n, h => by cases h
 | [c], n, h => by
  rw [Bl] at h
  split at h
  ·injection h with h; subst h; simp
  cases h
 | c :: d :: t, n, h => by
  rw [Bl] at h
  split at h
  ·split at h
   ·rw [Option.map_eq_some_iff] at h
    obtain ⟨m, hm, rfl⟩ := h
    have := Mw t m hm
    simp only [List.length_cons]; omega
   injection h with h; subst h; simp
  rw [Option.map_eq_some_iff] at h
  obtain ⟨m, hm, rfl⟩ := h
  have := Mw (d :: t) m hm
  simp only [List.length_cons] at this ⊢; omega
theorem W1 {s : Str} (h0 : 1 ≤ s.length) (h : (Az s).2.2.2 = 0) : ∃ n : Nat, (Az s).2.2.1 = (n : Int) ∧ 1 ≤ n ∧ n ≤ s.length := by
 cases s with
 | nil => simp at h0
 | cons c r =>
  unfold Az at h ⊢
  split at h
  ·rename_i h1
   rw [if_pos h1]
   have hc := Ol c (W0 h1)
   have hw := Mv (r := r) hc
   have hl := E6 (c :: r) tails
   unfold Iq at h ⊢
   split at h
   ·rename_i h2; rw [if_pos h2]; exact ⟨_, rfl, hw, hl⟩
   rename_i h2
   rw [if_neg h2]
   split at h
   ·exact bf
   rename_i h3; rw [if_neg h3]; exact ⟨_, rfl, hw, hl⟩
  rename_i h1
  rw [if_neg h1]
  split at h
  ·rename_i h2
   rw [if_pos h2]
   exact ⟨_, rfl, Mv (r := r) (W0 h2), E6 _ _⟩
  rename_i h2
  rw [if_neg h2]
  split at h
  ·rename_i h3
   rw [if_pos h3]
   unfold Fm at h ⊢
   split at h
   ·exact bf
   rename_i n hn
   split at h
   ·exact bf
   rename_i h4
   simp only [if_neg h4]
   have := Mw _ n hn
   simp at this
   exact ⟨n + 1, rfl, by omega, by simp only [List.length_cons]; omega⟩
  rename_i h3
  rw [if_neg h3]
  unfold Mt at h ⊢
  split at h
  ·rename_i h4
   rw [if_pos h4]
   refine ⟨2, rfl, by omega, ?_⟩
   simp only [Bool.and_eq_true, decide_eq_true_eq] at h4
   have := h4.1.1
   omega
  rename_i h4
  rw [if_neg h4]
  split at h
  ·rename_i h5; rw [if_pos h5]; exact ⟨1, rfl, by omega, h0⟩
  exact bf
/-- The words from a place on, up to one that is wrong. -/
def E7 : Nat → Nat → Str → List (Tok × Int)
 | 0, _, _ => []
 | f + 1, k, s => if s == [] then [] else
  (⟨(Az s).1, (Az s).2.1, k⟩, (Az s).2.2.2) :: (if (Az s).2.2.2 == 0 then E7 f (k + (Az s).2.2.1.toNat + gapM (s.drop (Az s).2.2.1.toNat)) ((s.drop (Az s).2.2.1.toNat).drop (gapM (s.drop (Az s).2.2.1.toNat))) else [])
def Ax (s : Str) : List (Tok × Int) := E7 (s.length + 1) (gapM s) (s.drop (gapM s))
theorem Uy (s : Str) : gapM s ≤ s.length := Nat.sub_le _ _
end Go.SX.Nb
namespace Go.SX
variable [GI : GlobInv]
open Classical
section
variable {P : Program} {d : Nat} {st : St} {dst : Option Tmp} {ty : TypeId} {pos : String} {aft : Array Edge} {gd : Option (Nat × Bool)}
end
section
variable {P : Program} {d : Nat} {ops : Array Oper}
variable {sz : Nat} {fr : Nat → AV} {up own own' : List AObj} {dfs : List Nat} {rnd : Option Nat} {Q : St → Prop} {rest : List Oper} {s : Nat} {ty : TypeId} {pos : String} {aft : Array Edge}
end
end Go.SX
namespace Go.SX
variable [GI : GlobInv]
open Classical
variable {P : Program} {d : Nat} {l0 : List Oper} {kd : Nat} {ops : Array Oper} {rest : List Oper} {sz : Nat} {fr : Nat → AV} {up own : List AObj} {dfs : List Nat} {rnd : Option Nat} {Q : St → Prop} {s : Nat} {ty : TypeId} {pos : String} {aft : Array Edge} {E : List Oper → (Nat → AV) → Prop}
theorem R.nilTmp {l : List Oper} (s k : Nat) (o : Bool) (hr : ARun P d ops l ⟨sz, A6 s (.slice o k []) fr, up, own, dfs, rnd⟩ Q) (h : fr s = .nil := by exact sL0) :
  ARun P d ops l ⟨sz, fr, up, own, dfs, rnd⟩ Q :=
 ARun.le (st' := ⟨sz, A6 s (.slice o k []) fr, up, own, dfs, rnd⟩) (StLe.frame (s := ⟨sz, fr, up, own, dfs, rnd⟩) fun i => by
  show Le (fr i) (A6 s (.slice o k []) fr i)
  unfold A6
  by_cases hi : i = s
  ·subst hi; rw [if_pos rfl, h]; exact .nil _ _
  rw [if_neg hi]; exact .refl _) hr
/-! A slice without room behind its end: whoever appends to it gets a new one. -/
theorem Uz (k : Nat) (xs : List AV) : (AV.full k xs).strip = .full k xs := rfl
theorem V0 (k : Nat) (xs : List AV) : (AV.full k xs).cells = [.full k xs] := rfl
theorem cd (k : Nat) (xs : List AV) : (AV.full k xs).one = true := rfl
attribute [go_sem] Uz V0 cd
section
variable {up own : (Nat → Bool) → List AObj} {S : List SegY} {l : List Oper} {T F : List Nat}
/-- The p-th of those that turn the heap: a store into an object of whoever waits. -/
theorem Y.storeUp {t t' : TypeId} {p x : Operand} {o off k pn : Nat} {y : AV} {ys cs cs' : List AV} (hsz : ∀ w, (Go.sizeOf t).run P w = .ok k w)
  (hU : ∀ B : Nat → Bool, B pn = false → (up B)[o]? = some (.cells t' cs) ∧ up (upd B pn) = (up B).set o (.cells t' cs') ∧ own (upd B pn) = own B ∧ ∀ y ∈ ys, Low (up B).length y)
  (h : ChainY P d l0 sz up own dfs rnd E S l fr)
  (hp : A7 fr p = .ptr o off := by exact sL0) (hx : A7 fr x = y := by exact sL0) (hc : y.cells = ys := by exact sL0) (hk : ys.length = k := by rfl)
  (h1 : ys.all AV.one = true := by exact sL4) (hfit : off + k ≤ cs.length := by exact sL3) (hput : Ay cs off ys = cs' := by exact sL0) :
  ChainY P d l0 sz up own dfs rnd E (.s [] (some pn) T F :: S) (⟨none, .store t p x, ty, pos, aft, none⟩ :: l) fr := by
 subst hput
 subst hc
 refine ⟨_, l, [], rfl, ⟨rfl, rfl, fun B f _ _ hB hf => ?_⟩, h⟩
 obtain ⟨a1, a2, a3, a4⟩ := hU B (hB pn rfl)
 have e : A7 f p = .ptr o off := by rw [agr hf (by simp [Op.operands])]; exact hp
 have ex : A7 f x = y := by rw [agr hf (by simp [Op.operands])]; exact hx
 refine AOp.eqTo (AOp.storeUp (st := ⟨sz, f, up B, own B, dfs, rnd⟩) hsz e a1 ex hk h1 hfit a4) ?_
 show _ = St.mk sz f (up (upd B pn)) (own (upd B pn)) dfs rnd
 rw [a2, a3]
end
end Go.SX
