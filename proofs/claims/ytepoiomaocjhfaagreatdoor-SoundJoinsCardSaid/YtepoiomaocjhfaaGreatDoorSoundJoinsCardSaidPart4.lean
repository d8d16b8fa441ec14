/- Texts on the way to this: SoundJoins answers true for whatever it is handed: moves that are sound over columns, and others that are sound over what is behind those, are sound all together and lead to the same columns, unless they are too many. (part 4) -/
import Derived.Below
import Derived.Test.YtepoiomaocjhfaaGreatDoorProg
import Derived.KernelRfl
import Derived.Shelf.Strconv.Itoa4
import Derived.Shelf.Strings.SplitShaped
import Derived.Shelf.Strings.SlTrimAscii
import Derived.Shelf.Strings.OnBuilder
import Derived.Shelf.Strings.Replace
import Derived.Shelf.Small.Strs
import Derived.Shelf.Strings.Prefix
import Derived.Shelf.Strconv.ErrVarParseInt
import Derived.Shelf.Bits.Mul64
import Derived.Shelf.Strings.Builder1
import Derived.Shelf.Strings.Cut
import Derived.Lib.SplitLaws
import Derived.LaidEql
import Derived.Stop.Asserts
import Derived.RowKitTokens
import Derived.WalkKit
import Derived.Lib.AtoiErrMem
import Derived.Lib.Strings
import Derived.BigCall
import Derived.Lib.ParseIntB
import Derived.Test.YtepoiomaocjhfaaGreatDoorSoundJoinsCardSaidPart3
set_option linter.all false
namespace Go.SX
variable [GI : GlobInv]
open Classical Go.RowKit
section
variable {P : Program} {g : FuncId} {Hp : List AObj}

/-- What is known of package-level variables, of a world alone. -/
def Fv (w : World) : Prop := ∀ x ∈ GI.blocks, ∃ o, w.heap[x.1]? = some o ∧ x.2 o

theorem Q7 {G : Gh} {w : World} {xs : List Value} {vs : Array Value} (hn : vs.size = (xs.map AV.v).length) (h : ∀ (i : Nat) (y : AV) (u : Value), (xs.map AV.v)[i]? = some y → vs[i]? = some u → ∃ l, Rep G w l y u) : vs = xs.toArray := by
 apply Array.ext
 ·simpa using hn
 intro i h1 h2
 have hi : i < xs.length := by simpa using h2
 obtain ⟨l, hr⟩ := h i (.v xs[i]) vs[i] (by simp [hi]) (Array.getElem?_eq_getElem h1)
 have := Ja hr
 simpa using this

theorem Dk {G : Gh} {w w' : World} (hT : TagOK G w) (hb : Below w.heap.size w w') {b o : Nat} (h : G.tag b o ≠ .free) : w'.cell? ⟨b, o, none⟩ = w.cell? ⟨b, o, none⟩ ∧ w'.frozen? ⟨b, o, none⟩ = w.frozen? ⟨b, o, none⟩ := by
 obtain ⟨u, hu⟩ := hT.ex b o h
 have hlt : b < w.heap.size := World.block_lt_of_cell? _ _ hu
 have := hb.block b hlt
 exact ⟨F3 this, Et this⟩

theorem M9 {G : Gh} {w w' : World} (hT : TagOK G w) (hb : Below w.heap.size w w') : Turn G w G w' :=
 ⟨fun b o h => ⟨h, (Dk hT hb (by rw [h]; simp)).1⟩, fun _ _ _ h => h, fun _ _ _ h => h, Nat.le_refl _, fun _ _ => rfl, hb.os, hb.tape, hb.output, hb.size, Still.tags (fun b hv => hb.block b hv.1) hb.size (fun _ _ _ => .inl rfl) (fun _ hi => .inl ⟨hi, rfl⟩)⟩

theorem Ts {G : Gh} {H : List AObj} {w w' : World} (hH : HeapRel G H w) (hT : TagOK G w) (hb : Below w.heap.size w w') : HeapRel G H w' ∧ TagOK G w' := by
 have T := M9 hT hb
 refine ⟨⟨fun i x hx => ?_, hH.n, hH.inj⟩, ⟨fun b o h => ?_, fun b o i h => ?_, fun b o L h => ?_, hT.globKeep T.old⟩⟩
 ·have hi : i < G.n := by rw [hH.n]; exact (List.getElem?_eq_some_iff.1 hx).1
  exact T.objRel hi (hb.block _ (Ho hH i hi)) (hH.obj i x hx) (fun b h => hb.block b h.lt)
 ·rw [(Dk hT hb h).1]; exact hT.ex b o h
 ·rw [(Dk hT hb (by rw [h]; simp)).2]; exact hT.obj b o i h
 rw [(Dk hT hb (by rw [h]; simp)).2]; exact hT.tail b o L h

/-- A function of pt values that hands back a pt value. -/
theorem AFun.lib {xs : List Value} {r : AV} {v : Value} (hr : ∀ G w, Rep G w none r v) (h : ∀ w, Fv w → Calls P g xs.toArray w (fun e w' => e = .returned v ∧ Below w.heap.size w w')) : AFun P g (xs.map .v) Hp r := by
 intro d G w vs hn hv hH hT hTop
 have hvs := Q7 hn (fun i y u a b => ⟨_, hv i y u a b⟩)
 subst hvs
 refine (callsIn_wide.2 (h w (fun x hx => let ⟨_, u, a, b⟩ := hT.glob x hx; ⟨u, a, b⟩))).mono ?_
 rintro e w' ⟨rfl, hb⟩
 obtain ⟨h1, h2⟩ := Ts hH hT hb
 exact ⟨v, G, r, Hp, rfl, (hr G w').lift, h1, h2, (M9 hT hb).keep _, rfl, rfl, rfl⟩


/-- A function of pt values that hands back a new slice of pt values. -/
theorem AFun.libSlice {xs ys : List Value} {t : TypeId} (hone : ∀ y ∈ ys, y.oneCell' = true) (h : ∀ w, Fv w → Calls P g xs.toArray w (fun e w' => e = .returned (.slice (some ⟨w.heap.size, 0, none⟩) ys.length ys.length) ∧ w' = w.alloc (.cells ys.toArray t))) :
  AFun P g (xs.map .v) Hp (.slice false 1 (ys.map .v)) := by
 intro d G w vs hn hv hH hT hTop
 have hvs := Q7 hn (fun i y u a b => ⟨_, hv i y u a b⟩)
 subst hvs
 refine (callsIn_wide.2 (h w (fun x hx => let ⟨_, u, a, b⟩ := hT.glob x hx; ⟨u, a, b⟩))).mono ?_
 rintro e w' ⟨rfl, rfl⟩
 have hst : StRel (d + 1) G ⟨0, fun _ => .any, Hp, [], [], none⟩ { tmps := #[], defers := [] } w :=
  ⟨rfl, fun s => .any _ _, by simpa using hH, (by rw [C8 hTop]; rfl), (fun o ho => by simp at ho), List.nodup_nil, (fun o ho => by simp at ho), hT, (fun l hl => by cases hl), M1 hH, Nat.le_succ_of_le hTop⟩
 obtain ⟨G', g1, T, g2⟩ := K6 hst t ys.toArray
 refine ⟨_, G', _, Hp, rfl, ?_, by simpa using g1.heap, g1.tags, T.keep _, rfl, rfl, rfl⟩
 refine .slice _ false 1 _ _ _ _ (fun i j => ys.toArray.getD i undef) rfl (by simp) (Nat.le_refl _) (fun x hx => ?_) (fun x hx y hy => ?_) (fun i x j y hx hy => ?_) (fun i x j y hx hy => ?_) (fun h => by cases h)
 ·obtain ⟨z, _, rfl⟩ := List.mem_map.1 hx
  rfl
 ·obtain ⟨z, hz, rfl⟩ := List.mem_map.1 hx
  have : y = .v z := by simpa [AV.cells] using hy
  subst this
  exact hone z hz
 all_goals
  rw [List.getElem?_map, Option.map_eq_some_iff] at hx
  obtain ⟨z, hz, rfl⟩ := hx
  have hlt : i < ys.length := (List.getElem?_eq_some_iff.1 hz).1
  have hj : j = 0 := by
   match j, hy with
   | 0, _ => rfl
   | j + 1, hy => simp [AV.cells] at hy
  subst hj
 ·refine ⟨by simpa using g2 i (by simpa using hlt), ?_⟩
  rw [World.cell?_alloc_new]
  simp [hlt]
 have : y = .v z := by simpa [AV.cells] using hy.symm
 subst this
 have e : ys.toArray.getD i undef = z := by
  have := List.getElem?_eq_getElem hlt
  rw [this] at hz
  injection hz with hz
  simp [hlt, hz]
 rw [e]
 exact .v _ _
/-- A function that hands back a pt value and, behind an interface value, a new record of pt values. -/
theorem AFun.libErr {xs cs : List Value} {n : Value} {T te : TypeId} (hone : ∀ y ∈ cs, y.oneCell' = true) (h : ∀ w, Fv w → Calls P g xs.toArray w (fun e w' => ∃ N, e = .returned (.tuple #[n, .iface T (.pointer (some ⟨N, 0, none⟩))]) ∧ w.heap.size ≤ N ∧ w'.heap[N]? = some (.cells cs.toArray te (0, 0)) ∧ Below w.heap.size w w')) :
  AFun P g (xs.map .v) Hp (.tup [.v n, .iface T (.ro (cs.map .v))]) := by
 intro d G w vs hn hv hH hT hTop
 have hvs := Q7 hn (fun i y u a b => ⟨_, hv i y u a b⟩)
 subst hvs
 refine (callsIn_wide.2 (h w (fun x hx => let ⟨_, u, a, b⟩ := hT.glob x hx; ⟨u, a, b⟩))).mono ?_
 rintro e w' ⟨N, rfl, hN, hcell, hb⟩
 have hfree : ∀ o, G.tag N o = .free := fun o => Cx hT _ o hN
 let G' : Gh := { G with tag := fun b o => if b = N ∧ o < cs.length then .fix else G.tag b o }
 have hne : ∀ b o, G.tag b o ≠ .free → ¬ (b = N ∧ o < cs.length) := fun b o hb hc => by rw [hc.1] at hb; exact hb (hfree o)
 have hnew : ∀ o, o < cs.length → w'.cell? ⟨N, o, none⟩ = cs[o]? := fun o ho => by simp [World.cell?, hcell, ho]
 have T1 : Turn G w G' w' := by
  refine ⟨fun b o h => ⟨?_, (Dk hT hb (by rw [h]; simp)).1⟩, fun b o L h => ?_, fun b o i h => ?_, Nat.le_refl _, fun _ _ => rfl, hb.os, hb.tape, hb.output, hb.size,
   Still.tags (fun b hv => hb.block b hv.1) hb.size (fun b o hlt => .inl ?_) (fun _ hi => .inl ⟨hi, rfl⟩)⟩
  ·simp only [G']; rw [if_neg (hne b o (by rw [h]; simp))]; exact h
  ·simp only [G']; rw [if_neg (hne b o (by rw [h]; simp))]; exact h
  ·simp only [G']; rw [if_neg (hne b o (by rw [h]; simp))]; exact h
  simp only [G']; rw [if_neg (by omega)]
 have hH' : HeapRel G' Hp w' := ⟨fun i x hx => by
  have hi : i < G.n := by rw [hH.n]; exact (List.getElem?_eq_some_iff.1 hx).1
  exact T1.objRel hi (hb.block _ (Ho hH i hi)) (hH.obj i x hx) (fun b h => hb.block b h.lt), hH.n, hH.inj⟩
 have hT' : TagOK G' w' := by
  refine ⟨fun b o h => ?_, fun b o i h => ?_, fun b o L h => ?_, hT.globKeep T1.old⟩
  ·simp only [G'] at h
   split at h
   ·rename_i hc; obtain ⟨rfl, ho⟩ := hc; exact ⟨_, (hnew o ho).trans (List.getElem?_eq_getElem ho)⟩
   rw [(Dk hT hb h).1]; exact hT.ex b o h
  ·simp only [G'] at h
   split at h
   ·cases h
   rw [(Dk hT hb (by rw [h]; simp)).2]; exact hT.obj b o i h
  simp only [G'] at h
  split at h
  ·cases h
  rw [(Dk hT hb (by rw [h]; simp)).2]; exact hT.tail b o L h
 refine ⟨_, G', _, Hp, rfl, ?_, hH', hT', T1.keep _, rfl, rfl, rfl⟩
 refine .tup _ _ _ rfl (fun i y u hy hu => ?_)
 match i with
 | 0 => simp at hy hu; subst hy; subst hu; exact .v _ _
 | 1 =>
  simp at hy hu; subst hy; subst hu
  refine .iface _ _ _ _ (.ro _ _ ⟨N, 0, none⟩ (fun j => cs.getD j undef) rfl (fun y hy => ?_) (fun j y hy => ?_) (fun j y hy => ?_))
  ·obtain ⟨z, hz, rfl⟩ := List.mem_map.1 hy
   exact hone z hz
  all_goals
   rw [List.getElem?_map, Option.map_eq_some_iff] at hy
   obtain ⟨z, hz, rfl⟩ := hy
   have hlt : j < cs.length := (List.getElem?_eq_some_iff.1 hz).1
   have e : cs.getD j undef = z := by rw [List.getD_eq_getElem?_getD, hz]; rfl
  ·refine ⟨by simp [G', hlt], ?_⟩
   rw [Nat.zero_add, hnew j hlt, hz, e]
  rw [e]; exact .v _ _
 | i + 2 => simp at hy
theorem TagOK.globIn {G : Gh} {w : World} (h : TagOK G w) : Fv w := fun x hx => (h.glob x hx).2
/-- A package-level variable of which something is known. -/
theorem R.loadGlob {d : Nat} {ops : Array Oper} {rest : List Oper} {sz : Nat} {fr : Nat → AV} {up own : List AObj} {dfs : List Nat} {rnd : Option Nat} {Q : St → Prop} {s : Nat} {ty : TypeId} {pos : String} {aft : Array Edge} {t : TypeId} {gl : Nat} {v : Value}
  (hagg : ∀ w, (isAgg t).run P w = .ok false w) (hv : ∀ w, Fv w → w.cell? ⟨gl, 0, none⟩ = some v) (hr : ARun P d ops rest ⟨sz, A5 s (.v v) fr, up, own, dfs, rnd⟩ Q) (hs : Nat.blt s sz = true := by rfl) :
  ARun P d ops (⟨some s, .load t (.global gl), ty, pos, aft, none⟩ :: rest) ⟨sz, fr, up, own, dfs, rnd⟩ Q := by
 refine ARun.v rfl rfl (by simpa using hs) (OpV.pure (by intro c h; cases h) fun G a w h => ⟨v, ?_, .v _ _⟩) hr
 have hc := hv w h.tags.globIn
 have e : a.eval (.global gl) = .pointer (some ⟨gl, 0, none⟩) := rfl
 simp [execOp, e, Instr.loadAt, Instr.sureAddr, loadVar, hagg, hc]
end
end Go.SX
namespace Go.SX.Nb
open Go Go.SX Go.Proofs
class JU (t : TypeId) (u : outParam TypeDesc) : Prop where h : Tryz.prog.underlying t = some u
theorem jU {t : TypeId} {u : TypeDesc} [i : JU t u] : Tryz.prog.underlying t = some u := i.h
@[reducible, instance] def JU3 := JU.mk Tryz.underlying3
@[reducible, instance] def JU4 := JU.mk Tryz.underlying4
@[reducible, instance] def JU5 := JU.mk Tryz.underlying5
@[reducible, instance] def JU9 := JU.mk Tryz.underlying9
@[reducible, instance] def tm := JU.mk Tryz.underlying20
@[reducible, instance] def tq := JU.mk Tryz.underlying22
@[reducible, instance] def tr := JU.mk Tryz.underlying23
@[reducible, instance] def tw := JU.mk Tryz.underlying34
@[reducible, instance] def tx := JU.mk Tryz.underlying37
@[reducible, instance] def tz := JU.mk Tryz.underlying42
@[reducible, instance] def u4 := JU.mk Tryz.underlying43
@[reducible, instance] def u5 := JU.mk Tryz.underlying45
@[reducible, instance] def u6 := JU.mk Tryz.underlying58
@[reducible, instance] def u7 := JU.mk Tryz.underlying60
@[reducible, instance] def u9 := JU.mk Tryz.underlying64
@[reducible, instance] def ua := JU.mk Tryz.underlying91
@[reducible, instance] def ub := JU.mk Tryz.underlying96
@[reducible, instance] def ss := JU.mk Tryz.underlying125
@[reducible, instance] def su := JU.mk Tryz.underlying146
@[reducible, instance] def sw := JU.mk Tryz.underlying148
@[reducible, instance] def sx := JU.mk Tryz.underlying222
class JS (t : TypeId) (u : outParam Nat) : Prop where h : ∀ w, (Go.sizeOf t).run Tryz.prog w = .ok u w
theorem jS {t : TypeId} {u : Nat} [i : JS t u] : ∀ w, (Go.sizeOf t).run Tryz.prog w = .ok u w := i.h
@[reducible, instance] def JS2 := JS.mk Tryz.sizeOf2
@[reducible, instance] def JS3 := JS.mk Tryz.sizeOf3
@[reducible, instance] def JS4 := JS.mk Tryz.sizeOf4
@[reducible, instance] def JS9 := JS.mk Tryz.sizeOf9
@[reducible, instance] def uc := JS.mk Tryz.sizeOf22
@[reducible, instance] def ud := JS.mk Tryz.sizeOf23
@[reducible, instance] def ue := JS.mk Tryz.sizeOf27
@[reducible, instance] def uf := JS.mk Tryz.sizeOf34
@[reducible, instance] def ug := JS.mk Tryz.sizeOf37
@[reducible, instance] def uh := JS.mk Tryz.sizeOf42
@[reducible, instance] def ui := JS.mk Tryz.sizeOf43
@[reducible, instance] def uj := JS.mk Tryz.sizeOf45
@[reducible, instance] def uk := JS.mk Tryz.sizeOf58
@[reducible, instance] def ul := JS.mk Tryz.sizeOf60
@[reducible, instance] def um := JS.mk Tryz.sizeOf64
@[reducible, instance] def un := JS.mk Tryz.sizeOf91
@[reducible, instance] def sy := JS.mk Tryz.sizeOf125
@[reducible, instance] def t6 := JS.mk Tryz.sizeOf148
class JA (t : TypeId) (u : outParam Bool) : Prop where h : ∀ w, (Go.isAgg t).run Tryz.prog w = .ok u w
theorem jA {t : TypeId} {u : Bool} [i : JA t u] : ∀ w, (Go.isAgg t).run Tryz.prog w = .ok u w := i.h
@[reducible, instance] def JA2 := JA.mk Tryz.isAgg2
@[reducible, instance] def JA3 := JA.mk Tryz.isAgg3
@[reducible, instance] def JA4 := JA.mk Tryz.isAgg4
@[reducible, instance] def JA9 := JA.mk Tryz.isAgg9
@[reducible, instance] def uo := JA.mk Tryz.isAgg22
@[reducible, instance] def uq := JA.mk Tryz.isAgg23
@[reducible, instance] def ur := JA.mk Tryz.isAgg27
@[reducible, instance] def ut := JA.mk Tryz.isAgg34
@[reducible, instance] def uu := JA.mk Tryz.isAgg37
@[reducible, instance] def uv := JA.mk Tryz.isAgg42
@[reducible, instance] def uw := JA.mk Tryz.isAgg43
@[reducible, instance] def ux := JA.mk Tryz.isAgg45
@[reducible, instance] def uz := JA.mk Tryz.isAgg58
@[reducible, instance] def v6 := JA.mk Tryz.isAgg60
@[reducible, instance] def v7 := JA.mk Tryz.isAgg64
@[reducible, instance] def v8 := JA.mk Tryz.isAgg91
@[reducible, instance] def vd := JA.mk Tryz.isAgg94
@[reducible, instance] def t7 := JA.mk Tryz.isAgg125
@[reducible, instance] def t8 := JA.mk Tryz.isAgg146
@[reducible, instance] def tc := JA.mk Tryz.isAgg155
@[reducible, instance] def td := JA.mk Tryz.isAgg220
class JZ (t : TypeId) (u : outParam Value) : Prop where h : ∀ w, (Go.zeroValue t).run Tryz.prog w = .ok u w
theorem jZ {t : TypeId} {u : Value} [i : JZ t u] : ∀ w, (Go.zeroValue t).run Tryz.prog w = .ok u w := i.h
@[reducible, instance] def JZ3 := JZ.mk Tryz.zeroValue3
@[reducible, instance] def JZ4 := JZ.mk Tryz.zeroValue4
@[reducible, instance] def JZ9 := JZ.mk Tryz.zeroValue9
@[reducible, instance] def ve := JZ.mk Tryz.zeroValue22
@[reducible, instance] def vf := JZ.mk Tryz.zeroValue23
@[reducible, instance] def vg := JZ.mk Tryz.zeroValue27
@[reducible, instance] def vh := JZ.mk Tryz.zeroValue34
@[reducible, instance] def vi := JZ.mk Tryz.zeroValue42
@[reducible, instance] def vj := JZ.mk Tryz.zeroValue45
@[reducible, instance] def vk := JZ.mk Tryz.zeroValue58
@[reducible, instance] def vl := JZ.mk Tryz.zeroValue60
@[reducible, instance] def vm := JZ.mk Tryz.zeroValue64
@[reducible, instance] def vn := JZ.mk Tryz.zeroValue91
@[reducible, instance] def vo := JZ.mk Tryz.zeroValue96
@[reducible, instance] def tg := JZ.mk Tryz.zeroValue125
@[reducible, instance] def th := JZ.mk Tryz.zeroValue148
@[reducible, instance] def tj := JZ.mk Tryz.zeroValue222
structure Hk (q : Prop) : Prop where h : q
variable {p q : Prop}
theorem Z0(k:q)(h:Hk q→p:=by intro qk;refine B8 ?_;refine Av ?_;exact qk.h):p:=h ⟨k⟩
theorem Z2(k:q)(h:Hk q→p:=by intro qk;refine R.fin [2] ?_;refine AW.ret ?_;exact qk.h):p:=h ⟨k⟩
theorem Z3(k:q)(h:Hk q→p:=by intro qk;refine B8 ?_;refine Bg ?_;exact qk.h):p:=h ⟨k⟩
theorem Z4(k:q)(h:Hk q→p:=by intro qk;refine K.blR ?_;refine K.thR ?_;exact qk.h):p:=h ⟨k⟩
theorem Z5(k:q)(h:Hk q→p:=by intro qk;refine E3 ?_;refine Z2 ?_;exact qk.h):p:=h ⟨k⟩
theorem Z6(k:q)(h:Hk q→p:=by intro qk;refine AW.skip ?_;refine K.thN ?_;exact qk.h):p:=h ⟨k⟩
theorem Z7(k:q)(h:Hk q→p:=by intro qk;refine Bg ?_;refine Bg ?_;exact qk.h):p:=h ⟨k⟩
theorem Z8(k:q)(h:Hk q→p:=by intro qk;refine Y.bot (fun B hT => Lv (hT 0 (by simp))) ?_;refine Y.bot (fun B hT => Lv (hT 0 (by simp))) ?_;exact qk.h):p:=h ⟨k⟩
theorem Z9(k:q)(h:Hk q→p:=by intro qk;refine K.blN ?_;refine K.thN ?_;exact qk.h):p:=h ⟨k⟩
theorem Z10(k:q)(h:Hk q→p:=by intro qk;refine Iy ?_;refine E3 ?_;exact qk.h):p:=h ⟨k⟩
theorem Z11(k:q)(h:Hk q→p:=by intro qk;refine W.seq ?_;refine Z0 ?_;exact qk.h):p:=h ⟨k⟩
theorem Z13(k:q)(h:Hk q→p:=by intro qk;refine Av ?_;refine G.move ?_;exact qk.h):p:=h ⟨k⟩
theorem Z14(k:q)(h:Hk q→p:=by intro qk;refine R.seql ?_;refine Bg ?_;exact qk.h):p:=h ⟨k⟩
theorem Z15(k:q)(h:Hk q→p:=by intro qk;refine W.seq ?_;refine B8 ?_;exact qk.h):p:=h ⟨k⟩
theorem Z16(k:q)(h:Hk q→p:=by intro qk;refine AW.skip ?_;refine Z9 ?_;exact qk.h):p:=h ⟨k⟩
theorem Z17(k:q)(h:Hk q→p:=by intro qk;refine R.extract ?_;refine R.extract ?_;exact qk.h):p:=h ⟨k⟩
theorem Z18(k:q)(h:Hk q→p:=by intro qk;refine B8 ?_;refine Hi ?_;refine Rm ?_;refine Z5 ?_;exact qk.h):p:=h ⟨k⟩
theorem Z19(k:q)(h:Hk q→p:=by intro qk;refine R.fin [4] ?_;refine AW.ret ?_;exact qk.h):p:=h ⟨k⟩
theorem Z20(k:q)(h:Hk q→p:=by intro qk;refine R.eql ?_;refine Bg ?_;exact qk.h):p:=h ⟨k⟩
theorem Z21(k:q)(h:Hk q→p:=by intro qk;refine B8 ?_;refine Iy ?_;exact qk.h):p:=h ⟨k⟩
theorem Z22(k:q)(h:Hk q→p:=by intro qk;refine W.seq ?_;refine Fc ?_;exact qk.h):p:=h ⟨k⟩
theorem Z23(k:q)(h:Hk q→p:=by intro qk;refine Bg ?_;refine Z2 ?_;exact qk.h):p:=h ⟨k⟩
theorem Z24(k:q)(h:Hk q→p:=by intro qk;refine AW.ret ?_;refine K.thR ?_;exact qk.h):p:=h ⟨k⟩
theorem Z26(k:q)(h:Hk q→p:=by intro qk;refine R.fieldAddrRo (off := 0) jU Tryz.sizeOf3 ?_;refine Di ?_;exact qk.h):p:=h ⟨k⟩
theorem Z27(k:q)(h:Hk q→p:=by intro qk;refine Z0 ?_;refine Av ?_;exact qk.h):p:=h ⟨k⟩
theorem Z28(k:q)(h:Hk q→p:=by intro qk;refine Z18 ?_;refine Z4 ?_;exact qk.h):p:=h ⟨k⟩
theorem Z29(k:q)(h:Hk q→p:=by intro qk;refine R.nilPtr ?_;refine R.fieldAddrPtr (fo := 1) jU Tryz.sizeOf3 ?_;exact qk.h):p:=h ⟨k⟩
theorem Z30(k:q)(h:Hk q→p:=by intro qk;refine K.lpR ?_;refine K.thR ?_;exact qk.h):p:=h ⟨k⟩
theorem Z31(k:q)(h:Hk q→p:=by intro qk;refine Hh ?_;refine Av ?_;exact qk.h):p:=h ⟨k⟩
theorem Z32(k:q)(h:Hk q→p:=by intro qk;refine B8 ?_;refine R.boxRo ?_;exact qk.h):p:=h ⟨k⟩
theorem Z33(k:q)(h:Hk q→p:=by intro qk;refine B8 ?_;refine Z14 ?_;exact qk.h):p:=h ⟨k⟩
theorem Z34(k:q)(h:Hk q→p:=by intro qk;refine B8 ?_;refine Qb ?_;exact qk.h):p:=h ⟨k⟩
theorem Z35(k:q)(h:Hk q→p:=by intro qk;refine R.fieldAddrPtr (fo := 0) jU Tryz.sizeOf3 ?_;refine Fb ?_;exact qk.h):p:=h ⟨k⟩
theorem Z36(k:q)(h:Hk q→p:=by intro qk;refine K.lpE ?_;refine K.thN ?_;exact qk.h):p:=h ⟨k⟩
theorem Z37(k:q)(h:Hk q→p:=by intro qk;refine B8 ?_;refine Z20 ?_;exact qk.h):p:=h ⟨k⟩
theorem Z38(h:p:=by refine Z4 ?_;exact K.fin (V.one V.tmp) ⟨by rw [hn]; first | (simp only [ht22, ht25, ht33, ht41, ht41, hk3, hk6, Bool.true_or, Bool.false_or, Bool.or_true, Bool.or_false, if_true, if_false, Bool.false_eq_true, ↓reduceIte] <;> rfl) | (simp only [ht22, ht25, ht33, ht41, ht41, hk3, Bool.true_or, Bool.false_or, Bool.or_true, if_true, if_false, Bool.false_eq_true, ↓reduceIte] <;> rfl) | (simp only [ht22, ht25, ht33, ht41, ht41, if_true, if_false, Bool.false_eq_true, ↓reduceIte] <;> rfl), rfl⟩):p:=h
theorem Z39(h:p:=by refine D.buildSlice jU jS jZ ?_;exact Gt):p:=h
theorem Z41(k:q)(h:Hk q→p:=by intro qk;refine G.fieldAddrRo (off := 5) jU Tryz.sizeOf43 ?_;refine G.loadRo jA ?_;exact qk.h):p:=h ⟨k⟩
theorem Z43(k:q)(h:Hk q→p:=by intro qk;refine G.fieldAddrRo (off := 1) jU Tryz.sizeOf9 ?_;refine G.loadRo jA ?_;exact qk.h):p:=h ⟨k⟩
theorem Z44(k:q)(h:Hk q→p:=by intro qk;refine Z3 ?_;refine Z2 ?_;exact qk.h):p:=h ⟨k⟩
theorem Z45(k:q)(h:Hk q→p:=by intro qk;refine R.len jU ?_;refine Av ?_;exact qk.h):p:=h ⟨k⟩
theorem Z46(k:q)(h:Hk q→p:=by intro qk;refine Z4 ?_;refine Z30 ?_;exact qk.h):p:=h ⟨k⟩
theorem Z47(k:q)(h:Hk q→p:=by intro qk;refine B8 ?_;refine Fb ?_;exact qk.h):p:=h ⟨k⟩
theorem Z48(k:q)(h:Hk q→p:=by intro qk;refine Z21 ?_;refine R.fin [0, 2] ?_;exact qk.h):p:=h ⟨k⟩
theorem Z49(k:q)(h:Hk q→p:=by intro qk;refine G.eql ?_;refine G8 ?_;exact qk.h):p:=h ⟨k⟩
theorem Z50(k:q)(h:Hk q→p:=by intro qk;refine Z0 ?_;refine R.callUp Tryz.call250 ho (by simp) Bj (cr l S o _ (A6 ho) hi hll) ?_;exact qk.h):p:=h ⟨k⟩
theorem Z51(k:q)(h:Hk q→p:=by intro qk;refine Bg ?_;refine Z19 ?_;exact qk.h):p:=h ⟨k⟩
theorem Z52(k:q)(h:Hk q→p:=by intro qk;refine Av ?_;refine Z17 ?_;exact qk.h):p:=h ⟨k⟩
theorem Z53(k:q)(h:Hk q→p:=by intro qk;refine Av ?_;refine Av ?_;exact qk.h):p:=h ⟨k⟩
theorem Z54(k:q)(h:Hk q→p:=by intro qk;refine Z3 ?_;refine R.fin [0] ?_;exact qk.h):p:=h ⟨k⟩
theorem Z55(h:p:=by refine Z46 ?_;exact fx):p:=h
theorem Z56(k:q)(h:Hk q→p:=by intro qk;refine Z3 ?_;refine R.fin [0, 1] ?_;exact qk.h):p:=h ⟨k⟩
theorem Z57(k:q)(h:Hk q→p:=by intro qk;refine Hh ?_;refine R.add64 ?_;refine Av ?_;exact qk.h):p:=h ⟨k⟩
theorem Z58(k:q)(h:Hk q→p:=by intro qk;refine AW.exit ?_;refine K.thE ?_;exact qk.h):p:=h ⟨k⟩
theorem Z59(k:q)(h:Hk q→p:=by intro qk;refine B8 ?_;refine R.lss ?_;exact qk.h):p:=h ⟨k⟩
theorem Z60(k:q)(h:Hk q→p:=by intro qk;refine AW.ret ?_;refine Z4 ?_;exact qk.h):p:=h ⟨k⟩
theorem Z61(k:q)(h:Hk q→p:=by intro qk;refine Bg ?_;refine Ge ?_;exact qk.h):p:=h ⟨k⟩
theorem Z62(k:q)(h:Hk q→p:=by intro qk;refine R.add64 ?_;refine Bg ?_;exact qk.h):p:=h ⟨k⟩
theorem Z63(k:q)(h:Hk q→p:=by intro qk;refine B8 ?_;refine U4 ?_;exact qk.h):p:=h ⟨k⟩
theorem Z64(k:q)(h:Hk q→p:=by intro qk;refine Z32 ?_;refine Bg ?_;exact qk.h):p:=h ⟨k⟩
theorem Z65(h:p:=by refine K.thR ?_;exact K.fin (V.one (V.cellN jA jS)) ⟨by rw [e, Ac], by rw [e]⟩ (hlow := low_agg _)):p:=h
theorem Z66(k:q)(h:Hk q→p:=by intro qk;refine D.move ?_;refine D.nilPtr ?_;exact qk.h):p:=h ⟨k⟩
theorem Z67(k:q)(h:Hk q→p:=by intro qk;refine R.fieldAddrPtr (fo := 2) jU Tryz.sizeOf3 ?_;refine Fb ?_;exact qk.h):p:=h ⟨k⟩
theorem Z68(k:q)(h:Hk q→p:=by intro qk;refine R.nilPtr ?_;refine R.fieldAddrPtr (fo := 1) jU Tryz.sizeOf37 ?_;exact qk.h):p:=h ⟨k⟩
theorem Z69(k:q)(h:Hk q→p:=by intro qk;refine Z33 ?_;refine R.fin [2, 18] ?_;exact qk.h):p:=h ⟨k⟩
theorem Z70(k:q)(h:Hk q→p:=by intro qk;refine R.fin [4, 5] ?_;refine Z24 ?_;exact qk.h):p:=h ⟨k⟩
theorem Z71(k:q)(h:Hk q→p:=by intro qk;refine R.fin [6] ?_;refine AW.ret ?_;exact qk.h):p:=h ⟨k⟩
theorem Z73(k:q)(h:Hk q→p:=by intro qk;refine Z22 ?_;refine B8 ?_;exact qk.h):p:=h ⟨k⟩
theorem Z74(k:q)(h:Hk q→p:=by intro qk;refine R.fin [] ?_;refine K.blN ?_;exact qk.h):p:=h ⟨k⟩
theorem Z75(k:q)(h:Hk q→p:=by intro qk;refine Z22 ?_;refine Z0 ?_;exact qk.h):p:=h ⟨k⟩
theorem Z76(h:p:=by refine Z23 ?_;exact av):p:=h
theorem Z77(k:q)(h:Hk q→p:=by intro qk;refine Z33 ?_;refine R.fin [2, 3, 9] ?_;exact qk.h):p:=h ⟨k⟩
theorem Z78(k:q)(h:Hk q→p:=by intro qk;refine Z16 ?_;refine Z18 ?_;exact qk.h):p:=h ⟨k⟩
theorem Z79(h:p:=by refine R.fin [0, 1, 7, 8] ?_;exact K.lpN (x + 1) ⟨hlt, Ce hlt hx.2 ht16⟩ (by omega) (StCut.of_eq rfl)):p:=h
theorem Z80(h:p:=by refine D.move ?_;exact Gt):p:=h
theorem Z81(k:q)(h:Hk q→p:=by intro qk;refine R.fieldAddrRo (off := 1) jU Tryz.sizeOf9 ?_;refine Di ?_;exact qk.h):p:=h ⟨k⟩
theorem Z83(k:q)(h:Hk q→p:=by intro qk;refine G.gtr ?_;refine Fw ?_;exact qk.h):p:=h ⟨k⟩
theorem Z84(k:q)(h:Hk q→p:=by intro qk;refine R.nilPtr ?_;refine R.fieldAddrPtr (fo := 2) jU Tryz.sizeOf3 ?_;exact qk.h):p:=h ⟨k⟩
theorem Z85(k:q)(h:Hk q→p:=by intro qk;refine B8 ?_;refine Di ?_;exact qk.h):p:=h ⟨k⟩
theorem Z86(k:q)(h:Hk q→p:=by intro qk;refine B8 ?_;refine Gf ?_;exact qk.h):p:=h ⟨k⟩
theorem Z87(k:q)(h:Hk q→p:=by intro qk;refine Z7 ?_;refine Bg ?_;exact qk.h):p:=h ⟨k⟩
theorem Z88(k:q)(h:Hk q→p:=by intro qk;refine l5 ?_;refine Gf ?_;exact qk.h):p:=h ⟨k⟩
theorem Z89(k:q)(h:Hk q→p:=by intro qk;refine D.loadOwn jA ?_;refine D.loadOwn jA ?_;exact qk.h):p:=h ⟨k⟩
theorem Z90(k:q)(h:Hk q→p:=by intro qk;refine Z66 ?_;refine D.fieldAddrPtr (fo := 1) jU Tryz.sizeOf3 ?_;exact qk.h):p:=h ⟨k⟩
theorem Z91(k:q)(h:Hk q→p:=by intro qk;refine Z16 ?_;refine Z57 ?_;exact qk.h):p:=h ⟨k⟩
theorem Z92(k:q)(h:Hk q→p:=by intro qk;refine Z7 ?_;refine R.fin [2, 3, 4, 5] ?_;exact qk.h):p:=h ⟨k⟩
theorem Z93(k:q)(h:Hk q→p:=by intro qk;refine Z13 ?_;refine G.move ?_;exact qk.h):p:=h ⟨k⟩
theorem Z94(k:q)(h:Hk q→p:=by intro qk;refine Z52 ?_;refine Z7 ?_;exact qk.h):p:=h ⟨k⟩
theorem Z95(k:q)(h:Hk q→p:=by intro qk;refine G8 ?_;refine Av ?_;exact qk.h):p:=h ⟨k⟩
theorem Z96(k:q)(h:Hk q→p:=by intro qk;refine Z11 ?_;refine Av ?_;exact qk.h):p:=h ⟨k⟩
theorem Z97(k:q)(h:Hk q→p:=by intro qk;refine Z49 ?_;refine Z23 ?_;exact qk.h):p:=h ⟨k⟩
theorem Z98(h:p:=by refine Z19 ?_;exact K.fin (V.one V.tmp) ⟨by rw [V4 (Gx hxe hx.2)], rfl⟩):p:=h
theorem Z99(k:q)(h:Hk q→p:=by intro qk;refine D.fieldAddrPtr (fo := 0) jU Tryz.sizeOf91 ?_;refine D.loadUp jA ho ?_;exact qk.h):p:=h ⟨k⟩
theorem Tt(k:q)(h:Hk q→p:=by intro qk;refine R.fin [4, 5] ?_;refine AW.ret ?_;exact qk.h):p:=h ⟨k⟩
theorem jz(k:q)(h:Hk q→p:=by intro qk;refine B8 ?_;refine U5 ?_;exact qk.h):p:=h ⟨k⟩
theorem Xb(h:p:=by refine Z51 ?_;exact av):p:=h
theorem Rf(k:q)(h:Hk q→p:=by intro qk;refine Z10 ?_;refine R.fin [0, 2, 3] ?_;exact qk.h):p:=h ⟨k⟩
theorem Nz(k:q)(h:Hk q→p:=by intro qk;refine Z64 ?_;refine R.fin [1] ?_;exact qk.h):p:=h ⟨k⟩
theorem eo(h:p:=by refine K.thP ?_;exact K.finPP ⟨_, _, e, rfl, .refl ho⟩):p:=h
theorem ep(k:q)(h:Hk q→p:=by intro qk;refine R.fieldAddrRo (off := 2) jU Tryz.sizeOf3 ?_;refine Di ?_;exact qk.h):p:=h ⟨k⟩
theorem k6(h:p:=by refine Z46 ?_;exact K.fin (V.one V.tmp) ⟨by rw [di hlt ht16 hx.2], rfl⟩):p:=h
theorem mq(k:q)(h:Hk q→p:=by intro qk;refine Bg ?_;refine E3 ?_;exact qk.h):p:=h ⟨k⟩
theorem er(k:q)(h:Hk q→p:=by intro qk;refine R.fieldAddrPtr (fo := 1) jU Tryz.sizeOf9 ?_;refine Fb ?_;exact qk.h):p:=h ⟨k⟩
theorem et(k:q)(h:Hk q→p:=by intro qk;refine R.fieldAddrRo (off := 1) jU Tryz.sizeOf37 ?_;refine Di ?_;exact qk.h):p:=h ⟨k⟩
theorem K9(k:q)(h:Hk q→p:=by intro qk;refine Z58 ?_;refine Z36 ?_;exact qk.h):p:=h ⟨k⟩
theorem eu(k:q)(h:Hk q→p:=by intro qk;refine R.fieldAddrRo (off := 1) jU Tryz.sizeOf3 ?_;refine Di ?_;exact qk.h):p:=h ⟨k⟩
theorem ew(k:q)(h:Hk q→p:=by intro qk;refine D.nilPtr ?_;refine D.fieldAddrPtr (fo := 4) jU Tryz.sizeOf43 ?_;exact qk.h):p:=h ⟨k⟩
theorem Rg(k:q)(h:Hk q→p:=by intro qk;refine E3 ?_;refine Z61 ?_;exact qk.h):p:=h ⟨k⟩
theorem Q8(k:q)(h:Hk q→p:=by intro qk;refine Z11 ?_;refine Z45 ?_;exact qk.h):p:=h ⟨k⟩
theorem k7(h:p:=by refine Z51 ?_;exact K.fin (V.one V.tmp) ⟨by rw [← Yt]; try rfl, rfl⟩):p:=h
theorem ey(k:q)(h:Hk q→p:=by intro qk;refine D.nilPtr ?_;refine D.fieldAddrPtr (fo := 1) jU Tryz.sizeOf37 ?_;exact qk.h):p:=h ⟨k⟩
theorem k8(k:q)(h:Hk q→p:=by intro qk;refine U5 ?_;refine Z5 ?_;exact qk.h):p:=h ⟨k⟩
theorem k9(h:p:=by refine K.thR ?_;exact b6):p:=h
theorem f5(k:q)(h:Hk q→p:=by intro qk;refine R.nilPtr ?_;refine R.fieldAddrPtr (fo := 3) jU Tryz.sizeOf60 ?_;refine R.fieldAddrPtr (fo := 0) jU Tryz.sizeOf27 ?_;exact qk.h):p:=h ⟨k⟩
theorem Q9(k:q)(h:Hk q→p:=by intro qk;refine Z3 ?_;refine Bg ?_;exact qk.h):p:=h ⟨k⟩
theorem Rh(k:q)(h:Hk q→p:=by intro qk;refine G.neq ?_;refine Fw ?_;exact qk.h):p:=h ⟨k⟩
theorem Ka(k:q)(h:Hk q→p:=by intro qk;refine Z6 ?_;refine Z0 ?_;exact qk.h):p:=h ⟨k⟩
theorem Ri(k:q)(h:Hk q→p:=by intro qk;refine R.len jU ?_;refine R.lss ?_;exact qk.h):p:=h ⟨k⟩
theorem ka(h:p:=by refine D.loadUp jA ((Ef n1 n2).trans hbp) ?_;exact Gt):p:=h
theorem ae(k:q)(h:Hk q→p:=by intro qk;refine Bg ?_;refine R.fin [0, 1, 5, 7, 8] ?_;exact qk.h):p:=h ⟨k⟩
theorem kb(k:q)(h:Hk q→p:=by intro qk;refine B8 ?_;refine Rm ?_;exact qk.h):p:=h ⟨k⟩
theorem Xc(k:q)(h:Hk q→p:=by intro qk;refine Z87 ?_;refine R.fin [2, 3, 4, 5] ?_;exact qk.h):p:=h ⟨k⟩
theorem f6(h:p:=by refine Z5 ?_;exact K.fin (V.one (V.cellN jA jS))):p:=h
theorem kc(h:p:=by refine Z97 ?_;refine Z4 ?_;exact nz):p:=h
theorem Xd(k:q)(h:Hk q→p:=by intro qk;refine R.loadUp jA ho ?_;refine R.add64 ?_;exact qk.h):p:=h ⟨k⟩
theorem f7(k:q)(h:Hk q→p:=by intro qk;refine Z31 ?_;refine Z62 ?_;exact qk.h):p:=h ⟨k⟩
theorem mr(h:p:=by refine R.fin [] ?_;exact K.finPN .nores (hp := ⟨Wk m x, k, by unfold Jz; rw [hT]; rfl, rfl, by exact Zf⟩)):p:=h
theorem Rj(k:q)(h:Hk q→p:=by intro qk;refine K.thP ?_;refine K.blP ?_;exact qk.h):p:=h ⟨k⟩
theorem ke(h:p:=by refine K.thR ?_;exact fx):p:=h
theorem Qa(k:q)(h:Hk q→p:=by intro qk;refine Z6 ?_;refine B8 ?_;exact qk.h):p:=h ⟨k⟩
theorem kg(k:q)(h:Hk q→p:=by intro qk;refine Z93 ?_;refine G.indexAddr (y) (A7 x.1[y]) jU jS (fun _ => By hlt) ?_;exact qk.h):p:=h ⟨k⟩
theorem Xe(h:p:=by refine D.len jU ?_;exact Z39):p:=h
theorem Xf(k:q)(h:Hk q→p:=by intro qk;refine Gf ?_;refine Z10 ?_;exact qk.h):p:=h ⟨k⟩
theorem Rk(k:q)(h:Hk q→p:=by intro qk;refine Fc ?_;refine Z37 ?_;exact qk.h):p:=h ⟨k⟩
theorem af(k:q)(h:Hk q→p:=by intro qk;refine E3 ?_;refine Ge ?_;exact qk.h):p:=h ⟨k⟩
theorem O0(k:q)(h:Hk q→p:=by intro qk;refine Z3 ?_;refine Z19 ?_;exact qk.h):p:=h ⟨k⟩
theorem Tu(k:q)(h:Hk q→p:=by intro qk;refine R.fin [6] ?_;refine Z24 ?_;exact qk.h):p:=h ⟨k⟩
theorem mt(k:q)(h:Hk q→p:=by intro qk;refine R.len jU ?_;refine R.gtr ?_;exact qk.h):p:=h ⟨k⟩
theorem Xg(k:q)(h:Hk q→p:=by intro qk;refine G.loadOwn jA ?_;refine G.eql ?_;exact qk.h):p:=h ⟨k⟩
theorem ag(k:q)(h:Hk q→p:=by intro qk;refine Z59 ?_;refine R.fin [0, 1, 7, 8, 9] ?_;exact qk.h):p:=h ⟨k⟩
theorem ai(k:q)(h:Hk q→p:=by intro qk;refine W.seq ?_;refine Z3 ?_;exact qk.h):p:=h ⟨k⟩
theorem mu(h:p:=by refine Z51 ?_;exact K.fin (V.one V.tmp) ⟨by first | (rw [hgy hf]; rfl) | (rw [hgv hf]; rfl), rfl⟩):p:=h
theorem ki(k:q)(h:Hk q→p:=by intro qk;refine R.fieldAddrPtr (fo := 0) jU Tryz.sizeOf9 ?_;refine Fb ?_;exact qk.h):p:=h ⟨k⟩
theorem aj(k:q)(h:Hk q→p:=by intro qk;refine Q8 ?_;refine R.fin [0, 1, 7, 8] ?_;exact qk.h):p:=h ⟨k⟩
theorem kj(k:q)(h:Hk q→p:=by intro qk;refine R.fieldAddrRo (off := 5) jU Tryz.sizeOf43 ?_;refine Di ?_;exact qk.h):p:=h ⟨k⟩
theorem km(k:q)(h:Hk q→p:=by intro qk;refine D.fieldAddrRo (off := 1) jU Tryz.sizeOf37 ?_;refine D.loadRo jA ?_;exact qk.h):p:=h ⟨k⟩
theorem Rl(k:q)(h:Hk q→p:=by intro qk;refine Z11 ?_;refine R.neq ?_;exact qk.h):p:=h ⟨k⟩
theorem kn(k:q)(h:Hk q→p:=by intro qk;refine R.fieldAddrRo (off := 0) jU Tryz.sizeOf9 ?_;refine Di ?_;exact qk.h):p:=h ⟨k⟩
theorem mv(h:p:=by refine D.build (places := #[(0, 1), (1, 1)]) jU (fun w => by simp) jZ ?_;exact Gt):p:=h
theorem ak(h:p:=by refine Z95 ?_;refine Z41 ?_;refine G.len jU ?_;exact kc):p:=h
theorem ko(k:q)(h:Hk q→p:=by intro qk;refine G.fieldAddrPtr (fo := 1) jU Tryz.sizeOf9 ?_;refine G.loadOwn jA ?_;exact qk.h):p:=h ⟨k⟩
theorem kp(k:q)(h:Hk q→p:=by intro qk;refine R.fieldAddrRo (off := 2) jU Tryz.sizeOf22 ?_;refine Di ?_;exact qk.h):p:=h ⟨k⟩
theorem mw(h:p:=by refine G.call Tryz.call109 (fun hB => ob e.text Ou hs (by decide) _) ?_;exact ak):p:=h
theorem kq(k:q)(h:Hk q→p:=by intro qk;refine Z0 ?_;refine R.call Tryz.call258 (oh l S o _ (A6 ho) hi) ?_;exact qk.h):p:=h ⟨k⟩
theorem Xh(k:q)(h:Hk q→p:=by intro qk;refine R.slen jU ?_;refine R.gtr ?_;exact qk.h):p:=h ⟨k⟩
theorem Xi(k:q)(h:Hk q→p:=by intro qk;refine Iy ?_;refine mq ?_;exact qk.h):p:=h ⟨k⟩
theorem f8(h:p:=by refine Z89 ?_;exact Gt):p:=h
theorem al(k:q)(h:Hk q→p:=by intro qk;refine Fb ?_;refine Av ?_;exact qk.h):p:=h ⟨k⟩
theorem kr(k:q)(h:Hk q→p:=by intro qk;refine R.nilPtr ?_;refine R.fieldAddrPtr (fo := 4) jU Tryz.sizeOf43 ?_;exact qk.h):p:=h ⟨k⟩
theorem kt(k:q)(h:Hk q→p:=by intro qk;refine B8 ?_;refine R.fieldAddrRo (off := 2) jU Tryz.sizeOf42 ?_;exact qk.h):p:=h ⟨k⟩
theorem ku(k:q)(h:Hk q→p:=by intro qk;refine Z0 ?_;refine R.call Tryz.call88 (c88 L i o _ (A6 ho) hi) ?_;exact qk.h):p:=h ⟨k⟩
theorem Xj(k:q)(h:Hk q→p:=by intro qk;refine Hh ?_;refine Fb ?_;refine Fb ?_;exact qk.h):p:=h ⟨k⟩
theorem am(k:q)(h:Hk q→p:=by intro qk;refine Hh ?_;refine Bg ?_;exact qk.h):p:=h ⟨k⟩
theorem kv(k:q)(h:Hk q→p:=by intro qk;refine Av ?_;refine G.fieldAddrPtr (fo := 0) jU Tryz.sizeOf3 ?_;exact qk.h):p:=h ⟨k⟩
theorem Xk(k:q)(h:Hk q→p:=by intro qk;refine G8 ?_;refine Z23 ?_;exact qk.h):p:=h ⟨k⟩
theorem Tv(k:q)(h:Hk q→p:=by intro qk;refine R.eql ?_;refine Z13 ?_;exact qk.h):p:=h ⟨k⟩
theorem Xl(k:q)(h:Hk q→p:=by intro qk;refine Hh ?_;refine Z14 ?_;exact qk.h):p:=h ⟨k⟩
theorem Tw(k:q)(h:Hk q→p:=by intro qk;refine Z16 ?_;refine f7 ?_;exact qk.h):p:=h ⟨k⟩
theorem kw(h:p:=by refine D.loadRo jA ?_;exact Gt):p:=h
theorem mx(h:p:=by refine Z44 ?_;exact nz):p:=h
theorem kx(k:q)(h:Hk q→p:=by intro qk;refine Gf ?_;refine R.call Tryz.call74 (c74 e _) ?_;exact qk.h):p:=h ⟨k⟩
theorem my(k:q)(h:Hk q→p:=by intro qk;refine Y.buildSlice jU Tryz.sizeOf9 Tryz.zeroValue9 ?_;refine Y.tail (tn := [2]) (U := U2 L Hp o om j (mvO m)) ?_;exact qk.h):p:=h ⟨k⟩
theorem mz(h:p:=by refine Tt ?_;exact o4):p:=h
theorem n7(k:q)(h:Hk q→p:=by intro qk;refine Z67 ?_;refine R.callUp Tryz.call221 ho (by simp) Bj (Yj l S 8 (A9 l S.i).at_ o _ (A6 ho)) ?_;exact qk.h):p:=h ⟨k⟩
theorem n8(k:q)(h:Hk q→p:=by intro qk;refine U5 ?_;refine E3 ?_;exact qk.h):p:=h ⟨k⟩
theorem an(k:q)(h:Hk q→p:=by intro qk;refine R.nilSl 6 2 ?_;refine Bg ?_;refine R.fin [6, 7] ?_;exact qk.h):p:=h ⟨k⟩
theorem n9(h:p:=by refine Z5 ?_;exact K.fin (V.one (V.cellN jA jS)) ⟨by simp [ht5], rfl⟩):p:=h
theorem ap(k:q)(h:Hk q→p:=by intro qk;refine ai ?_;refine Kb ?_;exact qk.h):p:=h ⟨k⟩
theorem na(h:p:=by refine Z46 ?_;exact K.fin (V.two V.tmp V.tmp) ⟨by rw [hbad], rfl⟩):p:=h
theorem nb(h:p:=by refine D.fieldAddrPtr (fo := 5) jU Tryz.sizeOf43 ?_;exact Gt):p:=h
theorem nd(h:p:=by refine Z30 ?_;exact K.fin (V.one V.tmp) ⟨by rw [hx.eq, hw], rfl⟩):p:=h
theorem nf(k:q)(h:Hk q→p:=by intro qk;refine H.call Tryz.call110 (fun hB => od e.text _) ?_;refine H.fieldAddrRo (off := 5) jU Tryz.sizeOf43 ?_;exact qk.h):p:=h ⟨k⟩
theorem ky(h:p:=by refine D.assign ?_;exact Gt):p:=h
theorem ng(k:q)(h:Hk q→p:=by intro qk;refine W.draw [0, 1, 3, 7, 15, 3, 35, 99, 255, 511, 1023] 8 Ad (by kernel_rfl) ?_;refine D.move ?_;exact qk.h):p:=h ⟨k⟩
theorem nh(h:p:=by refine Z4 ?_;exact b6):p:=h
theorem aq(k:q)(h:Hk q→p:=by intro qk;refine D.assign ?_;refine D.tail ?_;exact qk.h):p:=h ⟨k⟩
theorem Xm(k:q)(h:Hk q→p:=by intro qk;refine B8 ?_;refine Z35 ?_;exact qk.h):p:=h ⟨k⟩
theorem f9(h:p:=by refine K.blN ?_;refine K.thJ ?_;exact StLe.of_eq (by rw [e] <;> rfl)):p:=h
theorem kz(h:p:=by refine D.loadUp jA hm ?_;refine D.loadUp jA hbp ?_;exact Gt):p:=h
theorem ni(k:q)(h:Hk q→p:=by intro qk;refine Z48 ?_;refine W.draw [0, 1, 3, 7, 0, 16, 48, 112, 255, 511, 1023] 8 Ad (by kernel_rfl) ?_;exact qk.h):p:=h ⟨k⟩
theorem Xn(k:q)(h:Hk q→p:=by intro qk;refine R.not ?_;refine Z13 ?_;exact qk.h):p:=h ⟨k⟩
theorem Tx(k:q)(h:Hk q→p:=by intro qk;refine Z15 ?_;refine Z26 ?_;exact qk.h):p:=h ⟨k⟩
theorem fe(k:q)(h:Hk q→p:=by intro qk;refine G.loadOwn jA ?_;refine G.len jU ?_;exact qk.h):p:=h ⟨k⟩
theorem Ty(k:q)(h:Hk q→p:=by intro qk;refine Z6 ?_;refine Z31 ?_;exact qk.h):p:=h ⟨k⟩
theorem Xo(k:q)(h:Hk q→p:=by intro qk;refine Z44 ?_;refine Z46 ?_;exact qk.h):p:=h ⟨k⟩
theorem ff(k:q)(h:Hk q→p:=by intro qk;refine Bg ?_;refine Kb ?_;exact qk.h):p:=h ⟨k⟩
theorem Tz(k:q)(h:Hk q→p:=by intro qk;refine Z7 ?_;refine Z92 ?_;exact qk.h):p:=h ⟨k⟩
theorem fg(k:q)(h:Hk q→p:=by intro qk;refine Z33 ?_;refine R.fin [2, 3, 18] ?_;exact qk.h):p:=h ⟨k⟩
theorem nj(h:p:=by refine Z44 ?_;exact fx):p:=h
theorem nk(k:q)(h:Hk q→p:=by intro qk;refine D.loadUp jA ((Ef n3 n4).trans hbm) ?_;refine D.loadUp jA ((Ef n3 n4).trans hbm) ?_;exact qk.h):p:=h ⟨k⟩
theorem Xp(k:q)(h:Hk q→p:=by intro qk;refine Z11 ?_;refine R.lss ?_;exact qk.h):p:=h ⟨k⟩
theorem ar(k:q)(h:Hk q→p:=by intro qk;refine Z6 ?_;refine Hh ?_;exact qk.h):p:=h ⟨k⟩
theorem fh(h:p:=by refine Z8 ?_;refine Z8 ?_;exact g7):p:=h
theorem U0(k:q)(h:Hk q→p:=by intro qk;refine Z6 ?_;refine Z27 ?_;exact qk.h):p:=h ⟨k⟩
theorem U1(k:q)(h:Hk q→p:=by intro qk;refine Z54 ?_;refine Z0 ?_;exact qk.h):p:=h ⟨k⟩
theorem au(k:q)(h:Hk q→p:=by intro qk;refine Z87 ?_;refine R.fin [0] ?_;exact qk.h):p:=h ⟨k⟩
theorem U3(k:q)(h:Hk q→p:=by intro qk;refine Z36 ?_;refine Z3 ?_;exact qk.h):p:=h ⟨k⟩
theorem fj(h:p:=by refine Z0 ?_;refine Bg ?_;refine R.nilTmp 4 2 false ?_;refine Bg ?_;refine Z70 ?_;exact o4):p:=h
theorem Xq(k:q)(h:Hk q→p:=by intro qk;refine Z11 ?_;refine mt ?_;exact qk.h):p:=h ⟨k⟩
theorem fk(h:p:=by refine Z8 ?_;refine Y.bot (fun B hT => Lv (hT 0 (by simp))) ?_;exact g7):p:=h
theorem Xr(k:q)(h:Hk q→p:=by intro qk;refine Z0 ?_;refine Z51 ?_;exact qk.h):p:=h ⟨k⟩
theorem fl(k:q)(h:Hk q→p:=by intro qk;refine Z90 ?_;refine D.loadUp jA ho ?_;exact qk.h):p:=h ⟨k⟩
theorem Xs(k:q)(h:Hk q→p:=by intro qk;refine Z11 ?_;refine f5 ?_;exact qk.h):p:=h ⟨k⟩
theorem fm(k:q)(h:Hk q→p:=by intro qk;refine Z33 ?_;refine R.fin [2, 22] ?_;exact qk.h):p:=h ⟨k⟩
theorem Xt(h:p:=by exact ⟨rfl, Below.refl _ _⟩):p:=h
theorem B8(k:q)(h:Hk q→p:=by intro qk;refine AW.seqR ?_;exact qk.h):p:=h ⟨k⟩
theorem Bg(k:q)(h:Hk q→p:=by intro qk;refine R.assign ?_;exact qk.h):p:=h ⟨k⟩
theorem U4(k:q)(h:Hk q→p:=by intro qk;refine R.build (places := #[(0, 1), (1, 1), (2, 1)]) jU (fun w => by simp) jZ ?_;exact qk.h):p:=h ⟨k⟩
theorem Fb(k:q)(h:Hk q→p:=by intro qk;refine R.loadOwn jA ?_;exact qk.h):p:=h ⟨k⟩
theorem Av(k:q)(h:Hk q→p:=by intro qk;refine R.move ?_;exact qk.h):p:=h ⟨k⟩
theorem Di(k:q)(h:Hk q→p:=by intro qk;refine R.loadRo jA ?_;exact qk.h):p:=h ⟨k⟩
theorem av(h:p:=by exact K.fin (V.one V.tmp)):p:=h
theorem aw(k:q)(h:Hk q→p:=by intro qk;refine R.fin [0, 1, 5, 7, 8, 16] ?_;exact qk.h):p:=h ⟨k⟩
theorem Kb(k:q)(h:Hk q→p:=by intro qk;refine R.fin [0, 3] ?_;exact qk.h):p:=h ⟨k⟩
theorem Ik(k:q)(h:Hk q→p:=by intro qk;refine R.makeFunc ?_;exact qk.h):p:=h ⟨k⟩
theorem G8(k:q)(h:Hk q→p:=by intro qk;refine R.pickAnd ?_;exact qk.h):p:=h ⟨k⟩
theorem Fw(k:q)(h:Hk q→p:=by intro qk;refine R.pickOr ?_;exact qk.h):p:=h ⟨k⟩
theorem Ge(k:q)(h:Hk q→p:=by intro qk;refine R.fin [2, 3] ?_;exact qk.h):p:=h ⟨k⟩
theorem E3(k:q)(h:Hk q→p:=by intro qk;refine R.storeOwn jS ?_;exact qk.h):p:=h ⟨k⟩
theorem Hh(k:q)(h:Hk q→p:=by intro qk;refine AW.region ?_;exact qk.h):p:=h ⟨k⟩
theorem Gf(k:q)(h:Hk q→p:=by intro qk;refine R.loadRoN jA jS ?_;exact qk.h):p:=h ⟨k⟩
theorem nl(h:p:=by exact K.fin (V.one V.tmp) ⟨by simp only [Fd, hp, ht7, ht14, ht23, ht27, Bool.not_true, Bool.false_eq_true, if_false, if_true]; try rfl, rfl⟩):p:=h
theorem Qb(k:q)(h:Hk q→p:=by intro qk;refine R.loadOwnN jA jS ?_;exact qk.h):p:=h ⟨k⟩
theorem nn(h:p:=by exact K.fin (V.two (V.cellN jA jS) V.tmp) ⟨by simp only [Rt, ht17, if_true, if_false, Bool.false_eq_true]; rfl, rfl⟩):p:=h
theorem Fc(k:q)(h:Hk q→p:=by intro qk;refine AW.block ?_;exact qk.h):p:=h ⟨k⟩
theorem np(h:p:=by exact K.fin (V.four V.tmp V.tmp V.tmp V.tmp) ⟨by simp only [J1, ht11, ht17, if_true, if_false, Bool.false_eq_true]; try rfl, rfl⟩):p:=h
theorem nq(h:p:=by exact K.fin (V.four V.tmp V.tmp V.tmp V.tmp) ⟨by simp only [Mg, ht18, ht23, if_true, if_false, Bool.false_eq_true]; try rfl, rfl⟩):p:=h
theorem nr(h:p:=by exact K.fin (V.four V.tmp V.tmp V.tmp V.tmp) ⟨by simp only [B6, ht6, ht17, ht28, if_true, if_false, Bool.false_eq_true], rfl⟩):p:=h
theorem ax(h:p:=by exact absurd h (by decide)):p:=h
theorem Iy(k:q)(h:Hk q→p:=by intro qk;refine R.alloc jZ ?_;exact qk.h):p:=h ⟨k⟩
theorem Gt(h:p:=by exact D.end rfl rfl):p:=h
theorem fp(k:q)(h:Hk q→p:=by intro qk;refine K.rdR (jp hL (oid_ne (by decide)) (oid_ne (by decide))) ?_;exact qk.h):p:=h ⟨k⟩
theorem Hi(k:q)(h:Hk q→p:=by intro qk;refine R.buildSlice jU jS jZ ?_;exact qk.h):p:=h ⟨k⟩
theorem l4(k:q)(h:Hk q→p:=by intro qk;refine K.rdN (jp hL (oid_ne (by decide)) (oid_ne (by decide))) ?_;exact qk.h):p:=h ⟨k⟩
theorem Rm(k:q)(h:Hk q→p:=by intro qk;refine R.build (places := #[(0, 1), (1, 1)]) jU (fun w => by simp) jZ ?_;exact qk.h):p:=h ⟨k⟩
theorem fq(k:q)(h:Hk q→p:=by intro qk;refine G.fieldAddrRo (off := 2) jU Tryz.sizeOf42 ?_;exact qk.h):p:=h ⟨k⟩
theorem ay(h:p:=by exact ⟨hFRl, by simp [oid]⟩):p:=h
theorem az(h:p:=by exact H8 (fun x hx => ObjLow.le (by omega) (hlow x hx)) hOl x hx):p:=h
theorem fu(k:q)(h:Hk q→p:=by intro qk;refine K.rdN (jo hL (oid_ne (by decide))) ?_;exact qk.h):p:=h ⟨k⟩
theorem U5(k:q)(h:Hk q→p:=by intro qk;refine R.build (places := #[(0, 1), (1, 1), (2, 3), (5, 1)]) jU (fun w => by simp) jZ ?_;exact qk.h):p:=h ⟨k⟩
theorem l5(k:q)(h:Hk q→p:=by intro qk;refine R.indexAddr (x) (Aq c[x]) jU jS (By hlt) ?_;exact qk.h):p:=h ⟨k⟩
theorem U6(k:q)(h:Hk q→p:=by intro qk;refine R.fin [0, 1, 2, 6] ?_;exact qk.h):p:=h ⟨k⟩
theorem Xu(k:q)(h:Hk q→p:=by intro qk;refine R.fin [2, 6, 13, 14, 15] ?_;exact qk.h):p:=h ⟨k⟩
theorem l6(h:p:=by exact K.fin (V.two V.tmp V.tmp) ⟨by rw [hk], rfl⟩):p:=h
theorem nt(h:p:=by exact K.fin (V.two V.tmp V.tmp) ⟨by rw [hk, hk2], rfl⟩):p:=h
theorem fw(k:q)(h:Hk q→p:=by intro qk;refine R.fieldAddrPtr (fo := 3) jU Tryz.sizeOf43 ?_;exact qk.h):p:=h ⟨k⟩
theorem fx(h:p:=by exact K.fin (V.one V.tmp) ⟨by rw [hm], rfl⟩):p:=h
theorem nu(h:p:=by exact K.fin (V.one V.tmp) ⟨by rw [hn]; first | (simp only [ht22, ht25, ht33, ht41, ht41, ht50, ht58, hk3, hk6, Bool.true_or, Bool.false_or, Bool.or_true, Bool.or_false, if_true, if_false, Bool.false_eq_true, ↓reduceIte] <;> rfl) | (simp only [ht22, ht25, ht33, ht41, ht41, ht50, ht58, hk3, Bool.true_or, Bool.false_or, Bool.or_true, if_true, if_false, Bool.false_eq_true, ↓reduceIte] <;> rfl) | (simp only [ht22, ht25, ht33, ht41, ht41, ht50, ht58, if_true, if_false, Bool.false_eq_true, ↓reduceIte] <;> rfl), rfl⟩):p:=h
theorem b6(h:p:=by exact K.fin (V.one V.tmp) ⟨by rw [hm] <;> rfl, rfl⟩):p:=h
theorem g7(h:p:=by exact Y.endBot (Lv rfl)):p:=h
theorem nv(h:p:=by exact ⟨Nat.lt_succ_self i, hl.step hi (by rw [hk]; decide)⟩):p:=h
theorem U7(h:p:=by exact ⟨by omega, c2, c3⟩):p:=h
theorem l7(k:q)(h:Hk q→p:=by intro qk;refine RK.callBad Tryz.call89 (c89 L i o 8 _ (A6 ho) hi) ?_;exact qk.h):p:=h ⟨k⟩
theorem nw(h:p:=by exact K.finPP ⟨_, _, by unfold Jz; rw [hT]; rfl, rfl, j', m, Vc hne hm⟩):p:=h
theorem nx(h:p:=by exact (dt L i o _ (A6 (Aw ho hne)) hi hl hll).ok hT):p:=h
theorem b7(k:q)(h:Hk q→p:=by intro qk;refine AW.upEq (K5 ho hm).symm ?_;exact qk.h):p:=h ⟨k⟩
theorem ny(k:q)(h:Hk q→p:=by intro qk;refine RK.callBad Tryz.call155 ((Vd L m i o om (U2 L Hp o om i (mvO m) ++ [.cells 94 [.ptr o 0], .cells 155 [.ptr om 0]]) hne (A6 (Aw ho hne)) (A6 (Bu hm)) hi hl hll hb).bad h1) ?_;exact qk.h):p:=h ⟨k⟩
theorem nz(h:p:=by exact K.fin (V.one V.tmp) ⟨by simp_all [Gb, Ov], rfl⟩):p:=h
theorem o4(h:p:=by exact K.fin (V.two V.tmp V.tmp) ⟨by rw [hm] <;> rfl, rfl⟩):p:=h
end Go.SX.Nb
namespace Go.SX.Nb
open Go Go.SX Go.Proofs
set_option maxRecDepth 4000

/-- Where strconv.ErrRange points. -/
class ErrAt where
 b : Addr
 bd : Nat := 0
 bl : List Deferred := []
/-- The package-level variables of which something is known: bytealg.MaxLen is a number; strconv.ErrRange is an error of errors.New's make; the table of powers of ten. -/
def Oh [E : ErrAt] : List (Nat × (Obj → Prop)) := [(0, fun o => ∃ m t f, o = .cells #[.int .i64 m] t f), (1, fun o => ∃ t f, o = .cells #[.iface 271 (.pointer (some E.b))] t f), (4, fun o => ∃ t f, o = .cells (Lib.pow10Tab.map fun z => Value.int .u64 z).toArray t f)]
instance globInv [E : ErrAt] : GlobInv := { blocks := Oh, bd := E.bd, bl := E.bl }
variable [ErrAt]

abbrev Str := List UInt8
structure Col where
 name : Str
 kind : Int
 deriving DecidableEq
structure Val where
 kind : Int
 n : Int
 s : Str
 deriving DecidableEq
structure Row where
 key : Int
 l : List Val
 deriving DecidableEq
abbrev Aa (s : Str) : AV := .v (sv s)
abbrev A4 (n : Int) : AV := .v (.int .i64 n)
abbrev Ar (b : Bool) : AV := .v (.bool b)
abbrev Aq (c : Col) : AV := .agg [.v (sv c.name), .v (.int .i64 c.kind)]
abbrev Af (c : List Col) : AV := .slice false 2 (c.map Aq)
abbrev O1 (v : Val) : AV := .agg [.v (.int .i64 v.kind), .v (.int .i64 v.n), .v (sv v.s)]
abbrev E8 (l : List Str) : AV := .slice false 1 (l.map Aa)
theorem By {α β : Type} {f : α → β} {l : List α} {i : Nat} (h : i < l.length) : (l.map f)[i]? = some (f l[i]) := by simp [h]
theorem Ad : Tryz.prog.follows .mixedOrders = true := by kernel_rfl
theorem l8 : Tryz.prog.eqGuardType Tryz.prog.depth 42 = false := by kernel_rfl
theorem Qc (k n k' n' : Int) (s s' : List UInt8) (w : World) : (Op.equal 42 (.agg #[.int .i64 k, .int .i64 n, .string ⟨s.toArray⟩]) (.agg #[.int .i64 k', .int .i64 n', .string ⟨s'.toArray⟩])).run Tryz.prog w = .ok (k == k' && n == n' && s == s') w := by
 have h1 : Tryz.prog.stoodInHeld 42 = false := by kernel_rfl
 show (Op.equalIn (9999 + 1) _ _ _).run _ _ = _
 rw [Op.equalIn]
 generalize hd : (9999 : Nat) = d
 obtain ⟨d, rfl⟩ : ∃ e, d = e + 1 := ⟨9998, hd.symm⟩
 clear hd
 simp [run_underlying Tryz.underlying42, h1, part, Zx _ _ _ _ _ _ Tryz.underlying3, Zx _ _ _ _ _ _ Tryz.underlying2, jn _ _ _ _ _ Tryz.underlying9, Tryz.isAgg3, Tryz.isAgg2, Tryz.isAgg9]
 by_cases e1 : k = k' <;> by_cases e2 : n = n' <;> by_cases e3 : s = s' <;> simp [e1, e2, e3]
end Go.SX.Nb
namespace Go.Proofs
open Go Go.Shelf
def Tryz.ren144 : Ren where
 f := fun x => match x with | 144 => 142 | 143 => 169 | 219 => 183 | 217 => 197 | 225 => 201 | 224 => 202 | 267 => 203 | 266 => 218 | 314 => 222 | n => n
 t := fun x => match x with | 9 => 9 | 4 => 4 | 3 => 3 | 5 => 5 | 46 => 208 | 146 => 229 | 51 => 228 | n => n
 g := fun x => match x with | 1 => 0 | n => n
theorem Tryz.lays144 : Lays.n144 Tryz.prog Tryz.ren144 where
 mixed := by kernel_rfl
 f143 := Tryz.func169
 f144 := Tryz.func142
 f217 := Tryz.func197
 f219 := Tryz.func183
 f224 := Tryz.func202
 f225 := Tryz.func201
 f266 := Tryz.func218
 f267 := Tryz.func203
 f314 := Tryz.func222
 t3 := Tryz.underlying3
 a3 := Tryz.isAgg3
 z3 := Tryz.sizeOf3
 v3 := Tryz.zeroValue3
 t4 := Tryz.underlying4
 a4 := Tryz.isAgg4
 z4 := Tryz.sizeOf4
 v4 := Tryz.zeroValue4
 t5 := Tryz.underlying5
 a5 := Tryz.isAgg5
 z5 := Tryz.sizeOf5
 v5 := Tryz.zeroValue5
 t9 := Tryz.underlying9
 a9 := Tryz.isAgg9
 z9 := Tryz.sizeOf9
 v9 := Tryz.zeroValue9
 t46 := Tryz.underlying208
 a46 := Tryz.isAgg208
 z46 := Tryz.sizeOf208
 v46 := Tryz.zeroValue208
 t51 := Tryz.underlying228
 a51 := Tryz.isAgg228
 z51 := Tryz.sizeOf228
 v51 := Tryz.zeroValue228
 t146 := Tryz.underlying229
 a146 := Tryz.isAgg229
 z146 := Tryz.sizeOf229
 v146 := Tryz.zeroValue229
 g1 := by kernel_rfl
def Tryz.ren145 : Ren where
 f := fun x => match x with | 145 => 143 | 220 => 174 | 219 => 183 | 217 => 197 | 225 => 201 | 224 => 202 | 267 => 203 | 266 => 218 | 314 => 222 | n => n
 t := fun x => match x with | 9 => 9 | 4 => 4 | 59 => 168 | 3 => 3 | 5 => 5 | 46 => 208 | 146 => 229 | 51 => 228 | n => n
 g := fun x => match x with | 1 => 0 | n => n
theorem Tryz.lays145 : Lays.n145 Tryz.prog Tryz.ren145 where
 mixed := by kernel_rfl
 f145 := Tryz.func143
 f217 := Tryz.func197
 f219 := Tryz.func183
 f220 := Tryz.func174
 f224 := Tryz.func202
 f225 := Tryz.func201
 f266 := Tryz.func218
 f267 := Tryz.func203
 f314 := Tryz.func222
 t3 := Tryz.underlying3
 a3 := Tryz.isAgg3
 z3 := Tryz.sizeOf3
 v3 := Tryz.zeroValue3
 t4 := Tryz.underlying4
 a4 := Tryz.isAgg4
 z4 := Tryz.sizeOf4
 v4 := Tryz.zeroValue4
 t5 := Tryz.underlying5
 a5 := Tryz.isAgg5
 z5 := Tryz.sizeOf5
 v5 := Tryz.zeroValue5
 t9 := Tryz.underlying9
 a9 := Tryz.isAgg9
 z9 := Tryz.sizeOf9
 v9 := Tryz.zeroValue9
 t46 := Tryz.underlying208
 a46 := Tryz.isAgg208
 z46 := Tryz.sizeOf208
 v46 := Tryz.zeroValue208
 t51 := Tryz.underlying228
 a51 := Tryz.isAgg228
 z51 := Tryz.sizeOf228
 v51 := Tryz.zeroValue228
 t59 := Tryz.underlying168
 a59 := Tryz.isAgg168
 z59 := Tryz.sizeOf168
 v59 := Tryz.zeroValue168
 t146 := Tryz.underlying229
 a146 := Tryz.isAgg229
 z146 := Tryz.sizeOf229
 v146 := Tryz.zeroValue229
 g1 := by kernel_rfl
def Tryz.ren146 : Ren where
 f := fun x => match x with | 146 => 100 | 221 => 135 | 268 => 167 | 138 => 168 | 143 => 169 | 195 => 180 | 197 => 181 | 218 => 182 | 219 => 183 | 260 => 200 | 217 => 197 | 225 => 201 | 224 => 202 | 267 => 203 | 266 => 218 | 314 => 222 | n => n
 t := fun x => match x with | 9 => 9 | 31 => 37 | 3 => 3 | 4 => 4 | 0 => 0 | 105 => 190 | 21 => 21 | 5 => 5 | 46 => 208 | 119 => 224 | 139 => 227 | 138 => 226 | 146 => 229 | 51 => 228 | n => n
 g := fun x => match x with | 1 => 0 | 3 => 2 | 4 => 3 | n => n
theorem Tryz.lays146 : Lays.n146 Tryz.prog Tryz.ren146 where
 mixed := by kernel_rfl
 f138 := Tryz.func168
 f143 := Tryz.func169
 f146 := Tryz.func100
 f195 := Tryz.func180
 f197 := Tryz.func181
 f217 := Tryz.func197
 f218 := Tryz.func182
 f219 := Tryz.func183
 f221 := Tryz.func135
 f224 := Tryz.func202
 f225 := Tryz.func201
 f260 := Tryz.func200
 f266 := Tryz.func218
 f267 := Tryz.func203
 f268 := Tryz.func167
 f314 := Tryz.func222
 t0 := Tryz.underlying0
 a0 := Tryz.isAgg0
 z0 := Tryz.sizeOf0
 v0 := Tryz.zeroValue0
 t3 := Tryz.underlying3
 a3 := Tryz.isAgg3
 z3 := Tryz.sizeOf3
 v3 := Tryz.zeroValue3
 t4 := Tryz.underlying4
 a4 := Tryz.isAgg4
 z4 := Tryz.sizeOf4
 v4 := Tryz.zeroValue4
 t5 := Tryz.underlying5
 a5 := Tryz.isAgg5
 z5 := Tryz.sizeOf5
 v5 := Tryz.zeroValue5
 t9 := Tryz.underlying9
 a9 := Tryz.isAgg9
 z9 := Tryz.sizeOf9
 v9 := Tryz.zeroValue9
 t21 := Tryz.underlying21
 a21 := Tryz.isAgg21
 z21 := Tryz.sizeOf21
 v21 := Tryz.zeroValue21
 t31 := Tryz.underlying37
 a31 := Tryz.isAgg37
 z31 := Tryz.sizeOf37
 v31 := Tryz.zeroValue37
 t46 := Tryz.underlying208
 a46 := Tryz.isAgg208
 z46 := Tryz.sizeOf208
 v46 := Tryz.zeroValue208
 t51 := Tryz.underlying228
 a51 := Tryz.isAgg228
 z51 := Tryz.sizeOf228
 v51 := Tryz.zeroValue228
 t105 := Tryz.underlying190
 a105 := Tryz.isAgg190
 z105 := Tryz.sizeOf190
 v105 := Tryz.zeroValue190
 t119 := Tryz.underlying224
 a119 := Tryz.isAgg224
 z119 := Tryz.sizeOf224
 t138 := Tryz.underlying226
 a138 := Tryz.isAgg226
 z138 := Tryz.sizeOf226
 v138 := Tryz.zeroValue226
 t139 := Tryz.underlying227
 a139 := Tryz.isAgg227
 z139 := Tryz.sizeOf227
 v139 := Tryz.zeroValue227
 t146 := Tryz.underlying229
 a146 := Tryz.isAgg229
 z146 := Tryz.sizeOf229
 v146 := Tryz.zeroValue229
 g1 := by kernel_rfl
 g3 := by kernel_rfl
 g4 := by kernel_rfl
def Tryz.ren161 : Ren where
 f := fun x => match x with | 161 => 173 | 231 => 186 | 227 => 187 | 233 => 188 | 235 => 189 | 228 => 209 | 197 => 181 | 151 => 210 | 260 => 200 | 152 => 229 | 137 => 176 | 119 => 242 | 224 => 202 | 225 => 201 | 217 => 197 | 266 => 218 | n => n
 t := fun x => match x with | 9 => 9 | 4 => 4 | 3 => 3 | 5 => 5 | 117 => 196 | 116 => 195 | 0 => 0 | 124 => 199 | 105 => 190 | 21 => 21 | 119 => 224 | 46 => 208 | 139 => 227 | 138 => 226 | n => n
 g := fun x => match x with | 3 => 2 | 4 => 3 | n => n
theorem Tryz.lays161 : Lays.n161 Tryz.prog Tryz.ren161 where
 mixed := by kernel_rfl
 f119 := Tryz.func242
 f137 := Tryz.func176
 f151 := Tryz.func210
 f152 := Tryz.func229
 f161 := Tryz.func173
 f197 := Tryz.func181
 f217 := Tryz.func197
 f224 := Tryz.func202
 f225 := Tryz.func201
 f227 := Tryz.func187
 f228 := Tryz.func209
 f231 := Tryz.func186
 f233 := Tryz.func188
 f235 := Tryz.func189
 f260 := Tryz.func200
 f266 := Tryz.func218
 t0 := Tryz.underlying0
 a0 := Tryz.isAgg0
 z0 := Tryz.sizeOf0
 v0 := Tryz.zeroValue0
 t3 := Tryz.underlying3
 a3 := Tryz.isAgg3
 z3 := Tryz.sizeOf3
 v3 := Tryz.zeroValue3
 t4 := Tryz.underlying4
 a4 := Tryz.isAgg4
 z4 := Tryz.sizeOf4
 v4 := Tryz.zeroValue4
 t5 := Tryz.underlying5
 a5 := Tryz.isAgg5
 z5 := Tryz.sizeOf5
 v5 := Tryz.zeroValue5
 t9 := Tryz.underlying9
 a9 := Tryz.isAgg9
 z9 := Tryz.sizeOf9
 v9 := Tryz.zeroValue9
 t21 := Tryz.underlying21
 a21 := Tryz.isAgg21
 z21 := Tryz.sizeOf21
 v21 := Tryz.zeroValue21
 t46 := Tryz.underlying208
 a46 := Tryz.isAgg208
 z46 := Tryz.sizeOf208
 v46 := Tryz.zeroValue208
 t105 := Tryz.underlying190
 a105 := Tryz.isAgg190
 z105 := Tryz.sizeOf190
 v105 := Tryz.zeroValue190
 t116 := Tryz.underlying195
 a116 := Tryz.isAgg195
 z116 := Tryz.sizeOf195
 t117 := Tryz.underlying196
 a117 := Tryz.isAgg196
 z117 := Tryz.sizeOf196
 v117 := Tryz.zeroValue196
 t119 := Tryz.underlying224
 a119 := Tryz.isAgg224
 z119 := Tryz.sizeOf224
 t124 := Tryz.underlying199
 a124 := Tryz.isAgg199
 z124 := Tryz.sizeOf199
 v124 := Tryz.zeroValue199
 t138 := Tryz.underlying226
 a138 := Tryz.isAgg226
 z138 := Tryz.sizeOf226
 v138 := Tryz.zeroValue226
 t139 := Tryz.underlying227
 a139 := Tryz.isAgg227
 z139 := Tryz.sizeOf227
 v139 := Tryz.zeroValue227
 g3 := by kernel_rfl
 g4 := by kernel_rfl
def Tryz.ren99 : Ren where
 f := fun x => match x with | 99 => 192 | 206 => 211 | n => n
 t := fun x => match x with | 9 => 9 | 4 => 4 | 3 => 3 | n => n
 g := fun x => x
theorem Tryz.lays99 : Lays.n99 Tryz.prog Tryz.ren99 where
 mixed := by kernel_rfl
 f99 := Tryz.func192
 f206 := Tryz.func211
 t3 := Tryz.underlying3
 a3 := Tryz.isAgg3
 z3 := Tryz.sizeOf3
 v3 := Tryz.zeroValue3
 t4 := Tryz.underlying4
 a4 := Tryz.isAgg4
 z4 := Tryz.sizeOf4
 v4 := Tryz.zeroValue4
 t9 := Tryz.underlying9
 a9 := Tryz.isAgg9
 z9 := Tryz.sizeOf9
 v9 := Tryz.zeroValue9
def Tryz.ren100 : Ren where
 f := fun x => match x with | 100 => 193 | 207 => 212 | n => n
 t := fun x => match x with | 9 => 9 | 4 => 4 | 3 => 3 | n => n
 g := fun x => x
theorem Tryz.lays100 : Lays.n100 Tryz.prog Tryz.ren100 where
 mixed := by kernel_rfl
 f100 := Tryz.func193
 f207 := Tryz.func212
 t3 := Tryz.underlying3
 a3 := Tryz.isAgg3
 z3 := Tryz.sizeOf3
 v3 := Tryz.zeroValue3
 t4 := Tryz.underlying4
 a4 := Tryz.isAgg4
 z4 := Tryz.sizeOf4
 v4 := Tryz.zeroValue4
 t9 := Tryz.underlying9
 a9 := Tryz.isAgg9
 z9 := Tryz.sizeOf9
 v9 := Tryz.zeroValue9
def Tryz.ren101 : Ren where
 f := fun x => match x with | 101 => 214 | 208 => 230 | 206 => 211 | n => n
 t := fun x => match x with | 9 => 9 | 4 => 4 | 3 => 3 | n => n
 g := fun x => x
theorem Tryz.lays101 : Lays.n101 Tryz.prog Tryz.ren101 where
 mixed := by kernel_rfl
 f101 := Tryz.func214
 f206 := Tryz.func211
 f208 := Tryz.func230
 t3 := Tryz.underlying3
 a3 := Tryz.isAgg3
 z3 := Tryz.sizeOf3
 v3 := Tryz.zeroValue3
 t4 := Tryz.underlying4
 a4 := Tryz.isAgg4
 z4 := Tryz.sizeOf4
 v4 := Tryz.zeroValue4
 t9 := Tryz.underlying9
 a9 := Tryz.isAgg9
 z9 := Tryz.sizeOf9
 v9 := Tryz.zeroValue9
def Tryz.ren160 : Ren where
 f := fun x => match x with | 160 => 215 | 232 => 231 | 231 => 186 | 227 => 187 | 234 => 232 | 233 => 188 | 236 => 233 | 235 => 189 | 228 => 209 | 271 => 243 | 151 => 210 | 197 => 181 | 120 => 252 | 152 => 229 | 260 => 200 | 137 => 176 | 119 => 242 | 224 => 202 | 225 => 201 | 217 => 197 | 266 => 218 | n => n
 t := fun x => match x with | 9 => 9 | 4 => 4 | 3 => 3 | 5 => 5 | 117 => 196 | 116 => 195 | 0 => 0 | 124 => 199 | 21 => 21 | 105 => 190 | 46 => 208 | 119 => 224 | 139 => 227 | 138 => 226 | n => n
 g := fun x => match x with | 3 => 2 | 4 => 3 | n => n
theorem Tryz.lays160 : Lays.n160 Tryz.prog Tryz.ren160 where
 mixed := by kernel_rfl
 f119 := Tryz.func242
 f120 := Tryz.func252
 f137 := Tryz.func176
 f151 := Tryz.func210
 f152 := Tryz.func229
 f160 := Tryz.func215
 f197 := Tryz.func181
 f217 := Tryz.func197
 f224 := Tryz.func202
 f225 := Tryz.func201
 f227 := Tryz.func187
 f228 := Tryz.func209
 f231 := Tryz.func186
 f232 := Tryz.func231
 f233 := Tryz.func188
 f234 := Tryz.func232
 f235 := Tryz.func189
 f236 := Tryz.func233
 f260 := Tryz.func200
 f266 := Tryz.func218
 f271 := Tryz.func243
 t0 := Tryz.underlying0
 a0 := Tryz.isAgg0
 z0 := Tryz.sizeOf0
 v0 := Tryz.zeroValue0
 t3 := Tryz.underlying3
 a3 := Tryz.isAgg3
 z3 := Tryz.sizeOf3
 v3 := Tryz.zeroValue3
 t4 := Tryz.underlying4
 a4 := Tryz.isAgg4
 z4 := Tryz.sizeOf4
 v4 := Tryz.zeroValue4
 t5 := Tryz.underlying5
 a5 := Tryz.isAgg5
 z5 := Tryz.sizeOf5
 v5 := Tryz.zeroValue5
 t9 := Tryz.underlying9
 a9 := Tryz.isAgg9
 z9 := Tryz.sizeOf9
 v9 := Tryz.zeroValue9
 t21 := Tryz.underlying21
 a21 := Tryz.isAgg21
 z21 := Tryz.sizeOf21
 v21 := Tryz.zeroValue21
 t46 := Tryz.underlying208
 a46 := Tryz.isAgg208
 z46 := Tryz.sizeOf208
 v46 := Tryz.zeroValue208
 t105 := Tryz.underlying190
 a105 := Tryz.isAgg190
 z105 := Tryz.sizeOf190
 v105 := Tryz.zeroValue190
 t116 := Tryz.underlying195
 a116 := Tryz.isAgg195
 z116 := Tryz.sizeOf195
 t117 := Tryz.underlying196
 a117 := Tryz.isAgg196
 z117 := Tryz.sizeOf196
 v117 := Tryz.zeroValue196
 t119 := Tryz.underlying224
 a119 := Tryz.isAgg224
 z119 := Tryz.sizeOf224
 t124 := Tryz.underlying199
 a124 := Tryz.isAgg199
 z124 := Tryz.sizeOf199
 v124 := Tryz.zeroValue199
 t138 := Tryz.underlying226
 a138 := Tryz.isAgg226
 z138 := Tryz.sizeOf226
 v138 := Tryz.zeroValue226
 t139 := Tryz.underlying227
 a139 := Tryz.isAgg227
 z139 := Tryz.sizeOf227
 v139 := Tryz.zeroValue227
 g3 := by kernel_rfl
 g4 := by kernel_rfl
def Tryz.ren155 : Ren where
 f := fun x => match x with | 155 => 139 | 154 => 172 | 138 => 168 | 165 => 185 | 143 => 169 | 166 => 102 | 197 => 181 | 169 => 73 | 195 => 180 | 218 => 182 | 240 => 137 | 241 => 208 | 219 => 183 | 260 => 200 | 276 => 170 | 277 => 228 | 217 => 197 | 225 => 201 | 224 => 202 | 267 => 203 | 266 => 218 | 314 => 222 | n => n
 t := fun x => match x with | 9 => 9 | 3 => 3 | 4 => 4 | 72 => 107 | 0 => 0 | 76 => 134 | 105 => 190 | 21 => 21 | 5 => 5 | 70 => 104 | 20 => 20 | 37 => 105 | 75 => 133 | 127 => 138 | 164 => 179 | 46 => 208 | 119 => 224 | 139 => 227 | 138 => 226 | 146 => 229 | 51 => 228 | 80 => 112 | n => n
 g := fun x => match x with | 1 => 0 | 3 => 2 | 4 => 3 | n => n
theorem Tryz.lays155 : Lays.n155 Tryz.prog Tryz.ren155 where
 mixed := by kernel_rfl
 f138 := Tryz.func168
 f143 := Tryz.func169
 f154 := Tryz.func172
 f155 := Tryz.func139
 f165 := Tryz.func185
 f166 := Tryz.func102
 f169 := Tryz.func73
 f195 := Tryz.func180
 f197 := Tryz.func181
 f217 := Tryz.func197
 f218 := Tryz.func182
 f219 := Tryz.func183
 f224 := Tryz.func202
 f225 := Tryz.func201
 f240 := Tryz.func137
 f241 := Tryz.func208
 f260 := Tryz.func200
 f266 := Tryz.func218
 f267 := Tryz.func203
 f276 := Tryz.func170
 f277 := Tryz.func228
 f314 := Tryz.func222
 t0 := Tryz.underlying0
 a0 := Tryz.isAgg0
 z0 := Tryz.sizeOf0
 v0 := Tryz.zeroValue0
 t3 := Tryz.underlying3
 a3 := Tryz.isAgg3
 z3 := Tryz.sizeOf3
 v3 := Tryz.zeroValue3
 t4 := Tryz.underlying4
 a4 := Tryz.isAgg4
 z4 := Tryz.sizeOf4
 v4 := Tryz.zeroValue4
 t5 := Tryz.underlying5
 a5 := Tryz.isAgg5
 z5 := Tryz.sizeOf5
 v5 := Tryz.zeroValue5
 t9 := Tryz.underlying9
 a9 := Tryz.isAgg9
 z9 := Tryz.sizeOf9
 v9 := Tryz.zeroValue9
 t20 := Tryz.underlying20
 a20 := Tryz.isAgg20
 z20 := Tryz.sizeOf20
 v20 := Tryz.zeroValue20
 t21 := Tryz.underlying21
 a21 := Tryz.isAgg21
 z21 := Tryz.sizeOf21
 v21 := Tryz.zeroValue21
 t37 := Tryz.underlying105
 a37 := Tryz.isAgg105
 z37 := Tryz.sizeOf105
 v37 := Tryz.zeroValue105
 t46 := Tryz.underlying208
 a46 := Tryz.isAgg208
 z46 := Tryz.sizeOf208
 v46 := Tryz.zeroValue208
 t51 := Tryz.underlying228
 a51 := Tryz.isAgg228
 z51 := Tryz.sizeOf228
 v51 := Tryz.zeroValue228
 t70 := Tryz.underlying104
 a70 := Tryz.isAgg104
 z70 := Tryz.sizeOf104
 v70 := Tryz.zeroValue104
 t72 := Tryz.underlying107
 a72 := Tryz.isAgg107
 z72 := Tryz.sizeOf107
 v72 := Tryz.zeroValue107
 t75 := Tryz.underlying133
 a75 := Tryz.isAgg133
 z75 := Tryz.sizeOf133
 v75 := Tryz.zeroValue133
 t76 := Tryz.underlying134
 a76 := Tryz.isAgg134
 z76 := Tryz.sizeOf134
 v76 := Tryz.zeroValue134
 t105 := Tryz.underlying190
 a105 := Tryz.isAgg190
 z105 := Tryz.sizeOf190
 v105 := Tryz.zeroValue190
 t119 := Tryz.underlying224
 a119 := Tryz.isAgg224
 z119 := Tryz.sizeOf224
 t127 := Tryz.underlying138
 a127 := Tryz.isAgg138
 z127 := Tryz.sizeOf138
 v127 := Tryz.zeroValue138
 t138 := Tryz.underlying226
 a138 := Tryz.isAgg226
 z138 := Tryz.sizeOf226
 v138 := Tryz.zeroValue226
 t139 := Tryz.underlying227
 a139 := Tryz.isAgg227
 z139 := Tryz.sizeOf227
 v139 := Tryz.zeroValue227
 t146 := Tryz.underlying229
 a146 := Tryz.isAgg229
 z146 := Tryz.sizeOf229
 v146 := Tryz.zeroValue229
 t164 := Tryz.underlying179
 a164 := Tryz.isAgg179
 z164 := Tryz.sizeOf179
 v164 := Tryz.zeroValue179
 g1 := by kernel_rfl
 g3 := by kernel_rfl
 g4 := by kernel_rfl
def Tryz.ren174 : Ren where
 f := fun x => match x with | 174 => 216 | 247 => 234 | 245 => 235 | 287 => 244 | 279 => 245 | 280 => 246 | 281 => 247 | 282 => 248 | 321 => 253 | 322 => 254 | 316 => 255 | 171 => 257 | 205 => 256 | 243 => 261 | 246 => 184 | 283 => 204 | 284 => 205 | 285 => 206 | 286 => 207 | 129 => 224 | 317 => 223 | 318 => 225 | 319 => 226 | 320 => 227 | 337 => 240 | 338 => 241 | n => n
 t := fun x => match x with | 9 => 9 | 3 => 3 | 2 => 2 | 75 => 133 | 85 => 217 | 4 => 4 | 167 => 246 | 5 => 5 | 53 => 210 | 175 => 247 | 46 => 208 | 168 => 249 | 37 => 105 | 0 => 0 | 210 => 268 | 21 => 21 | 127 => 138 | 145 => 273 | 143 => 271 | 171 => 209 | 173 => 213 | 212 => 232 | 51 => 228 | 20 => 20 | 213 => 233 | 232 => 263 | 233 => 264 | 80 => 112 | n => n
 g := fun x => match x with | 15 => 7 | 16 => 1 | 17 => 4 | 18 => 5 | 19 => 6 | n => n
theorem Tryz.lays174 : LaysC.n174 Tryz.prog Tryz.ren174 where
 mixed := by kernel_rfl
 f129 := Tryz.func224
 f171 := Tryz.func257
 f174 := Tryz.func216
 f205 := Tryz.func256
 f243 := Tryz.func261
 f245 := Tryz.func235
 f246 := Tryz.func184
 f247 := Tryz.func234
 f279 := Tryz.func245
 f280 := Tryz.func246
 f281 := Tryz.func247
 f282 := Tryz.func248
 f283 := Tryz.func204
 f284 := Tryz.func205
 f285 := Tryz.func206
 f286 := Tryz.func207
 f287 := Tryz.func244
 f316 := Tryz.func255
 f317 := Tryz.func223
 f318 := Tryz.func225
 f319 := Tryz.func226
 f320 := Tryz.func227
 f321 := Tryz.func253
 f322 := Tryz.func254
 f337 := Tryz.func240
 f338 := Tryz.func241
 t0 := Tryz.underlying0
 a0 := Tryz.isAgg0
 z0 := Tryz.sizeOf0
 v0 := Tryz.zeroValue0
 t2 := Tryz.underlying2
 a2 := Tryz.isAgg2
 z2 := Tryz.sizeOf2
 v2 := Tryz.zeroValue2
 t3 := Tryz.underlying3
 a3 := Tryz.isAgg3
 z3 := Tryz.sizeOf3
 v3 := Tryz.zeroValue3
 t4 := Tryz.underlying4
 a4 := Tryz.isAgg4
 z4 := Tryz.sizeOf4
 v4 := Tryz.zeroValue4
 t5 := Tryz.underlying5
 a5 := Tryz.isAgg5
 z5 := Tryz.sizeOf5
 v5 := Tryz.zeroValue5
 t9 := Tryz.underlying9
 a9 := Tryz.isAgg9
 z9 := Tryz.sizeOf9
 v9 := Tryz.zeroValue9
 t20 := Tryz.underlying20
 a20 := Tryz.isAgg20
 z20 := Tryz.sizeOf20
 v20 := Tryz.zeroValue20
 t21 := Tryz.underlying21
 a21 := Tryz.isAgg21
 z21 := Tryz.sizeOf21
 v21 := Tryz.zeroValue21
 t37 := Tryz.underlying105
 a37 := Tryz.isAgg105
 z37 := Tryz.sizeOf105
 v37 := Tryz.zeroValue105
 t46 := Tryz.underlying208
 a46 := Tryz.isAgg208
 z46 := Tryz.sizeOf208
 v46 := Tryz.zeroValue208
 t51 := Tryz.underlying228
 a51 := Tryz.isAgg228
 z51 := Tryz.sizeOf228
 v51 := Tryz.zeroValue228
 t53 := Tryz.underlying210
 a53 := Tryz.isAgg210
 z53 := Tryz.sizeOf210
 v53 := Tryz.zeroValue210
 t75 := Tryz.underlying133
 a75 := Tryz.isAgg133
 z75 := Tryz.sizeOf133
 v75 := Tryz.zeroValue133
 t85 := Tryz.underlying217
 a85 := Tryz.isAgg217
 z85 := Tryz.sizeOf217
 v85 := Tryz.zeroValue217
 t127 := Tryz.underlying138
 a127 := Tryz.isAgg138
 z127 := Tryz.sizeOf138
 v127 := Tryz.zeroValue138
 t143 := Tryz.underlying271
 a143 := Tryz.isAgg271
 z143 := Tryz.sizeOf271
 v143 := Tryz.zeroValue271
 t145 := Tryz.underlying273
 a145 := Tryz.isAgg273
 z145 := Tryz.sizeOf273
 v145 := Tryz.zeroValue273
 t167 := Tryz.underlying246
 a167 := Tryz.isAgg246
 z167 := Tryz.sizeOf246
 v167 := Tryz.zeroValue246
 t168 := Tryz.underlying249
 a168 := Tryz.isAgg249
 z168 := Tryz.sizeOf249
 v168 := Tryz.zeroValue249
 t171 := Tryz.underlying209
 a171 := Tryz.isAgg209
 z171 := Tryz.sizeOf209
 v171 := Tryz.zeroValue209
 t173 := Tryz.underlying213
 a173 := Tryz.isAgg213
 z173 := Tryz.sizeOf213
 v173 := Tryz.zeroValue213
 t175 := Tryz.underlying247
 a175 := Tryz.isAgg247
 z175 := Tryz.sizeOf247
 v175 := Tryz.zeroValue247
 t210 := Tryz.underlying268
 a210 := Tryz.isAgg268
 z210 := Tryz.sizeOf268
 v210 := Tryz.zeroValue268
 t212 := Tryz.underlying232
 a212 := Tryz.isAgg232
 z212 := Tryz.sizeOf232
 v212 := Tryz.zeroValue232
 t213 := Tryz.underlying233
 a213 := Tryz.isAgg233
 z213 := Tryz.sizeOf233
 t232 := Tryz.underlying263
 a232 := Tryz.isAgg263
 z232 := Tryz.sizeOf263
 v232 := Tryz.zeroValue263
 t233 := Tryz.underlying264
 a233 := Tryz.isAgg264
 z233 := Tryz.sizeOf264
 v233 := Tryz.zeroValue264
 g15 := by kernel_rfl
 g16 := by kernel_rfl
 g17 := by kernel_rfl
 g18 := by kernel_rfl
 g19 := by kernel_rfl
 t80 := Tryz.underlying112
 a80 := Tryz.isAgg112
 z80 := Tryz.sizeOf112
 v80 := Tryz.zeroValue112
 i0 := by kernel_rfl
 i2 := by kernel_rfl
 i3 := by kernel_rfl
 i4 := by kernel_rfl
 i5 := by kernel_rfl
 i9 := by kernel_rfl
 i20 := by kernel_rfl
 i21 := by kernel_rfl
 i37 := by kernel_rfl
 i46 := by kernel_rfl
 i51 := by kernel_rfl
 i53 := by kernel_rfl
 i75 := by kernel_rfl
 i80 := by kernel_rfl
 i85 := by kernel_rfl
 i127 := by kernel_rfl
 i143 := by kernel_rfl
 i145 := by kernel_rfl
 i167 := by kernel_rfl
 i168 := by kernel_rfl
 i171 := by kernel_rfl
 i173 := by kernel_rfl
 i175 := by kernel_rfl
 i210 := by kernel_rfl
 i212 := by kernel_rfl
 i232 := by kernel_rfl
 i233 := by kernel_rfl
 m15 := by kernel_rfl
 m16 := by kernel_rfl
 m17 := by kernel_rfl
 m18 := by kernel_rfl
 m19 := by kernel_rfl
 c0 := by kernel_rfl
 c2 := by kernel_rfl
 c3 := by kernel_rfl
 c4 := by kernel_rfl
 c5 := by kernel_rfl
 c9 := by kernel_rfl
 c20 := by kernel_rfl
 c21 := by kernel_rfl
 c37 := by kernel_rfl
 c46 := by kernel_rfl
 c51 := by kernel_rfl
 c53 := by kernel_rfl
 c75 := by kernel_rfl
 c80 := by kernel_rfl
 c85 := by kernel_rfl
 c127 := by kernel_rfl
 c143 := by kernel_rfl
 c145 := by kernel_rfl
 c167 := by kernel_rfl
 c168 := by kernel_rfl
 c171 := by kernel_rfl
 c173 := by kernel_rfl
 c175 := by kernel_rfl
 c210 := by kernel_rfl
 c212 := by kernel_rfl
 c213 := by kernel_rfl
 c232 := by kernel_rfl
 c233 := by kernel_rfl
def Tryz.ren173 : Ren where
 f := fun x => match x with | 173 => 171 | 246 => 184 | 283 => 204 | 284 => 205 | 285 => 206 | 286 => 207 | 129 => 224 | 317 => 223 | 318 => 225 | 319 => 226 | 320 => 227 | 337 => 240 | 338 => 241 | n => n
 t := fun x => match x with | 2 => 2 | 3 => 3 | 9 => 9 | 4 => 4 | 171 => 209 | 0 => 0 | 53 => 210 | 37 => 105 | 5 => 5 | 173 => 213 | 212 => 232 | 51 => 228 | 20 => 20 | 213 => 233 | 46 => 208 | 232 => 263 | 233 => 264 | n => n
 g := fun x => match x with | 17 => 4 | 18 => 5 | 19 => 6 | n => n
theorem Tryz.lays173 : LaysM.n173 Tryz.prog Tryz.ren173 where
 mixed := by kernel_rfl
 f129 := Tryz.func224
 f173 := Tryz.func171
 f246 := Tryz.func184
 f283 := Tryz.func204
 f284 := Tryz.func205
 f285 := Tryz.func206
 f286 := Tryz.func207
 f317 := Tryz.func223
 f318 := Tryz.func225
 f319 := Tryz.func226
 f320 := Tryz.func227
 f337 := Tryz.func240
 f338 := Tryz.func241
 t0 := Tryz.underlying0
 a0 := Tryz.isAgg0
 z0 := Tryz.sizeOf0
 v0 := Tryz.zeroValue0
 t2 := Tryz.underlying2
 a2 := Tryz.isAgg2
 z2 := Tryz.sizeOf2
 v2 := Tryz.zeroValue2
 t3 := Tryz.underlying3
 a3 := Tryz.isAgg3
 z3 := Tryz.sizeOf3
 v3 := Tryz.zeroValue3
 t4 := Tryz.underlying4
 a4 := Tryz.isAgg4
 z4 := Tryz.sizeOf4
 v4 := Tryz.zeroValue4
 t5 := Tryz.underlying5
 a5 := Tryz.isAgg5
 z5 := Tryz.sizeOf5
 v5 := Tryz.zeroValue5
 t9 := Tryz.underlying9
 a9 := Tryz.isAgg9
 z9 := Tryz.sizeOf9
 v9 := Tryz.zeroValue9
 t20 := Tryz.underlying20
 a20 := Tryz.isAgg20
 z20 := Tryz.sizeOf20
 v20 := Tryz.zeroValue20
 t37 := Tryz.underlying105
 a37 := Tryz.isAgg105
 z37 := Tryz.sizeOf105
 v37 := Tryz.zeroValue105
 t46 := Tryz.underlying208
 a46 := Tryz.isAgg208
 z46 := Tryz.sizeOf208
 v46 := Tryz.zeroValue208
 t51 := Tryz.underlying228
 a51 := Tryz.isAgg228
 z51 := Tryz.sizeOf228
 v51 := Tryz.zeroValue228
 t53 := Tryz.underlying210
 a53 := Tryz.isAgg210
 z53 := Tryz.sizeOf210
 v53 := Tryz.zeroValue210
 t171 := Tryz.underlying209
 a171 := Tryz.isAgg209
 z171 := Tryz.sizeOf209
 v171 := Tryz.zeroValue209
 t173 := Tryz.underlying213
 a173 := Tryz.isAgg213
 z173 := Tryz.sizeOf213
 v173 := Tryz.zeroValue213
 t212 := Tryz.underlying232
 a212 := Tryz.isAgg232
 z212 := Tryz.sizeOf232
 v212 := Tryz.zeroValue232
 t213 := Tryz.underlying233
 a213 := Tryz.isAgg233
 z213 := Tryz.sizeOf233
 t232 := Tryz.underlying263
 a232 := Tryz.isAgg263
 z232 := Tryz.sizeOf263
 v232 := Tryz.zeroValue263
 t233 := Tryz.underlying264
 a233 := Tryz.isAgg264
 z233 := Tryz.sizeOf264
 v233 := Tryz.zeroValue264
 g17 := by kernel_rfl
 g18 := by kernel_rfl
 g19 := by kernel_rfl
 i0 := by kernel_rfl
 i2 := by kernel_rfl
 i3 := by kernel_rfl
 i4 := by kernel_rfl
 i5 := by kernel_rfl
 i9 := by kernel_rfl
 i20 := by kernel_rfl
 i37 := by kernel_rfl
 i46 := by kernel_rfl
 i51 := by kernel_rfl
 i53 := by kernel_rfl
 i171 := by kernel_rfl
 i173 := by kernel_rfl
 i212 := by kernel_rfl
 i232 := by kernel_rfl
 i233 := by kernel_rfl
 m17 := by kernel_rfl
 m18 := by kernel_rfl
 m19 := by kernel_rfl
def Tryz.ren137 : Ren where
 f := fun x => match x with | 137 => 176 | 217 => 197 | 266 => 218 | n => n
 t := fun x => match x with | 9 => 9 | 5 => 5 | 3 => 3 | n => n
 g := fun x => x
theorem Tryz.lays137 : Lays.n137 Tryz.prog Tryz.ren137 where
 mixed := by kernel_rfl
 f137 := Tryz.func176
 f217 := Tryz.func197
 f266 := Tryz.func218
 t3 := Tryz.underlying3
 a3 := Tryz.isAgg3
 z3 := Tryz.sizeOf3
 v3 := Tryz.zeroValue3
 t5 := Tryz.underlying5
 a5 := Tryz.isAgg5
 z5 := Tryz.sizeOf5
 v5 := Tryz.zeroValue5
 t9 := Tryz.underlying9
 a9 := Tryz.isAgg9
 z9 := Tryz.sizeOf9
 v9 := Tryz.zeroValue9
end Go.Proofs
namespace Go.SX.Nb
open Go Go.SX Go.Proofs Go.RowKit
variable [ErrAt]
set_option maxRecDepth 4000
theorem Ig {w : World} (h : Fv w) : ∃ m, w.cell? ⟨0, 0, none⟩ = some (.int .i64 m) := by
 obtain ⟨_, a, m, t, f, rfl⟩ := h (0, fun o => ∃ m t f, o = .cells #[.int .i64 m] t f) (by simp [GlobInv.blocks, Oh])
 exact ⟨m, by simp [World.cell?, a]⟩
theorem L3 {w : World} (h : Fv w) : w.cell? ⟨1, 0, none⟩ = some (.iface 271 (.pointer (some ErrAt.b))) := by
 obtain ⟨_, a, t, f, rfl⟩ := h (1, fun o => ∃ t f, o = .cells #[.iface 271 (.pointer (some ErrAt.b))] t f) (by simp [GlobInv.blocks, Oh])
 simp [World.cell?, a]
theorem b8 {w : World} (h : Fv w) : Lib.TabIs Tryz.prog w "internal/strconv.uint64pow10" .u64 Lib.pow10Tab := by
 obtain ⟨_, a, t, f, rfl⟩ := h (4, fun o => ∃ t f, o = .cells (Lib.pow10Tab.map fun z => Value.int .u64 z).toArray t f) (by simp [GlobInv.blocks, Oh])
 have hg : Tryz.prog.globalNamed "internal/strconv.uint64pow10" = some 4 := by kernel_rfl
 simp only at a
 simp [Lib.TabIs, World.var?, hg, a]
theorem Rn (w : World) (n : Nat) : Below w.heap.size w (w.drewN n) := ⟨rfl, rfl, rfl, Nat.le_refl _, fun _ _ => rfl⟩
theorem Xv (s t : Str) (hs : s.length < 4294967281) (Hp : List AObj) : AFun Tryz.prog 142 [Aa s, Aa t] Hp (Ar (Lib.contains s t)) := by
 refine AFun.lib (xs := [sv s, sv t]) (v := .bool (Lib.contains s t)) (fun G w => .v _ _) (fun w hg => ?_)
 obtain ⟨m, hm⟩ := Ig hg
 refine (Any.strings_Contains Tryz.lays144 ⟨s.toArray⟩ ⟨t.toArray⟩ m w (by simpa [ByteArray.size] using hs) hm).mono ?_
 rintro e w' ⟨rfl, rfl⟩
 exact Xt
theorem c143 (s t : Str) (hs : s.length < 4294967281) (Hp : List AObj) : AFun Tryz.prog 143 [Aa s, Aa t] Hp (.tup [Aa (Lib.cut s t).1, Aa (Lib.cut s t).2.1, Ar (Lib.cut s t).2.2]) := by
 refine AFun.lib (xs := [sv s, sv t]) (v := .tuple #[sv (Lib.cut s t).1, sv (Lib.cut s t).2.1, .bool (Lib.cut s t).2.2]) (fun G w => Ic rfl (fun i y u hy hu => ?_)) (fun w hg => ?_)
 ·match i with
  | 0 => simp at hy hu; subst hy; subst hu; exact .v _ _
  | 1 => simp at hy hu; subst hy; subst hu; exact .v _ _
  | 2 => simp at hy hu; subst hy; subst hu; exact .v _ _
  | i + 3 => simp at hy
 obtain ⟨m, hm⟩ := Ig hg
 refine (Any.strings_Cut Tryz.lays145 ⟨s.toArray⟩ ⟨t.toArray⟩ m w (by simpa [ByteArray.size] using hs) hm).mono ?_
 rintro e w' ⟨rfl, n, rfl⟩
 exact ⟨rfl, Rn _ _⟩
theorem c173 (s t : Str) (ht : t.length < 4294967281) (ha : ∀ c ∈ t, c.toNat < 128) (Hp : List AObj) : AFun Tryz.prog 173 [Aa s, Aa t] Hp (Aa (Lib.trimLeftS s t)) := by
 refine AFun.lib (xs := [sv s, sv t]) (v := sv (Lib.trimLeftS s t)) (fun G w => .v _ _) (fun w hg => ?_)
 refine (Any.strings_TrimLeft_laid Tryz.lays161 (by kernel_rfl) ⟨s.toArray⟩ ⟨t.toArray⟩ w (by simpa [ByteArray.size] using ht) (fun j b hj => ha b (List.mem_of_getElem? hj))).mono ?_
 rintro e w' ⟨rfl, hb⟩
 exact ⟨rfl, hb⟩
/-- The pieces of a split. -/
def Ht (s t : Str) : List Str := (Lib.splitB ⟨t.toArray⟩ 0 (Lib.countB ⟨s.toArray⟩ ⟨t.toArray⟩) ⟨s.toArray⟩).map (·.data.toList)
theorem l9 (s t : Str) (hs : s.length < 4294967281) (ht : 1 ≤ t.length) (Hp : List AObj) : AFun Tryz.prog 100 [Aa s, Aa t] Hp (E8 (Ht s t)) := by
 have := AFun.libSlice (P := Tryz.prog) (g := 100) (Hp := Hp) (xs := [sv s, sv t]) (ys := (Ht s t).map sv) (t := 9) (by intro y hy; obtain ⟨z, _, rfl⟩ := List.mem_map.1 hy; rfl) (fun w hg => by
  obtain ⟨m, hm⟩ := Ig hg
  refine (Any.strings_Split Tryz.lays146 (by kernel_rfl) ⟨s.toArray⟩ ⟨t.toArray⟩ m w (by simpa [ByteArray.size] using hs) hm (by simpa [ByteArray.size] using ht)).mono ?_
  rintro e w' ⟨rfl, rfl⟩
  have hl : ((Ht s t).map sv).length = Lib.countB ⟨s.toArray⟩ ⟨t.toArray⟩ + 1 := by
   rw [List.length_map]
   unfold Ht
   rw [List.length_map]
   exact Lib.splitB_all _ (by simpa [ByteArray.size] using ht) _ _ _ rfl
  refine ⟨by rw [hl], ?_⟩
  unfold Ht
  rw [List.map_map]
  rfl)
 rw [List.map_map] at this
 exact this
end Go.SX.Nb
namespace Go.Proofs
open Go Go.RowKit Go.Extern.Stop Go.Stop Go.Extern
theorem Tryz.isTypeOf (v : Value) (w : World) : (Extern.ReflectliteType.typeOf #[.iface 271 v]).run Tryz.prog w = .ok (.iface 253 (.agg #[.pointer (some ⟨8, 271, none⟩)])) w := by kernel_rfl
def Tryz.cmpOf : Array Value → Sem Value := Extern.ReflectliteType.method fun t => do Extern.Rtype.noPackHeld "Comparable" t; pure (.bool (← typeInfo t).comparable)
theorem Tryz.isComparable (w : World) : (Tryz.cmpOf #[.agg #[.pointer (some ⟨8, 271, none⟩)]]).run Tryz.prog w = .ok (.bool true) w := by kernel_rfl
theorem Tryz.isMethodComparable (v : Value) (w : World) : (Go.method 405 253 v "Comparable").run Tryz.prog w = .ok (292, v) w := by kernel_rfl
theorem Tryz.isComp : (Tryz.prog.info? 271).map (·.comparable) = some true := by kernel_rfl
theorem Tryz.isSize : (Tryz.prog.info? 273).map (·.size) = some 1 := by kernel_rfl
theorem Tryz.noIsW (v : Value) (xT : TypeId) (w : World) : (Instr.typeAssert (.iface 249 v) xT 255 true).run Tryz.prog w = .ok (.tuple #[.nilIface, .bool false]) w := run_typeAssert_lacksB Tryz.underlying255 (by kernel_rfl) (by kernel_rfl) v xT w
theorem Tryz.hasUnwrapW (v : Value) (xT : TypeId) (w : World) : (Instr.typeAssert (.iface 249 v) xT 258 true).run Tryz.prog w = .ok (.tuple #[.iface 249 v, .bool true]) w := run_typeAssert_hasB Tryz.underlying258 (by kernel_rfl) v xT w
theorem Tryz.methodUnwrap (v : Value) (w : World) : (Go.method 405 249 v "Unwrap").run Tryz.prog w = .ok (288, v) w := by kernel_rfl
namespace Tryz
theorem is_nil (b : Addr) (w : World) :
  Calls Tryz.prog 217 #[.nilIface, .iface 271 (.pointer (some b))] w fun e w' => e = .returned (.bool false) ∧ w' = w := by
 have hn := run_eql_iface_nil_left (P := Tryz.prog) w 271 (.pointer (some b)) Tryz.underlying133
 go_enter Tryz.func217, Tryz.ntmps217
 go_wp2
 go_ret
 exact ⟨rfl, rfl⟩
set_option maxRecDepth 100000 in
theorem is_range (pb po : Nat) (b : Addr) (w : World) (h1 : w.cell? ⟨pb, po + 2, none⟩ = some (.iface 271 (.pointer (some b)))) :
  Calls Tryz.prog 217 #[.iface 249 (.pointer (some ⟨pb, po, none⟩)), .iface 271 (.pointer (some b))] w fun e w' => e = .returned (.bool true) ∧ w' = w := by
 obtain ⟨i, hi, hcmp⟩ := Option.map_eq_some_iff.1 Tryz.isComp
 obtain ⟨j, hj, hjs⟩ := Option.map_eq_some_iff.1 Tryz.isSize
 have h8 := @run_callFunc_extern Tryz.prog 236 _ Extern.ReflectliteType.typeOf Tryz.func236 (by kernel_rfl) (by kernel_rfl) (by kernel_rfl) (by kernel_rfl)
 have h32 := @run_callFunc_extern Tryz.prog 292 _ Tryz.cmpOf Tryz.func292 (by kernel_rfl) (by kernel_rfl) (by kernel_rfl) (by kernel_rfl)
 have tT := Tryz.isTypeOf
 have cT := Tryz.isComparable
 have mR := Tryz.isMethodComparable
 have nW := Tryz.noIsW
 have uW := Tryz.hasUnwrapW
 have mU := Tryz.methodUnwrap
 have heq := run_eql_iface_ptr_same (P := Tryz.prog) w b Tryz.underlying133 Tryz.underlying271 hi hcmp hj
 have hty := run_eql_iface_types (P := Tryz.prog) 249 271 (.pointer (some ⟨pb, po, none⟩)) (.pointer (some b)) Tryz.underlying133 (by decide) w
 go_enter Tryz.func217, Tryz.ntmps217
 go_wp2
 refine wp_loop_rounds 2 ?_
 rw [rounds_succ]
 go_wp2
 rw [rounds_succ]
 go_wp2
 go_ret
 exact ⟨rfl, rfl⟩
end Tryz
end Go.Proofs
namespace Go.SX.Nb
open Go Go.SX Go.Proofs Go.RowKit Go.Sort
variable [ErrAt]
set_option maxRecDepth 4000
theorem q9 (s t : Str) (Hp : List AObj) : AFun Tryz.prog 192 [Aa s, Aa t] Hp (Ar (Lib.hasPrefix s t)) := by
 refine AFun.lib (xs := [sv s, sv t]) (v := .bool (Lib.hasPrefix s t)) (fun G w => .v _ _) (fun w hg => ?_)
 refine (Any.strings_HasPrefix Tryz.lays99 ⟨s.toArray⟩ ⟨t.toArray⟩ w).mono ?_
 rintro e w' ⟨rfl, rfl⟩
 exact Xt
theorem qa (s t : Str) (hs : s.length ≤ 9223372036854775807) (Hp : List AObj) : AFun Tryz.prog 193 [Aa s, Aa t] Hp (Ar (Lib.hasSuffix s t)) := by
 refine AFun.lib (xs := [sv s, sv t]) (v := .bool (Lib.hasSuffix s t)) (fun G w => .v _ _) (fun w hg => ?_)
 refine (Any.strings_HasSuffix Tryz.lays100 ⟨s.toArray⟩ ⟨t.toArray⟩ w (by simpa [ByteArray.size] using hs)).mono ?_
 rintro e w' ⟨rfl, rfl⟩
 exact Xt
theorem qb (s : Str) (c : UInt8) (Hp : List AObj) : AFun Tryz.prog 176 [Aa s, .v (.int .u8 (c.toNat : Int))] Hp (A4 (Lib.indexByte s c)) := by
 refine AFun.lib (xs := [sv s, .int .u8 (c.toNat : Int)]) (v := .int .i64 (Lib.indexByte s c)) (fun G w => .v _ _) (fun w hg => ?_)
 refine (Any.strings_IndexByte Tryz.lays137 ⟨s.toArray⟩ (c.toNat : Int) w).mono ?_
 rintro e w' ⟨rfl, rfl⟩
 exact ⟨by simp, Below.refl _ _⟩
theorem qc : Builder.Extra Tryz.prog Tryz.ren155 := { sizeBuilder := by kernel_rfl, liesBuilder := by kernel_rfl, t5 := Tryz.underlying5, a5 := Tryz.isAgg5, z5 := Tryz.sizeOf5, v5 := Tryz.zeroValue5, infoByte := by kernel_rfl, cellsByte := by kernel_rfl, sizeByte := by kernel_rfl, neB5 := by decide }
theorem o5 (s o n : Str) (hs : s.length < 4294967281) (ho : 1 ≤ o.length) (hl : s.length + Lib.countB ⟨s.toArray⟩ ⟨o.toArray⟩ * n.length ≤ 140737488355328) (Hp : List AObj) : AFun Tryz.prog 139 [Aa s, Aa o, Aa n] Hp (Aa (Lib.replaceAll s o n)) := by
 refine AFun.lib (xs := [sv s, sv o, sv n]) (v := sv (Lib.replaceAll s o n)) (fun G w => .v _ _) (fun w hg => ?_)
 obtain ⟨m, hm⟩ := Ig hg
 refine (Any.strings_ReplaceAll Tryz.lays155 qc ⟨s.toArray⟩ ⟨o.toArray⟩ ⟨n.toArray⟩ m w (by simpa [ByteArray.size] using hs) hm (by simpa [ByteArray.size] using ho) (by simpa [ByteArray.size] using hl)).mono ?_
 rintro e w' ⟨rfl, hb⟩
 exact ⟨rfl, hb⟩
theorem U8 (w : World) (k : Nat) (os : Array Obj) : Below w.heap.size w (grow (w.drewN k) os) := by
 refine ⟨rfl, rfl, rfl, by simp [grow], fun b hb => ?_⟩
 show ((w.drewN k).heap ++ os)[b]? = w.heap[b]?
 rw [Array.getElem?_append_left (by exact hb)]
 rfl
theorem c171 (n : Int) (h0 : -9223372036854775808 ≤ n) (h1 : n ≤ 9223372036854775807) (Hp : List AObj) : AFun Tryz.prog 171 [.v (.int .i64 n), A4 10] Hp (Aa (Lib.itoa n)) := by
 refine AFun.lib (xs := [.int .i64 n, .int .i64 10]) (v := sv (Lib.itoa n)) (fun G w => .v _ _) (fun w hg => ?_)
 refine (Any.strconv_FormatInt_10 Tryz.lays173 n h0 h1 w (b8 hg)).mono ?_
 rintro e w' ⟨rfl, k, os, rfl⟩
 exact ⟨rfl, U8 _ _ _⟩
end Go.SX.Nb
namespace Go.SX.Nb
open Go Go.SX Go.Proofs Go.RowKit
variable [ErrAt]
set_option maxRecDepth 4000
def digs : Str := [48, 49, 50, 51, 52, 53, 54, 55, 56, 57]
def L4 (s : Str) : Str := Lib.trimPrefix s [45]
def Fx (s : Str) : Bool := (L4 s == []) || !(Lib.trimS (L4 s) digs == []) || (((L4 s).headD 0 == 48) && decide (1 < s.length))
def Co (s : Str) : Int × Int := if Fx s then (0, 6) else match Lib.parseIntB 64 s with | .ok v => (v, 0) | .range => (0, 4) | _ => (0, 0)
def g8 {α : Type} : Lib.NumEnd α → Bool | .ok _ => false | .range => false | _ => true
theorem b9 {p : UInt8 → Bool} : ∀ {l : Str}, l.dropWhile p = [] ↔ ∀ b ∈ l, p b = true
 | [] => by simp
 | b :: r => by
  rw [List.dropWhile_cons]
  by_cases h : p b = true
  ·rw [if_pos h, b9]
   simp [h]
  rw [if_neg h]
  simp [h]
theorem ba {p : UInt8 → Bool} : ∀ {l : Str} {b : UInt8}, b ∈ l → p b = false → b ∈ l.dropWhile p
 | x :: r, b, h, hb => by
  rw [List.dropWhile_cons]
  by_cases hx : p x = true
  ·rw [if_pos hx]
   rcases List.mem_cons.1 h with rfl | h
   ·rw [hb] at hx; cases hx
   exact ba h hb
  rw [if_neg hx]; exact h
theorem Oi {l cs : Str} : Lib.trimS l cs = [] ↔ ∀ b ∈ l, cs.contains b = true := by
 unfold Lib.trimS Lib.trimLeftS Lib.trimRightS
 rw [b9]
 constructor
 ·intro h b hb
  cases hc : cs.contains b with
  | true => rfl
  | false =>
   have := h b (List.mem_reverse.2 (ba (p := (cs.contains ·)) (List.mem_reverse.2 hb) hc))
   rw [hc] at this; exact this
 intro h b hb
 exact h b (List.mem_reverse.1 ((List.dropWhile_sublist (cs.contains ·)).subset (List.mem_reverse.1 hb)))
theorem Io (c : UInt8) : digs.contains c = (decide (48 ≤ c.toNat) && decide (c.toNat ≤ 57)) := by
 have h : ((List.range 256).all fun n => digs.contains (UInt8.ofNat n) == (decide (48 ≤ (UInt8.ofNat n).toNat) && decide ((UInt8.ofNat n).toNat ≤ 57))) = true := by kernel_rfl
 have := List.all_eq_true.1 h c.toNat (List.mem_range.2 c.toNat_lt)
 simpa using this
theorem Oj (M : Nat) : ∀ (l : Str) (acc : Nat), (∀ b ∈ l, digs.contains b = true) → g8 (Lib.parseUintM M acc l) = false
 | [], acc, _ => by rw [Lib.parseUintM]; rfl
 | c :: r, acc, h => by
  have hc := h c (by simp)
  rw [Io] at hc
  simp only [Bool.and_eq_true, decide_eq_true_eq] at hc
  rw [Lib.parseUintM, if_pos hc]
  split
  ·rfl
  split
  ·rfl
  exact Oj M r _ (fun b hb => h b (by simp [hb]))
theorem L5 (s : Str) : (s.head? ≠ some 45 ∧ L4 s = s) ∨ ∃ r, s = 45 :: r ∧ L4 s = r := by
 unfold L4 Lib.trimPrefix Lib.hasPrefix
 cases s with
 | nil => exact .inl ⟨by simp, rfl⟩
 | cons c r =>
  by_cases hc : c = 45
  ·subst hc; exact .inr ⟨r, rfl, by simp [List.isPrefixOf]⟩
  refine .inl ⟨by simpa using hc, ?_⟩
  rw [if_neg]
  simp [List.isPrefixOf, Ne.symm hc]
theorem Hu {s : Str} (h : Fx s = false) : g8 (Lib.parseIntB 64 s) = false := by
 unfold Fx at h
 simp only [Bool.or_eq_false_iff, Bool.not_eq_false', beq_iff_eq, beq_eq_false_iff_ne] at h
 obtain ⟨⟨h1, h2⟩, _⟩ := h
 rw [Oi] at h2
 have key : ∀ l : Str, l ≠ [] → (∀ b ∈ l, digs.contains b = true) → g8 (Lib.parseUintB 64 l) = false := fun l hl ha => by
  unfold Lib.parseUintB
  rw [if_neg hl]
  exact Oj _ l 0 ha
 rcases L5 s with ⟨h3, h4⟩ | ⟨r, rfl, h4⟩
 ·rw [h4] at h1 h2
  cases s with
  | nil => exact absurd rfl h1
  | cons c r =>
   have hcd := h2 c (by simp)
   rw [Io] at hcd
   simp only [Bool.and_eq_true, decide_eq_true_eq] at hcd
   have e1 : ¬ (c.toNat = 43 ∨ c.toNat = 45) := by omega
   have := key (c :: r) (by simp) h2
   simp only [Lib.parseIntB, if_neg e1]
   revert this
   cases Lib.parseUintB 64 (c :: r) with
   | range => intro _; rfl
   | ok u => intro _; simp only; split <;> (try split) <;> rfl
   | _ => intro h; cases h
 rw [h4] at h1 h2
 have := key r h1 h2
 have e1 : ((45 : UInt8).toNat = 43 ∨ (45 : UInt8).toNat = 45) := .inr rfl
 simp only [Lib.parseIntB, if_pos e1]
 revert this
 cases Lib.parseUintB 64 r with
 | range => intro _; rfl
 | ok u => intro _; simp only; split <;> (try split) <;> rfl
 | _ => intro h; cases h
end Go.SX.Nb
namespace Go.SX.Nb
open Go Go.SX Go.Proofs
variable [ErrAt]
set_option maxRecDepth 4000
def H4 (c : UInt8) : Bool := decide ((97 : Int) ≤ c.toNat) && decide ((c.toNat : Int) ≤ 122)
def la (c : UInt8) : Bool := decide ((48 : Int) ≤ c.toNat) && decide ((c.toNat : Int) ≤ 57)
def words : List Str := [[97, 100, 100], [100, 114, 111, 112], [114, 101, 110, 97, 109, 101], [115, 112, 108, 105, 116], [109, 101, 114, 103, 101], [114, 101, 116, 121, 112, 101], [105, 110, 116, 111], [116, 111], [98, 97, 99, 107], [97, 110, 100], [111, 114], [110, 111, 116], [116, 114, 117, 101], [102, 97, 108, 115, 101], [110, 117, 108, 108], [105, 110, 116], [116, 101, 120, 116], [98, 111, 111, 108], [115, 101, 108, 101, 99, 116], [119, 104, 101, 114, 101], [102, 114, 111, 109], [108, 105, 109, 105, 116]]
def Kc (s : Str) : Bool := words.any (· == s)
theorem lb {α : Type} {p : α → Bool} {l : List α} {i : Nat} (h : i < l.length) (hp : p l[i] = true) : l.any p = true := by
 rw [List.any_eq_true]; exact ⟨l[i], List.getElem_mem h, hp⟩
theorem bb {α : Type} {p : α → Bool} {l : List α} (h : ∀ (j : Nat) (y : α), l[j]? = some y → p y = false) : l.any p = false := by
 rw [List.any_eq_false]
 intro x hx
 obtain ⟨j, hj⟩ := List.getElem?_of_mem hx
 simp [h j x hj]
theorem Ce {α : Type} {l : List α} {x : Nat} {p : α → Prop} (hlt : x < l.length) (h : ∀ (j : Nat) (y : α), j < x → l[j]? = some y → p y) (hx : p l[x]) : ∀ (j : Nat) (y : α), j < x + 1 → l[j]? = some y → p y := by
 intro j y hj hy
 rcases Nat.lt_or_ge j x with h' | h'
 ·exact h j y h' hy
 have : j = x := by omega
 subst this
 rw [List.getElem?_eq_getElem hlt] at hy
 injection hy with hy
 subst hy
 exact hx
theorem Jf {α : Type} {l : List α} {x : Nat} {p : α → Prop} (hge : l.length ≤ x) (h : ∀ (j : Nat) (y : α), j < x → l[j]? = some y → p y) : ∀ (j : Nat) (y : α), l[j]? = some y → p y :=
 fun j y hy => h j y (by have := (List.getElem?_eq_some_iff.1 hy).1; omega) hy
def Ma (c : UInt8) : Bool := H4 c || la c || c == 95
def Ro (s : Str) : Bool := match s with
 | [] => false
 | c :: _ => decide (s.length ≤ 16) && H4 c && !Kc s && s.all Ma
theorem Ok {s : Str} (h : s ≠ []) : s[0]? = some (s.headD 0) := by cases s with
 | nil => exact absurd rfl h
 | cons c r => rfl
def Be (nm : Str) (c : List Col) : Int := match c.findIdx? (fun y => y.name == nm) with | some i => i | none => -1
theorem bc {nm : List UInt8} {c : List Col} {x : Nat} (h : x < c.length) (h1 : c[x].name = nm) (h2 : ∀ (j : Nat) (y : Col), j < x → c[j]? = some y → ¬ (y.name = nm)) : Be nm c = x := by
 have : c.findIdx? (fun y => y.name == nm) = some x := by
  rw [List.findIdx?_eq_some_iff_getElem]
  exact ⟨h, by simpa using h1, fun j hj => by simpa using h2 j c[j] hj (List.getElem?_eq_getElem _)⟩
 simp [Be, this]
theorem U9 {nm : List UInt8} {c : List Col} (h : ∀ (j : Nat) (y : Col), c[j]? = some y → ¬ (y.name = nm)) : Be nm c = -1 := by
 have : c.findIdx? (fun y => y.name == nm) = none := by
  rw [List.findIdx?_eq_none_iff]
  intro y hy
  obtain ⟨j, hj⟩ := List.getElem?_of_mem hy
  simpa using h j y hj
 simp [Be, this]
structure OkCols (c : List Col) : Prop where
 len : c.length ≤ 1048576
 names : ∀ y ∈ c, y.name.length ≤ 1048576
def jq (c : List Col) (x : Nat) (y : Col) : Bool := !(((!Ro y.name || decide (y.kind < 1)) || decide ((3 : Int) < y.kind)) || (Be y.name c != (x : Int)))
def Hv (c : List Col) : Bool := c.zipIdx.all fun x => jq c x.2 x.1
theorem H5 {α : Type} {l : List α} {x : Nat} {p : Nat → α → Prop} (hlt : x < l.length) (h : ∀ (j : Nat) (y : α), j < x → l[j]? = some y → p j y) (hx : p x l[x]) : ∀ (j : Nat) (y : α), j < x + 1 → l[j]? = some y → p j y := by
 intro j y hj hy
 rcases Nat.lt_or_ge j x with h' | h'
 ·exact h j y h' hy
 have : j = x := by omega
 subst this
 rw [List.getElem?_eq_getElem hlt] at hy
 injection hy with hy
 subst hy
 exact hx
theorem Ih {α : Type} {l : List α} {x : Nat} {p : Nat → α → Prop} (hge : l.length ≤ x) (h : ∀ (j : Nat) (y : α), j < x → l[j]? = some y → p j y) : ∀ (j : Nat) (y : α), l[j]? = some y → p j y :=
 fun j y hy => h j y (by have := (List.getElem?_eq_some_iff.1 hy).1; omega) hy
def C4 (c : List Col) : Bool := decide ((c.length : Int) ≤ 12) && Hv c
def Fy (v : Val) : Bool := if v.kind == 0 then v.n == 0 && v.s == [] else if v.kind == 1 then v.s == [] else if v.kind == 2 then v.n == 0 && decide ((v.s.length : Int) ≤ 200) else v.kind == 3 && v.s == [] && decide (0 ≤ v.n) && decide (v.n ≤ 1)
theorem lc (e : Bool) (n : Int) : (e && (n == 0 || n == 1)) = (e && decide (0 ≤ n) && decide (n ≤ 1)) := by
 cases e
 ·rfl
 rw [Bool.eq_iff_iff]
 simp
 omega
theorem o6 (v : Val) (Hp : List AObj) : AFun Tryz.prog 107 [O1 v] Hp (Ar (Fy v)) := by
 refine ACall.body [.tmp 2] [0] Tryz.func107 Tryz.ntmps107 (fun d => ?_)
 refine B8 ?_;refine R.box ?_;refine Bg ?_;refine R.fin [1] ?_;refine Z15 ?_;refine Z35 ?_;refine R.fin [1, 4] ?_;refine Rk ?_;refine R.fin [1, 4, 5] ?_
 refine W.cond (fun ht5 => ?_) (fun ht5 => ?_)
 ·refine Z34 ?_;refine U4 ?_;refine R.eqlAgg l8 (Qc v.kind v.n 0 0 v.s []) ?_;refine Z23 ?_;refine Z4 ?_;exact K.fin (V.one V.tmp) ⟨by simp [Fy, ht5], rfl⟩
 refine Z37 ?_;refine R.fin [1, 4, 10] ?_
 refine W.cond (fun ht10 => ?_) (fun ht10 => ?_)
 ·refine B8 ?_;refine R.fieldAddrPtr (fo := 2) jU Tryz.sizeOf9 ?_;refine Fb ?_;refine Z14 ?_;refine Z2 ?_;refine Z4 ?_;exact K.fin (V.one V.tmp) ⟨by simp [Fy, ht5, ht10], rfl⟩
 refine Z37 ?_;refine R.fin [1, 4, 15] ?_
 refine W.cond (fun ht15 => ?_) (fun ht15 => ?_)
 ·refine B8 ?_;refine R.fieldAddrPtr (fo := 1) jU Tryz.sizeOf2 ?_;refine Fb ?_;refine R.eql ?_;refine Av ?_;refine G.fieldAddrPtr (fo := 2) jU Tryz.sizeOf9 ?_;refine G.loadOwn jA ?_;refine G.slen jU ?_;refine G.leq ?_;refine Xk ?_;refine Z4 ?_;exact K.fin (V.one V.tmp) ⟨by simp [Fy, ht5, ht10, ht15], rfl⟩
 refine Z37 ?_;refine R.fin [1, 26] ?_
 refine W.cond (fun ht26 => ?_) (fun ht26 => ?_)
 ·refine B8 ?_;refine R.fieldAddrPtr (fo := 2) jU Tryz.sizeOf9 ?_;refine Fb ?_;refine R.seql ?_;refine Av ?_;refine G.fieldAddrPtr (fo := 1) jU Tryz.sizeOf2 ?_;refine Xg ?_;refine G.move ?_;refine G.fieldAddrPtr (fo := 1) jU Tryz.sizeOf2 ?_;refine Xg ?_;refine G.pickOr ?_;refine Xk ?_;refine Z4 ?_;exact K.fin (V.one V.tmp) ⟨by simp [Fy, ht5, ht10, ht15, ht26]; rw [lc], rfl⟩
 refine Z16 ?_;refine Z44 ?_;exact K.fin (V.one V.tmp) ⟨by simp [Fy, ht5, ht10, ht15, ht26], rfl⟩

def E1 (c : List Col) : Bool := decide ((50 : Int) < c.length) || c.any fun y => decide ((100 : Int) < y.name.length)
theorem o7 {α : Type} [DecidableEq α] {a b : List α} (h : ((a.length : Int) != b.length) = true) : decide (a = b) = false := by
 rw [decide_eq_false_iff_not]
 rintro rfl
 simp at h
theorem qd {α : Type} [DecidableEq α] {a b : List α} {x : Nat} (h1 : x < a.length) (h2 : x < b.length) (h : a[x] ≠ b[x]) : decide (a = b) = false := by
 rw [decide_eq_false_iff_not]
 rintro rfl
 exact h rfl
theorem o8 {α β : Type} {a : List α} {b : List β} (hl : ((a.length : Int) != b.length) = false) : a.length = b.length := by simp at hl; omega
theorem o9 {α : Type} [DecidableEq α] {a b : List α} (hl : ((a.length : Int) != b.length) = false) (h : ∀ (j : Nat) (y : α), a[j]? = some y → b[j]? = some y) : decide (a = b) = true := by
 rw [decide_eq_true_eq]
 have hl' : a.length = b.length := o8 hl
 apply List.ext_getElem? fun i => ?_
 cases hi : a[i]? with
 | some y => exact (h i y hi).symm
 | none => rw [List.getElem?_eq_none_iff] at hi; exact (List.getElem?_eq_none (by omega)).symm
theorem lf {α β γ δ : Type} {a : List α} {b : List β} {f : α → γ} {g : β → δ} (hl : (((a.map f).length : Int) != (b.map g).length) = false) : a.length = b.length := by simp at hl; omega
theorem Iz {α : Type} {c : List α} {p : Nat → α → Bool} : (c.zipIdx.all fun x => p x.2 x.1) = true ↔ ∀ (j : Nat) (y : α), c[j]? = some y → p j y = true := by
 rw [List.all_eq_true]
 constructor
 ·intro h j y hj
  exact h (y, j) (by rw [List.mem_zipIdx_iff_getElem?]; exact hj)
 rintro h ⟨y, j⟩ hx
 rw [List.mem_zipIdx_iff_getElem?] at hx
 exact h j y hx
theorem c84 (y : Col) (nm : Str) (Hp : List AObj) : AFun Tryz.prog 84 [Aq y, .ro [Aa nm]] Hp (Ar (y.name == nm)) := by
 refine ACall.body [.tmp 3] [0, 1] Tryz.func84 Tryz.ntmps84 (fun d => ?_)
 refine Z64 ?_;refine R.fin [1, 2] ?_;refine B8 ?_;refine kn ?_;refine Di ?_;refine Z14 ?_;refine R.fin [3] ?_;refine AW.ret ?_;exact av

theorem c83 (c : List Col) (hc : OkCols c) (nm : Str) (Hp : List AObj) : AFun Tryz.prog 83 [Af c, .fn (.func 84) [] [.ro [Aa nm]]] Hp (A4 (Be nm c)) := by
 refine ACall.body [.tmp 4] [0, 1] Tryz.func83 Tryz.ntmps83 (fun d => ?_)
 refine Z56 ?_;refine aj ?_
 refine AW.loopC (α := Nat) (fun x => ⟨19, A5 0 (Af c) (A5 1 (.fn (.func 84) [] [.ro [Aa nm]]) (A5 7 (A4 c.length) (A5 8 (A4 (x : Nat)) (fun _ => .any)))), Hp, [], [], none⟩) (fun x => x ≤ c.length ∧ ∀ (j : Nat) (y : Col), j < x → c[j]? = some y → ¬ (y.name = nm)) (fun x => c.length - x) (0) (by simp) (StLe.of_eq (by simp)) rfl (fun x hx => ?_)
 refine ag ?_
 refine W.condX (fun ht9 => ?_) (fun ht9 => ?_)
 ·have hlt : x < c.length := by simpa using ht9
  have hcl := hc.len
  refine Z75 ?_;refine ae ?_;refine Z27 ?_;refine Av ?_;refine Z88 ?_;refine R.callV Tryz.call84 (c84 c[x] nm _) ?_;refine aw ?_
  refine W.cond (fun ht16 => ?_) (fun ht16 => ?_)
  ·refine Xr ?_;refine Z46 ?_;exact K.fin (V.one V.tmp) ⟨by rw [bc hlt (by simpa using ht16) hx.2], rfl⟩
  refine Z91 ?_;refine R.fin [0, 1, 7, 8] ?_;exact K.lpN (x + 1) ⟨hlt, Ce hlt hx.2 (by simpa using ht16)⟩ (by omega) (StCut.of_eq rfl)
 refine Z36 ?_;refine O0 ?_;exact K.fin (V.one V.tmp) ⟨by rw [U9 (Jf (by simp at ht9; omega) hx.2)], rfl⟩

theorem c59 (c : List Col) (hc : OkCols c) (nm : Str) (Hp : List AObj) : AFun Tryz.prog 59 [Af c, Aa nm] Hp (A4 (Be nm c)) := by
 refine ACall.body [.tmp 4] [0, 1] Tryz.func59 Tryz.ntmps59 (fun d => ?_)
 refine Z64 ?_;refine Kb ?_;refine Z0 ?_;refine Ik ?_;refine R.call Tryz.call83 (c83 c hc nm _) ?_;exact Xb

def Jg (s of : Str) : Int := (s.length : Int) - (Lib.trimLeftS s of).length
theorem Ls (s of : Str) : (Lib.trimLeftS s of).length ≤ s.length := by
 unfold Lib.trimLeftS
 exact (List.dropWhile_sublist _).length_le
def H6 : Str := [32, 97, 100, 100, 32, 100, 114, 111, 112, 32, 114, 101, 110, 97, 109, 101, 32, 115, 112, 108, 105, 116, 32, 109, 101, 114, 103, 101, 32, 114, 101, 116, 121, 112, 101, 32, 105, 110, 116, 111, 32, 116, 111, 32, 98, 97, 99, 107, 32, 97, 110, 100, 32, 111, 114, 32, 110, 111, 116, 32, 116, 114, 117, 101, 32, 102, 97, 108, 115, 101, 32, 110, 117, 108, 108, 32, 105, 110, 116, 32, 116, 101, 120, 116, 32, 98, 111, 111, 108, 32, 115, 101, 108, 101, 99, 116, 32, 119, 104, 101, 114, 101, 32, 102, 114, 111, 109, 32, 108, 105, 109, 105, 116, 32]
def letters : Str := [97, 98, 99, 100, 101, 102, 103, 104, 105, 106, 107, 108, 109, 110, 111, 112, 113, 114, 115, 116, 117, 118, 119, 120, 121, 122]
def tails : Str := [97, 98, 99, 100, 101, 102, 103, 104, 105, 106, 107, 108, 109, 110, 111, 112, 113, 114, 115, 116, 117, 118, 119, 120, 121, 122, 48, 49, 50, 51, 52, 53, 54, 55, 56, 57, 95]
theorem Ua (s of : Str) (hs : s.length ≤ 1048576) (ho : of.length ≤ 1048576) (ha : ∀ c ∈ of, c.toNat < 128) (Hp : List AObj) : AFun Tryz.prog 140 [Aa s, Aa of] Hp (A4 (Jg s of)) := by
 refine ACall.body [.tmp 4] [0, 1] Tryz.func140 Tryz.ntmps140 (fun d => ?_)
 refine Z56 ?_;refine Z0 ?_;refine R.slen jU ?_;refine Z53 ?_;refine R.call Tryz.call173 (c173 s of (by omega) ha _) ?_;refine R.slen jU ?_
 have htl := Ls s of
 refine R.sub64 ?_;exact Xb

def Do (s : Str) : Bool := (!(s == []) && !Lib.contains s [32]) && Lib.contains H6 ([32] ++ s ++ [32])
theorem oa (s : Str) (hs : s.length ≤ 1048576) (Hp : List AObj) : AFun Tryz.prog 141 [Aa s] Hp (Ar (Do s)) := by
 refine ACall.body [.tmp 2] [0] Tryz.func141 Tryz.ntmps141 (fun d => ?_)
 refine U1 ?_;refine R.sneq ?_;refine Z13 ?_;refine G.call Tryz.call142 (fun hB => Xv s [32] (by omega) _) ?_;refine G.not ?_;refine G8 ?_;refine Z13 ?_;refine G.sadd ?_;refine G.sadd ?_;refine G.call Tryz.call142 (fun hB => Xv H6 ([32] ++ s ++ [32]) (by decide) _) ?_;refine G8 ?_;exact Z76

theorem lg {s : Str} {b c : Bool} (h : (((!(s == []) && b) && c) == true) = true) : 1 ≤ s.length := by
 cases s with
 | nil => simp at h
 | cons x r => simp
def Cf (s : Str) : Bool := ((((!(s == []) && decide ((s.length : Int) ≤ 16)) && (Jg s tails == (s.length : Int))) && (Jg (s.take 1) letters == 1)) && !Do s)
theorem be (s : Str) (hs : s.length ≤ 1048576) (Hp : List AObj) : AFun Tryz.prog 108 [Aa s] Hp (Ar (Cf s)) := by
 refine ACall.body [.tmp 2] [0] Tryz.func108 Tryz.ntmps108 (fun d => ?_)
 refine U1 ?_;refine R.sneq ?_;refine Z13 ?_;refine G.slen jU ?_;refine G.leq ?_;refine G8 ?_;refine Z13 ?_;refine G.call Tryz.call140 (fun hB => Ua s tails hs (by decide) (by decide) _) ?_;refine G.move ?_;refine G.slen jU ?_;refine Z49 ?_;refine Z13 ?_;refine G.scutH 1 jU (fun _ => Nat.zero_le _) (fun hB => lg hB) ?_
 refine G.call Tryz.call140 (fun hB => Ua (s.take 1) letters (by simp; omega) (by decide) (by decide) _) ?_
 refine Z49 ?_;refine Z13 ?_;refine G.call Tryz.call141 (fun hB => oa s hs _) ?_;refine G.not ?_;refine G8 ?_;exact Z76

end Go.SX.Nb
namespace Go.SX.Nb
open Go Go.SX Go.Proofs Go.RowKit
variable [ErrAt]
set_option maxRecDepth 4000
theorem qe (s t : Str) (Hp : List AObj) : AFun Tryz.prog 214 [Aa s, Aa t] Hp (Aa (Lib.trimPrefix s t)) := by
 refine AFun.lib (xs := [sv s, sv t]) (v := sv (Lib.trimPrefix s t)) (fun G w => .v _ _) (fun w hg => ?_)
 refine (Any.strings_TrimPrefix Tryz.lays101 ⟨s.toArray⟩ ⟨t.toArray⟩ w).mono ?_
 rintro e w' ⟨rfl, rfl⟩
 exact Xt
theorem qf (s t : Str) (hs : s.length ≤ 9223372036854775807) (ht : t.length < 4294967281) (ha : ∀ c ∈ t, c.toNat < 128) (Hp : List AObj) : AFun Tryz.prog 215 [Aa s, Aa t] Hp (Aa (Lib.trimS s t)) := by
 refine AFun.lib (xs := [sv s, sv t]) (v := sv (Lib.trimS s t)) (fun G w => .v _ _) (fun w hg => ?_)
 refine (Any.strings_Trim_laid Tryz.lays160 (by kernel_rfl) ⟨s.toArray⟩ ⟨t.toArray⟩ w (by simpa [ByteArray.size] using hs) (by simpa [ByteArray.size] using ht) (fun j b hj => ha b (List.mem_of_getElem? hj))).mono ?_
 rintro e w' ⟨rfl, hb⟩
 exact ⟨rfl, hb⟩
theorem g9 (s : Str) (hs : s.length ≤ 1048576) (v : Int) (h : Lib.parseIntB 64 s = .ok v) (Hp : List AObj) : AFun Tryz.prog 216 [Aa s, A4 10, A4 64] Hp (.tup [A4 v, .v .nilIface]) := by
 refine AFun.lib (xs := [sv s, .int .i64 10, .int .i64 64]) (v := .tuple #[.int .i64 v, .nilIface]) (fun G w => Ic rfl (fun i y u hy hu => ?_)) (fun w hg => ?_)
 ·match i with
  | 0 => simp at hy hu; subst hy; subst hu; exact .v _ _
  | 1 => simp at hy hu; subst hy; subst hu; exact .v _ _
  | i + 2 => simp at hy
 refine (Any.strconv_ParseInt_10_at64_ok Tryz.lays174 ⟨s.toArray⟩ (by simp [ByteArray.size]; omega) v h w).mono ?_
 rintro e w' ⟨rfl, rfl | ⟨t, rfl⟩⟩
 ·exact Xt
 exact ⟨rfl, Lib.bytesWorld_below _ _ _⟩
def Kd (s : Str) : AV := .iface 249 (.ro [.v (sv [80, 97, 114, 115, 101, 73, 110, 116]), .v (sv s), .v (.iface 271 (.pointer (some ErrAt.b)))])
theorem Ub (s : Str) (hs : s.length ≤ 1048576) (h : Lib.parseIntB 64 s = .range) (Hp : List AObj) : AFun Tryz.prog 216 [Aa s, A4 10, A4 64] Hp (.tup [A4 (Lib.intSat 64 s), Kd s]) := by
 refine AFun.libErr (xs := [sv s, .int .i64 10, .int .i64 64]) (n := .int .i64 (Lib.intSat 64 s)) (cs := [sv [80, 97, 114, 115, 101, 73, 110, 116], sv s, .iface 271 (.pointer (some ErrAt.b))]) (te := 268) (fun y hy => ?_) (fun w hg => ?_)
 ·simp only [List.mem_cons, List.mem_nil_iff, or_false] at hy
  rcases hy with rfl | rfl | rfl <;> rfl
 refine (Any.strconv_ParseInt_10_at64_range Tryz.lays174 ⟨s.toArray⟩ (by simp [ByteArray.size]; omega) h (.iface 271 (.pointer (some ErrAt.b))) w (L3 hg) (.inr ⟨_, _, rfl⟩)).mono ?_
 rintro e w' ⟨N, rfl, h1, h2, h3⟩
 exact ⟨N, rfl, h1, h2, h3⟩
theorem bf (Hp : List AObj) : AFun Tryz.prog 217 [.v .nilIface, .v (.iface 271 (.pointer (some ErrAt.b)))] Hp (Ar false) := by
 refine AFun.lib (xs := [.nilIface, .iface 271 (.pointer (some ErrAt.b))]) (v := .bool false) (fun G w => .v _ _) (fun w hg => ?_)
 refine (Tryz.is_nil _ w).mono ?_
 rintro e w' ⟨rfl, rfl⟩
 exact Xt
theorem Uc (s : Str) (Hp : List AObj) : AFun Tryz.prog 217 [Kd s, .v (.iface 271 (.pointer (some ErrAt.b)))] Hp (Ar true) := by
 intro d G w vs hn hv hH hT _hTop
 have hsz : vs.size = 2 := hn
 have h0 := hv 0 (Kd s) vs[0] rfl (Array.getElem?_eq_getElem (by omega))
 have h1 := Ja (hv 1 (.v (.iface 271 (.pointer (some ErrAt.b)))) vs[1] rfl (Array.getElem?_eq_getElem (by omega)))
 have hvs : vs = #[vs[0], vs[1]] := by
  apply Array.ext
  ·exact hsz
  intro i hi1 hi2
  match i with
  | 0 => rfl
  | 1 => rfl
  | i + 2 => omega
 unfold Kd at h0
 generalize vs[0] = u0 at h0 hvs
 cases h0 with
 | iface _ _ _ u h =>
  cases h with
  | ro _ _ ad f hs h1' hf hr =>
   obtain ⟨ab, ao, asp⟩ := ad
   simp only at hs
   subst hs
   have hc := (hf 2 _ rfl).2
   have he := Ja (hr 2 _ rfl)
   rw [he] at hc
   rw [hvs, h1]
   refine (callsIn_wide.2 (Tryz.is_range ab ao ErrAt.b w hc)).mono ?_
   rintro e w' ⟨rfl, rfl⟩
   exact ⟨_, G, _, Hp, rfl, .v _ _, hH, hT, Keep.refl _ _ _, rfl, rfl, rfl⟩
end Go.SX.Nb
namespace Go.SX.Nb
open Go Go.SX Go.Proofs
variable [ErrAt]
set_option maxRecDepth 4000
def Rp : Str := [32, 105, 110, 116, 32, 116, 101, 120, 116, 32, 98, 111, 111, 108]
def kindNames : List Str := [[], [105, 110, 116], [116, 101, 120, 116], [98, 111, 111, 108]]
theorem Xw : Ht Rp [32] = kindNames := by kernel_rfl
def Bb (k : Int) : Str := if k < 1 ∨ 3 < k then [] else kindNames.getD k.toNat []
theorem c70 (k : Int) (Hp : List AObj) : AFun Tryz.prog 70 [A4 k] Hp (Aa (Bb k)) := by
 refine ACall.body [.tmp 2] [0] Tryz.func70 Tryz.ntmps70 (fun d => ?_)
 refine Z54 ?_;refine Xp ?_;refine Z13 ?_;refine Z83 ?_;refine R.fin [0, 8] ?_
 refine W.cond (fun ht8 => ?_) (fun ht8 => ?_)
 ·refine Z44 ?_;refine K.thR ?_;exact K.fin (V.one V.tmp) ⟨by rw [show Bb k = [] from if_pos (by simpa using ht8)], rfl⟩
 refine Qa ?_
 have hk : 1 ≤ k ∧ k ≤ 3 := by simp at ht8; omega
 have hget : (kindNames.map Aa)[k.toNat]? = some (Aa (kindNames.getD k.toNat [])) := by
  have hlt : k.toNat < kindNames.length := by show k.toNat < 4; omega
  rw [List.getElem?_map, List.getElem?_eq_getElem hlt, List.getD_eq_getElem?_getD, List.getElem?_eq_getElem hlt]
  rfl
 refine R.call Tryz.call100 (Xw ▸ l9 Rp [32] (by decide) (by decide) _) ?_;refine Av ?_;refine R.indexAddr (k.toNat) (Aa (kindNames.getD k.toNat [])) jU jS hget ?_;refine Di ?_;refine Z23 ?_;exact K.fin (V.one V.tmp) ⟨by rw [show Bb k = kindNames.getD k.toNat [] from if_neg (by omega)], rfl⟩

def Qd (s of : Str) : Bool := (!(s == []) && !Lib.contains s [32]) && Lib.contains of ([32] ++ s ++ [32])
theorem ob (s of : Str) (hs : s.length ≤ 1048576) (ho : of.length ≤ 1048576) (Hp : List AObj) : AFun Tryz.prog 109 [Aa s, Aa of] Hp (Ar (Qd s of)) := by
 refine ACall.body [.tmp 4] [0, 1] Tryz.func109 Tryz.ntmps109 (fun d => ?_)
 refine Z56 ?_;refine Z0 ?_;refine R.sneq ?_;refine Z13 ?_;refine G.call Tryz.call142 (fun hB => Xv s [32] (by omega) _) ?_;refine G.not ?_;refine G8 ?_;refine Z93 ?_;refine G.sadd ?_;refine G.sadd ?_;refine G.call Tryz.call142 (fun hB => Xv of ([32] ++ s ++ [32]) (by omega) _) ?_;refine G8 ?_;exact Xb

def Ol : Str := [108, 101, 110, 58, 49, 32, 115, 116, 114, 58, 49, 32, 110, 117, 109, 58, 49, 32, 105, 115, 110, 117, 108, 108, 58, 49, 32, 110, 118, 108, 58, 50, 32, 108, 101, 102, 116, 58, 50, 32, 114, 105, 103, 104, 116, 58, 50, 32, 105, 102, 58, 51]
def arityList : List (Str × UInt8) := [([108, 101, 110], 49), ([115, 116, 114], 49), ([110, 117, 109], 49), ([105, 115, 110, 117, 108, 108], 49), ([110, 118, 108], 50), ([108, 101, 102, 116], 50), ([114, 105, 103, 104, 116], 50), ([105, 102], 51)]
def Ew (p : Str × UInt8) : Str := p.1 ++ [58, p.2]
theorem Ud : Ht Ol [32] = arityList.map Ew := by kernel_rfl
theorem bg {p : Str × UInt8} (hp : p ∈ arityList) : Lib.cut (Ew p) [58] = (p.1, [p.2], true) := by
 have h : (arityList.all fun p => decide (Lib.cut (Ew p) [58] = (p.1, [p.2], true))) = true := by kernel_rfl
 exact of_decide_eq_true (List.all_eq_true.1 h p hp)
def lh (p : Str × UInt8) : Int := IntKind.i64.wrap (IntKind.u8.wrap ((p.2.toNat : Int) - 48))
def E9 (nm : Str) : Int := match arityList.find? (fun p => p.1 == nm) with | some p => lh p | none => -1
theorem Vk {α : Type} {p : α → Bool} {l : List α} {x : Nat} (h : x < l.length) (hp : p l[x] = true) (h2 : ∀ (j : Nat) (y : α), j < x → l[j]? = some y → p y = false) : l.find? p = some l[x] := by
 rw [List.find?_eq_some_iff_getElem]
 exact ⟨hp, x, h, rfl, fun j hj => by simpa using h2 j l[j] hj (List.getElem?_eq_getElem _)⟩
theorem Om {α : Type} {p : α → Bool} {l : List α} (h : ∀ (j : Nat) (y : α), l[j]? = some y → p y = false) : l.find? p = none := by
 rw [List.find?_eq_none]
 intro y hy
 obtain ⟨j, hj⟩ := List.getElem?_of_mem hy
 simpa using h j y hj
theorem Ke : arityList.length = 8 := rfl
theorem Xx {p : Str × UInt8} (hp : p ∈ arityList) : (Ew p).length < 4294967281 := by
 have h : (arityList.all fun p => decide ((Ew p).length < 4294967281)) = true := by kernel_rfl
 exact of_decide_eq_true (List.all_eq_true.1 h p hp)
theorem od (nm : Str) (Hp : List AObj) : AFun Tryz.prog 110 [Aa nm] Hp (A4 (E9 nm)) := by
 refine ACall.body [.tmp 2] [0] Tryz.func110 Tryz.ntmps110 (fun d => ?_)
 refine Z54 ?_;refine Z15 ?_;refine R.call Tryz.call100 (Ud ▸ l9 Ol [32] (by decide) (by decide) _) ?_;refine Z45 ?_;refine R.fin [0, 8, 9, 10] ?_
 refine AW.loopC (α := Nat) (fun x => ⟨28, A5 0 (Aa nm) (A5 8 (E8 (arityList.map Ew)) (A5 9 (A4 8) (A5 10 (A4 (x : Nat)) (fun _ => .any)))), Hp, [], [], none⟩) (fun x => x ≤ 8 ∧ ∀ (j : Nat) (y : Str × UInt8), j < x → arityList[j]? = some y → (y.1 == nm) = false) (fun x => 8 - x) (0) (by simp) (StLe.refl _) rfl (fun x hx => ?_)
 refine Z59 ?_;refine R.fin [0, 8, 9, 10, 11] ?_
 refine W.condX (fun ht11 => ?_) (fun ht11 => ?_)
 ·have hlt : x < arityList.length := by rw [Ke]; simp at ht11; omega
  have hal := Ke
  have hget : ((arityList.map Ew).map Aa)[x]? = some (Aa (Ew arityList[x])) := by rw [List.map_map]; exact By hlt
  refine Z73 ?_;refine R.indexAddr (x) (Aa (Ew arityList[x])) jU jS hget ?_;refine Di ?_;refine Bg ?_;refine R.fin [0, 4, 8, 9, 10] ?_;refine Z0 ?_;refine R.call Tryz.call143 ((bg (List.getElem_mem hlt)) ▸ c143 (Ew arityList[x]) [58] (Xx (List.getElem_mem hlt)) _) ?_;refine Z52 ?_;refine R.extract ?_;refine Z87 ?_;refine R.fin [0, 5, 6, 8, 9, 10] ?_;refine Z27 ?_;refine R.seql ?_;refine R.fin [0, 6, 8, 9, 10, 22] ?_
  refine W.cond (fun ht22 => ?_) (fun ht22 => ?_)
  ·refine Z0 ?_;refine R.sindex 0 arityList[x].2 jU rfl  ?_;refine R.sub ?_;refine R.iconv jU jU ?_;refine Z23 ?_;refine Z46 ?_;exact K.fin (V.one V.tmp) ⟨by rw [E9, Vk hlt ht22 hx.2]; rfl, rfl⟩
  refine Z91 ?_;refine R.fin [0, 8, 9, 10] ?_;exact K.lpN (x + 1) ⟨by omega, Ce hlt hx.2 ht22⟩ (by omega) (StCut.of_eq rfl)
 have hal := Ke
 refine Z36 ?_;refine Z44 ?_;exact K.fin (V.one V.tmp) ⟨by rw [E9, Om (Jf (by simp at ht11; omega) hx.2)], rfl⟩

def Ue (s : Str) : Int := match Lib.parseIntB 64 s with | .ok v => v | _ => Lib.intSat 64 s
def O2 (s : Str) : Bool := match Lib.parseIntB 64 s with | .ok _ => false | _ => true
def O3 (s : Str) : AV := bif O2 s then Kd s else .v .nilIface
theorem Uf (s : Str) : (O3 s).strip = O3 s := by unfold O3; cases O2 s <;> rfl
attribute [go_sem] Uf
theorem qg (s : Str) (hs : s.length ≤ 1048576) (h : g8 (Lib.parseIntB 64 s) = false) (Hp : List AObj) : AFun Tryz.prog 216 [Aa s, A4 10, A4 64] Hp (.tup [A4 (Ue s), O3 s]) := by
 cases hp : Lib.parseIntB 64 s with
 | ok v =>
  have := g9 s hs v hp Hp
  rwa [show v = Ue s by unfold Ue; rw [hp], show AV.v .nilIface = O3 s by unfold O3 O2; rw [hp]; rfl] at this
 | range =>
  have := Ub s hs hp Hp
  rwa [show Lib.intSat 64 s = Ue s by unfold Ue; rw [hp], show Kd s = O3 s by unfold O3 O2; rw [hp]; rfl] at this
 | _ => rw [hp] at h; cases h
theorem qh (s : Str) (Hp : List AObj) : AFun Tryz.prog 217 [O3 s, .v (.iface 271 (.pointer (some ErrAt.b)))] Hp (Ar (O2 s)) := by
 unfold O3
 cases O2 s
 ·exact bf Hp
 exact Uc s Hp
theorem bh (s t : Str) : (Lib.trimPrefix s t).length ≤ s.length := by
 unfold Lib.trimPrefix; split <;> simp
theorem Xy {d : Str} {b : Bool} (h : (((d == []) || b) == false) = true) : d ≠ [] := by rintro rfl; simp at h
theorem J0 : ∀ c ∈ digs, c.toNat < 128 := by decide
theorem Mb (s : Str) : ((((Lib.trimPrefix s [45] == []) || (Lib.trimS (Lib.trimPrefix s [45]) digs != [])) || ((((Lib.trimPrefix s [45]).headD 0).toNat : Int) == 48 && decide ((1 : Int) < s.length)))) = Fx s := by
 unfold Fx L4
 have e1 : ((((Lib.trimPrefix s [45]).headD 0).toNat : Int) == 48) = ((Lib.trimPrefix s [45]).headD 0 == 48) := by
  rw [Bool.eq_iff_iff]
  simp only [beq_iff_eq]
  constructor
  ·intro h
   exact UInt8.toNat_inj.1 (by have : (48 : UInt8).toNat = 48 := rfl; omega)
  intro h; rw [h]; rfl
 have e2 : decide ((1 : Int) < s.length) = decide (1 < s.length) := by rw [decide_eq_decide]; omega
 rw [e1, e2]
 rfl
theorem Xz {s : Str} (hb : Fx s = false) (h : O2 s = true) : Co s = (0, 4) := by
 unfold Co
 rw [hb]
 have := Hu hb
 unfold O2 at h
 revert h this
 cases Lib.parseIntB 64 s with
 | ok v => intro h; cases h
 | range => intro _ _; rfl
 | _ => intro _ h; cases h
theorem li {s : Str} (hb : Fx s = false) (h : O2 s = false) : Co s = (Ue s, 0) := by
 unfold Co Ue
 rw [hb]
 unfold O2 at h
 revert h
 cases Lib.parseIntB 64 s with
 | ok v => intro h; rfl
 | _ => intro h; cases h
theorem bi (s : Str) : s.take (min s.length 200) = s.take 200 := by
 rcases Nat.le_total s.length 200 with h | h
 ·rw [Nat.min_eq_left h, List.take_of_length_le (Nat.le_refl _), List.take_of_length_le h]
 rw [Nat.min_eq_right h]
theorem qi (s : Str) (hs : s.length ≤ 1048576) (Hp : List AObj) : AFun Tryz.prog 195 [Aa s] Hp (.tup [A4 (Co s).1, A4 (Co s).2]) := by
 refine ACall.body [.tmp 2, .tmp 3] [0] Tryz.func195 Tryz.ntmps195 (fun d => ?_)
 refine Q9 ?_;refine R.fin [0] ?_;refine Z0 ?_;refine R.call Tryz.call214 (qe s [45] _) ?_;refine Bg ?_;refine R.fin [0, 4] ?_;refine Z11 ?_;refine R.seql ?_;refine Z13 ?_
 refine G.call Tryz.call215 (fun hB => qf (Lib.trimPrefix s [45]) digs (by have := bh s [45]; omega) (by decide) J0 _) ?_
 refine G.sneq ?_;refine Fw ?_;refine Z13 ?_;refine G.sindex 0 ((Lib.trimPrefix s [45]).headD 0) jU (fun hB => Ok (Xy hB))  ?_;refine G.eql ?_;refine G.move ?_;refine G.move ?_;refine G.slen jU ?_;refine G.gtr ?_;refine G.pickAnd ?_;refine Fw ?_;refine R.fin [0, 25] ?_
 refine W.cond (fun ht25 => ?_) (fun ht25 => ?_)
 ·have hb : Fx s = true := by rw [← Mb]; exact ht25
  refine Z3 ?_;refine Z61 ?_;refine Z24 ?_;exact K.fin (V.two V.tmp V.tmp) ⟨by rw [Co, hb]; rfl, rfl⟩
 have hb : Fx s = false := by rw [← Mb]; exact ht25
 refine Ka ?_;refine R.call Tryz.call216 (qg s hs (Hu hb) _) ?_;refine Z94 ?_;refine R.fin [5, 6] ?_;refine Z11 ?_;refine R.loadGlob Tryz.isAgg133 (fun w hg => L3 hg) ?_;refine R.call Tryz.call217 (qh s _) ?_;refine R.fin [5, 33] ?_
 refine W.cond (fun ht33 => ?_) (fun ht33 => ?_)
 ·refine Z3 ?_;refine Z61 ?_;refine Z24 ?_;exact K.fin (V.two V.tmp V.tmp) ⟨by rw [Xz hb ht33], rfl⟩
 refine Ka ?_;refine Z7 ?_;refine Ge ?_;refine AW.ret ?_;exact K.fin (V.two V.tmp V.tmp) ⟨by rw [li hb ht33], rfl⟩

theorem qj (n : Int) (h0 : -9223372036854775808 ≤ n) (h1 : n ≤ 9223372036854775807) (Hp : List AObj) : AFun Tryz.prog 138 [A4 n] Hp (Aa (Lib.itoa n)) := by
 refine ACall.body [.tmp 2] [0] Tryz.func138 Tryz.ntmps138 (fun d => ?_)
 refine U1 ?_;refine R.call Tryz.call171 (c171 n h0 h1 _) ?_;exact Z76

theorem ql (Hp : List AObj) : AFun Tryz.prog 190 [] Hp (O1 ⟨0, 0, []⟩) := by
 refine ACall.body [.cell 0 42] [] Tryz.func190 Tryz.ntmps190 (fun d => ?_)
 refine Z21 ?_;refine R.fin [0] ?_;refine Z63 ?_;refine E3 ?_;refine R.fin [0] ?_;refine AW.ret ?_;exact K.fin (V.one (V.cellN jA jS))

theorem qm (n : Int) (Hp : List AObj) : AFun Tryz.prog 196 [A4 n] Hp (O1 ⟨1, n, []⟩) := by
 refine ACall.body [.cell 2 42] [0] Tryz.func196 Tryz.ntmps196 (fun d => ?_)
 refine Z48 ?_;refine Z0 ?_;refine U4 ?_;exact f6

theorem qn (b : Bool) (Hp : List AObj) : AFun Tryz.prog 191 [Ar b] Hp (O1 ⟨3, if b then 1 else 0, []⟩) := by
 refine ACall.body [.cell 2 42] [0] Tryz.func191 Tryz.ntmps191 (fun d => ?_)
 refine Z48 ?_;refine Z63 ?_;refine Rf ?_;refine Z11 ?_;refine R.fin [2, 3, 5] ?_
 refine W.cond (fun ht5 => ?_) (fun ht5 => ?_)
 ·refine Hh ?_;refine R.fieldAddrPtr (fo := 1) jU Tryz.sizeOf2 ?_;refine af ?_;refine K.thN ?_;refine Z34 ?_;exact n9
 refine Z6 ?_;refine Z34 ?_;exact n9

theorem c213 (s : Str) (Hp : List AObj) : AFun Tryz.prog 213 [Aa s] Hp (O1 ⟨2, 0, s.take 200⟩) := by
 refine ACall.body [.cell 2 42] [0] Tryz.func213 Tryz.ntmps213 (fun d => ?_)
 refine Z48 ?_;refine Z27 ?_;refine R.slen jU ?_;refine R.minI ?_
 refine R.scutH (min s.length 200) jU (Nat.zero_le _) (Nat.min_le_left _ _) (hb := by split <;> omega) ?_
 refine U4 ?_;refine Z5 ?_;exact K.fin (V.one (V.cellN jA jS)) ⟨by rw [bi], rfl⟩

theorem Uh {p s : Str} (h : p.isPrefixOf s = true) : p.length ≤ s.length := (List.isPrefixOf_iff_prefix.1 h).length_le
theorem Ui (s o : Str) (h : 0 ≤ Lib.index s o) : (Lib.index s o).toNat + o.length ≤ s.length := by
 induction s with
 | nil =>
  unfold Lib.index at h ⊢
  split at h
  ·rename_i he
   rw [if_pos he]
   cases o with
   | nil => simp
   | cons a b => simp at he
  omega
 | cons b l ih =>
  unfold Lib.index at h ⊢
  split at h
  ·rename_i hp
   rw [if_pos hp]
   have := Uh hp
   simpa using this
  rename_i hp
  rw [if_neg hp]
  split at h
  ·omega
  rename_i hi
  rw [if_neg hi]
  have hg := Lib.index_ge l o
  have hi' : Lib.index l o ≠ -1 := by simpa using hi
  have := ih (by omega)
  simp only [List.length_cons]
  omega
def Vl : Val := ⟨0, 0, []⟩
def Rq (b : Bool) : Val := ⟨3, if b then 1 else 0, []⟩
def qo (n : Int) : Prop := -9223372036854775808 ≤ n ∧ n ≤ 9223372036854775807
def Fd (v : Val) : Str :=
 if !Fy v then [] else if v.kind == 1 then Lib.itoa v.n else if v.kind == 2 then [39] ++ Lib.replaceAll v.s [39] [39, 39] ++ [39]
 else if v.kind == 0 then [110, 117, 108, 108] else if v.n == 1 then [116, 114, 117, 101] else [102, 97, 108, 115, 101]
theorem Y0 {v : Val} (h : Fy v = true) (h2 : (v.kind == 2) = true) : v.s.length ≤ 200 := by
 have e : v.kind = 2 := by simpa using h2
 unfold Fy at h
 rw [e] at h
 simp at h
 omega
theorem Rr (s o : Str) (ho : 1 ≤ o.length) : Lib.countB ⟨s.toArray⟩ ⟨o.toArray⟩ ≤ s.length := Lib.countB_le ⟨o.toArray⟩ (by simpa [ByteArray.size] using ho) s.length ⟨s.toArray⟩ (by simp [ByteArray.size])
theorem L6 (o n : Str) (B : Nat) (hn : n.length ≤ B * o.length) (hB : 1 ≤ B) : ∀ (k : Nat) (s : Str), (Lib.replaceK o n k s).length ≤ B * s.length
 | 0, s => by rw [Lib.replaceK]; exact Nat.le_mul_of_pos_left _ hB
 | k + 1, s => by
  rw [Lib.replaceK]
  split
  ·exact Nat.le_mul_of_pos_left _ hB
  rename_i h
  have ih := L6 o n B hn hB k (s.drop ((Lib.index s o).toNat + o.length))
  have hx : (Lib.index s o).toNat + o.length ≤ s.length := by
   have hg := Lib.index_ge s o
   have hi : Lib.index s o ≠ -1 := by simpa using h
   exact Ui s o (by omega)
  simp only [List.length_append, List.length_drop, List.length_take] at ih ⊢
  have h1 : min (Lib.index s o).toNat s.length ≤ B * (Lib.index s o).toNat := Nat.le_trans (Nat.min_le_left _ _) (Nat.le_mul_of_pos_left _ hB)
  have h2 : B * s.length = B * (Lib.index s o).toNat + B * o.length + B * (s.length - ((Lib.index s o).toNat + o.length)) := by
   rw [← Nat.mul_add, ← Nat.mul_add]; congr 1; omega
  omega
theorem O4 (s o n : Str) (B : Nat) (hn : n.length ≤ B * o.length) (hB : 1 ≤ B) : (Lib.replaceAll s o n).length ≤ B * s.length := by
 unfold Lib.replaceAll Lib.replace
 split
 ·exact Nat.le_mul_of_pos_left _ hB
 exact L6 o n B hn hB _ s
theorem qq (v : Val) (hn : qo v.n) (Hp : List AObj) : AFun Tryz.prog 103 [O1 v] Hp (Aa (Fd v)) := by
 refine ACall.body [.tmp 2] [0] Tryz.func103 Tryz.ntmps103 (fun d => ?_)
 refine Nz ?_;refine Z73 ?_;refine Gf ?_;refine R.call Tryz.call107 (o6 v _) ?_;refine R.not ?_;refine Bg ?_;refine R.fin [1, 3] ?_
 refine W.cond (fun ht3 => ?_) (fun ht3 => ?_)
 ·refine Z44 ?_;refine Z4 ?_;exact K.fin (V.one V.tmp) ⟨by simp only [Fd, ht3, if_true], rfl⟩
 have hp : Fy v = true := by simpa using ht3
 refine B8 ?_;refine Z26 ?_;refine Z20 ?_;refine R.fin [1, 7] ?_
 refine W.cond (fun ht7 => ?_) (fun ht7 => ?_)
 ·refine B8 ?_;refine R.fieldAddrRo (off := 1) jU Tryz.sizeOf2 ?_;refine Di ?_;refine R.call Tryz.call138 (qj v.n hn.1 hn.2 _) ?_;refine Z23 ?_;refine Z4 ?_;exact K.fin (V.one V.tmp) ⟨by simp only [Fd, hp, ht7, Bool.not_true, Bool.false_eq_true, if_false, if_true]; try rfl, rfl⟩
 refine B8 ?_;refine Z26 ?_;refine Z20 ?_;refine R.fin [1, 14] ?_
 refine W.cond (fun ht14 => ?_) (fun ht14 => ?_)
 ·refine B8 ?_;refine R.fieldAddrRo (off := 2) jU Tryz.sizeOf9 ?_;refine Di ?_
  have hl := Y0 hp ht14
  have hrl := O4 v.s [39] [39, 39] 2 (by decide) (by decide)
  refine R.call Tryz.call139 (o5 v.s [39] [39, 39] (by omega) (by decide) (by have := Rr v.s [39] (by decide); simp; omega) _) ?_
  refine R.sadd ?_;refine R.sadd ?_;refine Z23 ?_;refine Z4 ?_;exact K.fin (V.one V.tmp) ⟨by simp only [Fd, hp, ht7, ht14, Bool.not_true, Bool.false_eq_true, if_false, if_true]; try rfl, rfl⟩
 refine B8 ?_;refine Z26 ?_;refine Z20 ?_;refine R.fin [1, 23] ?_
 refine W.cond (fun ht23 => ?_) (fun ht23 => ?_)
 ·refine Z44 ?_;refine Z4 ?_;exact K.fin (V.one V.tmp) ⟨by simp only [Fd, hp, ht7, ht14, ht23, Bool.not_true, Bool.false_eq_true, if_false, if_true]; try rfl, rfl⟩
 refine B8 ?_;refine R.fieldAddrRo (off := 1) jU Tryz.sizeOf2 ?_;refine Di ?_;refine Z20 ?_;refine R.fin [27] ?_
 refine W.cond (fun ht27 => ?_) (fun ht27 => ?_)
 ·refine Z44 ?_;refine Z4 ?_;exact nl
 refine Z16 ?_;refine Z44 ?_;exact nl

def bj (s : Str) : Str := Lib.replaceAll ((s.take (s.length - 1)).drop 1) [39, 39] [39]
def Mc (s : Str) : Val := ⟨2, 0, (bj s).take 200⟩
def Rt (s : Str) : Val × Int := if !(Fd (Mc s) == s) then (Vl, 7) else (Mc s, 0)
theorem qr (s : Str) (h2 : 2 ≤ s.length) (hs : s.length ≤ 1048576) (Hp : List AObj) : AFun Tryz.prog 194 [Aa s] Hp (.tup [O1 (Rt s).1, A4 (Rt s).2]) := by
 refine ACall.body [.cell 2 42, .tmp 3] [0] Tryz.func194 Tryz.ntmps194 (fun d => ?_)
 refine Z21 ?_;refine Bg ?_;refine R.fin [0, 2] ?_;refine Z27 ?_;refine R.slen jU ?_;refine R.sub64 ?_;refine R.scutLH 1 (s.length - 1) jU (show 1 ≤ s.length - 1 by omega) (show s.length - 1 ≤ s.length by omega) ?_
 refine R.call Tryz.call139 (o5 ((s.take (s.length - 1)).drop 1) [39, 39] [39] (by simp; omega) (by decide) (by have := Rr ((s.take (s.length - 1)).drop 1) [39, 39] (by decide); simp at this ⊢; omega) _) ?_
 refine Bg ?_;refine R.fin [0, 2, 4] ?_;refine Z0 ?_;refine R.call Tryz.call213 (c213 (bj s) _) ?_;refine Z10 ?_;refine R.fin [0, 2, 5] ?_;refine Z15 ?_;refine Qb ?_
 refine R.call Tryz.call103 (qq (Mc s) ⟨by show (-9223372036854775808 : Int) ≤ 0; decide, by show (0 : Int) ≤ 9223372036854775807; decide⟩ _) ?_
 refine Av ?_;refine R.sneq ?_;refine R.fin [2, 5, 17] ?_
 refine W.cond (fun ht17 => ?_) (fun ht17 => ?_)
 ·refine Z63 ?_;refine Rg ?_;refine Z24 ?_;exact nn
 refine Z6 ?_;refine Z34 ?_;refine Rg ?_;refine AW.ret ?_;exact nn

def On (s : Str) : Bool := (decide ((1 : Int) < s.length) && Lib.hasPrefix s [39]) && Lib.hasSuffix s [39]
def Ea (s : Str) : Val × Int :=
 if s == [110, 117, 108, 108] then (Vl, 0) else if (s == [116, 114, 117, 101]) || (s == [102, 97, 108, 115, 101]) then (Rq (s == [116, 114, 117, 101]), 0)
 else if On s then Rt s else if (Co s).2 == 0 then (⟨1, (Co s).1, []⟩, 0) else if (Co s).2 == 4 then (Vl, 4) else (Vl, 7)
theorem bn {s : Str} (h : On s = true) : 2 ≤ s.length := by
 unfold On at h
 simp only [Bool.and_eq_true, decide_eq_true_eq] at h
 omega
theorem c175 (s : Str) (hs : s.length ≤ 1048576) (Hp : List AObj) : AFun Tryz.prog 175 [Aa s] Hp (.tup [O1 (Ea s).1, A4 (Ea s).2]) := by
 refine ACall.body [.cell 2 42, .tmp 3] [0] Tryz.func175 Tryz.ntmps175 (fun d => ?_)
 refine Z21 ?_;refine Bg ?_;refine R.fin [0, 2] ?_;refine Z75 ?_;refine Z14 ?_;refine R.fin [0, 2, 6] ?_
 refine W.cond (fun ht6 => ?_) (fun ht6 => ?_)
 ·refine B8 ?_;refine R.call Tryz.call190 (ql _) ?_;refine Rg ?_;refine Z60 ?_;exact K.fin (V.two (V.cellN jA jS) V.tmp) ⟨by simp only [Ea, ht6, if_true, if_false, Bool.false_eq_true]; try rfl, rfl⟩
 refine Z0 ?_;refine R.seql ?_;refine Z13 ?_;refine G.seql ?_;refine Fw ?_;refine Bg ?_;refine R.fin [0, 2, 10] ?_
 refine W.cond (fun ht10 => ?_) (fun ht10 => ?_)
 ·refine Z0 ?_;refine R.seql ?_;refine R.call Tryz.call191 (qn (s == [116, 114, 117, 101]) _) ?_;refine Rg ?_;refine Z60 ?_;exact K.fin (V.two (V.cellN jA jS) V.tmp) ⟨by simp only [Ea, ht6, ht10, if_true, if_false, Bool.false_eq_true]; try rfl, rfl⟩
 refine Z0 ?_;refine Xh ?_;refine Z13 ?_;refine G.call Tryz.call192 (fun hB => q9 s [39] _) ?_;refine G8 ?_;refine Z13 ?_;refine G.call Tryz.call193 (fun hB => qa s [39] (by omega) _) ?_;refine G8 ?_;refine Bg ?_;refine R.fin [0, 2, 20] ?_
 refine W.cond (fun ht20 => ?_) (fun ht20 => ?_)
 ·have hq : On s = true := ht20
  refine Z0 ?_;refine R.call Tryz.call194 (qr s (bn hq) hs _) ?_;refine Z17 ?_;refine Rg ?_;refine Z60 ?_;exact K.fin (V.two (V.cellN jA jS) V.tmp) ⟨by simp only [Ea, ht6, ht10, hq, if_true, if_false, Bool.false_eq_true]; try rfl, rfl⟩
 have hq : On s = false := ht20
 refine Z16 ?_;refine Z0 ?_;refine R.call Tryz.call195 (qi s hs _) ?_;refine Z94 ?_;refine R.fin [2, 4, 5] ?_;refine Z11 ?_;refine R.fin [2, 4, 5, 41] ?_;refine Rk ?_;refine R.fin [2, 4, 5, 41, 42] ?_
 refine W.cond (fun ht42 => ?_) (fun ht42 => ?_)
 ·refine Z0 ?_;refine R.call Tryz.call196 (qm (Co s).1 _) ?_;refine Rg ?_;refine Z60 ?_;exact K.fin (V.two (V.cellN jA jS) V.tmp) ⟨by simp only [Ea, ht6, ht10, hq, ht42, if_true, if_false, Bool.false_eq_true]; try rfl, rfl⟩
 refine Z37 ?_;refine R.fin [2, 5, 46] ?_
 refine W.cond (fun ht46 => ?_) (fun ht46 => ?_)
 ·refine Z63 ?_;refine Av ?_;refine Rg ?_;refine Z60 ?_;exact K.fin (V.two (V.cellN jA jS) V.tmp) ⟨by simp only [Ea, ht6, ht10, hq, ht42, ht46, if_true, if_false, Bool.false_eq_true]; rw [show (Co s).2 = 4 by simpa using ht46]; rfl, rfl⟩
 refine Z16 ?_;refine Z63 ?_;refine Rg ?_;refine AW.ret ?_;exact K.fin (V.two (V.cellN jA jS) V.tmp) ⟨by simp only [Ea, ht6, ht10, hq, ht42, ht46, if_true, if_false, Bool.false_eq_true]; try rfl, rfl⟩

def blanks : Str := [32, 9, 10]
/-- What stands behind blanks and notes. -/
def Dp : Str → Bool → Str
 | [], _ => []
 | c :: r, false => if blanks.contains c then Dp r false else if c == 35 then Dp r true else c :: r
 | c :: r, true => if c == 10 then Dp r false else Dp r true
def runN (s of : Str) : Nat := s.length - (Lib.trimLeftS s of).length
theorem Qe (s of : Str) : Jg s of = (runN s of : Int) := by
 have := Ls s of
 unfold Jg runN
 omega
theorem Qf (s of : Str) : runN s of ≤ s.length := Nat.sub_le _ _
theorem bo (s of : Str) : s.drop (runN s of) = Lib.trimLeftS s of := by
 unfold runN Lib.trimLeftS
 have h : ∀ l : Str, l.drop (l.length - (l.dropWhile (of.contains ·)).length) = l.dropWhile (of.contains ·) := by
  intro l
  have e := List.takeWhile_append_dropWhile (p := (of.contains ·)) (l := l)
  have hl : l.length - (l.dropWhile (of.contains ·)).length = (l.takeWhile (of.contains ·)).length := by
   have := congrArg List.length e
   simp only [List.length_append] at this
   omega
  rw [hl]
  conv => lhs; rw [← e]
  rw [List.drop_left']
  rw [e]
 exact h s
theorem bq (s of : Str) : s.take (runN s of) = s.takeWhile (of.contains ·) := by
 have e := List.takeWhile_append_dropWhile (p := (of.contains ·)) (l := s)
 have hl : runN s of = (s.takeWhile (of.contains ·)).length := by
  unfold runN Lib.trimLeftS
  have := congrArg List.length e
  simp only [List.length_append] at this
  omega
 rw [hl]
 conv => lhs; rw [← e]
 rw [List.take_left']
 rw [e]
theorem Kf : ∀ s : Str, Dp (Lib.trimLeftS s blanks) false = Dp s false
 | [] => rfl
 | c :: r => by
  unfold Lib.trimLeftS
  rw [List.dropWhile_cons]
  by_cases h : blanks.contains c = true
  ·rw [if_pos h, Dp, if_pos h]
   exact Kf r
  rw [if_neg h]
theorem Oo (of : Str) : ∀ (s : Str) (c : UInt8) (t : Str), Lib.trimLeftS s of = c :: t → of.contains c = false
 | [], c, t, h => by cases h
 | b :: r, c, t, h => by
  unfold Lib.trimLeftS at h
  rw [List.dropWhile_cons] at h
  split at h
  ·exact Oo of r c t h
  rename_i hb
  injection h with h1 h2
  subst h1
  simpa using hb
def Ex : Str → Str
 | [] => []
 | c :: r => if c == 10 then r else Ex r
theorem lj (s : Str) : (Lib.cut s [10]).2.1 = Ex s := by
 unfold Lib.cut
 induction s with
 | nil => rfl
 | cons c r ih =>
  have hg := Lib.index_ge r [10]
  rw [Ex]
  unfold Lib.index
  by_cases hc : c = 10
  ·subst hc
   simp [List.isPrefixOf]
  have h1 : ([10] : Str).isPrefixOf (c :: r) = false := by simp [List.isPrefixOf, Ne.symm hc]
  have h2 : (c == 10) = false := by simpa using hc
  rw [h1, h2]
  simp only [Bool.false_eq_true, if_false]
  by_cases hi : Lib.index r [10] = -1
  ·rw [hi] at ih ⊢
   simpa using ih
  have h3 : (Lib.index r [10] == -1) = false := by simpa using hi
  rw [h3]
  simp only [Bool.false_eq_true, if_false]
  rw [if_pos (by omega)] at ih ⊢
  have e : (Lib.index r [10] + 1).toNat = (Lib.index r [10]).toNat + 1 := by omega
  rw [e]
  rw [← ih]
  show (c :: r).drop _ = _
  rw [show (Lib.index r [10]).toNat + 1 + ([10] : Str).length = ((Lib.index r [10]).toNat + ([10] : Str).length) + 1 by omega, List.drop_succ_cons]
theorem Oq : ∀ t : Str, Dp t true = Dp (Ex t) false
 | [] => rfl
 | c :: r => by
  rw [Dp, Ex]
  split
  ·rfl
  exact Oq r
theorem Md : ∀ t : Str, (Ex t).length ≤ t.length
 | [] => Nat.le_refl _
 | c :: r => by
  rw [Ex]
  split
  ·simp
  have := Md r; simp only [List.length_cons]; omega
def gapM (s : Str) : Nat := s.length - (Dp s false).length
theorem Y1 {d : Str} (h : ((d == []) == false) = true) : d ≠ [] := by rintro rfl; simp at h
theorem Qg : ∀ c ∈ blanks, c.toNat < 128 := by decide
/-- The gap is at its end. -/
theorem ga {x s : Str} (hx : Dp x false = Dp s false) (h : ((Lib.trimLeftS x blanks == []) || ((((Lib.trimLeftS x blanks).headD 0).toNat : Int) != 35)) = true) : Dp s false = Lib.trimLeftS x blanks := by
 rw [← hx, ← Kf]
 cases ht : Lib.trimLeftS x blanks with
 | nil => rfl
 | cons c t =>
  rw [ht] at h
  have hb := Oo blanks x c t ht
  have hc : (c == 35) = false := by
   simp at h
   rw [beq_eq_false_iff_ne]
   rintro rfl
   exact h rfl
  rw [Dp, hb, hc]
  rfl
theorem ll {x s : Str} (hx : Dp x false = Dp s false) (h : ((Lib.trimLeftS x blanks == []) || ((((Lib.trimLeftS x blanks).headD 0).toNat : Int) != 35)) = false) :
  Dp (Lib.cut (Lib.trimLeftS x blanks) [10]).2.1 false = Dp s false ∧ (Lib.cut (Lib.trimLeftS x blanks) [10]).2.1.length < x.length := by
 have hl := Ls x blanks
 rw [lj, ← hx, ← Kf x]
 cases ht : Lib.trimLeftS x blanks with
 | nil => rw [ht] at h; simp at h
 | cons c t =>
  rw [ht] at h hl
  have hc : c = 35 := by
   simp at h
   exact UInt8.toNat_inj.1 (by have : (35 : UInt8).toNat = 35 := rfl; omega)
  subst hc
  have ha := Md t
  refine ⟨?_, ?_⟩
  ·rw [Ex, Dp]
   have e1 : blanks.contains 35 = false := by decide
   rw [e1]
   exact (Oq t).symm
  rw [Ex]
  simp only [List.length_cons] at hl
  show (Ex t).length < _
  omega
theorem og (s : Str) (hs : s.length ≤ 1048576) (Hp : List AObj) : AFun Tryz.prog 119 [Aa s] Hp (A4 (gapM s)) := by
 refine ACall.body [.tmp 2] [0] Tryz.func119 Tryz.ntmps119 (fun d => ?_)
 refine U1 ?_;refine ff ?_
 refine AW.loopC (α := Str) (fun x => ⟨27, A5 0 (Aa s) (A5 3 (Aa x) (fun _ => .any)), Hp, [], [], none⟩) (fun x => Dp x false = Dp s false ∧ x.length ≤ s.length) (fun x => x.length) (s) (by simp) (StLe.refl _) rfl (fun x hx => ?_)
 refine Fc ?_;refine B8 ?_
 have hx2 := hx.2
 have htl := Ls x blanks
 refine Z53 ?_;refine R.call Tryz.call140 (Ua x blanks (by omega) (by decide) Qg _) ?_;refine R.scutL (runN x blanks) jU (Qf _ _) (Nat.le_refl _) (ha := Qe x blanks) ?_
 rw [bo]
 refine ff ?_;refine Z11 ?_;refine R.seql ?_;refine Z13 ?_;refine G.sindex 0 ((Lib.trimLeftS x blanks).headD 0) jU (fun hB => Ok (Y1 hB))  ?_;refine Rh ?_;refine R.fin [0, 3, 15] ?_
 refine W.cond (fun ht15 => ?_) (fun ht15 => ?_)
 ·have he := ga hx.1 ht15
  refine Z0 ?_;refine R.slen jU ?_;refine Av ?_;refine R.slen jU ?_;refine R.sub64 ?_;refine Z23 ?_;refine K.thR ?_;refine K.blR ?_;refine K.lpR ?_;exact K.fin (V.one V.tmp) ⟨by rw [show ((s.length : Int) - (Lib.trimLeftS x blanks).length) = (gapM s : Int) by unfold gapM; rw [he]; omega], rfl⟩
 have he := ll hx.1 ht15
 refine Ty ?_;refine R.call Tryz.call143 (c143 (Lib.trimLeftS x blanks) [10] (by omega) _) ?_;refine Z52 ?_;refine R.extract ?_;refine ff ?_;refine K.blN ?_;exact K.lpN _ ⟨he.1, by omega⟩ he.2 (StCut.of_eq rfl)

def Bz (s of : Str) : Str := s.take (runN s of)
theorem En (s of : Str) : (Bz s of).length ≤ s.length := by unfold Bz; simp; omega
def J1 (s : Str) : Int × Str × Int × Int :=
 if Do (Bz s tails) then (2, Bz s tails, (Bz s tails).length, 0) else if !Cf (Bz s tails) then (0, [], 0, 3) else (1, Bz s tails, (Bz s tails).length, 0)
abbrev br (r : Int × Str × Int × Int) : AV := .tup [A4 r.1, Aa r.2.1, A4 r.2.2.1, A4 r.2.2.2]
theorem Ru : ∀ c ∈ tails, c.toNat < 128 := by decide
theorem O5 : ∀ c ∈ letters, c.toNat < 128 := by decide
theorem qt (s : Str) (hs : s.length ≤ 1048576) (Hp : List AObj) : AFun Tryz.prog 150 [Aa s] Hp (br (J1 s)) := by
 refine ACall.body [.tmp 2, .tmp 3, .tmp 4, .tmp 5] [0] Tryz.func150 Tryz.ntmps150 (fun d => ?_)
 refine Z3 ?_;refine au ?_;refine Z27 ?_;refine R.call Tryz.call140 (Ua s tails hs (by decide) Ru _) ?_;refine R.scutH (runN s tails) jU (Nat.zero_le _) (Qf _ _) (hb := Qe s tails) ?_;refine Bg ?_;refine R.fin [6] ?_;refine Z75 ?_
 refine R.call Tryz.call141 (oa (Bz s tails) (by have := En s tails; omega) _) ?_
 refine Bg ?_;refine R.fin [6, 11] ?_
 refine W.cond (fun ht11 => ?_) (fun ht11 => ?_)
 ·refine B8 ?_
  have hwl := En s tails
  refine Z53 ?_;refine R.slen jU ?_;refine Tz ?_;refine Z60 ?_;exact K.fin (V.four V.tmp V.tmp V.tmp V.tmp) ⟨by simp only [J1, ht11, if_true, if_false, Bool.false_eq_true]; try rfl, rfl⟩
 refine Z0 ?_
 refine R.call Tryz.call108 (be (Bz s tails) (by have := En s tails; omega) _) ?_
 refine R.not ?_;refine Bg ?_;refine R.fin [6, 17] ?_
 refine W.cond (fun ht17 => ?_) (fun ht17 => ?_)
 ·refine Z3 ?_;refine Xc ?_;refine Z60 ?_;exact np
 refine Z16 ?_;refine B8 ?_
 have hwl := En s tails
 refine Z53 ?_;refine R.slen jU ?_;refine Tz ?_;refine AW.ret ?_;exact np

def Qh (s : Str) : Int × Str × Int × Int := (3, Bz s digs, (Bz s digs).length, (Ea (Bz s digs)).2)
theorem qu (s : Str) (hs : s.length ≤ 1048576) (Hp : List AObj) : AFun Tryz.prog 151 [Aa s] Hp (br (Qh s)) := by
 refine ACall.body [.tmp 2, .tmp 3, .tmp 4, .tmp 5] [0] Tryz.func151 Tryz.ntmps151 (fun d => ?_)
 refine Z3 ?_;refine au ?_;refine Z27 ?_;refine R.call Tryz.call140 (Ua s digs hs (by decide) J0 _) ?_;refine R.scutH (runN s digs) jU (Nat.zero_le _) (Qf _ _) (hb := Qe s digs) ?_;refine Bg ?_;refine R.fin [6] ?_;refine Z0 ?_
 refine R.call Tryz.call175 (c175 (Bz s digs) (by have := En s digs; omega) _) ?_
 refine Z52 ?_;refine Z10 ?_;refine Bg ?_;refine R.fin [6, 8] ?_;refine Z27 ?_;refine R.slen jU ?_;refine Av ?_;refine Tz ?_;refine AW.ret ?_;exact K.fin (V.four V.tmp V.tmp V.tmp V.tmp) ⟨rfl, rfl⟩

/-- Behind a mark: how many bytes up to the one that jy, it too. -/
def Bn : Str → Option Nat
 | [] => none
 | [c] => if c == 39 then some 1 else none
 | c :: d :: t => if c == 39 then (if d == 39 then (Bn t).map (· + 2) else some 1) else (Bn (d :: t)).map (· + 1)
theorem L7 {c : UInt8} (h : ¬ (c == 39) = true) (r : Str) : Bn (c :: r) = (Bn r).map (· + 1) := by
 cases r with
 | nil => simp [Bn, h]
 | cons d t => rw [Bn, if_neg h]
theorem Me (r : Str) : Bn (39 :: r) = match r with
   | [] => some 1
   | d :: t => if d == 39 then (Bn t).map (· + 2) else some 1 := by
 cases r with
 | nil => rfl
 | cons d t => rw [Bn]; simp
def Ga (s : Str) : Int × Str × Int × Int :=
 match Bn (s.drop 1) with
 | none => (0, [], 0, 7)
 | some n => if (Ea (s.take (n + 1))).2 != 0 then (0, [], 0, 3) else (4, (Ea (s.take (n + 1))).1.s, ((n + 1 : Nat) : Int), 0)
theorem Mf : ∀ l : Str, Lib.indexByte l 39 = -1 → Bn l = none
 | [], _ => by rw [Bn]
 | c :: r, h => by
  rw [Lib.indexByte] at h
  split at h
  ·omega
  rename_i hc
  rw [L7 hc]
  split at h
  ·rename_i hi
   rw [Mf r (by simpa using hi)]
   rfl
  have := Lib.indexByte_ge r 39; omega
theorem Rv : ∀ (l : Str) (k : Nat), Lib.indexByte l 39 = (k : Int) → k < l.length ∧ Bn l = (Bn (l.drop k)).map (· + k) ∧ l[k]? = some 39
 | [], k, h => by rw [Lib.indexByte] at h; omega
 | c :: r, k, h => by
  rw [Lib.indexByte] at h
  split at h
  ·rename_i hc
   have : k = 0 := by omega
   subst this
   refine ⟨by simp, ?_, by simpa using hc⟩
   rw [List.drop_zero]
   cases Bn (c :: r) <;> simp
  rename_i hc
  split at h
  ·omega
  have hg := Lib.indexByte_ge r 39
  rename_i hi
  have hi' : Lib.indexByte r 39 ≠ -1 := by simpa using hi
  obtain ⟨m, rfl⟩ : ∃ m, k = m + 1 := ⟨k - 1, by omega⟩
  obtain ⟨h1, h2, h3⟩ := Rv r m (by omega)
  refine ⟨by simpa using h1, ?_, by simpa using h3⟩
  rw [L7 hc, List.drop_succ_cons, h2]
  cases Bn (r.drop m) <;> simp [Nat.add_assoc]
theorem H7 {s : Str} {n : Nat} {c : UInt8} (h : s[n]? = some c) : s.drop n = c :: s.drop (n + 1) := by
 obtain ⟨hlt, he⟩ := List.getElem?_eq_some_iff.1 h
 rw [List.drop_eq_getElem_cons hlt, he]
theorem Jh {s : Str} {n : Nat} (h : n < s.length) : s[n]? = some (s.getD n 0) := by
 rw [List.getD_eq_getElem?_getD, List.getElem?_eq_getElem h]; rfl
theorem bt {s : Str} {x k : Nat} (h : (decide (((x : Int) + ((k : Int) + 1)) < s.length) == true) = true) : x + (k + 1) < s.length := by
 have := of_decide_eq_true (by simpa using h : decide (((x : Int) + ((k : Int) + 1)) < s.length) = true)
 omega
/-- What a round of the search for the mark that jy comes to. -/
theorem Uj {s : Str} {x k : Nat} (h1 : 1 ≤ x) (hx : Bn (s.drop 1) = (Bn (s.drop x)).map (· + (x - 1))) (hk : Lib.indexByte (s.drop x) 39 = (k : Int)) :
  x + (k + 1) ≤ s.length ∧
   ((decide (((x : Int) + ((k : Int) + 1)) < s.length) && (((s.getD (x + (k + 1)) 0).toNat : Int) == 39)) = true → x + (k + 1) + 1 ≤ s.length ∧ Bn (s.drop 1) = (Bn (s.drop (x + (k + 1) + 1))).map (· + (x + (k + 1) + 1 - 1))) ∧
   ((decide (((x : Int) + ((k : Int) + 1)) < s.length) && (((s.getD (x + (k + 1)) 0).toNat : Int) == 39)) = false → Bn (s.drop 1) = some (x + k)) := by
 obtain ⟨g1, g2, g3⟩ := Rv _ k hk
 rw [List.length_drop] at g1
 rw [List.getElem?_drop] at g3
 have e0 : (s.drop x).drop k = 39 :: s.drop (x + (k + 1)) := by rw [List.drop_drop, H7 g3, Nat.add_assoc]
 rw [e0] at g2
 refine ⟨by omega, fun h => ?_, fun h => ?_⟩
 ·simp only [Bool.and_eq_true, decide_eq_true_eq, beq_iff_eq] at h
  have hlt : x + (k + 1) < s.length := by omega
  have hc : s.getD (x + (k + 1)) 0 = 39 := UInt8.toNat_inj.1 (by have : (39 : UInt8).toNat = 39 := rfl; omega)
  have hd := H7 (Jh hlt)
  rw [hc] at hd
  refine ⟨by omega, ?_⟩
  rw [hx, g2, hd, Me]
  simp only [beq_self_eq_true, if_true]
  cases Bn (s.drop (x + (k + 1) + 1)) with
  | none => rfl
  | some m => simp; omega
 rw [hx, g2, Me]
 cases hd : s.drop (x + (k + 1)) with
 | nil => simp; omega
 | cons d t =>
  have hlt : x + (k + 1) < s.length := by
   have := congrArg List.length hd
   simp at this; omega
  have hg := H7 (Jh hlt)
  rw [hd] at hg
  injection hg with hg1 hg2
  have hne : (d == 39) = false := by
   rw [hg1, beq_eq_false_iff_ne]
   intro e
   rw [e] at h
   simp at h
   omega
  simp [hne]; omega
theorem qv (s : Str) (h0 : 1 ≤ s.length) (hs : s.length ≤ 1048576) (Hp : List AObj) : AFun Tryz.prog 152 [Aa s] Hp (br (Ga s)) := by
 refine ACall.body [.tmp 2, .tmp 3, .tmp 4, .tmp 5] [0] Tryz.func152 Tryz.ntmps152 (fun d => ?_)
 refine Z3 ?_;refine au ?_;refine Z3 ?_;refine R.fin [0, 6] ?_
 refine AW.loopC (α := Nat) (fun x => ⟨44, A5 0 (Aa s) (A5 6 (A4 (x : Nat)) (fun _ => .any)), Hp, [], [], none⟩) (fun x => 1 ≤ x ∧ x ≤ s.length ∧ Bn (s.drop 1) = (Bn (s.drop x)).map (· + (x - 1))) (fun x => s.length - x) (1) ⟨Nat.le_refl _, h0, by cases Bn (s.drop 1) <;> rfl⟩ (StLe.refl _) rfl (fun x hx => ?_)
 refine Fc ?_;refine Z27 ?_;refine R.scutL x jU hx.2.1 (Nat.le_refl _) ?_;refine R.call Tryz.call176 (qb (s.drop x) 39 _) ?_;refine Bg ?_;refine R.fin [0, 6, 7] ?_;refine Xp ?_;refine R.fin [0, 6, 7, 15] ?_
 refine W.cond (fun ht15 => ?_) (fun ht15 => ?_)
 ·have hk : Lib.indexByte (s.drop x) 39 = -1 := by have := Lib.indexByte_ge (s.drop x) 39; simp at ht15; omega
  have hcq : Bn (s.drop 1) = none := by rw [hx.2.2, Mf _ hk]; rfl
  refine Z3 ?_;refine Xc ?_;refine Z24 ?_;refine K.blR ?_;refine K.lpR ?_;exact K.fin (V.four V.tmp V.tmp V.tmp V.tmp) ⟨by simp only [Ga, hcq], rfl⟩
 obtain ⟨k0, hk⟩ := Int.eq_ofNat_of_zero_le (show 0 ≤ Lib.indexByte (s.drop x) 39 by simp at ht15; omega)
 rw [hk]
 refine Qa ?_
 have hst := Uj hx.1 hx.2.2 hk
 refine Z53 ?_;refine R.add64 ?_;refine Z62 ?_;refine R.fin [0, 6] ?_;refine Z96 ?_;refine R.slen jU ?_;refine R.lss ?_;refine Z93 ?_;refine G.sindex (x + (k0 + 1)) (s.getD (x + (k0 + 1)) 0) jU (fun hB => Jh (bt hB))  ?_;refine Z49 ?_;refine R.fin [0, 6, 29] ?_
 refine W.cond (fun ht29 => ?_) (fun ht29 => ?_)
 ·have hon := hst.2.1 ht29
  refine Z0 ?_;refine Z62 ?_;refine R.fin [0, 6] ?_;refine Z58 ?_;refine K.blE ?_;exact K.lpN ((x + (k0 + 1)) + 1) ⟨by omega, hon.1, hon.2⟩ (by omega) (StCut.of_eq rfl)
 have hcq := hst.2.2 ht29
 refine U0 ?_;refine R.scutH (x + (k0 + 1)) jU (Nat.zero_le _) hst.1 ?_
 refine R.call Tryz.call175 (c175 (s.take (x + (k0 + 1))) (by simp; omega) _) ?_
 refine Z52 ?_;refine Z10 ?_;refine Bg ?_;refine R.fin [6, 8, 9] ?_;refine Rl ?_;refine R.fin [6, 8, 40] ?_
 refine W.cond (fun ht40 => ?_) (fun ht40 => ?_)
 ·refine Z3 ?_;refine Xc ?_;refine Z24 ?_;refine K.blR ?_;refine K.lpR ?_;exact K.fin (V.four V.tmp V.tmp V.tmp V.tmp) ⟨by simp only [Ga, hcq, show x + k0 + 1 = x + (k0 + 1) by omega]; rw [if_pos ht40], rfl⟩
 refine Z6 ?_;refine W.draw [0, 1, 0, 0, 11, 31, 63] 5 Ad (by kernel_rfl) ?_;refine D.fieldAddrPtr (fo := 2) jU Tryz.sizeOf9 ?_;refine D.loadOwn jA ?_;refine D.move ?_;refine D.assign ?_;refine aq ?_;refine Z92 ?_;refine AW.ret ?_;refine K.blR ?_;refine K.lpR ?_;exact K.fin (V.four V.tmp V.tmp V.tmp V.tmp) ⟨by simp only [Ga, hcq, show x + k0 + 1 = x + (k0 + 1) by omega]; rw [if_neg (by rw [ht40]; simp)]; rfl, rfl⟩

def Vm : Str := [60, 61, 32, 62, 61, 32, 33, 61]
def Vn : Str := [40, 41, 44, 59, 61, 60, 62, 43, 45, 42, 47, 37, 38, 58]
def Mg (s : Str) : Int × Str × Int × Int :=
 if (decide ((1 : Int) < s.length) && Lib.contains Vm (s.take 2)) && (((s.getD 1 0).toNat : Int) == 61) then (5, s.take 2, 2, 0)
 else if Lib.contains Vn (s.take 1) then (5, s.take 1, 1, 0) else (0, [], 0, 7)
theorem Y2 {s : Str} {b c : Bool} (h : (((decide ((1 : Int) < s.length) && b) && c) == true) = true) : 1 < s.length := by
 revert h
 cases hd : decide ((1 : Int) < s.length) with
 | true => intro _; have := of_decide_eq_true hd; omega
 | false => intro h; simp at h
theorem Mh {s : Str} {b : Bool} (h : ((decide ((1 : Int) < s.length) && b) == true) = true) : 1 < s.length := Y2 (c := true) (by rw [Bool.and_true]; exact h)
theorem Uk {s : Str} (h : (decide ((1 : Int) < s.length) == true) = true) : 2 ≤ s.length := Mh (b := true) (by rw [Bool.and_true]; exact h)
theorem qw (s : Str) (h0 : 1 ≤ s.length) (Hp : List AObj) : AFun Tryz.prog 153 [Aa s] Hp (br (Mg s)) := by
 refine ACall.body [.tmp 2, .tmp 3, .tmp 4, .tmp 5] [0] Tryz.func153 Tryz.ntmps153 (fun d => ?_)
 refine Z3 ?_;refine au ?_;refine Z11 ?_;refine Xh ?_;refine Z13 ?_;refine G.scutH 2 jU (fun _ => Nat.zero_le _) (fun hB => Uk hB) ?_;refine G.call Tryz.call142 (fun hB => Xv Vm (s.take 2) (by decide) _) ?_;refine G8 ?_;refine Z13 ?_;refine G.sindex 1 (s.getD 1 0) jU (fun hB => Jh (Mh hB))  ?_;refine Z49 ?_;refine R.fin [0, 18] ?_
 refine W.cond (fun ht18 => ?_) (fun ht18 => ?_)
 ·have h2 : 2 ≤ s.length := by revert ht18; cases hd : decide ((1 : Int) < s.length) with
   | true => intro _; have := of_decide_eq_true hd; omega
   | false => intro h; simp at h
  refine W.draw [0, 1, 0, 7, 15, 31] 3 Ad (by kernel_rfl) ?_;refine D.move ?_;refine D.scutH 2 jU (Nat.zero_le _) h2 ?_;refine aq ?_;refine Xc ?_;refine Z24 ?_;exact K.fin (V.four V.tmp V.tmp V.tmp V.tmp) ⟨by simp only [Mg, ht18, if_true, if_false, Bool.false_eq_true]; try rfl, rfl⟩
 refine Z6 ?_;refine Z11 ?_;refine R.scutH 1 jU (Nat.zero_le _) h0 ?_;refine R.call Tryz.call142 (Xv Vn (s.take 1) (by decide) _) ?_;refine R.fin [0, 23] ?_
 refine W.cond (fun ht23 => ?_) (fun ht23 => ?_)
 ·refine W.draw [0, 1, 0, 7, 15, 31] 3 Ad (by kernel_rfl) ?_;refine D.move ?_;refine D.scutH 1 jU (Nat.zero_le _) h0 ?_;refine aq ?_;refine Xc ?_;refine Z24 ?_;exact nq
 refine Z6 ?_;refine Z3 ?_;refine Xc ?_;refine AW.ret ?_;exact nq

def B6 (s : Str) : Int × Str × Int × Int :=
 if decide (0 < Jg (s.take 1) letters) then J1 s else if decide (0 < Jg (s.take 1) digs) then Qh s else if ((s.getD 0 0).toNat : Int) == 39 then Ga s else Mg s
theorem qx (s : Str) (h0 : 1 ≤ s.length) (hs : s.length ≤ 1048576) (Hp : List AObj) : AFun Tryz.prog 120 [Aa s] Hp (br (B6 s)) := by
 refine ACall.body [.tmp 2, .tmp 3, .tmp 4, .tmp 5] [0] Tryz.func120 Tryz.ntmps120 (fun d => ?_)
 refine Z3 ?_;refine au ?_;refine Z75 ?_;refine R.scutH 1 jU (Nat.zero_le _) h0 ?_
 refine R.call Tryz.call140 (Ua (s.take 1) letters (by simp; omega) (by decide) O5 _) ?_
 refine R.gtr ?_;refine Bg ?_;refine R.fin [0, 6] ?_
 refine W.cond (fun ht6 => ?_) (fun ht6 => ?_)
 ·refine Z0 ?_;refine R.call Tryz.call150 (qt s hs _) ?_;refine Z17 ?_;refine Z17 ?_;refine Tz ?_;refine Z60 ?_;exact K.fin (V.four V.tmp V.tmp V.tmp V.tmp) ⟨by simp only [B6, ht6, if_true, if_false, Bool.false_eq_true], rfl⟩
 refine Z0 ?_;refine R.scutH 1 jU (Nat.zero_le _) h0 ?_
 refine R.call Tryz.call140 (Ua (s.take 1) digs (by simp; omega) (by decide) J0 _) ?_
 refine R.gtr ?_;refine Bg ?_;refine R.fin [0, 17] ?_
 refine W.cond (fun ht17 => ?_) (fun ht17 => ?_)
 ·refine Z0 ?_;refine R.call Tryz.call151 (qu s hs _) ?_;refine Z17 ?_;refine Z17 ?_;refine Tz ?_;refine Z60 ?_;exact K.fin (V.four V.tmp V.tmp V.tmp V.tmp) ⟨by simp only [B6, ht6, ht17, if_true, if_false, Bool.false_eq_true], rfl⟩
 refine Z0 ?_;refine R.sindex 0 (s.getD 0 0) jU (Jh h0)  ?_;refine Z20 ?_;refine R.fin [0, 28] ?_
 refine W.cond (fun ht28 => ?_) (fun ht28 => ?_)
 ·refine Z0 ?_;refine R.call Tryz.call152 (qv s h0 hs _) ?_;refine Z17 ?_;refine Z17 ?_;refine Tz ?_;refine Z60 ?_;exact nr
 refine Z16 ?_;refine Z0 ?_;refine R.call Tryz.call153 (qw s h0 _) ?_;refine Z17 ?_;refine Z17 ?_;refine Tz ?_;refine AW.ret ?_;exact nr

structure Tok where
 kind : Int
 text : Str
 at_ : Nat
 deriving DecidableEq
abbrev Ff (t : Tok) : AV := .agg [.v (.int .i64 t.kind), .v (sv t.text), .v (.int .i64 (t.at_ : Int))]
abbrev Vo (l : List Tok) : AV := .slice false 3 (l.map Ff)
theorem Vp {c : UInt8} {of : Str} (h : decide (0 < Jg ([c] : Str) of) = true) : of.contains c = true := by
 have := of_decide_eq_true h
 unfold Jg Lib.trimLeftS at this
 rw [List.dropWhile_cons] at this
 cases hc : of.contains c with
 | true => rfl
 | false => rw [hc] at this; simp at this
theorem Mi {c : UInt8} {r of : Str} (h : of.contains c = true) : 1 ≤ (Bz (c :: r) of).length := by
 unfold Bz
 rw [bq, List.takeWhile_cons, h]
 simp
theorem O6 : ∀ c : UInt8, letters.contains c = true → tails.contains c = true := by
 have h : ((List.range 256).all fun n => !letters.contains (UInt8.ofNat n) || tails.contains (UInt8.ofNat n)) = true := by kernel_rfl
 intro c hc
 have := List.all_eq_true.1 h c.toNat (List.mem_range.2 c.toNat_lt)
 rw [show UInt8.ofNat c.toNat = c by simp, hc] at this
 simpa using this
theorem Mj : ∀ (l : Str) (n : Nat), Bn l = some n → 1 ≤ n ∧ n ≤ l.length
 | [], n, h => by cases h
 | [c], n, h => by
  rw [Bn] at h
  split at h
  ·injection h with h; subst h; simp
  cases h
 | c :: d :: t, n, h => by
  rw [Bn] at h
  split at h
  ·split at h
   ·rw [Option.map_eq_some_iff] at h
    obtain ⟨m, hm, rfl⟩ := h
    have := Mj t m hm
    simp only [List.length_cons]; omega
   injection h with h; subst h; simp
  rw [Option.map_eq_some_iff] at h
  obtain ⟨m, hm, rfl⟩ := h
  have := Mj (d :: t) m hm
  simp only [List.length_cons] at this ⊢; omega
theorem Vq {s : Str} (h0 : 1 ≤ s.length) (h : (B6 s).2.2.2 = 0) : ∃ n : Nat, (B6 s).2.2.1 = (n : Int) ∧ 1 ≤ n ∧ n ≤ s.length := by
 cases s with
 | nil => simp at h0
 | cons c r =>
  unfold B6 at h ⊢
  split at h
  ·rename_i h1
   rw [if_pos h1]
   have hc := O6 c (Vp h1)
   have hw := Mi (r := r) hc
   have hl := En (c :: r) tails
   unfold J1 at h ⊢
   split at h
   ·rename_i h2; rw [if_pos h2]; exact ⟨_, rfl, hw, hl⟩
   rename_i h2
   rw [if_neg h2]
   split at h
   ·exact ax
   rename_i h3; rw [if_neg h3]; exact ⟨_, rfl, hw, hl⟩
  rename_i h1
  rw [if_neg h1]
  split at h
  ·rename_i h2
   rw [if_pos h2]
   exact ⟨_, rfl, Mi (r := r) (Vp h2), En _ _⟩
  rename_i h2
  rw [if_neg h2]
  split at h
  ·rename_i h3
   rw [if_pos h3]
   unfold Ga at h ⊢
   split at h
   ·exact ax
   rename_i n hn
   split at h
   ·exact ax
   rename_i h4
   simp only [if_neg h4]
   have := Mj _ n hn
   simp at this
   exact ⟨n + 1, rfl, by omega, by simp only [List.length_cons]; omega⟩
  rename_i h3
  rw [if_neg h3]
  unfold Mg at h ⊢
  split at h
  ·rename_i h4
   rw [if_pos h4]
   refine ⟨2, rfl, by omega, ?_⟩
   simp only [Bool.and_eq_true, decide_eq_true_eq] at h4
   have := h4.1.1
   omega
  rename_i h4
  rw [if_neg h4]
  split at h
  ·rename_i h5; rw [if_pos h5]; exact ⟨1, rfl, by omega, h0⟩
  exact ax
/-- The words from a place on, up to one that is wrong. -/
def Eo : Nat → Nat → Str → List (Tok × Int)
 | 0, _, _ => []
 | f + 1, k, s => if s == [] then [] else
  (⟨(B6 s).1, (B6 s).2.1, k⟩, (B6 s).2.2.2) :: (if (B6 s).2.2.2 == 0 then Eo f (k + (B6 s).2.2.1.toNat + gapM (s.drop (B6 s).2.2.1.toNat)) ((s.drop (B6 s).2.2.1.toNat).drop (gapM (s.drop (B6 s).2.2.1.toNat))) else [])
def B0 (s : Str) : List (Tok × Int) := Eo (s.length + 1) (gapM s) (s.drop (gapM s))
theorem Ul (s : Str) : gapM s ≤ s.length := Nat.sub_le _ _
def wAt (s : Str) (k : Nat) : Int × Str × Int × Int := B6 (s.drop k)
theorem Hw {f k : Nat} {s : Str} (h : s ≠ []) : Eo (f + 1) k s = (⟨(B6 s).1, (B6 s).2.1, k⟩, (B6 s).2.2.2) :: (if (B6 s).2.2.2 == 0 then Eo f (k + (B6 s).2.2.1.toNat + gapM (s.drop (B6 s).2.2.1.toNat)) ((s.drop (B6 s).2.2.1.toNat).drop (gapM (s.drop (B6 s).2.2.1.toNat))) else []) := by
 rw [Eo, if_neg (by simpa using h)]
/-- Where the reader is, with k words behind it. -/
def L8 (s : Str) (k p : Nat) : Prop := (∃ f, (s.drop p).length < f ∧ (B0 s).drop k = Eo f p (s.drop p)) ∧ p ≤ s.length ∧ ∀ j, j < k → ∃ it, (B0 s)[j]? = some it ∧ it.2 = 0
theorem Um (s : Str) : L8 s 0 (gapM s) := ⟨⟨s.length + 1, by rw [List.length_drop]; omega, by rw [List.drop_zero]; rfl⟩, Ul s, fun j hj => by omega⟩
theorem Y3 {s : Str} {k p : Nat} (h : L8 s k p) : k ≤ (B0 s).length := by
 refine Classical.byContradiction fun hn => ?_
 obtain ⟨it, hit, _⟩ := h.2.2 (B0 s).length (by omega)
 rw [List.getElem?_eq_none (Nat.le_refl _)] at hit
 cases hit
theorem Y4 {s : Str} {k p : Nat} (h : L8 s k p) (hp : s.length ≤ p) : k = (B0 s).length ∧ ∀ it ∈ B0 s, it.2 = 0 := by
 have hl := Y3 h
 obtain ⟨⟨f, _, hd⟩, _, h0⟩ := h
 have e : s.drop p = [] := by rw [List.drop_eq_nil_iff]; exact hp
 rw [e] at hd
 have : (B0 s).drop k = [] := by rw [hd]; cases f <;> rfl
 rw [List.drop_eq_nil_iff] at this
 have hk : k = (B0 s).length := by omega
 refine ⟨hk, fun it hit => ?_⟩
 obtain ⟨j, hj, rfl⟩ := List.mem_iff_getElem.1 hit
 obtain ⟨it', h1, h2⟩ := h0 j (by omega)
 rw [List.getElem?_eq_getElem hj] at h1
 injection h1 with h1
 rw [h1]; exact h2
theorem Mk {s : Str} {k p : Nat} (h : L8 s k p) (hp : p < s.length) : ∃ f, (s.drop p).length < f + 1 ∧ (B0 s).drop k = Eo (f + 1) p (s.drop p) ∧ s.drop p ≠ [] := by
 obtain ⟨⟨f, hf, hd⟩, _, _⟩ := h
 obtain ⟨g, rfl⟩ : ∃ g, f = g + 1 := ⟨f - 1, by omega⟩
 exact ⟨g, hf, hd, fun e => by rw [List.drop_eq_nil_iff] at e; omega⟩
theorem J2 {s : Str} {k p : Nat} (h : L8 s k p) (hp : p < s.length) : (B0 s)[k]? = some (⟨(wAt s p).1, (wAt s p).2.1, p⟩, (wAt s p).2.2.2) := by
 obtain ⟨f, _, hd, hne⟩ := Mk h hp
 rw [Hw hne] at hd
 have := congrArg (·[0]?) hd
 unfold wAt
 simpa using this
theorem Un {s : Str} {k p : Nat} (h : L8 s k p) (hp : p < s.length) (he : (wAt s p).2.2.2 = 0) : ∃ n : Nat, (wAt s p).2.2.1 = (n : Int) ∧ 1 ≤ n ∧ p + n ≤ s.length ∧ L8 s (k + 1) (p + n + gapM (s.drop (p + n))) := by
 have hi := J2 h hp
 obtain ⟨f, hf, hd, hne⟩ := Mk h hp
 obtain ⟨n, hn, h1, h2⟩ := Vq (s := s.drop p) (by rw [List.length_drop]; omega) he
 rw [List.length_drop] at h2 hf
 have hg := Ul (s.drop (p + n))
 rw [List.length_drop] at hg
 refine ⟨n, hn, h1, by omega, ⟨f, by rw [List.length_drop]; omega, ?_⟩, by omega, fun j hj => ?_⟩
 ·rw [Hw hne] at hd
  have := congrArg (·.drop 1) hd
  simp only [List.drop_drop, List.drop_succ_cons, List.drop_zero] at this
  unfold wAt at he
  rw [this, hn, he]
  simp only [beq_self_eq_true, if_true, Int.toNat_natCast, List.drop_drop]
 rcases Nat.lt_or_ge j k with h' | h'
 ·exact h.2.2 j h'
 have : j = k := by omega
 subst this
 exact ⟨_, hi, he⟩
theorem qy (l : Nat) (s : Str) (hs : s.length ≤ 1048576) (U F : Nat → List AObj) (hlen : ∀ k, (U k).length = (U 0).length) (hll : l < (U 0).length)
  (hy : ∀ k it, (B0 s)[k]? = some it → AYield Tryz.prog l [Ff it.1, A4 it.2] (U k) (fun b H' => if it.2 = 0 then b = true ∧ H' = U (k + 1) else b = false ∧ H' = F k)) : ACall Tryz.prog 118 [.yield l, .ro [Aa s]] (U 0) (fun r H' => ((∀ it ∈ B0 s, it.2 = 0) ∧ H' = U (B0 s).length) ∨ ∃ k it, (B0 s)[k]? = some it ∧ it.2 ≠ 0 ∧ (∀ j, j < k → ∃ it', (B0 s)[j]? = some it' ∧ it'.2 = 0) ∧ H' = F k) := by
 refine ACall.body [] [0, 1] Tryz.func118 Tryz.ntmps118 (fun d => ?_)
 refine Z85 ?_;refine R.call Tryz.call119 (og s hs _) ?_;refine Bg ?_;refine R.fin [0, 1, 3] ?_
 refine AW.loopC (α := Nat × Nat) (fun x => ⟨44, A5 0 (.yield l) (A5 1 (.ro [Aa s]) (A5 3 (A4 (x.2 : Nat)) (fun _ => .any))), U x.1, [], [], none⟩) (fun x => L8 s x.1 x.2) (fun x => s.length - x.2) (0, gapM s) (Um s) (StLe.refl _) rfl (fun x hx => ?_)
 obtain ⟨k, p⟩ := x
 simp only at hx ⊢
 refine Z11 ?_;refine Di ?_;refine R.slen jU ?_;refine R.lss ?_;refine R.fin [0, 1, 3, 13] ?_
 refine W.cond (fun ht13 => ?_) (fun ht13 => ?_)
 ·have hpl : p < s.length := by simpa using ht13
  refine Z6 ?_;refine Z73 ?_;refine Di ?_;refine Av ?_;refine R.scutL p jU hx.2.1 (Nat.le_refl _) ?_
  refine R.call Tryz.call120 (qx (s.drop p) (by rw [List.length_drop]; omega) (by rw [List.length_drop]; omega) _) ?_
  refine Z52 ?_;refine Z17 ?_;refine Z7 ?_;refine Z7 ?_;refine R.fin [0, 1, 3, 4, 5, 6, 7] ?_;refine Z11 ?_;refine Z53 ?_;refine Av ?_;refine U4 ?_;refine Av ?_;refine R.yield0 (hy k _ (J2 hx hpl)) ?_
  intro b V hV hb
  refine Xn ?_;refine Rh ?_;refine R.fin [0, 1, 3, 6, 40] ?_
  refine W.cond (fun ht40 => ?_) (fun ht40 => ?_)
  ·have hbe : (B6 (s.drop p)).2.2.2 ≠ 0 ∧ V = F k := by
    split at hb
    ·rename_i h0
     obtain ⟨rfl, _⟩ := hb
     have h0' : (B6 (s.drop p)).2.2.2 = 0 := h0
     simp [h0'] at ht40
    rename_i h0
    exact ⟨h0, hb.2⟩
   refine Z24 ?_;refine Z4 ?_;refine K.lpR ?_;exact K.fin .nores (hp := .inr ⟨k, _, J2 hx hpl, hbe.1, hx.2.2, hbe.2⟩)
  have hbe : (B6 (s.drop p)).2.2.2 = 0 ∧ V = U (k + 1) := by
   split at hb
   ·rename_i h0
    exact ⟨h0, hb.2⟩
   obtain ⟨rfl, _⟩ := hb
   simp at ht40
  obtain ⟨n, hn, hn1, hnl, hnx⟩ := Un hx hpl hbe.1
  unfold wAt at hn
  rw [hn]
  have hgl := Ul (s.drop (p + n))
  rw [List.length_drop] at hgl
  refine Ty ?_;refine Av ?_;refine Z62 ?_;refine R.fin [0, 1, 3] ?_;refine Z9 ?_;refine Z31 ?_;refine Di ?_;refine Av ?_;refine R.scutL (p + n) jU hnl (Nat.le_refl _) ?_
  refine R.call Tryz.call119 (og (s.drop (p + n)) (by rw [List.length_drop]; omega) _) ?_
  refine Z62 ?_;refine R.fin [0, 1, 3] ?_;exact K.lpN (k + 1, p + n + gapM (s.drop (p + n))) hnx (by show s.length - _ < s.length - p; omega) (StCut.of_eq (by rw [hbe.2]; simp))
 have hpl : s.length ≤ p := by simpa using ht13
 obtain ⟨hk, hz⟩ := Y4 hx hpl
 refine Z58 ?_;refine K.lpE ?_;exact K.finN .nores (hp := .inl ⟨hz, by rw [hk]⟩)

theorem c86 (s : Str) (Hp : List AObj) : AFun Tryz.prog 86 [Aa s] Hp (.fn (.func 118) [] [.ro [Aa s]]) := by
 refine ACall.body [.tmp 2] [0] Tryz.func86 Tryz.ntmps86 (fun d => ?_)
 refine Nz ?_;refine B8 ?_;refine Ik ?_;exact Z76

def Dl (s : Str) : List Tok × Int × Nat := if 4000 < s.length then ([], 3, 0) else
 match (B0 s).find? (fun it => it.2 != 0) with
 | some it => ([], it.2, it.1.at_)
 | none => ((B0 s).map (·.1) ++ [⟨0, [], s.length⟩], 0, 0)
theorem gb {s : Str} {k : Nat} {it : Tok × Int} (hit : (B0 s)[k]? = some it) (he : it.2 ≠ 0) (h0 : ∀ j, j < k → ∃ it', (B0 s)[j]? = some it' ∧ it'.2 = 0) : (B0 s).find? (fun it => it.2 != 0) = some it := by
 rw [List.find?_eq_some_iff_getElem]
 obtain ⟨hk, e⟩ := List.getElem?_eq_some_iff.1 hit
 refine ⟨by simpa using he, k, hk, e, fun j hj => ?_⟩
 obtain ⟨it', h1, h2⟩ := h0 j hj
 rw [List.getElem?_eq_getElem (by omega)] at h1
 injection h1 with h1
 rw [h1, h2]; rfl
theorem bu {s : Str} (h : ∀ it ∈ B0 s, it.2 = 0) : (B0 s).find? (fun it => it.2 != 0) = none := by
 rw [List.find?_eq_none]
 intro it hit
 simp [h it hit]
def Ot (s : Str) (k : Nat) : Int × Nat := match (B0 s)[k]? with | some it => (it.2, it.1.at_) | none => (0, 0)
theorem Ml : ∀ (f k : Nat) (s : Str), (Eo f k s).length ≤ f
 | 0, _, _ => Nat.zero_le _
 | f + 1, k, s => by
  rw [Eo]
  split
  ·exact Nat.zero_le _
  rw [List.length_cons]
  split
  ·have := Ml f (k + (B6 s).2.2.1.toNat + gapM (s.drop (B6 s).2.2.1.toNat)) ((s.drop (B6 s).2.2.1.toNat).drop (gapM (s.drop (B6 s).2.2.1.toNat)))
   omega
  simp
theorem Mm (s : Str) : (B0 s).length ≤ s.length + 1 := Ml _ _ _
def Gu (s : Str) (k : Nat) : List Tok := ((B0 s).take k).map (·.1)
theorem Kg (s : Str) (k : Nat) : (Gu s k).length ≤ s.length + 1 := by
 have := Mm s
 unfold Gu
 rw [List.length_map, List.length_take]
 omega
theorem Uo {s : Str} {k : Nat} {it : Tok × Int} (hit : (B0 s)[k]? = some it) : Gu s (k + 1) = Gu s k ++ [it.1] := by
 unfold Gu
 rw [List.take_succ, hit, List.map_append]
 rfl
theorem Y5 (s : Str) : Gu s (B0 s).length = (B0 s).map (·.1) := by unfold Gu; rw [List.take_length]
theorem Y6 {s : Str} {k : Nat} {it : Tok × Int} (hl4 : ¬ 4000 < s.length) (hit : (B0 s)[k]? = some it) (he : it.2 ≠ 0) (h0 : ∀ j, j < k → ∃ it', (B0 s)[j]? = some it' ∧ it'.2 = 0) : Dl s = ([], it.2, it.1.at_) := by
 unfold Dl
 rw [if_neg hl4, gb hit he h0]
theorem bv {s : Str} (hl4 : ¬ 4000 < s.length) (hz : ∀ it ∈ B0 s, it.2 = 0) : Dl s = (Gu s (B0 s).length ++ [⟨0, [], s.length⟩], 0, 0) := by
 unfold Dl
 rw [if_neg hl4, bu hz, Y5]
theorem gsn {U : List AObj} {i j : Nat} {x y : AObj} (h : U[i]? = some x) (hne : j ≠ i) : (U.set j y)[i]? = some x := by rw [List.getElem?_set_ne hne]; exact h
theorem c61 (s : Str) (hs : s.length ≤ 1048576) (Hp : List AObj) : AFun Tryz.prog 61 [Aa s] Hp (.tup [Vo (Dl s).1, .agg [A4 (Dl s).2.1, A4 (Dl s).2.2]]) := by
 refine ACall.body [.cell 2 91, .cell 3 60] [0, 5, 6] Tryz.func61 Tryz.ntmps61 (fun d => ?_)
 refine Z21 ?_;refine Iy ?_;refine R.fin [0, 2, 3, 5, 6] ?_;refine Z11 ?_;refine Xh ?_;refine R.fin [0, 2, 3, 5, 6, 9] ?_
 refine W.cond (fun ht9 => ?_) (fun ht9 => ?_)
 ·have hlm : Dl s = ([], 3, 0) := by unfold Dl; rw [if_pos (by simp at ht9; omega)]
  refine kb ?_;refine E3 ?_;refine R.nilOwn 0 3 ?_;refine af ?_;refine Z24 ?_;exact K.fin (V.two (V.cell jA) (V.cellN jA jS)) ⟨by rw [hlm]; rfl, rfl⟩
 have hl4 : ¬ 4000 < s.length := by simp at ht9; omega
 refine Z6 ?_;refine Z21 ?_;refine R.fin [0, 2, 3, 4, 5, 6] ?_;refine Z15 ?_;refine R.nilOwn 2 3 ?_;refine Av ?_;refine R.call Tryz.call86 (c86 s _) ?_;refine R.fin [0, 2, 3, 4, 5, 6, 12] ?_;refine Fc ?_
 refine W.rangeV (m := 3) Tryz.call118 (fun FR as' bd' hFR has hbd => ?_)
 refine ⟨_, qy (oid Hp.length 4) s hs (fun k => Hp ++ [AObj.cells 91 [AV.nil], AObj.cells 60 [A4 0, A4 0], AObj.cells 91 [AV.slice true 3 ((Gu s k).map Ff)], AObj.defs, AObj.loop LoopState.ready none FR 32 #[13, 14] as' bd' (oid Hp.length 3)]) (fun k => Hp ++ [AObj.cells 91 [AV.nil], AObj.cells 60 [A4 (Ot s k).1, A4 (Ot s k).2], AObj.cells 91 [AV.slice true 3 ((Gu s k).map Ff)], AObj.defs, AObj.loop LoopState.done (some Code.ret) FR 32 #[13, 14] as' bd' (oid Hp.length 3)]) (fun k => by simp) (by simp [oid]) (fun k it hit => ?_), ?_⟩
 ·generalize hV : Hp ++ [AObj.cells 91 [AV.nil], AObj.cells 60 [A4 0, A4 0], AObj.cells 91 [AV.slice true 3 ((Gu s k).map Ff)], AObj.defs, AObj.loop LoopState.ready none FR 32 #[13, 14] as' bd' (oid Hp.length 3)] = V
  have hL : V[oid Hp.length 4]? = some (AObj.loop LoopState.ready none FR 32 #[13, 14] as' bd' (oid Hp.length 3)) := by rw [← hV, Ak]; rfl
  have hA0 : V[oid Hp.length 2]? = some (AObj.cells 91 [AV.slice true 3 ((Gu s k).map Ff)]) := by rw [← hV, Ak]; rfl
  have hB0 : V[oid Hp.length 0]? = some (AObj.cells 91 [AV.nil]) := by rw [← hV, Ak]; rfl
  have hC0 : V[oid Hp.length 1]? = some (AObj.cells 60 [A4 0, A4 0]) := by rw [← hV, Ak]; rfl
  refine AYield.ofRound (pd := none) (fr := FR) (sz := 32) (ps := #[13, 14]) (df := oid Hp.length 3) (asg := as') (bd := bd') hL rfl (by decide) (fun d => ?_)
  subst hFR has hbd
  refine W.keep [2, 3, 4, 13, 14] ?_;refine B8 ?_;refine Z10 ?_;refine R.fin [2, 3, 4, 5, 14] ?_;refine am ?_;refine R.fin [2, 3, 4, 5, 6] ?_
  refine ⟨rfl, none, hL, ?_⟩
  generalize hbz : (AObj.loop LoopState.busy _ _ _ _ _ _ _) = bz
  have hA : (V.set (oid Hp.length 4) bz)[oid Hp.length 2]? = some (AObj.cells 91 [AV.slice true 3 ((Gu s k).map Ff)]) := by rw [List.getElem?_set_ne (oid_ne (by decide))]; exact hA0
  have hB : (V.set (oid Hp.length 4) bz)[oid Hp.length 0]? = some (AObj.cells 91 [AV.nil]) := by rw [List.getElem?_set_ne (oid_ne (by decide))]; exact hB0
  have hC : (V.set (oid Hp.length 4) bz)[oid Hp.length 1]? = some (AObj.cells 60 [A4 0, A4 0]) := by rw [List.getElem?_set_ne (oid_ne (by decide))]; exact hC0
  refine Fc ?_;refine Rl ?_;refine R.fin [2, 3, 4, 5, 6, 16] ?_
  refine W.cond (fun ht16 => ?_) (fun ht16 => ?_)
  ·have hne : it.2 ≠ 0 := by simpa using ht16
   apply W.drawXU [0, 0, 2, 7, 0, 31] 4 0 32 (.any) ((V.set (oid Hp.length 4) bz).set (oid Hp.length 0) (AObj.cells 91 [AV.nil])) Ad
   case hok => kernel_rfl
   case h1 =>
    intro b
    refine D.move ?_;refine D.fieldAddrPtr (fo := 2) jU Tryz.sizeOf3 ?_
    have hbl : (bif b then (V.set (oid Hp.length 4) bz).set (oid Hp.length 0) (AObj.cells 91 [AV.nil]) else V.set (oid Hp.length 4) bz).length = V.length := by cases b <;> simp
    refine D.loadOwn (n := 0) jA (hx := by rw [hbl]; simp only [go_sem, ↓reduceIte, Nat.reduceEqDiff, Nat.reduceAdd] <;> rfl) ?_
    exact mv
   case h2 =>
    intro b
    exact Gt
   case hE =>
    intro f hf
    exact X.storeUp (o := oid Hp.length 0) (off := 0) (y := .nil) (ys := [.nil]) Tryz.sizeOf91 (by show (f 2).strip = _; rw [hf 2 (by rfl)]; rfl) rfl hB rfl rfl rfl (by decide) rfl (by simp)
   case hx => kernel_rfl
   case hlen => simp
   refine R.storeUp jS (gsn (j := oid Hp.length 0) hC (oid_ne (by decide))) ?_ ?_
   ·simp
   refine R.fin [] ?_;refine Z24 ?_;refine K.blR ?_
   subst hbz
   refine fp ?_
   rw [if_neg hne]
   refine ⟨rfl, ?_⟩
   subst hV
   simp only [D0, List.set_cons_succ, List.set_cons_zero]
   rw [show Ot s k = (it.2, it.1.at_) by unfold Ot; rw [hit]]
  have heq : it.2 = 0 := by simpa using ht16
  refine ar ?_
  have hl3 := Kg s k
  refine R.loadUpT jA hA ?_;refine Qb ?_;refine Hi ?_
  refine R.append jU Tryz.type125 ?_ ?_ ?_
  ·simp [hl3, Tryz.t125]; omega
  ·simp [hl3, Tryz.t125]; omega
  refine R.storeUpT jS (getset hA) ?_ ?_
  ·simp [or_imp, forall_and]
  refine Z74 ?_
  subst hbz
  refine l4 ?_
  rw [if_pos heq]
  refine ⟨rfl, ?_⟩
  subst hV
  simp only [D0, List.set_cons_succ, List.set_cons_zero]
  rw [Uo hit, List.map_append]
  rfl
 rintro r H' (⟨hz, rfl⟩ | ⟨k, it, hit, hne, h0, rfl⟩)
 ·refine ⟨Hp, _, _, _, rfl, rfl, fun h => h, ?_, rfl, by simp, ?_⟩
  ·intro o ho
   have : o = oid Hp.length 3 := by simpa using ho
   subst this
   rw [Ak]
   rfl
  refine Z9 ?_;refine B8 ?_;refine R.loadOwnT jA ?_;refine Av ?_;refine R.slen jU ?_;refine U4 ?_;refine Hi ?_
  refine R.append jU Tryz.type125 ?_ ?_ ?_
  ·have := Kg s (B0 s).length; simp [Tryz.t125]; omega
  ·have := Kg s (B0 s).length; simp [Tryz.t125]; omega
  refine Rm ?_;refine R.storeOwnT jS ?_;refine af ?_;refine AW.ret ?_;exact K.fin (V.two (V.cell jA) (V.cellN jA jS)) ⟨by rw [bv hl4 hz, Vo, List.map_append]; rfl, rfl⟩ (hlow := by simp [or_imp, forall_and])
 refine ⟨Hp, _, _, _, rfl, rfl, fun h => h, ?_, rfl, by simp, ?_⟩
 ·intro o ho
  have : o = oid Hp.length 3 := by simpa using ho
  subst this
  rw [Ak]
  rfl
 refine W.nilOwn 0 3 ?_;refine Z60 ?_;exact K.fin (V.two (V.cell jA) (V.cellN jA jS)) ⟨by rw [Y6 hl4 hit hne h0, show Ot s k = (it.2, it.1.at_) by unfold Ot; rw [hit]]; rfl, rfl⟩

inductive Expr where
 | mk (op : Int) (text : Str) (val : Val) (kids : List Expr)
def Expr.op : Expr → Int | .mk o _ _ _ => o
def Expr.text : Expr → Str | .mk _ t _ _ => t
def Expr.val : Expr → Val | .mk _ _ v _ => v
def Expr.kids : Expr → List Expr | .mk _ _ _ k => k
mutual
def A7 : Expr → AV
 | .mk o t v k => .agg [.v (.int .i64 o), .v (sv t), .v (.int .i64 v.kind), .v (.int .i64 v.n), .v (sv v.s), .slice false 6 (Kh k)]
def Kh : List Expr → List AV
  | [] => []
  | e :: r => A7 e :: Kh r
 end
theorem Mn : ∀ l, Kh l = l.map A7
 | [] => rfl
 | e :: r => by rw [Kh, Mn r]; rfl
theorem Ac (e : Expr) : A7 e = .agg [.v (.int .i64 e.op), .v (sv e.text), .v (.int .i64 e.val.kind), .v (.int .i64 e.val.n), .v (sv e.val.s), .slice false 6 (e.kids.map A7)] := by
 cases e with
 | mk o t v k => rw [A7, Mn]; rfl
attribute [go_sem] Ac
def Ou : Str := [32, 111, 114, 32, 32, 97, 110, 100, 32, 32, 61, 32, 33, 61, 32, 60, 32, 60, 61, 32, 62, 32, 62, 61, 32, 32, 43, 32, 45, 32, 38, 32, 32, 42, 32, 47, 32, 37, 32]
def Ov (v : Val) : Bool := v.kind == 0 && v.n == 0 && v.s == []
def Gb (e : Expr) : Bool :=
 if e.op == 1 then ((Fy e.val && decide (0 ≤ e.val.n)) && (e.text == [])) && ((e.kids.length : Int) == 0)
 else if e.op == 2 then (Ov e.val && Cf e.text) && ((e.kids.length : Int) == 0)
 else if e.op == 3 || e.op == 4 then (Ov e.val && (e.text == [])) && ((e.kids.length : Int) == 1)
 else if e.op == 5 then (Ov e.val && Qd e.text Ou) && ((e.kids.length : Int) == 2)
 else if e.op == 6 then Ov e.val && (E9 e.text == (e.kids.length : Int))
 else false
theorem c75 (e : Expr) (hs : e.text.length ≤ 1048576) (Hp : List AObj) : AFun Tryz.prog 75 [A7 e] Hp (Ar (Gb e)) := by
 refine ACall.body [.tmp 2] [0] Tryz.func75 Tryz.ntmps75 (fun d => ?_)
 refine Nz ?_;refine kt ?_;refine Gf ?_;refine U4 ?_;refine R.eqlAgg l8 (Qc e.val.kind e.val.n 0 0 e.val.s []) ?_;refine Bg ?_;refine R.fin [1, 3] ?_;refine Tx ?_;refine R.fin [1, 3, 9] ?_;refine Rk ?_;refine R.fin [1, 3, 9, 10] ?_
 refine W.cond (fun ht10 => ?_) (fun ht10 => ?_)
 ·refine kt ?_;refine Gf ?_;refine R.call Tryz.call107 (o6 e.val _) ?_;refine Av ?_;refine fq ?_;refine G.fieldAddrRo (off := 1) jU Tryz.sizeOf2 ?_;refine G.loadRo jA ?_;refine G.geq ?_;refine Z95 ?_;refine Z43 ?_;refine G.seql ?_;exact ak
 refine Z37 ?_;refine R.fin [1, 3, 9, 32] ?_
 refine W.cond (fun ht32 => ?_) (fun ht32 => ?_)
 ·refine Z27 ?_;refine Z43 ?_;refine G.call Tryz.call108 (fun hB => be e.text hs _) ?_;exact ak
 refine Z15 ?_;refine Z20 ?_;refine R.fin [1, 3, 9, 46] ?_
 refine W.cond (fun ht46 => ?_) (fun ht46 => ?_)
 ·refine Z6 ?_
  refine W.cond (fun ht46 => ?_) (fun ht46 => ?_)
  ·refine Z27 ?_;refine Z43 ?_;refine G.seql ?_;exact ak
  refine Z37 ?_;refine R.fin [1, 3, 9, 61] ?_
  refine W.cond (fun ht61 => ?_) (fun ht61 => ?_)
  ·refine Z27 ?_;refine Z43 ?_;exact mw
  refine Z37 ?_;refine R.fin [1, 3, 75] ?_
  refine W.cond (fun ht75 => ?_) (fun ht75 => ?_)
  ·refine ng ?_;refine D.move ?_;refine H.fieldAddrRo (off := 1) jU Tryz.sizeOf9 ?_;refine H.loadRo jA ?_;refine nf ?_;refine H.loadRo jA ?_;refine H.len jU ?_;refine D.tail ?_;exact kc
  refine Z16 ?_;exact mx
 refine Hh ?_;refine Z20 ?_;refine R.fin [1, 3, 9, 46] ?_;refine K.thN ?_
 refine W.cond (fun ht46 => ?_) (fun ht46 => ?_)
 ·refine Z27 ?_;refine Z43 ?_;refine G.seql ?_;exact ak
 refine Z37 ?_;refine R.fin [1, 3, 9, 61] ?_
 refine W.cond (fun ht61 => ?_) (fun ht61 => ?_)
 ·refine Z27 ?_;refine Z43 ?_;exact mw
 refine Z37 ?_;refine R.fin [1, 3, 75] ?_
 refine W.cond (fun ht75 => ?_) (fun ht75 => ?_)
 ·refine ng ?_;refine D.move ?_;refine H.fieldAddrRo (off := 1) jU Tryz.sizeOf9 ?_;refine H.loadRo jA ?_;refine nf ?_;refine H.loadRo jA ?_;refine H.len jU ?_;refine D.tail ?_;exact kc
 refine Z16 ?_;exact mx

mutual
def Am (d : Int) : Expr → List (Int × Expr)
 | .mk o t v k => (d, .mk o t v k) :: Aj (d + 1) k
def Aj (d : Int) : List Expr → List (Int × Expr)
  | [] => []
  | e :: r => Am d e ++ Aj d r
 end
theorem Ep (d : Int) (e : Expr) : Am d e = (d, e) :: Aj (d + 1) e.kids := by cases e; rfl
theorem Gg (d : Int) : ∀ a b, Aj d (a ++ b) = Aj d a ++ Aj d b
 | [], b => rfl
 | e :: r, b => by rw [List.cons_append, Aj, Aj, Gg d r b, List.append_assoc]
theorem Rw (d : Int) (l : List Expr) {x : Nat} (h : x < l.length) : Aj d (l.take (x + 1)) = Aj d (l.take x) ++ Am d l[x] := by
 rw [List.take_succ_eq_append_getElem h, Gg]
 simp [Aj]
theorem Ji (d : Int) (l : List Expr) {x : Nat} (h : x < l.length) : Aj d l = Aj d (l.take x) ++ (Am d l[x] ++ Aj d (l.drop (x + 1))) := by
 have e : l = l.take x ++ (l[x] :: l.drop (x + 1)) := by rw [← List.drop_eq_getElem_cons h, List.take_append_drop]
 conv => lhs; rw [e]
 rw [Gg, Aj]
mutual
def sizeE : Expr → Nat
 | .mk _ _ _ k => 1 + C5 k
def C5 : List Expr → Nat
  | [] => 0
  | e :: r => sizeE e + C5 r
 end
theorem Rx (e : Expr) : sizeE e = 1 + C5 e.kids := by cases e; rfl
/-- Each node has few kids. -/
def okE : Nat → Expr → Prop
 | 0, _ => False
 | n + 1, e => e.text.length ≤ 1048576 ∧ e.kids.length ≤ 1048576 ∧ ∀ y ∈ e.kids, okE n y
/-- Who takes what a tree yields: item k is taken at U k; it goes on (go k) to U (k + 1), or ends at F k. Behind U k there may stand others' objects. -/
structure Takes (P : Program) (l : Nat) (L : List (Int × Expr)) (go : Nat → Bool) (U F : Nat → List AObj) (n0 : Nat) : Prop where
 lenU : ∀ k, (U k).length = n0
 lenF : ∀ k, (F k).length = n0
 lowU : ∀ k, ∀ x ∈ U k, ObjLow n0 x
 lowF : ∀ k, ∀ x ∈ F k, ObjLow n0 x
 lt : l < n0
 y : ∀ (X : List AObj) (k : Nat) (it : Int × Expr), L[k]? = some it → (∀ j, j < k → go j = true) → AYield P l [A4 it.1, A7 it.2] (U k ++ X) (fun b H' => b = go k ∧ H' = (if go k then U (k + 1) else F k) ++ X)
theorem ObjLow.le {m m' : Nat} (h : m ≤ m') {x : AObj} (hx : ObjLow m x) : ObjLow m' x := by
 cases x with
 | cells t cs => exact fun y hy => (hx y hy).mono h
 | loop s pd fr sz ps as' bd df => exact ⟨fun s => (hx.1 s).mono h, Nat.lt_of_lt_of_le hx.2 h⟩
 | defs => trivial
 | dead => trivial
 | bld _ _ _ => trivial
 | gone => trivial
/-- What the walk over n items from k0 on comes to. -/
def Ry (go : Nat → Bool) (U F : Nat → List AObj) (k0 n : Nat) (X : List AObj) : AV → List AObj → Prop := fun r H' =>
 ((∀ j, j < n → go (k0 + j) = true) ∧ r = Ar true ∧ H' = U (k0 + n) ++ X) ∨ (∃ j, j < n ∧ (∀ i, i < j → go (k0 + i) = true) ∧ go (k0 + j) = false ∧ r = Ar false ∧ H' = F (k0 + j) ++ X)
mutual
theorem Ae (m : Nat) : ∀ e, Low m (A7 e)
 | .mk o t v k => by
  rw [A7]
  refine .agg _ fun y hy => ?_
  simp only [List.mem_cons, List.mem_nil_iff, or_false] at hy
  rcases hy with rfl | rfl | rfl | rfl | rfl | rfl
  ·exact .v _
  ·exact .v _
  ·exact .v _
  ·exact .v _
  ·exact .v _
  exact low_slice.2 (Mo m k)
theorem Mo (m : Nat) : ∀ l, ∀ y ∈ Kh l, Low m y
  | [], y, hy => by cases hy
  | e :: r, y, hy => by
    rw [Kh] at hy
    rcases List.mem_cons.1 hy with rfl | h
    · exact Ae m e
    exact Mo m r y h
 end
theorem Jj {V O A B own : List AObj} (h : V ++ O = A ++ (B ++ own)) (hl : V.length = (A ++ B).length) : V = A ++ B ∧ O = own := by
 rw [← List.append_assoc] at h
 exact List.append_inj h hl
theorem H8 {m : Nat} {A X : List AObj} (hA : ∀ x ∈ A, ObjLow m x) (hX : ∀ x ∈ X, ObjLow m x) : ∀ x ∈ A ++ X, ObjLow m x := fun x hx => by
 rcases List.mem_append.1 hx with h | h
 ·exact hA x h
 exact hX x h
theorem Up {P : Program} {l : Nat} {L : List (Int × Expr)} {go : Nat → Bool} {U F : Nat → List AObj} {n0 k n K : Nat} {X own V O : List AObj} {r : AV} (T : Takes P l L go U F n0) (hV : V.length = (U K ++ X).length) (hp : Ry go U F k n (X ++ own) r (V ++ O)) :
  ∃ b, r = Ar b ∧ O = own ∧ (if b then (∀ j, j < n → go (k + j) = true) ∧ V = U (k + n) ++ X else ∃ j, j < n ∧ (∀ i, i < j → go (k + i) = true) ∧ go (k + j) = false ∧ V = F (k + j) ++ X) ∧ ((∀ x ∈ U K ++ X, ObjLow V.length x) → ∀ x ∈ V, ObjLow V.length x) := by
 have hn : n0 ≤ V.length := by rw [hV, List.length_append, T.lenU]; omega
 rcases hp with ⟨h1, h2, h3⟩ | ⟨j, hj, h1, h2, h3, h4⟩
 ·obtain ⟨e1, e2⟩ := Jj h3 (by rw [hV]; simp [T.lenU])
  refine ⟨true, h2, e2, ⟨h1, e1⟩, fun h => ?_⟩
  rw [e1] at h ⊢
  exact H8 (fun x hx => ObjLow.le (by rw [List.length_append, T.lenU]; omega) (T.lowU _ x hx)) (fun x hx => h x (List.mem_append_right _ hx))
 obtain ⟨e1, e2⟩ := Jj h4 (by rw [hV]; simp [T.lenU, T.lenF])
 refine ⟨false, h3, e2, ⟨j, hj, h1, h2, e1⟩, fun h => ?_⟩
 rw [e1] at h ⊢
 exact H8 (fun x hx => ObjLow.le (by rw [List.length_append, T.lenF]; omega) (T.lowF _ x hx)) (fun x hx => h x (List.mem_append_right _ hx))
theorem Rz (d : Int) (l : List Expr) {x : Nat} (h : x < l.length) : (Aj d (l.take (x + 1))).length = (Aj d (l.take x)).length + (Am d l[x]).length := by rw [Rw d l h, List.length_append]
theorem bw {d0 : Int} {e : Expr} {x : Nat} (h : x < e.kids.length) {j : Nat} {it : Int × Expr} (hj : (Am (d0 + 1) e.kids[x])[j]? = some it) : (Am d0 e)[1 + (Aj (d0 + 1) (e.kids.take x)).length + j]? = some it := by
 rw [Ep d0 e, show 1 + (Aj (d0 + 1) (e.kids.take x)).length + j = ((Aj (d0 + 1) (e.kids.take x)).length + j) + 1 by omega, List.getElem?_cons_succ, Ji (d0 + 1) e.kids h, List.getElem?_append_right (by omega)]
 rw [show (Aj (d0 + 1) (e.kids.take x)).length + j - (Aj (d0 + 1) (e.kids.take x)).length = j by omega, List.getElem?_append_left (List.getElem?_eq_some_iff.1 hj).1]
 exact hj
theorem Y7 (d0 : Int) (e : Expr) {x : Nat} (h : x < e.kids.length) : 1 + (Aj (d0 + 1) (e.kids.take x)).length + (Am (d0 + 1) e.kids[x]).length ≤ (Am d0 e).length := by
 rw [Ep d0 e, List.length_cons, Ji (d0 + 1) e.kids h]
 simp only [List.length_append]
 omega
theorem qz {l : Nat} {L : List (Int × Expr)} {go : Nat → Bool} {U F : Nat → List AObj} {n0 : Nat} (T : Takes Tryz.prog l L go U F n0) : ∀ (n : Nat) (e : Expr), okE n e → ∀ (d0 : Int) (k0 : Nat) (X : List AObj), 0 ≤ d0 → d0 + n ≤ 1099511627776 → (∀ (j : Nat) (it : Int × Expr), (Am d0 e)[j]? = some it → L[k0 + j]? = some it) → (∀ j, j < k0 → go j = true) → ACall Tryz.prog 106 [A7 e, A4 d0, .yield l] (U k0 ++ X) (Ry go U F k0 (Am d0 e).length X) := by
 intro n
 induction n with
 | zero => exact fun e h => h.elim
 | succ n ih =>
 intro e hok d0 k0 X hd hdn hit hgo
 have hlen0 : (U k0 ++ X).length = n0 + X.length := by rw [List.length_append, T.lenU]
 refine ACall.body [.tmp 6] [0, 1, 2] Tryz.func106 Tryz.ntmps106 (fun d => ?_)
 refine Z64 ?_;refine R.fin [1, 2, 3] ?_;refine Z96 ?_;refine Gf ?_
 refine R.yield0 (T.y X k0 (d0, e) (hit 0 _ (by rw [Ep]; rfl)) hgo) ?_
 intro b Vv hV hb
 refine R.not ?_;refine R.fin [1, 2, 3, 13] ?_
 refine W.cond (fun ht13 => ?_) (fun ht13 => ?_)
 ·have hb' : b = false := by simpa using ht13
  subst hb'
  refine Z3 ?_;refine Tu ?_;exact K.fin (V.one V.tmp) (Or.inr ⟨0, by rw [Ep]; simp, fun i hi => by omega, hb.1.symm, rfl, by have := hb.2; rw [show go k0 = false from hb.1.symm] at this; exact this⟩)
 have hb' : b = true := by simpa using ht13
 subst hb'
 have hgo0 : go (k0 + 0) = true := hb.1.symm
 have hVe : Vv = U (k0 + 1) ++ X := by have := hb.2; rw [show go k0 = true from hb.1.symm] at this; exact this
 subst hVe
 have h0x : 0 ≤ e.kids.length ∧ ∀ j, j < 1 + (Aj (d0 + 1) (e.kids.take 0)).length → go (k0 + j) = true := ⟨Nat.zero_le _, fun j hj => by
  have : j = 0 := by simp [Aj] at hj; omega
  subst this
  exact hgo0⟩
 refine Z6 ?_;refine Z15 ?_;refine kj ?_;refine Z45 ?_;refine R.fin [1, 2, 15, 16, 17] ?_
 refine AW.loopC (α := Nat) (fun x => ⟨28, A5 1 (A4 d0) (A5 2 (.yield l) (A5 15 (.slice false 6 (e.kids.map A7)) (A5 16 (A4 e.kids.length) (A5 17 (A4 (x : Nat)) (fun _ => .any))))), U (k0 + (1 + (Aj (d0 + 1) (e.kids.take x)).length)) ++ X, [], [], none⟩) (fun x => x ≤ e.kids.length ∧ ∀ j, j < 1 + (Aj (d0 + 1) (e.kids.take x)).length → go (k0 + j) = true) (fun x => e.kids.length - x) (0) h0x (StLe.of_eq (by simp [Aj])) rfl (fun x hx => ?_)
 refine Z59 ?_;refine R.fin [1, 2, 15, 16, 17, 18] ?_
 refine W.condX (fun ht18 => ?_) (fun ht18 => ?_)
 ·have hlt : x < e.kids.length := by simpa using ht18
  have hkl := hok.2.1
  refine Z73 ?_;refine R.indexAddr (x) (A7 e.kids[x]) jU jS (By hlt) ?_;refine Xf ?_;refine R.fin [1, 2, 8, 15, 16, 17] ?_;refine Z34 ?_;refine Av ?_;refine R.add64 ?_;refine Av ?_
  refine R.callG Tryz.call106 (args := [A7 e.kids[x], A4 (d0 + 1), .yield l]) (by rw [List.append_assoc]; exact ih e.kids[x] (hok.2.2 _ (List.getElem_mem hlt)) (d0 + 1) (k0 + (1 + (Aj (d0 + 1) (e.kids.take x)).length)) (X ++ _) (by omega) (by omega) (fun j it hj => by have := hit _ it (bw hlt hj); rwa [← Nat.add_assoc] at this) (fun j hj => by rcases Nat.lt_or_ge j k0 with h | h; exact hgo j h; have := hx.2 (j - k0) (by omega); rwa [show k0 + (j - k0) = j by omega] at this)) ?_
  intro r Vv O hV hp
  obtain ⟨b, rfl, rfl, hc, hlowV⟩ := Up T hV hp
  refine ⟨hlowV, fun o ho => by simp at ho, ?_⟩
  refine R.not ?_;refine R.fin [1, 2, 15, 16, 17, 26] ?_
  refine W.cond (fun ht26 => ?_) (fun ht26 => ?_)
  ·have hb' : b = false := by simpa using ht26
   subst hb'
   obtain ⟨j, hj, h1, h2, h3⟩ := hc
   refine Z3 ?_;refine Z71 ?_;refine Z46 ?_
   have hil := Y7 d0 e hlt
   refine K.fin (V.one V.tmp) (Or.inr ⟨1 + (Aj (d0 + 1) (e.kids.take x)).length + j, by omega, fun i hi => ?_, by rwa [Nat.add_assoc] at h2, rfl, by rwa [Nat.add_assoc] at h3⟩)
   rcases Nat.lt_or_ge i (1 + (Aj (d0 + 1) (e.kids.take x)).length) with h | h
   ·exact hx.2 i h
   have := h1 (i - (1 + (Aj (d0 + 1) (e.kids.take x)).length)) (by omega)
   rwa [show k0 + (1 + (Aj (d0 + 1) (e.kids.take x)).length) + (i - (1 + (Aj (d0 + 1) (e.kids.take x)).length)) = k0 + i by omega] at this
  have hb' : b = true := by simpa using ht26
  subst hb'
  obtain ⟨h1, h3⟩ := hc
  refine Z91 ?_;refine R.fin [1, 2, 15, 16, 17] ?_
  subst h3
  have hll := Rz (d0 + 1) e.kids hlt
  have e1 : k0 + (1 + (Aj (d0 + 1) (e.kids.take (x + 1))).length) = k0 + (1 + (Aj (d0 + 1) (e.kids.take x)).length) + (Am (d0 + 1) e.kids[x]).length := by omega
  refine K.lpN (x + 1) ⟨hlt, fun j hj => ?_⟩ (by omega) ?_
  ·rcases Nat.lt_or_ge j (1 + (Aj (d0 + 1) (e.kids.take x)).length) with h | h
   ·exact hx.2 j h
   have := h1 (j - (1 + (Aj (d0 + 1) (e.kids.take x)).length)) (by omega)
   rwa [show k0 + (1 + (Aj (d0 + 1) (e.kids.take x)).length) + (j - (1 + (Aj (d0 + 1) (e.kids.take x)).length)) = k0 + j by omega] at this
  simp only [e1]
  exact StCut.take (own := []) (fun _ => .refl _) (by repeat (first | exact B5 | refine B4 (by first | (simp [Ae]; done) | (have := T.lt; simp [T.lenU]; omega)) ?_)) (by simp) (by simp)
 have hxe : e.kids.take x = e.kids := List.take_of_length_le (by simp at ht18; omega)
 refine U3 ?_;refine Z71 ?_
 have hl2 : (Am d0 e).length = 1 + (Aj (d0 + 1) (e.kids.take x)).length := by rw [Ep, hxe, List.length_cons]; omega
 exact K.fin (V.one V.tmp) (Or.inl ⟨fun j hj => hx.2 j (by omega), rfl, by rw [hl2]⟩)

abbrev Db (e : Expr) : List AV := [.v (.int .i64 e.op), .v (sv e.text), .v (.int .i64 e.val.kind), .v (.int .i64 e.val.n), .v (sv e.val.s), .slice false 6 (e.kids.map A7)]
/-- What taking all of a tree comes to. -/
def Gv (go : Nat → Bool) (U F : Nat → List AObj) (n : Nat) (H' : List AObj) : Prop :=
 ((∀ j, j < n → go j = true) ∧ H' = U n) ∨ (∃ j, j < n ∧ (∀ i, i < j → go i = true) ∧ go j = false ∧ H' = F j)
theorem lm {l : Nat} {e : Expr} {go : Nat → Bool} {U F : Nat → List AObj} {n0 : Nat} (T : Takes Tryz.prog l (Am 1 e) go U F n0) (n : Nat) (hok : okE n e) (hn : n ≤ 1048576) : ACall Tryz.prog 105 [.yield l, .ro (Db e)] (U 0) (fun r H' => Gv go U F (Am 1 e).length H') := by
 refine ACall.body [] [0, 1] Tryz.func105 Tryz.ntmps105 (fun d => ?_)
 refine Hh ?_;refine Gf ?_;refine Av ?_;refine R.callG Tryz.call106 (args := [A7 e, A4 1, .yield l]) (qz T n e hok 1 0 [] (by omega) (by omega) (fun j it hj => by rwa [Nat.zero_add]) (fun j hj => by omega)) ?_
 intro r Vv O hV hp
 have hO : O = [] := by
  have h1 : (Vv ++ O).length = n0 := by rcases hp with ⟨_, _, h⟩ | ⟨j, _, _, _, _, h⟩ <;> rw [h] <;> simp [T.lenU, T.lenF]
  have h2 := T.lenU 0
  rw [List.length_append, hV, h2] at h1
  exact List.eq_nil_of_length_eq_zero (by omega)
 subst hO
 rw [List.append_nil] at hp
 have hq : Gv go U F (Am 1 e).length Vv := by
  rcases hp with ⟨h1, _, h⟩ | ⟨j, h1, h2, h3, _, h⟩
  ·exact .inl ⟨fun j hj => by have := h1 j hj; rwa [Nat.zero_add] at this, by rw [h]; simp⟩
  exact .inr ⟨j, h1, fun i hi => by have := h2 i hi; rwa [Nat.zero_add] at this, by rwa [Nat.zero_add] at h3, by rw [h]; simp⟩
 refine ⟨fun h => ?_, fun o ho => by simp at ho, ?_⟩
 ·rcases hq with ⟨_, h⟩ | ⟨j, _, _, _, h⟩ <;> rw [h]
  ·rw [T.lenU]; exact T.lowU _
  rw [T.lenF]; exact T.lowF _
 refine R.fin [] ?_;exact K.finN .nores (hp := hq)

theorem c74 (e : Expr) (Hp : List AObj) : AFun Tryz.prog 74 [A7 e] Hp (.fn (.func 105) [] [.ro (Db e)]) := by
 refine ACall.body [.tmp 2] [0] Tryz.func74 Tryz.ntmps74 (fun d => ?_)
 refine Nz ?_;refine B8 ?_;refine Ik ?_;refine Z23 ?_;exact K.fin (V.one V.tmp) (hlow := by have := Ae Hp.length e; rw [Ac] at this; simpa using this)

def goM (e : Expr) (k : Nat) : Bool := match (Am 1 e)[k]? with
 | some it => !((!Gb it.2 || decide ((30 : Int) < it.1)) || decide ((300 : Int) < (k : Int) + 1))
 | none => true
def Ay (e : Expr) : Bool := (List.range (Am 1 e).length).all (goM e)
mutual
theorem Ow : ∀ (n : Nat) (e : Expr), okE n e → ∀ d, ∀ it ∈ Am d e, it.2.text.length ≤ 1048576
 | 0, _, h, _, _, _ => h.elim
 | n + 1, e, h, d, it, hit => by
  rw [Ep] at hit
  rcases List.mem_cons.1 hit with rfl | h'
  ·exact h.1
  exact Ox n e.kids h.2.2 (d + 1) it h'
 termination_by n e => (n, 0)
theorem Ox : ∀ (n : Nat) (l : List Expr), (∀ y ∈ l, okE n y) → ∀ d, ∀ it ∈ Aj d l, it.2.text.length ≤ 1048576
  | n, [], _, _, _, h => by cases h
  | n, e :: r, h, d, it, hit => by
    rw [Aj] at hit
    rcases List.mem_append.1 hit with h' | h'
    · exact Ow n e (h e (by simp)) d it h'
    exact Ox n r (fun y hy => h y (by simp [hy])) d it h'
  termination_by n l => (n, l.length + 1)
 end
theorem Uq {U : List AObj} {i j : Nat} {x y : AObj} (h : U[i]? = some x) (hne : j ≠ i) : (U.set j y)[i]? = some x := by rw [List.getElem?_set_ne hne]; exact h
theorem ln {e : Expr} {k : Nat} {it : Int × Expr} (hit : (Am 1 e)[k]? = some it) (h : ∀ j, j < k → goM e j = true) : (k : Int) ≤ 300 := by
 rcases Nat.eq_zero_or_pos k with h0 | h0
 ·omega
 have hl := (List.getElem?_eq_some_iff.1 hit).1
 have := h (k - 1) (by omega)
 unfold goM at this
 rw [List.getElem?_eq_getElem (by omega)] at this
 simp at this
 omega
theorem Qi {e : Expr} {k : Nat} {it : Int × Expr} (hit : (Am 1 e)[k]? = some it) : goM e k = !((!Gb it.2 || decide ((30 : Int) < it.1)) || decide ((300 : Int) < (k : Int) + 1)) := by
 unfold goM; rw [hit]
theorem c44 (n : Nat) (e : Expr) (hok : okE n e) (hn : n ≤ 1048576) (Hp : List AObj) : AFun Tryz.prog 44 [A7 e] Hp (Ar (Ay e)) := by
 refine ACall.body [.cell 2 4] [0, 4, 5] Tryz.func44 Tryz.ntmps44 (fun d => ?_)
 refine Z32 ?_;refine Iy ?_;refine R.fin [1, 2, 4, 5] ?_;refine B8 ?_;refine Z10 ?_;refine R.fin [1, 2, 3, 4, 5] ?_;refine Z15 ?_
 refine R.assumeLow (fun hlow => ?_)
 refine kx ?_;refine R.fin [2, 3, 4, 5, 7] ?_;refine Fc ?_
 refine W.rangeV (m := 2) Tryz.call105 (fun FR as' bd' hFR has hbd => ?_)
 have hFRl : ∀ s, Low (Hp.length + 4) (FR s) := by
  intro s
  rw [hFR]
  refine Low.strip ?_
  revert s
  repeat (first | exact B5 | refine B4 (by simp [oid, Ae] <;> try omega) ?_)
 have hOl : ∀ {k : Nat}, ∀ x ∈ [AObj.cells 4 [Ar false], AObj.cells 3 [A4 (k : Nat)], AObj.defs, AObj.loop LoopState.ready none FR 23 #[8, 9] as' bd' (oid Hp.length 2)], ObjLow (Hp.length + 4) x := by
  intro k x hx
  simp only [List.mem_cons, List.mem_nil_iff, or_false] at hx
  rcases hx with rfl | rfl | rfl | rfl
  ·exact en
  ·exact en
  ·trivial
  exact ay
 have hOf : ∀ {k : Nat}, ∀ x ∈ [AObj.cells 4 [Ar false], AObj.cells 3 [A4 ((k : Nat) + 1)], AObj.defs, AObj.loop LoopState.done (some Code.ret) FR 23 #[8, 9] as' bd' (oid Hp.length 2)], ObjLow (Hp.length + 4) x := by
  intro k x hx
  simp only [List.mem_cons, List.mem_nil_iff, or_false] at hx
  rcases hx with rfl | rfl | rfl | rfl
  ·exact en
  ·exact en
  ·trivial
  exact ay
 refine ⟨fun _ H' => Gv (goM e) (fun k => Hp ++ [AObj.cells 4 [Ar false], AObj.cells 3 [A4 (k : Nat)], AObj.defs, AObj.loop LoopState.ready none FR 23 #[8, 9] as' bd' (oid Hp.length 2)]) (fun k => Hp ++ [AObj.cells 4 [Ar false], AObj.cells 3 [A4 ((k : Nat) + 1)], AObj.defs, AObj.loop LoopState.done (some Code.ret) FR 23 #[8, 9] as' bd' (oid Hp.length 2)]) (Am 1 e).length H', lm (l := oid Hp.length 3) (go := goM e) (U := fun k => Hp ++ [AObj.cells 4 [Ar false], AObj.cells 3 [A4 (k : Nat)], AObj.defs, AObj.loop LoopState.ready none FR 23 #[8, 9] as' bd' (oid Hp.length 2)]) (F := fun k => Hp ++ [AObj.cells 4 [Ar false], AObj.cells 3 [A4 ((k : Nat) + 1)], AObj.defs, AObj.loop LoopState.done (some Code.ret) FR 23 #[8, 9] as' bd' (oid Hp.length 2)]) (n0 := Hp.length + 4) ⟨fun k => by simp, fun k => by simp, fun k x hx => ?_, fun k x hx => ?_, by simp [oid], fun X k it hit hgo => ?_⟩ n hok hn, ?_⟩
 ·exact az
 ·exact H8 (fun x hx => ObjLow.le (by omega) (hlow x hx)) hOf x hx
 ·have hk3 := ln hit hgo
  generalize hV : (Hp ++ [AObj.cells 4 [Ar false], AObj.cells 3 [A4 (k : Nat)], AObj.defs, AObj.loop LoopState.ready none FR 23 #[8, 9] as' bd' (oid Hp.length 2)] ++ X) = V
  have hL : V[oid Hp.length 3]? = some (AObj.loop LoopState.ready none FR 23 #[8, 9] as' bd' (oid Hp.length 2)) := by rw [← hV, List.append_assoc, Ak]; rfl
  have hA0 : V[oid Hp.length 1]? = some (AObj.cells 3 [A4 (k : Nat)]) := by rw [← hV, List.append_assoc, Ak]; rfl
  have hB0 : V[oid Hp.length 0]? = some (AObj.cells 4 [Ar false]) := by rw [← hV, List.append_assoc, Ak]; rfl
  refine AYield.ofRound (pd := none) (fr := FR) (sz := 23) (ps := #[8, 9]) (df := oid Hp.length 2) (asg := as') (bd := bd') hL rfl (by decide) (fun d => ?_)
  subst hFR has hbd
  refine W.keep [2, 3, 8, 9] ?_;refine Z3 ?_;refine R.fin [2, 3, 4, 9] ?_;refine Hh ?_;refine Z10 ?_;refine R.fin [2, 3, 4, 5] ?_
  refine ⟨rfl, none, hL, ?_⟩
  generalize hbz : (AObj.loop LoopState.busy _ _ _ _ _ _ _) = bz
  have hA : (V.set (oid Hp.length 3) bz)[oid Hp.length 1]? = some (AObj.cells 3 [A4 (k : Nat)]) := by rw [List.getElem?_set_ne (oid_ne (by decide))]; exact hA0
  have hB : (V.set (oid Hp.length 3) bz)[oid Hp.length 0]? = some (AObj.cells 4 [Ar false]) := by rw [List.getElem?_set_ne (oid_ne (by decide))]; exact hB0
  refine Fc ?_;refine B8 ?_;refine R.loadUp jA hA ?_;refine R.add64 ?_
  refine R.storeUp jS hA ?_ ?_
  ·simp
  refine R.fin [2, 3, 4, 5] ?_;refine Z34 ?_;refine R.call Tryz.call75 (c75 it.2 (Ow n e hok 1 it (List.mem_of_getElem? hit)) _) ?_;refine Xn ?_;refine Z83 ?_;refine Av ?_;refine G.loadUp jA (getset hA) ?_;refine Z83 ?_;refine R.fin [2, 22] ?_
  refine W.cond (fun ht22 => ?_) (fun ht22 => ?_)
  ·have hgf : goM e k = false := by rw [Qi hit, ht22]; rfl
   refine B8 ?_
   refine R.storeUp jS (Uq (j := oid Hp.length 1) hB (oid_ne (by decide))) ?_ ?_
   ·simp
   refine R.fin [] ?_;refine AW.ret ?_;refine K.blR ?_
   subst hbz
   refine fp ?_
   refine ⟨hgf.symm, ?_⟩
   rw [if_neg (by rw [hgf]; simp)]
   subst hV
   simp only [List.append_assoc, D0, List.cons_append, List.nil_append, List.set_cons_succ, List.set_cons_zero]
   try rfl
  have hgt : goM e k = true := by rw [Qi hit, ht22]; rfl
  refine AW.skip ?_;refine K.blN ?_
  subst hbz
  refine fu ?_
  refine ⟨hgt.symm, ?_⟩
  rw [if_pos hgt]
  subst hV
  simp only [List.append_assoc, D0, List.cons_append, List.nil_append, List.set_cons_succ, List.set_cons_zero]
  try rfl
 rintro r H' (⟨h1, rfl⟩ | ⟨j, hj, h1, h2, rfl⟩)
 ·refine ⟨Hp, _, _, _, rfl, rfl, fun h => h, ?_, rfl, by simp, ?_⟩
  ·intro o ho
   have : o = oid Hp.length 2 := by simpa using ho
   subst this
   rw [Ak]
   rfl
  refine Z9 ?_;refine B8 ?_;refine Z5 ?_;exact K.fin (V.one (V.cell jA)) ⟨by rw [show Ay e = true from List.all_eq_true.2 fun j hj => h1 j (List.mem_range.1 hj)], rfl⟩
 refine ⟨Hp, _, _, _, rfl, rfl, fun h => h, ?_, rfl, by simp, ?_⟩
 ·intro o ho
  have : o = oid Hp.length 2 := by simpa using ho
  subst this
  rw [Ak]
  rfl
 refine Z60 ?_;exact K.fin (V.one (V.cell jA)) ⟨by rw [show Ay e = false from List.all_eq_false.2 ⟨j, List.mem_range.2 hj, by rw [h2]; simp⟩], rfl⟩

def Cr (s : Str) : Expr := .mk 2 s ⟨0, 0, []⟩ []
theorem S1 (s : Str) : Le (.agg [A4 2, Aa s, A4 0, A4 0, Aa [], .nil]) (A7 (Cr s)) := by
 rw [Ac]
 refine .agg _ _ rfl (by simp [AV.one, Value.oneCell', sv]) fun i y y' h1 h2 => ?_
 match i with
 | 0 => simp at h1 h2; subst h1; subst h2; exact .inl rfl
 | 1 => simp at h1 h2; subst h1; subst h2; exact .inl rfl
 | 2 => simp at h1 h2; subst h1; subst h2; exact .inl rfl
 | 3 => simp at h1 h2; subst h1; subst h2; exact .inl rfl
 | 4 => simp at h1 h2; subst h1; subst h2; exact .inl rfl
 | 5 => simp at h1 h2; subst h1; subst h2; exact .inr ⟨rfl, 6, rfl⟩
 | i + 6 => simp at h1
theorem S3 (s : Str) (h : s.length ≤ 1048576) : okE 1 (Cr s) := ⟨h, by simp [Cr, Expr.kids], fun y hy => by cases hy⟩
def Ki (c : List Col) (x : Nat) (y : Col) : Bool := !(((!Ay (Cr y.name)) || (Bb y.kind == [])) || (Be y.name c != (x : Int)))
def Mp (c : List Col) : Bool := c.zipIdx.all fun x => Ki c x.2 x.1
theorem colsP_true {c : List Col} : Mp c = true ↔ ∀ (j : Nat) (y : Col), c[j]? = some y → Ki c j y = true := Iz
theorem c41 (c : List Col) (hc : OkCols c) (Hp : List AObj) : AFun Tryz.prog 41 [Af c] Hp (Ar (Mp c)) := by
 refine ACall.body [.tmp 2] [0] Tryz.func41 Tryz.ntmps41 (fun d => ?_)
 refine Z54 ?_;refine Q8 ?_;refine R.fin [0, 5, 6, 7] ?_
 refine AW.loopC (α := Nat) (fun x => ⟨32, A5 0 (Af c) (A5 5 (Af c) (A5 6 (A4 c.length) (A5 7 (A4 (x : Nat)) (fun _ => .any)))), Hp, [], [], none⟩) (fun x => x ≤ c.length ∧ ∀ (j : Nat) (y : Col), j < x → c[j]? = some y → Ki c j y = true) (fun x => c.length - x) (0) (by simp) (StLe.of_eq (by simp)) rfl (fun x hx => ?_)
 refine Z59 ?_;refine R.fin [0, 5, 6, 7, 8] ?_
 refine W.condX (fun ht8 => ?_) (fun ht8 => ?_)
 ·have hlt : x < c.length := by simpa using ht8
  have hcl := hc.len
  refine Z75 ?_;refine Z88 ?_;refine Xi ?_;refine R.fin [0, 3, 4, 5, 6, 7] ?_;refine B8 ?_;refine ki ?_;refine U5 ?_;refine R.wk 14 _ (S1 c[x].name) ?_;refine R.call Tryz.call44 (c44 1 (Cr c[x].name) (S3 _ (hc.names _ (List.getElem_mem hlt))) (by decide) _) ?_;refine R.not ?_;refine Av ?_;refine G.fieldAddrPtr (fo := 1) jU Tryz.sizeOf3 ?_;refine G.loadOwn jA ?_;refine G.call Tryz.call70 (fun hB => c70 c[x].kind _) ?_;refine G.seql ?_;refine Fw ?_;refine Z13 ?_;refine G.fieldAddrPtr (fo := 0) jU Tryz.sizeOf9 ?_;refine G.loadOwn jA ?_;refine G.call Tryz.call59 (fun hB => c59 c hc c[x].name _) ?_;refine G.move ?_;refine Rh ?_;refine R.fin [0, 5, 6, 7, 30] ?_
  refine W.cond (fun ht30 => ?_) (fun ht30 => ?_)
  ·refine Xo ?_
   exact K.fin (V.one V.tmp) ⟨by rw [show Mp c = false from Bool.eq_false_iff.2 fun h => by have := colsP_true.1 h x c[x] (List.getElem?_eq_getElem hlt); unfold Ki at this; rw [ht30] at this; cases this], rfl⟩
  refine Z91 ?_;refine R.fin [0, 5, 6, 7] ?_
  refine K.lpN (x + 1) ⟨hlt, H5 hlt hx.2 (by unfold Ki; rw [ht30]; rfl)⟩ (by omega) ?_
  exact StCut.take (own := []) (fun _ => .refl _) (by repeat (first | exact B5 | refine B4 (by simp) ?_)) (by simp) (by simp)
 refine Z36 ?_;refine Z44 ?_;exact K.fin (V.one V.tmp) ⟨by rw [colsP_true.2 (Ih (by simp at ht8; omega) hx.2)], rfl⟩

def Qj (c : List Col) : Bool := decide ((c.length : Int) ≤ 12) && Mp c
theorem c19 (c : List Col) (hc : OkCols c) (Hp : List AObj) : AFun Tryz.prog 19 [Af c] Hp (Ar (Qj c)) := by
 refine ACall.body [.tmp 2] [0] Tryz.func19 Tryz.ntmps19 (fun d => ?_)
 refine U1 ?_;refine R.len jU ?_;refine R.leq ?_;refine Z13 ?_;refine G.call Tryz.call41 (fun hB => c41 c hc _) ?_;refine Xk ?_;exact K.fin (V.one V.tmp) ⟨by unfold Qj; simp, rfl⟩

theorem Qk (s : Str) (h : s ≠ []) : Lib.contains [] s = false := by
 cases s with
 | nil => exact absurd rfl h
 | cons a r => rfl
theorem contains_cons (b : UInt8) (l s : Str) : Lib.contains (b :: l) s = (s.isPrefixOf (b :: l) || Lib.contains l s) := by
 unfold Lib.contains
 have hge := Lib.index_ge l s
 rw [Lib.index]
 by_cases hp : s.isPrefixOf (b :: l) = true
 ·rw [if_pos hp, hp]; rfl
 rw [if_neg hp]
 have hp' : s.isPrefixOf (b :: l) = false := Bool.eq_false_iff.2 hp
 rw [hp', Bool.false_or]
 by_cases hi : Lib.index l s = -1
 ·rw [hi]; rfl
 have : (Lib.index l s == -1) = false := by simpa using hi
 rw [this, if_neg (by simp)]
 rw [decide_eq_decide]
 omega
/-- Words between blanks. -/
def Kj : List Str → Str
 | [] => [32]
 | w :: r => 32 :: (w ++ Kj r)
theorem Oy (sub : Str) : ∀ (w R : Str), (32 : UInt8) ∉ w → Lib.contains (w ++ R) (32 :: sub) = Lib.contains R (32 :: sub)
 | [], R, _ => rfl
 | b :: w, R, h => by
  have hb : b ≠ 32 := fun e => h (by simp [e])
  rw [List.cons_append, contains_cons, Oy sub w R (fun hm => h (by simp [hm]))]
  have : (32 :: sub).isPrefixOf (b :: (w ++ R)) = false := by
   simp [List.isPrefixOf, Ne.symm hb]
  rw [this, Bool.false_or]
theorem L9 : ∀ (s w : Str) (R : Str), (32 : UInt8) ∉ s → (32 : UInt8) ∉ w → (s ++ [32]).isPrefixOf (w ++ 32 :: R) = (s == w)
 | [], [], R, _, _ => by simp [List.isPrefixOf]
 | [], b :: w, R, _, hw => by
  have hb : (32 : UInt8) ≠ b := fun e => hw (by simp [e])
  simp [List.isPrefixOf, hb]
 | a :: s, [], R, hs, _ => by
  have hb : a ≠ (32 : UInt8) := fun e => hs (by simp [e])
  simp [List.isPrefixOf, hb]
 | a :: s, b :: w, R, hs, hw => by
  have ih := L9 s w R (fun h => hs (by simp [h])) (fun h => hw (by simp [h]))
  rw [List.cons_append, List.cons_append, List.isPrefixOf, ih]
  rfl
theorem S4 : ∀ ws, ∃ R, Kj ws = 32 :: R
 | [] => ⟨[], rfl⟩
 | w :: r => ⟨_, rfl⟩
theorem Hy (s : Str) (hs : (32 : UInt8) ∉ s) : ∀ (ws : List Str), (∀ w ∈ ws, (32 : UInt8) ∉ w) → Lib.contains (Kj ws) ([32] ++ s ++ [32]) = ws.any (· == s)
 | [], _ => by
  rw [Kj, contains_cons, Qk _ (by simp), Bool.or_false]
  cases s <;> simp [List.isPrefixOf]
 | w :: r, h => by
  have hw := h w (by simp)
  obtain ⟨R, hR⟩ := S4 r
  have ih := Hy s hs r (fun x hx => h x (by simp [hx]))
  have e1 : ([32] ++ s ++ [32] : Str) = 32 :: (s ++ [32]) := rfl
  rw [Kj, contains_cons, e1, Oy _ w _ hw, ← e1, ih, List.any_cons]
  congr 1
  rw [e1, hR]
  have := L9 s w R hs hw
  rw [List.isPrefixOf, this]
  simp only [beq_self_eq_true, Bool.true_and]
  by_cases hsw : s = w
  ·subst hsw; rfl
  rw [beq_eq_false_iff_ne.2 hsw, beq_eq_false_iff_ne.2 (Ne.symm hsw)]
theorem O7 : H6 = Kj words := by kernel_rfl
theorem S5 : ∀ w ∈ words, (32 : UInt8) ∉ w := by decide
theorem bx (s : Str) : Lib.contains s [32] = s.contains 32 := by
 induction s with
 | nil => rfl
 | cons b l ih =>
  rw [contains_cons, ih, List.contains_cons]
  congr 1
  simp [List.isPrefixOf]
theorem Mq (s : Str) (h1 : s ≠ []) (h2 : (32 : UInt8) ∉ s) : Do s = Kc s := by
 unfold Do
 rw [bx, O7, Hy s h2 words S5]
 have e1 : (s == []) = false := by simpa using h1
 have e2 : s.contains 32 = false := by simpa using h2
 rw [e1, e2]
 rfl
set_option maxRecDepth 8000
theorem c6 {p : UInt8 → Bool} (h : ((List.range 256).all fun n => p (UInt8.ofNat n)) = true) (c : UInt8) : p c = true := by
 have := List.all_eq_true.1 h c.toNat (List.mem_range.2 c.toNat_lt)
 simpa using this
theorem Ur (c : UInt8) : tails.contains c = Ma c := by
 have := c6 (p := fun c => tails.contains c == Ma c) (by kernel_rfl) c
 simpa using this
theorem Ql (c : UInt8) : letters.contains c = H4 c := by
 have := c6 (p := fun c => letters.contains c == H4 c) (by kernel_rfl) c
 simpa using this
theorem Us : Ma 32 = false := by kernel_rfl
theorem Vr (s of : Str) : (Jg s of == (s.length : Int)) = s.all (of.contains ·) := by
 unfold Jg Lib.trimLeftS
 induction s with
 | nil => rfl
 | cons c r ih =>
  rw [List.dropWhile_cons, List.all_cons]
  cases hc : of.contains c with
  | true =>
   simp only [if_true, Bool.true_and]
   rw [← ih, Bool.eq_iff_iff]
   have := (List.dropWhile_sublist (fun x => of.contains x) (l := r)).length_le
   simp only [beq_iff_eq, List.length_cons]
   omega
  | false =>
   simp only [Bool.false_eq_true, if_false, Bool.false_and]
   rw [beq_eq_false_iff_ne]
   simp only [List.length_cons]
   omega
theorem J3 (s : Str) : Cf s = Ro s := by
 cases s with
 | nil => rfl
 | cons c r =>
  unfold Cf
  rw [Vr]
  have e1 : ((c :: r).all fun x => tails.contains x) = (c :: r).all Ma := by
   congr 1
   funext x
   exact Ur x
  have e2 : (Jg ((c :: r).take 1) letters == 1) = H4 c := by
   have := Vr [c] letters
   rw [← Ql c]
   simpa using this
  rw [e1, e2]
  have e3 : ((c :: r : Str) == []) = false := rfl
  have e4 : decide (((c :: r).length : Int) ≤ 16) = decide ((c :: r).length ≤ 16) := by
   rw [decide_eq_decide]; omega
  rw [e3, e4]
  show _ = (decide ((c :: r).length ≤ 16) && H4 c && !Kc (c :: r) && (c :: r).all Ma)
  cases ha : (c :: r).all Ma with
  | false => simp
  | true =>
   have hb : (32 : UInt8) ∉ (c :: r) := fun hm => by
    have := List.all_eq_true.1 ha 32 hm
    rw [Us] at this
    cases this
   rw [Mq _ (by simp) hb]
   simp
theorem Ut (s : Str) : Ay (Cr s) = Ro s := by
 have e : Am 1 (Cr s) = [(1, Cr s)] := by rw [Ep]; rfl
 unfold Ay
 rw [e]
 show ((List.range 1).all (goM (Cr s))) = _
 have g : goM (Cr s) 0 = Gb (Cr s) := by
  unfold goM
  rw [e]
  simp
 simp only [List.range_succ, List.range_zero, List.nil_append, List.all_cons, List.all_nil, Bool.and_true]
 rw [g, ← J3]
 simp [Gb, Cr, Expr.op, Expr.val, Expr.text, Expr.kids, Ov]
theorem Qm (k : Int) : (Bb k == []) = (decide (k < 1) || decide ((3 : Int) < k)) := by
 unfold Bb
 by_cases h : k < 1 ∨ 3 < k
 ·rw [if_pos h]
  have : (decide (k < 1) || decide ((3 : Int) < k)) = true := by simpa using h
  rw [this]; rfl
 rw [if_neg h]
 have : (decide (k < 1) || decide ((3 : Int) < k)) = false := by simp; omega
 rw [this]
 have hk : k = 1 ∨ k = 2 ∨ k = 3 := by omega
 rcases hk with rfl | rfl | rfl <;> rfl
theorem Qn (c : List Col) : Mp c = Hv c := by
 unfold Mp Hv
 congr 1
 funext x
 unfold Ki jq
 rw [Ut, Qm, ← Bool.or_assoc (!Ro x.1.name)]
theorem Mr (c : List Col) : Qj c = C4 c := by unfold Qj C4; rw [Qn]
set_option maxRecDepth 4000
def A9 (l : List Tok) (i : Nat) : Tok := l.getD i ⟨0, [], 0⟩
theorem Kk {l : List Tok} {i : Nat} (h : i < l.length) : (l.map Ff)[i]? = some (Ff (A9 l i)) := by
 rw [List.getElem?_map, List.getElem?_eq_getElem h]
 unfold A9
 rw [List.getD_eq_getElem?_getD, List.getElem?_eq_getElem h]
 rfl
end Go.SX.Nb
