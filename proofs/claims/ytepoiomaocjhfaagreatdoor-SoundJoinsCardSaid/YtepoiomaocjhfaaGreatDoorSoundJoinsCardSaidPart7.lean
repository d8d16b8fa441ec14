/- Texts on the way to this: SoundJoins answers true for whatever it is handed: moves that are sound over columns, and others that are sound over what is behind those, are sound all together and lead to the same columns, unless they are too many. (part 7) -/
import Derived.Lib.ParseIntBTie
import Derived.Shelf.Strings.Builder1
import Derived.Lib.ItoaLen
import Derived.Test.YtepoiomaocjhfaaGreatDoorSoundJoinsCardSaidPart6
set_option linter.all false
namespace Go.SX.Nb
open Go Go.SX Go.Proofs
variable [ErrAt]
set_option maxRecDepth 4000
theorem c36 (l : List Col) (hl : l.length ≤ 1000000) (Hp : List AObj) : AFun Tryz.prog 36 [Af l] Hp (Af l) := by
 refine ACall.body [.tmp 2] [0] Tryz.func36 Tryz.ntmps36 (fun d => ?_)
 refine Z54 ?_;refine Z11 ?_
 refine R.eqlNil jU (by kernel_rfl) (fun b hb => ?_)
 refine R.fin [0, 4] ?_
 refine W.cond (fun ht4 => ?_) (fun ht4 => ?_)
 ·have hl0 : l = [] := by simpa using hb ht4
  subst hl0
  refine Z3 ?_;refine R.nilTmp 2 2 false ?_;refine Z2 ?_;refine K.thR ?_;exact K.fin (V.one V.tmp) ⟨rfl, rfl⟩
 refine Qa ?_;refine Hi ?_;refine Av ?_
 refine R.append jU Tryz.type58 ?_ ?_ ?_
 ·simp [Tryz.t58]; omega
 ·simp [Tryz.t58]; omega
 refine R.assignT ?_;refine Z2 ?_;exact K.fin (V.one V.tmp) ⟨rfl, rfl⟩

theorem dg {Hp : List AObj} {y : Col} {n : Nat} (h : ∀ x ∈ Hp, ObjLow Hp.length x) : ∀ x ∈ Hp ++ [AObj.cells 58 [], AObj.cells 58 (Aa y.name :: A4 y.kind :: List.replicate n AV.any)], ObjLow (Hp.length + 2) x := by
 intro x hx
 rcases List.mem_append.1 hx with hx | hx
 ·exact ObjLow.le (by omega) (h x hx)
 simp only [List.mem_cons, List.mem_nil_iff, or_false] at hx
 rcases hx with rfl | rfl
 ·intro z hz; cases hz
 intro z hz
 simp only [List.mem_cons] at hz
 rcases hz with rfl | rfl | hz
 ·simp
 ·simp
 rw [List.eq_of_mem_replicate hz]; simp
theorem rz (y : Col) (Hp : List AObj) : ACallO Tryz.prog 36 [Af [y]] Hp (fun r H' => ∃ cc, 1 ≤ cc ∧ r = .sl (oid Hp.length 1) 2 1 cc ∧ H' = Hp ++ [.cells 58 [], .cells 58 (Aa y.name :: A4 y.kind :: List.replicate ((cc - 1) * 2) AV.any)]) := by
 refine ACallO.body [.tmp 2] [0] Tryz.func36 Tryz.ntmps36 (fun d => ?_)
 refine Z54 ?_;refine Z15 ?_
 refine R.assumeLow (fun hlow => ?_)
 refine Av ?_
 refine R.eqlNil jU (by kernel_rfl) (fun b hb => ?_)
 refine R.fin [0, 4] ?_
 refine W.cond (fun ht4 => ?_) (fun ht4 => ?_)
 ·exact absurd (hb ht4) (by simp)
 refine Qa ?_;refine R.buildObj0 (n := 0) jU Tryz.sizeOf58 ?_;refine Av ?_
 refine R.appendObj (k := 2) (n := 1) jU Tryz.type58 (show [Aq y] ≠ [] by simp) ?_ ?_ (fun cc hcc => ?_)
 ·simp [Tryz.t58]
 ·simp
 have e0 : Hf [Aq y] ++ List.replicate ((cc - [Aq y].length) * 2) AV.any = Aa y.name :: A4 y.kind :: List.replicate ((cc - 1) * 2) AV.any := rfl
 rw [e0]
 clear e0
 refine Z23 ?_;exact K.finO 2 (V.tmp (t := 2)) ⟨cc, hcc, rfl, rfl⟩ (hlow := by simp [oid]) (hobj := dg hlow)

theorem p9 (c : List Col) (hc : OkCols c) (m : Mov) (h : OkMov m) (h3 : (m.kind == 3) = false) (Hp : List AObj) : AFun Tryz.prog 94 [Af c, F5 m] Hp (Af (B1 c m)) := by
 refine ACall.body [.tmp 4] [0, 1] Tryz.func94 Tryz.ntmps94 (fun d => ?_)
 refine Z64 ?_;refine Kb ?_;refine B8 ?_;refine kp ?_;refine R.call Tryz.call36 (c36 m.give h.gives2 _) ?_;refine Bg ?_;refine R.fin [0, 3, 5] ?_;refine Tx ?_;refine R.eql ?_;refine R.fin [0, 3, 5, 12] ?_
 refine W.cond (fun ht12 => ?_) (fun ht12 => ?_)
 ·rw [h3] at ht12; cases ht12
 refine Ka ?_;refine Z51 ?_;exact K.fin (V.one V.tmp) ⟨by rw [iv h3] <;> rfl, rfl⟩

theorem pc (c : List Col) (hc : OkCols c) (m : Mov) (h : OkMov m) (h3 : (m.kind == 3) = true) (s : Str) (y : Col) (ht : m.take = [s]) (hg : m.give = [y]) (Hp : List AObj) : AFun Tryz.prog 94 [Af c, F5 m] Hp (Af (B1 c m)) := by
 have hgv := iw (c := c) h3 ht hg
 have hgy := dc (c := c) h3 ht hg
 obtain ⟨kd, tk, gv, ah, bk⟩ := m
 simp only at ht hg h3
 subst ht hg
 refine ACall.body [.tmp 4] [0, 1] Tryz.func94 Tryz.ntmps94 (fun d => ?_)
 refine Z64 ?_;refine Kb ?_;refine B8 ?_;refine kp ?_;refine R.callO Tryz.call36 (rz y _) ?_
 rintro _ _ ⟨cc, hcc, rfl, rfl⟩
 refine ⟨[.cells 58 [], .cells 58 (Aa y.name :: A4 y.kind :: List.replicate ((cc - 1) * 2) AV.any)], by simp, ?_⟩
 simp only [List.append_nil, List.nil_append]
 refine Bg ?_;refine R.fin [0, 3, 5] ?_;refine Tx ?_;refine R.eql ?_;refine R.fin [0, 3, 5, 12] ?_
 refine W.cond (fun ht12 => ?_) (fun ht12 => ?_)
 ·refine Z0 ?_;refine et ?_;refine R.indexAddr (0) (Aa s) jU jS rfl ?_;refine Di ?_;refine R.call Tryz.call59 (c59 c hc s _) ?_;refine Bg ?_;refine R.fin [0, 5, 6] ?_;refine Z0 ?_;refine R.geq ?_;refine R.fin [0, 5, 6, 20] ?_
  refine W.cond (fun ht20 => ?_) (fun ht20 => ?_)
  ·have hf : ¬ Be s c < 0 := by simp at ht20; omega
   obtain ⟨jj, hjj, hjc⟩ := Jt hf
   refine Z31 ?_;refine Z53 ?_;refine R.indexAddr ((Be s c).toNat) (Aq (c.getD (Be s c).toNat ⟨[], 0⟩)) jU jS (Wd hf) ?_;refine eu ?_;refine R.indexAddrSl (n := 1) 0 jU Tryz.sizeOf58 (by decide) ?_;refine R.fieldAddrPtr (fo := 1) jU Tryz.sizeOf3 (hc := rfl) ?_
   refine R.storeOwn (y := A4 (c.getD (Be s c).toNat ⟨[], 0⟩).kind) (ys := [A4 (c.getD (Be s c).toNat ⟨[], 0⟩).kind]) (n := 1) (cs := Aa y.name :: A4 y.kind :: List.replicate ((cc - 1) * 2) AV.any) (cs' := Aa y.name :: A4 (c.getD (Be s c).toNat ⟨[], 0⟩).kind :: List.replicate ((cc - 1) * 2) AV.any) (t' := 58) jS ?_ (hc := rfl) (hput := rfl) (hfit := by simp)
   refine R.fin [5] ?_;refine K.thN ?_;refine B8 ?_;refine R.freeze (k := 2) (n := 1) 5 1 [Aq ⟨y.name, (c.getD (Be s c).toNat ⟨[], 0⟩).kind⟩] hcc rfl rfl (Su [⟨y.name, (c.getD (Be s c).toNat ⟨[], 0⟩).kind⟩]) (Sv [⟨y.name, (c.getD (Be s c).toNat ⟨[], 0⟩).kind⟩]) (Ni [⟨y.name, (c.getD (Be s c).toNat ⟨[], 0⟩).kind⟩]) ?_;refine Av ?_;exact mu
  have hf : Be s c < 0 := by simp at ht20; omega
  refine Qa ?_;refine R.freeze (k := 2) (n := 1) 5 1 [Aq ⟨y.name, y.kind⟩] hcc rfl rfl (Su [⟨y.name, y.kind⟩]) (Sv [⟨y.name, y.kind⟩]) (Ni [⟨y.name, y.kind⟩]) ?_;refine Av ?_;exact mu
 rw [h3] at ht12; cases ht12

/-- What a move must have before it is turned. -/
structure MvOk (m : Mov) : Prop where
 ok : OkMov m
 ahead : m.ahead.length = m.give.length
 back : m.back.length = m.take.length
 one : (m.kind == 3) = true → m.take.length = 1 ∧ m.give.length = 1
theorem ix {m : Mov} (h : OkMov m) (hc : Df m = true) : MvOk m := ⟨h, (Ha hc).1, (Ha hc).2, fun h3 => Nh hc (by rw [h3]; rfl)⟩
theorem c94 (c : List Col) (hc : OkCols c) (m : Mov) (h : MvOk m) (Hp : List AObj) : AFun Tryz.prog 94 [Af c, F5 m] Hp (Af (B1 c m)) := by
 cases h3 : m.kind == 3 with
 | false => exact p9 c hc m h.ok h3 Hp
 | true =>
  obtain ⟨h1, h2⟩ := h.one h3
  obtain ⟨s, hs⟩ := dd h1
  obtain ⟨y, hy⟩ := dd h2
  exact pc c hc m h.ok h3 s y hs hy Hp
theorem Sw {c : List Col} {m : Mov} (h : OkMov m) : OkCols (B1 c m) := by
 refine ⟨by rw [Ij]; exact Nat.le_trans h.gives2 (by decide), fun y hy => ?_⟩
 unfold B1 at hy
 split at hy
 ·split at hy
  ·exact h.gives.2 y hy
  cases hg : m.give with
  | nil => rw [hg] at hy; cases hy
  | cons z r =>
   rw [hg] at hy
   rcases List.mem_cons.1 hy with rfl | hy
   ·exact h.gives.2 z (by rw [hg]; exact List.mem_cons_self)
   exact h.gives.2 y (by rw [hg]; exact List.mem_cons_of_mem _ hy)
 exact h.gives.2 y hy
theorem Sx {c give : List Col} {take : List Str} (hc : OkCols c) (hg : OkCols give) (hg2 : give.length ≤ 1000000) : OkCols (C1 c take give).1 := by
 have h0 : OkCols ([] : List Col) := ⟨by decide, fun y hy => by cases hy⟩
 unfold C1
 split
 ·exact h0
 rename_i hr
 split
 ·exact h0
 split
 ·exact h0
 split
 ·exact h0
 split
 ·exact h0
 exact co hc (by simpa using hr) hg hg2 rfl
theorem V3 {c give : List Col} {take : List Str} (h : ((C1 c take give).2 != 0) = false) : ∀ s ∈ take, ¬ Be s c < 0 := by
 have ht : Eb c take = true := by
  unfold C1 at h
  split at h
  ·cases h
  split at h
  ·cases h
  rename_i ht
  simpa using ht
 intro s hs hf
 obtain ⟨j, hj⟩ := List.getElem?_of_mem hs
 have := takenM_true.1 ht j s hj
 unfold Ii at this
 rw [show decide (Be s c < 0) = true by simpa using hf] at this
 simp at this
theorem Yr {over : List Col} {l : List Expr} {w : List Col} {x : Nat} (hl : x < l.length) (hw : x < w.length) :
  Cg over (l.drop x) (w.drop x) = if Qs l[x] over w[x].kind != 0 then Qs l[x] over w[x].kind else Cg over (l.drop (x + 1)) (w.drop (x + 1)) := by
 rw [List.drop_eq_getElem_cons hl, List.drop_eq_getElem_cons hw]
 rfl
theorem dh {over : List Col} {l : List Expr} {w : List Col} {x : Nat} (hl : l.length ≤ x) : Cg over (l.drop x) (w.drop x) = 0 := by
 rw [List.drop_eq_nil_of_le hl]
 cases w.drop x <;> rfl
theorem Ys {α β : Type} {f : α → β} {l : List α} {x : Nat} (h : x < l.length) : (l.take (x + 1)).map f = (l.take x).map f ++ [f l[x]] := by
 rw [List.take_succ_eq_append_getElem h, List.map_append]; rfl
theorem iy {c : List Col} {m : Mov} (h : ((C1 c m.take (B1 c m)).2 != 0) = true) : B7 c m = ([], (C1 c m.take (B1 c m)).2) := if_pos h
theorem iz {c : List Col} {m : Mov} (h : ((C1 c m.take (B1 c m)).2 != 0) = false) (h2 : (Cg c m.ahead (B1 c m) != 0) = true) : B7 c m = ([], Cg c m.ahead (B1 c m)) := by
 unfold B7; rw [if_neg (by rw [h]; simp), if_pos h2]
theorem j4 {c : List Col} {m : Mov} (h : ((C1 c m.take (B1 c m)).2 != 0) = false) (h2 : (Cg c m.ahead (B1 c m) != 0) = false) (h3 : (Cg (C1 c m.take (B1 c m)).1 m.back (H9 c m) != 0) = true) : B7 c m = ([], Cg (C1 c m.take (B1 c m)).1 m.back (H9 c m)) := by
 unfold B7; rw [if_neg (by rw [h]; simp), if_neg (by rw [h2]; simp), if_pos h3]
theorem j5 {c : List Col} {m : Mov} (h : ((C1 c m.take (B1 c m)).2 != 0) = false) (h2 : (Cg c m.ahead (B1 c m) != 0) = false) (h3 : (Cg (C1 c m.take (B1 c m)).1 m.back (H9 c m) != 0) = false) : B7 c m = ((C1 c m.take (B1 c m)).1, 0) := by
 unfold B7; rw [if_neg (by rw [h]; simp), if_neg (by rw [h2]; simp), if_neg (by rw [h3]; simp)]
theorem c96 (l : List Expr) (h : OkEs l) (w : List Col) (hw : w.length = l.length) (c : List Col) (hc : OkCols c) (Hp : List AObj) : AFun Tryz.prog 96 [I4 l, Af w, Af c] Hp (A4 (Cg c l w)) := by
 refine ACall.body [.tmp 6] [0, 1, 2] Tryz.func96 Tryz.ntmps96 (fun d => ?_)
 refine Z3 ?_;refine R.fin [0, 1, 2] ?_;refine Q8 ?_;refine R.fin [1, 2, 11, 12, 13] ?_
 refine AW.loopC (α := Nat) (fun x => ⟨37, A5 1 (Af w) (A5 2 (Af c) (A5 11 (I4 l) (A5 12 (A4 (l.length : Nat)) (A5 13 (A4 (x : Nat)) (fun _ => .any))))), Hp, [], [], none⟩) (fun x => x ≤ l.length ∧ Cg c l w = Cg c (l.drop x) (w.drop x)) (fun x => l.length - x) (0) ⟨Nat.zero_le _, rfl⟩ (StLe.of_eq (by simp)) rfl (fun x hx => ?_)
 refine Z59 ?_;refine R.fin [1, 2, 11, 12, 13, 14] ?_
 refine W.condX (fun ht14 => ?_) (fun ht14 => ?_)
 ·have hlt : x < l.length := by simpa using ht14
  have hlw : x < w.length := by omega
  have hlen := h.len
  have hst := Yr (over := c) hlt hlw
  refine Z75 ?_;refine R.indexAddr (x) (A7 l[x]) jU jS (By hlt) ?_;refine Gf ?_;refine Xi ?_;refine R.fin [1, 2, 7, 8, 11, 12, 13] ?_;refine Z15 ?_;refine Qb ?_;refine Av ?_;refine R.call Tryz.call60 (c60 61 l[x] (h.ok _ (List.getElem_mem hlt)) (by decide) c hc _) ?_;refine Z94 ?_;refine R.fin [1, 2, 7, 8, 10, 11, 12, 13] ?_;refine Z0 ?_;refine R.neq ?_;refine R.fin [1, 2, 7, 8, 10, 11, 12, 13, 25] ?_
  refine W.cond (fun ht25 => ?_) (fun ht25 => ?_)
  ·have he : Qs l[x] c w[x].kind = (I3 l[x] c).2 := if_pos ht25
   have hm : Cg c l w = (I3 l[x] c).2 := by rw [hx.2, hst, he, if_pos ht25]
   refine Z0 ?_;refine Bg ?_;refine Tu ?_;exact Z55
  refine Z6 ?_;refine W.draw [0, 0, 0, 0, 12, 28, 60, 127, 255] 7 Ad (by kernel_rfl) ?_;refine D.loadOwnN jA jS ?_;refine D.move ?_;refine D.move ?_;refine D.move ?_;refine D.indexAddr (x) (Aq w[x]) jU jS (By hlw) ?_;refine D.fieldAddrRo (off := 1) jU Tryz.sizeOf3 ?_;refine D.loadRo jA ?_;refine D.tail ?_;refine R.call Tryz.call32 (c32 61 l[x] (h.ok _ (List.getElem_mem hlt)) (by decide) c hc w[x].kind _) ?_;refine R.not ?_;refine R.fin [1, 2, 11, 12, 13, 35] ?_
  refine W.cond (fun ht35 => ?_) (fun ht35 => ?_)
  ·have he : Qs l[x] c w[x].kind = 10 := by unfold Qs; rw [if_neg (by rw [ht25]; simp), if_pos ht35]
   have hm : Cg c l w = 10 := by rw [hx.2, hst, he]; rfl
   refine Z3 ?_;refine Z71 ?_;exact Z55
  have he : Qs l[x] c w[x].kind = 0 := by unfold Qs; rw [if_neg (by rw [ht25]; simp), if_neg (by rw [ht35]; simp)]
  have hnx : Cg c l w = Cg c (l.drop (x + 1)) (w.drop (x + 1)) := by rw [hx.2, hst, he]; rfl
  refine Z91 ?_;refine R.fin [1, 2, 11, 12, 13] ?_;refine K.lpN (x + 1) ⟨hlt, hnx⟩ (by omega) ?_
  exact StCut.take (own := []) (fun _ => .refl _) (by repeat (first | exact B5 | refine B4 (by first | (simp [or_imp, forall_and]; done) | exact Cs) ?_)) (by simp) (by simp)
 have hxe : l.length ≤ x := by simpa using ht14
 have hm : Cg c l w = 0 := by rw [hx.2, dh hxe]
 refine U3 ?_;refine Z71 ?_;exact fx

theorem c97 (c : List Col) (hc : OkCols c) (m : Mov) (h : OkMov m) (hf : ∀ s ∈ m.take, ¬ Be s c < 0) (Hp : List AObj) : AFun Tryz.prog 97 [Af c, F5 m] Hp (Af (H9 c m)) := by
 refine ACall.body [.tmp 4] [0, 1] Tryz.func97 Tryz.ntmps97 (fun d => ?_)
 refine Z64 ?_;refine Kb ?_;refine Z3 ?_;refine R.fin [0, 3, 5] ?_;refine Z15 ?_;refine R.nilSl 5 2 ?_;refine et ?_;refine Z45 ?_;refine R.fin [0, 5, 9, 10, 11] ?_
 refine AW.loopC (α := Nat) (fun x => ⟨26, A5 0 (Af c) (A5 5 (.slice true 2 (((m.take.take x).map fun s => c.getD (Be s c).toNat ⟨[], 0⟩).map Aq)) (A5 9 (E8 m.take) (A5 10 (A4 (m.take.length : Nat)) (A5 11 (A4 (x : Nat)) (fun _ => .any))))), Hp, [], [], none⟩) (fun x => x ≤ m.take.length) (fun x => m.take.length - x) (0) (Nat.zero_le _) (StLe.of_eq (by simp)) rfl (fun x hx => ?_)
 refine Z59 ?_;refine R.fin [0, 5, 9, 10, 11, 12] ?_
 refine W.condX (fun ht12 => ?_) (fun ht12 => ?_)
 ·have hlt : x < m.take.length := by simpa using ht12
  have htk := h.takes
  have hfx := hf _ (List.getElem_mem hlt)
  obtain ⟨jj, hjj, hjc⟩ := Jt hfx
  refine Z73 ?_;refine R.indexAddr (x) (Aa m.take[x]) jU jS (By hlt) ?_;refine Di ?_;refine Bg ?_;refine R.fin [0, 5, 7, 9, 10, 11] ?_;refine Hh ?_;refine R.moveT ?_;refine Z53 ?_;refine Av ?_;refine R.call Tryz.call59 (c59 c hc m.take[x] _) ?_;refine R.indexAddr ((Be m.take[x] c).toNat) (Aq (c.getD (Be m.take[x] c).toNat ⟨[], 0⟩)) jU jS (Wd hfx) ?_;refine Gf ?_;refine Hi ?_
  refine R.append jU Tryz.type58 ?_ ?_ ?_
  ·simp only [List.length_map, List.length_take, List.length_cons, List.length_nil, Tryz.t58]; omega
  ·simp only [List.length_map, List.length_take, List.length_cons, List.length_nil, Tryz.t58]; omega
  refine R.assignT ?_;refine R.fin [0, 5, 9, 10, 11] ?_;refine Z9 ?_;refine Z57 ?_;refine R.fin [0, 5, 9, 10, 11] ?_
  refine K.lpN (x + 1) hlt (by omega) (StCut.of_eq ?_)
  rw [Ys hlt, List.map_append]
  rfl
 have hxe : m.take.length ≤ x := by simpa using ht12
 refine Z36 ?_;refine Xr ?_;exact K.fin (V.one V.tmp) ⟨by unfold H9; rw [List.take_of_length_le hxe] <;> rfl, rfl⟩ (hlow := E2)

theorem c65 (c : List Col) (hc : OkCols c) (m : Mov) (h : MvOk m) (Hp : List AObj) : AFun Tryz.prog 65 [Af c, F5 m] Hp (.tup [Af (B7 c m).1, A4 (B7 c m).2]) := by
 refine ACall.body [.tmp 4, .tmp 5] [0, 1] Tryz.func65 Tryz.ntmps65 (fun d => ?_)
 refine Z32 ?_;refine Z7 ?_;refine Kb ?_;refine Z0 ?_;refine Gf ?_;refine R.call Tryz.call94 (c94 c hc m h _) ?_;refine Bg ?_;refine R.fin [0, 3, 6] ?_;refine B8 ?_
 have hg := Sw (c := c) h.ok
 have hg2 : (B1 c m).length ≤ 1000000 := by rw [Ij]; exact h.ok.gives2
 refine Av ?_;refine et ?_;refine Av ?_;refine R.call Tryz.call95 (c95 c hc m.take h.ok.takes (B1 c m) hg hg2 _) ?_;refine Z94 ?_;refine R.fin [0, 3, 6, 7, 8] ?_;refine Rl ?_;refine R.fin [0, 3, 6, 7, 8, 23] ?_
 refine W.cond (fun ht23 => ?_) (fun ht23 => ?_)
 ·have hm := iy ht23
  exact fj
 refine Z6 ?_;refine Z15 ?_;refine R.fieldAddrRo (off := 3) jU Tryz.sizeOf43 ?_;refine Di ?_;refine Z53 ?_;refine R.call Tryz.call96 (c96 m.ahead h.ok.ahead (B1 c m) (by rw [Ij, h.ahead]) c hc _) ?_;refine Bg ?_;refine R.fin [0, 3, 7, 9] ?_;refine Z0 ?_;refine R.neq ?_;refine R.fin [0, 3, 7, 9, 31] ?_
 refine W.cond (fun ht31 => ?_) (fun ht31 => ?_)
 ·have hm := iz ht23 ht31
  exact fj
 refine Z6 ?_;refine W.seq ?_;refine W.draw [0, 1, 0, 0, 12, 0, 63, 127] 6 Ad (by kernel_rfl) ?_;refine D.fieldAddrRo (off := 4) jU Tryz.sizeOf43 ?_;refine D.loadRo jA ?_;refine D.move ?_;refine D.loadRoN jA jS ?_;refine D.call Tryz.call97 (c97 c hc m h.ok (V3 ht23) _) ?_;refine D.move ?_;refine D.tail ?_;refine R.call Tryz.call96 (c96 m.back h.ok.back (H9 c m) (by rw [H9, List.length_map, h.back]) (C1 c m.take (B1 c m)).1 (Sx hc hg hg2) _) ?_;refine Bg ?_;refine R.fin [7, 10] ?_;refine Z0 ?_;refine R.neq ?_;refine R.fin [7, 10, 41] ?_
 refine W.cond (fun ht41 => ?_) (fun ht41 => ?_)
 ·have hm := j4 ht23 ht31 ht41
  exact fj
 have hm := j5 ht23 ht31 ht41
 refine Ka ?_;refine Z7 ?_;exact mz

def Jv {α : Type} (p : α → Bool) (l : List α) : Int := if l.any p then (l.findIdx p : Int) else -1
theorem di {α : Type} {p : α → Bool} {l : List α} {i : Nat} (h : i < l.length) (hn : p l[i] = true) (hp : ∀ (j : Nat) (y : α), j < i → l[j]? = some y → p y = false) : (i : Int) = Jv p l := by
 unfold Jv
 rw [if_pos (List.any_eq_true.2 ⟨_, List.getElem_mem h, hn⟩)]
 congr 1
 refine (List.findIdx_eq h |>.2 ⟨hn, fun j hj => ?_⟩).symm
 exact hp j (l[j]'(by omega)) hj (List.getElem?_eq_getElem (by omega))
theorem V4 {α : Type} {p : α → Bool} {l : List α} (h : l.any p = false) : (-1 : Int) = Jv p l := by
 unfold Jv
 rw [if_neg (by rw [h]; simp)]
theorem Yt {α : Type} (p : α → Bool) (l : List α) : decide (0 ≤ Jv p l) = l.any p := by
 unfold Jv
 cases l.any p <;> simp
def I6 (s : Str) : Bool := !(Cf s)
def Gk (e : Expr) : Bool := !(Ay e)
theorem dj {m : Mov} (h : (((m.ahead.length : Int) != (m.give.length : Int)) || ((m.back.length : Int) != (m.take.length : Int))) = true) : Df m = false := if_pos h
theorem dk {m : Mov} (h : (((m.ahead.length : Int) != (m.give.length : Int)) || ((m.back.length : Int) != (m.take.length : Int))) = false) : Df m = if m.kind == 1 then ((m.take.length : Int) == 0) && ((m.give.length : Int) == 1)
 else if m.kind == 2 then ((m.take.length : Int) == 1) && ((m.give.length : Int) == 0)
 else if (m.kind == 3) || (m.kind == 6) then ((m.take.length : Int) == 1) && ((m.give.length : Int) == 1)
 else if m.kind == 4 then ((m.take.length : Int) == 1) && decide ((1 : Int) < (m.give.length : Int))
 else if m.kind == 5 then decide ((1 : Int) < (m.take.length : Int)) && ((m.give.length : Int) == 1)
 else false := if_neg (by rw [h]; simp)
theorem s6 (m : Mov) (Hp : List AObj) : AFun Tryz.prog 125 [F5 m] Hp (Ar (Df m)) := by
 refine ACall.body [.tmp 2] [0] Tryz.func125 Tryz.ntmps125 (fun d => ?_)
 refine Nz ?_;refine W.draw [0, 1, 3, 0, 8, 24, 7, 127] 7 Ad (by kernel_rfl) ?_;refine km ?_;refine D.len jU ?_;refine D.fieldAddrRo (off := 2) jU Tryz.sizeOf22 ?_;refine D.loadRo jA ?_;refine D.len jU ?_;refine aq ?_;refine Bg ?_;refine R.fin [1, 3, 4] ?_;refine Z15 ?_
 simp only [List.length_map]
 refine R.fieldAddrRo (off := 3) jU Tryz.sizeOf43 ?_;refine Di ?_;refine Z45 ?_;refine R.neq ?_;refine Av ?_;refine G.fieldAddrRo (off := 4) jU Tryz.sizeOf43 ?_;refine G.loadRo jA ?_;refine G.len jU ?_;refine G.move ?_;refine Rh ?_;refine R.fin [1, 3, 4, 22] ?_
 refine W.cond (fun ht22 => ?_) (fun ht22 => ?_)
 ·simp only [List.length_map] at ht22
  have hm := dj ht22
  refine Z44 ?_;exact ke
 simp only [List.length_map] at ht22
 have hn := dk ht22
 refine Z6 ?_;refine Tx ?_;refine R.fin [3, 4, 24] ?_;refine Rk ?_;refine R.fin [3, 4, 24, 25] ?_
 refine W.cond (fun ht25 => ?_) (fun ht25 => ?_)
 ·refine Z0 ?_;refine Tv ?_;refine Z97 ?_;refine Z4 ?_;exact K.fin (V.one V.tmp) ⟨by rw [hn]; first | (simp only [ht22, ht25, hk3, hk6, Bool.true_or, Bool.false_or, Bool.or_true, Bool.or_false, if_true, if_false, Bool.false_eq_true, ↓reduceIte] <;> rfl) | (simp only [ht22, ht25, hk3, Bool.true_or, Bool.false_or, Bool.or_true, if_true, if_false, Bool.false_eq_true, ↓reduceIte] <;> rfl) | (simp only [ht22, ht25, if_true, if_false, Bool.false_eq_true, ↓reduceIte] <;> rfl), rfl⟩
 refine Z37 ?_;refine R.fin [3, 4, 24, 33] ?_
 refine W.cond (fun ht33 => ?_) (fun ht33 => ?_)
 ·refine Z0 ?_;refine Tv ?_;refine Z97 ?_;refine Z4 ?_;exact K.fin (V.one V.tmp) ⟨by rw [hn]; first | (simp only [ht22, ht25, ht33, hk3, hk6, Bool.true_or, Bool.false_or, Bool.or_true, Bool.or_false, if_true, if_false, Bool.false_eq_true, ↓reduceIte] <;> rfl) | (simp only [ht22, ht25, ht33, hk3, Bool.true_or, Bool.false_or, Bool.or_true, if_true, if_false, Bool.false_eq_true, ↓reduceIte] <;> rfl) | (simp only [ht22, ht25, ht33, if_true, if_false, Bool.false_eq_true, ↓reduceIte] <;> rfl), rfl⟩
 refine Z15 ?_;refine Z20 ?_;refine R.fin [3, 4, 24, 41] ?_
 refine W.cond (fun ht41 => ?_) (fun ht41 => ?_)
 ·have hk3 := ht41
  refine Z6 ?_
  refine W.cond (fun ht41 => ?_) (fun ht41 => ?_)
  ·refine Z0 ?_;refine Tv ?_;refine Z97 ?_;exact Z38
  rw [hk3] at ht41; cases ht41
 have hk3 := ht41
 refine Hh ?_;refine Z20 ?_;refine R.fin [3, 4, 24, 41] ?_;refine K.thN ?_
 refine W.cond (fun ht41 => ?_) (fun ht41 => ?_)
 ·have hk6 := ht41
  refine Z0 ?_;refine Tv ?_;refine Z97 ?_;exact Z38
 have hk6 := ht41
 refine Z37 ?_;refine R.fin [3, 4, 24, 50] ?_
 refine W.cond (fun ht50 => ?_) (fun ht50 => ?_)
 ·refine Z0 ?_;refine Tv ?_;refine G.gtr ?_;refine Xk ?_;refine Z4 ?_;exact K.fin (V.one V.tmp) ⟨by rw [hn]; first | (simp only [ht22, ht25, ht33, ht41, ht41, ht50, hk3, hk6, Bool.true_or, Bool.false_or, Bool.or_true, Bool.or_false, if_true, if_false, Bool.false_eq_true, ↓reduceIte] <;> rfl) | (simp only [ht22, ht25, ht33, ht41, ht41, ht50, hk3, Bool.true_or, Bool.false_or, Bool.or_true, if_true, if_false, Bool.false_eq_true, ↓reduceIte] <;> rfl) | (simp only [ht22, ht25, ht33, ht41, ht41, ht50, if_true, if_false, Bool.false_eq_true, ↓reduceIte] <;> rfl), rfl⟩
 refine Z37 ?_;refine R.fin [3, 4, 58] ?_
 refine W.cond (fun ht58 => ?_) (fun ht58 => ?_)
 ·refine Z0 ?_;refine R.gtr ?_;refine Z13 ?_;refine Z97 ?_;refine Z4 ?_;exact nu
 refine Z16 ?_;refine Z44 ?_;exact nu

theorem s7 (s : Str) (hs : s.length ≤ 1048576) (Hp : List AObj) : AFun Tryz.prog 128 [Aa s] Hp (Ar (I6 s)) := by
 refine ACall.body [.tmp 2] [0] Tryz.func128 Tryz.ntmps128 (fun d => ?_)
 refine U1 ?_;refine R.call Tryz.call108 (be s hs _) ?_;refine R.not ?_;exact Z76

theorem s8 (e : Expr) (hok : okE 61 e) (Hp : List AObj) : AFun Tryz.prog 126 [A7 e] Hp (Ar (Gk e)) := by
 refine ACall.body [.tmp 2] [0] Tryz.func126 Tryz.ntmps126 (fun d => ?_)
 refine Nz ?_;refine Z86 ?_;refine R.call Tryz.call44 (c44 61 e hok (by decide) _) ?_;refine R.not ?_;exact Z76

theorem s9 (l : List Str) (hl : l.length ≤ 1048576) (hn : ∀ s ∈ l, s.length ≤ 1048576) (Hp : List AObj) : AFun Tryz.prog 163 [E8 l, .fn (.func 128) [] []] Hp (A4 (Jv I6 l)) := by
 refine ACall.body [.tmp 4] [0, 1] Tryz.func163 Tryz.ntmps163 (fun d => ?_)
 refine Z56 ?_;refine aj ?_
 refine AW.loopC (α := Nat) (fun x => ⟨19, A5 0 (E8 l) (A5 1 (.fn (.func 128) [] []) (A5 7 (A4 l.length) (A5 8 (A4 (x : Nat)) (fun _ => .any)))), Hp, [], [], none⟩) (fun x => x ≤ l.length ∧ ∀ (j : Nat) y, j < x → l[j]? = some y → I6 y = false) (fun x => l.length - x) (0) ⟨Nat.zero_le _, fun j y h => by omega⟩ (StLe.of_eq (by simp)) rfl (fun x hx => ?_)
 refine ag ?_
 refine W.condX (fun ht9 => ?_) (fun ht9 => ?_)
 ·have hlt : x < l.length := by simpa using ht9
  refine Z75 ?_;refine ae ?_;refine Z27 ?_;refine Av ?_;refine R.indexAddr (x) (Aa l[x]) jU jS (By hlt) ?_;refine Di ?_;refine R.callV Tryz.call128 (s7 l[x] (hn _ (List.getElem_mem hlt)) _) ?_;refine aw ?_
  refine W.cond (fun ht16 => ?_) (fun ht16 => ?_)
  ·refine Xr ?_;exact k6
  refine Z91 ?_;exact Z79
 have hxe : l.length ≤ x := by simpa using ht9
 refine U3 ?_;exact Z98

theorem c127 (l : List Str) (hl : l.length ≤ 1048576) (hn : ∀ s ∈ l, s.length ≤ 1048576) (Hp : List AObj) : AFun Tryz.prog 127 [E8 l, .fn (.func 128) [] []] Hp (Ar (l.any I6)) := by
 refine ACall.body [.tmp 4] [0, 1] Tryz.func127 Tryz.ntmps127 (fun d => ?_)
 refine Z56 ?_;refine Z27 ?_;refine R.call Tryz.call163 (s9 l hl hn _) ?_;refine R.geq ?_;exact k7

theorem pe (l : List Expr) (hl : l.length ≤ 1048576) (hn : ∀ e ∈ l, okE 61 e) (Hp : List AObj) : AFun Tryz.prog 111 [I4 l, .fn (.func 126) [] []] Hp (A4 (Jv Gk l)) := by
 refine ACall.body [.tmp 4] [0, 1] Tryz.func111 Tryz.ntmps111 (fun d => ?_)
 refine Z56 ?_;refine aj ?_
 refine AW.loopC (α := Nat) (fun x => ⟨19, A5 0 (I4 l) (A5 1 (.fn (.func 126) [] []) (A5 7 (A4 l.length) (A5 8 (A4 (x : Nat)) (fun _ => .any)))), Hp, [], [], none⟩) (fun x => x ≤ l.length ∧ ∀ (j : Nat) y, j < x → l[j]? = some y → Gk y = false) (fun x => l.length - x) (0) ⟨Nat.zero_le _, fun j y h => by omega⟩ (StLe.of_eq (by simp)) rfl (fun x hx => ?_)
 refine ag ?_
 refine W.condX (fun ht9 => ?_) (fun ht9 => ?_)
 ·have hlt : x < l.length := by simpa using ht9
  refine Z75 ?_;refine ae ?_;refine Z27 ?_;refine Av ?_;refine R.indexAddr (x) (A7 l[x]) jU jS (By hlt) ?_;refine Gf ?_;refine R.callV Tryz.call126 (s8 l[x] (hn _ (List.getElem_mem hlt)) _) ?_;refine aw ?_
  refine W.cond (fun ht16 => ?_) (fun ht16 => ?_)
  ·refine Xr ?_;exact k6
  refine Z91 ?_;exact Z79
 have hxe : l.length ≤ x := by simpa using ht9
 refine U3 ?_;exact Z98

theorem jt (l : List Expr) (hl : l.length ≤ 1048576) (hn : ∀ e ∈ l, okE 61 e) (Hp : List AObj) : AFun Tryz.prog 76 [I4 l, .fn (.func 126) [] []] Hp (Ar (l.any Gk)) := by
 refine ACall.body [.tmp 4] [0, 1] Tryz.func76 Tryz.ntmps76 (fun d => ?_)
 refine Z56 ?_;refine Z27 ?_;refine R.call Tryz.call111 (pe l hl hn _) ?_;refine R.geq ?_;exact k7

theorem j6 (s : Str) (Hp : List AObj) : AFun Tryz.prog 130 [Aa s] Hp (A7 (Cr s)) := by
 refine ACall.body [.cell 2 45] [0] Tryz.func130 Tryz.ntmps130 (fun d => ?_)
 refine Z48 ?_;refine Z0 ?_;refine n8 ?_;refine R.nilCell 0 5 6 ?_;refine Z2 ?_;exact K.fin (V.one (V.cellN jA jS)) ⟨by rw [Ac]; rfl, rfl⟩

theorem Sy {m : Mov} {c : Col} : (((!(Cf c.name)) || (!((Bb c.kind == []) == (m.kind == 3)))) || ((m.kind == 3) && (c.kind != 0))) = !I5 m c := by
 unfold I5
 cases Cf c.name <;> cases (Bb c.kind == ([] : Str)) <;> cases (m.kind == 3) <;> cases (c.kind != 0) <;> rfl
theorem m9 {m : Mov} (h : (!(Df m)) = true) : Ej m = false := by
 have : Df m = false := by simpa using h
 unfold Ej; rw [this]; rfl
theorem ma {m : Mov} {c : Col} (hc : c ∈ m.give) (h : I5 m c = false) : Ej m = false := by
 have : m.give.all (I5 m) = false := List.all_eq_false.2 ⟨c, hc, by rw [h]; simp⟩
 unfold Ej; rw [this]; simp
theorem mb {m : Mov} (h : ((m.take.any I6 || m.ahead.any Gk) || m.back.any Gk) = true) : Ej m = false := by
 unfold Ej
 rw [show I6 = fun s => !(Cf s) from rfl, show Gk = fun e => !(Ay e) from rfl, Gc, Gc, Gc] at h
 cases h1 : m.take.all Cf <;> cases h2 : m.ahead.all Ay <;> cases h3 : m.back.all Ay <;> simp_all
theorem j7 {m : Mov} (h1 : Df m = true) (h2 : m.give.all (I5 m) = true) (h : ((m.take.any I6 || m.ahead.any Gk) || m.back.any Gk) = false) : Ej m = J6 m := by
 unfold Ej
 rw [show I6 = fun s => !(Cf s) from rfl, show Gk = fun e => !(Ay e) from rfl, Gc, Gc, Gc] at h
 rw [h1, h2]
 cases h1 : m.take.all Cf <;> cases h2 : m.ahead.all Ay <;> cases h3 : m.back.all Ay <;> simp_all
theorem Lh {α β : Type} {f : α → β} {l : List α} {d : α} (h : 0 < l.length) : (l.map f)[0]? = some (f (l.getD 0 d)) := by
 rw [List.getElem?_map, List.getElem?_eq_getElem h, List.getD_eq_getElem?_getD, List.getElem?_eq_getElem h]
 rfl
theorem Jw {α : Type} {l : List α} {d : α} (h : 0 < l.length) : l.getD 0 d ∈ l := by
 rw [List.getD_eq_getElem?_getD, List.getElem?_eq_getElem h]
 exact List.getElem_mem h
theorem mc {m : Mov} (h : (m.kind == 3) = true) : J6 m = (eqE (m.ahead.getD 0 Az) (Cr (m.take.getD 0 [])) && eqE (m.back.getD 0 Az) (Cr (m.give.getD 0 ⟨[], 0⟩).name)) := if_pos h
theorem md {m : Mov} (h : (m.kind == 3) = false) (h6 : (m.kind == 6) = true) : J6 m = (m.take.getD 0 [] == (m.give.getD 0 ⟨[], 0⟩).name) := by unfold J6; rw [if_neg (by rw [h]; simp), if_pos h6]
theorem me {m : Mov} (h : (m.kind == 3) = false) (h6 : (m.kind == 6) = false) : J6 m = true := by unfold J6; rw [if_neg (by rw [h]; simp), if_neg (by rw [h6]; simp)]
theorem c93 (m : Mov) (h : OkMov m) (Hp : List AObj) : AFun Tryz.prog 93 [F5 m] Hp (Ar (Ej m)) := by
 refine ACall.body [.tmp 2] [0] Tryz.func93 Tryz.ntmps93 (fun d => ?_)
 refine Nz ?_;refine Z15 ?_;refine Gf ?_;refine R.call Tryz.call125 (s6 m _) ?_;refine R.not ?_;refine R.fin [1, 8] ?_
 refine W.cond (fun ht8 => ?_) (fun ht8 => ?_)
 ·have hm := m9 ht8
  refine Z44 ?_;exact k9
 have hct : Df m = true := by simpa using ht8
 refine Z6 ?_;refine Z15 ?_;refine kp ?_;refine Z45 ?_;refine R.fin [1, 10, 11, 12] ?_
 refine AW.loopC (α := Nat) (fun x => ⟨95, A5 1 (.ro (Sp m)) (A5 10 (Af m.give) (A5 11 (A4 (m.give.length : Nat)) (A5 12 (A4 (x : Nat)) (fun _ => .any)))), Hp, [], [], none⟩) (fun x => x ≤ m.give.length ∧ ∀ (j : Nat) (y : Col), j < x → m.give[j]? = some y → (!I5 m y) = false) (fun x => m.give.length - x) (0) ⟨Nat.zero_le _, fun j y h => by omega⟩ (StLe.of_eq (by simp)) rfl (fun x hx => ?_)
 refine Z59 ?_;refine R.fin [1, 10, 11, 12, 13] ?_
 refine W.condX (fun ht13 => ?_) (fun ht13 => ?_)
 ·have hlt : x < m.give.length := by simpa using ht13
  have hgl := h.gives2
  refine Z73 ?_;refine R.indexAddr (x) (Aq m.give[x]) jU jS (By hlt) ?_;refine Xf ?_;refine R.fin [1, 4, 10, 11, 12] ?_;refine W.draw [0, 1, 3, 7, 15, 31, 63, 127, 255, 31, 543, 1567, 4095, 8191, 16383, 32767, 65535, 131071, 262143, 524287, 1048575, 2097151, 4194303, 8388607] 12 Ad (by kernel_rfl) ?_;refine D.fieldAddrPtr (fo := 0) jU Tryz.sizeOf9 ?_;refine D.loadOwn jA ?_;refine D.call Tryz.call108 (be m.give[x].name (h.gives.2 _ (List.getElem_mem hlt)) _) ?_;refine D.not ?_;refine D.move ?_;refine H.fieldAddrPtr (fo := 1) jU Tryz.sizeOf3 ?_;refine H.loadOwn jA ?_;refine H.call Tryz.call70 (fun hB => c70 m.give[x].kind _) ?_;refine H.seql ?_;refine H.fieldAddrRo (off := 0) jU Tryz.sizeOf3 ?_;refine H.loadRo jA ?_;refine H.eql ?_;refine D.tail ?_;refine G.bneq jU ?_;refine Fw ?_;refine Av ?_;refine G.fieldAddrRo (off := 0) jU Tryz.sizeOf3 ?_;refine G.loadRo jA ?_
  refine G.eql ?_;refine G.move ?_;refine G.fieldAddrPtr (fo := 1) jU Tryz.sizeOf3 ?_;refine G.loadOwn jA ?_;refine G.neq ?_;refine G.pickAnd ?_;refine Fw ?_;refine R.fin [1, 10, 11, 12, 39] ?_
  refine W.cond (fun ht39 => ?_) (fun ht39 => ?_)
  ·rw [Sy] at ht39
   have hm := ma (List.getElem_mem hlt) (by simpa using ht39)
   refine Xo ?_;exact b6
  rw [Sy] at ht39
  refine Z91 ?_;refine R.fin [1, 10, 11, 12] ?_;refine K.lpN (x + 1) ⟨hlt, Ce hlt hx.2 ht39⟩ (by omega) ?_
  exact StCut.take (own := []) (fun _ => .refl _) (by repeat (first | exact B5 | refine B4 (by first | (simp [or_imp, forall_and]; done) | exact E2 | exact low_ro.2 Wb) ?_)) (by simp) (by simp)
 have hxe : m.give.length ≤ x := by simpa using ht13
 have hga : m.give.all (I5 m) = true := by have := Gx hxe hx.2; rw [Gc] at this; simpa using this
 refine U3 ?_;refine R.fin [1, 5] ?_;refine Z15 ?_;refine et ?_;refine R.call Tryz.call127 (c127 m.take h.takes h.names _) ?_;refine Av ?_;refine G.fieldAddrRo (off := 3) jU Tryz.sizeOf43 ?_;refine G.loadRo jA ?_;refine G.move ?_;refine G.call Tryz.call76 (fun hB => jt m.ahead h.ahead.len h.ahead.ok _) ?_;refine Fw ?_;refine Av ?_;refine G.fieldAddrRo (off := 4) jU Tryz.sizeOf43 ?_;refine G.loadRo jA ?_;refine G.move ?_;refine G.call Tryz.call76 (fun hB => jt m.back h.back.len h.back.ok _) ?_;refine Fw ?_;refine R.fin [1, 55] ?_
 refine W.cond (fun ht55 => ?_) (fun ht55 => ?_)
 ·have hm := mb ht55
  refine Z44 ?_;exact k9
 have hm0 := j7 hct hga ht55
 refine Z6 ?_;refine Tx ?_;refine R.fin [1, 57] ?_;refine Rk ?_;refine R.fin [1, 57, 58] ?_
 refine W.cond (fun ht58 => ?_) (fun ht58 => ?_)
 ·obtain ⟨hl1, hl2⟩ := Nh hct (by rw [ht58]; simp)
  obtain ⟨hl3, hl4⟩ := Ha hct
  have g1 := Lh (f := A7) (l := m.ahead) (d := Az) (by omega)
  have g2 := Lh (f := A7) (l := m.back) (d := Az) (by omega)
  have g3 := Lh (f := Aa) (l := m.take) (d := []) (by omega)
  have g4 := Lh (f := Aq) (l := m.give) (d := ⟨[], 0⟩) (by omega)
  have ok1 := h.ahead.ok _ (Jw (l := m.ahead) (d := Az) (by omega))
  have ok2 := h.back.ok _ (Jw (l := m.back) (d := Az) (by omega))
  have hm := hm0.trans (mc ht58)
  refine W.draw [0, 1, 3, 7, 0, 16, 48, 112, 240, 511, 1023, 2047, 4095, 8191, 16383, 2047, 34815, 100351, 231423, 493567, 1017855, 2097151, 4194303, 8388607] 21 Ad (by kernel_rfl) ?_;refine D.fieldAddrRo (off := 3) jU Tryz.sizeOf43 ?_;refine D.loadRo jA ?_;refine D.indexAddr (0) (A7 (m.ahead.getD 0 Az)) jU jS g1 ?_;refine D.loadRoN jA jS ?_;refine km ?_;refine D.indexAddr (0) (Aa (m.take.getD 0 [])) jU jS g3 ?_;refine D.loadRo jA ?_;refine D.call Tryz.call130 (j6 (m.take.getD 0 []) _) ?_;refine D.call Tryz.call129 (oz 61 (m.ahead.getD 0 Az) ok1 (Cr (m.take.getD 0 [])) _) ?_;refine D.move ?_;refine H.fieldAddrRo (off := 4) jU Tryz.sizeOf43 ?_;refine H.loadRo jA ?_;refine H.indexAddr (0) (A7 (m.back.getD 0 Az)) jU jS (fun _ => g2) ?_;refine H.loadRoN jA jS ?_;refine H.fieldAddrRo (off := 2) jU Tryz.sizeOf22 ?_;refine H.loadRo jA ?_
  refine H.indexAddr (0) (Aq (m.give.getD 0 ⟨[], 0⟩)) jU jS (fun _ => g4) ?_;refine H.fieldAddrRo (off := 0) jU Tryz.sizeOf9 ?_;refine H.loadRo jA ?_;refine H.call Tryz.call130 (fun hB => j6 (m.give.getD 0 ⟨[], 0⟩).name _) ?_;refine D.tail ?_;refine G.call Tryz.call129 (fun hB => oz 61 (m.back.getD 0 Az) ok2 (Cr (m.give.getD 0 ⟨[], 0⟩).name) _) ?_;refine Xk ?_;exact nh
 refine Z37 ?_;refine R.fin [1, 83] ?_
 refine W.cond (fun ht83 => ?_) (fun ht83 => ?_)
 ·obtain ⟨hl1, hl2⟩ := Nh hct (by rw [ht83]; simp)
  obtain ⟨hl3, hl4⟩ := Ha hct
  have g1 := Lh (f := A7) (l := m.ahead) (d := Az) (by omega)
  have g2 := Lh (f := A7) (l := m.back) (d := Az) (by omega)
  have g3 := Lh (f := Aa) (l := m.take) (d := []) (by omega)
  have g4 := Lh (f := Aq) (l := m.give) (d := ⟨[], 0⟩) (by omega)
  have ok1 := h.ahead.ok _ (Jw (l := m.ahead) (d := Az) (by omega))
  have ok2 := h.back.ok _ (Jw (l := m.back) (d := Az) (by omega))
  have hm := hm0.trans (md ht58 ht83)
  refine W.draw [0, 1, 3, 7, 0, 16, 48, 112, 240, 511, 1023] 9 Ad (by kernel_rfl) ?_;refine km ?_;refine D.indexAddr (0) (Aa (m.take.getD 0 [])) jU jS g3 ?_;refine D.loadRo jA ?_;refine D.fieldAddrRo (off := 2) jU Tryz.sizeOf22 ?_;refine D.loadRo jA ?_;refine D.indexAddr (0) (Aq (m.give.getD 0 ⟨[], 0⟩)) jU jS g4 ?_;refine D.fieldAddrRo (off := 0) jU Tryz.sizeOf9 ?_;refine D.loadRo jA ?_;refine D.tail ?_;refine Z14 ?_;refine Z2 ?_;exact nh
 have hm := hm0.trans (me ht58 ht83)
 refine Z16 ?_;refine Z44 ?_;exact b6

def Yu (m : Mov) : Bool := !(Ej m)
theorem j8 (l : List Mov) : (decide ((l.length : Int) ≤ 8) && !(l.any Yu)) = Ng l := by
 unfold Ng
 rw [show Yu = fun m => !(Ej m) from rfl, Gc]
 simp
theorem c92 (m : Mov) (h : OkMov m) (Hp : List AObj) : AFun Tryz.prog 92 [F5 m] Hp (Ar (Yu m)) := by
 refine ACall.body [.tmp 2] [0] Tryz.func92 Tryz.ntmps92 (fun d => ?_)
 refine Nz ?_;refine Z86 ?_;refine R.call Tryz.call93 (c93 m h _) ?_;refine R.not ?_;exact Z76

theorem sa (l : List Mov) (h : OkMovs l) (Hp : List AObj) : AFun Tryz.prog 124 [De l, .fn (.func 92) [] []] Hp (A4 (Jv Yu l)) := by
 refine ACall.body [.tmp 4] [0, 1] Tryz.func124 Tryz.ntmps124 (fun d => ?_)
 refine Z56 ?_;refine aj ?_
 refine AW.loopC (α := Nat) (fun x => ⟨19, A5 0 (De l) (A5 1 (.fn (.func 92) [] []) (A5 7 (A4 l.length) (A5 8 (A4 (x : Nat)) (fun _ => .any)))), Hp, [], [], none⟩) (fun x => x ≤ l.length ∧ ∀ (j : Nat) (y : Mov), j < x → l[j]? = some y → Yu y = false) (fun x => l.length - x) (0) ⟨Nat.zero_le _, fun j y h => by omega⟩ (StLe.of_eq (by simp)) rfl (fun x hx => ?_)
 refine ag ?_
 refine W.condX (fun ht9 => ?_) (fun ht9 => ?_)
 ·have hlt : x < l.length := by simpa using ht9
  have hlen := h.len
  refine Z75 ?_;refine ae ?_;refine Z27 ?_;refine Av ?_;refine R.indexAddr (x) (F5 l[x]) jU jS (By hlt) ?_;refine Gf ?_;refine R.callV Tryz.call92 (c92 l[x] (h.each _ (List.getElem_mem hlt)) _) ?_;refine aw ?_
  refine W.cond (fun ht16 => ?_) (fun ht16 => ?_)
  ·refine Xr ?_;exact k6
  refine Z91 ?_;exact Z79
 have hxe : l.length ≤ x := by simpa using ht9
 refine U3 ?_;exact Z98

theorem c91 (l : List Mov) (h : OkMovs l) (Hp : List AObj) : AFun Tryz.prog 91 [De l, .fn (.func 92) [] []] Hp (Ar (l.any Yu)) := by
 refine ACall.body [.tmp 4] [0, 1] Tryz.func91 Tryz.ntmps91 (fun d => ?_)
 refine Z56 ?_;refine Z27 ?_;refine R.call Tryz.call124 (sa l h _) ?_;refine R.geq ?_;exact k7

theorem c63 (l : List Mov) (h : OkMovs l) (Hp : List AObj) : AFun Tryz.prog 63 [De l] Hp (Ar (Ng l)) := by
 refine ACall.body [.tmp 2] [0] Tryz.func63 Tryz.ntmps63 (fun d => ?_)
 refine U1 ?_;refine R.len jU ?_;refine R.leq ?_;refine Z13 ?_;refine G.call Tryz.call91 (fun hB => c91 l h _) ?_;refine G.not ?_;refine Xk ?_;exact K.fin (V.one V.tmp) ⟨by rw [← j8, List.length_map], rfl⟩

theorem c34 (c : List Col) (hc : OkCols c) (l : List Mov) (h : OkMovs l) (Hp : List AObj) : AFun Tryz.prog 34 [Af c, De l] Hp (Ar (Eg c l)) := by
 refine ACall.body [.tmp 4] [0, 1] Tryz.func34 Tryz.ntmps34 (fun d => ?_)
 refine Z56 ?_;refine Z0 ?_;refine R.call Tryz.call19 (c19 c hc _) ?_;refine Z13 ?_;refine G.call Tryz.call63 (fun hB => c63 l h _) ?_;refine G8 ?_;refine Z51 ?_;exact K.fin (V.one V.tmp) ⟨by unfold Eg; rw [Mr], rfl⟩

theorem Yv {Hp : List AObj} {c : List Col} (h : ∀ x ∈ Hp, ObjLow Hp.length x) : ∀ x ∈ Hp ++ [AObj.cells 22 [Af c]], ObjLow (Hp.length + 1) x := by
 intro x hx
 rcases List.mem_append.1 hx with hx | hx
 ·exact ObjLow.le (by omega) (h x hx)
 rw [List.mem_singleton.1 hx]
 intro z hz
 rw [List.mem_singleton.1 hz]
 exact E2
theorem c35 (c : List Col) (l : List Mov) (Hp : List AObj) : ACallO Tryz.prog 35 [Af c, De l] Hp (fun r H' => r = .fn (.func 64) [] [.ro [De l], .ptr (oid Hp.length 0) 0] ∧ H' = Hp ++ [.cells 22 [Af c]]) := by
 refine ACallO.body [.tmp 4] [0, 1] Tryz.func35 Tryz.ntmps35 (fun d => ?_)
 refine B8 ?_;refine R.box ?_;refine R.boxRo ?_;refine Z61 ?_;refine B8 ?_
 refine R.assumeLow (fun hlow => ?_)
 refine Ik ?_;refine Z51 ?_;exact K.finO 1 (V.tmp (t := 4)) ⟨rfl, rfl⟩ (hlow := by simp [oid, or_imp, forall_and]; exact ⟨fun m _ a _ => Ae _ a, fun m _ a _ => Ae _ a⟩) (hobj := Yv hlow)

theorem c64 (l oc : Nat) (ms : List Mov) (hm : ∀ m ∈ ms, MvOk m) (hml : ms.length ≤ 1048576) (C : Nat → List Col) (hC : ∀ k, OkCols (C k)) (U T : Nat → List AObj) (N : Nat → Prop) (Z : List AObj → Prop) (hlen : ∀ k, (U k).length = (U 0).length) (hlenW : ∀ k, (T k).length = (U 0).length) (hll : l < (U 0).length) (hol : oc < (U 0).length)
  (hlw : ∀ k, ∀ x ∈ U k, ObjLow (U 0).length x) (hlW : ∀ k, ∀ x ∈ T k, ObjLow (U 0).length x) (h0 : N 0) (hc : ∀ k, (U k)[oc]? = some (.cells 22 [Af (C k)])) (hcW : ∀ k, (T k)[oc]? = some (.cells 22 [Af (C k)]))
  (hn : ∀ k m, ms[k]? = some m → (B7 (C k) m).2 = 0 → (T k).set oc (.cells 22 [Af (B7 (C k) m).1]) = U (k + 1))
  (hy : ∀ k m X, ms[k]? = some m → N k → AYield Tryz.prog l [Af (B7 (C k) m).1, A4 (B7 (C k) m).2] (U k ++ X) (fun b H' => ((B7 (C k) m).2 ≠ 0 ∧ ∃ V, H' = V ++ X ∧ V.length = (U 0).length ∧ (∀ x ∈ V, ObjLow (U 0).length x) ∧ Z V) ∨ ((B7 (C k) m).2 = 0 ∧ b = true ∧ N (k + 1) ∧ H' = T k ++ X)))
  (hR : N ms.length → Z (U ms.length)) : ACall Tryz.prog 64 [.yield l, .ro [De ms], .ptr oc 0] (U 0) (fun _ H' => Z H') := by
 refine ACall.body [] [0, 1, 2] Tryz.func64 Tryz.ntmps64 (fun d => ?_)
 refine Z85 ?_;refine Z45 ?_;refine R.fin [0, 2, 8, 9, 10] ?_
 refine AW.loopC (α := Nat) (fun x => ⟨31, A5 0 (.yield l) (A5 2 (.ptr oc 0) (A5 8 (De ms) (A5 9 (A4 ms.length) (A5 10 (A4 (x : Nat)) (fun _ => .any))))), U x, [], [], none⟩) (fun x => x ≤ ms.length ∧ N x) (fun x => ms.length - x) (0) ⟨Nat.zero_le _, h0⟩ (StLe.of_eq (by simp)) rfl (fun x hx => ?_)
 refine Z59 ?_;refine R.fin [0, 2, 8, 9, 10, 11] ?_
 refine W.condX (fun ht11 => ?_) (fun ht11 => ?_)
 ·have hlt : x < ms.length := by simpa using ht11
  refine Z73 ?_;refine R.indexAddr (x) (F5 ms[x]) jU jS (By hlt) ?_;refine Xf ?_;refine R.fin [0, 2, 5, 8, 9, 10] ?_;refine B8 ?_;refine R.loadUp jA (hc x) ?_;refine Qb ?_;refine R.call Tryz.call65 (c65 (C x) (hC x) ms[x] (hm _ (List.getElem_mem hlt)) _) ?_;refine Z94 ?_;refine R.fin [0, 2, 6, 7, 8, 9, 10] ?_;refine Z11 ?_;refine Z53 ?_
  refine R.yield (l := l) (args := [Af (B7 (C x) ms[x]).1, A4 (B7 (C x) ms[x]).2]) (hy x ms[x] _ (List.getElem?_eq_getElem hlt) hx.2) ?_
  intro b V O hV hb
  have hVO : O = [AObj.cells 64 (Sp ms[x])] ∧ (((B7 (C x) ms[x]).2 ≠ 0 ∧ V.length = (U 0).length ∧ (∀ y ∈ V, ObjLow (U 0).length y) ∧ Z V) ∨ ((B7 (C x) ms[x]).2 = 0 ∧ b = true ∧ N (x + 1) ∧ V = T x)) := by
   rcases hb with ⟨h1, V', h2, h3, h4, h5⟩ | ⟨h1, h2, h3, h4⟩
   ·obtain ⟨rfl, rfl⟩ := List.append_inj h2 (by rw [hV, hlen x, h3])
    exact ⟨rfl, .inl ⟨h1, h3, h4, h5⟩⟩
   have h6 := List.append_inj h4 (by rw [hV, hlen x, hlenW x])
   exact ⟨h6.2, .inr ⟨h1, h2, h3, h6.1⟩⟩
  obtain ⟨rfl, hVO⟩ := hVO
  have hVl : V.length = (U 0).length := by rw [hV, hlen x]
  have hVw : ∀ y ∈ V, ObjLow (U 0).length y := by
   rcases hVO with ⟨_, _, h, _⟩ | ⟨_, _, _, rfl⟩
   ·exact h
   exact hlW _
  refine ⟨fun _ => by rw [hVl]; exact hVw, fun o ho => (by cases ho), ?_⟩
  refine Xn ?_;refine Rh ?_;refine R.fin [0, 2, 6, 8, 9, 10, 28] ?_
  refine W.cond (fun ht28 => ?_) (fun ht28 => ?_)
  ·have hZ : Z V := by
    rcases hVO with ⟨_, _, _, h⟩ | ⟨h1, h2, _, _⟩
    ·exact h
    rw [h1, h2] at ht28; simp at ht28
   refine Z24 ?_;refine Z4 ?_;refine K.lpR ?_;exact K.fin .nores (hp := hZ)
  have hVn : (B7 (C x) ms[x]).2 = 0 ∧ N (x + 1) ∧ V = T x := by
   rcases hVO with ⟨h1, _, _, _⟩ | ⟨h1, _, h3, h4⟩
   ·simp [h1] at ht28
   exact ⟨h1, h3, h4⟩
  obtain ⟨hz, hN, rfl⟩ := hVn
  have hnx := hn x _ (List.getElem?_eq_getElem hlt) hz
  refine Ty ?_
  refine R.storeUp jS (hcW x) ?_ ?_
  ·first | exact E2 | (simp [or_imp, forall_and]; done)
  refine R.fin [0, 2, 8, 9, 10] ?_;refine Z9 ?_;refine Z57 ?_;refine R.fin [0, 2, 8, 9, 10] ?_;refine K.lpN (x + 1) ⟨hlt, hN⟩ (by omega) ?_
  rw [hnx]
  exact StCut.take (own := []) (fun _ => .refl _) (by repeat (first | exact B5 | refine B4 (by first | (simp [or_imp, forall_and]; done) | exact Ju | (have := hlen (x + 1); simp; omega)) ?_)) (by simp) (by simp)
 have hxe : x = ms.length := by have := hx.1; simp at ht11; omega
 refine K.lpE ?_;exact K.finN .nores (hp := by rw [hxe]; exact hR (hxe ▸ hx.2))

/-! The columns on the way through moves. -/
def colsAt (c : List Col) (ms : List Mov) : Nat → List Col
 | 0 => c
 | k + 1 => match ms[k]? with | some m => (B7 (colsAt c ms k) m).1 | none => colsAt c ms k
def C6 (c : List Col) (ms : List Mov) : Nat → List (List Col)
 | 0 => [c]
 | k + 1 => C6 c ms k ++ [colsAt c ms (k + 1)]
def NS (c : List Col) (ms : List Mov) (k : Nat) : Prop := Ag c ms = ((C6 c ms k).dropLast ++ (Ag (colsAt c ms k) (ms.drop k)).1, (Ag (colsAt c ms k) (ms.drop k)).2)
theorem We (c : List Col) (ms : List Mov) (k : Nat) : (C6 c ms k).dropLast ++ [colsAt c ms k] = C6 c ms k := by
 cases k with
 | zero => rfl
 | succ k => simp [C6]
theorem Gy {c : List Col} {ms : List Mov} {k : Nat} {m : Mov} (h : ms[k]? = some m) : colsAt c ms (k + 1) = (B7 (colsAt c ms k) m).1 := by rw [colsAt, h]
theorem Nj {ms : List Mov} {k : Nat} {m : Mov} (hk : ms[k]? = some m) : ms.drop k = m :: ms.drop (k + 1) := by
 obtain ⟨h1, h2⟩ := List.getElem?_eq_some_iff.1 hk
 rw [List.drop_eq_getElem_cons h1, h2]
theorem mf {c : List Col} {ms : List Mov} : NS c ms 0 := rfl
theorem Qt {c : List Col} {ms : List Mov} {k : Nat} {m : Mov} (hk : ms[k]? = some m) (h : NS c ms k) (he : (B7 (colsAt c ms k) m).2 = 0) : NS c ms (k + 1) := by
 unfold NS at h ⊢
 rw [h, Nj hk]
 have e : Ag (colsAt c ms k) (m :: ms.drop (k + 1)) = (colsAt c ms k :: (Ag (B7 (colsAt c ms k) m).1 (ms.drop (k + 1))).1, (Ag (B7 (colsAt c ms k) m).1 (ms.drop (k + 1))).2) := by
  rw [Ag, if_neg (by rw [he]; simp)]
 have e2 : (C6 c ms (k + 1)).dropLast = C6 c ms k := by simp [C6]
 rw [e, e2, Gy hk]
 have e3 := We c ms k
 refine Prod.ext ?_ rfl
 show (C6 c ms k).dropLast ++ (colsAt c ms k :: _) = C6 c ms k ++ _
 conv => rhs; rw [← e3]
 simp
theorem Qu {c : List Col} {ms : List Mov} {k : Nat} {m : Mov} (hk : ms[k]? = some m) (h : NS c ms k) (he : (B7 (colsAt c ms k) m).2 ≠ 0) : (Ag c ms).2 = (B7 (colsAt c ms k) m).2 := by
 unfold NS at h
 rw [h, Nj hk, Ag, if_pos (by simpa using he)]
theorem V5 {c : List Col} {ms : List Mov} (h : NS c ms ms.length) : Ag c ms = (C6 c ms ms.length, 0) := by
 unfold NS at h
 rw [h, List.drop_length, Ag]
 exact Prod.ext (We c ms ms.length) rfl
theorem dl {c : List Col} {m : Mov} (hc : OkCols c) (h : OkMov m) : OkCols (B7 c m).1 := by
 have h0 : OkCols ([] : List Col) := ⟨by decide, fun y hy => by cases hy⟩
 unfold B7
 split
 ·exact h0
 split
 ·exact h0
 split
 ·exact h0
 exact Sx hc (Sw h) (by rw [Ij]; exact h.gives2)
theorem Gz {c : List Col} {ms : List Mov} (hc : OkCols c) (h : ∀ m ∈ ms, OkMov m) : ∀ k, OkCols (colsAt c ms k)
 | 0 => hc
 | k + 1 => by
  rw [colsAt]
  cases hk : ms[k]? with
  | none => exact Gz hc h k
  | some m => exact dl (Gz hc h k) (h m (List.mem_of_getElem? hk))
theorem G6 (c : List Col) (ms : List Mov) : ∀ k, (C6 c ms k).length = k + 1
 | 0 => rfl
 | k + 1 => by rw [C6, List.length_append, G6 c ms k]; rfl
theorem dm {c : List Col} {ms : List Mov} (h : Eg c ms = true) (hk : OkMovs ms) : (∀ m ∈ ms, MvOk m) ∧ ms.length ≤ 8 := by
 unfold Eg Ng at h
 simp only [Bool.and_eq_true, decide_eq_true_eq, List.all_eq_true] at h
 exact ⟨fun m hm => ix (hk.each m hm) (Yo (h.2.2 m hm)), by omega⟩
theorem Kw {c : List Col} {ms : List Mov} (h : Eg c ms = false) : Bs c ms = ([], 1) := by
 have : Gj c ms = ([], 1) := if_neg (by rw [h]; simp)
 unfold Bs
 rw [this]; rfl
theorem Nk {c : List Col} {ms : List Mov} (h : Eg c ms = true) (he : (Ag c ms).2 ≠ 0) : Bs c ms = ([], (Ag c ms).2) := by
 have : Gj c ms = Ag c ms := if_pos h
 unfold Bs
 rw [this, if_pos (by simpa using he)]
theorem Pd {c : List Col} {ms : List Mov} {o : List (List Col)} (h : Eg c ms = true) (he : Ag c ms = (o, 0)) : Bs c ms = (o, 0) := by
 have : Gj c ms = Ag c ms := if_pos h
 unfold Bs
 rw [this, he]; rfl
abbrev mg (l : List (List Col)) : AV := .slice false 1 (l.map Af)
theorem Kx {n k : Nat} {o : Bool} {l : List (List Col)} : Low n (.slice o k (l.map Af)) := low_slice.2 fun y hy => by
 obtain ⟨m, _, rfl⟩ := List.mem_map.1 hy
 exact E2
theorem pg {U : List AObj} {i j : Nat} {x y : AObj} (h : U[i]? = some x) (hne : j ≠ i) : (U.set j y)[i]? = some x := by rw [List.getElem?_set_ne hne]; exact h
theorem Yw {n k : Nat} {o : Bool} {l : List (List Col)} {c : List Col} : Low n (.slice o k (l.map Af ++ [Af c])) := by
 have := Kx (n := n) (k := k) (o := o) (l := l ++ [c])
 rwa [List.map_append] at this
theorem c14 (c : List Col) (hc : OkCols c) (hc2 : c.length ≤ 1000000) (l : List Mov) (h : OkMovs l) (Hp : List AObj) : AFun Tryz.prog 14 [Af c, De l] Hp (.tup [mg (Bs c l).1, A4 (Bs c l).2]) := by
 refine ACall.body [.cell 4 34, .cell 5 27] [0, 1, 7, 8] Tryz.func14 Tryz.ntmps14 (fun d => ?_)
 refine Z21 ?_;refine Iy ?_;refine R.fin [0, 1, 4, 5, 7, 8] ?_;refine Z96 ?_;refine R.call Tryz.call34 (c34 c hc l h _) ?_;refine R.not ?_;refine R.fin [0, 1, 4, 5, 7, 8, 12] ?_
 refine W.cond (fun ht12 => ?_) (fun ht12 => ?_)
 ·have hm := Kw (by simpa using ht12)
  refine B8 ?_;refine E3 ?_;refine R.nilOwn 0 1 ?_;refine E3 ?_;refine Z70 ?_;exact K.fin (V.two (V.cell jA) (V.cell jA)) ⟨by rw [hm]; rfl, rfl⟩
 have hmay : Eg c l = true := by simpa using ht12
 obtain ⟨hmv, hl8⟩ := dm hmay h
 refine Ka ?_;refine R.call Tryz.call36 (c36 c hc2 _) ?_;refine Hi ?_;refine Iy ?_;refine R.storeOwnT jS ?_;refine R.fin [0, 1, 4, 5, 6, 7, 8] ?_;refine Z15 ?_
 refine R.assumeLow (fun hlow => ?_)
 refine Z53 ?_;refine R.callO Tryz.call35 (c35 c l _) ?_
 rintro _ _ ⟨rfl, rfl⟩
 refine ⟨[.cells 22 [Af c]], by simp, ?_⟩
 rw [show oid (Hp ++ [AObj.cells 34 [AV.nil], AObj.cells 27 [A4 0], AObj.cells 34 [AV.slice true 1 [Af c]]]).length 0 = oid Hp.length 3 by simp [oid]]
 simp only [List.cons_append, List.nil_append]
 refine R.fin [4, 5, 6, 7, 8, 18] ?_;refine Fc ?_
 refine W.rangeV (m := 4) Tryz.call64 (fun FR as' bd' hFR has hbd => ?_)
 have hFRl : ∀ s, Low (Hp.length + 6) (FR s) := by
  intro s
  rw [hFR]
  refine Low.strip ?_
  revert s
  repeat (first | exact B5 | refine B4 (by first | (simp [oid, or_imp, forall_and]; done) | (simp [oid, or_imp, forall_and]; exact ⟨fun m _ a _ => Ae _ a, fun m _ a _ => Ae _ a⟩) | (simp [oid, or_imp, forall_and] <;> omega)) ?_)
 have hOl : ∀ {e : Int} {o : List (List Col)} {q : List Col} {lp : AObj}, ObjLow (Hp.length + 6) lp → ∀ x ∈ Hp ++ [AObj.cells 34 [AV.nil], AObj.cells 27 [A4 e], AObj.cells 34 [AV.slice true 1 ((o).map Af)], AObj.cells 22 [Af (q)], AObj.defs, lp], ObjLow (Hp.length + 6) x := by
  intro e o q lp hlp x hx
  refine H8 (fun x hx => ObjLow.le (by omega) (hlow x hx)) (fun x hx => ?_) x hx
  simp only [List.mem_cons, List.mem_nil_iff, or_false] at hx
  rcases hx with rfl | rfl | rfl | rfl | rfl | rfl
  ·intro y hy; rw [List.mem_singleton.1 hy]; simp
  ·intro y hy; rw [List.mem_singleton.1 hy]; simp
  ·intro y hy; rw [List.mem_singleton.1 hy]; exact Kx
  ·intro y hy; rw [List.mem_singleton.1 hy]; exact E2
  ·trivial
  exact hlp
 refine ⟨_, c64 (oid Hp.length 5) (oid Hp.length 3) l hmv (by omega) (colsAt c l) (Gz hc fun m hm => h.each m hm) (fun k => Hp ++ [AObj.cells 34 [AV.nil], AObj.cells 27 [A4 0], AObj.cells 34 [AV.slice true 1 ((C6 c l k).map Af)], AObj.cells 22 [Af (colsAt c l k)], AObj.defs, AObj.loop LoopState.ready none FR 29 #[19, 20] as' bd' (oid Hp.length 4)]) (fun k => Hp ++ [AObj.cells 34 [AV.nil], AObj.cells 27 [A4 0], AObj.cells 34 [AV.slice true 1 ((C6 c l (k + 1)).map Af)], AObj.cells 22 [Af (colsAt c l k)], AObj.defs, AObj.loop LoopState.ready none FR 29 #[19, 20] as' bd' (oid Hp.length 4)]) (NS c l) (fun V => (∃ (o : List (List Col)) (q : List Col), V = Hp ++ [AObj.cells 34 [AV.nil], AObj.cells 27 [A4 0], AObj.cells 34 [AV.slice true 1 ((o).map Af)], AObj.cells 22 [Af (q)], AObj.defs, AObj.loop LoopState.ready none FR 29 #[19, 20] as' bd' (oid Hp.length 4)] ∧ Ag c l = (o, 0)) ∨ (∃ (e : Int) (o : List (List Col)) (q : List Col), V = Hp ++ [AObj.cells 34 [AV.nil], AObj.cells 27 [A4 e], AObj.cells 34 [AV.slice true 1 ((o).map Af)], AObj.cells 22 [Af (q)], AObj.defs, AObj.loop LoopState.done (some Code.ret) FR 29 #[19, 20] as' bd' (oid Hp.length 4)] ∧ e ≠ 0 ∧ (Ag c l).2 = e)) (fun k => by simp) (fun k => by simp) (by simp [oid]) (by simp [oid]) (fun k => (fun x hx => by rw [List.length_append]; exact hOl (lp := AObj.loop LoopState.ready none FR 29 #[19, 20] as' bd' (oid Hp.length 4)) (by exact ⟨hFRl, by simp [oid]⟩) x hx)) (fun k => (fun x hx => by rw [List.length_append]; exact hOl (lp := AObj.loop LoopState.ready none FR 29 #[19, 20] as' bd' (oid Hp.length 4)) (by exact ⟨hFRl, by simp [oid]⟩) x hx)) mf (fun k => by rw [Ak]; rfl) (fun k => by rw [Ak]; rfl) (fun k m hk he => by rw [D0]; simp only [Gy hk]; rfl) (fun k m X hk hN => ?_) (fun hN => .inl ⟨_, _, rfl, V5 hN⟩), ?_⟩
 ·generalize hV : Hp ++ [AObj.cells 34 [AV.nil], AObj.cells 27 [A4 0], AObj.cells 34 [AV.slice true 1 ((C6 c l k).map Af)], AObj.cells 22 [Af (colsAt c l k)], AObj.defs, AObj.loop LoopState.ready none FR 29 #[19, 20] as' bd' (oid Hp.length 4)] ++ X = V
  have hL : V[oid Hp.length 5]? = some (AObj.loop LoopState.ready none FR 29 #[19, 20] as' bd' (oid Hp.length 4)) := by rw [← hV, List.append_assoc, Ak]; rfl
  have hA0 : V[oid Hp.length 2]? = some (AObj.cells 34 [AV.slice true 1 ((C6 c l k).map Af)]) := by rw [← hV, List.append_assoc, Ak]; rfl
  have hB0 : V[oid Hp.length 0]? = some (AObj.cells 34 [AV.nil]) := by rw [← hV, List.append_assoc, Ak]; rfl
  have hC0 : V[oid Hp.length 1]? = some (AObj.cells 27 [A4 0]) := by rw [← hV, List.append_assoc, Ak]; rfl
  refine AYield.ofRound (pd := none) (fr := FR) (sz := 29) (ps := #[19, 20]) (df := oid Hp.length 4) (asg := as') (bd := bd') hL rfl (by decide) (fun d => ?_)
  subst hFR has hbd
  refine W.keep [4, 5, 6, 19, 20] ?_;refine Z3 ?_;refine R.fin [4, 5, 6, 7, 20] ?_;refine am ?_;refine R.fin [4, 5, 6, 7, 8] ?_
  refine ⟨rfl, none, hL, ?_⟩
  generalize hbz : (AObj.loop LoopState.busy _ _ _ _ _ _ _) = bz
  have hA : (V.set (oid Hp.length 5) bz)[oid Hp.length 2]? = some (AObj.cells 34 [AV.slice true 1 ((C6 c l k).map Af)]) := by rw [List.getElem?_set_ne (oid_ne (by decide))]; exact hA0
  have hB : (V.set (oid Hp.length 5) bz)[oid Hp.length 0]? = some (AObj.cells 34 [AV.nil]) := by rw [List.getElem?_set_ne (oid_ne (by decide))]; exact hB0
  have hC : (V.set (oid Hp.length 5) bz)[oid Hp.length 1]? = some (AObj.cells 27 [A4 0]) := by rw [List.getElem?_set_ne (oid_ne (by decide))]; exact hC0
  refine Fc ?_;refine Rl ?_;refine R.fin [4, 5, 6, 7, 8, 22] ?_
  refine W.cond (fun ht22 => ?_) (fun ht22 => ?_)
  ·have he : (B7 (colsAt c l k) m).2 ≠ 0 := by simpa using ht22
   refine Z0 ?_
   refine R.storeUp jS hB ?_ ?_
   ·simp
   refine R.storeUp jS (pg hC (oid_ne (by decide))) ?_ ?_
   ·simp
   refine R.fin [] ?_;refine Z24 ?_;refine K.blR ?_
   subst hbz
   refine fp ?_
   refine .inl ⟨he, Hp ++ [AObj.cells 34 [AV.nil], AObj.cells 27 [A4 (B7 (colsAt c l k) m).2], AObj.cells 34 [AV.slice true 1 ((C6 c l k).map Af)], AObj.cells 22 [Af (colsAt c l k)], AObj.defs, _], ?_, by simp, (fun x hx => by rw [List.length_append]; exact hOl (lp := _) (by exact ⟨hFRl, by simp [oid]⟩) x hx), .inr ⟨_, _, _, rfl, he, Qu hk hN he⟩⟩
   subst hV
   simp only [List.append_assoc, D0, List.cons_append, List.nil_append, List.set_cons_succ, List.set_cons_zero]
  have he : (B7 (colsAt c l k) m).2 = 0 := by simpa using ht22
  refine ar ?_;refine R.loadUpT jA hA ?_;refine Av ?_;refine Hi ?_
  refine R.append jU Tryz.type22 ?_ ?_ ?_
  ·have hol := G6 c l k; have hkl := (List.getElem?_eq_some_iff.1 hk).1; simp [Tryz.t22]; omega
  ·have hol := G6 c l k; have hkl := (List.getElem?_eq_some_iff.1 hk).1; simp [Tryz.t22]; omega
  refine R.storeUpT jS (getset hA) ?_ ?_
  ·exact Yw
  refine Z74 ?_
  subst hbz
  refine l4 ?_
  refine .inr ⟨he, rfl, Qt hk hN he, ?_⟩
  subst hV
  simp only [List.append_assoc, D0, List.cons_append, List.nil_append, List.set_cons_succ, List.set_cons_zero]
  rw [C6, Gy hk, List.map_append]
  rfl
 rintro r H' (⟨o, q, rfl, hrun⟩ | ⟨e, o, q, rfl, hne, hrun⟩)
 ·refine ⟨Hp, _, _, _, rfl, rfl, fun h => h, ?_, rfl, by simp, ?_⟩
  ·intro o ho
   have : o = oid Hp.length 4 := by simpa using ho
   subst this
   rw [Ak]
   rfl
  refine Z9 ?_;refine Z47 ?_;refine E3 ?_;refine E3 ?_;refine Tt ?_;exact K.fin (V.two (V.cell jA) (V.cell jA)) ⟨by rw [Pd hmay hrun], rfl⟩ (hlow := by simp only [el, List.mem_cons, List.mem_nil_iff, or_false]; rintro y (rfl | rfl); exact Kx; simp)
 refine ⟨Hp, _, _, _, rfl, rfl, fun h => h, ?_, rfl, by simp, ?_⟩
 ·intro o ho
  have : o = oid Hp.length 4 := by simpa using ho
  subst this
  rw [Ak]
  rfl
 refine W.nilOwn 0 1 ?_;refine Z60 ?_;exact K.fin (V.two (V.cell jA) (V.cell jA)) ⟨by rw [Nk hmay (by rw [hrun]; exact hne), hrun]; rfl, rfl⟩

/-- sound.Check. -/
def Hb (c : List Col) (l : List Mov) : Int × Int := if Eg c l then (((Ag c l).1.length - 1 : Nat), (Ag c l).2) else (0, 1)
theorem j9 {c : List Col} {ms : List Mov} {k : Nat} {m : Mov} (hk : ms[k]? = some m) (h : NS c ms k) (he : (B7 (colsAt c ms k) m).2 ≠ 0) : (Ag c ms).1.length = k + 1 := by
 unfold NS at h
 rw [h, Nj hk, Ag, if_pos (by simpa using he)]
 have := G6 c ms k
 simp [this]
theorem Yx {c : List Col} {l : List Mov} (h : Eg c l = false) : Hb c l = (0, 1) := if_neg (by rw [h]; simp)
theorem Yy {c : List Col} {l : List Mov} (h : Eg c l = true) (hr : Ag c l = (C6 c l l.length, 0)) : Hb c l = ((l.length : Int), 0) := by
 unfold Hb
 rw [if_pos h, hr]
 simp only [G6]
 rfl
theorem V6 {c : List Col} {l : List Mov} {n : Nat} {e : Int} (h : Eg c l = true) (h1 : (Ag c l).1.length = n + 1) (h2 : (Ag c l).2 = e) : Hb c l = ((n : Int), e) := by
 unfold Hb
 rw [if_pos h, h1, h2]
 rfl
theorem c13 (c : List Col) (hc : OkCols c) (hc2 : c.length ≤ 1000000) (l : List Mov) (h : OkMovs l) (Hp : List AObj) : AFun Tryz.prog 13 [Af c, De l] Hp (.tup [A4 (Hb c l).1, A4 (Hb c l).2]) := by
 refine ACall.body [.cell 4 3, .cell 5 27] [0, 1] Tryz.func13 Tryz.ntmps13 (fun d => ?_)
 refine Z21 ?_;refine Iy ?_;refine R.fin [0, 1, 4, 5] ?_;refine Z96 ?_;refine R.call Tryz.call34 (c34 c hc l h _) ?_;refine R.not ?_;refine R.fin [0, 1, 4, 5, 12] ?_
 refine W.cond (fun ht12 => ?_) (fun ht12 => ?_)
 ·have hm := Yx (by simpa using ht12)
  refine B8 ?_;refine E3 ?_;refine E3 ?_;refine Z70 ?_;exact K.fin (V.two (V.cell jA) (V.cell jA)) ⟨by rw [hm] <;> rfl, rfl⟩
 have hmay : Eg c l = true := by simpa using ht12
 obtain ⟨hmv, hl8⟩ := dm hmay h
 refine Qa ?_;refine Z10 ?_;refine R.fin [0, 1, 4, 5, 6] ?_;refine Z15 ?_
 refine R.assumeLow (fun hlow => ?_)
 refine Z53 ?_;refine R.callO Tryz.call35 (c35 c l _) ?_
 rintro _ _ ⟨rfl, rfl⟩
 refine ⟨[.cells 22 [Af c]], by simp, ?_⟩
 rw [show oid (Hp ++ [AObj.cells 3 [A4 0], AObj.cells 27 [A4 0], AObj.cells 3 [A4 0]]).length 0 = oid Hp.length 3 by simp [oid]]
 simp only [List.cons_append, List.nil_append]
 refine R.fin [4, 5, 6, 15] ?_;refine Fc ?_
 refine W.rangeV (m := 4) Tryz.call64 (fun FR as' bd' hFR has hbd => ?_)
 have hFRl : ∀ s, Low (Hp.length + 6) (FR s) := by
  intro s
  rw [hFR]
  refine Low.strip ?_
  revert s
  repeat (first | exact B5 | refine B4 (by first | (simp [oid, or_imp, forall_and]; done) | (simp [oid, or_imp, forall_and]; exact ⟨fun m _ a _ => Ae _ a, fun m _ a _ => Ae _ a⟩) | (simp [oid, or_imp, forall_and] <;> omega)) ?_)
 have hOl : ∀ {n e k : Int} {q : List Col} {lp : AObj}, ObjLow (Hp.length + 6) lp → ∀ x ∈ Hp ++ [AObj.cells 3 [A4 n], AObj.cells 27 [A4 e], AObj.cells 3 [A4 k], AObj.cells 22 [Af (q)], AObj.defs, lp], ObjLow (Hp.length + 6) x := by
  intro n e k q lp hlp x hx
  refine H8 (fun x hx => ObjLow.le (by omega) (hlow x hx)) (fun x hx => ?_) x hx
  simp only [List.mem_cons, List.mem_nil_iff, or_false] at hx
  rcases hx with rfl | rfl | rfl | rfl | rfl | rfl
  ·intro y hy; rw [List.mem_singleton.1 hy]; simp
  ·intro y hy; rw [List.mem_singleton.1 hy]; simp
  ·intro y hy; rw [List.mem_singleton.1 hy]; simp
  ·intro y hy; rw [List.mem_singleton.1 hy]; exact E2
  ·trivial
  exact hlp
 refine ⟨_, c64 (oid Hp.length 5) (oid Hp.length 3) l hmv (by omega) (colsAt c l) (Gz hc fun m hm => h.each m hm) (fun k => Hp ++ [AObj.cells 3 [A4 0], AObj.cells 27 [A4 0], AObj.cells 3 [A4 (k : Int)], AObj.cells 22 [Af (colsAt c l k)], AObj.defs, AObj.loop LoopState.ready none FR 25 #[16, 17] as' bd' (oid Hp.length 4)]) (fun k => Hp ++ [AObj.cells 3 [A4 0], AObj.cells 27 [A4 0], AObj.cells 3 [A4 ((k + 1 : Nat) : Int)], AObj.cells 22 [Af (colsAt c l k)], AObj.defs, AObj.loop LoopState.ready none FR 25 #[16, 17] as' bd' (oid Hp.length 4)]) (NS c l) (fun V => (∃ (q : List Col), V = Hp ++ [AObj.cells 3 [A4 0], AObj.cells 27 [A4 0], AObj.cells 3 [A4 (l.length : Int)], AObj.cells 22 [Af (q)], AObj.defs, AObj.loop LoopState.ready none FR 25 #[16, 17] as' bd' (oid Hp.length 4)] ∧ Ag c l = (C6 c l l.length, 0)) ∨ (∃ (e : Int) (n : Nat) (q : List Col), V = Hp ++ [AObj.cells 3 [A4 (n : Int)], AObj.cells 27 [A4 e], AObj.cells 3 [A4 (n : Int)], AObj.cells 22 [Af (q)], AObj.defs, AObj.loop LoopState.done (some Code.ret) FR 25 #[16, 17] as' bd' (oid Hp.length 4)] ∧ e ≠ 0 ∧ (Ag c l).2 = e ∧ (Ag c l).1.length = n + 1)) (fun k => by simp) (fun k => by simp) (by simp [oid]) (by simp [oid]) (fun k => (fun x hx => by rw [List.length_append]; exact hOl (lp := AObj.loop LoopState.ready none FR 25 #[16, 17] as' bd' (oid Hp.length 4)) (by exact ⟨hFRl, by simp [oid]⟩) x hx)) (fun k => (fun x hx => by rw [List.length_append]; exact hOl (lp := AObj.loop LoopState.ready none FR 25 #[16, 17] as' bd' (oid Hp.length 4)) (by exact ⟨hFRl, by simp [oid]⟩) x hx)) mf (fun k => by rw [Ak]; rfl) (fun k => by rw [Ak]; rfl) (fun k m hk he => by rw [D0]; simp only [Gy hk]; rfl) (fun k m X hk hN => ?_) (fun hN => .inl ⟨_, rfl, V5 hN⟩), ?_⟩
 ·generalize hV : Hp ++ [AObj.cells 3 [A4 0], AObj.cells 27 [A4 0], AObj.cells 3 [A4 (k : Int)], AObj.cells 22 [Af (colsAt c l k)], AObj.defs, AObj.loop LoopState.ready none FR 25 #[16, 17] as' bd' (oid Hp.length 4)] ++ X = V
  have hL : V[oid Hp.length 5]? = some (AObj.loop LoopState.ready none FR 25 #[16, 17] as' bd' (oid Hp.length 4)) := by rw [← hV, List.append_assoc, Ak]; rfl
  have hA0 : V[oid Hp.length 2]? = some (AObj.cells 3 [A4 (k : Int)]) := by rw [← hV, List.append_assoc, Ak]; rfl
  have hB0 : V[oid Hp.length 0]? = some (AObj.cells 3 [A4 0]) := by rw [← hV, List.append_assoc, Ak]; rfl
  have hC0 : V[oid Hp.length 1]? = some (AObj.cells 27 [A4 0]) := by rw [← hV, List.append_assoc, Ak]; rfl
  refine AYield.ofRound (pd := none) (fr := FR) (sz := 25) (ps := #[16, 17]) (df := oid Hp.length 4) (asg := as') (bd := bd') hL rfl (by decide) (fun d => ?_)
  subst hFR has hbd
  refine W.keep [4, 5, 6, 17] ?_;refine am ?_;refine R.fin [4, 5, 6, 8] ?_
  refine ⟨rfl, none, hL, ?_⟩
  generalize hbz : (AObj.loop LoopState.busy _ _ _ _ _ _ _) = bz
  have hA : (V.set (oid Hp.length 5) bz)[oid Hp.length 2]? = some (AObj.cells 3 [A4 (k : Int)]) := by rw [List.getElem?_set_ne (oid_ne (by decide))]; exact hA0
  have hB : (V.set (oid Hp.length 5) bz)[oid Hp.length 0]? = some (AObj.cells 3 [A4 0]) := by rw [List.getElem?_set_ne (oid_ne (by decide))]; exact hB0
  have hC : (V.set (oid Hp.length 5) bz)[oid Hp.length 1]? = some (AObj.cells 27 [A4 0]) := by rw [List.getElem?_set_ne (oid_ne (by decide))]; exact hC0
  refine Fc ?_;refine Rl ?_;refine R.fin [4, 5, 6, 8, 19] ?_
  refine W.cond (fun ht19 => ?_) (fun ht19 => ?_)
  ·have he : (B7 (colsAt c l k) m).2 ≠ 0 := by simpa using ht19
   refine B8 ?_;refine R.loadUp jA hA ?_;refine Av ?_
   refine R.storeUp jS hB ?_ ?_
   ·simp
   refine R.storeUp jS (pg hC (oid_ne (by decide))) ?_ ?_
   ·simp
   refine R.fin [] ?_;refine Z24 ?_;refine K.blR ?_
   subst hbz
   refine fp ?_
   refine .inl ⟨he, Hp ++ [AObj.cells 3 [A4 (k : Int)], AObj.cells 27 [A4 (B7 (colsAt c l k) m).2], AObj.cells 3 [A4 (k : Int)], AObj.cells 22 [Af (colsAt c l k)], AObj.defs, _], ?_, by simp, (fun x hx => by rw [List.length_append]; exact hOl (lp := _) (by exact ⟨hFRl, by simp [oid]⟩) x hx), .inr ⟨_, _, _, rfl, he, Qu hk hN he, j9 hk hN he⟩⟩
   subst hV
   simp only [List.append_assoc, D0, List.cons_append, List.nil_append, List.set_cons_succ, List.set_cons_zero]
  have he : (B7 (colsAt c l k) m).2 = 0 := by simpa using ht19
  refine ar ?_;refine R.loadUp jA hA ?_
  refine R.add64 (h2 := by have hkl := (List.getElem?_eq_some_iff.1 hk).1; omega) ?_
  refine R.storeUp jS hA ?_ ?_
  ·simp
  refine Z74 ?_
  subst hbz
  refine fu ?_
  refine .inr ⟨he, rfl, Qt hk hN he, ?_⟩
  subst hV
  simp only [List.append_assoc, D0, List.cons_append, List.nil_append, List.set_cons_succ, List.set_cons_zero]
  rfl
 rintro r H' (⟨q, rfl, hrun⟩ | ⟨e, n, q, rfl, hne, hrun, hlen⟩)
 ·refine ⟨Hp, _, _, _, rfl, rfl, fun h => h, ?_, rfl, by simp, ?_⟩
  ·intro o ho
   have : o = oid Hp.length 4 := by simpa using ho
   subst this
   rw [Ak]
   rfl
  refine Z9 ?_;refine Z47 ?_;refine E3 ?_;refine E3 ?_;refine Tt ?_;exact K.fin (V.two (V.cell jA) (V.cell jA)) ⟨by rw [Yy hmay hrun], rfl⟩
 refine ⟨Hp, _, _, _, rfl, rfl, fun h => h, ?_, rfl, by simp, ?_⟩
 ·intro o ho
  have : o = oid Hp.length 4 := by simpa using ho
  subst this
  rw [Ak]
  rfl
 refine Z60 ?_;exact K.fin (V.two (V.cell jA) (V.cell jA)) ⟨by rw [V6 hmay hlen hrun], rfl⟩

theorem Ky (c : List Col) (ms : List Mov) : (Ag c ms).1 ≠ [] := by
 cases ms with
 | nil => simp [Ag]
 | cons m r =>
  rw [Ag]
  split <;> simp
theorem Nl : ∀ (c : List Col) (ms : List Mov), (Ag c ms).1.length ≤ ms.length + 1
 | c, [] => by simp [Ag]
 | c, m :: r => by
  rw [Ag]
  split
  ·simp
  have := Nl (B7 c m).1 r
  simp only [List.length_cons]
  omega
theorem Yz {c : List Col} {ms : List Mov} (h : ((Bs c ms).2 != 0) = false) : (Bs c ms).1 ≠ [] ∧ (Bs c ms).1.length ≤ 9 := by
 unfold Bs at h ⊢
 by_cases h1 : ((Gj c ms).2 != 0) = true
 ·rw [if_pos h1] at h
  rw [h1] at h; cases h
 rw [if_neg h1]
 by_cases h2 : Eg c ms = true
 ·have e : Gj c ms = Ag c ms := if_pos h2
  rw [e]
  have h3 : ms.length ≤ 8 := by
   unfold Eg Ng at h2
   simp only [Bool.and_eq_true, decide_eq_true_eq] at h2
   omega
  have := Nl c ms
  exact ⟨Ky c ms, by omega⟩
 have e : Gj c ms = ([], 1) := if_neg h2
 rw [e] at h1
 exact absurd rfl h1
theorem dn {l : List (List Col)} (h : l ≠ []) : (l.map Af)[l.length - 1]? = some (Af (l.getLastD [])) := by
 have h1 : 0 < l.length := List.length_pos_iff.2 h
 rw [List.getElem?_map, List.getElem?_eq_getElem (by omega), ← List.getLast_eq_getElem (h := h), List.getLastD_eq_getLast?, List.getLast?_eq_some_getLast h]
 rfl
theorem c11 (c : List Col) (hc : OkCols c) (hc2 : c.length ≤ 1000000) (l : List Mov) (h : OkMovs l) (Hp : List AObj) : AFun Tryz.prog 11 [Af c, De l] Hp (.tup [Af (C2 c l).1, A4 (C2 c l).2]) := by
 refine ACall.body [.tmp 4, .tmp 5] [0, 1] Tryz.func11 Tryz.ntmps11 (fun d => ?_)
 refine Q9 ?_;refine R.fin [0, 1] ?_;refine Z27 ?_;refine R.call Tryz.call14 (c14 c hc hc2 l h _) ?_;refine Z94 ?_;refine R.fin [6, 7] ?_;refine Rl ?_;refine R.fin [6, 7, 15] ?_
 refine W.cond (fun ht15 => ?_) (fun ht15 => ?_)
 ·have hm : C2 c l = ([], (Bs c l).2) := if_pos ht15
  exact fj
 have hm : C2 c l = ((Bs c l).1.getLastD [], 0) := if_neg (by rw [ht15]; simp)
 obtain ⟨hne, hl9⟩ := Yz ht15
 have hl0 : 0 < (Bs c l).1.length := List.length_pos_iff.2 hne
 refine U0 ?_;refine R.len jU ?_
 rw [List.length_map]
 refine R.sub64 (h1 := by omega) (h2 := by omega) ?_;refine R.indexAddr (((Bs c l).1.length - 1)) (Af ((Bs c l).1.getLastD [])) jU jS (dn hne) ?_;refine Di ?_;refine Z7 ?_;exact mz

theorem V7 {n k : Nat} {o : Bool} {a : List Expr} {e : Expr} : Low n (.slice o k (a.map A7 ++ [A7 e])) := low_slice.2 fun y hy => by
 rcases List.mem_append.1 hy with h | h
 ·obtain ⟨m, _, rfl⟩ := List.mem_map.1 h
  exact Ae _ _
 rw [List.mem_singleton.1 h]
 exact Ae _ _
/-! fuse: trees in columns' places. -/
theorem Qv (o : Int) (t : Str) (v : Val) (k : List Expr) : A7 (.mk o t v k) = .agg [A4 o, .v (sv t), A4 v.kind, A4 v.n, .v (sv v.s), .slice false 6 (k.map A7)] := by rw [Ac]; rfl
set_option maxRecDepth 8000
/-! The words of a print. -/
/-! What a tree comes to: eval's model. -/
abbrev Rs := Val × Int
def Nm (e : Int) : Rs := (noV, e)
def G7 (r : Rs) : Rs := if (r.2 == 0) && (r.1.kind != 0) && (r.1.kind != 3) then Nm 10 else r
def dp (strong : Val) (a b : Rs) : Rs := if ((G7 a).2 != 0) || ((G7 a).1 == strong) then G7 a else if (((G7 b).2 != 0) || ((G7 b).1 == strong)) || ((G7 a).1.kind != 0) then G7 b else ((G7 a).1, 0)
def ifW : Str := [105, 102]
def sb : Str := [110, 118, 108]
def Wf : Str := [105, 115, 110, 117, 108, 108]
def ph (t : Str) (a b c : Rs) : Rs :=
 if t == ifW then (if (G7 a).2 != 0 then Nm (G7 a).2 else if (G7 a).1 == Rq true then b else c)
 else if a.2 != 0 then Nm a.2 else if t == Wf then (Rq (a.1.kind == 0), 0) else if a.1.kind != 0 then (a.1, 0) else b
def sc (strict : List Val → Rs) (l : List Rs) : Rs := match l.find? (fun q => q.2 != 0) with | some q => Nm q.2 | none => if l.any (fun q => q.1.kind == 0) then (noV, 0) else strict (l.map (·.1))
def Nn (c : List Col) (l : List Val) (t : Str) : Rs := if Be t c < 0 then Nm 9 else (l.getD (Be t c).toNat noV, 0)
def orW : Str := [111, 114]
def sd : Str := [97, 110, 100]
/-- A node, of what its kids come to; what a strict node comes to is a parameter. -/
def ju (strict : Int → Str → List Val → Rs) (c : List Col) (l : List Val) (o : Int) (t : Str) (v : Val) (ks : List Rs) : Rs :=
 if o == 1 then (v, 0) else if o == 2 then Nn c l t
 else if (o == 5) && (t == orW) then dp (Rq true) (ks.getD 0 (noV, 0)) (ks.getD 1 (noV, 0))
 else if (o == 5) && (t == sd) then dp (Rq false) (ks.getD 0 (noV, 0)) (ks.getD 1 (noV, 0))
 else if (o == 6) && (((t == ifW) || (t == sb)) || (t == Wf)) then ph t (ks.getD 0 (noV, 0)) (ks.getD 1 (noV, 0)) (ks.getD 2 (noV, 0))
 else sc (strict o t) ks
mutual
def Li (strict : Int → Str → List Val → Rs) (c : List Col) (l : List Val) : Expr → Rs
 | .mk o t v k => ju strict c l o t v (Pe strict c l k)
def Pe (strict : Int → Str → List Val → Rs) (c : List Col) (l : List Val) : List Expr → List Rs
  | [] => []
  | e :: r => Li strict c l e :: Pe strict c l r
 end
/-! A tree in a column's place comes to what its value would there. -/
mutual
theorem eval_put {f : Int → Str → List Val → Rs} {c : List Col} {l m : List Val} {s : Str} {y : Expr} (hs : Nn c m s = Li f c l y) (ho : ∀ t, t ≠ s → Nn c m t = Nn c l t) : ∀ x : Expr, Li f c l (lr s y x) = Li f c m x
 | .mk o t v k => by
  rw [lr]
  split
  ·rename_i h
   rw [Bool.and_eq_true, beq_iff_eq, beq_iff_eq] at h
   obtain ⟨rfl, rfl⟩ := h
   rw [← hs, Li]
   rfl
  rename_i h
  rw [Li, Li, Pf hs ho k]
  unfold ju
  by_cases h2 : (o == 2) = true
  ·have : t ≠ s := fun e => h (by rw [h2, e]; simp)
   rw [ho t this]
  rw [if_neg h2, if_neg h2]
theorem Pf {f : Int → Str → List Val → Rs} {c : List Col} {l m : List Val} {s : Str} {y : Expr} (hs : Nn c m s = Li f c l y) (ho : ∀ t, t ≠ s → Nn c m t = Nn c l t) : ∀ k : List Expr, Pe f c l (gk s y k) = Pe f c m k
  | [] => rfl
  | e :: r => by rw [gk, Pe, Pe, eval_put hs ho e, Pf hs ho r]
 end
/-! Who is not named plays no part. -/
/-! What a strict node comes to. -/
/-! Values are pt, and their numbers have 64 bits. -/
/-! A text between marks. -/
set_option maxRecDepth 4000
set_option maxRecDepth 8000
/-! Who decides decides: the law's sources, columns and truths. -/
/-! Rows. -/
/-! Rows that differ in what is not named. -/
/-! Who has a kind comes to it. -/
/-! The print of a tree, and its words. -/
/-! What was parsed nests no deeper than may be. -/
/-! What nests too deep is told to be too deep. -/
def F1 (l : List Tok) (x : Expr) : Prop := ∀ (k : Nat) (S : PS) (rest : List TK), k ≤ Ym x → S.code = 0 → S.nest ≤ 30 → 30 < S.nest + Sn x → seg l S.i = Lg x ++ rest → Wa k rest → (pf l (fam l S.nest) k S).2.code = 18
def F2 (l : List Tok) (x : Expr) : Prop := ∀ (k : Nat) (S : PS) (rest : List TK), (k = 0 ∨ k = 1 ∨ k = 4 ∨ k = 5) → k ≤ Ym x → S.code = 0 → S.nest ≤ 30 → 30 < S.nest + Sn x → seg l S.i = Lg x ++ rest → Wa (k + 1) rest → (Dd l (ofL k) (pf l (fam l S.nest) (k + 1)) S).2.code = 18
/-! What was parsed is right, where the words are the lexer's. -/
/-! The lexer's words. -/
/-! The parse laws where nothing is too deep. -/
/-! The parser from a word on, and of a source. -/
/-! Other trees have other words, and other prints. -/
/-! The laws of printing. -/
set_option maxRecDepth 4000
end Go.SX.Nb
namespace Go.Proofs
open Go.Shelf Go.RowKit

section
variable {P : Program} (w : World)

end

section
variable {P : Program} {ρ : Ren}

set_option maxHeartbeats 1000000 in
set_option maxRecDepth 100000 in
set_option maxHeartbeats 1000000 in
set_option maxRecDepth 100000 in
set_option maxHeartbeats 2000000 in
set_option maxRecDepth 100000 in
set_option maxHeartbeats 2000000 in
set_option maxRecDepth 100000 in
end
end Go.Proofs

namespace Go.SX.Nb
open Go Go.SX Go.Proofs Go.Shelf
variable [ErrAt]
set_option maxRecDepth 8000
/-! show's builder. -/
end Go.SX.Nb
namespace Go.SX.Nb
open Go Go.SX Go.Proofs
variable [ErrAt]
set_option maxRecDepth 4000
set_option maxRecDepth 8000
/-! How long a print is. -/
set_option maxRecDepth 4000
abbrev xo (own : Bool) (t : Str) (ks : List Expr) : AObj := .cells 45 [A4 6, Aa t, A4 0, A4 0, Aa [], .slice own 6 (ks.map A7)]
theorem mh {n : Nat} {own : Bool} {t : Str} {ks : List Expr} : ObjLow n (xo own t ks) := by
 show ∀ z ∈ [A4 6, Aa t, A4 0, A4 0, Aa [], AV.slice own 6 (ks.map A7)], Low n z
 intro z hz
 simp only [List.mem_cons, List.not_mem_nil, or_false] at hz
 rcases hz with rfl | rfl | rfl | rfl | rfl | rfl
 all_goals first | exact Cs | simp
theorem ja : Ci (.agg #[.int .i64 0, .string ⟨#[]⟩, .int .i64 0, .int .i64 0, .string ⟨#[]⟩, .slice none 0 0]) = .agg [A4 0, Aa [], A4 0, A4 0, Aa [], .nil] := rfl
attribute [go_sem] ja
theorem gA {Hp : List AObj} {o ox : Nat} {z A B : AObj} (ho : Hp[o]? = some z) (hne : ox ≠ o) : ((Hp.set o A).set ox B)[o]? = some A := by rw [List.getElem?_set_ne hne]; exact getset ho
theorem gB {Hp : List AObj} {o ox : Nat} {z A B : AObj} (hox : Hp[ox]? = some z) : ((Hp.set o A).set ox B)[ox]? = some B := by
 have := (List.getElem?_eq_some_iff.1 hox).1
 simp [this]
theorem dq {Hp : List AObj} {o ox : Nat} {A A' B : AObj} (hne : ox ≠ o) : ((Hp.set o A).set ox B).set o A' = (Hp.set o A').set ox B := by rw [List.set_comm _ _ hne, List.set_set]
theorem J8 (ks : List Expr) (x : Expr) : ks.map A7 ++ [.agg [.v (.int .i64 x.op), .v (sv x.text), .v (.int .i64 x.val.kind), .v (.int .i64 x.val.n), .v (sv x.val.s), .slice false 6 (x.kids.map A7)]] = (ks ++ [x]).map A7 := by rw [List.map_append, List.map_cons, List.map_nil, Ac x]
theorem sg (l : List Tok) (S : PS) (t : Str) (Dv : Fam) (o ox : Nat) (Hp : List AObj) (hne : ox ≠ o) (ho : Hp[o]? = some (pr l S)) (hox : Hp[ox]? = some (xo true t [])) (hi : S.i < l.length) (hl : TokEnd l) (hll : l.length ≤ 1048576) (hf : Cm l S.nest Dv.ei) (hcf : PC 219 l Dv.ei S.nest) : ACall Tryz.prog 269 [.ptr ox 0, .ro [.ptr o 0]] Hp (fun r H' => r = A7 (.mk 6 t noV (Eh l Dv.ei S).1) ∧ H' = (Hp.set o (pr l (Eh l Dv.ei S).2)).set ox (xo true t (Eh l Dv.ei S).1)) := by
 have hoxl := (List.getElem?_eq_some_iff.1 hox).1
 have hol := (List.getElem?_eq_some_iff.1 ho).1
 refine ACall.body [.cell 2 45] [0, 1] Tryz.func269 Tryz.ntmps269 (fun d => ?_)
 refine Z21 ?_;refine R.fin [0, 1, 2] ?_
 refine W.drawT [0, 1, 0, 4, 3, 0, 63, 127, 255, 127, 639] [1, 3] [.q 1 [] [0], .s [4] (some 0) [] [], .q 1 [] [1], .s [6] (some 1) [] [], .q 2 [] []] (fun B => (Hp.set o (if B 1 = true then pr l (Dv.ei S).2 else pr l S)).set ox (if B 0 = true then xo false t [] else xo true t [])) (fun _ => [Gi]) Ad (by kernel_rfl) (by simp only [Bool.false_eq_true, if_false]; rw [Dr ho, Dr hox]) rfl (fun B => by simp) ?_
 apply Y.q
 case h1 =>
  intro B hT hF
  exact nb
 case hTF => decide
 refine Y.loadUpT (o := ox) (t' := 45) (cs := [A4 6, Aa t, A4 0, A4 0, Aa [], .slice true 6 ([].map A7)]) (cs' := [A4 6, Aa t, A4 0, A4 0, Aa [], .slice false 6 ([].map A7)]) Tryz.isAgg43 (fun B hB => ⟨by simp only [hB]; exact gB hox, by simp [upd, List.set_set] <;> rfl, rfl⟩) ?_
 apply Y.q
 case h1 =>
  intro B hT hF
  exact kw
 case hTF => decide
 refine Y.callUp (r := A7 (Dv.ei S).1) (o := o) (x0 := pr l S) (x := pr l (Dv.ei S).2) Tryz.call219 (fun B hT hF hB => ⟨by simp only [hB]; exact gA ho hne, ?_, rfl, Bj, ?_⟩) ?_
 ·simp only [upd, hB, Nat.reduceEqDiff, if_false, if_true, Bool.false_eq_true]
  exact (dq hne).symm
 ·simp only [hB]
  exact hcf o _ S (A6 (gA ho hne)) hi rfl
 apply Y.q
 case h1 =>
  intro B hT hF
  exact Xe
 case hTF => decide
 refine Y.appendPut (tn := [1, 3]) (U := (Hp.set o (pr l (Dv.ei S).2)).set ox (xo false t [])) (O := [Gi]) (o := ox) (t' := 45) (cs := [A4 6, Aa t, A4 0, A4 0, Aa [], .slice false 6 ([].map A7)]) (by kernel_rfl) jU Tryz.type45 Tryz.sizeOf45 Tryz.sizeOf43 jU (A6 (gB hox)) ?_ ?_ ?_ (hfsz := Tryz.sizeOf43)
 ·simp [Tryz.t45]
 ·simp [Tryz.t45]
 refine R.fieldAddrPtr (fo := 5) jU Tryz.sizeOf43 ?_
 refine R.storeUpT jS (gB hox) ?_ ?_
 ·first | (rw [J8]; exact Cs) | (have := Cs (n := ((Hp.set o (pr l (Dv.ei S).2)).set ox (xo false t [])).length) (k := 6) (o := true) (l := [(Dv.ei S).1]); simp only [List.map_cons, List.map_nil, Ac] at this; exact this)
 refine R.fin [0, 1, 2] ?_;refine W.seq ?_
 refine AW.loopC (α := List Expr × PS) (fun r => ⟨34, A5 0 (.ptr ox 0) (A5 1 (.ro [.ptr o 0]) (A5 2 (.ptr (oid Hp.length 0) 0) (fun _ => .any))), (Hp.set o (pr l r.2)).set ox (xo true t r.1), [Gi], [], none⟩) (fun r => ArgsAt l Dv.ei S r) (fun r => l.length - r.2.i) (([(Dv.ei S).1], (Dv.ei S).2)) (.start (hf S hi rfl)) (StLe.of_eq (by simp [List.set_set, xo, Ac])) rfl (fun r hx => ?_)
 refine Z15 ?_;refine Di ?_;refine f5 ?_;refine R.loadUp jA (gA ho hne) ?_;refine R.eql ?_;refine Av ?_;refine G.loadRo jA ?_;refine G.call Tryz.call249 (fun hB => Sk l r.2 N6 o _ (A6 (gA ho hne)) hx.fact.lt hl (by decide)) ?_;refine G8 ?_;refine R.fin [0, 1, 2, 21] ?_
 refine W.cond (fun ht21 => ?_) (fun ht21 => ?_)
 ·have hon := hx.on hl ht21 hf
  have hle := hon.2.1.le
  have hlt0 := hx.fact.lt
  refine Z6 ?_;refine Fc ?_;refine Z85 ?_;refine R.callUp Tryz.call250 (gA ho hne) (by simp) Bj (cr l r.2 o _ (A6 (gA ho hne)) hx.fact.lt hll) ?_;refine R.fin [0, 1, 2] ?_
  refine W.drawT0 [0, 1, 0, 4, 3, 0, 63, 127, 255, 127, 639] [1, 3] [.q 1 [] [0], .s [25] (some 0) [] [], .q 1 [] [1], .s [27] (some 1) [] [], .q 2 [] []] (fun B => (Hp.set o (if B 1 = true then pr l (Dv.ei (Ab r.2)).2 else pr l (Ab r.2))).set ox (if B 0 = true then xo false t r.1 else xo true t r.1)) (fun _ => [Gi]) Ad (by kernel_rfl) (by simp only [Bool.false_eq_true, if_false]; exact (dq hne).symm) rfl (fun B => by simp) ?_
  apply Y.q
  case h1 =>
   intro B hT hF
   exact nb
  case hTF => decide
  refine Y.loadUpT (o := ox) (t' := 45) (cs := [A4 6, Aa t, A4 0, A4 0, Aa [], .slice true 6 (r.1.map A7)]) (cs' := [A4 6, Aa t, A4 0, A4 0, Aa [], .slice false 6 (r.1.map A7)]) Tryz.isAgg43 (fun B hB => ⟨by simp only [hB]; exact gB hox, by simp [upd, List.set_set] <;> rfl, rfl⟩) ?_
  apply Y.q
  case h1 =>
   intro B hT hF
   exact kw
  case hTF => decide
  refine Y.callUp (r := A7 (Dv.ei (Ab r.2)).1) (o := o) (x0 := pr l (Ab r.2)) (x := pr l (Dv.ei (Ab r.2)).2) Tryz.call219 (fun B hT hF hB => ⟨by simp only [hB]; exact gA ho hne, ?_, rfl, Bj, ?_⟩) ?_
  ·simp only [upd, hB, Nat.reduceEqDiff, if_false, if_true, Bool.false_eq_true]
   exact (dq hne).symm
  ·simp only [hB]
   exact hcf o _ (Ab r.2) (A6 (gA ho hne)) hon.1 hx.fact.nest
  apply Y.q
  case h1 =>
   intro B hT hF
   exact Xe
  case hTF => decide
  refine Y.appendPut (tn := [1, 3]) (U := (Hp.set o (pr l (Dv.ei (Ab r.2)).2)).set ox (xo false t r.1)) (O := [Gi]) (o := ox) (t' := 45) (cs := [A4 6, Aa t, A4 0, A4 0, Aa [], .slice false 6 (r.1.map A7)]) (by kernel_rfl) jU Tryz.type45 Tryz.sizeOf45 Tryz.sizeOf43 jU (A6 (gB hox)) ?_ ?_ ?_ (hfsz := Tryz.sizeOf43)
  ·have := hx.fact.len; have := hx.fact.lt; simp only [List.length_map, Tryz.t45]; omega
  ·have := hx.fact.len; have := hx.fact.lt; simp only [List.length_map, Tryz.t45]; omega
  refine R.fieldAddrPtr (fo := 5) jU Tryz.sizeOf43 ?_
  refine R.storeUpT jS (gB hox) ?_ ?_
  ·first | (rw [J8]; exact Cs) | (have := Cs (n := ((Hp.set o (pr l (Dv.ei S).2)).set ox (xo false t [])).length) (k := 6) (o := true) (l := [(Dv.ei S).1]); simp only [List.map_cons, List.map_nil, Ac] at this; exact this)
  refine R.fin [0, 1, 2] ?_;refine K.blN ?_
  refine K.lpN (r.1 ++ [(Dv.ei (Ab r.2)).1], (Dv.ei (Ab r.2)).2) hon.2.2 (by show l.length - (Dv.ei (Ab r.2)).2.i < l.length - r.2.i; have : r.2.i + 1 ≤ (Dv.ei (Ab r.2)).2.i := hle; omega) (StCut.of_eq ?_)
  simp only [show Tryz.t45.size = 6 from rfl, J8, List.set_set]
 have hout := hx.out (by rw [ht21]; simp)
 refine K9 ?_;refine B8 ?_;refine R.loadUpN jA jS (gB hox) ?_;refine Z5 ?_;exact K.fin (V.one (V.cellN jA jS)) ⟨by rw [hout, Qv]; rfl, by rw [hout]⟩ (hlow := by have := Ae Hp.length (.mk 6 t noV r.1); rw [Qv] at this; simpa using this)

/-- within, with the function that gathers a call's kids. -/
theorem pi (l : List Tok) (S : PS) (a : Int) (t : Str) (Dv : Fam) (o : Nat) (Hp : List AObj) (A0 A1 : AObj) (l0 : ObjLow 0 A0) (ho : Hp[o]? = some (pr l S)) (hi : S.i < l.length) (hl : TokEnd l) (hll : l.length ≤ 1048576) (hnl : S.nest ≤ 30) (hd : DeepC l Dv S.nest) :
  ACall Tryz.prog 260 [.ptr o 0, A4 a, .fn (.func 269) [] [.ptr (oid Hp.length 2) 0, .ro [.ptr o 0]]] (Hp ++ [A0, A1, xo true t []]) (fun r H' => r = A7 (if S.nest = 30 then Az else .mk 6 t noV (Lf l a Dv.ei S).1) ∧ H' = Hp.set o (pr l (Lf l a Dv.ei S).2) ++ [A0, A1, xo true t (Lf l a Dv.ei S).1]) := by
 have hlt := (List.getElem?_eq_some_iff.1 ho).1
 have ho' : (Hp ++ [A0, A1, xo true t []])[o]? = some (pr l S) := A6 ho
 by_cases h30 : S.nest = 30
 ·refine (ie l S a 269 [] [.ptr (oid Hp.length 2) 0, .ro [.ptr o 0]] Az (Bo S) o (Hp ++ [A0, A1, xo true t []]) ((Hp ++ [A0, A1, xo true t []]).set o (pr l (Bo S))) ho' (by omega) Tryz.call269 (by simp) (getset ho') rfl (fun h => h) (fun h => absurd h30 h)).mono fun r H' h => ?_
  have e : Lf l a Dv.ei S = ([], Cc 18 a S) := if_pos (by rw [h30]; rfl)
  rw [e, if_pos h30]
  obtain ⟨h1, h2⟩ := h.1 h30
  exact ⟨h1, by rw [h2, List.set_append_left _ _ hlt]⟩
 have hq := N9 (S := Bo S) hl hi (hd.ei h30).1
 refine (ie l S a 269 [] [.ptr (oid Hp.length 2) 0, .ro [.ptr o 0]] (.mk 6 t noV (Eh l Dv.ei (Bo S)).1) (Eh l Dv.ei (Bo S)).2 o (Hp ++ [A0, A1, xo true t []]) (Hp.set o (pr l (Eh l Dv.ei (Bo S)).2) ++ [A0, A1, xo true t (Eh l Dv.ei (Bo S)).1]) ho' (by omega) Tryz.call269 (by simp) (A6 (getset ho)) hq.nest (fun h y hy => ?_) (fun _ own => ?_)).mono fun r H' h => ?_
 ·rw [List.set_append_left _ _ hlt] at h
  rcases List.mem_append.1 hy with hy | hy
  ·rcases List.mem_or_eq_of_mem_set hy with h1 | h1
   ·obtain ⟨i, hi', rfl⟩ := List.getElem_of_mem h1
    by_cases hio : i = o
    ·subst hio
     have : Hp[i] = pr l S := by rw [List.getElem?_eq_getElem hi'] at ho; injection ho
     rw [this]; exact Bj
    refine h _ (List.mem_append_left _ ?_)
    rw [List.mem_iff_getElem?]
    exact ⟨i, by rw [List.getElem?_set_ne (Ne.symm hio), List.getElem?_eq_getElem hi']⟩
   rw [h1]; exact Bj
  simp only [List.mem_cons, List.not_mem_nil, or_false] at hy
  rcases hy with rfl | rfl | rfl
  ·exact h _ (List.mem_append_right _ (by simp))
  ·exact h _ (List.mem_append_right _ (by simp))
  exact mh
 ·have hoid : oid Hp.length 2 ≠ o := by unfold oid; omega
  have e1 : (Hp ++ [A0, A1, xo true t []]).set o (pr l (Bo S)) ++ own = (Hp.set o (pr l (Bo S)) ++ [A0, A1, xo true t []]) ++ own := by rw [List.set_append_left _ _ hlt]
  rw [e1]
  have g1 : ((Hp.set o (pr l (Bo S)) ++ [A0, A1, xo true t []]) ++ own)[o]? = some (pr l (Bo S)) := A6 (A6 (getset ho))
  have g2 : ((Hp.set o (pr l (Bo S)) ++ [A0, A1, xo true t []]) ++ own)[oid Hp.length 2]? = some (xo true t []) := A6 (by
   have := Ak (U := Hp.set o (pr l (Bo S))) (O := [A0, A1, xo true t []]) (n := 2)
   rw [List.length_set] at this
   exact this)
  refine (sg l (Bo S) t Dv o (oid Hp.length 2) _ hoid g1 g2 hi hl hll (hd.ei h30).1 (hd.ei h30).2).mono fun r H' h => ⟨h.1, h.2.trans ?_⟩
  rw [List.append_assoc, List.set_append_left _ _ (by simpa using hlt), List.set_set]
  have := D0 (U := Hp.set o (pr l (Eh l Dv.ei (Bo S)).2)) (O := [A0, A1, xo true t []] ++ own) (n := 2) (x := xo true t (Eh l Dv.ei (Bo S)).1)
  rw [List.length_set] at this
  rw [this]
  simp
 have e : Lf l a Dv.ei S = ((Eh l Dv.ei (Bo S)).1, P6 (Eh l Dv.ei (Bo S)).2) := if_neg (by
  show ¬ (((S.nest : Int) == 30) = true)
  simp
  omega)
 rw [e, if_neg h30]
 obtain ⟨h1, h2⟩ := h.2 h30
 exact ⟨h1, by rw [h2, List.set_append_left _ _ (by simpa using hlt), List.set_set]⟩
theorem sh (l : List Tok) (S : PS) (Dv : Fam) (t : Tok) (o : Nat) (Hp : List AObj) (ho : Hp[o]? = some (pr l S)) (hi : (Ab S).i < l.length) (hl : TokEnd l) (hll : l.length ≤ 1048576) (hnl : S.nest ≤ 30) (hd : DeepC l Dv S.nest) : ACall Tryz.prog 267 [.ptr o 0, Ff t] Hp (fun r H' => r = A7 (Ei l Dv t S).1 ∧ H' = Hp.set o (pr l (Ei l Dv t S).2)) := by
 have hi0 : S.i < l.length := by have : S.i + 1 < l.length := hi; omega
 have hol := (List.getElem?_eq_some_iff.1 ho).1
 have hkf : KFact l (Ab S) (C0 l Dv S) := Na hl _ hi (fun h => (hd.ei h).1)
 refine ACall.body [.cell 4 45] [0, 1] Tryz.func267 Tryz.ntmps267 (fun d => ?_)
 refine Z32 ?_;refine R.boxRo ?_;refine Iy ?_;refine R.fin [2, 3, 4] ?_;refine B8 ?_;refine Z81 ?_;refine R.call Tryz.call110 (od t.text _) ?_;refine Bg ?_;refine R.fin [2, 3, 4, 5] ?_;refine Xp ?_;refine R.fin [2, 3, 4, 5, 12] ?_
 refine W.cond (fun ht12 => ?_) (fun ht12 => ?_)
 ·have hlt0 : E9 t.text < 0 := by simpa using ht12
  have e : Ei l Dv t S = (Az, Cc 9 t.at_ S) := if_pos hlt0
  refine Z85 ?_;refine ep ?_;refine R.callUp Tryz.call221 ho (by simp) Bj (Yj l S 9 t.at_ o _ (A6 ho)) ?_;refine E3 ?_;refine Z19 ?_;exact Z65
 have hge : ¬ E9 t.text < 0 := by simpa using ht12
 refine Z6 ?_;refine Z85 ?_;refine R.callUp Tryz.call250 ho (by simp) Bj (cr l S o _ (A6 ho) hi0 hll) ?_;refine Z10 ?_;refine R.fin [2, 3, 4, 5, 6] ?_;refine B8 ?_;refine Z81 ?_;refine U5 ?_;refine Z10 ?_;refine R.fin [2, 3, 4, 5, 6, 7] ?_;refine B8 ?_;refine R.nilCell 2 5 6 ?_;refine Di ?_;refine Z67 ?_;refine Ik ?_
 refine R.callX (up' := (Hp.set o (pr l (Ab S))).set o (pr l (C0 l Dv S).2)) (own' := [Gi, .cells 125 [A4 (A9 l S.i).kind, Aa (A9 l S.i).text, A4 (A9 l S.i).at_], xo true t.text (C0 l Dv S).1]) Tryz.call260 (by have := pi l (Ab S) (A9 l S.i).at_ t.text Dv o (Hp.set o (pr l (Ab S))) Gi (.cells 125 [A4 (A9 l S.i).kind, Aa (A9 l S.i).text, A4 (A9 l S.i).at_]) W7 (getset ho) hi hl hll hnl hd; rw [List.length_set] at this; exact this) (by simp) (fun h => ii h Bj) ?_
 refine R.fin [2, 3, 4, 5, 7] ?_;refine Z85 ?_;refine R.callUp Tryz.call268 (getset (getset ho)) (by simp) Bj (ol l (C0 l Dv S).2 D3 o _ (A6 (getset (getset ho))) hkf.lt hll) ?_;refine R.fin [2, 3, 4, 5, 7] ?_;refine Z15 ?_;refine Di ?_;refine f5 ?_;refine R.loadUp jA (getset (getset (getset ho))) ?_;refine R.eql ?_;refine Av ?_;refine G.fieldAddrPtr (fo := 5) jU Tryz.sizeOf43 ?_;refine fe ?_;refine G.move ?_;refine G.neq ?_;refine G8 ?_;refine R.fin [2, 3, 4, 7, 41] ?_
 refine W.cond (fun ht41 => ?_) (fun ht41 => ?_)
 ·have e : Ei l Dv t S = (Az, Cc 8 t.at_ (D6 l D3 (C0 l Dv S).2)) := by
   unfold Ei
   rw [if_neg hge, if_pos (by have := ht41; simp only [List.length_map] at this; exact this)]
  refine Z85 ?_;refine ep ?_;refine R.callUp Tryz.call221 (getset (getset (getset ho))) (by simp) Bj (Yj l (D6 l D3 (C0 l Dv S).2) 8 t.at_ o _ (A6 (getset (getset (getset ho))))) ?_;refine E3 ?_;refine Z19 ?_;refine K.thR ?_;exact K.fin (V.one (V.cellN jA jS)) ⟨by rw [e, Ac], by rw [e, List.set_set, List.set_set, List.set_set]⟩ (hlow := low_agg _)
 have e : Ei l Dv t S = (.mk 6 t.text noV (C0 l Dv S).1, (D6 l D3 (C0 l Dv S).2)) := by
  unfold Ei
  rw [if_neg hge, if_neg (by have := ht41; simp only [List.length_map] at this; rw [Bool.eq_false_iff] at this; exact this)]
 refine Z6 ?_;refine Z34 ?_;refine E3 ?_;refine Z19 ?_;exact K.fin (V.one (V.cellN jA jS)) ⟨by rw [e, Qv]; rfl, by rw [e, List.set_set, List.set_set]⟩ (hlow := by have := Ae Hp.length (.mk 6 t.text noV (C0 l Dv S).1); rw [Qv] at this; simpa using this)

theorem Z1 {l : List Tok} (hl : TokEnd l) (hll : l.length ≤ 1048576) (n : Nat) (Dv : Fam) (hn : n ≤ 30) (hd : DeepC l Dv n) : Sl l Dv n := fun o Hp S t ho hi hS _ _ => by
 subst hS
 exact sh l S Dv t o Hp ho hi hl hll hn hd
/-! fuse.Forth and plan.Text. -/
theorem dr {c : List Col} {m : Mov} (h : (B7 c m).2 = 0) : (B7 c m).1 = Cb c m.take ++ B1 c m ∧ C4 c = true ∧ C4 (B7 c m).1 = true := by
 unfold B7 at h ⊢
 split at h
 ·rename_i h1
  exact absurd h (by simpa using h1)
 rename_i h1
 rw [if_neg h1]
 split at h
 ·rename_i h2
  exact absurd h (by simpa using h2)
 rename_i h2
 rw [if_neg h2]
 split at h
 ·rename_i h3
  exact absurd h (by simpa using h3)
 rename_i h3
 rw [if_neg h3]
 obtain ⟨a, _, b, d, e⟩ := ia (by simpa using h1 : (C1 c m.take (B1 c m)).2 = 0)
 rw [e]
 refine ⟨rfl, a, ?_⟩
 unfold C4
 rw [b, Bool.and_true]
 refine decide_eq_true ?_
 show ((Cb c m.take ++ B1 c m).length : Int) ≤ 12
 omega
/-! The text. -/
/-! ONE LINE EACH. -/
theorem V8 {c : List Col} {ms : List Mov} (he : (Ag c ms).2 = 0) : ∀ k, k ≤ ms.length → NS c ms k
 | 0, _ => mf
 | k + 1, h => by
  have ih := V8 he k (by omega)
  have hk : ms[k]? = some ms[k] := List.getElem?_eq_getElem (by omega)
  by_cases ht : (B7 (colsAt c ms k) ms[k]).2 = 0
  ·exact Qt hk ih ht
  exact absurd ((Qu hk ih ht).symm.trans he) ht
theorem jb {c : List Col} {ms : List Mov} (he : (Ag c ms).2 = 0) {k : Nat} {m : Mov} (hk : ms[k]? = some m) : (B7 (colsAt c ms k) m).2 = 0 := by
 have hl := (List.getElem?_eq_some_iff.1 hk).1
 by_cases ht : (B7 (colsAt c ms k) m).2 = 0
 ·exact ht
 exact absurd ((Qu hk (V8 he k (by omega)) ht).symm.trans he) ht
theorem Sz {c : List Col} {ms : List Mov} : ∀ {n k : Nat}, k ≤ n → (C6 c ms n)[k]? = some (colsAt c ms k)
 | 0, k, h => by
  have : k = 0 := by omega
  subst this; rfl
 | n + 1, k, h => by
  have hl := G6 c ms n
  rw [C6]
  by_cases e : k = n + 1
  ·subst e
   rw [List.getElem?_append_right (by omega), hl, Nat.sub_self]
   rfl
  rw [List.getElem?_append_left (by omega)]
  exact Sz (by omega)
theorem Jx {c : List Col} {ms : List Mov} (hc : C4 c = true) (he : (Ag c ms).2 = 0) : ∀ k, C4 (colsAt c ms k) = true
 | 0 => hc
 | k + 1 => by
  cases hk : ms[k]? with
  | none =>
   rw [colsAt, hk]
   exact Jx hc he k
  | some m =>
   rw [Gy hk]
   exact (dr (jb he hk)).2.2
/-- What a sound migration comes to. -/
theorem No {c : List Col} {ms : List Mov} (h : ((Bs c ms).2 != 0) = false) : Eg c ms = true ∧ (Ag c ms).2 = 0 ∧ Bs c ms = (C6 c ms ms.length, 0) := by
 cases hm : Eg c ms with
 | false => rw [Kw hm] at h; cases h
 | true =>
  by_cases he : (Ag c ms).2 = 0
  ·have e := V5 (V8 he ms.length (Nat.le_refl _))
   exact ⟨rfl, he, Pd hm e⟩
  rw [Nk hm he] at h
  exact absurd (by simpa using h) he
theorem Pg {c : List Col} {ms : List Mov} (h : ((Bs c ms).2 != 0) = false) : C2 c ms = (colsAt c ms ms.length, 0) := by
 obtain ⟨_, _, e⟩ := No h
 unfold C2
 rw [if_neg (by rw [h]; simp), e]
 show ((C6 c ms ms.length).getLastD [], _) = _
 rw [List.getLastD_eq_getLast?, List.getLast?_eq_getElem?, G6]
 have := Sz (c := c) (ms := ms) (n := ms.length) (Nat.le_refl _)
 rw [show ms.length + 1 - 1 = ms.length from rfl, this]
 rfl
/-! SoundJoins: one behind the other, in one. -/
theorem Np {b : List Mov} : ∀ {a : List Mov} {c : List Col}, (Ag c a).2 = 0 → Ag c (a ++ b) = ((Ag c a).1.dropLast ++ (Ag ((Ag c a).1.getLastD []) b).1, (Ag ((Ag c a).1.getLastD []) b).2)
 | [], c, _ => by simp [Ag]
 | m :: r, c, h => by
  rw [Ag] at h
  by_cases h1 : ((B7 c m).2 != 0) = true
  ·rw [if_pos h1] at h
   simp only at h
   rw [h] at h1; cases h1
  rw [if_neg h1] at h
  simp only at h
  have ih := Np (b := b) h
  have hne := Ky (B7 c m).1 r
  rw [List.cons_append, Ag, if_neg h1, Ag, if_neg h1, ih]
  obtain ⟨x, l, hl⟩ : ∃ x l, (Ag (B7 c m).1 r).1 = x :: l := by
   cases hh : (Ag (B7 c m).1 r).1 with
   | nil => exact absurd hh hne
   | cons x l => exact ⟨x, l, rfl⟩
  rw [hl]
  simp [List.getLastD]
theorem Nq {c : List Col} {l : List Mov} (h : Eg c l = false) : C2 c l = ([], 1) := by
 unfold C2; rw [Kw h]; rfl
theorem Kz {c : List Col} {l : List Mov} (h : Eg c l = true) : C2 c l = if (Ag c l).2 != 0 then ([], (Ag c l).2) else ((Ag c l).1.getLastD [], 0) := by
 have e : Gj c l = Ag c l := if_pos h
 unfold C2 Bs
 rw [e]
 by_cases h1 : ((Ag c l).2 != 0) = true
 ·rw [if_pos h1, if_pos h1, if_pos h1]
 rw [if_neg h1, if_neg h1]
theorem Wg {c : List Col} {l : List Mov} (h : (C2 c l).2 = 0) : Eg c l = true ∧ (Ag c l).2 = 0 ∧ (C2 c l).1 = (Ag c l).1.getLastD [] ∧ C4 (C2 c l).1 = true := by
 have hS : ((Bs c l).2 != 0) = false := by
  by_cases h1 : ((Bs c l).2 != 0) = true
  ·unfold C2 at h
   rw [if_pos h1] at h
   simp only at h
   rw [h] at h1; cases h1
  simpa using h1
 obtain ⟨h1, h2, h3⟩ := No hS
 have h4 := Pg hS
 have hc : C4 c = true := by unfold Eg at h1; simp only [Bool.and_eq_true] at h1; exact h1.1
 refine ⟨h1, h2, ?_, by rw [h4]; exact Jx hc h2 _⟩
 rw [Kz h1, if_neg (by rw [h2]; simp)]
theorem Ph {c : List Col} (hc : OkCols c) {l : List Mov} (h : OkMovs l) : OkCols (C2 c l).1 ∧ (C2 c l).1.length ≤ 1000000 := by
 have h0 : OkCols ([] : List Col) := ⟨by decide, fun y hy => by cases hy⟩
 by_cases h1 : ((Bs c l).2 != 0) = true
 ·have e : C2 c l = ([], (Bs c l).2) := by unfold C2; rw [if_pos h1]
  rw [e]; exact ⟨h0, Nat.zero_le _⟩
 have hS : ((Bs c l).2 != 0) = false := by simpa using h1
 have e := Pg hS
 have h2 : (C2 c l).2 = 0 := by rw [e]
 have hr := (Wg h2).2.2.2
 refine ⟨by rw [e]; exact Gz hc (fun m hm => h.each m hm) _, ?_⟩
 unfold C4 at hr
 simp only [Bool.and_eq_true, decide_eq_true_eq] at hr
 omega
theorem V9 {c : List Col} {a b : List Mov} (h : 8 < (a ++ b).length) : (C2 c (a ++ b)).2 = 1 := by
 rw [Nq]
 unfold Eg Ng
 rw [show decide (((a ++ b).length : Int) ≤ 8) = false by simp only [decide_eq_false_iff_not]; omega]
 simp
theorem Za {c : List Col} {a b : List Mov} (he : (C2 c a).2 = 0) (h8 : (a ++ b).length ≤ 8) : C2 (C2 c a).1 b = C2 c (a ++ b) := by
 obtain ⟨h1, h2, h3, h4⟩ := Wg he
 have h5 : C4 c = true ∧ Ng a = true := by unfold Eg at h1; simpa using h1
 have ha : a.all Ej = true := by have := h5.2; unfold Ng at this; simp only [Bool.and_eq_true] at this; exact this.2
 have hlb : b.length ≤ 8 := by rw [List.length_append] at h8; omega
 have e1 : Eg (C2 c a).1 b = b.all Ej := by
  unfold Eg Ng
  rw [h4, show decide ((b.length : Int) ≤ 8) = true by simp only [decide_eq_true_eq]; omega]
  simp
 have e2 : Eg c (a ++ b) = b.all Ej := by
  unfold Eg Ng
  rw [h5.1, show decide (((a ++ b).length : Int) ≤ 8) = true by simp only [decide_eq_true_eq]; omega, List.all_append, ha]
  simp
 cases hb : b.all Ej with
 | false => rw [Nq (by rw [e1, hb]), Nq (by rw [e2, hb])]
 | true =>
  rw [Kz (c := (C2 c a).1) (l := b) (by rw [e1, hb]), Kz (c := c) (l := a ++ b) (by rw [e2, hb]), Np h2, ← h3]
  have hne := Ky (C2 c a).1 b
  have e3 : ((Ag c a).1.dropLast ++ (Ag (C2 c a).1 b).1).getLastD [] = (Ag (C2 c a).1 b).1.getLastD [] := by
   rw [List.getLastD_eq_getLast?, List.getLastD_eq_getLast?, List.getLast?_append]
   rw [List.getLast?_eq_some_getLast hne]
   rfl
  rw [e3]
/-! mig.Parse: the first fault is Dw. -/
inductive PR (α : Type) where
 | ok (r : α) (i : Nat)
 | bad (e a : Int)
def PR.bind {α β : Type} (x : PR α) (f : α → Nat → PR β) : PR β := match x with
 | .ok r i => f r i
 | .bad e a => .bad e a
def Pi {α : Type} (L : List Tok) (i : Nat) (e : Int) : PR α := .bad e (A9 L i).at_
def isP (L : List Tok) (s : Str) (i : Nat) : Bool := (((A9 L i).kind == 5) || ((A9 L i).kind == 2)) && ((A9 L i).text == s)
def Bh (L : List Tok) (s : Str) (i : Nat) : PR Unit := if isP L s i then .ok () (i + 1) else Pi L i 8
def Dt (L : List Tok) (i : Nat) : PR Str := if (A9 L i).kind != 1 then Pi L i 8 else .ok (A9 L i).text (i + 1)
def Wh (L : List Tok) (nm : Str) (j : Nat) : PR Col := if ((A9 L j).kind != 2) || (Ld (A9 L j).text == 0) then Pi L j 8 else .ok ⟨nm, Ld (A9 L j).text⟩ (j + 1)
def Fh (L : List Tok) (i : Nat) : PR Col := (Dt L i).bind (Wh L)
def Hg (L : List Tok) (i : Nat) : PR Expr := if (atM L i).2.2.1 != 0 then .bad (atM L i).2.2.1 (atM L i).2.2.2 else .ok (atM L i).1 (atM L i).2.1.toNat
def Bl (m : Mov) (c : Col) : Mov := { m with give := m.give ++ [c] }
def Wi (m : Mov) (x : Expr) : Mov := { m with ahead := m.ahead ++ [x] }
def Ck (L : List Tok) (m : Mov) (i : Nat) : PR Mov := (Fh L i).bind fun c j => (Bh L [61] j).bind fun _ j => (Hg L j).bind fun x j => .ok (Wi (Bl m c) x) j
def Lj (L : List Tok) (n : Int) (k : Nat) (i : Nat) : Bool := decide ((k : Int) < n) || ((n == 0) && (decide ((k : Int) < 2) || isP L [44] i))
/-- Things with commas between, behind the first k. -/
def Jy (L : List Tok) (n : Int) (one : Mov → Nat → PR Mov) : Nat → Nat → Mov → Nat → PR Mov
 | 0, _, m, i => .ok m i
 | f + 1, k, m, i => if Lj L n k i then (Bh L [44] i).bind fun _ j => (one m j).bind fun m j => Jy L n one f (k + 1) m j else .ok m i
def Ec (L : List Tok) (n : Int) (one : Mov → Nat → PR Mov) (m : Mov) (i : Nat) : PR Mov := (one m i).bind fun m j => Jy L n one (L.length + 1) 1 m j
def Wj : Str := [98, 97, 99, 107]
def Ek : Str := [105, 110, 116, 111]
def toW : Str := [116, 111]
def Wk (m : Mov) (x : Expr) : Mov := { m with back := m.back ++ [x] }
def Jz (L : List Tok) (m : Mov) (i : Nat) : PR Mov := (Hg L i).bind fun x j => .ok (Wk m x) j
def D8 (L : List Tok) (m : Mov) (i : Nat) : PR Mov := (Bh L Wj i).bind fun _ j => Ec L m.take.length (Jz L) m j
def Fi (L : List Tok) (m : Mov) (i : Nat) : PR Mov := (Dt L i).bind fun s j => (Bh L toW j).bind fun _ j => (Dt L j).bind fun t j => .ok ⟨m.kind, [s], [⟨t, 0⟩], [Cr s], [Cr t]⟩ j
def takeS (m : Mov) (s : Str) : Mov := { m with take := [s] }
def Wl (m : Mov) (s : Str) : Mov := { m with take := m.take ++ [s] }
def Ir (L : List Tok) (m : Mov) (i : Nat) : PR Mov := (Dt L i).bind fun s j => .ok (Wl m s) j
def Ed (L : List Tok) (m : Mov) (i : Nat) : PR Mov :=
 if m.kind == 1 then Ck L m i
 else if m.kind == 2 then (Dt L i).bind fun s j => D8 L (takeS m s) j
 else if m.kind == 3 then Fi L m i
 else if m.kind == 4 then (Dt L i).bind fun s j => (Bh L Ek j).bind fun _ j => (Ec L 0 (Ck L) (takeS m s) j).bind fun m j => D8 L m j
 else if m.kind == 5 then (Ec L 0 (Ir L) m i).bind fun m j => (Bh L Ek j).bind fun _ j => (Ck L m j).bind fun m j => D8 L m j
 else if m.kind == 6 then (Ck L m i).bind fun m j => D8 L (takeS m (m.give.getD 0 ⟨[], 0⟩).name) j
 else .ok m i
def migWords : List Str := [[], [97, 100, 100], [100, 114, 111, 112], [114, 101, 110, 97, 109, 101], [115, 112, 108, 105, 116], [109, 101, 114, 103, 101], [114, 101, 116, 121, 112, 101]]
def Ca (k : Int) : Str := if (decide (k < 1) || decide (6 < k)) = true then [] else migWords.getD k.toNat []
def Dg (s : Str) : Int := if Ca 1 == s then 1 else if Ca 2 == s then 2 else if Ca 3 == s then 3 else if Ca 4 == s then 4 else if Ca 5 == s then 5 else if Ca 6 == s then 6 else 0
def I7 (L : List Tok) (i : Nat) : PR Mov :=
 if ((A9 L i).kind != 2) || (Dg (A9 L i).text == 0) then Pi L i 8
 else (Ed L ⟨Dg (A9 L i).text, [], [], [], []⟩ (i + 1)).bind fun m j => (Bh L [59] j).bind fun _ j => .ok m j
/-- Moves, behind some. -/
def Hc (L : List Tok) : Nat → List Mov → Nat → PR (List Mov)
 | 0, l, i => .ok l i
 | f + 1, l, i => if (A9 L i).kind != 0 then (if (l.length : Int) == 8 then Pi L i 3 else (I7 L i).bind fun m j => Hc L f (l ++ [m]) j) else .ok l i
def Gl (L : List Tok) : PR (List Mov) := Hc L 9 [] 0
/-- The moves; the fault's code and place. -/
def Va (s : Str) : List Mov × Int × Int :=
 if (Dl s).2.1 != 0 then ([], (Dl s).2.1, (Dl s).2.2)
 else match Gl (Dl s).1 with
  | .ok l _ => (l, 0, 0)
  | .bad e a => ([], e, a)
end Go.SX.Nb
namespace Go.SX
variable [GI : GlobInv]
open Classical
/-- An object that no memory holds: what is told of a state behind an operation that surely panics. -/
def Zb : AObj := .cells 0 [.agg [.agg []]]
def bot (b : Bool) : List AObj := if b then [Zb] else []
theorem mi {G : Gh} {w : World} {i : Nat} : ¬ ObjRel G w i Zb := fun h => by
 obtain ⟨u, _, hr⟩ := Gn (y := .agg [.agg []]) (j := 0) h rfl
 cases hr with
 | agg _ _ vs hn h1 _ => exact absurd (h1 _ (List.mem_singleton.2 rfl)) (by simp [AV.one])
section
variable {P : Program} {d : Nat}
theorem StRel.bot {G : Gh} {st : St} {a : Act} {w : World} (h : StRel d G st a w) (hb : Zb ∈ st.own) : False := by
 obtain ⟨i, hi⟩ := List.getElem?_of_mem (List.mem_append_right st.up hb)
 exact mi (h.heap.obj i _ hi)
theorem Lv {b : Bool} {l : List AObj} (h : b = true) : Zb ∈ l ++ bot b := by subst h; exact List.mem_append_right _ (List.mem_singleton.2 rfl)
variable {sz : Nat} {dfs : List Nat} {rnd : Option Nat} {l0 : List Oper} {up own : (Nat → Bool) → List AObj} {KP : List PanicEntry → St → Prop} {E : List Oper → (Nat → AV) → Prop} {S : List SegY} {l : List Oper} {fr : Nat → AV} {ty : TypeId} {pos : String} {aft : Array Edge} {s : Nat} {T F : List Nat}
/-- What stands behind the operation that panics never runs. -/
theorem Y.bot {W : List Nat} {o : Oper} (hb : ∀ B : Nat → Bool, (∀ p ∈ T, B p = true) → Zb ∈ own B) (h : ChainY P d l0 sz up own dfs rnd KP E S l (E5 (W.map fun s => (s, .any)) fr)) (hg : o.guard = none := by rfl) :
  ChainY P d l0 sz up own dfs rnd KP E (.s W none T F :: S) (o :: l) fr := by
 refine ⟨_, l, W.map fun s => (s, .any), rfl, ⟨?_, hg, fun B f hT _ _ _ G a w hr => ?_⟩, h⟩
 ·simp [Function.comp_def]
 exact (StRel.bot hr (hb B hT)).elim
theorem Y.endBot {tn : List Nat} {Q : St → Prop} (hb : Zb ∈ own (fun p => decide (p < tn.length))) : ChainY P d l0 sz up own dfs rnd KP (fun l' f => ARun P d l0.toArray l' ⟨sz, f, up (fun p => decide (p < tn.length)), own (fun p => decide (p < tn.length)), dfs, rnd⟩ Q) [] l fr :=
 fun G a w hr => (StRel.bot hr hb).elim
/-- A call that surely panics. -/
theorem Y.callBad {f0 : Operand} {g : FuncId} {xs : List Operand} {ats : Array TypeId} {first caps args : List AV} {pn : Nat} {up0 own0 : List AObj} {pp : Value → List AObj → Prop} (hcall : ∀ args w, (callFunc g args).run P w = .ok (.enter g args) w)
  (hU : ∀ B : Nat → Bool, B pn = false → up B = up0 ∧ own B = own0) (hA : ACallP P g args (up0 ++ own0) (fun _ _ => False) pp)
  (hpp : ∀ x U O f, U.length = up0.length → (U ++ O).length = (up0 ++ own0).length → pp x (U ++ O) → ((∀ x ∈ up0, ObjLow U.length x) → ∀ x ∈ U, ObjLow U.length x) ∧ (∀ o ∈ dfs, (up0 ++ own0)[o]? = some .defs → (U ++ O)[o]? = some .defs) ∧ KP (Dw x) ⟨sz, f, U, O, dfs, rnd⟩)
  (h : ChainY P d l0 sz up own dfs rnd KP E S l (A5 s .any fr))
  (hf0 : A8 fr f0 = .fn (.func g) first caps := by exact sL0) (ha : first ++ xs.map (A8 fr) ++ caps = args := by exact sL0) :
  ChainY P d l0 sz up own dfs rnd KP E (.s [s] (some pn) T F :: S) (⟨some s, .call ⟨.value f0, xs.toArray, ats⟩, ty, pos, aft, none⟩ :: l) fr := by
 refine ⟨_, l, [(s, .any)], rfl, ⟨rfl, rfl, fun B f _ _ hB hf G a w hr => ?_⟩, h⟩
 obtain ⟨e1, e2⟩ := hU B (hB pn rfl)
 rw [e1, e2] at hr ⊢
 have e : first ++ xs.map (A8 f) ++ caps = args := by rw [Tp hf (fun x hx => by simp [Op.operands, Call.operands, hx])]; exact ha
 have e0 : A8 f f0 = .fn (.func g) first caps := by rw [agr hf (by simp [Op.operands, Call.operands])]; exact hf0
 have hev : St.ev ⟨sz, f, up0, own0, dfs, rnd⟩ f0 = .fn (.func g) first caps := e0
 have hfr := hev ▸ hr.eval f0
 generalize hfv : a.eval f0 = fv at hfr
 cases hfr with
 | fn _ _ _ _ va vc hna hnc h1 h2 =>
  have hxr := H3 hr xs
  subst e
  refine L2 (by intro c h; cases h) (Fq hcall hfv) (hA d G w _ (by simp [hna, hnc]) (fun i y u hy hu => ?_) hr.heap hr.tags hr.top) ?_
  ·rw [List.append_assoc] at hy
   rw [Array.append_assoc] at hu
   rcases Nat.lt_or_ge i first.length with hi | hi
   ·rw [List.getElem?_append_left hi] at hy
    rw [Array.getElem?_append_left (by omega)] at hu
    exact (h1 i y u hy hu).lift
   rw [List.getElem?_append_right hi] at hy
   rw [Array.getElem?_append_right (by omega), hna] at hu
   rcases Nat.lt_or_ge (i - first.length) xs.length with hj | hj
   ·rw [List.getElem?_append_left (by simpa using hj)] at hy
    rw [Array.getElem?_append_left (by simpa using hj)] at hu
    exact (hxr _ y u hy hu).lift
   rw [List.getElem?_append_right (by simpa using hj)] at hy
   rw [Array.getElem?_append_right (by simpa using hj)] at hu
   simp only [List.length_map, List.size_toArray] at hy hu
   exact (h2 _ y u hy hu).lift
  rintro e w' (⟨v, G', y, H', rfl, hrep, hH, hT, hk, hlen, hpo⟩ | ⟨x, G', H', rfl, hH, hT, hk, hlen, hpo⟩)
  ·exact hpo.elim
  have hl' : up0.length ≤ H'.length := by rw [hlen]; simp
  obtain ⟨U, hU'⟩ : ∃ U, U = H'.take up0.length := ⟨_, rfl⟩
  obtain ⟨O, hO⟩ : ∃ O, O = H'.drop up0.length := ⟨_, rfl⟩
  have e1' : H' = U ++ O := by rw [hU', hO]; exact (List.take_append_drop _ _).symm
  have e2' : U.length = up0.length := by rw [hU']; simp; omega
  subst e1'
  obtain ⟨q1, q2, q3⟩ := hpp x U O f e2' hlen hpo
  have h3 := hr.called hH hT hk rfl e2' (fun o ho => q2 o ho (hr.defsAt o ho)) (q1 (by rw [e2']; exact hr.low))
  exact .inr ⟨_, rfl, _, rfl, _, _, h3, hk.less (Nat.le_succ d), e2', rfl, rfl, rfl, q3⟩
/-- A panic, drawn. -/
theorem Y.panic {x : Operand} {t : TypeId} {vs : List Value} {pn : Nat} (hq : ∀ B : Nat → Bool, B pn = false → ∀ f, KP (Dw (.iface t (.agg vs.toArray))) ⟨sz, f, up B, own B, dfs, rnd⟩) (h : ChainY P d l0 sz up own dfs rnd KP E S l fr)
  (hx : A8 fr x = .iface t (.agg (vs.map .v)) := by exact sL0) :
  ChainY P d l0 sz up own dfs rnd KP E (.s [] (some pn) T F :: S) (⟨none, .panic x, ty, pos, aft, none⟩ :: l) fr := by
 refine ⟨_, l, [], rfl, ⟨rfl, rfl, fun B f _ _ hB hf G a w hr => ?_⟩, h⟩
 have hxr := hr.eval x
 have hev : St.ev ⟨sz, f, up B, own B, dfs, rnd⟩ x = .iface t (.agg (vs.map .v)) := by
  show A8 f x = _
  rw [agr hf (by simp [Op.operands])]; exact hx
 rw [hev] at hxr
 refine ⟨fun _ _ => trivial, ?_⟩
 rw [Oper.semAt_eq _ _ _ (by intro c h; cases h)]
 have he : (execOp a.eval ⟨none, .panic x, ty, pos, aft, none⟩).run P w = .halt (.panic (.iface t (.agg vs.toArray))) w := by
  show ((do let v ← Instr.panic (a.eval x); pure (.value v)) : Sem Next).run P w = _
  rw [M8 hxr]
  rfl
 rw [he]
 exact ⟨_, rfl, G, _, hr, Keep.refl _ _ _, rfl, rfl, rfl, rfl, hq B (hB pn rfl) f⟩
theorem Fj {U O A B : List AObj} (hl : U.length = A.length) (h : U ++ O = A ++ B) : A = U ∧ B = O := List.append_inj h.symm hl.symm
theorem At {U O A B : List AObj} {o : Nat} {x : AObj} (hl : U.length = A.length) (ho : o < A.length) (h : U ++ O = (A ++ B).set o x) : A.set o x = U ∧ B = O := by
 rw [List.set_append_left _ _ ho] at h
 exact List.append_inj h.symm (by simpa using hl.symm)
end
section
variable {P : Program} {d : Nat} {ops : Array Oper}
/-- A call that surely panics. -/
theorem RK.callBad {sz s : Nat} {fr : Nat → AV} {up own : List AObj} {dfs : List Nat} {rnd : Option Nat} {ty : TypeId} {pos : String} {aft : Array Edge} {rest : List Oper} {K : Exit → St → Prop} {f : Operand} {g : FuncId} {xs : List Operand} {ats : Array TypeId} {first caps args : List AV} {pp : Value → List AObj → Prop}
  (hcall : ∀ args w, (callFunc g args).run P w = .ok (.enter g args) w) (h : ACallP P g args (up ++ own) (fun _ _ => False) pp)
  (hpp : ∀ x U O, U.length = up.length → (U ++ O).length = (up ++ own).length → pp x (U ++ O) → ((∀ x ∈ up, ObjLow U.length x) → ∀ x ∈ U, ObjLow U.length x) ∧ (∀ o ∈ dfs, (up ++ own)[o]? = some .defs → (U ++ O)[o]? = some .defs) ∧ K (.panic (Dw x)) ⟨sz, fr, U, O, dfs, rnd⟩)
  (hf : A8 fr f = .fn (.func g) first caps := by exact sL0) (ha : first ++ xs.map (A8 fr) ++ caps = args := by exact sL0) (hs : Nat.blt s sz = true := by rfl) :
  ARunK P d ops (⟨some s, .call ⟨.value f, xs.toArray, ats⟩, ty, pos, aft, none⟩ :: rest) ⟨sz, fr, up, own, dfs, rnd⟩ K := RK.callV hcall h (fun _ _ _ _ _ h => h.elim) hpp hf ha hs
theorem AW.upEq {c : Code} {sz : Nat} {fr : Nat → AV} {up up' own : List AObj} {dfs : List Nat} {rnd : Option Nat} {K : Exit → St → Prop} (e : up = up') (h : AW P d c ⟨sz, fr, up', own, dfs, rnd⟩ K) : AW P d c ⟨sz, fr, up, own, dfs, rnd⟩ K := e ▸ h
end
end Go.SX
namespace Go.SX
variable [GI : GlobInv]
open Classical
section
variable {P : Program} {d : Nat} {st : St} {ty : TypeId} {pos : String} {aft : Array Edge} {gd : Option (Nat × Bool)}
/-- A variable of its own, not laid yet. -/
theorem AOp.allocP {t : TypeId} {z : Value} {k s : Nat} (hz : ∀ w, (zeroValue t).run P w = .ok z w) (hk : z.cells.size = k) (hs : s < st.sz) :
  AOp P d ⟨some s, .alloc t, ty, pos, aft, gd⟩ st (· = st.set s (.cellp k)) := by
 subst hk
 intro G a w h Q'
 let G' : Gh := { G with tag := fun b o => if b = w.heap.size ∧ o < z.cells.size then .tail (.slot d s) else G.tag b o }
 have hfree : ∀ o, G.tag w.heap.size o = .free := fun o => Cx h.tags _ o (Nat.le_refl _)
 have hne : ∀ b o, G.tag b o ≠ .free → ¬ (b = w.heap.size ∧ o < z.cells.size) := fun b o hb hc => by rw [hc.1] at hb; exact hb (hfree o)
 have hkeep : ∀ b o, G.tag b o ≠ .free → G'.tag b o = G.tag b o := fun b o hb => by simp only [G']; rw [if_neg (hne b o hb)]
 have hcell : ∀ b o, G.tag b o ≠ .free → (w.alloc (.cells z.cells t)).cell? ⟨b, o, none⟩ = w.cell? ⟨b, o, none⟩ := fun b o hb => by
  refine World.cell?_alloc_old _ _ _ ?_
  show b ≠ w.heap.size
  rintro rfl
  exact hb (hfree o)
 have T : Turn G w G' (w.alloc (.cells z.cells t)) := by
  refine ⟨fun b o hb => ⟨by rw [hkeep b o (by rw [hb]; simp)]; exact hb, hcell b o (by rw [hb]; simp)⟩, fun b o L hb => by rw [hkeep b o (by rw [hb]; simp)]; exact hb, fun b o i hb => by rw [hkeep b o (by rw [hb]; simp)]; exact hb, Nat.le_refl _, fun o ho => rfl, rfl, rfl, rfl, by simp, Still.alloc _ (fun b o hb => .inl (by simp only [G']; rw [if_neg (by omega)])) (fun i hi => .inl ⟨hi, rfl⟩)⟩
 have h1 : StRel d G' st a (w.alloc (.cells z.cells t)) := by
  refine h.turn (U := st.up) (O := st.own) T ⟨fun i x hx => T.objRel ?_ ?_ (h.heap.obj i x hx) (fun b hb => ?_), h.heap.n, h.heap.inj⟩ rfl h.defsAt ⟨fun b o hb => ?_, fun b o i hb => ?_, fun b o L hb => ?_, h.tags.globKeep T.old⟩ h.low
  ·rw [h.heap.n]; exact (List.getElem?_eq_some_iff.1 hx).1
  ·have := (h.heap.obj i x hx).blt
   show (w.heap.push _)[G.blk i]? = _
   rw [Array.getElem?_push, if_neg (by omega)]
  ·have := hb.lt
   show (w.heap.push _)[b]? = _
   rw [Array.getElem?_push, if_neg (by omega)]
  ·simp only [G'] at hb
   split at hb
   ·rename_i hc
    obtain ⟨rfl, hlt⟩ := hc
    exact ⟨z.cells[o], by rw [World.cell?_alloc_new]; exact Array.getElem?_eq_getElem hlt⟩
   rw [hcell b o hb]
   exact h.tags.ex b o hb
  ·simp only [G'] at hb
   split at hb
   ·cases hb
   rw [World.frozen?_alloc_old]
   ·exact h.tags.obj b o i hb
   show b ≠ w.heap.size
   rintro rfl
   rw [hfree] at hb; cases hb
  simp only [G'] at hb
  split at hb
  ·rename_i hc
   obtain ⟨rfl, hlt⟩ := hc
   exact World.frozen?_alloc_new _ _ _ _
  rw [World.frozen?_alloc_old]
  ·exact h.tags.tail b o L hb
  show b ≠ w.heap.size
  rintro rfl
  rw [hfree] at hb; cases hb
 have hrun : (execOp a.eval (⟨some s, .alloc t, ty, pos, aft, gd⟩ : Oper)).run P w = .ok (.value (.pointer (some ⟨w.heap.size, 0, none⟩))) (w.alloc (.cells z.cells t)) := by
  simp [execOp, Instr.alloc, hz, newVar, newRow]
 refine Ai (by intro c h; cases h) hrun ⟨G', _, h1.put (s := s) (y := .cellp z.cells.size) hs ?_, T.keep d, rfl, rfl, rfl, rfl⟩
 exact .cellp _ _ _ ⟨_, rfl, fun o ho => by simp [G', ho]⟩

/-- It is laid: from now on nobody writes it. -/
theorem AOp.storeP {t : TypeId} {x : Operand} {r k : Nat} {y : AV} (hsz : ∀ w, (sizeOf t).run P w = .ok k w) (hf : st.fr r = .cellp k) (hx : st.ev x = y) (hk : y.cells.length = k) (hk0 : 0 < k) (h1 : y.cells.all AV.one = true) :
  AOp P d ⟨none, .store t (.tmp r) x, ty, pos, aft, gd⟩ st (· = st.set r (.ro y.cells)) := by
 intro G a w h Q'
 have hone : ∀ c ∈ y.cells, c.one = true := fun c hc => List.all_eq_true.1 h1 c hc
 obtain ⟨hc, hcc⟩ := (hx ▸ h.eval x).cells hone
 have hsl := h.slots r
 rw [hf] at hsl
 generalize hv : a.tmps.getD r undef = v at hsl
 cases hsl with
 | cellp l k b ho =>
  obtain ⟨L, hL, ht⟩ := ho
  injection hL with hL
  subst hL
  let us := (a.eval x).cells.toList
  have hul : us.length = k := by simp only [us, Array.length_toList]; omega
  have huone : ∀ u ∈ us, u.oneCell' = true := fun u hu => by
   obtain ⟨j, hj⟩ := List.getElem?_of_mem hu
   have hj' : (a.eval x).cells[j]? = some u := by rw [← Array.getElem?_toList]; exact hj
   have hlt : j < y.cells.length := by rw [← hc]; exact (Array.getElem?_eq_some_iff.1 hj').1
   exact (hcc j _ u (List.getElem?_eq_getElem hlt) hj').one (hone _ (List.getElem_mem hlt))
  have hrun0 := run_storeCells_cells (P := P) b 0 us 0 w (fun j hj => by
    obtain ⟨u, hu⟩ := h.tags.ex b j (by rw [ht j (by omega)]; simp)
    simp only [Nat.add_zero, Nat.zero_add]; rw [hu]; rfl) (fun j hj => by simpa using h.tags.tail _ _ _ (ht j (by omega))) huone
  simp only [Nat.add_zero] at hrun0
  let W := w.setCells b 0 us
  let G' : Gh := { G with tag := fun b' o => if b' = b ∧ o < k then .fix else G.tag b' o }
  have htag : ∀ b' o, G.tag b' o ≠ .tail (.slot d r) → G'.tag b' o = G.tag b' o := fun b' o hb => by
   simp only [G']
   rw [if_neg]
   rintro ⟨rfl, ho⟩
   exact hb (ht o ho)
  have hout : ∀ b' o, ¬ (b' = b ∧ o < k) → W.cell? ⟨b', o, none⟩ = w.cell? ⟨b', o, none⟩ := fun b' o hn =>
   World.cell?_setCells_out _ us 0 w ⟨b', o, none⟩ (fun hb _ => by
    simp only at hb ⊢
    exact .inr (Nat.le_of_not_lt fun h'' => hn ⟨hb, by omega⟩))
  have hcell : ∀ b' o, G.tag b' o ≠ .tail (.slot d r) → W.cell? ⟨b', o, none⟩ = w.cell? ⟨b', o, none⟩ := fun b' o hb => hout b' o (fun hn => hb (by rw [hn.1]; exact ht o hn.2))
  have hnb : ∀ i, i < G.n → G.blk i ≠ b := He h.heap h.tags (ht 0 hk0)
  have hheap : ∀ b', b' ≠ b → W.heap[b']? = w.heap[b']? := fun b' hb => Bq _ _ _ _ _ hb
  have hsize : W.heap.size = w.heap.size := Bp _ _ _ _
  have hstill : Still G w G' W := Still.tags (fun b' hb' => hheap b' (fun e => F8 (ht 0 hk0) (e ▸ hb'))) (Nat.le_of_eq hsize.symm) (fun b' o _ => by
   by_cases hc : b' = b ∧ o < k
   ·exact .inr ⟨_, by rw [hc.1]; exact ht o hc.2⟩
   exact .inl (by simp only [G']; rw [if_neg hc])) (fun i hi => .inl ⟨hi, rfl⟩)
  have hfix : ∀ b' o, G.tag b' o = .fix → G'.tag b' o = .fix ∧ W.cell? ⟨b', o, none⟩ = w.cell? ⟨b', o, none⟩ := fun b' o hb => ⟨by rw [htag b' o (by rw [hb]; simp)]; exact hb, hcell b' o (by rw [hb]; simp)⟩
  have htail : ∀ b' o L, L ≠ .slot d r → G.tag b' o = .tail L → G'.tag b' o = .tail L := fun b' o L hL hb => by
   rw [htag b' o (by rw [hb]; intro e; injection e with e; exact hL e)]; exact hb
  have hobj : ∀ b' o i, G.tag b' o = .obj i → G'.tag b' o = .obj i := fun b' o i hb => by rw [htag b' o (by rw [hb]; simp)]; exact hb
  have hrep : ∀ {l : Option Loc} {z : AV} {u : Value}, l ≠ some (.slot d r) → Rep G w l z u → Rep G' W l z u := fun hl hz =>
   hz.mono (G' := G') hfix (Nat.le_refl _) (fun _ _ => rfl) (fun L hL b' o ht' => htail b' o L (fun e => hl (by rw [hL, e])) ht')
  have hkeep : Keep d G w G' W := ⟨hfix, fun b' o e s he ht' => htail b' o _ (by rintro ⟨⟩; omega) ht', Nat.le_refl _, fun _ _ => rfl, Dj _ _ _ _, Cp _ _ _ _, C7 _ _ _ _, Nat.le_of_eq hsize.symm, hstill⟩
  have hvec : ∀ j u, us[j]? = some u → W.cell? ⟨b, j, none⟩ = some u := fun j u hu => by
   have hj := (List.getElem?_eq_some_iff.1 hu).1
   have hex : ∃ u', w.cell? ⟨b, j, none⟩ = some u' := h.tags.ex b j (by rw [ht j (by omega)]; simp)
   obtain ⟨u', hu'⟩ := hex
   have hbk : ∃ vs e fz, w.heap[b]? = some (.cells vs e fz) := by
    simp only [World.cell?] at hu'
    split at hu'
    ·rename_i vs e fz hb; exact ⟨vs, e, fz, hb⟩
    cases hu'
   obtain ⟨vs, e, fz, hbk⟩ := hbk
   have hlen : 0 + us.length ≤ vs.size := by
    rw [hul, Nat.zero_add]
    rcases Nat.lt_or_ge vs.size k with h' | h'
    ·exfalso
     obtain ⟨u2, hu2⟩ := h.tags.ex b vs.size (by rw [ht _ h']; simp)
     simp [World.cell?, hbk] at hu2
    exact h'
   obtain ⟨vs', b1, b2, b3⟩ := Fp b e fz us 0 w vs hbk hlen
   have b3' := b3 j
   rw [if_pos (by omega)] at b3'
   show (w.setCells b 0 us).cell? ⟨b, j, none⟩ = some u
   simp only [World.cell?, b1]
   rw [b3', Nat.sub_zero]
   exact hu
  have hst : StRel d G' (st.set r (.ro y.cells)) a W := by
   refine ⟨h.size, fun s => ?_, ⟨fun i z hz => ?_, h.heap.n, h.heap.inj⟩, h.defs, h.defsAt, h.defsNodup, h.defsGe, ⟨fun b' o hb => ?_, fun b' o i hb => ?_, fun b' o L hb => ?_, h.tags.globKeep hstill⟩, h.rnd, h.low, h.top⟩
   ·show Rep G' W _ (A5 r (.ro y.cells) st.fr s) _
    unfold A5
    by_cases hs : s = r
    ·subst hs
     rw [if_pos rfl, hv]
     refine .ro _ _ ⟨b, 0, none⟩ (fun j => (a.eval x).cells.getD j undef) rfl hone (fun j c hj => ?_) (fun j c hj => ?_)
     all_goals
      have hlt : j < y.cells.length := (List.getElem?_eq_some_iff.1 hj).1
      have hu : (a.eval x).cells[j]? = some ((a.eval x).cells[j]'(by omega)) := Array.getElem?_eq_getElem _
      have e1 : (a.eval x).cells.getD j undef = (a.eval x).cells[j]'(by omega) := by rw [Array.getD_eq_getD_getElem?, hu]; rfl
      rw [e1]
     ·refine ⟨by simp only [G', Nat.zero_add]; rw [if_pos ⟨trivial, by omega⟩], ?_⟩
      rw [Nat.zero_add]
      exact hvec j _ (by simp only [us]; rw [Array.getElem?_toList]; exact hu)
     exact hrep (by simp) (hcc j c _ hj hu)
    rw [if_neg hs]
    exact hrep (by simp; exact fun e => hs e) (h.slots s)
   ·have hob := h.heap.obj i z hz
    have hi : i < G.n := by rw [h.heap.n]; exact (List.getElem?_eq_some_iff.1 hz).1
    have hb := hheap (G.blk i) (hnb i hi)
    cases z with
    | cells t cs =>
     obtain ⟨vs, a1, a2, a3, a4⟩ := hob
     exact ⟨vs, hb.trans a1, a2, fun j y u p q => hrep (by simp) (a3 j y u p q), fun j hj => hobj _ _ _ (a4 j hj)⟩
    | loop sta pd fr sz ps asg bd df =>
     obtain ⟨fn, tmps, a1, a2, a3, a4⟩ := hob
     exact ⟨fn, tmps, hb.trans a1, a2, fun s => hrep (by simp) (a3 s), a4⟩
    | defs => exact hb.trans hob
    | dead => exact hb.trans hob
    | bld t e bs => exact BldRel.turn hob rfl (fun b' o ho => hobj b' o i ho) hb (fun b' ha => hheap b' (fun e => by
      have := ha.tag h.tags (o := 0) (by rw [e, ht 0 hk0]; simp)
      rw [e, ht 0 hk0] at this; cases this))
    | gone =>
     obtain ⟨vs, t, fz, a1, a2⟩ := hob
     exact ⟨vs, t, fz, hb.trans a1, fun j hj => (hfix _ _ (a2 j hj)).1⟩
   ·by_cases hc : b' = b ∧ o < k
    ·obtain ⟨rfl, ho⟩ := hc
     exact ⟨us[o]'(by omega), hvec o _ (List.getElem?_eq_getElem _)⟩
    rw [hout b' o hc]
    simp only [G', if_neg hc] at hb
    exact h.tags.ex b' o hb
   ·rw [World.frozen?_setCells]
    simp only [G'] at hb
    split at hb
    ·cases hb
    exact h.tags.obj b' o i hb
   rw [World.frozen?_setCells]
   simp only [G'] at hb
   split at hb
   ·cases hb
   exact h.tags.tail b' o L hb
  have hrun : (execOp a.eval (⟨none, .store t (.tmp r) x, ty, pos, aft, gd⟩ : Oper)).run P w = .ok .skip W :=
   C3 hsz (show a.eval (.tmp r) = _ from hv) (by omega) hrun0
  exact Br (by intro c h; cases h) hrun ⟨G', _, hst, hkeep, rfl, rfl, rfl, rfl⟩
end
section
variable {P : Program} {d : Nat} {sz : Nat} {dfs : List Nat} {rnd : Option Nat} {l0 : List Oper} {up own : (Nat → Bool) → List AObj} {KP : List PanicEntry → St → Prop} {E : List Oper → (Nat → AV) → Prop} {S : List SegY} {l : List Oper} {fr : Nat → AV} {ty : TypeId} {pos : String} {aft : Array Edge} {s : Nat} {T F : List Nat}
theorem Y.allocP {t : TypeId} {z : Value} {k : Nat} (hz : ∀ w, (zeroValue t).run P w = .ok z w) (h : ChainY P d l0 sz up own dfs rnd KP E S l (A5 s (.cellp k) fr)) (hk : z.cells.size = k := by rfl) (hs : Nat.blt s sz = true := by rfl) :
  ChainY P d l0 sz up own dfs rnd KP E (.s [s] none T F :: S) (⟨some s, .alloc t, ty, pos, aft, none⟩ :: l) fr := by
 refine ⟨_, l, [(s, .cellp k)], rfl, ⟨rfl, rfl, fun B f _ _ _ hf => .of ?_⟩, h⟩
 exact AOp.allocP (st := ⟨sz, f, up B, own B, dfs, rnd⟩) hz hk (by simpa using hs)
theorem Y.storeP {t : TypeId} {x : Operand} {r k : Nat} {y : AV} {ys : List AV} (hsz : ∀ w, (Go.sizeOf t).run P w = .ok k w) (h : ChainY P d l0 sz up own dfs rnd KP E S l (A5 r (.ro ys) fr))
  (hf : fr r = .cellp k := by exact sL0) (hx : A8 fr x = y := by exact sL0) (hc : y.cells = ys := by exact sL0)
  (hk : ys.length = k := by rfl) (hk0 : 0 < k := by decide) (h1 : ys.all AV.one = true := by exact sL4) :
  ChainY P d l0 sz up own dfs rnd KP E (.s [r] none T F :: S) (⟨none, .store t (.tmp r) x, ty, pos, aft, none⟩ :: l) fr := by
 subst hc
 refine ⟨_, l, [(r, .ro y.cells)], rfl, ⟨rfl, rfl, fun B f _ _ _ hfr => .of ?_⟩, h⟩
 have e : f r = fr r := hfr r (by simp [lk, Pu, Op.operands])
 have ex : A8 f x = y := by rw [agr hfr (by simp [Op.operands])]; exact hx
 exact AOp.storeP (st := ⟨sz, f, up B, own B, dfs, rnd⟩) hsz (e.trans hf) ex hk hk0 h1
end
end Go.SX
