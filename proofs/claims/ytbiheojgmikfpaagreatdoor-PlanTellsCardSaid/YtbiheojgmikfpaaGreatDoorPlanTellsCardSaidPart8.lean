/- Texts on the way to this: PlanTells answers true for whatever it is handed: of any columns and any moves the plan, its text, the plan back and the shadows are what the reference says, or the migration is not sound. (part 8) -/
import Derived.Test.YtbiheojgmikfpaaGreatDoorPlanTellsCardSaidPart7
set_option linter.all false
namespace Go.SX.Nb
open Go Go.SX Go.Proofs
variable [ErrAt]
set_option maxRecDepth 4000
/-- ref27.Make. -/
def Bh (c d : List Col) : List Stp := [⟨1, B2 d c⟩, ⟨2, d⟩, ⟨3, B2 d c⟩, ⟨4, B2 d c⟩, ⟨5, d⟩, ⟨6, B2 c d⟩, ⟨7, []⟩]
/-- plan.Back. -/
def Ml (c : List Col) (l : List Mov) (k : Int) : List Stp × Int := if (Be c l).2.2.2 != 0 then ([], (Be c l).2.2.2) else if decide (k < 1) || decide (3 < k) then ([], 0) else ([⟨7, []⟩, ⟨6, (Be c l).2.2.1⟩], 0)
theorem Po {a b : List Col} (h : B1 a = true) : B1 (B2 a b) = true := by
 obtain ⟨h12, hok, hnd⟩ := Ik (by rw [Dz]; exact h)
 unfold B1
 rw [Bool.and_eq_true]
 have hl := F3 a b
 refine ⟨decide_eq_true (by omega), fc (fun y hy => hok y (List.mem_filter.1 hy).1) ?_⟩
 exact (List.filter_sublist.map _).nodup hnd
theorem bv : B1 ([] : List Col) = true := rfl
theorem Xr {d : List Col} (h : B1 d = true) : Cu d = Ij d := by
 unfold Cu
 rw [Dz, if_pos h]
theorem Vj {c d : List Col} (hc : B1 c = true) (hd : B1 d = true) : ∀ s ∈ Bh c d, B1 s.cols = true ∧ 1 ≤ s.kind ∧ s.kind ≤ 7 ∧ ((s.kind == 2) = true → s.cols = d) := by
 intro s hs
 unfold Bh at hs
 simp only [List.mem_cons, List.mem_nil_iff, or_false] at hs
 have h1 := Po (b := c) hd
 have h2 := Po (b := d) hc
 rcases hs with rfl | rfl | rfl | rfl | rfl | rfl | rfl
 ·exact ⟨h1, (by decide : (1 : Int) ≤ 1), (by decide : (1 : Int) ≤ 7), fun h => absurd (show false = true from h) (by decide)⟩
 ·exact ⟨hd, (by decide : (1 : Int) ≤ 2), (by decide : (2 : Int) ≤ 7), fun _ => rfl⟩
 ·exact ⟨h1, (by decide : (1 : Int) ≤ 3), (by decide : (3 : Int) ≤ 7), fun h => absurd (show false = true from h) (by decide)⟩
 ·exact ⟨h1, (by decide : (1 : Int) ≤ 4), (by decide : (4 : Int) ≤ 7), fun h => absurd (show false = true from h) (by decide)⟩
 ·exact ⟨hd, (by decide : (1 : Int) ≤ 5), (by decide : (5 : Int) ≤ 7), fun _ => rfl⟩
 ·exact ⟨h2, (by decide : (1 : Int) ≤ 6), (by decide : (6 : Int) ≤ 7), fun h => absurd (show false = true from h) (by decide)⟩
 exact ⟨bv, (by decide : (1 : Int) ≤ 7), (by decide : (7 : Int) ≤ 7), fun h => absurd (show false = true from h) (by decide)⟩
/-- The trees forth are right. -/
theorem Mm {c : List Col} {l : List Mov} (hc : B1 c = true) : ∀ k, (∀ j, j < k → ∀ m, l[j]? = some m → ((Bi (colsAt c l j) (Ae c l j) m.ahead).2 != 0) = false) → ∀ e ∈ Ae c l k, Ad e = true
 | 0, _, e, he => by
  obtain ⟨y, hy, rfl⟩ := List.mem_map.1 he
  rw [O9, ← Ca]
  exact ((Ik (by rw [Dz]; exact hc)).2.1 y hy).name
 | k + 1, h, e, he => by
  have ih := Mm (l := l) hc k (fun j hj => h j (by omega))
  rw [Ae] at he
  cases hk : l[k]? with
  | none => rw [hk] at he; exact ih e he
  | some m =>
   rw [hk] at he
   rcases List.mem_append.1 he with he | he
   ·exact ih e (Fz e he)
   exact Kl m.ahead (by simpa using h k (by omega) m hk) e he
theorem Vk {c : List Col} {l : List Mov} (hs : ((Aw c l).2 != 0) = false) : ∀ e ∈ (Ax c l).1, Ad e = true := by
 obtain ⟨hmay, hst, _⟩ := Ea hs
 have hc : B1 c = true := by unfold Gw at hmay; simp only [Bool.and_eq_true] at hmay; exact hmay.1
 have e : Ax c l = Ep c (Jf c) l := if_neg (by rw [hs]; simp)
 have key : ∀ k, k ≤ l.length → (Fo c l k ∧ ∀ j, j < k → ∀ m, l[j]? = some m → ((Bi (colsAt c l j) (Ae c l j) m.ahead).2 != 0) = false) ∨ (∃ z, Ep c (Jf c) l = ([], z)) := by
  intro k
  induction k with
  | zero => exact fun _ => .inl ⟨lu, fun j hj => by omega⟩
  | succ k ih =>
   intro hk
   rcases ih (by omega) with ⟨h1, h2⟩ | h1
   ·have hmk : l[k]? = some l[k] := List.getElem?_eq_getElem (by omega)
    cases he : ((Bi (colsAt c l k) (Ae c l k) l[k].ahead).2 != 0) with
    | true => exact .inr ⟨_, Sp hmk h1 he⟩
    | false =>
     refine .inl ⟨N4 hmk h1 he, fun j hj m hm => ?_⟩
     by_cases e : j = k
     ·subst e
      rw [hmk] at hm
      injection hm with hm
      subst hm
      exact he
     exact h2 j (by omega) m hm
   exact .inr h1
 rcases key l.length (Nat.le_refl _) with ⟨h1, h2⟩ | ⟨z, h1⟩
 ·rw [e, Sq h1]
  exact Mm hc l.length h2
 rw [e, h1]
 exact fun e h => (List.not_mem_nil h).elim
theorem c15 (c t : List Col) (hc : c.length ≤ 1048576) (hd : t.length ≤ 1048576) (Hp : List AObj) : AFun Tryz.prog 15 [A4 c, A4 t] Hp (Fh (Bh c t)) := by
 refine ACall.body [.tmp 4] [0, 1] Tryz.func15 Tryz.ntmps15 (fun d => ?_)
 refine Z75 ?_;refine Z32 ?_;refine R.call Tryz.call13 (c13 c t hc hd _) ?_;refine Z58 ?_;refine R.call Tryz.call13 (c13 t c hd hc _) ?_;refine Z8 ?_;refine R.fin [1, 5, 6] ?_;refine Z0 ?_;refine Z43 ?_;refine Z43 ?_;refine Z43 ?_;refine Z43 ?_;refine iw ?_;refine e8 ?_;refine R.wk 25 _ le7 ?_;refine jd ?_;exact Zo

theorem c10 (c : List Col) (hc : OkCols c) (hc2 : c.length ≤ 1000000) (l : List Mov) (h : OkMovs l) (k : Int) (Hp : List AObj) : AFun Tryz.prog 10 [A4 c, By l, A3 k] Hp (.tup [Fh (Ml c l k).1, A3 (Ml c l k).2]) := by
 refine ACall.body [.tmp 6, .tmp 7] [0, 1, 2] Tryz.func10 Tryz.ntmps10 (fun d => ?_)
 refine Z48 ?_;refine R.fin [0, 1, 2] ?_;refine nw ?_;refine Z60 ?_;refine Z34 ?_;refine Z8 ?_;refine Z8 ?_;refine R.fin [2, 10, 11] ?_;refine Gs ?_;refine R.fin [2, 10, 11, 21] ?_
 refine W.cond (fun ht21 => ?_) (fun ht21 => ?_)
 ·have hm : Ml c l k = ([], (Be c l).2.2.2) := if_pos ht21
  refine Z40 ?_;refine R.nilTmp 6 2 false ?_;refine Z68 ?_;exact Z50
 have hm0 : Ml c l k = if decide (k < 1) || decide (3 < k) then ([], 0) else ([⟨7, []⟩, ⟨6, (Be c l).2.2.1⟩], 0) := if_neg (by rw [ht21]; simp)
 refine Z4 ?_;refine ab ?_;refine Wf ?_;refine R.fin [10, 28] ?_
 refine W.cond (fun ht28 => ?_) (fun ht28 => ?_)
 ·have hm := hm0.trans (if_pos ht28)
  refine Z1 ?_;refine R.nilTmp 6 2 false ?_;refine Z68 ?_;exact Z50
 have hm := hm0.trans (if_neg (by rw [ht28]; simp))
 refine Hz ?_;refine iw ?_;refine R.wk 29 _ le7 ?_;refine R.buildSl jU jS jZ ?_;refine Z8 ?_;refine Z44 ?_;exact k9

theorem c14 (a : List Stp) (ha : ∀ s ∈ a, s.cols.length ≤ 1048576) (hl : a.length ≤ 1048576) (Hp : List AObj) : AFun Tryz.prog 14 [Fh a, Fh a] Hp (Am true) := by
 refine ACall.body [.tmp 4] [0, 1] Tryz.func14 Tryz.ntmps14 (fun d => ?_)
 refine Z75 ?_;refine Z10 ?_;refine R.len jU ?_;refine Z36 ?_;refine R.neq ?_;refine R.fin [0, 1, 10] ?_
 refine W.cond (fun ht10 => ?_) (fun ht10 => ?_)
 ·simp at ht10
 refine Kx ?_;refine Nx ?_
 refine AW.loopC (α := Nat) (fun x => ⟨42, A2 0 (Fh a) (A2 1 (Fh a) (A2 5 (A3 (x : Nat)) (fun _ => .any))), Hp, [], [], none⟩) (fun x => x ≤ a.length) (fun x => a.length - x) (0) (Nat.zero_le _) (StLe.of_eq (by simp)) rfl (fun x hx => ?_)
 refine Z83 ?_;refine R.fin [0, 1, 5, 14] ?_
 refine W.cond (fun ht14 => ?_) (fun ht14 => ?_)
 ·have hlt : x < a.length := by simpa using ht14
  refine Z46 ?_;refine W.draw [0, 0, 3, 7, 15, 0, 0, 96, 224, 480, 1023, 2047, 4095, 4095, 16383, 32767, 65535, 4095, 4095, 397311, 921599, 1970175, 4194303, 8388607, 16777215] 22 Ah (by kernel_rfl) ?_;refine Z54 ?_;refine D.indexAddr (x) (V2 a[x]) jU jS (A9 hlt) ?_;refine np ?_;refine Z54 ?_;refine D.indexAddr (x) (V2 a[x]) jU jS (A9 hlt) ?_;refine np ?_;refine D.neq ?_;refine D.move ?_;refine W9 ?_;refine r6 ?_;refine Hg ?_;refine W9 ?_;refine r6 ?_;refine Hg ?_;refine D.tail ?_;refine G.call Tryz.call29 (fun hB => c29 a[x].cols a[x].cols (ha _ (List.getElem_mem hlt)) _) ?_;refine Np ?_;refine R.fin [0, 1, 5, 41] ?_
  refine W.cond (fun ht41 => ?_) (fun ht41 => ?_)
  ·exfalso
   simp at ht41
  refine Z85 ?_;refine Nx ?_;exact o4
 refine Z47 ?_;refine Jz ?_;exact S3

/-- What the chapter's print of a tree says. -/
def ve (e : Expr) : Prop := ∀ Hp : List AObj, AFun Tryz.prog 32 [A5 e] Hp (A7 (Ac e))
theorem y8 (v : Val) (hp : Cd v = true) (hi : Tz v.n) (Hp : List AObj) : AFun Tryz.prog 53 [am v] Hp (A7 (Dg v)) := by
 by_cases hk : ((v.kind == 0) = false ∧ (v.kind == 1) = false) ∧ (v.kind == 3) = false
 ·obtain ⟨e, hl⟩ := Xk hp hk.1.1 hk.1.2 hk.2
  rw [e, Xl _ hl]
  exact c53 v.s (by omega) Hp
 refine ACall.body [.tmp 2] [0] Tryz.func53 Tryz.ntmps53 (fun d => ?_)
 refine Z89 ?_;refine Kv ?_;refine R.fin [1, 6] ?_;refine Ld ?_;refine R.fin [1, 6, 7] ?_
 refine W.cond (fun ht7 => ?_) (fun ht7 => ?_)
 ·have h0 : v.kind = 0 := by simpa using ht7
  exact re
 refine Z37 ?_;refine R.fin [1, 6, 9] ?_
 refine W.cond (fun ht9 => ?_) (fun ht9 => ?_)
 ·have h1 : v.kind = 1 := by simpa using ht9
  refine Ba ?_;refine j3 ?_;refine R.call Tryz.call75 (c75 v.n hi _) ?_;refine Zy ?_;exact o5
 refine Z37 ?_;refine R.fin [1, 14] ?_
 refine W.cond (fun ht14 => ?_) (fun ht14 => ?_)
 ·have h3 : v.kind = 3 := by simpa using ht14
  refine Z16 ?_;refine j3 ?_;refine R.eql ?_;refine R.fin [18] ?_
  refine W.cond (fun ht18 => ?_) (fun ht18 => ?_)
  ·refine Tp ?_;refine Z5 ?_;exact o5
  refine Z4 ?_;exact re
 exfalso
 simp at hk ht7 ht9 ht14
 exact ht14 (hk ht7 ht9)

theorem c54 (e : Expr) (Hp : List AObj) : AFun Tryz.prog 54 [A5 e] Hp (A3 (L8 e)) := by
 refine ACall.body [.tmp 2] [0] Tryz.func54 Tryz.ntmps54 (fun d => ?_)
 refine Z89 ?_;refine W5 ?_;refine R.fin [1, 5] ?_
 refine W.cond (fun ht5 => ?_) (fun ht5 => ?_)
 ·refine Z67 ?_;exact n4
 refine Z4 ?_;refine W5 ?_;refine R.fin [1, 8] ?_
 refine W.cond (fun ht8 => ?_) (fun ht8 => ?_)
 ·refine Z67 ?_;exact n4
 refine Z4 ?_;refine Kv ?_;refine Mt ?_;refine Z26 ?_;refine G.call Tryz.call76 (fun hB => c76 e.text _) ?_;refine G.geq ?_;refine Hf ?_;refine R.fin [1, 17] ?_
 refine W.cond (fun ht17 => ?_) (fun ht17 => ?_)
 ·have hz : L8 e = Aj e.text := by
   have h := ht17
   simp only [Bool.and_eq_true, beq_iff_eq, decide_eq_true_eq] at h
   simp [L8, h.1, Lz, h.2]
  refine ny ?_;refine Ar ?_;refine Z2 ?_;exact n4
 have hz : L8 e = 7 := by
  have h := ht17
  simp only [Bool.and_eq_false_iff, beq_eq_false_iff_ne, decide_eq_false_iff_not] at h
  rcases h with h | h
  ·simp_all [L8]
  simp_all [L8, Lz]
  intro _ h2
  omega
 refine Z4 ?_;refine Z67 ?_;exact td

theorem c32 : ∀ (n : Nat) (e : Expr), okE n e → sizeE e ≤ 1048576 → Cm Bp e = true → Cm Fu e = true → ve e := by
 intro n
 induction n with
 | zero => exact fun e h => h.elim
 | succ n ih =>
 intro e hok hsz hnd hrg Hp
 have hlen := M1 _ e (Nat.le_refl _) hnd hrg
 have hnd0 := hnd
 have hrg0 := hrg
 rw [Cp, Bool.and_eq_true] at hnd0 hrg0
 have hkn : ∀ y ∈ e.kids, Cm Bp y = true := fun y hy => (Cg _ _).1 hnd0.2 y hy
 have hky : ∀ y ∈ e.kids, sizeE y ≤ 1048576 := fun y hy => by
  obtain ⟨i, hi⟩ := List.getElem?_of_mem hy
  obtain ⟨hlt, rfl⟩ := List.getElem?_eq_some_iff.1 hi
  have := O5 e hlt
  omega
 have hev : ∀ y ∈ e.kids, ve y := fun y hy => ih y (hok.2.2 y hy) (hky y hy) (hkn y hy) ((Cg _ _).1 hrg0.2 y hy)
 have hnn : ∀ y ∈ e.kids, Bp y = true := fun y hy => by have := hkn y hy; rw [Cp, Bool.and_eq_true] at this; exact this.1
 have hlv : ∀ y ∈ e.kids, L8 y = (levE y : Int) := fun y hy => N2 (hnn y hy)
 obtain ⟨k5, k34, k6, kall⟩ := V4 hnd0.1
 have hi64 : Tz e.val.n := by
  have := hrg0.1
  simp only [Fu, Bool.and_eq_true, decide_eq_true_eq] at this
  exact this
 have hlv0 := N2 hnd0.1
 have pe := R9 e
 unfold Jp at pe
 refine ACall.body [.tmp 2] [0] Tryz.func32 Tryz.ntmps32 (fun d => ?_)
 refine Z89 ?_;refine Kv ?_;refine R.fin [1, 13] ?_;refine Ld ?_;refine R.fin [1, 13, 14] ?_
 refine W.cond (fun ht14 => ?_) (fun ht14 => ?_)
 ·rw [if_pos ht14] at pe
  have hpl : Cd e.val = true := by
   have h := hnd0.1
   rw [Ii] at h
   unfold D5 at h
   rw [if_pos ht14] at h
   simp only [Bool.and_eq_true] at h
   exact h.1.1.1
  refine Ba ?_;refine cv ?_;refine R.call Tryz.call53 (y8 e.val hpl hi64 _) ?_;exact Pv
 rw [if_neg (by rw [ht14]; simp)] at pe
 refine Z37 ?_;refine R.fin [1, 13, 19] ?_
 refine W.cond (fun ht19 => ?_) (fun ht19 => ?_)
 ·rw [if_pos ht19] at pe
  refine Jy ?_;exact Pv
 rw [if_neg (by rw [ht19]; simp)] at pe
 refine Z37 ?_;refine R.fin [1, 13, 23] ?_
 refine W.cond (fun ht23 => ?_) (fun ht23 => ?_)
 ·rw [if_pos ht23] at pe
  have hkl := k34 (.inl (by simpa using ht23))
  rw [V5 (by omega)] at pe
  rw [pe] at hlen
  simp only [List.length_cons] at hlen
  have hm3 := hnn _ (Fv (k := e.kids) (i := 0) (by omega)).2.1
  refine Ba ?_;refine Zr ?_;refine sb ?_;refine R.fin [1, 3] ?_;refine Z16 ?_;refine Z62 ?_;refine Z9 ?_;refine Mt ?_;refine n7 ?_;refine j2 ?_;refine G.eql ?_;refine R.pickOr ?_;refine R.fin [3, 43] ?_
  refine W.cond (fun ht43 => ?_) (fun ht43 => ?_)
  ·have hbk : ¬ 6 ≤ levE (e.kids.getD 0 A8) := by
    have h := ht43
    rw [v7] at h
    simpa using h
   rw [Pa hbk] at pe hlen
   simp only [List.length_append, List.length_cons, List.length_nil] at hlen
   refine Z7 ?_
   refine R.sadd (hl := by simp only [List.length_append, List.length_cons, List.length_nil, List.length_drop] at *; omega) ?_
   refine R.sadd (hl := by simp only [List.length_append, List.length_cons, List.length_nil, List.length_drop] at *; omega) ?_
   refine Ar ?_;refine R.fin [3] ?_;refine Tq ?_
   refine R.sadd (hl := by simp only [List.length_append, List.length_cons, List.length_nil, List.length_drop] at *; omega) ?_
   exact Pv
  have hbk : 6 ≤ levE (e.kids.getD 0 A8) := by
   have h := ht43
   rw [v7] at h
   simpa using h
  rw [P9 hbk] at pe hlen
  refine Z96 ?_
  refine R.sadd (hl := by simp only [List.length_append, List.length_cons, List.length_nil, List.length_drop] at *; omega) ?_
  exact Pv
 rw [if_neg (by rw [ht23]; simp)] at pe
 refine Z37 ?_;refine R.fin [1, 13, 49] ?_
 refine W.cond (fun ht49 => ?_) (fun ht49 => ?_)
 ·rw [if_pos ht49] at pe
  have hkl := k34 (.inr (by simpa using ht49))
  rw [V5 (by omega)] at pe
  rw [pe] at hlen
  simp only [List.length_cons, List.length_append, Ul, List.length_nil] at hlen
  have hm3 := hnn _ (Fv (k := e.kids) (i := 0) (by omega)).2.1
  refine Ba ?_;refine Zr ?_;refine sb ?_;refine R.fin [1, 4] ?_;refine Z16 ?_;refine Z62 ?_;refine Z9 ?_;refine Mt ?_;refine n7 ?_;refine Lf ?_;refine G.move ?_;refine n7 ?_;refine Lf ?_;refine G.pickOr ?_;refine Hf ?_;refine R.fin [4, 77] ?_
  refine W.cond (fun ht77 => ?_) (fun ht77 => ?_)
  ·have hbk : ¬ 2 ≤ levE (e.kids.getD 0 A8) := by
    have h := ht77
    rw [v8 hm3] at h
    simpa using h
   rw [Pa hbk] at pe hlen
   simp only [List.length_append, List.length_cons, List.length_nil] at hlen
   refine Z7 ?_
   refine R.sadd (hl := by simp only [List.length_append, List.length_cons, List.length_nil, List.length_drop] at *; omega) ?_
   refine R.sadd (hl := by simp only [List.length_append, List.length_cons, List.length_nil, List.length_drop] at *; omega) ?_
   refine Ar ?_;refine R.fin [4] ?_;refine Tq ?_
   refine R.sadd (hl := by simp only [List.length_append, List.length_cons, List.length_nil, List.length_drop] at *; omega) ?_
   exact Pv
  have hbk : 2 ≤ levE (e.kids.getD 0 A8) := by
   have h := ht77
   rw [v8 hm3] at h
   simpa using h
  rw [P9 hbk] at pe hlen
  refine Z96 ?_
  refine R.sadd (hl := by simp only [List.length_append, List.length_cons, List.length_nil, List.length_drop] at *; omega) ?_
  exact Pv
 rw [if_neg (by rw [ht49]; simp)] at pe
 refine Z37 ?_;refine R.fin [1, 83] ?_
 refine W.cond (fun ht83 => ?_) (fun ht83 => ?_)
 ·rw [if_pos ht83] at pe
  have h5 : e.op = 5 := by simpa using ht83
  have hkl := k5 h5
  have hlv5 : levE e = (Aj e.text).toNat := by simp [levE, h5]
  have hl5 := Om e.text
  rw [V5 (by omega), V5 (by omega)] at pe
  rw [← hlv5] at pe
  rw [pe] at hlen
  simp only [List.length_cons, List.length_append] at hlen
  have hla := hlv _ (Fv (k := e.kids) (i := 0) (by omega)).2.1
  have hlb := hlv _ (Fv (k := e.kids) (i := 1) (by omega)).2.1
  refine W.draw [0, 1, 0, 4, 12, 28, 63, 0, 128, 384, 896, 2047, 4095, 8191, 16383] 11 Ah (by kernel_rfl) ?_;refine Pz ?_;refine D.call Tryz.call54 (c54 e _) ?_;refine Z99 ?_;refine rp ?_;refine D.call Tryz.call54 (c54 (e.kids.getD 0 A8) _) ?_;refine Z99 ?_;refine sg ?_;refine R.call Tryz.call54 (c54 (e.kids.getD 1 A8) _) ?_;refine Z8 ?_;refine Ar ?_;refine R.fin [1, 5, 6, 7] ?_;refine W.draw [0, 1, 3, 7, 15, 0, 32, 96, 224, 511, 1023, 2047] 9 Ah (by kernel_rfl) ?_;refine Z99 ?_;refine rp ?_;refine D.call Tryz.call32 (hev (e.kids.getD 0 A8) (Fv (by omega)).2.1 _) ?_;refine Z99 ?_;refine sg ?_;refine R.call Tryz.call32 (hev (e.kids.getD 1 A8) (Fv (by omega)).2.1 _) ?_;refine Z8 ?_;refine R.fin [1, 5, 6, 7, 8, 9] ?_;refine Nq ?_;refine R.lss ?_;refine Z14 ?_;refine G.eql ?_;refine Wa ?_;refine G.eql ?_;refine G.pickAnd ?_;refine R.pickOr ?_
  refine R.fin [1, 5, 7, 8, 9, 117] ?_
  refine W.cond (fun ht117 => ?_) (fun ht117 => ?_)
  ·have hbk : ¬ Dj (levE e) ≤ levE (e.kids.getD 0 A8) := by
    have h := ht117
    rw [hlv0, hla] at h
    simp only [Bool.or_eq_true, Bool.and_eq_true, decide_eq_true_eq, beq_iff_eq] at h
    unfold Dj
    split <;> omega
   rw [Pa hbk] at pe hlen
   simp only [List.length_append, List.length_cons, List.length_nil] at hlen
   refine Z7 ?_
   refine R.sadd (hl := by simp only [List.length_append, List.length_cons, List.length_nil, List.length_drop] at *; omega) ?_
   refine R.sadd (hl := by simp only [List.length_append, List.length_cons, List.length_nil, List.length_drop] at *; omega) ?_
   refine Ar ?_;refine R.fin [1, 5, 7, 8, 9] ?_;refine K.thN ?_;refine Nq ?_;refine R.leq ?_;refine R.fin [1, 8, 9, 123] ?_
   refine W.cond (fun ht123 => ?_) (fun ht123 => ?_)
   ·have hbk2 : ¬ levE e + 1 ≤ levE (e.kids.getD 1 A8) := by
     have h := ht123
     rw [hlv0, hlb] at h
     simp only [decide_eq_true_eq] at h
     omega
    rw [Pa hbk2] at pe hlen
    simp only [List.length_append, List.length_cons, List.length_nil] at hlen
    refine Z7 ?_
    refine R.sadd (hl := by simp only [List.length_append, List.length_cons, List.length_nil, List.length_drop] at *; omega) ?_
    refine R.sadd (hl := by simp only [List.length_append, List.length_cons, List.length_nil, List.length_drop] at *; omega) ?_
    refine Ar ?_;refine R.fin [1, 8, 9] ?_;refine Tq ?_
    refine R.sadd (hl := by simp only [List.length_append, List.length_cons, List.length_nil, List.length_drop] at *; omega) ?_
    refine Z24 ?_
    refine R.sadd (hl := by simp only [List.length_append, List.length_cons, List.length_nil, List.length_drop] at *; omega) ?_
    refine R.sadd (hl := by simp only [List.length_append, List.length_cons, List.length_nil, List.length_drop] at *; omega) ?_
    refine Av ?_
    refine R.sadd (hl := by simp only [List.length_append, List.length_cons, List.length_nil, List.length_drop] at *; omega) ?_
    exact Pv
   have hbk2 : levE e + 1 ≤ levE (e.kids.getD 1 A8) := by
    have h := ht123
    rw [hlv0, hlb] at h
    simp only [decide_eq_false_iff_not] at h
    omega
   rw [P9 hbk2] at pe hlen
   refine Z96 ?_
   refine R.sadd (hl := by simp only [List.length_append, List.length_cons, List.length_nil, List.length_drop] at *; omega) ?_
   refine Z24 ?_
   refine R.sadd (hl := by simp only [List.length_append, List.length_cons, List.length_nil, List.length_drop] at *; omega) ?_
   refine R.sadd (hl := by simp only [List.length_append, List.length_cons, List.length_nil, List.length_drop] at *; omega) ?_
   refine Av ?_
   refine R.sadd (hl := by simp only [List.length_append, List.length_cons, List.length_nil, List.length_drop] at *; omega) ?_
   exact Pv
  have hbk : Dj (levE e) ≤ levE (e.kids.getD 0 A8) := by
   have h := ht117
   rw [hlv0, hla] at h
   simp only [Bool.or_eq_false_iff, Bool.and_eq_false_iff, decide_eq_false_iff_not, beq_eq_false_iff_ne] at h
   unfold Dj
   split <;> omega
  rw [P9 hbk] at pe hlen
  refine Z4 ?_;refine Nq ?_;refine R.leq ?_;refine R.fin [1, 8, 9, 123] ?_
  refine W.cond (fun ht123 => ?_) (fun ht123 => ?_)
  ·have hbk2 : ¬ levE e + 1 ≤ levE (e.kids.getD 1 A8) := by
    have h := ht123
    rw [hlv0, hlb] at h
    simp only [decide_eq_true_eq] at h
    omega
   rw [Pa hbk2] at pe hlen
   simp only [List.length_append, List.length_cons, List.length_nil] at hlen
   refine Z7 ?_
   refine R.sadd (hl := by simp only [List.length_append, List.length_cons, List.length_nil, List.length_drop] at *; omega) ?_
   refine R.sadd (hl := by simp only [List.length_append, List.length_cons, List.length_nil, List.length_drop] at *; omega) ?_
   refine Ar ?_;refine R.fin [1, 8, 9] ?_;refine Tq ?_
   refine R.sadd (hl := by simp only [List.length_append, List.length_cons, List.length_nil, List.length_drop] at *; omega) ?_
   refine Z24 ?_
   refine R.sadd (hl := by simp only [List.length_append, List.length_cons, List.length_nil, List.length_drop] at *; omega) ?_
   refine R.sadd (hl := by simp only [List.length_append, List.length_cons, List.length_nil, List.length_drop] at *; omega) ?_
   refine Av ?_
   refine R.sadd (hl := by simp only [List.length_append, List.length_cons, List.length_nil, List.length_drop] at *; omega) ?_
   exact Pv
  have hbk2 : levE e + 1 ≤ levE (e.kids.getD 1 A8) := by
   have h := ht123
   rw [hlv0, hlb] at h
   simp only [decide_eq_false_iff_not] at h
   omega
  rw [P9 hbk2] at pe hlen
  refine Z96 ?_
  refine R.sadd (hl := by simp only [List.length_append, List.length_cons, List.length_nil, List.length_drop] at *; omega) ?_
  refine Z24 ?_
  refine R.sadd (hl := by simp only [List.length_append, List.length_cons, List.length_nil, List.length_drop] at *; omega) ?_
  refine R.sadd (hl := by simp only [List.length_append, List.length_cons, List.length_nil, List.length_drop] at *; omega) ?_
  refine Av ?_
  refine R.sadd (hl := by simp only [List.length_append, List.length_cons, List.length_nil, List.length_drop] at *; omega) ?_
  exact Pv
 rw [if_neg (by rw [ht83]; simp)] at pe
 have hsl : ∀ x, ((Du ((e.kids.take x).map Ac)).drop 2).length ≤ ((Du (e.kids.map Ac)).drop 2).length := fun x => by have := gi (k := e.kids) x; rw [List.length_drop, List.length_drop]; omega
 have hkl6 := hok.2.1
 rw [pe] at hlen
 simp only [List.length_cons, List.length_append, List.length_nil] at hlen
 refine Z18 ?_;refine Jy ?_
 refine R.sadd (hl := by simp only [List.length_append, List.length_cons, List.length_nil, List.length_drop] at *; omega) ?_
 refine Ar ?_;refine R.fin [1, 10] ?_;refine Z52 ?_;refine R.fin [1, 10, 11] ?_
 refine AW.loopC (α := Nat) (fun x => ⟨159, A2 1 (.ro (Cx e)) (A2 10 (A7 (e.text ++ [40] ++ (Du ((e.kids.take x).map Ac)).drop 2)) (A2 11 (A3 (x : Nat)) (fun _ => .any))), Hp, [], [], none⟩) (fun x => x ≤ e.kids.length) (fun x => e.kids.length - x) (0) (Nat.zero_le _) (StLe.of_eq (by simp [Du])) rfl (fun x hx => ?_)
 refine Wd ?_;refine R.fin [1, 10, 11, 142] ?_
 refine W.cond (fun ht142 => ?_) (fun ht142 => ?_)
 ·have hlt : x < e.kids.length := by simpa using ht142
  have hst := V6 hlt
  have hsl1 := hsl (x + 1)
  have hslx := hsl x
  refine Z46 ?_;refine Z10 ?_;refine R.gtr ?_;refine R.fin [1, 10, 11, 146] ?_
  refine W.cond (fun ht146 => ?_) (fun ht146 => ?_)
  ·have h0x : 0 < x := by simpa using ht146
   rw [if_pos h0x] at hst
   have hstl := congrArg List.length hst
   simp only [List.length_append, List.length_cons, List.length_nil] at hstl
   refine Z7 ?_
   refine R.sadd (hl := by simp only [List.length_append, List.length_cons, List.length_nil, List.length_drop] at *; omega) ?_
   refine Ar ?_;refine R.fin [1, 10, 11] ?_;refine K.thN ?_;refine Z7 ?_;refine ae ?_;refine R.call Tryz.call32 (hev _ (List.getElem_mem hlt) _) ?_
   refine R.sadd (hl := by simp only [List.length_append, List.length_cons, List.length_nil, List.length_drop] at *; omega) ?_
   refine Ar ?_;refine R.fin [1, 10, 11] ?_;refine Z90 ?_;exact qf
  have h0x : ¬ 0 < x := by simpa using ht146
  rw [if_neg h0x] at hst
  have hstl := congrArg List.length hst
  simp only [List.length_append, List.length_cons, List.length_nil] at hstl
  refine Z4 ?_;refine Z7 ?_;refine ae ?_;refine R.call Tryz.call32 (hev _ (List.getElem_mem hlt) _) ?_
  refine R.sadd (hl := by simp only [List.length_append, List.length_cons, List.length_nil, List.length_drop] at *; omega) ?_
  refine Ar ?_;refine R.fin [1, 10, 11] ?_;refine Z90 ?_;exact qf
 have hxe : e.kids.take x = e.kids := List.take_of_length_le (by simp at ht142; omega)
 have hslx := hsl x
 refine Ts ?_
 refine R.sadd (hl := by simp only [List.length_append, List.length_cons, List.length_nil, List.length_drop] at *; omega) ?_
 refine Ar ?_;refine Z2 ?_;exact tf

/-- Slices' elements are in their own order: the text so far. -/
def Ir (F : List Expr × Int) (s : Stp) (j : Nat) : Str := if s.kind == 2 then Dk F s.cols j else []
theorem m4 (F : List Expr × Int) (s : Stp) : Ir F s 0 = [] := by
 unfold Ir
 split <;> rfl
theorem ie {F : List Expr × Int} {s : Stp} {j : Nat} {y : Col} (h : (s.kind == 2) = true) (hy : s.cols[j]? = some y) : Ir F s (j + 1) = Ir F s j ++ L9 F j y := by
 unfold Ir
 rw [if_pos h, if_pos h, Vc hy]
theorem m5 {F : List Expr × Int} {s : Stp} {j : Nat} (h : (s.kind == 2) = true → j = s.cols.length) : Jq F s = ((B5 s.kind ++ E2 s.cols) ++ [10]) ++ Ir F s j := by
 unfold Jq Ir
 cases h2 : (s.kind == 2) with
 | true => rw [h h2]
 | false => rfl
theorem m6 {k : Int} (h1 : 1 ≤ k) (h7 : k ≤ 7) : B5 k = stepNames.getD k.toNat [] ∧ ([[], [101, 120, 112, 97, 110, 100], [116, 114, 105, 103, 103, 101, 114], [99, 111, 112, 121], [118, 101, 114, 105, 102, 121], [99, 117, 116], [99, 111, 110, 116, 114, 97, 99, 116], [114, 101, 108, 101, 97, 115, 101]].map A7)[k.toNat]? = some (A7 (B5 k)) := by
 have hm : B5 k = stepNames.getD k.toNat [] := if_neg (by simp; omega)
 refine ⟨hm, ?_⟩
 have hlt : k.toNat < stepNames.length := by show k.toNat < 8; omega
 rw [hm]
 show (stepNames.map A7)[k.toNat]? = _
 rw [List.getElem?_map, List.getElem?_eq_getElem hlt, List.getD_eq_getElem?_getD, List.getElem?_eq_getElem hlt]
 rfl
theorem bw {e : Expr} (h : Ad e = true) : Gr e = if decide ((4000 : Int) < ((Ac e).length : Int)) then ([], 3) else (Ac e, 0) := by
 unfold Gr
 rw [h]
 rfl
theorem c16 (c : List Col) (hc : OkCols c) (l : List Mov) (h : OkMovs l) (hS : ((Aw c l).2 != 0) = false) (t : List Col) (ht : t = (Ao c l).1) (F : List Expr × Int) (hF : Ax c l = F) (Hp : List AObj) : AFun Tryz.prog 16 [A4 c, A4 t, By l] Hp (A7 (Bm F (Bh c t) 7)) := by
 have hrc : B1 c = true := by
  obtain ⟨hmay, _, _⟩ := Ea hS
  unfold Gw at hmay
  simp only [Bool.and_eq_true] at hmay
  exact hmay.1
 have hrt : B1 t = true := by rw [ht, J8 hS]; exact Hq hrc (Ea hS).2.1 _
 have htk : OkCols t := by rw [ht]; exact Ip hc h
 have hpr := Vj hrc hrt
 have hpo : ∀ s ∈ Bh c t, OkCols s.cols := fun s hs => by
  obtain ⟨h12, hok, _⟩ := Ik (by rw [Dz]; exact (hpr s hs).1)
  exact ⟨by omega, fun y hy => by have := Pn ((Ca _).symm.trans (hok y hy).name); omega⟩
 obtain ⟨hF1, hF2⟩ := Pg hc h hS
 have hFr := Vk hS
 rw [hF] at hF1 hF2 hFr
 rw [← ht] at hF2
 refine ACall.body [.tmp 6] [0, 1, 2] Tryz.func16 Tryz.ntmps16 (fun d => ?_)
 refine Z1 ?_;refine R.fin [0, 1, 2] ?_;refine Ba ?_;refine jd ?_;refine R.fin [0, 1, 2, 7] ?_;refine Z1 ?_;refine R.fin [0, 1, 2, 7, 8] ?_;refine Z32 ?_;refine R.call Tryz.call15 (c15 c t hc.1 htk.1 _) ?_;refine Ar ?_;refine R.fin [0, 1, 2, 7, 8, 9] ?_;refine Z32 ?_;refine R.call Tryz.call30 (c30 c hc l h hS _) ?_
 rw [hF]
 refine Fc ?_;refine R.fin [1, 7, 8, 9, 10, 11] ?_;refine Z52 ?_;refine R.fin [1, 7, 8, 9, 10, 11, 12] ?_
 refine AW.loopC (α := Nat) (fun k => ⟨96, A2 1 (A4 t) (A2 7 ((.slice false 1 ([[], [101, 120, 112, 97, 110, 100], [116, 114, 105, 103, 103, 101, 114], [99, 111, 112, 121], [118, 101, 114, 105, 102, 121], [99, 117, 116], [99, 111, 110, 116, 114, 97, 99, 116], [114, 101, 108, 101, 97, 115, 101]].map A7))) (A2 8 (A7 (Bm F (Bh c t) k)) (A2 9 (Fh (Bh c t)) (A2 10 (Az F.1) (A2 11 (A3 F.2) (A2 12 (A3 (k : Nat)) (fun _ => .any))))))), Hp, [], [], none⟩) (fun k => k ≤ 7) (fun k => 7 - k) (0) (Nat.zero_le _) (StLe.of_eq rfl) rfl (fun k hk => ?_)
 refine Z83 ?_;refine R.fin [1, 7, 8, 9, 10, 11, 12, 28] ?_
 refine W.cond (fun ht28 => ?_) (fun ht28 => ?_)
 ·have hlt : k < (Bh c t).length := by simpa using ht28
  refine Jc ?_;refine Z58 ?_;refine o6 ?_;refine Z9 ?_
  obtain ⟨hcr, hk1, hk7, hk2⟩ := hpr _ (List.getElem_mem hlt)
  have hso : OkCols (Bh c t)[k].cols := hpo _ (List.getElem_mem hlt)
  have hstl : (Bm F (Bh c t) k).length ≤ 8000000000000 := by have := Kf (t := F) hpo k; have h7 : k < 7 := hlt; omega
  have hnl := Dv (Bh c t)[k].kind
  have hcl := G4 hso
  have hsl := Gj hso
  have hon := Vd (t := F) (List.getElem?_eq_getElem hlt)
  have hsp := Xr hcr
  refine R.indexAddr (((Bh c t)[k].kind.toNat)) (A7 (B5 (Bh c t)[k].kind)) jU jS (m6 hk1 hk7).2 ?_;refine Dw ?_
  refine R.sadd (hl := by (try simp only [List.length_append, List.length_cons, List.length_nil]); omega) ?_
  refine nx ?_
  refine W.join ⟨96, A2 1 (A4 t) (A2 7 ((.slice false 1 ([[], [101, 120, 112, 97, 110, 100], [116, 114, 105, 103, 103, 101, 114], [99, 111, 112, 121], [118, 101, 114, 105, 102, 121], [99, 117, 116], [99, 111, 110, 116, 114, 97, 99, 116], [114, 101, 108, 101, 97, 115, 101]].map A7))) (A2 8 (A7 (Bm F (Bh c t) k ++ B5 (Bh c t)[k].kind ++ E2 (Bh c t)[k].cols)) (A2 9 (Fh (Bh c t)) (A2 10 (Az F.1) (A2 11 (A3 F.2) (A2 12 (A3 (k : Nat)) (fun _ => .any))))))), Hp, [], [], none⟩ ?_ ?_
  ·refine Z32 ?_;refine qz ?_;refine Dw ?_;refine Px ?_;refine R.fin [1, 7, 8, 9, 10, 11, 12, 47] ?_
   refine W.cond (fun ht47 => ?_) (fun ht47 => ?_)
   ·rw [List.length_map] at ht47
    have hcw : E2 (Bh c t)[k].cols = [32] ++ Cu (Bh c t)[k].cols := if_pos ht47
    refine Z7 ?_
    refine R.sadd (hl := by (try simp only [List.length_append, List.length_cons, List.length_nil]); omega) ?_
    refine Z58 ?_;refine qz ?_;refine Dw ?_;refine R.call Tryz.call31 (c31 (Bh c t)[k].cols hso _) ?_
    rw [← hsp]
    refine R.sadd (hl := by (try simp only [List.length_append, List.length_cons, List.length_nil]); omega) ?_
    refine nx ?_;exact qq
   rw [List.length_map] at ht47
   have hcw : E2 (Bh c t)[k].cols = [] := if_neg (by rw [ht47]; simp)
   refine W.keep [1, 7, 8, 9, 10, 11, 12] ?_;refine AW.skip ?_;exact qq
  refine Z0 ?_
  refine R.sadd (hl := by (try simp only [List.length_append, List.length_cons, List.length_nil]); omega) ?_
  refine nx ?_;refine Z1 ?_;refine R.fin [1, 7, 8, 9, 10, 11, 12, 13] ?_
  refine AW.loopC (α := Nat) (fun j => ⟨96, A2 1 (A4 t) (A2 7 ((.slice false 1 ([[], [101, 120, 112, 97, 110, 100], [116, 114, 105, 103, 103, 101, 114], [99, 111, 112, 121], [118, 101, 114, 105, 102, 121], [99, 117, 116], [99, 111, 110, 116, 114, 97, 99, 116], [114, 101, 108, 101, 97, 115, 101]].map A7))) (A2 8 (A7 (Bm F (Bh c t) k ++ B5 (Bh c t)[k].kind ++ E2 (Bh c t)[k].cols ++ [10] ++ Ir F (Bh c t)[k] j)) (A2 9 (Fh (Bh c t)) (A2 10 (Az F.1) (A2 11 (A3 F.2) (A2 12 (A3 (k : Nat)) (A2 13 (A3 (j : Nat)) (fun _ => .any)))))))), Hp, [], [], none⟩) (fun j => j ≤ t.length) (fun j => t.length - j) (0) (Nat.zero_le _) (StLe.of_eq (by rw [m4]; simp)) rfl (fun j hj => ?_)
  refine Nq ?_;refine o6 ?_;refine Z9 ?_;refine R.eql ?_;refine Z97 ?_;refine G.len jU ?_;refine G.lss ?_;refine Hf ?_;refine R.fin [1, 7, 8, 9, 10, 11, 12, 13, 70] ?_
  refine W.cond (fun ht70 => ?_) (fun ht70 => ?_)
  ·have hk22 : ((Bh c t)[k].kind == 2) = true := by simp only [Bool.and_eq_true] at ht70; exact ht70.1
   have hlj : j < t.length := by simp only [Bool.and_eq_true, List.length_map, decide_eq_true_eq] at ht70; omega
   have hkl := M4 (t := F) (d := (Bh c t)[k].cols) (k := j) hso (by rw [hk2 hk22]; omega)
   have hkpl : (Ir F (Bh c t)[k] j).length ≤ 1103800000000 := by unfold Ir; rw [if_pos hk22]; exact hkl
   have htl := M3 F j
   have hnm := htk.2 t[j] (List.getElem_mem hlj)
   have hkon := ie (F := F) hk22 (show (Bh c t)[k].cols[j]? = some t[j] by rw [hk2 hk22]; exact List.getElem?_eq_getElem hlj)
   have htop := htk.1
   refine Z46 ?_;refine Z1 ?_;refine R.fin [1, 7, 8, 9, 10, 11, 12, 13, 14] ?_
   refine W.join ⟨96, A2 1 (A4 t) (A2 7 ((.slice false 1 ([[], [101, 120, 112, 97, 110, 100], [116, 114, 105, 103, 103, 101, 114], [99, 111, 112, 121], [118, 101, 114, 105, 102, 121], [99, 117, 116], [99, 111, 110, 116, 114, 97, 99, 116], [114, 101, 108, 101, 97, 115, 101]].map A7))) (A2 8 (A7 (Bm F (Bh c t) k ++ B5 (Bh c t)[k].kind ++ E2 (Bh c t)[k].cols ++ [10] ++ Ir F (Bh c t)[k] j)) (A2 9 (Fh (Bh c t)) (A2 10 (Az F.1) (A2 11 (A3 F.2) (A2 12 (A3 (k : Nat)) (A2 13 (A3 (j : Nat)) (A2 14 (A7 (Gi F j)) (fun _ => .any))))))))), Hp, [], [], none⟩ ?_ ?_
   ·refine K1 ?_;refine R.fin [1, 7, 8, 9, 10, 11, 12, 13, 14, 74] ?_
    refine W.cond (fun ht74 => ?_) (fun ht74 => ?_)
    ·have hle : j < F.1.length := by rw [hF2 (by simpa using ht74)]; exact hlj
     have hge : F.1.getD j A8 = F.1[j] := by rw [List.getD_eq_getElem?_getD, List.getElem?_eq_getElem hle]; rfl
     have hrj : Aa F.1[j] = true := by rw [← Bx]; exact hFr _ (List.getElem_mem hle)
     have hsw := bw (hFr _ (List.getElem_mem hle))
     refine Z32 ?_;refine R.indexAddr (j) (A5 F.1[j]) jU jS (A9 hle) ?_;refine Ek ?_
     refine R.call Tryz.call32 (c32 61 F.1[j] (hF1.ok _ (List.getElem_mem hle)) (by have := (F4 hrj).2; omega) (Dc hrj) (hF1.rng _ (List.getElem_mem hle)) _) ?_
     refine Ar ?_;refine R.fin [1, 7, 8, 9, 10, 11, 12, 13, 14] ?_;refine Z0 ?_;refine R.slen jU ?_;refine R.gtr ?_;refine R.fin [1, 7, 8, 9, 10, 11, 12, 13, 14, 82] ?_
     refine W.cond (fun ht82 => ?_) (fun ht82 => ?_)
     ·have hs1 : Gi F j = [63] := by unfold Gi; rw [if_pos ht74, hge, hsw.trans (if_pos ht82)]; rfl
      refine di ?_;refine R.fin [1, 7, 8, 9, 10, 11, 12, 13, 14] ?_;exact my
     have hs1 : Gi F j = Ac F.1[j] := by unfold Gi; rw [if_pos ht74, hge, hsw.trans (if_neg (by rw [ht82]; simp))]; rfl
     exact rz
    have hs1 : Gi F j = [63] := if_neg (by rw [ht74]; simp)
    exact rz
   refine Z7 ?_
   refine R.sadd (hl := by (try simp only [List.length_append, List.length_cons, List.length_nil]); omega) ?_
   refine Z58 ?_;refine R.indexAddr (j) (B3 t[j]) jU jS (A9 hlj) ?_;refine Z79 ?_
   refine R.sadd (hl := by (try simp only [List.length_append, List.length_cons, List.length_nil]); omega) ?_
   refine R.sadd (hl := by (try simp only [List.length_append, List.length_cons, List.length_nil]); omega) ?_
   refine Av ?_
   refine R.sadd (hl := by (try simp only [List.length_append, List.length_cons, List.length_nil]); omega) ?_
   refine R.sadd (hl := by (try simp only [List.length_append, List.length_cons, List.length_nil]); omega) ?_
   refine Ar ?_;refine R.fin [1, 7, 8, 9, 10, 11, 12, 13] ?_;refine Z90 ?_;refine R.fin [1, 7, 8, 9, 10, 11, 12, 13] ?_
   refine K.lpN (j + 1) hlj (by omega) (StCut.of_eq ?_)
   rw [hkon]
   simp only [L9, ← List.append_assoc]
   rfl
  have hje : ((Bh c t)[k].kind == 2) = true → j = (Bh c t)[k].cols.length := fun h2 => by
   rw [hk2 h2]
   rw [h2, Bool.true_and] at ht70
   simp only [List.length_map, decide_eq_false_iff_not] at ht70
   omega
  rw [m5 hje] at hon
  refine Z29 ?_;refine K.lpE ?_;refine Z90 ?_;refine R.fin [1, 7, 8, 9, 10, 11, 12] ?_
  have h7 : k < 7 := hlt
  refine K.lpN (k + 1) hlt (by omega) (StCut.of_eq ?_)
  rw [hon]
  simp only [← List.append_assoc]
  rfl
 have hke : k = 7 := by have h7 : ((Bh c t).map V2).length = 7 := rfl; rw [h7] at ht28; simp at ht28; omega
 subst hke
 refine Z47 ?_;refine Z40 ?_;refine Z77 ?_;exact S3

theorem mu {l : List Col} {x : Nat} (h : x < l.length) : ((l.map (·.name)).map A7)[x]? = some (A7 l[x].name) := by
 rw [List.getElem?_map, List.getElem?_map, List.getElem?_eq_getElem h]
 rfl
/-- What is not sound has no plan. -/
theorem ig {c : List Col} {l : List Mov} {k : Int} (h : ((C9 c l).2 != 0) = true) : Ab c l = ([], 1) ∧ Pd c l = ([], 1) ∧ Ml c l k = ([], 1) ∧ Fi c l = ([], []) := by
 have hS : Aw c l = ([], (C9 c l).2) := if_pos h
 have hl : Ao c l = ([], (C9 c l).2) := by unfold Ao; rw [hS]; exact if_pos h
 have he : Be c l = ([], [], [], 1) := by unfold Be; rw [hl]; exact if_pos h
 have hm : Ab c l = ([], 1) := by unfold Ab; rw [he]; rfl
 refine ⟨hm, ?_, ?_, ?_⟩
 ·unfold Pd; rw [hm]; rfl
 ·unfold Ml; rw [he]; rfl
 unfold Fi; rw [he]; rfl
/-- What is sound. -/
theorem bx {c : List Col} {l : List Mov} {k : Int} (h : ((C9 c l).2 != 0) = false) : ((Aw c l).2 != 0) = false ∧ (C9 c l).1.getLastD [] = (Ao c l).1 ∧ Ab c l = (Bh c (Ao c l).1, 0) ∧ Pd c l = (Bm (Ax c l) (Bh c (Ao c l).1) 7, 0) ∧
  Ml c l k = (if decide (1 ≤ k) && decide (k ≤ 3) then [⟨7, []⟩, ⟨6, B2 (Ao c l).1 c⟩] else [], 0) ∧ Fi c l = ((B2 (Ao c l).1 c).map (·.name), (B2 c (Ao c l).1).map (·.name)) := by
 have hS : ((Aw c l).2 != 0) = false := by unfold Aw; rw [if_neg (by rw [h]; simp)]; exact h
 have hl := J8 hS
 have he : Be c l = ((Ao c l).1, B2 c (Ao c l).1, B2 (Ao c l).1 c, 0) := by unfold Be; rw [if_neg (by rw [hl]; simp)]
 have hm : Ab c l = (Bh c (Ao c l).1, 0) := by unfold Ab; rw [if_neg (by rw [he]; simp), he]; rfl
 have e1 : (C9 c l).1.getLastD [] = (Ao c l).1 := by
  unfold Ao
  rw [if_neg (by rw [hS]; simp)]
  unfold Aw
  rw [if_neg (by rw [h]; simp)]
 refine ⟨hS, e1, hm, ?_, ?_, ?_⟩
 ·rw [Vf (by rw [hm]; rfl), hm]; rfl
 ·unfold Ml
  rw [if_neg (by rw [he]; simp), he]
  by_cases h1 : (decide (k < 1) || decide (3 < k)) = true
  ·rw [if_pos h1, if_neg (by simp at h1 ⊢; omega)]
  rw [if_neg h1, if_pos (by simp at h1 ⊢; omega)]
 unfold Fi; rw [if_neg (by rw [he]; simp), he]
theorem c6 {c t : List Col} (hc : OkCols c) (ht : OkCols t) : ∀ s ∈ Bh c t, s.cols.length ≤ 1048576 := by
 intro s hs
 have h1 := F3 c t
 have h2 := F3 t c
 have h3 := hc.1
 have h4 := ht.1
 unfold Bh at hs
 simp only [List.mem_cons, List.mem_nil_iff, or_false] at hs
 rcases hs with rfl | rfl | rfl | rfl | rfl | rfl | rfl <;> simp only [List.length_nil] <;> omega
theorem y9 (c t : List Col) (hc : c.length ≤ 1048576) (ht : t.length ≤ 1048576) (X : List Stp) (hX : Bh c t = X) (Hp : List AObj) : AFun Tryz.prog 15 [A4 c, A4 t] Hp (Fh X) := hX ▸ c15 c t hc ht Hp
theorem yb (c : List Col) (hc : OkCols c) (l : List Mov) (h : OkMovs l) (hS : ((Aw c l).2 != 0) = false) (X : Str) (hX : Bm (Ax c l) (Bh c (Ao c l).1) 7 = X) (Hp : List AObj) : AFun Tryz.prog 16 [A4 c, A4 (Ao c l).1, By l] Hp (A7 X) := hX ▸ c16 c hc l h hS _ rfl _ rfl Hp
theorem c3 (c : List Col) (l : List Mov) (hr : ∀ m ∈ l, RngMv m) (k : Int) (Hp : List AObj) : AFun Tryz.prog 3 [A4 c, By l, A3 k] Hp (Am true) := by
 refine ACall.body [.tmp 6] [0, 1, 2] Tryz.func3 Tryz.ntmps3 (fun d => ?_)
 refine Z1 ?_;refine R.fin [0, 1, 2] ?_;refine Z16 ?_;refine R.call Tryz.call5 (c5w _) ?_;refine R.not ?_;refine R.fin [0, 1, 2, 24] ?_
 refine W.cond (fun ht24 => ?_) (fun ht24 => ?_)
 ·cases ht24
 refine Z4 ?_;refine Z10 ?_;refine R.call Tryz.call6 (c6u c _) ?_;refine Z14 ?_;refine G.call Tryz.call7 (fun hB => c7 l _) ?_;refine R.pickOr ?_;refine R.fin [0, 1, 2, 30] ?_
 refine W.cond (fun ht30 => ?_) (fun ht30 => ?_)
 ·refine Nt ?_;refine K.thR ?_;exact S3
 simp only [Bool.or_eq_false_iff] at ht30
 have hc := Y5 ht30.1
 have hok := bq ht30.2 hr
 have hc2 : c.length ≤ 1000000 := by have h := ht30.1; unfold Hw at h; simp only [Bool.or_eq_false_iff, decide_eq_false_iff_not] at h; omega
 refine Tt ?_;refine R.call Tryz.call8 (c8 c hc hc2 l hok _) ?_;refine Fc ?_;refine R.fin [0, 1, 2, 7, 8] ?_;refine Z32 ?_;refine R.call Tryz.call9 (c9 c hc hc2 l hok _) ?_;refine Fc ?_;refine R.fin [0, 1, 2, 7, 8, 9, 10] ?_;refine nf ?_;refine R.call Tryz.call10 (c10 c hc hc2 l hok k _) ?_;refine Fc ?_;refine R.fin [0, 1, 2, 7, 8, 9, 10, 11, 12] ?_;refine Z32 ?_;refine R.call Tryz.call11 (c11 c hc hc2 l hok _) ?_;refine Fc ?_;refine R.fin [0, 1, 2, 7, 8, 9, 10, 11, 12, 13, 14] ?_;refine Z32 ?_;refine R.call Tryz.call12 (c12 c hc l hok _) ?_;refine Fc ?_;refine R.fin [0, 1, 2, 7, 8, 9, 10, 11, 12, 13, 14, 15, 16] ?_;refine Gs ?_;refine R.fin [0, 1, 2, 7, 8, 9, 10, 11, 12, 13, 14, 15, 63] ?_
 refine W.cond (fun ht63 => ?_) (fun ht63 => ?_)
 ·obtain ⟨hm1, hm2, hm3, hm4⟩ := ig (k := k) ht63
  rw [hm1, hm2, hm3, hm4]
  refine K1 ?_;refine Z14 ?_;refine G.eql ?_;refine Zz ?_;refine G.eql ?_;refine Zz ?_;refine G.len jU ?_;refine G.move ?_;refine G.slen jU ?_;refine G.add64 ?_;refine W8 ?_;refine G.add64 ?_;refine W8 ?_;refine G.add64 ?_;refine W8 ?_;refine G.add64 ?_;refine Z82 ?_;refine Z77 ?_;refine K.thR ?_;exact S3
 obtain ⟨hS, hD, hm1, hm2, hm3, hm4⟩ := bx (k := k) ht63
 obtain ⟨hne, hl9⟩ := br ht63
 have hl0 : 0 < (C9 c l).1.length := List.length_pos_iff.2 hne
 have hto := Ip hc hok
 have hcl := F3 (Ao c l).1 c
 have hgl := F3 c (Ao c l).1
 have hct := hto.1
 have hcc := hc.1
 rw [hm1, hm2, hm3, hm4]
 have hpp1 := c6 hc hto
 have hpp2 : (Bh c (Ao c l).1).length ≤ 1048576 := by show 7 ≤ 1048576; decide
 have hbk1 : ∀ s ∈ (if decide (1 ≤ k) && decide (k ≤ 3) then [⟨7, []⟩, ⟨6, (B2 (Ao c l).1 c)⟩] else [] : List Stp), s.cols.length ≤ 1048576 := by
  intro s hs
  split at hs
  ·simp only [List.mem_cons, List.mem_nil_iff, or_false] at hs
   rcases hs with rfl | rfl <;> simp only [List.length_nil] <;> omega
  exact (List.not_mem_nil hs).elim
 have hbk2 : (if decide (1 ≤ k) && decide (k ≤ 3) then [⟨7, []⟩, ⟨6, (B2 (Ao c l).1 c)⟩] else [] : List Stp).length ≤ 1048576 := by split <;> simp
 clear hm1 hm2 hm3 hm4
 generalize hTx : Bm (Ax c l) (Bh c (Ao c l).1) 7 = Tx
 generalize hPp : Bh c (Ao c l).1 = Pp at hpp1 hpp2 ⊢
 generalize hBk : (if decide (1 ≤ k) && decide (k ≤ 3) then [⟨7, []⟩, ⟨6, (B2 (Ao c l).1 c)⟩] else [] : List Stp) = Bk at hbk1 hbk2 ⊢
 refine Tt ?_;refine R.len jU ?_
 rw [List.length_map]
 refine R.sub64 (h1 := by omega) (h2 := by omega) ?_;refine R.indexAddr (((C9 c l).1.length - 1)) (A4 ((C9 c l).1.getLastD [])) jU jS (V1 hne) ?_;refine Dw ?_
 rw [hD]
 refine Ar ?_;refine R.fin [0, 1, 2, 7, 8, 9, 10, 11, 12, 13, 14, 17] ?_;refine Z32 ?_;refine R.call Tryz.call13 (c13 c (Ao c l).1 hc.1 hto.1 _) ?_;refine Z58 ?_;refine R.call Tryz.call13 (c13 (Ao c l).1 c hto.1 hc.1 _) ?_;refine Z8 ?_;refine R.fin [0, 1, 2, 7, 8, 9, 10, 11, 12, 13, 14, 17, 18, 19] ?_;refine Ba ?_;refine jd ?_;refine R.fin [0, 1, 2, 7, 8, 9, 10, 11, 12, 13, 14, 17, 18, 19, 20] ?_
 refine W.join ⟨192, A2 0 (A4 c) (A2 1 (By l) (A2 7 (Fh Pp) (A2 8 (A3 0) (A2 9 (A7 Tx) (A2 10 (A3 0) (A2 11 (Fh Bk) (A2 12 (A3 0) (A2 13 (C2 ((B2 (Ao c l).1 c).map (·.name))) (A2 14 (C2 ((B2 c (Ao c l).1).map (·.name))) (A2 17 (A4 (Ao c l).1) (A2 18 (A4 (B2 c (Ao c l).1)) (A2 19 (A4 (B2 (Ao c l).1 c)) (A2 20 (Fh Bk) (fun _ => .any)))))))))))))), Hp, [], [], none⟩ ?_ ?_
 ·refine Z0 ?_;refine R.geq ?_;refine Z14 ?_;refine G.leq ?_;refine Hf ?_;refine R.fin [0, 1, 7, 8, 9, 10, 11, 12, 13, 14, 17, 18, 19, 20, 109] ?_
  refine W.cond (fun ht109 => ?_) (fun ht109 => ?_)
  ·have hbk : Bk = [⟨7, []⟩, ⟨6, (B2 (Ao c l).1 c)⟩] := hBk.symm.trans (if_pos ht109)
   refine Hh ?_;refine iw ?_;refine R.wk 110 _ le7 ?_;refine jd ?_;refine R.fin [0, 1, 7, 8, 9, 10, 11, 12, 13, 14, 17, 18, 19, 20] ?_;exact sj
  have hbk : Bk = [] := hBk.symm.trans (if_neg (by rw [ht109]; simp))
  refine W.keep [0, 1, 7, 8, 9, 10, 11, 12, 13, 14, 17, 18, 19, 20] ?_;refine AW.skip ?_;exact sj
 refine Gs ?_;refine Z14 ?_;refine S0 ?_;refine Z14 ?_;refine S0 ?_;refine Z97 ?_;refine G.move ?_;refine G.call Tryz.call15 (fun hB => y9 c (Ao c l).1 hc.1 hto.1 Pp hPp _) ?_;refine G.call Tryz.call14 (fun hB => c14 Pp hpp1 hpp2 _) ?_;refine Np ?_;refine Z97 ?_;refine Wa ?_;refine G.call Tryz.call16 (fun hB => yb c hc l hok hS Tx hTx _) ?_;refine G.sneq ?_;refine R.pickOr ?_;refine Z97 ?_;refine G.call Tryz.call14 (fun hB => c14 Bk hbk1 hbk2 _) ?_;refine Np ?_;refine Z14 ?_;refine G.len jU ?_;refine W8 ?_;refine S0 ?_;refine Z14 ?_;refine G.len jU ?_;refine W8 ?_;refine S0 ?_;refine R.fin [13, 14, 18, 19, 159] ?_
 refine W.cond (fun ht159 => ?_) (fun ht159 => ?_)
 ·exfalso
  simp at ht159
 refine Kx ?_;refine R.fin [13, 14, 18, 19, 21] ?_
 refine AW.loopC (α := Nat) (fun x => ⟨192, A2 13 (C2 ((B2 (Ao c l).1 c).map (·.name))) (A2 14 (C2 ((B2 c (Ao c l).1).map (·.name))) (A2 18 (A4 (B2 c (Ao c l).1)) (A2 19 (A4 (B2 (Ao c l).1 c)) (A2 21 (A3 (x : Nat)) (fun _ => .any))))), Hp, [], [], none⟩) (fun x => x ≤ (B2 (Ao c l).1 c).length) (fun x => (B2 (Ao c l).1 c).length - x) (0) (Nat.zero_le _) (StLe.of_eq (by simp)) rfl (fun x hx => ?_)
 refine Z83 ?_;refine R.fin [13, 14, 18, 19, 21, 163] ?_
 refine W.cond (fun ht163 => ?_) (fun ht163 => ?_)
 ·have hlt : x < (B2 (Ao c l).1 c).length := by simpa using ht163
  refine sh ?_;refine Z54 ?_;refine D.indexAddr (x) (A7 (B2 (Ao c l).1 c)[x].name) jU jS (mu hlt) ?_;refine dv ?_;refine D.indexAddr (x) (B3 (B2 (Ao c l).1 c)[x]) jU jS (A9 hlt) ?_;refine Vz ?_;refine D.tail ?_;refine R.sneq ?_;refine R.fin [13, 14, 18, 19, 21, 175] ?_
  refine W.cond (fun ht175 => ?_) (fun ht175 => ?_)
  ·exfalso
   simp at ht175
  refine Z85 ?_;refine R.fin [13, 14, 18, 19, 21] ?_;exact o4
 refine Wg ?_;refine R.fin [14, 18, 22] ?_
 refine AW.loopC (α := Nat) (fun x => ⟨192, A2 14 (C2 ((B2 c (Ao c l).1).map (·.name))) (A2 18 (A4 (B2 c (Ao c l).1)) (A2 22 (A3 (x : Nat)) (fun _ => .any))), Hp, [], [], none⟩) (fun x => x ≤ (B2 c (Ao c l).1).length) (fun x => (B2 c (Ao c l).1).length - x) (0) (Nat.zero_le _) (StLe.of_eq (by simp)) rfl (fun x hx => ?_)
 refine Z83 ?_;refine R.fin [14, 18, 22, 179] ?_
 refine W.cond (fun ht179 => ?_) (fun ht179 => ?_)
 ·have hlt : x < (B2 c (Ao c l).1).length := by simpa using ht179
  refine sh ?_;refine Z54 ?_;refine D.indexAddr (x) (A7 (B2 c (Ao c l).1)[x].name) jU jS (mu hlt) ?_;refine dv ?_;refine D.indexAddr (x) (B3 (B2 c (Ao c l).1)[x]) jU jS (A9 hlt) ?_;refine Vz ?_;refine D.tail ?_;refine R.sneq ?_;refine R.fin [14, 18, 22, 191] ?_
  refine W.cond (fun ht191 => ?_) (fun ht191 => ?_)
  ·exfalso
   simp at ht191
  refine Z85 ?_;refine R.fin [14, 18, 22] ?_;exact o4
 refine Z47 ?_;refine Nt ?_;exact S3

end Go.SX.Nb
