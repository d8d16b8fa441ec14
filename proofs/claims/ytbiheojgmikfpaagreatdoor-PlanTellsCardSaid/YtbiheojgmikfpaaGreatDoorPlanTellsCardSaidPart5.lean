/- Texts on the way to this: PlanTells answers true for whatever it is handed: of any columns and any moves the plan, its text, the plan back and the shadows are what the reference says, or the migration is not sound. (part 5) -/
import Derived.Test.YtbiheojgmikfpaaGreatDoorPlanTellsCardSaidPart4
set_option linter.all false
namespace Go.SX.Nb
open Go Go.SX Go.Proofs Go.RowKit Go.Sort
variable [ErrAt]
set_option maxRecDepth 4000
theorem c41 (l : List Str) (sep : Str) (hn : l.length ≤ 140737488355328) (hl : (Lib.join l sep).length ≤ 140737488355328) (Hp : List AObj) : AFun Tryz.prog 41 [C2 l, A7 sep] Hp (A7 (Lib.join l sep)) := by
 have e : C2 l = .slice false 1 ((l.map sv).map .v) := by rw [List.map_map]; rfl
 rw [e]
 refine AFun.libSl (xs := [sv sep]) (v := sv (Lib.join l sep)) (fun G w => .v _ _) (fun w u hg hs => ?_)
 rcases hs with ⟨rfl, he⟩ | ⟨ad, c, rfl, hc, hsp, hcell⟩
 ·have : l = [] := by simpa using he
  subst this
  refine (Any.strings_Join_none Tryz.lays156 Xx none 0 ⟨sep.toArray⟩ w).mono ?_
  rintro e w' ⟨rfl, rfl⟩
  exact ⟨rfl, Below.refl _ _⟩
 rw [List.length_map] at hc
 match l, hn, hl, hc, hsp, hcell with
 | [], _, _, _, _, _ =>
  refine (Any.strings_Join_none Tryz.lays156 Xx (some ad) c ⟨sep.toArray⟩ w).mono ?_
  rintro e w' ⟨rfl, rfl⟩
  exact ⟨rfl, Below.refl _ _⟩
 | [x], _, _, hc, hsp, hcell =>
  obtain ⟨bk, o, spot⟩ := ad
  have hs0 : spot = none := hsp (by simp)
  subst hs0
  refine (Any.strings_Join_one Tryz.lays156 Xx bk o c ⟨x.toArray⟩ ⟨sep.toArray⟩ w (by have := hcell 0 (sv x) rfl; simpa using this)).mono ?_
  rintro e w' ⟨rfl, rfl⟩
  exact ⟨by rw [Lib.join_one], Below.refl _ _⟩
 | x :: y :: r, hn, hl, hc, hsp, hcell =>
  obtain ⟨bk, o, spot⟩ := ad
  have hs0 : spot = none := hsp (by simp)
  subst hs0
  have h0 := hcell 0 (sv x) rfl
  have hb : bk < w.heap.size := World.block_lt_of_cell? _ _ h0
  have hd : ((x :: y :: r).map fun z => (⟨z.toArray⟩ : ByteArray)).map (·.data.toList) = x :: y :: r := by
   rw [List.map_map]
   exact List.map_id'' (fun z => by simp) _
  have := Any.strings_Join_many Tryz.lays156 Xx bk o c ((x :: y :: r).map fun z => (⟨z.toArray⟩ : ByteArray)) ⟨sep.toArray⟩ w (fun j z hz => by
   rw [List.getElem?_map, Option.map_eq_some_iff] at hz
   obtain ⟨z', hz', rfl⟩ := hz
   exact hcell j _ (by rw [List.getElem?_map, hz']; rfl)) hb (by simp) (by simpa using hn) (by simpa using hc) (by rw [hd]; simpa using hl)
  rw [hd, List.length_map] at this
  rw [List.length_map]
  refine this.mono ?_
  rintro e w' ⟨rfl, hb'⟩
  exact ⟨by simp, hb'⟩
end Go.SX.Nb
namespace Go.SX.Nb
open Go Go.SX Go.Proofs
variable [ErrAt]
set_option maxRecDepth 4000
/-! ### Gaps -/
/-! ### Words -/
theorem c52 (k : Int) (Hp : List AObj) : AFun Tryz.prog 52 [A3 k] Hp (A7 (Bn k)) := by
 refine ACall.body [.tmp 2] [0] Tryz.func52 Tryz.ntmps52 (fun d => ?_)
 refine Nv ?_;refine R.lss ?_;refine Wf ?_;refine R.fin [0, 9] ?_
 refine W.cond (fun ht9 => ?_) (fun ht9 => ?_)
 ·refine Tp ?_;exact K.fin (V.one V.tmp) ⟨by rw [show Bn k = [] from if_pos (by simpa using ht9)], rfl⟩
 refine Hz ?_;refine Z74 ?_;refine Fd ?_;refine Ba ?_
 have hk : 1 ≤ k ∧ k ≤ 3 := by simp at ht9; omega
 have hget : (kindNames.map A7)[k.toNat]? = some (A7 (kindNames.getD k.toNat [])) := by
  have hlt : k.toNat < kindNames.length := by show k.toNat < 4; omega
  rw [List.getElem?_map, List.getElem?_eq_getElem hlt, List.getD_eq_getElem?_getD, List.getElem?_eq_getElem hlt]
  rfl
 refine Z58 ?_;refine sm ?_;exact qh

def Ue (c : Col) : Str := c.name ++ [32] ++ Bn c.kind
def Ij (l : List Col) : Str := Lib.join (l.map Ue) [44, 32]
theorem Hm (k : Int) : (Bn k).length ≤ 4 := by
 unfold Bn
 split
 ·simp
 rename_i h
 have hk : k = 1 ∨ k = 2 ∨ k = 3 := by omega
 rcases hk with rfl | rfl | rfl <;> decide
theorem Qo (sep : Str) : ∀ (l : List Str) (x : Str), l ≠ [] → Lib.join (l ++ [x]) sep = Lib.join l sep ++ sep ++ x
 | [], _, h => absurd rfl h
 | [a], x, _ => by simp [Lib.join, List.intercalate, List.intersperse]
 | a :: b :: r, x, _ => by
  have ih := Qo sep (b :: r) x (by simp)
  unfold Lib.join List.intercalate at ih ⊢
  rw [List.cons_append, List.cons_append, List.intersperse_cons₂, List.flatten_cons, List.flatten_cons, List.intersperse_cons₂, List.flatten_cons, List.flatten_cons]
  rw [List.cons_append] at ih
  rw [ih]
  simp
theorem Oi {c : List Col} {x : Nat} (h : x < c.length) : Ij (c.take (x + 1)) = (if 0 < x then Ij (c.take x) ++ [44, 32] else []) ++ Ue c[x] := by
 unfold Ij
 rw [List.take_succ, List.getElem?_eq_getElem h, List.map_append]
 cases x with
 | zero => simp [Lib.join_one]
 | succ x =>
  rw [if_pos (by omega)]
  exact Qo _ _ _ (by simp; intro e; rw [e] at h; simp at h)
theorem Lo {c : List Col} (hc : OkCols c) (x : Nat) : (Ij (c.take x)).length ≤ x * 1048600 := by
 induction x with
 | zero => simp [Ij, Lib.join_nil]
 | succ x ih =>
  rcases Nat.lt_or_ge x c.length with h | h
  ·rw [Oi h]
   have h1 := hc.2 c[x] (List.getElem_mem h)
   have h2 := Hm c[x].kind
   have h3 : (Ue c[x]).length ≤ 1048581 := by unfold Ue; simp only [List.length_append, List.length_cons, List.length_nil]; omega
   split
   ·simp only [List.length_append, List.length_cons, List.length_nil]; omega
   simp only [List.length_append, List.length_nil]; omega
  rw [List.take_of_length_le (by omega)]
  rw [List.take_of_length_le h] at ih
  exact Nat.le_trans ih (Nat.mul_le_mul_right _ (Nat.le_succ x))
theorem c31 (c : List Col) (hc : OkCols c) (Hp : List AObj) : AFun Tryz.prog 31 [A4 c] Hp (A7 (Ij c)) := by
 refine ACall.body [.tmp 2] [0] Tryz.func31 Tryz.ntmps31 (fun d => ?_)
 refine Z55 ?_;refine Z1 ?_;refine Fd ?_;refine Z52 ?_;refine Nw ?_
 refine AW.loopC (α := Nat) (fun x => ⟨31, A2 0 (A4 c) (A2 3 (A7 (Ij (c.take x))) (A2 4 (A3 (x : Nat)) (fun _ => .any))), Hp, [], [], none⟩) (fun x => x ≤ c.length) (fun x => c.length - x) (0) (Nat.zero_le _) (StLe.of_eq (by simp [Ij, Lib.join_nil])) rfl (fun x hx => ?_)
 refine Z83 ?_;refine R.fin [0, 3, 4, 8] ?_
 refine W.cond (fun ht8 => ?_) (fun ht8 => ?_)
 ·have hxl : x < c.length := by simp at ht8; omega
  have hb := Lo hc x
  have hb1 := hc.1
  have hb2 := hc.2 c[x] (List.getElem_mem hxl)
  have hb3 := Hm c[x].kind
  have hsu := Oi hxl
  refine Z46 ?_;refine Z10 ?_;refine R.gtr ?_;refine R.fin [0, 3, 4, 12] ?_
  refine W.cond (fun ht12 => ?_) (fun ht12 => ?_)
  ·have hx0 : 0 < x := by simp at ht12; omega
   rw [if_pos hx0] at hsu
   refine Z7 ?_;refine R.sadd ?_;refine jf ?_;refine K.thN ?_;refine qn ?_;refine D.move ?_;refine jx ?_;refine Vz ?_;refine D.sadd ?_;refine D.sadd ?_;refine Z54 ?_;refine jx ?_;refine d9 ?_;refine D.call Tryz.call52 (c52 c[x].kind _) ?_;refine D.tail ?_;refine R.sadd ?_;refine jf ?_;refine Z90 ?_;exact qm
  have hx0 : x = 0 := by simp at ht12; omega
  rw [if_neg (by omega)] at hsu
  have hz : Ij (c.take x) = [] := by rw [hx0]; rfl
  rw [hz]
  refine Z4 ?_;refine qn ?_;refine D.move ?_;refine jx ?_;refine Vz ?_;refine D.sadd ?_;refine D.sadd ?_;refine Z54 ?_;refine jx ?_;refine d9 ?_;refine D.call Tryz.call52 (c52 c[x].kind _) ?_;refine D.tail ?_;refine R.sadd ?_;refine jf ?_;refine Z90 ?_;exact qm
 have hxe : x = c.length := by simp at ht8; omega
 refine Z47 ?_;refine Z40 ?_;refine Z2 ?_;exact K.fin (V.one V.tmp) ⟨by rw [hxe, List.take_length], rfl⟩

theorem om : Tryz.prog.eqGuardType Tryz.prog.depth 47 = false := by kernel_rfl
theorem Sb (k k' : Int) (s s' : List UInt8) (w : World) : (Op.equal 47 (.agg #[.string ⟨s.toArray⟩, .int .i64 k]) (.agg #[.string ⟨s'.toArray⟩, .int .i64 k'])).run Tryz.prog w = .ok (s == s' && k == k') w := by
 have h1 : Tryz.prog.stoodInHeld 47 = false := by kernel_rfl
 show (Op.equalIn (9999 + 1) _ _ _).run _ _ = _
 rw [Op.equalIn]
 generalize hd : (9999 : Nat) = d
 obtain ⟨d, rfl⟩ : ∃ e, d = e + 1 := ⟨9998, hd.symm⟩
 clear hd
 simp [run_underlying Tryz.underlying47, h1, part, cm _ _ _ _ _ _ Tryz.underlying3, mb _ _ _ _ _ Tryz.underlying9, Tryz.isAgg3, Tryz.isAgg9]
 by_cases e1 : k = k' <;> by_cases e3 : s = s' <;> simp [e1, e3]
theorem L2 {a b : Col} : (a.name == b.name && a.kind == b.kind) = decide (a = b) := by
 rw [Bool.eq_iff_iff]
 cases a; cases b
 simp
theorem c29 (a b : List Col) (ha : a.length ≤ 1048576) (Hp : List AObj) : AFun Tryz.prog 29 [A4 a, A4 b] Hp (Am (decide (a = b))) := by
 refine ACall.body [.tmp 4] [0, 1] Tryz.func29 Tryz.ntmps29 (fun d => ?_)
 refine Z75 ?_;refine Z10 ?_;refine R.len jU ?_;refine Z36 ?_;refine R.neq ?_;refine R.fin [0, 1, 10] ?_
 refine W.cond (fun ht10 => ?_) (fun ht10 => ?_)
 ·refine Jz ?_;refine K.thR ?_;exact K.fin (V.one V.tmp) ⟨by rw [tm (by simpa using ht10)], rfl⟩
 refine Kx ?_;refine Nx ?_
 refine AW.loopC (α := Nat) (fun x => ⟨26, A2 0 (A4 a) (A2 1 (A4 b) (A2 5 (A3 (x : Nat)) (fun _ => .any))), Hp, [], [], none⟩) (fun x => x ≤ a.length ∧ ∀ (j : Nat) (y : Col), j < x → a[j]? = some y → b[j]? = some y) (fun x => a.length - x) (0) (by simp) (StLe.refl _) rfl (fun x hx => ?_)
 refine Z83 ?_;refine R.fin [0, 1, 5, 14] ?_
 refine W.cond (fun ht14 => ?_) (fun ht14 => ?_)
 ·have hlt : x < a.length := by simpa using ht14
  have hlb : x < b.length := by have := od ht10; omega
  refine sk ?_;refine Z54 ?_;refine D.indexAddr (x) (B3 a[x]) jU jS (A9 hlt) ?_;refine jn ?_;refine D.indexAddr (x) (B3 b[x]) jU jS (A9 hlb) ?_;refine dd ?_;refine R.neqAgg om (Sb a[x].kind b[x].kind a[x].name b[x].name) ?_;refine R.fin [0, 1, 5, 25] ?_
  refine W.cond (fun ht25 => ?_) (fun ht25 => ?_)
  ·rw [L2] at ht25
   refine Jz ?_;refine Z61 ?_;exact K.fin (V.one V.tmp) ⟨by rw [vu hlt hlb (by simpa using ht25)], rfl⟩
  rw [L2] at ht25
  refine Z85 ?_;refine Nx ?_
  exact K.lpN (x + 1) ⟨hlt, E6 (p := fun j y => b[j]? = some y) hlt hx.2 (by rw [List.getElem?_eq_getElem hlb]; simpa using (Eq.symm (by simpa using ht25) : b[x] = a[x]))⟩ (by omega) (StCut.of_eq rfl)
 refine Z47 ?_;refine Jz ?_;exact K.fin (V.one V.tmp) ⟨by rw [tq (by simpa using ht10) (Ev (by simp at ht14; omega) hx.2)], rfl⟩

def Sc (c : UInt8) : Str := if c = 39 then [39, 39] else [c]
def Gk (t : Str) : Str := t.flatMap Sc
theorem Oj : ∀ t : Str, (Gk t).length ≤ 2 * t.length
 | [] => Nat.le_refl _
 | c :: r => by
  have := Oj r
  unfold Gk at this ⊢
  rw [List.flatMap_cons, List.length_append, List.length_cons]
  have h : (Sc c).length ≤ 2 := by unfold Sc; split <;> simp
  omega
theorem Qp {t : Str} {x : Nat} (h : x < t.length) : Gk (t.take (x + 1)) = Gk (t.take x) ++ Sc t[x] := by
 unfold Gk
 rw [List.take_succ, List.getElem?_eq_getElem h, List.flatMap_append]
 simp
abbrev Wv (l : Str) : AV := .slice true 1 (l.map u8A)
theorem hlb {t : Str} (ht : t.length ≤ 1048576) (x : Nat) : (Gk (t.take x)).length ≤ 2097152 := by
 have := Oj (t.take x)
 have h2 : (t.take x).length ≤ t.length := by rw [List.length_take]; omega
 omega
theorem c53 (t : Str) (ht : t.length ≤ 1048576) (Hp : List AObj) : AFun Tryz.prog 53 [am ⟨2, 0, t⟩] Hp (A7 ([39] ++ Gk t ++ [39])) := by
 refine ACall.body [.tmp 2] [0] Tryz.func53 Tryz.ntmps53 (fun d => ?_)
 refine Z89 ?_;refine Kv ?_;refine R.fin [1, 6] ?_;refine Ld ?_;refine R.fin [1, 6, 7] ?_
 refine W.cond (fun ht7 => ?_) (fun ht7 => ?_)
 ·exact absurd ht7 (by decide)
 refine Z37 ?_;refine R.fin [1, 6, 9] ?_
 refine W.cond (fun ht9 => ?_) (fun ht9 => ?_)
 ·exact absurd ht9 (by decide)
 refine Z37 ?_;refine R.fin [1, 14] ?_
 refine W.cond (fun ht14 => ?_) (fun ht14 => ?_)
 ·exact absurd ht14 (by decide)
 refine Z18 ?_;refine S2 ?_;refine R.fin [1, 3] ?_;refine Z52 ?_;refine Ny ?_
 refine AW.loopC (α := Nat) (fun x => ⟨46, A2 1 (.ro [.v (.int .i64 2), .v (.int .i64 0), .v (sv t)]) (A2 3 (Wv ([39] ++ Gk (t.take x))) (A2 4 (A3 (x : Nat)) (fun _ => .any))), Hp, [], [], none⟩) (fun x => x ≤ t.length) (fun x => t.length - x) (0) (Nat.zero_le _) (StLe.refl _) rfl (fun x hx => ?_)
 refine Z10 ?_;refine da ?_;refine R.slen jU ?_;refine R.lss ?_;refine R.fin [1, 3, 4, 24] ?_
 refine W.cond (fun ht24 => ?_) (fun ht24 => ?_)
 ·have hxl : x < t.length := by simp at ht24; omega
  have hb0 := hlb ht x
  refine Z46 ?_;refine Z16 ?_;refine da ?_;refine Av ?_
  refine R.sindex x t[x] jU (List.getElem?_eq_getElem hxl) ?_
  refine R.eql ?_;refine R.fin [1, 3, 4, 31] ?_
  refine W.cond (fun ht31 => ?_) (fun ht31 => ?_)
  ·have hc : t[x] = 39 := by
    have h31 : ((t[x].toNat : Int) == 39) = true := ht31
    exact UInt8.toNat_inj.1 (by have : (39 : UInt8).toNat = 39 := rfl; simp at h31; omega)
   refine Z84 ?_;refine H0 ?_
   refine R.append jU Tryz.type5 ?_ ?_ ?_
   ·simp [Tryz.t5] <;> omega
   ·simp [Tryz.t5] <;> omega
   refine Fq ?_;refine Ny ?_;refine K.thN ?_;refine Z84 ?_;refine da ?_;refine Av ?_
   refine R.sindex x t[x] jU (List.getElem?_eq_getElem hxl) ?_
   refine H0 ?_
   refine R.append jU Tryz.type5 ?_ ?_ ?_
   ·simp [Tryz.t5] <;> omega
   ·simp [Tryz.t5] <;> omega
   refine Fq ?_;refine jl ?_;refine Ny ?_
   exact K.lpN (x + 1) hxl (by omega) (StCut.of_eq (by
    rw [Qp hxl, Sc]
    first | rw [if_pos hc] | rw [if_neg hc]
    simp only [Wv, List.map_append, List.map_cons, List.map_nil, List.append_assoc, List.cons_append, List.nil_append]
    try rw [hc]
    rfl))
  have hc : t[x] ≠ 39 := fun e => by
   rw [e] at ht31
   exact absurd ht31 (by decide)
  refine We ?_;refine da ?_;refine Av ?_
  refine R.sindex x t[x] jU (List.getElem?_eq_getElem hxl) ?_
  refine H0 ?_
  refine R.append jU Tryz.type5 ?_ ?_ ?_
  ·simp [Tryz.t5] <;> omega
  ·simp [Tryz.t5] <;> omega
  refine Fq ?_;refine jl ?_;refine Ny ?_
  exact K.lpN (x + 1) hxl (by omega) (StCut.of_eq (by
   rw [Qp hxl, Sc]
   first | rw [if_pos hc] | rw [if_neg hc]
   simp only [Wv, List.map_append, List.map_cons, List.map_nil, List.append_assoc, List.cons_append, List.nil_append]
   try rw [hc]
   rfl))
 have hxe : x = t.length := by simp at ht24; omega
 have hb0 := hlb ht x
 have hdt : Gk (t.take x) = Gk t := by rw [hxe, List.take_length]
 rw [hdt] at hb0 ⊢
 refine Z47 ?_;refine Ba ?_;refine R.moveT ?_;refine H0 ?_
 refine R.append jU Tryz.type5 ?_ ?_ ?_
 ·simp [Tryz.t5] <;> omega
 ·simp [Tryz.t5] <;> omega
 refine R.bytesStr ([39] ++ Gk t ++ [39]) jU jU jU (hx := by simp only [go_sem, ↓reduceIte, Nat.reduceEqDiff, Nat.reduceAdd, List.map_append, List.map_cons, List.map_nil, List.cons_append, List.nil_append] <;> rfl) ?_
 exact Zn

theorem Qq (c : UInt8) (r : Str) : Gk (c :: r) = Sc c ++ Gk r := by unfold Gk; rw [List.flatMap_cons]
theorem Y4 : ∀ s : Str, (Lib.index s [39] = -1 ∧ Gk s = s) ∨ ∃ i : Nat, Lib.index s [39] = (i : Int) ∧ i < s.length ∧ Gk s = s.take i ++ [39, 39] ++ Gk (s.drop (i + 1))
 | [] => .inl ⟨rfl, rfl⟩
 | b :: l => by
  by_cases hb : b = 39
  ·subst hb
   refine .inr ⟨0, by simp [Lib.index, List.isPrefixOf], by simp, ?_⟩
   rw [Qq]
   simp [Sc]
  have hp : ([39] : Str).isPrefixOf (b :: l) = false := by
   simp [List.isPrefixOf, Ne.symm hb]
  have hd : Gk (b :: l) = b :: Gk l := by
   rw [Qq, Sc, if_neg hb]
   rfl
  rcases Y4 l with ⟨h1, h2⟩ | ⟨i, h1, h2, h3⟩
  ·refine .inl ⟨?_, by rw [hd, h2]⟩
   rw [Lib.index, hp, h1]; rfl
  refine .inr ⟨i + 1, ?_, by simp; omega, ?_⟩
  ·rw [Lib.index, hp, h1, if_neg (by simp), if_neg (by simp)]
   rfl
  rw [hd, h3]
  simp
theorem L3 : ∀ (n : Nat) (s : Str), s.length ≤ n → Lib.replaceK [39] [39, 39] (Lib.count s [39]) s = Gk s
 | n, s, hn => by
  rcases Y4 s with ⟨h1, h2⟩ | ⟨i, h1, h2, h3⟩
  ·rw [Lib.count_miss h1, h2]; rfl
  cases n with
  | zero => omega
  | succ n =>
   rw [Lib.count_hit (by decide) h1, Nat.add_comm, Lib.replaceK_hit _ _ _ _ i h1]
   have e : i + ([39] : Str).length = i + 1 := rfl
   rw [e, L3 n (s.drop (i + 1)) (by rw [List.length_drop]; omega), h3]
theorem Me (s : Str) : Lib.replaceAll s [39] [39, 39] = Gk s := by
 unfold Lib.replaceAll Lib.replace
 rw [if_neg (by decide)]
 have e : Lib.replaceNum s [39] (-1) = Lib.count s [39] := by unfold Lib.replaceNum; rw [if_pos (.inl (by decide))]
 rw [e]
 exact L3 _ s (Nat.le_refl _)
/-! What is printed of columns, word by word. -/
structure ColOk (x : Col) : Prop where
 name : Bw x.name = true
 lo : 1 ≤ x.kind
 hi : x.kind ≤ 3
def ktT (t : Tok) : Int × Str := (t.kind, t.text)
theorem wrap_u64 {n : Int} (h1 : 0 ≤ n) (h2 : n < 18446744073709551616) : IntKind.u64.wrap n = n := by
 have e1 : (2 ^ IntKind.u64.bits : Int) = 18446744073709551616 := rfl
 have e3 : IntKind.u64.signed = false := rfl
 unfold IntKind.wrap
 simp only [e1, e3, Bool.false_and]
 simp
 omega
theorem J2 {n k : Nat} {o : Bool} {l : List Str} {z : Str} : Low n (.slice o k (l.map A7 ++ [A7 z])) := by
 refine .slice _ _ _ (fun y hy => ?_)
 rcases List.mem_append.1 hy with hy | hy
 ·obtain ⟨a, _, rfl⟩ := List.mem_map.1 hy
  intro z hz
  rw [List.mem_singleton.1 (show z ∈ [A7 a] from hz)]
  exact .v _
 rw [List.mem_singleton.1 hy]
 intro z' hz
 rw [List.mem_singleton.1 (show z' ∈ [A7 z] from hz)]
 exact .v _
def Cu (c : List Col) : Str := if Gu c then Ij c else []
theorem c22 (c : List Col) (hc : OkCols c) (Hp : List AObj) : AFun Tryz.prog 22 [A4 c] Hp (A7 (Cu c)) := by
 refine ACall.body [.tmp 2] [0] Tryz.func22 Tryz.ntmps22 (fun d => ?_)
 refine Nv ?_;refine R.call Tryz.call39 (c39 c hc _) ?_;refine R.not ?_;refine R.fin [0, 8] ?_
 refine W.cond (fun ht8 => ?_) (fun ht8 => ?_)
 ·have hr : Gu c = false := by simpa using ht8
  refine Tp ?_;exact K.fin (V.one V.tmp) ⟨by rw [Cu, if_neg (by rw [hr]; simp)], rfl⟩
 have hr : Gu c = true := by simpa using ht8
 have h12 : c.length ≤ 12 := by unfold Gu at hr; simp at hr; omega
 refine Z4 ?_;refine Z1 ?_;refine Fd ?_;refine Z16 ?_;refine R.nilSl 3 1 ?_;refine Wc ?_;refine R.fin [3, 9, 10, 11] ?_
 refine AW.loopC (α := Nat) (fun x => ⟨28, A2 3 (.slice true 1 (((c.take x).map Ue).map A7)) (A2 9 (A4 c) (A2 10 (A3 c.length) (A2 11 (A3 (x : Nat)) (fun _ => .any)))), Hp, [], [], none⟩) (fun x => x ≤ c.length) (fun x => c.length - x) (0) (Nat.zero_le _) (StLe.of_eq (by simp)) rfl (fun x hx => ?_)
 refine Z57 ?_;refine R.fin [3, 9, 10, 11, 12] ?_
 refine W.condX (fun ht12 => ?_) (fun ht12 => ?_)
 ·have hlt : x < c.length := by simpa using ht12
  have hcl := hc.len
  have hb2 := hc.2 c[x] (List.getElem_mem hlt)
  have hb3 := Hm c[x].kind
  have htk : c.take (x + 1) = c.take x ++ [c[x]] := by rw [List.take_succ, List.getElem?_eq_getElem hlt]; rfl
  refine J9 ?_;refine Z76 ?_;refine Z42 ?_;refine R.fin [3, 5, 9, 10, 11] ?_;refine W.drawY0 [0, 0, 2, 6, 0, 16, 48, 126, 254, 511, 1023] [] [.s [3, 15] none [] [], .q 8 [] []] (fun _ => Hp) (fun _ => [.cells 47 [A7 c[x].name, A3 c[x].kind]]) Ah (by kernel_rfl) rfl rfl (fun _ => rfl) ?_;refine Y.moveT ?_
  apply Y.q
  case h1 =>
   intro B hT hF
   refine D.fieldAddrPtr (fo := 0) jU Tryz.sizeOf9 ?_;refine D.loadOwn jA ?_;refine D.sadd ?_;refine D.fieldAddrPtr (fo := 1) jU Tryz.sizeOf3 ?_;refine D.loadOwn jA ?_;refine D.call Tryz.call40 (c40 _ _) ?_;refine D.sadd ?_;exact nh
  case hTF => decide
  refine Y.tail (tn := [])  ?_
  refine R.append jU Tryz.type9 ?_ ?_ ?_
  ·have := hc.len; simp [Tryz.t9]; omega
  ·have := hc.len; simp [Tryz.t9]; omega
  refine Fq ?_;refine R.fin [3, 9, 10, 11] ?_;refine K2 ?_;refine R.fin [3, 9, 10, 11] ?_;refine Nz ?_
  simp only [htk, List.map_append, List.map_cons, List.map_nil, Ue]
  exact StCut.take (own := []) (fun _ => .refl _) (by repeat (first | exact Al | refine Ak (by first | (simp [or_imp, forall_and]; done) | exact J2) ?_)) (by simp) (by simp)
 have hx12 : x ≤ 12 := by omega
 have hxe : c.take x = c := List.take_of_length_le (by simp at ht12; omega)
 refine Z23 ?_;refine Z0 ?_
 refine R.call Tryz.call41 (c41 ((c.take x).map Ue) [44, 32] (by have := hc.len; simp; omega) (Nat.le_trans (Lo hc x) (by omega)) _) ?_
 refine Ar ?_;refine Z2 ?_;exact K.fin (V.one V.tmp) ⟨by rw [Cu, if_pos hr, hxe]; rfl, rfl⟩

/-! What is printed of a schema is read. -/
/-- What goes together: names of their own. -/
theorem Uf {c : List Col} (h : Cw c = true) : (∀ y ∈ c, ColOk y) ∧ (c.map (·.name)).Nodup := by
 rw [colsM_true] at h
 have hat : ∀ (j : Nat) (y : Col), c[j]? = some y → Dy y.name = true ∧ 1 ≤ y.kind ∧ y.kind ≤ 3 ∧ Af y.name c = (j : Int) := by
  intro j y hj
  have := h j y hj
  unfold Jj at this
  simp only [Bool.not_eq_true', Bool.or_eq_false_iff, Bool.not_eq_false', decide_eq_false_iff_not, bne_eq_false_iff_eq] at this
  obtain ⟨⟨⟨h1, h2⟩, h3⟩, h4⟩ := this
  exact ⟨h1, by omega, by omega, h4⟩
 refine ⟨fun y hy => ?_, ?_⟩
 ·obtain ⟨j, hj⟩ := List.getElem?_of_mem hy
  obtain ⟨h1, h2, h3, _⟩ := hat j y hj
  exact ⟨by rw [Ca]; exact h1, h2, h3⟩
 show List.Pairwise _ _
 rw [List.pairwise_iff_getElem]
 intro i j hi hj hij e
 simp only [List.length_map] at hi hj
 simp only [List.getElem_map] at e
 have e1 := (hat i c[i] (List.getElem?_eq_getElem hi)).2.2.2
 have e2 := (hat j c[j] (List.getElem?_eq_getElem hj)).2.2.2
 rw [e] at e1
 omega
theorem Ik {c : List Col} (h : Gu c = true) : c.length ≤ 12 ∧ (∀ y ∈ c, ColOk y) ∧ (c.map (·.name)).Nodup := by
 rw [Dz] at h
 unfold B1 at h
 rw [Bool.and_eq_true] at h
 obtain ⟨h1, h2⟩ := h
 have := of_decide_eq_true h1
 exact ⟨by omega, Uf h2⟩
theorem Y5 {c : List Col} (h : Hw c = false) : OkCols c := by
 unfold Hw at h
 simp only [Bool.or_eq_false_iff, decide_eq_false_iff_not, List.any_eq_false, decide_eq_true_eq] at h
 refine ⟨by omega, fun y hy => ?_⟩
 have := h.2 y hy
 omega
def Ok {α : Type} [BEq α] (v : α) (l : List α) : Int := match l.findIdx? (· == v) with | some i => i | none => -1
theorem f5 {α : Type} [BEq α] [LawfulBEq α] {v : α} {l : List α} {x : Nat} (h : x < l.length) (h1 : l[x] = v) (h2 : ∀ (j : Nat) (y : α), j < x → l[j]? = some y → ¬ (y = v)) : Ok v l = x := by
 have : l.findIdx? (· == v) = some x := by
  rw [List.findIdx?_eq_some_iff_getElem]
  exact ⟨h, by simpa using h1, fun j hj => by simpa using h2 j l[j] hj (List.getElem?_eq_getElem _)⟩
 simp [Ok, this]
theorem f6 {α : Type} [BEq α] [LawfulBEq α] {v : α} {l : List α} (h : ∀ (j : Nat) (y : α), l[j]? = some y → ¬ (y = v)) : Ok v l = -1 := by
 have : l.findIdx? (· == v) = none := by
  rw [List.findIdx?_eq_none_iff]
  intro y hy
  obtain ⟨j, hj⟩ := List.getElem?_of_mem hy
  simpa using h j y hj
 simp [Ok, this]
theorem kt {α : Type} [BEq α] [LawfulBEq α] (v : α) (l : List α) : decide (0 ≤ Ok v l) = l.contains v := by
 unfold Ok
 cases h : l.findIdx? (· == v) with
 | none =>
  rw [List.findIdx?_eq_none_iff] at h
  have : l.contains v = false := by
   rw [Bool.eq_false_iff]
   intro hc
   have := h v (by simpa using hc)
   simp at this
  rw [this]; rfl
 | some i =>
  rw [List.findIdx?_eq_some_iff_getElem] at h
  obtain ⟨hi, e, _⟩ := h
  have : l.contains v = true := by
   have : l[i] = v := by simpa using e
   rw [← this]
   simp
  rw [this]
  simp only [decide_eq_true_eq]
  omega
theorem u1 (l : List Str) (v : Str) (hl : l.length ≤ 1048576) (Hp : List AObj) : AFun Tryz.prog 115 [C2 l, A7 v] Hp (A3 (Ok v l)) := by
 refine ACall.body [.tmp 4] [0, 1] Tryz.func115 Tryz.ntmps115 (fun d => ?_)
 refine ai ?_
 refine AW.loopC (α := Nat) (fun x => ⟨19, A2 0 (C2 l) (A2 1 (A7 v) (A2 7 (A3 l.length) (A2 8 (A3 (x : Nat)) (fun _ => .any)))), Hp, [], [], none⟩) (fun x => x ≤ l.length ∧ ∀ (j : Nat) (y : Str), j < x → l[j]? = some y → ¬ (y = v)) (fun x => l.length - x) (0) (by simp) (StLe.of_eq (by simp)) rfl (fun x hx => ?_)
 refine Zp ?_
 refine W.condX (fun ht9 => ?_) (fun ht9 => ?_)
 ·have hlt : x < l.length := by simpa using ht9
  refine af ?_;refine R.indexAddr (x) (A7 l[x]) jU jS (A9 hlt) ?_;refine Dw ?_;refine R.seql ?_;refine aj ?_
  refine W.cond (fun ht16 => ?_) (fun ht16 => ?_)
  ·refine Tl ?_;exact qg
  refine Ja ?_;refine R.fin [0, 1, 7, 8] ?_;exact sw
 refine Z23 ?_;exact qj

theorem c88 (l : List Str) (v : Str) (hl : l.length ≤ 1048576) (Hp : List AObj) : AFun Tryz.prog 88 [C2 l, A7 v] Hp (Am (l.contains v)) := by
 refine ACall.body [.tmp 4] [0, 1] Tryz.func88 Tryz.ntmps88 (fun d => ?_)
 refine Z75 ?_;refine Z32 ?_;refine R.call Tryz.call115 (u1 l v hl _) ?_;refine nt ?_;exact s6

theorem wc (l : List Col) (v : Col) (hl : l.length ≤ 1048576) (Hp : List AObj) : AFun Tryz.prog 109 [A4 l, B3 v] Hp (A3 (Ok v l)) := by
 refine ACall.body [.tmp 4] [0, 1] Tryz.func109 Tryz.ntmps109 (fun d => ?_)
 refine Tm ?_;refine S1 ?_;refine R.fin [0, 3, 7, 8] ?_
 refine AW.loopC (α := Nat) (fun x => ⟨19, A2 0 (A4 l) (A2 3 (.ro [A7 v.name, A3 v.kind]) (A2 7 (A3 l.length) (A2 8 (A3 (x : Nat)) (fun _ => .any)))), Hp, [], [], none⟩) (fun x => x ≤ l.length ∧ ∀ (j : Nat) (y : Col), j < x → l[j]? = some y → ¬ (y = v)) (fun x => l.length - x) (0) (by simp) (StLe.of_eq (by simp)) rfl (fun x hx => ?_)
 refine Z57 ?_;refine R.fin [0, 3, 7, 8, 9] ?_
 refine W.condX (fun ht9 => ?_) (fun ht9 => ?_)
 ·have hlt : x < l.length := by simpa using ht9
  refine Z15 ?_;refine Z40 ?_;refine R.fin [0, 3, 5, 7, 8] ?_;refine W.draw [0, 0, 0, 6, 14, 31] 5 Ah (by kernel_rfl) ?_;refine jn ?_;refine D.indexAddr (x) (B3 l[x]) jU jS (A9 hlt) ?_;refine dd ?_;refine R.eqlAgg om (Sb v.kind l[x].kind v.name l[x].name) ?_;refine R.fin [0, 3, 5, 7, 8, 16] ?_
  refine W.cond (fun ht16 => ?_) (fun ht16 => ?_)
  ·rw [L2] at ht16
   refine Tl ?_;exact qg
  rw [L2] at ht16
  refine Ja ?_;refine R.fin [0, 3, 7, 8] ?_;exact sw
 refine Z23 ?_;exact qj

theorem c83 (l : List Col) (v : Col) (hl : l.length ≤ 1048576) (Hp : List AObj) : AFun Tryz.prog 83 [A4 l, B3 v] Hp (Am (l.contains v)) := by
 refine ACall.body [.tmp 4] [0, 1] Tryz.func83 Tryz.ntmps83 (fun d => ?_)
 refine Tm ?_;refine dm ?_;refine R.call Tryz.call109 (wc l v hl _) ?_;refine nt ?_;exact s6

theorem ku {a b : Col} : (a == b) = decide (a = b) := rfl
def B2 (a b : List Col) : List Col := a.filter fun y => !b.contains y
theorem Lp {a b : List Col} {x : Nat} (h : x < a.length) : B2 (a.take (x + 1)) b = if b.contains a[x] then B2 (a.take x) b else B2 (a.take x) b ++ [a[x]] := by
 unfold B2
 have e : a.take (x + 1) = a.take x ++ [a[x]] := by rw [List.take_succ, List.getElem?_eq_getElem h]; rfl
 rw [e, List.filter_append]
 cases hb : b.contains a[x] with
 | true => have hm : a[x] ∈ b := (by simpa using hb); simp [List.filter_cons, hm]
 | false => have hm : ¬ a[x] ∈ b := (by simpa using hb); simp [List.filter_cons, hm]
theorem L4 (a b : List Col) (x : Nat) : (B2 (a.take x) b).length ≤ a.length := by
 unfold B2
 have := List.length_filter_le (fun y => !b.contains y) (a.take x)
 simp only [List.length_take] at this
 omega
theorem Lq {n k : Nat} {o : Bool} {l : List Col} {z : Col} : Low n (.slice o k (l.map B3 ++ [B3 z])) := by
 refine .slice _ _ _ (fun y hy => ?_)
 have key : ∀ c : Col, ∀ w ∈ (B3 c).cells, Low n w := by
  intro c w hw
  have hw' : w ∈ [AV.v (sv c.name), AV.v (.int .i64 c.kind)] := hw
  simp only [List.mem_cons, List.not_mem_nil, or_false] at hw'
  rcases hw' with rfl | rfl
  ·exact .v _
  exact .v _
 rcases List.mem_append.1 hy with hy | hy
 ·obtain ⟨a, _, rfl⟩ := List.mem_map.1 hy
  exact key a
 rw [List.mem_singleton.1 hy]
 exact key z
theorem c57 (a b : List Col) (ha : a.length ≤ 1048576) (hb : b.length ≤ 1048576) (Hp : List AObj) : AFun Tryz.prog 57 [A4 a, A4 b] Hp (A4 (B2 a b)) := by
 refine ACall.body [.tmp 4] [0, 1] Tryz.func57 Tryz.ntmps57 (fun d => ?_)
 refine Z75 ?_;refine Z1 ?_;refine Nx ?_;refine Z16 ?_;refine R.nilSl 5 2 ?_;refine Wc ?_;refine R.fin [1, 5, 8, 9, 10] ?_
 refine AW.loopC (α := Nat) (fun x => ⟨24, A2 1 (A4 b) (A2 5 (.slice true 2 ((B2 (a.take x) b).map B3)) (A2 8 (A4 a) (A2 9 (A3 a.length) (A2 10 (A3 (x : Nat)) (fun _ => .any))))), Hp, [], [], none⟩) (fun x => x ≤ a.length) (fun x => a.length - x) (0) (Nat.zero_le _) (StLe.of_eq (by simp [B2])) rfl (fun x hx => ?_)
 refine Z57 ?_;refine R.fin [1, 5, 8, 9, 10, 11] ?_
 refine W.condX (fun ht11 => ?_) (fun ht11 => ?_)
 ·have hlt : x < a.length := by simpa using ht11
  refine J9 ?_;refine R.indexAddr (x) (B3 a[x]) jU jS (A9 hlt) ?_;refine W3 ?_;refine R.fin [1, 5, 7, 8, 9, 10] ?_;refine Z0 ?_;refine O0 ?_;refine R.call Tryz.call83 (c83 b a[x] hb _) ?_;refine R.not ?_;refine R.fin [1, 5, 7, 8, 9, 10, 17] ?_
  refine W.cond (fun ht17 => ?_) (fun ht17 => ?_)
  ·have hls := Lp (b := b) hlt
   rw [if_neg (by simpa using ht17)] at hls
   refine Z84 ?_;refine dc ?_
   refine R.append jU Tryz.type47 ?_ ?_ ?_
   ·have := L4 a b x; simp [Tryz.t47]; omega
   ·have := L4 a b x; simp [Tryz.t47]; omega
   refine Fq ?_;refine R.fin [1, 5, 8, 9, 10] ?_;refine K2 ?_;refine R.fin [1, 5, 8, 9, 10] ?_;refine Nz ?_
   simp only [hls, List.map_append, List.map_cons, List.map_nil]
   exact StCut.take (own := []) (fun _ => .refl _) (by repeat (first | exact Al | refine Ak (by first | (simp [or_imp, forall_and]; done) | exact Lq) ?_)) (by simp) (by simp)
  have hls := Lp (b := b) hlt
  rw [if_pos (by simpa using ht17)] at hls
  refine Ja ?_;refine R.fin [1, 5, 8, 9, 10] ?_;refine Nz ?_
  simp only [hls, List.map_append, List.map_cons, List.map_nil]
  exact StCut.take (own := []) (fun _ => .refl _) (by repeat (first | exact Al | refine Ak (by first | (simp [or_imp, forall_and]; done) | exact Lq) ?_)) (by simp) (by simp)
 have hxe : a.take x = a := List.take_of_length_le (by simp at ht11; omega)
 refine Z23 ?_;exact sa

theorem c37 (a b : List Col) (ha : a.length ≤ 1048576) (hb : b.length ≤ 1048576) (Hp : List AObj) : AFun Tryz.prog 37 [A4 a, A4 b] Hp (.tup [A4 (B2 a b), A4 (B2 b a)]) := by
 refine ACall.body [.tmp 4, .tmp 5] [0, 1] Tryz.func37 Tryz.ntmps37 (fun d => ?_)
 refine No ?_;refine Z32 ?_;refine R.call Tryz.call57 (c57 a b ha hb _) ?_;refine Z58 ?_;refine R.call Tryz.call57 (c57 b a hb ha _) ?_;exact nu

theorem f7 {α : Type} {p : α → Bool} {l : List α} {x : Nat} (h : x < l.length) : (l.take (x + 1)).any p = ((l.take x).any p || p l[x]) := by
 have e : l.take (x + 1) = l.take x ++ [l[x]] := by rw [List.take_succ, List.getElem?_eq_getElem h]; rfl
 rw [e, List.any_append]
 simp
theorem kv (b : List Col) (v : Col) : (b.any fun z => v == z) = b.contains v := by
 rw [List.contains_eq_any_beq]
theorem c13 (a b : List Col) (ha : a.length ≤ 1048576) (hb : b.length ≤ 1048576) (Hp : List AObj) : AFun Tryz.prog 13 [A4 a, A4 b] Hp (A4 (B2 a b)) := by
 refine ACall.body [.tmp 4] [0, 1] Tryz.func13 Tryz.ntmps13 (fun d => ?_)
 refine Z75 ?_;refine S2 ?_;refine Nx ?_;refine Z52 ?_;refine R.fin [0, 1, 5, 6] ?_
 refine AW.loopC (α := Nat) (fun x => ⟨44, A2 0 (A4 a) (A2 1 (A4 b) (A2 5 (.slice true 2 ((B2 (a.take x) b).map B3)) (A2 6 (A3 (x : Nat)) (fun _ => .any)))), Hp, [], [], none⟩) (fun x => x ≤ a.length) (fun x => a.length - x) (0) (Nat.zero_le _) (StLe.of_eq (by simp [B2])) rfl (fun x hx => ?_)
 refine Z83 ?_;refine R.fin [0, 1, 5, 6, 13] ?_
 refine W.cond (fun ht13 => ?_) (fun ht13 => ?_)
 ·have hlt : x < a.length := by simpa using ht13
  refine Z46 ?_;refine Z1 ?_;refine R.fin [0, 1, 5, 6, 7] ?_;refine Z52 ?_;refine R.fin [0, 1, 5, 6, 7, 8] ?_
  refine AW.loopC (α := Nat) (fun k => ⟨44, A2 0 (A4 a) (A2 1 (A4 b) (A2 5 (.slice true 2 ((B2 (a.take x) b).map B3)) (A2 6 (A3 (x : Nat)) (A2 7 (Am ((b.take k).any fun z => a[x] == z)) (A2 8 (A3 (k : Nat)) (fun _ => .any)))))), Hp, [], [], none⟩) (fun k => k ≤ b.length) (fun k => b.length - k) (0) (Nat.zero_le _) (StLe.refl _) rfl (fun k hk => ?_)
  refine Z83 ?_;refine R.fin [0, 1, 5, 6, 7, 8, 19] ?_
  refine W.cond (fun ht19 => ?_) (fun ht19 => ?_)
  ·have hlk : k < b.length := by simpa using ht19
   refine Z46 ?_;refine W.draw0 [0, 1, 3, 3, 15, 31, 3, 3, 195, 451, 1023, 2047, 4095] 10 Ah (by kernel_rfl) ?_;refine Z54 ?_;refine W9 ?_;refine H.indexAddr (x) (B3 a[x]) jU jS (fun _ => A9 hlt) ?_;refine H.loadRoN jA jS ?_;refine W9 ?_;refine H.indexAddr (k) (B3 b[k]) jU jS (fun _ => A9 hlk) ?_;refine H.loadRoN jA jS ?_;refine D.tail ?_;refine G.eqlAgg om (Sb a[x].kind b[k].kind a[x].name b[k].name) ?_;refine W7 ?_;refine R.fin [0, 1, 5, 6, 7, 8] ?_;refine Z90 ?_;refine R.fin [0, 1, 5, 6, 7, 8] ?_;exact K.lpN (k + 1) hlk (by omega) (StCut.of_eq (by rw [f7 hlk, ku (a := a[x]) (b := b[k]), ← L2]; rfl))
  have hke : b.take k = b := List.take_of_length_le (by simp at ht19; omega)
  have hls := Lp (b := b) hlt
  rw [hke, kv]
  refine Ts ?_;refine R.not ?_;refine R.fin [0, 1, 5, 6, 35] ?_
  refine W.cond (fun ht35 => ?_) (fun ht35 => ?_)
  ·rw [if_neg (by simpa using ht35)] at hls
   refine Z84 ?_;refine Z58 ?_;refine R.indexAddr (x) (B3 a[x]) jU jS (A9 hlt) ?_;refine j9 ?_
   refine R.append jU Tryz.type47 ?_ ?_ ?_
   ·have := L4 a b x; simp [Tryz.t47]; omega
   ·have := L4 a b x; simp [Tryz.t47]; omega
   refine Fq ?_;refine R.fin [0, 1, 5, 6] ?_;refine Z90 ?_;exact qd
  rw [if_pos (by simpa using ht35)] at hls
  refine Z85 ?_;exact qd
 have hxe : a.take x = a := List.take_of_length_le (by simp at ht13; omega)
 refine Z47 ?_;exact sa

def E3 (c : List Col) (take : List Str) (j : Nat) (nm : Str) : Bool := !(decide (Af nm c < 0) || (Ok nm take != (j : Int)))
def Di (c : List Col) (take : List Str) : Bool := take.zipIdx.all fun x => E3 c take x.2 x.1
theorem takenM_true {c : List Col} {take : List Str} : Di c take = true ↔ ∀ (j : Nat) (y : Str), take[j]? = some y → E3 c take j y = true := K4
def En (c : List Col) (x : Nat) (y : Col) : Bool := !((!Dy y.name) || (Af y.name c != (x : Int)))
def E7 (c : List Col) : Bool := c.zipIdx.all fun x => En c x.2 x.1
theorem namedC_true {c : List Col} : E7 c = true ↔ ∀ (j : Nat) (y : Col), c[j]? = some y → En c j y = true := K4
def B6 (c : List Col) (take : List Str) : List Col := c.filter fun y => !take.contains y.name
theorem Y6 {c : List Col} {take : List Str} {k : Nat} {y : Col} (h : c[k]? = some y) (hn : take.contains y.name = false) : B6 (c.take (k + 1)) take = B6 (c.take k) take ++ [y] := by
 unfold B6
 have e : c.take (k + 1) = c.take k ++ [y] := by rw [List.take_succ, h]; rfl
 have hm : ¬ y.name ∈ take := by simpa using hn
 rw [e, List.filter_append]
 simp [List.filter_cons, hm]
theorem Qr {c : List Col} {take : List Str} {k : Nat} {y : Col} (h : c[k]? = some y) (hn : take.contains y.name = true) : B6 (c.take (k + 1)) take = B6 (c.take k) take := by
 unfold B6
 have e : c.take (k + 1) = c.take k ++ [y] := by rw [List.take_succ, h]; rfl
 have hm : y.name ∈ take := by simpa using hn
 rw [e, List.filter_append]
 simp [List.filter_cons, hm]
theorem Co (c : List Col) (take : List Str) : (B6 c take).length ≤ c.length := List.length_filter_le _ _
def Bv (c : List Col) (take : List Str) (give : List Col) : List Col × Int :=
 if B1 c = false then ([], 1) else if Di c take = false then ([], 9) else if E7 (B6 c take ++ give) = false then ([], 9)
 else if Cw (B6 c take ++ give) = false then ([], 10) else if 12 < (B6 c take ++ give).length then ([], 3) else (B6 c take ++ give, 0)
theorem f8 {c : List Col} {take : List Str} {give : List Col} (h : B1 c = false) : Bv c take give = ([], 1) := by unfold Bv; rw [if_pos h]
theorem Ww {c : List Col} {take : List Str} {give : List Col} (h : B1 c = true) (h2 : Di c take = false) : Bv c take give = ([], 9) := by unfold Bv; rw [if_neg (by rw [h]; simp), if_pos h2]
theorem Wx {c : List Col} {take : List Str} {give out : List Col} (h : B1 c = true) (h2 : Di c take = true) (ho : B6 c take ++ give = out) (h3 : E7 out = false) : Bv c take give = ([], 9) := by
 unfold Bv; rw [ho, if_neg (by rw [h]; simp), if_neg (by rw [h2]; simp), if_pos h3]
theorem Wy {c : List Col} {take : List Str} {give out : List Col} (h : B1 c = true) (h2 : Di c take = true) (ho : B6 c take ++ give = out) (h3 : E7 out = true) (h4 : Cw out = false) : Bv c take give = ([], 10) := by
 unfold Bv; rw [ho, if_neg (by rw [h]; simp), if_neg (by rw [h2]; simp), if_neg (by rw [h3]; simp), if_pos h4]
theorem Wz {c : List Col} {take : List Str} {give out : List Col} (h : B1 c = true) (h2 : Di c take = true) (ho : B6 c take ++ give = out) (h3 : E7 out = true) (h4 : Cw out = true) (h5 : 12 < out.length) : Bv c take give = ([], 3) := by
 unfold Bv; rw [ho, if_neg (by rw [h]; simp), if_neg (by rw [h2]; simp), if_neg (by rw [h3]; simp), if_neg (by rw [h4]; simp), if_pos h5]
theorem X0 {c : List Col} {take : List Str} {give out : List Col} (h : B1 c = true) (h2 : Di c take = true) (ho : B6 c take ++ give = out) (h3 : E7 out = true) (h4 : Cw out = true) (h5 : ¬ 12 < out.length) : Bv c take give = (out, 0) := by
 unfold Bv; rw [ho, if_neg (by rw [h]; simp), if_neg (by rw [h2]; simp), if_neg (by rw [h3]; simp), if_neg (by rw [h4]; simp), if_neg h5]
theorem H5 {c : List Col} (h : B1 c = true) : c.length ≤ 12 := by
 unfold B1 at h
 simp at h
 omega
theorem X1 {c give : List Col} {take : List Str} {out : List Col} (hc : OkCols c) (h : B1 c = true) (hg : OkCols give) (hg2 : give.length ≤ 1000000) (ho : B6 c take ++ give = out) : OkCols out := by
 subst ho
 have h1 := Co c take
 have h2 := H5 h
 refine ⟨by simp only [List.length_append]; omega, fun y hy => ?_⟩
 rcases List.mem_append.1 hy with hy | hy
 ·exact hc.2 y ((List.mem_filter.1 hy).1)
 exact hg.2 y hy
theorem wd (c : List Col) (hc : OkCols c) (take : List Str) (ht : take.length ≤ 1048576) (Hp : List AObj) : AFun Tryz.prog 158 [A4 c, C2 take] Hp (Am (Di c take)) := by
 refine ACall.body [.tmp 4] [0, 1] Tryz.func158 Tryz.ntmps158 (fun d => ?_)
 refine Z75 ?_;refine S1 ?_;refine R.fin [0, 1, 7, 8, 9] ?_
 refine AW.loopC (α := Nat) (fun x => ⟨26, A2 0 (A4 c) (A2 1 (C2 take) (A2 7 (C2 take) (A2 8 (A3 take.length) (A2 9 (A3 (x : Nat)) (fun _ => .any))))), Hp, [], [], none⟩) (fun x => x ≤ take.length ∧ ∀ (j : Nat) (y : Str), j < x → take[j]? = some y → E3 c take j y = true) (fun x => take.length - x) (0) (by simp) (StLe.of_eq (by simp)) rfl (fun x hx => ?_)
 refine Z57 ?_;refine R.fin [0, 1, 7, 8, 9, 10] ?_
 refine W.condX (fun ht10 => ?_) (fun ht10 => ?_)
 ·have hlt : x < take.length := by simpa using ht10
  refine Mw ?_;refine R.indexAddr (x) (A7 take[x]) jU jS (A9 hlt) ?_;refine Dw ?_;refine Z8 ?_;refine R.fin [0, 1, 5, 6, 7, 8, 9] ?_;refine Z32 ?_;refine R.call Tryz.call84 (c84 c hc _ _) ?_;refine R.lss ?_;refine Z97 ?_;refine G.call Tryz.call115 (fun hB => u1 take _ ht _) ?_;refine Wb ?_;refine R.fin [0, 1, 7, 8, 9, 24] ?_
  refine W.cond (fun ht24 => ?_) (fun ht24 => ?_)
  ·refine Jz ?_;refine Z61 ?_
   exact K.fin (V.one V.tmp) ⟨by rw [show Di c take = false from Bool.eq_false_iff.2 fun h => by have := takenM_true.1 h x take[x] (List.getElem?_eq_getElem hlt); unfold E3 at this; rw [ht24] at this; cases this], rfl⟩
  refine Ja ?_;refine R.fin [0, 1, 7, 8, 9] ?_;exact K.lpN (x + 1) ⟨hlt, E6 hlt hx.2 (by unfold E3; rw [ht24]; rfl)⟩ (by omega) (StCut.of_eq rfl)
 refine Z23 ?_;refine Jz ?_;exact K.fin (V.one V.tmp) ⟨by rw [takenM_true.2 (Ev (by simp at ht10; omega) hx.2)], rfl⟩

theorem we (c : List Col) (hc : OkCols c) (Hp : List AObj) : AFun Tryz.prog 160 [A4 c] Hp (Am (E7 c)) := by
 refine ACall.body [.tmp 2] [0] Tryz.func160 Tryz.ntmps160 (fun d => ?_)
 refine Z55 ?_;refine S1 ?_;refine R.fin [0, 5, 6, 7] ?_
 refine AW.loopC (α := Nat) (fun x => ⟨25, A2 0 (A4 c) (A2 5 (A4 c) (A2 6 (A3 c.length) (A2 7 (A3 (x : Nat)) (fun _ => .any)))), Hp, [], [], none⟩) (fun x => x ≤ c.length ∧ ∀ (j : Nat) (y : Col), j < x → c[j]? = some y → En c j y = true) (fun x => c.length - x) (0) (by simp) (StLe.of_eq (by simp)) rfl (fun x hx => ?_)
 refine Z57 ?_;refine R.fin [0, 5, 6, 7, 8] ?_
 refine W.condX (fun ht8 => ?_) (fun ht8 => ?_)
 ·have hlt : x < c.length := by simpa using ht8
  have hcl := hc.len
  refine Mw ?_;refine Z76 ?_;refine W4 ?_;refine R.fin [0, 3, 4, 5, 6, 7] ?_;refine Ba ?_;refine Zl ?_;refine R.call Tryz.call119 (kf _ (hc.names _ (List.getElem_mem hlt)) _) ?_;refine Py ?_;refine G.fieldAddrPtr (fo := 0) jU Tryz.sizeOf9 ?_;refine G.loadOwn jA ?_;refine G.call Tryz.call84 (fun hB => c84 c hc _ _) ?_;refine Wb ?_;refine R.fin [0, 5, 6, 7, 23] ?_
  refine W.cond (fun ht23 => ?_) (fun ht23 => ?_)
  ·rw [Ca] at ht23
   refine Pw ?_
   exact K.fin (V.one V.tmp) ⟨by rw [show E7 c = false from Bool.eq_false_iff.2 fun h => by have := namedC_true.1 h x c[x] (List.getElem?_eq_getElem hlt); unfold En at this; rw [ht23] at this; cases this], rfl⟩
  rw [Ca] at ht23
  refine Ja ?_;refine R.fin [0, 5, 6, 7] ?_
  refine K.lpN (x + 1) ⟨hlt, E6 hlt hx.2 (by unfold En; rw [ht23]; rfl)⟩ (by omega) ?_
  exact StCut.take (own := []) (fun _ => .refl _) (by repeat (first | exact Al | refine Ak (by simp [or_imp, forall_and]) ?_)) (by simp) (by simp)
 refine Z23 ?_;refine Z67 ?_;exact K.fin (V.one V.tmp) ⟨by rw [namedC_true.2 (Ev (by simp at ht8; omega) hx.2)], rfl⟩

theorem wg (c : List Col) (take : List Str) (Hp : List AObj) : AFun Tryz.prog 159 [A4 c, C2 take] Hp (.fn (.func 169) [] [.ro [A4 c], .ro [C2 take]]) := by
 refine ACall.body [.tmp 4] [0, 1] Tryz.func159 Tryz.ntmps159 (fun d => ?_)
 refine Z30 ?_;refine Zu ?_;refine R.fin [2, 3] ?_;refine Ba ?_;refine dk ?_;exact Zo

theorem wh (l : Nat) (c : List Col) (take : List Str) (hc : c.length ≤ 1048576) (ht : take.length ≤ 1048576) (U : Nat → List AObj) (hlen : ∀ k, (U k).length = (U 0).length) (hll : l < (U 0).length)
  (hlw : ∀ k, ∀ x ∈ U k, ObjLow (U 0).length x) (hn : ∀ k y, c[k]? = some y → take.contains y.name = true → U (k + 1) = U k)
  (hy : ∀ k y X, c[k]? = some y → take.contains y.name = false → AYield Tryz.prog l [B3 y] (U k ++ X) (fun b H' => b = true ∧ H' = U (k + 1) ++ X)) : ACall Tryz.prog 169 [.yield l, .ro [A4 c], .ro [C2 take]] (U 0) (fun _ H' => H' = U c.length) := by
 refine ACall.body [] [0, 1, 2] Tryz.func169 Tryz.ntmps169 (fun d => ?_)
 refine Zs ?_;refine Z64 ?_;refine R.fin [0, 2, 6, 7, 8] ?_
 refine AW.loopC (α := Nat) (fun x => ⟨24, A2 0 (.yield l) (A2 2 (.ro [C2 take]) (A2 6 (A4 c) (A2 7 (A3 c.length) (A2 8 (A3 (x : Nat)) (fun _ => .any))))), U x, [], [], none⟩) (fun x => x ≤ c.length) (fun x => c.length - x) (0) (Nat.zero_le _) (StLe.of_eq (by simp)) rfl (fun x hx => ?_)
 refine Z57 ?_;refine R.fin [0, 2, 6, 7, 8, 9] ?_
 refine W.condX (fun ht9 => ?_) (fun ht9 => ?_)
 ·have hlt : x < c.length := by simpa using ht9
  refine J9 ?_;refine Z76 ?_;refine Z42 ?_;refine R.fin [0, 2, 5, 6, 7, 8] ?_;refine Zs ?_;refine Zl ?_;refine R.call Tryz.call88 (c88 take _ ht _) ?_;refine Py ?_;refine G.loadOwnN jA jS ?_
  refine G.yield (l := l) (C := ((!take.contains c[x].name) == true)) (args := [B3 c[x]]) (fun hC => hy x c[x] _ (List.getElem?_eq_getElem hlt) (by simpa using hC)) ?_
  intro b V O hV hb hb0
  have hVO : V = U (x + 1) ∧ O = [AObj.cells 47 [A7 c[x].name, A3 c[x].kind]] ∧ (take.contains c[x].name = false → b = true) := by
   cases hcn : take.contains c[x].name with
   | true =>
    obtain ⟨h1, h2⟩ := hb0 (by rw [hcn]; rfl)
    exact ⟨h1.trans (hn x c[x] (List.getElem?_eq_getElem hlt) hcn).symm, h2, fun e => by cases e⟩
   | false =>
    obtain ⟨h1, h2⟩ := hb (by rw [hcn]; rfl)
    have h3 := List.append_inj h2 (by rw [hV, hlen x, hlen (x + 1)])
    exact ⟨h3.1, h3.2, fun _ => h1⟩
  obtain ⟨rfl, rfl, hbt⟩ := hVO
  refine ⟨fun _ => by rw [hlen (x + 1)]; exact hlw (x + 1), fun o ho => (by cases ho), ?_⟩
  refine G.not ?_;refine Hf ?_;refine R.fin [0, 2, 6, 7, 8, 22] ?_
  refine W.cond (fun ht22 => ?_) (fun ht22 => ?_)
  ·exfalso
   have hcf : take.contains c[x].name = false := by simp at ht22 ⊢; exact ht22.1
   rw [hbt hcf] at ht22
   simp at ht22
  refine Ja ?_;refine R.fin [0, 2, 6, 7, 8] ?_;refine Nz ?_
  exact StCut.take (own := []) (fun _ => .refl _) (by repeat (first | exact Al | refine Ak (by first | (simp [or_imp, forall_and]; done) | (have := hlen (x + 1); simp; omega)) ?_)) (by simp) (by simp)
 have hxe : x = c.length := by simp at ht9; omega
 exact ng

theorem Uh {c : List Col} {take : List Str} {x : Nat} (hlt : x < take.length) (h : E3 c take x take[x] = false) : Di c take = false :=
 Bool.eq_false_iff.2 fun h' => by rw [takenM_true.1 h' x take[x] (List.getElem?_eq_getElem hlt)] at h; cases h
theorem X2 {α : Type} [BEq α] [LawfulBEq α] {v : α} {l : List α} {k x : Nat} (hlk : k < l.length) (hkx : k < x) (h : l[k] = v) : (Ok v l != (x : Int)) = true := by
 rw [bne_iff_ne]
 intro e
 unfold Ok at e
 cases hf : l.findIdx? (· == v) with
 | none => rw [hf] at e; exact absurd (show (-1 : Int) = (x : Int) from e) (by omega)
 | some i =>
  rw [hf] at e
  have hix : i = x := by simp at e; omega
  subst hix
  rw [List.findIdx?_eq_some_iff_getElem] at hf
  obtain ⟨_, _, h3⟩ := hf
  have := h3 k hkx
  rw [h] at this
  simp at this
theorem f9 {α : Type} {p : α → Bool} {l : List α} {x : Nat} (h : x < l.length) : (l.take (x + 1)).all p = ((l.take x).all p && p l[x]) := by
 have e : l.take (x + 1) = l.take x ++ [l[x]] := by rw [List.take_succ, List.getElem?_eq_getElem h]; rfl
 rw [e, List.all_append]
 simp
theorem oo (l : List Str) (n : Str) : (l.all fun t => !(t == n)) = !l.contains n := by
 induction l with
 | nil => rfl
 | cons x r ih =>
  rw [List.all_cons, ih, List.contains_cons, Bool.not_or]
  congr 2
  exact Bool.beq_comm ..
def K7 (y : Col) : Bool := !(decide (y.kind < 1) || decide ((3 : Int) < y.kind))
theorem Ui (c : List Col) (j : Nat) (y : Col) : Jj c j y = (En c j y && K7 y) := by
 unfold Jj En K7
 cases Dy y.name <;> cases decide (y.kind < 1) <;> cases decide ((3 : Int) < y.kind) <;> cases (Af y.name c != (j : Int)) <;> rfl
theorem X3 {c : List Col} (h : E7 c = true) (hk : ∀ (j : Nat) (y : Col), c[j]? = some y → K7 y = true) : Cw c = true :=
 colsM_true.2 fun j y hj => by rw [Ui, namedC_true.1 h j y hj, hk j y hj]; rfl
theorem Sd {c : List Col} {x : Nat} (hlt : x < c.length) (hk : K7 c[x] = false) : Cw c = false :=
 Bool.eq_false_iff.2 fun h => by have := colsM_true.1 h x c[x] (List.getElem?_eq_getElem hlt); rw [Ui, hk, Bool.and_false] at this; cases this
theorem fa {c : List Col} {x : Nat} (hlt : x < c.length) (hk : En c x c[x] = false) : E7 c = false :=
 Bool.eq_false_iff.2 fun h => by rw [namedC_true.1 h x c[x] (List.getElem?_eq_getElem hlt)] at hk; cases hk
theorem c48 (c : List Col) (hc : OkCols c) (take : List Str) (ht : take.length ≤ 1048576) (give : List Col) (hg : OkCols give) (hg2 : give.length ≤ 1000000) (Hp : List AObj) : AFun Tryz.prog 48 [A4 c, C2 take, A4 give] Hp (.tup [A4 (Bv c take give).1, A3 (Bv c take give).2]) := by
 refine ACall.body [.tmp 6, .tmp 7] [0, 1, 2] Tryz.func48 Tryz.ntmps48 (fun d => ?_)
 refine Z48 ?_;refine R.fin [0, 1, 2] ?_;refine Z10 ?_;refine R.call Tryz.call26 (c26 c hc _) ?_;refine R.not ?_;refine R.fin [0, 1, 2, 18] ?_
 refine W.cond (fun ht18 => ?_) (fun ht18 => ?_)
 ·have hr : B1 c = false := by simpa using ht18
  refine Ns ?_;exact qx
 have hr : B1 c = true := by simpa using ht18
 refine Kx ?_;refine R.fin [0, 1, 2, 8] ?_
 refine AW.loopC (α := Nat) (fun x => ⟨131, A2 0 (A4 c) (A2 1 (C2 take) (A2 2 (A4 give) (A2 8 (A3 (x : Nat)) (fun _ => .any)))), Hp, [], [], none⟩) (fun x => x ≤ take.length ∧ ∀ (j : Nat) (y : Str), j < x → take[j]? = some y → E3 c take j y = true) (fun x => take.length - x) (0) (by simp) (StLe.refl _) rfl (fun x hx => ?_)
 refine Z83 ?_;refine R.fin [0, 1, 2, 8, 22] ?_
 refine W.cond (fun ht22 => ?_) (fun ht22 => ?_)
 ·have hlt : x < take.length := by simpa using ht22
  refine Z46 ?_;refine Z10 ?_;refine Z58 ?_;refine R.indexAddr (x) (A7 take[x]) jU jS (A9 hlt) ?_;refine Dw ?_;refine R.call Tryz.call50 (c50 c hc _ _) ?_;refine R.lss ?_;refine R.fin [0, 1, 2, 8, 31] ?_
  refine W.cond (fun ht31 => ?_) (fun ht31 => ?_)
  ·have hkn : Di c take = false := Uh hlt (by unfold E3; rw [ht31]; rfl)
   refine Ns ?_;refine K.thR ?_;exact qu
  refine Z4 ?_;refine Z1 ?_;refine R.fin [0, 1, 2, 8, 9] ?_
  refine AW.loopC (α := Nat) (fun k => ⟨131, A2 0 (A4 c) (A2 1 (C2 take) (A2 2 (A4 give) (A2 8 (A3 (x : Nat)) (A2 9 (A3 (k : Nat)) (fun _ => .any))))), Hp, [], [], none⟩) (fun k => k ≤ x ∧ ∀ (j : Nat) (y : Str), j < k → take[j]? = some y → ¬ (y = take[x])) (fun k => x - k) (0) (by simp) (StLe.refl _) rfl (fun k hk => ?_)
  refine Nq ?_;refine R.lss ?_;refine R.fin [0, 1, 2, 8, 9, 34] ?_
  refine W.cond (fun ht34 => ?_) (fun ht34 => ?_)
  ·have hkx : k < x := by simpa using ht34
   have hlk : k < take.length := by omega
   refine sk ?_;refine Z54 ?_;refine D.indexAddr (k) (A7 take[k]) jU jS (A9 hlk) ?_;refine dv ?_;refine D.indexAddr (x) (A7 take[x]) jU jS (A9 hlt) ?_;refine H1 ?_;refine D.tail ?_;refine R.seql ?_;refine R.fin [0, 1, 2, 8, 9, 45] ?_
   refine W.cond (fun ht45 => ?_) (fun ht45 => ?_)
   ·have hkn : Di c take = false := Uh hlt (by unfold E3; rw [X2 hlk hkx (by simpa using ht45)]; simp)
    refine Ns ?_;refine Z5 ?_;refine K.lpR ?_;exact qu
   refine Z85 ?_;refine R.fin [0, 1, 2, 8, 9] ?_;exact K.lpN (k + 1) ⟨hkx, Aq (l := take) hlk hk.2 (by simpa using ht45)⟩ (by omega) (StCut.of_eq rfl)
  have hkx : k = x := by simp at ht34; omega
  have htk : E3 c take x take[x] = true := by
   unfold E3
   rw [ht31, f5 hlt rfl (fun j y hj => hk.2 j y (by omega))]
   simp
  refine Z29 ?_;refine K.lpE ?_;refine Z90 ?_;refine R.fin [0, 1, 2, 8] ?_;exact K.lpN (x + 1) ⟨hlt, E6 hlt hx.2 htk⟩ (by omega) (StCut.of_eq rfl)
 have hk0 : Di c take = true := takenM_true.2 (Ev (by simp at ht22; omega) hx.2)
 refine Z47 ?_;refine S2 ?_;refine R.fin [0, 1, 2, 10] ?_;refine Z52 ?_;refine R.fin [0, 1, 2, 10, 11] ?_
 refine AW.loopC (α := Nat) (fun i => ⟨131, A2 0 (A4 c) (A2 1 (C2 take) (A2 2 (A4 give) (A2 10 (.slice true 2 ((B6 (c.take i) take).map B3)) (A2 11 (A3 (i : Nat)) (fun _ => .any))))), Hp, [], [], none⟩) (fun i => i ≤ c.length) (fun i => c.length - i) (0) (Nat.zero_le _) (StLe.of_eq (by simp [B6])) rfl (fun i hi => ?_)
 refine Z83 ?_;refine R.fin [0, 1, 2, 10, 11, 50] ?_
 refine W.cond (fun ht50 => ?_) (fun ht50 => ?_)
 ·have hli : i < c.length := by simpa using ht50
  have hcl := hc.len
  refine Z46 ?_;refine Z1 ?_;refine R.fin [0, 1, 2, 10, 11, 12] ?_;refine Z52 ?_;refine R.fin [0, 1, 2, 10, 11, 12, 13] ?_
  refine AW.loopC (α := Nat) (fun m => ⟨131, A2 0 (A4 c) (A2 1 (C2 take) (A2 2 (A4 give) (A2 10 (.slice true 2 ((B6 (c.take i) take).map B3)) (A2 11 (A3 (i : Nat)) (A2 12 (Am ((take.take m).all fun t => !(t == c[i].name))) (A2 13 (A3 (m : Nat)) (fun _ => .any))))))), Hp, [], [], none⟩) (fun m => m ≤ take.length) (fun m => take.length - m) (0) (Nat.zero_le _) (StLe.refl _) rfl (fun m hm => ?_)
  refine Z83 ?_;refine R.fin [0, 1, 2, 10, 11, 12, 13, 56] ?_
  refine W.cond (fun ht56 => ?_) (fun ht56 => ?_)
  ·have hlm : m < take.length := by simpa using ht56
   refine Z46 ?_;refine W.draw0 [0, 1, 3, 3, 15, 31, 3, 3, 195, 451, 963, 2047, 4095, 8191] 11 Ah (by kernel_rfl) ?_;refine Z54 ?_;refine W9 ?_;refine H.indexAddr (m) (A7 take[m]) jU jS (fun _ => A9 hlm) ?_;refine Hg ?_;refine W9 ?_;refine H.indexAddr (i) (B3 c[i]) jU jS (fun _ => A9 hli) ?_;refine nl ?_;refine D.tail ?_;refine G.sneq ?_;refine Z25 ?_;refine R.fin [0, 1, 2, 10, 11, 12, 13] ?_;refine Z90 ?_;refine R.fin [0, 1, 2, 10, 11, 12, 13] ?_;exact K.lpN (m + 1) hlm (by omega) (StCut.of_eq (by rw [f9 hlm]; rfl))
  have hme : take.take m = take := List.take_of_length_le (by simp at ht56; omega)
  rw [hme, oo]
  refine Ts ?_;refine R.fin [0, 1, 2, 10, 11, 72] ?_
  refine W.cond (fun ht72 => ?_) (fun ht72 => ?_)
  ·have hst := Y6 (take := take) (List.getElem?_eq_getElem hli) (by simpa using ht72)
   refine Z84 ?_;refine Z58 ?_;refine R.indexAddr (i) (B3 c[i]) jU jS (A9 hli) ?_;refine j9 ?_
   refine R.append jU Tryz.type47 ?_ ?_ ?_
   ·have h1 := Co (c.take i) take; have h2 := hc.len; simp only [List.length_take] at h1; simp [Tryz.t47]; omega
   ·have h1 := Co (c.take i) take; have h2 := hc.len; simp only [List.length_take] at h1; simp [Tryz.t47]; omega
   refine Fq ?_;refine R.fin [0, 1, 2, 10, 11] ?_;refine Z90 ?_;exact qc
  have hst := Qr (take := take) (List.getElem?_eq_getElem hli) (by simpa using ht72)
  refine Z85 ?_;exact qc
 have hie : c.take i = c := List.take_of_length_le (by simp at ht50; omega)
 rw [hie]
 refine Z47 ?_;refine Ba ?_;refine R.moveT ?_;refine Av ?_
 refine R.append jU Tryz.type47 ?_ ?_ ?_
 ·have h1 := Co c take; have h2 := H5 hr; simp [Tryz.t47]; omega
 ·have h1 := Co c take; have h2 := H5 hr; simp [Tryz.t47]; omega
 refine Fq ?_;refine R.fin [10] ?_;refine Z16 ?_
 have e10 : (B6 c take).map B3 ++ give.map B3 = (B6 c take ++ give).map B3 := (List.map_append ..).symm
 rw [e10]
 generalize hout : B6 c take ++ give = out
 have ho : OkCols out := X1 hc hr hg hg2 hout
 have hol := ho.len
 refine Ar ?_;refine R.fin [10, 14] ?_
 refine AW.loopC (α := Nat) (fun a => ⟨131, A2 10 (.slice true 2 (out.map B3)) (A2 14 (A3 (a : Nat)) (fun _ => .any)), Hp, [], [], none⟩) (fun a => a ≤ out.length ∧ ∀ (j : Nat) (y : Col), j < a → out[j]? = some y → En out j y = true) (fun a => out.length - a) (0) (by simp) (StLe.refl _) rfl (fun a ha => ?_)
 refine Z83 ?_;refine R.fin [10, 14, 86] ?_
 refine W.cond (fun ht86 => ?_) (fun ht86 => ?_)
 ·have hla : a < out.length := by simpa using ht86
  refine Jc ?_;refine R.indexAddr (a) (B3 out[a]) jU jS (A9 hla) ?_;refine Z79 ?_;refine R.call Tryz.call67 (c67 _ (ho.names _ (List.getElem_mem hla)) _) ?_;refine R.not ?_;refine Z97 ?_;refine G.move ?_;refine G.indexAddr (a) (B3 out[a]) jU jS (fun _ => A9 hla) ?_;refine G.fieldAddrRo (off := 0) jU Tryz.sizeOf9 ?_;refine K3 ?_;refine G.call Tryz.call50 (fun hB => c50 out ho _ _) ?_;refine Wb ?_;refine R.fin [10, 14, 106] ?_
  refine W.cond (fun ht106 => ?_) (fun ht106 => ?_)
  ·have hn : E7 out = false := fa hla (by unfold En; rw [ht106]; rfl)
   refine Ns ?_;refine Z61 ?_;exact K.fin (V.two V.tmp V.tmp) ⟨by rw [Wx hr hk0 hout hn]; try rfl, rfl⟩
  refine Z85 ?_;refine R.fin [10, 14] ?_;exact K.lpN (a + 1) ⟨hla, E6 hla ha.2 (by unfold En; rw [ht106]; rfl)⟩ (by omega) (StCut.of_eq rfl)
 have hn : E7 out = true := namedC_true.2 (Ev (by simp at ht86; omega) ha.2)
 refine Wg ?_;refine R.fin [10, 15] ?_
 refine AW.loopC (α := Nat) (fun b => ⟨131, A2 10 (.slice true 2 (out.map B3)) (A2 15 (A3 (b : Nat)) (fun _ => .any)), Hp, [], [], none⟩) (fun b => b ≤ out.length ∧ ∀ (j : Nat) (y : Col), j < b → out[j]? = some y → K7 y = true) (fun b => out.length - b) (0) (by simp) (StLe.refl _) rfl (fun b hb => ?_)
 refine Z83 ?_;refine R.fin [10, 15, 110] ?_
 refine W.cond (fun ht110 => ?_) (fun ht110 => ?_)
 ·have hlb : b < out.length := by simpa using ht110
  refine Jc ?_;refine R.indexAddr (b) (B3 out[b]) jU jS (A9 hlb) ?_;refine Z87 ?_;refine R.lss ?_;refine Z97 ?_;refine G.indexAddr (b) (B3 out[b]) jU jS (fun _ => A9 hlb) ?_;refine nk ?_;refine Z95 ?_;refine R.fin [10, 15, 126] ?_
  refine W.cond (fun ht126 => ?_) (fun ht126 => ?_)
  ·have hq : Cw out = false := Sd hlb (by unfold K7; rw [ht126]; rfl)
   refine Ns ?_;refine Z61 ?_;exact K.fin (V.two V.tmp V.tmp) ⟨by rw [Wy hr hk0 hout hn hq]; try rfl, rfl⟩
  refine Z85 ?_;refine R.fin [10, 15] ?_;exact K.lpN (b + 1) ⟨hlb, Aq hlb hb.2 (by unfold K7; rw [ht126]; rfl)⟩ (by omega) (StCut.of_eq rfl)
 have hq : Cw out = true := X3 hn (H2 (by simp at ht110; omega) hb.2)
 refine Z47 ?_;refine Z10 ?_;refine Px ?_;refine R.fin [10, 129] ?_
 refine W.cond (fun ht129 => ?_) (fun ht129 => ?_)
 ·have h12 : 12 < out.length := by simp at ht129; omega
  refine Ns ?_;refine K.thR ?_;exact K.fin (V.two V.tmp V.tmp) ⟨by rw [Wz hr hk0 hout hn hq h12]; try rfl, rfl⟩
 have h12 : ¬ 12 < out.length := by simp at ht129; omega
 refine Z96 ?_;refine Z8 ?_;refine Z44 ?_;exact K.fin (V.two V.tmp V.tmp) ⟨by rw [X0 hr hk0 hout hn hq h12]; try rfl, rfl⟩

/-! What went and came, taken back: the same columns. -/
theorem fb {α β : Type} {f : α → β} {c : List α} (h : (c.map f).Nodup) {i j : Nat} {y z : α} (hi : c[i]? = some y) (hj : c[j]? = some z) (e : f y = f z) : i = j := by
 obtain ⟨hi', ei⟩ := List.getElem?_eq_some_iff.1 hi
 obtain ⟨hj', ej⟩ := List.getElem?_eq_some_iff.1 hj
 have h' : List.Pairwise (· ≠ ·) (c.map f) := h
 rw [List.pairwise_iff_getElem] at h'
 rcases Nat.lt_trichotomy i j with hlt | rfl | hlt
 ·have h2 := h' i j (by simpa using hi') (by simpa using hj') hlt
  rw [List.getElem_map, List.getElem_map, ei, ej] at h2
  exact absurd e h2
 ·rfl
 have h2 := h' j i (by simpa using hj') (by simpa using hi') hlt
 rw [List.getElem_map, List.getElem_map, ei, ej] at h2
 exact absurd e.symm h2
theorem Hn {c : List Col} (h : (c.map (·.name)).Nodup) {j : Nat} {y : Col} (hj : c[j]? = some y) : Af y.name c = (j : Int) := by
 obtain ⟨hj', ej⟩ := List.getElem?_eq_some_iff.1 hj
 exact O3 hj' (by rw [ej]) (fun k z hk hz e => by have := fb h hz hj e; omega)
theorem fc {c : List Col} (h : ∀ y ∈ c, ColOk y) (hn : (c.map (·.name)).Nodup) : Cw c = true := by
 rw [colsM_true]
 intro j y hj
 have ho := h y (List.mem_of_getElem? hj)
 have h1 := ho.lo
 have h3 := ho.hi
 unfold Jj
 rw [Hn hn hj, ← Ca, ho.name]
 have e1 : decide (y.kind < 1) = false := decide_eq_false (by omega)
 have e3 : decide ((3 : Int) < y.kind) = false := decide_eq_false (by omega)
 rw [e1, e3]
 simp
theorem find_mem {nm : Str} {c : List Col} : ¬ (Af nm c < 0) ↔ ∃ (j : Nat) (y : Col), c[j]? = some y ∧ y.name = nm ∧ Af nm c = (j : Int) := by
 unfold Af
 cases h : c.findIdx? (fun y => y.name == nm) with
 | none =>
  constructor
  ·intro h'; exact absurd (by decide) h'
  rintro ⟨j, y, _, _, e⟩
  exact absurd (show (-1 : Int) = (j : Int) from e) (by omega)
 | some i =>
  rw [List.findIdx?_eq_some_iff_getElem] at h
  obtain ⟨hi, e, _⟩ := h
  constructor
  ·intro _; exact ⟨i, c[i], List.getElem?_eq_getElem hi, by simpa using e, rfl⟩
  intro _ h'
  have : (i : Int) < 0 := h'
  omega
theorem kw {c : List Col} {take : List Str} {give : List Col} (h : (Bv c take give).2 = 0) : B1 c = true ∧ Di c take = true ∧ Cw (B6 c take ++ give) = true ∧ (B6 c take ++ give).length ≤ 12 ∧ Bv c take give = (B6 c take ++ give, 0) := by
 cases h1 : B1 c with
 | false => rw [f8 h1] at h; exact absurd (show (1 : Int) = 0 from h) (by decide)
 | true =>
  cases h2 : Di c take with
  | false => rw [Ww h1 h2] at h; exact absurd (show (9 : Int) = 0 from h) (by decide)
  | true =>
   cases h3 : E7 (B6 c take ++ give) with
   | false => rw [Wx h1 h2 rfl h3] at h; exact absurd (show (9 : Int) = 0 from h) (by decide)
   | true =>
    cases h4 : Cw (B6 c take ++ give) with
    | false => rw [Wy h1 h2 rfl h3 h4] at h; exact absurd (show (10 : Int) = 0 from h) (by decide)
    | true =>
     by_cases h5 : 12 < (B6 c take ++ give).length
     ·rw [Wz h1 h2 rfl h3 h4 h5] at h; exact absurd (show (3 : Int) = 0 from h) (by decide)
     exact ⟨rfl, rfl, rfl, by omega, X0 h1 h2 rfl h3 h4 h5⟩
set_option maxRecDepth 8000
/-- What a node asks of its kids, and what it is. -/
structure Sign where
 kids : List Int
 own : Int
def A0 (s : Str) : Sign := if (s == [111, 114]) || (s == [97, 110, 100]) then ⟨[3, 3], 3⟩ else if (((((s == [61]) || (s == [33, 61])) || (s == [60])) || (s == [60, 61])) || (s == [62])) || (s == [62, 61]) then ⟨[-1, -1], 3⟩ else if s == [38] then ⟨[2, 2], 2⟩ else ⟨[1, 1], 1⟩
def A1 (s : Str) : Sign := if (s == [108, 101, 110]) || (s == [110, 117, 109]) then ⟨[2], 1⟩ else if s == [115, 116, 114] then ⟨[1], 2⟩ else if (s == [108, 101, 102, 116]) || (s == [114, 105, 103, 104, 116]) then ⟨[2, 1], 2⟩ else if s == [105, 115, 110, 117, 108, 108] then ⟨[-2], 3⟩ else if s == [110, 118, 108] then ⟨[-1, -1], -1⟩ else ⟨[3, -1, -1], -1⟩
def C0 (o : Int) (t : Str) : Sign := if o == 3 then ⟨[1], 1⟩ else if o == 4 then ⟨[3], 3⟩ else if o == 5 then A0 t else A1 t
def C1 (a b : Int) : Int × Bool := if a == 0 then (b, true) else if (b == 0) || (a == b) then (a, true) else (0, false)
def Jd : List Int → List Int → Int → Option Int
 | _, [], c => some c
 | [], _ :: _, _ => none
 | w :: ws, k :: ks, c => if w == -2 then Jd ws ks c else if w == -1 then (if (C1 c k).2 then Jd ws ks (C1 c k).1 else none) else if (C1 w k).2 then Jd ws ks c else none
def Gv (s : Sign) (ks : List Int) : Int × Int := match Jd s.kids ks 0 with | none => (0, 10) | some c => if s.own == -1 then (c, 0) else (s.own, 0)
def Mf (c : List Col) (t : Str) : Int × Int := if Af t c < 0 then (0, 9) else ((c.getD (Af t c).toNat ⟨[], 0⟩).kind, 0)
def Qs (c : List Col) (o : Int) (t : Str) (v : Val) (ks : List (Int × Int)) : Int × Int :=
 if o == 1 then (v.kind, 0) else if o == 2 then Mf c t else match ks.find? (fun q => q.2 != 0) with | some q => (0, q.2) | none => Gv (C0 o t) (ks.map (·.1))
mutual
def Cl (c : List Col) : Expr → Int × Int
 | .mk o t v k => Qs c o t v (Y7 c k)
def Y7 (c : List Col) : List Expr → List (Int × Int)
  | [] => []
  | e :: r => Cl c e :: Y7 c r
 end
theorem Qt (c : List Col) : ∀ l, Y7 c l = l.map (Cl c)
 | [] => rfl
 | e :: r => by rw [Y7, Qt c r]; rfl
theorem L5 (c : List Col) (e : Expr) : Cl c e = Qs c e.op e.text e.val (e.kids.map (Cl c)) := by cases e; rw [Cl, Qt]; rfl
/-- infer.Kind. -/
def D3 (e : Expr) (c : List Col) : Int × Int := if (!(Ad e)) || !(Jk c) then (0, 1) else Cl c e
/-! The signs have as many as the nodes have kids. -/
theorem K8 (s : Str) : (A0 s).kids.length = 2 := by unfold A0; (repeat' split) <;> rfl
theorem X4 {t : Str} {n : Nat} (h : Bb t = (n : Int)) : (A1 t).kids.length = n := by
 rw [show Bb t = Bb t from rfl] at h
 by_cases hm : t ∈ arityList.map (·.1)
 ·have : ((arityList.map (·.1)).all fun s => decide (((A1 s).kids.length : Int) = Bb s)) = true := by kernel_rfl
  have := of_decide_eq_true (List.all_eq_true.1 this t hm)
  omega
 have h1 : Bb t = -1 := by
  unfold Bb
  rw [List.find?_eq_none.2 fun p hp => by
   simp only [beq_iff_eq]
   rintro rfl
   exact hm (List.mem_map.2 ⟨p, hp, rfl⟩)]
 omega
theorem H6 {e : Expr} (h : Bp e = true) (h1 : (e.op == 1) = false) (h2 : (e.op == 2) = false) : (C0 e.op e.text).kids.length = e.kids.length := by
 unfold Bp at h
 rw [h1, h2] at h
 simp only [Bool.false_eq_true, if_false] at h
 unfold C0
 by_cases h3 : (e.op == 3) = true
 ·rw [h3] at h
  simp only [Bool.true_or, if_true, Bool.and_eq_true, beq_iff_eq] at h
  rw [if_pos h3]
  show 1 = _
  omega
 have h3' : (e.op == 3) = false := by simpa using h3
 rw [if_neg h3]
 rw [h3'] at h
 by_cases h4 : (e.op == 4) = true
 ·rw [h4] at h
  simp only [Bool.false_or, if_true, Bool.and_eq_true, beq_iff_eq] at h
  rw [if_pos h4]
  show 1 = _
  omega
 have h4' : (e.op == 4) = false := by simpa using h4
 rw [if_neg h4]
 rw [h4'] at h
 simp only [Bool.or_false, Bool.false_eq_true, if_false] at h
 by_cases h5 : (e.op == 5) = true
 ·rw [h5] at h
  simp only [if_true, Bool.and_eq_true, beq_iff_eq] at h
  rw [if_pos h5, K8]
  omega
 have h5' : (e.op == 5) = false := by simpa using h5
 rw [if_neg h5]
 rw [h5'] at h
 simp only [Bool.false_eq_true, if_false] at h
 by_cases h6 : (e.op == 6) = true
 ·rw [h6] at h
  simp only [if_true, Bool.and_eq_true, beq_iff_eq] at h
  exact X4 h.2
 have h6' : (e.op == 6) = false := by simpa using h6
 rw [h6'] at h
 cases h
/-! More columns. -/
/-! A tree in a column's place. -/
set_option maxRecDepth 4000
/-- Where a parser of expressions stands: its word, its nest, its fault. -/
structure PS where
 i : Nat
 nest : Nat
 code : Int
 at_ : Int
def noV : Val := ⟨0, 0, []⟩
def A8 : Expr := .mk 0 [] noV []
def Qu (e a : Int) (S : PS) : PS := if S.code == 0 then ⟨S.i, S.nest, e, a⟩ else S
def isM (l : List Tok) (of : Str) (S : PS) : Bool := (((Dp l S.i).kind == 5) || ((Dp l S.i).kind == 2)) && Iy (Dp l S.i).text of
def Eo (S : PS) : PS := ⟨S.i + 1, S.nest, S.code, S.at_⟩
def Y8 (S : PS) : PS := ⟨S.i, S.nest + 1, S.code, S.at_⟩
def me (S : PS) : PS := ⟨S.i, S.nest - 1, S.code, S.at_⟩
def Y9 (l : List Tok) (s : Str) (S : PS) : PS := if S.code != 0 then S else if ((Dp l S.i).kind != 5) || !((Dp l S.i).text == s) then Qu 8 (Dp l S.i).at_ S else Eo S
/-- What stands one nest deeper. -/
structure Fam where
 ei : PS → Expr × PS
 no : PS → Expr × PS
 ne : PS → Expr × PS
def J3 (a : Int) (f : PS → Expr × PS) (S : PS) : Expr × PS := if (S.nest : Int) == 30 then (A8, Qu 18 a S) else ((f (Y8 S)).1, me (f (Y8 S)).2)
def Q4 (t : Str) (x y : Expr) : Expr := .mk 5 t noV [x, y]
def fe (l : List Tok) (of : Str) (f : PS → Expr × PS) : Nat → Expr × PS → Expr × PS
 | 0, r => r
 | n + 1, r => if (r.2.code == 0) && isM l of r.2 then fe l of f n (Q4 (Dp l r.2.i).text r.1 (f (Eo r.2)).1, (f (Eo r.2)).2) else r
def Qv (l : List Tok) (of : Str) (f : PS → Expr × PS) (S : PS) : Expr × PS := fe l of f l.length (f S)
def ot : Str := [32, 44, 32]
def argsF (l : List Tok) (f : PS → Expr × PS) : Nat → List Expr × PS → List Expr × PS
 | 0, r => r
 | n + 1, r => if (r.2.code == 0) && isM l ot r.2 then argsF l f n (r.1 ++ [(f (Eo r.2)).1], (f (Eo r.2)).2) else r
def mf (l : List Tok) (f : PS → Expr × PS) (S : PS) : List Expr × PS := argsF l f l.length ([(f S).1], (f S).2)
def u2 (l : List Tok) (a : Int) (f : PS → Expr × PS) (S : PS) : List Expr × PS := if (S.nest : Int) == 30 then ([], Qu 18 a S) else ((mf l f (Y8 S)).1, me (mf l f (Y8 S)).2)
def Se : Str := [41]
def Ol (l : List Tok) (D : Fam) (S : PS) : List Expr × PS := u2 l (Dp l S.i).at_ D.ei (Eo S)
def u6 (l : List Tok) (D : Fam) (t : Tok) (S : PS) : Expr × PS :=
 if Bb t.text < 0 then (A8, Qu 9 t.at_ S)
 else if ((Y9 l Se (Ol l D S).2).code == 0) && !(((Ol l D S).1.length : Int) == Bb t.text) then (A8, Qu 8 t.at_ (Y9 l Se (Ol l D S).2))
 else (.mk 6 t.text noV (Ol l D S).1, Y9 l Se (Ol l D S).2)
def orT : Str := [32, 111, 114, 32]
def u7 : Str := [32, 97, 110, 100, 32]
def wi : Str := [32, 110, 111, 116, 32]
def ua : Str := [32, 61, 32, 33, 61, 32, 60, 32, 60, 61, 32, 62, 32, 62, 61, 32]
def ub : Str := [32, 43, 32, 45, 32, 38, 32]
def mg : Str := [32, 42, 32, 47, 32, 37, 32]
def wj : Str := [32, 45, 32]
def opT : Str := [32, 40, 32]
def wl : Str := [32, 116, 114, 117, 101, 32, 102, 97, 108, 115, 101, 32, 110, 117, 108, 108, 32]
def Sf (v : Val) : Expr := .mk 1 [] v []
def mh (l : List Tok) (D : Fam) (S : PS) : Expr × PS :=
 if S.code != 0 then (A8, S)
 else if ((Dp l S.i).kind == 3) || isM l wl S then (Sf (tz (Dp l S.i).text).1, Eo S)
 else if (Dp l S.i).kind == 4 then (Sf ⟨2, 0, (Dp l S.i).text.take 200⟩, Eo S)
 else if (Dp l S.i).kind == 1 then (if isM l opT (Eo S) then u6 l D (Dp l S.i) (Eo S) else (An (Dp l S.i).text, Eo S))
 else if isM l opT S then ((J3 (Dp l S.i).at_ D.ei (Eo S)).1, Y9 l Se (J3 (Dp l S.i).at_ D.ei (Eo S)).2)
 else (A8, Qu 8 (Dp l S.i).at_ S)
def I0 (op : Int) (x : Expr) : Expr := .mk op [] noV [x]
def ou (l : List Tok) (D : Fam) (S : PS) : Expr × PS := if !isM l wj S then mh l D S else (I0 3 (J3 (Dp l S.i).at_ D.ne (Eo S)).1, (J3 (Dp l S.i).at_ D.ne (Eo S)).2)
def mi (l : List Tok) (D : Fam) : PS → Expr × PS := Qv l mg (ou l D)
def Q5 (l : List Tok) (D : Fam) : PS → Expr × PS := Qv l ub (mi l D)
def Uj (l : List Tok) (D : Fam) (S : PS) : Expr × PS :=
 if ((Q5 l D S).2.code != 0) || !isM l ua (Q5 l D S).2 then Q5 l D S
 else (Q4 (Dp l (Q5 l D S).2.i).text (Q5 l D S).1 (Q5 l D (Eo (Q5 l D S).2)).1, (Q5 l D (Eo (Q5 l D S).2)).2)
def ov (l : List Tok) (D : Fam) (S : PS) : Expr × PS := if !isM l wi S then Uj l D S else (I0 4 (J3 (Dp l S.i).at_ D.no (Eo S)).1, (J3 (Dp l S.i).at_ D.no (Eo S)).2)
def mj (l : List Tok) (D : Fam) : PS → Expr × PS := Qv l u7 (ov l D)
def Ya (l : List Tok) (D : Fam) : PS → Expr × PS := Qv l orT (mj l D)
def kx (l : List Tok) : Nat → Fam
 | 0 => ⟨fun S => (A8, S), fun S => (A8, S), fun S => (A8, S)⟩
 | d + 1 => ⟨Ya l (kx l d), ov l (kx l d), ou l (kx l d)⟩

/-! What is so of them. -/
theorem Il : ∀ {n m : Nat}, n ≤ m → ∀ {e : Expr}, okE n e → okE m e
 | 0, _, _, _, h => h.elim
 | n + 1, 0, h, _, _ => by omega
 | n + 1, m + 1, h, _, ho => ⟨ho.1, ho.2.1, fun y hy => Il (by omega) (ho.2.2 y hy)⟩
/-- The contract of one of the parser's functions. -/
abbrev ow : AObj := .cells 60 [A3 0, A7 [], A3 0, A3 0, A7 [], .nil]
theorem ky {n : Nat} : ObjLow n ow := by
 show ∀ y ∈ [A3 0, A7 [], A3 0, A3 0, A7 [], AV.nil], Low n y
 simp
theorem low_agg {n : Nat} (e : Expr) : Low n (.agg [.v (.int .i64 e.op), .v (sv e.text), .v (.int .i64 e.val.kind), .v (.int .i64 e.val.n), .v (sv e.val.s), .slice false 6 (e.kids.map A5)]) := by
 have := B0 n e
 rwa [Bg] at this
theorem Qw : ∀ (n : Nat) (e : Expr), okE n e → depthE e ≤ n
 | 0, _, h => h.elim
 | n + 1, e, h => by
  rw [J1]
  have : ∀ l : List Expr, (∀ y ∈ l, okE n y) → Ce l ≤ n := by
   intro l
   induction l with
   | nil => intro _; exact Nat.zero_le _
   | cons y r ih =>
    intro hl
    rw [Ce]
    have h1 := Qw n y (hl y (by simp))
    have h2 := ih (fun z hz => hl z (by simp [hz]))
    omega
  have := this e.kids h.2.2
  omega
theorem ff (e : Expr) (x : Nat) : At (e.kids.take x) + 1 ≤ sizeE e := by
 rw [El]
 have : ∀ (l : List Expr) (x : Nat), At (l.take x) ≤ At l := by
  intro l
  induction l with
  | nil => intro x; simp
  | cons y r ih =>
   intro x
   cases x with
   | zero => simp [At]
   | succ x =>
    have := ih x
    rw [List.take_succ_cons, At, At]
    omega
 have := this e.kids x
 omega
theorem c98 : ∀ (n : Nat) (e : Expr), okE n e → n ≤ 1048576 → ∀ Hp : List AObj, AFun Tryz.prog 98 [A5 e] Hp (A3 (depthE e : Nat)) := by
 intro n
 induction n with
 | zero => exact fun e h => h.elim
 | succ n ih =>
 intro e hok hn Hp
 refine ACall.body [.tmp 2] [0] Tryz.func98 Tryz.ntmps98 (fun d => ?_)
 refine Z89 ?_;refine Z1 ?_;refine R.fin [1, 3] ?_;refine Z52 ?_;refine Ny ?_
 refine AW.loopC (α := Nat) (fun x => ⟨25, A2 1 (.ro (Cx e)) (A2 3 (A3 (Ce (e.kids.take x) : Nat)) (A2 4 (A3 (x : Nat)) (fun _ => .any))), Hp, [], [], none⟩) (fun x => x ≤ e.kids.length) (fun x => e.kids.length - x) (0) (Nat.zero_le _) (StLe.of_eq (by simp [Ce])) rfl (fun x hx => ?_)
 refine Wd ?_;refine R.fin [1, 3, 4, 10] ?_
 refine W.cond (fun ht10 => ?_) (fun ht10 => ?_)
 ·have hlt : x < e.kids.length := by simpa using ht10
  have hkl := hok.2.1
  refine Tn ?_;refine ae ?_;refine R.call Tryz.call98 (ih e.kids[x] (hok.2.2 _ (List.getElem_mem hlt)) (by omega) _) ?_;refine Ar ?_;refine R.fin [1, 3, 4, 5] ?_;refine Z32 ?_;refine R.gtr ?_;refine R.fin [1, 3, 4, 5, 21] ?_
  refine W.cond (fun ht21 => ?_) (fun ht21 => ?_)
  ·have em : Ce (e.kids.take (x + 1)) = depthE e.kids[x] := by rw [Md _ hlt]; have := of_decide_eq_true ht21; omega
   refine Z7 ?_;refine Ar ?_;refine jl ?_;exact ql
  have em : Ce (e.kids.take (x + 1)) = Ce (e.kids.take x) := by rw [Md _ hlt]; have := of_decide_eq_false ht21; omega
  refine Z85 ?_;exact ql
 have hd1 := Qw _ e hok
 have hxe : e.kids.take x = e.kids := List.take_of_length_le (by simp at ht10; omega)
 have hdd := J1 e
 refine Ts ?_
 rw [hxe]
 refine Z21 ?_;refine Z2 ?_;exact K.fin (V.one V.tmp) ⟨by rw [hdd]; rfl, rfl⟩

theorem c99 : ∀ (n : Nat) (e : Expr), okE n e → sizeE e ≤ 1048576 → ∀ Hp : List AObj, AFun Tryz.prog 99 [A5 e] Hp (A3 (sizeE e : Nat)) := by
 intro n
 induction n with
 | zero => exact fun e h => h.elim
 | succ n ih =>
 intro e hok hn Hp
 refine ACall.body [.tmp 2] [0] Tryz.func99 Tryz.ntmps99 (fun d => ?_)
 refine Z89 ?_;refine Z1 ?_;refine R.fin [1, 3] ?_;refine Z52 ?_;refine Ny ?_
 refine AW.loopC (α := Nat) (fun x => ⟨21, A2 1 (.ro (Cx e)) (A2 3 (A3 ((At (e.kids.take x) : Nat) + 1)) (A2 4 (A3 (x : Nat)) (fun _ => .any))), Hp, [], [], none⟩) (fun x => x ≤ e.kids.length) (fun x => e.kids.length - x) (0) (Nat.zero_le _) (StLe.of_eq (by simp [At])) rfl (fun x hx => ?_)
 refine Wd ?_;refine R.fin [1, 3, 4, 9] ?_
 refine W.cond (fun ht9 => ?_) (fun ht9 => ?_)
 ·have hlt : x < e.kids.length := by simpa using ht9
  have hkl := hok.2.1
  have hs1 := Wr e.kids hlt
  have hs2 := ff e (x + 1)
  refine Z46 ?_;refine Z7 ?_;refine ae ?_
  refine R.call Tryz.call99 (ih e.kids[x] (hok.2.2 _ (List.getElem_mem hlt)) (by have := O5 e hlt; omega) _) ?_
  refine Z21 ?_;refine jl ?_;refine Ny ?_;exact K.lpN (x + 1) hlt (by omega) (StCut.of_eq (by simp only [hs1]; congr 4; simp only [AV.v.injEq, Value.int.injEq, true_and]; omega))
 have hxe : e.kids.take x = e.kids := List.take_of_length_le (by simp at ht9; omega)
 have hdd := El e
 refine Z47 ?_;refine Z40 ?_;refine Z2 ?_;exact K.fin (V.one V.tmp) ⟨by rw [hxe, hdd]; simp; omega, rfl⟩

def Lr (s : Str) : Int := if (((s == [108, 101, 110]) || (s == [115, 116, 114])) || (s == [110, 117, 109])) || (s == [105, 115, 110, 117, 108, 108]) then 1 else if ((s == [110, 118, 108]) || (s == [108, 101, 102, 116])) || (s == [114, 105, 103, 104, 116]) then 2 else if s == [105, 102] then 3 else -1
theorem b7 (s : Str) : Bb s = Lr s := by
 by_cases h : s ∈ arityList.map (·.1)
 ·have : ((arityList.map (·.1)).all fun s => decide (Bb s = Lr s)) = true := by kernel_rfl
  exact of_decide_eq_true (List.all_eq_true.1 this s h)
 have h1 : Bb s = -1 := by
  unfold Bb
  rw [List.find?_eq_none.2 fun p hp => by
   simp only [beq_iff_eq]
   rintro rfl
   exact h (List.mem_map.2 ⟨p, hp, rfl⟩)]
 rw [h1]
 simp only [arityList, List.map_cons, List.map_nil, List.mem_cons, List.not_mem_nil, or_false, not_or] at h
 obtain ⟨a1, a2, a3, a4, a5, a6, a7, a8⟩ := h
 simp [Lr, a1, a2, a3, a4, a5, a6, a7, a8]
theorem uc (s : Str) (Hp : List AObj) : AFun Tryz.prog 148 [A7 s] Hp (A3 (Lr s)) := by
 refine ACall.body [.tmp 2] [0] Tryz.func148 Tryz.ntmps148 (fun d => ?_)
 refine Nv ?_;refine R.fin [3] ?_;refine AW.block ?_;refine Nu ?_;refine R.fin [3, 4] ?_
 refine W.cond (fun ht4 => ?_) (fun ht4 => ?_)
 ·refine Z4 ?_
  refine W.cond (fun ht4 => ?_) (fun ht4 => ?_)
  ·exact Z80
  refine Nu ?_;refine R.fin [3, 9] ?_
  refine W.cond (fun ht9 => ?_) (fun ht9 => ?_)
  ·refine Z4 ?_
   refine W.cond (fun ht9 => ?_) (fun ht9 => ?_)
   ·exact Z80
   refine Ms ?_
   refine W.cond (fun ht13 => ?_) (fun ht13 => ?_)
   ·exact Z80
   exact Mu
  refine Z31 ?_;refine R.fin [3, 9] ?_
  refine W.cond (fun ht9 => ?_) (fun ht9 => ?_)
  ·refine Z4 ?_
   refine W.cond (fun ht9 => ?_) (fun ht9 => ?_)
   ·exact Z80
   refine Ms ?_
   refine W.cond (fun ht13 => ?_) (fun ht13 => ?_)
   ·exact Z80
   exact Mu
  refine Kw ?_;refine jt ?_
  refine W.cond (fun ht9 => ?_) (fun ht9 => ?_)
  ·exact Z80
  refine Ms ?_
  refine W.cond (fun ht13 => ?_) (fun ht13 => ?_)
  ·exact Z80
  exact Mu
 refine Z31 ?_;refine R.fin [3, 4] ?_
 refine W.cond (fun ht4 => ?_) (fun ht4 => ?_)
 ·refine Z4 ?_
  refine W.cond (fun ht4 => ?_) (fun ht4 => ?_)
  ·exact Z80
  refine Nu ?_;refine R.fin [3, 9] ?_
  refine W.cond (fun ht9 => ?_) (fun ht9 => ?_)
  ·refine Z4 ?_
   refine W.cond (fun ht9 => ?_) (fun ht9 => ?_)
   ·exact Z80
   refine Ms ?_
   refine W.cond (fun ht13 => ?_) (fun ht13 => ?_)
   ·exact Z80
   exact Mu
  refine Z31 ?_;refine R.fin [3, 9] ?_
  refine W.cond (fun ht9 => ?_) (fun ht9 => ?_)
  ·refine Z4 ?_
   refine W.cond (fun ht9 => ?_) (fun ht9 => ?_)
   ·exact Z80
   refine Ms ?_
   refine W.cond (fun ht13 => ?_) (fun ht13 => ?_)
   ·exact Z80
   exact Mu
  refine Kw ?_;refine jt ?_
  refine W.cond (fun ht9 => ?_) (fun ht9 => ?_)
  ·exact Z80
  refine Ms ?_
  refine W.cond (fun ht13 => ?_) (fun ht13 => ?_)
  ·exact Z80
  exact Mu
 refine Z31 ?_;refine R.fin [3, 4] ?_
 refine W.cond (fun ht4 => ?_) (fun ht4 => ?_)
 ·refine Z4 ?_
  refine W.cond (fun ht4 => ?_) (fun ht4 => ?_)
  ·exact Z80
  refine Nu ?_;refine R.fin [3, 9] ?_
  refine W.cond (fun ht9 => ?_) (fun ht9 => ?_)
  ·refine Z4 ?_
   refine W.cond (fun ht9 => ?_) (fun ht9 => ?_)
   ·exact Z80
   refine Ms ?_
   refine W.cond (fun ht13 => ?_) (fun ht13 => ?_)
   ·exact Z80
   exact Mu
  refine Z31 ?_;refine R.fin [3, 9] ?_
  refine W.cond (fun ht9 => ?_) (fun ht9 => ?_)
  ·refine Z4 ?_
   refine W.cond (fun ht9 => ?_) (fun ht9 => ?_)
   ·exact Z80
   refine Ms ?_
   refine W.cond (fun ht13 => ?_) (fun ht13 => ?_)
   ·exact Z80
   exact Mu
  refine Kw ?_;refine jt ?_
  refine W.cond (fun ht9 => ?_) (fun ht9 => ?_)
  ·exact Z80
  refine Ms ?_
  refine W.cond (fun ht13 => ?_) (fun ht13 => ?_)
  ·exact Z80
  exact Mu
 refine Kw ?_;refine R.fin [3, 4] ?_;refine K.thN ?_
 refine W.cond (fun ht4 => ?_) (fun ht4 => ?_)
 ·exact Z80
 refine Nu ?_;refine R.fin [3, 9] ?_
 refine W.cond (fun ht9 => ?_) (fun ht9 => ?_)
 ·refine Z4 ?_
  refine W.cond (fun ht9 => ?_) (fun ht9 => ?_)
  ·exact Z80
  refine Ms ?_
  refine W.cond (fun ht13 => ?_) (fun ht13 => ?_)
  ·exact Z80
  exact Mu
 refine Z31 ?_;refine R.fin [3, 9] ?_
 refine W.cond (fun ht9 => ?_) (fun ht9 => ?_)
 ·refine Z4 ?_
  refine W.cond (fun ht9 => ?_) (fun ht9 => ?_)
  ·exact Z80
  refine Ms ?_
  refine W.cond (fun ht13 => ?_) (fun ht13 => ?_)
  ·exact Z80
  exact Mu
 refine Kw ?_;refine jt ?_
 refine W.cond (fun ht9 => ?_) (fun ht9 => ?_)
 ·exact Z80
 refine Ms ?_
 refine W.cond (fun ht13 => ?_) (fun ht13 => ?_)
 ·exact Z80
 exact Mu

theorem fg {s : Str} {x : Nat} (hx : x < levels.length) (h : levels[x].contains s = true) (h0 : ∀ (j : Nat) (l : List Str), j < x → levels[j]? = some l → l.contains s = false) : Aj s = (x : Int) := by
 unfold Aj
 rw [List.findIdx?_eq_some_iff_getElem.2 ⟨hx, h, fun j hj => by
  have e := h0 j levels[j] hj (List.getElem?_eq_getElem _)
  show ¬ (levels[j].contains s = true)
  rw [e]
  simp⟩]
theorem fh {s : Str} (h0 : ∀ (j : Nat) (l : List Str), j < levels.length → levels[j]? = some l → l.contains s = false) : Aj s = -1 := by
 unfold Aj
 rw [List.findIdx?_eq_none_iff.2 fun l hl => by
  obtain ⟨j, hj⟩ := List.getElem?_of_mem hl
  exact h0 j l (List.getElem?_eq_some_iff.1 hj).1 hj]
theorem X5 : levels.length = 6 := rfl
theorem Sg {x : Nat} (hx : x < levels.length) : levels[x].length ≤ 6 := by
 have : (levels.all fun l => decide (l.length ≤ 6)) = true := by kernel_rfl
 exact of_decide_eq_true (List.all_eq_true.1 this _ (List.getElem_mem hx))
theorem Q6 {l : List Str} {s : Str} (h : ∀ (j : Nat) (w : Str), j < l.length → l[j]? = some w → (w == s) = false) : l.contains s = false := by
 rw [Bool.eq_false_iff]
 intro hc
 have hm : s ∈ l := by simpa using hc
 obtain ⟨j, hj⟩ := List.getElem?_of_mem hm
 have := h j s (List.getElem?_eq_some_iff.1 hj).1 hj
 simp at this
theorem c76 (s : Str) (Hp : List AObj) : AFun Tryz.prog 76 [A7 s] Hp (A3 (Aj s)) := by
 refine ACall.body [.tmp 2] [0] Tryz.func76 Tryz.ntmps76 (fun d => ?_)
 refine Z55 ?_;refine Ba ?_;refine nv ?_;refine nv ?_;refine nv ?_;refine Z74 ?_;refine Fd ?_;refine Z52 ?_;refine Nw ?_
 refine AW.loopC (α := Nat) (fun x => ⟨38, A2 0 (A7 s) (A2 3 (.slice true 1 (levels.map C2)) (A2 4 (A3 (x : Nat)) (fun _ => .any))), Hp, [], [], none⟩) (fun x => x ≤ levels.length ∧ ∀ (j : Nat) (l : List Str), j < x → levels[j]? = some l → l.contains s = false) (fun x => levels.length - x) (0) ⟨Nat.zero_le _, fun j l h => by omega⟩ (StLe.refl _) rfl (fun x hx => ?_)
 refine Z83 ?_;refine R.fin [0, 3, 4, 16] ?_
 refine W.cond (fun ht16 => ?_) (fun ht16 => ?_)
 ·have hlt : x < levels.length := by simpa using ht16
  have h6 := X5
  have hls := Sg hlt
  refine Z46 ?_;refine Z1 ?_;refine R.fin [0, 3, 4, 5] ?_
  refine AW.loopC (α := Nat) (fun y => ⟨38, A2 0 (A7 s) (A2 3 (.slice true 1 (levels.map C2)) (A2 4 (A3 (x : Nat)) (A2 5 (A3 (y : Nat)) (fun _ => .any)))), Hp, [], [], none⟩) (fun y => y ≤ levels[x].length ∧ ∀ (j : Nat) (w : Str), j < y → levels[x][j]? = some w → (w == s) = false) (fun y => levels[x].length - y) (0) ⟨Nat.zero_le _, fun j l h => by omega⟩ (StLe.refl _) rfl (fun y hy => ?_)
  refine Z10 ?_;refine Z58 ?_;refine R.indexAddr (x) (C2 levels[x]) jU jS (A9 hlt) ?_;refine Dw ?_;refine W1 ?_;refine R.fin [0, 3, 4, 5, 25] ?_
  refine W.cond (fun ht25 => ?_) (fun ht25 => ?_)
  ·have hly : y < levels[x].length := by simpa using ht25
   refine Jc ?_;refine R.indexAddr (x) (C2 levels[x]) jU jS (A9 hlt) ?_;refine jp ?_;refine R.indexAddr (y) (A7 (levels[x])[y]) jU jS (A9 hly) ?_;refine jp ?_;refine R.seql ?_;refine R.fin [0, 3, 4, 5, 36] ?_
   refine W.cond (fun ht36 => ?_) (fun ht36 => ?_)
   ·refine Z40 ?_;refine Z12 ?_;refine K.lpR ?_;refine Z61 ?_;exact K.fin (V.one V.tmp) ⟨by rw [fg hlt (by simp only [List.contains_iff_mem]; have := ht36; simp only [beq_iff_eq] at this; rw [← this]; exact List.getElem_mem hly) hx.2], rfl⟩
   refine Z85 ?_;refine R.fin [0, 3, 4, 5] ?_;exact K.lpN (y + 1) ⟨hly, Aq hly hy.2 ht36⟩ (by omega) (StCut.of_eq rfl)
  have hny : levels[x].length ≤ y := by simpa using ht25
  refine Z29 ?_;refine K.lpE ?_;refine Z90 ?_;refine Nw ?_;exact K.lpN (x + 1) ⟨hlt, Aq hlt hx.2 (Q6 fun j w hj hw => hy.2 j w (by omega) hw)⟩ (by omega) (StCut.of_eq rfl)
 have hnx : levels.length ≤ x := by simpa using ht16
 refine Z47 ?_;refine Z67 ?_;exact K.fin (V.one V.tmp) ⟨by rw [fh (fun j l hj h => hx.2 j l (by omega) h)], rfl⟩

theorem wm (e : Expr) (hs : e.text.length ≤ 1048576) (Hp : List AObj) : AFun Tryz.prog 126 [A5 e] Hp (Am (D5 e)) := by
 refine ACall.body [.tmp 2] [0] Tryz.func126 Tryz.ntmps126 (fun d => ?_)
 refine Z89 ?_;refine Ba ?_;refine Z19 ?_;refine R.len jU ?_;refine Ar ?_;refine R.fin [1, 3] ?_;refine W5 ?_;refine R.fin [1, 3, 9] ?_
 refine W.cond (fun ht9 => ?_) (fun ht9 => ?_)
 ·refine Ba ?_;refine cv ?_;refine R.call Tryz.call147 (vt e.val _) ?_;refine Av ?_;refine s0 ?_;refine K3 ?_;refine G.geq ?_;refine Rz ?_;refine Lf ?_;refine Hf ?_;refine Tk ?_;refine Z2 ?_;refine K.thR ?_;exact jy
 refine Z4 ?_;refine Z16 ?_;refine si ?_;refine R.neqAgg eb (Ky e.val.kind e.val.n 0 0 e.val.s []) ?_;refine R.fin [1, 3, 31] ?_
 refine W.cond (fun ht31 => ?_) (fun ht31 => ?_)
 ·refine Tp ?_;exact jy
 refine Z4 ?_;refine Kv ?_;refine R.fin [1, 3, 33] ?_;refine Ld ?_;refine R.fin [1, 3, 33, 34] ?_
 refine W.cond (fun ht34 => ?_) (fun ht34 => ?_)
 ·refine Jy ?_;refine R.call Tryz.call67 (c67 e.text hs _) ?_;exact dn
 refine Z16 ?_;refine Z22 ?_;refine R.fin [1, 3, 33, 43] ?_
 refine W.cond (fun ht43 => ?_) (fun ht43 => ?_)
 ·refine Z4 ?_
  refine W.cond (fun ht43 => ?_) (fun ht43 => ?_)
  ·refine Jy ?_;refine R.seql ?_;exact dn
  refine Z37 ?_;refine R.fin [1, 3, 33, 53] ?_
  refine W.cond (fun ht53 => ?_) (fun ht53 => ?_)
  ·refine ny ?_;refine R.geq ?_;exact dn
  refine Z37 ?_;refine R.fin [1, 3, 63] ?_
  refine W.cond (fun ht63 => ?_) (fun ht63 => ?_)
  ·refine Jy ?_;refine R.call Tryz.call148 (uc e.text _) ?_;refine Av ?_;refine Z22 ?_;exact Z69
  exact qt
 refine Hh ?_;refine Z22 ?_;refine R.fin [1, 3, 33, 43] ?_;refine K.thN ?_
 refine W.cond (fun ht43 => ?_) (fun ht43 => ?_)
 ·refine Jy ?_;refine R.seql ?_;exact dn
 refine Z37 ?_;refine R.fin [1, 3, 33, 53] ?_
 refine W.cond (fun ht53 => ?_) (fun ht53 => ?_)
 ·refine ny ?_;refine R.geq ?_;exact dn
 refine Z37 ?_;refine R.fin [1, 3, 63] ?_
 refine W.cond (fun ht63 => ?_) (fun ht63 => ?_)
 ·refine Jy ?_;refine R.call Tryz.call148 (uc e.text _) ?_;refine Av ?_;refine Z22 ?_;exact Z69
 exact qt

theorem wn : ∀ (n : Nat) (e : Expr), okE n e → ∀ Hp : List AObj, AFun Tryz.prog 100 [A5 e] Hp (Am (Cm D5 e)) := by
 intro n
 induction n with
 | zero => exact fun e h => h.elim
 | succ n ih =>
 intro e hok Hp
 refine ACall.body [.tmp 2] [0] Tryz.func100 Tryz.ntmps100 (fun d => ?_)
 refine Z89 ?_;refine W6 ?_;refine R.call Tryz.call126 (wm e hok.1 _) ?_;refine R.not ?_;refine R.fin [1, 6] ?_
 refine W.cond (fun ht6 => ?_) (fun ht6 => ?_)
 ·refine Tp ?_;exact K.fin (V.one V.tmp) ⟨by rw [Cp]; simp at ht6; rw [ht6]; rfl, rfl⟩
 refine Kx ?_;refine R.fin [1, 3] ?_
 refine AW.loopC (α := Nat) (fun x => ⟨21, A2 1 (.ro (Cx e)) (A2 3 (A3 (x : Nat)) (fun _ => .any)), Hp, [], [], none⟩) (fun x => x ≤ e.kids.length ∧ Fe D5 (e.kids.take x) = true) (fun x => e.kids.length - x) (0) ⟨Nat.zero_le _, rfl⟩ (StLe.refl _) rfl (fun x hx => ?_)
 refine Wd ?_;refine R.fin [1, 3, 11] ?_
 refine W.cond (fun ht11 => ?_) (fun ht11 => ?_)
 ·have hlt : x < e.kids.length := by simpa using ht11
  have hkl := hok.2.1
  refine Tn ?_;refine ae ?_;refine R.call Tryz.call100 (ih e.kids[x] (hok.2.2 _ (List.getElem_mem hlt)) _) ?_;refine R.not ?_;refine R.fin [1, 3, 20] ?_
  refine W.cond (fun ht20 => ?_) (fun ht20 => ?_)
  ·refine Pw ?_;exact K.fin (V.one V.tmp) ⟨by rw [show Cm D5 e = false from by rw [Bool.eq_false_iff]; intro h; rw [Cp, Bool.and_eq_true] at h; have := (Cg _ _).1 h.2 _ (List.getElem_mem hlt); rw [this] at ht20; cases ht20], rfl⟩
  refine Z85 ?_;refine R.fin [1, 3] ?_;exact K.lpN (x + 1) ⟨hlt, by rw [List.take_succ_eq_append_getElem hlt, Mc, hx.2, Fe, Fe, Bool.and_true, Bool.true_and]; simpa using ht20⟩ (by omega) (StCut.of_eq rfl)
 have hxe : e.kids.take x = e.kids := List.take_of_length_le (by simp at ht11; omega)
 refine Z47 ?_;refine Z67 ?_;exact K.fin (V.one V.tmp) ⟨by have := hx.2; rw [hxe] at this; rw [Cp, this]; simp at ht6; rw [ht6]; rfl, rfl⟩

theorem fi (e : Expr) : Cm D5 e = Cm Bp e := by rw [show Bp = D5 from funext Ii]
theorem c71 (n : Nat) (e : Expr) (hok : okE n e) (hn : n ≤ 1048576) (hs : sizeE e ≤ 1048576) (Hp : List AObj) : AFun Tryz.prog 71 [A5 e] Hp (Am (Aa e)) := by
 refine ACall.body [.tmp 2] [0] Tryz.func71 Tryz.ntmps71 (fun d => ?_)
 refine Z89 ?_;refine Z86 ?_;refine R.call Tryz.call98 (c98 n e hok hn _) ?_;refine R.leq ?_;refine Av ?_;refine G.loadRoN jA jS ?_;refine G.call Tryz.call99 (fun hB => c99 n e hok hs _) ?_;refine G.leq ?_;refine Rz ?_;refine G.loadRoN jA jS ?_;refine G.call Tryz.call100 (fun hB => wn n e hok _) ?_;refine Wh ?_;exact K.fin (V.one V.tmp) ⟨by rw [Aa, fi, show decide ((depthE e : Int) ≤ 30) = decide (depthE e ≤ 30) by rw [decide_eq_decide]; omega, show decide ((sizeE e : Int) ≤ 300) = decide (sizeE e ≤ 300) by rw [decide_eq_decide]; omega], rfl⟩

set_option maxRecDepth 8000
/-! The document's kinds of trees are infer's. -/
def Cq (k w : Int) : Bool := (k == 0) || (k == w)
def C8 (o : Int) (t : Str) (ks : List Int) : Int × Bool :=
 if o == 3 then (1, Cq (ks.getD 0 0) 1) else if o == 4 then (3, Cq (ks.getD 0 0) 3)
 else if (o == 5) && ((t == [111, 114]) || (t == [97, 110, 100])) then (3, Cq (ks.getD 0 0) 3 && Cq (ks.getD 1 0) 3)
 else if (o == 5) && (Aj t == 3) then (3, (ks.getD 0 0 == 0) || Cq (ks.getD 1 0) (ks.getD 0 0))
 else if (o == 5) && (t == [38]) then (2, Cq (ks.getD 0 0) 2 && Cq (ks.getD 1 0) 2)
 else if o == 5 then (1, Cq (ks.getD 0 0) 1 && Cq (ks.getD 1 0) 1)
 else if (t == [108, 101, 110]) || (t == [110, 117, 109]) then (1, Cq (ks.getD 0 0) 2)
 else if t == [115, 116, 114] then (2, Cq (ks.getD 0 0) 1)
 else if (t == [108, 101, 102, 116]) || (t == [114, 105, 103, 104, 116]) then (2, Cq (ks.getD 0 0) 2 && Cq (ks.getD 1 0) 1)
 else if t == [105, 115, 110, 117, 108, 108] then (3, true)
 else (if ks.getD (ks.length - 2) 0 == 0 then ks.getD (ks.length - 1) 0 else ks.getD (ks.length - 2) 0,
  ((ks.getD (ks.length - 2) 0 == 0) || Cq (ks.getD (ks.length - 1) 0) (ks.getD (ks.length - 2) 0)) && ((t == [110, 118, 108]) || Cq (ks.getD 0 0) 3))
def C5 (o : Int) (t : Str) (ks : List Int) : Int × Int := if (C8 o t ks).2 then ((C8 o t ks).1, 0) else (0, 10)
theorem J4 (w k : Int) (hw : (w == 0) = false) : (C1 w k).2 = Cq k w := by
 unfold C1 Cq
 rw [hw]
 simp only [Bool.false_eq_true, if_false]
 by_cases h : (k == 0) = true
 ·simp [h]
 have h' : (k == 0) = false := by simpa using h
 rw [h']
 by_cases h2 : w = k
 ·subst h2; simp
 have : ¬ k = w := fun e => h2 e.symm
 simp [h2, this]
theorem kz (t : Str) : (Aj t == 3) = ((((((t == [61]) || (t == [33, 61])) || (t == [60])) || (t == [60, 61])) || (t == [62])) || (t == [62, 61])) := by
 by_cases h : t ∈ [[61], [33, 61], [60], [60, 61], [62], [62, 61]]
 ·simp only [List.mem_cons, List.mem_nil_iff, or_false] at h
  rcases h with rfl | rfl | rfl | rfl | rfl | rfl <;> rfl
 have e : ((((((t == [61]) || (t == [33, 61])) || (t == [60])) || (t == [60, 61])) || (t == [62])) || (t == [62, 61])) = false := by
  simp only [List.mem_cons, List.mem_nil_iff, or_false, not_or] at h
  simp [h]
 rw [e]
 unfold Aj
 split
 ·rename_i i hi
  rw [List.findIdx?_eq_some_iff_getElem] at hi
  obtain ⟨hl, hc, _⟩ := hi
  by_cases h3 : i = 3
  ·subst h3
   exact (h (by simp [levels] at hc; simpa using hc)).elim
  have : ¬ ((i : Int) = 3) := by omega
  simp [this]
 rfl
theorem Yb {s : Sign} {a w : Int} (hk : s.kids = [w]) (hw : (w == 0) = false) (h1 : (w == -1) = false) (h2 : (w == -2) = false) (ho : (s.own == -1) = false) : Gv s [a] = if Cq a w then (s.own, 0) else (0, 10) := by
 unfold Gv
 rw [hk]
 simp only [Jd, h1, h2, Bool.false_eq_true, if_false, J4 w a hw]
 cases Cq a w <;> simp [ho]
theorem Yc {s : Sign} {a b v w : Int} (hk : s.kids = [v, w]) (hv : (v == 0) = false) (hv1 : (v == -1) = false) (hv2 : (v == -2) = false) (hw : (w == 0) = false) (h1 : (w == -1) = false) (h2 : (w == -2) = false) (ho : (s.own == -1) = false) : Gv s [a, b] = if Cq a v && Cq b w then (s.own, 0) else (0, 10) := by
 unfold Gv
 rw [hk]
 simp only [Jd, hv1, hv2, h1, h2, Bool.false_eq_true, if_false, J4 w b hw, J4 v a hv]
 cases Cq a v <;> cases Cq b w <;> simp [ho]
theorem ml {s : Sign} {a b : Int} (hk : s.kids = [-1, -1]) : Gv s [a, b] = if (a == 0) || Cq b a then (if s.own == -1 then (if a == 0 then b else a, 0) else (s.own, 0)) else (0, 10) := by
 unfold Gv Cq
 rw [hk]
 simp only [Jd, C1]
 by_cases ha : a = 0
 ·subst ha; simp
 by_cases hb : b = 0
 ·subst hb; simp [ha]
 by_cases he : a = b
 ·subst he; simp [ha]
 have : ¬ b = a := fun e => he e.symm
 simp [ha, hb, he, this]
theorem ox {s : Sign} {x a b : Int} (hk : s.kids = [3, -1, -1]) : Gv s [x, a, b] = if ((a == 0) || Cq b a) && Cq x 3 then (if s.own == -1 then (if a == 0 then b else a, 0) else (s.own, 0)) else (0, 10) := by
 unfold Gv Cq
 rw [hk]
 simp only [Jd, J4 3 x rfl, Cq]
 simp only [C1]
 by_cases hx : ((x == 0) || (x == 3)) = true
 ·by_cases ha : a = 0
  ·subst ha; simp [hx]
  by_cases hb : b = 0
  ·subst hb; simp [ha, hx]
  by_cases he : a = b
  ·subst he; simp [ha, hx]
  have : ¬ b = a := fun e => he e.symm
  simp [ha, hb, he, this, hx]
 simp [hx]
theorem ud {s : Sign} {x : Int} (hk : s.kids = [-2]) (ho : (s.own == -1) = false) : Gv s [x] = (s.own, 0) := by
 unfold Gv
 rw [hk]
 simp [Jd, ho]
theorem Uk {ks : List Int} (h : ks.length = 1) : ∃ a, ks = [a] := by
 match ks, h with
 | [a], _ => exact ⟨a, rfl⟩
theorem fj {ks : List Int} (h : ks.length = 2) : ∃ a b, ks = [a, b] := by
 match ks, h with
 | [a, b], _ => exact ⟨a, b, rfl⟩
theorem ue {ks : List Int} (h : ks.length = 3) : ∃ a b c, ks = [a, b, c] := by
 match ks, h with
 | [a, b, c], _ => exact ⟨a, b, c, rfl⟩
theorem X6 (t : Str) (a b : Int) : C5 5 t [a, b] = Gv (A0 t) [a, b] := by
 unfold C5 C8 A0
 simp only [kz, show ((5 : Int) == 3) = false from rfl, show ((5 : Int) == 4) = false from rfl, show ((5 : Int) == 5) = true from rfl, Bool.true_and, Bool.false_eq_true, if_false]
 by_cases h1 : ((t == [111, 114]) || (t == [97, 110, 100])) = true
 ·simp only [h1, if_true]
  rw [Yc (v := 3) (w := 3) rfl rfl rfl rfl rfl rfl rfl rfl]
  rfl
 simp only [h1, if_false, Bool.false_eq_true]
 by_cases h2 : ((((((t == [61]) || (t == [33, 61])) || (t == [60])) || (t == [60, 61])) || (t == [62])) || (t == [62, 61])) = true
 ·simp only [h2, if_true]
  rw [ml rfl]
  rfl
 simp only [h2, if_false, Bool.false_eq_true]
 by_cases h3 : (t == [38]) = true
 ·simp only [h3, if_true]
  rw [Yc (v := 2) (w := 2) rfl rfl rfl rfl rfl rfl rfl rfl]
  rfl
 simp only [h3, if_false, Bool.false_eq_true, if_true]
 rw [Yc (v := 1) (w := 1) rfl rfl rfl rfl rfl rfl rfl rfl]
 rfl
theorem X7 {t : Str} {ks : List Int} (h : (A1 t).kids.length = ks.length) : C5 6 t ks = Gv (A1 t) ks := by
 unfold C5 C8
 simp only [show ((6 : Int) == 3) = false from rfl, show ((6 : Int) == 4) = false from rfl, show ((6 : Int) == 5) = false from rfl, Bool.false_and, Bool.false_eq_true, if_false]
 unfold A1 at h ⊢
 by_cases h1 : ((t == [108, 101, 110]) || (t == [110, 117, 109])) = true
 ·simp only [h1, if_true] at h ⊢
  obtain ⟨a, rfl⟩ := Uk h.symm
  rw [Yb (w := 2) rfl rfl rfl rfl rfl]
  rfl
 simp only [h1, if_false, Bool.false_eq_true] at h ⊢
 by_cases h2 : (t == [115, 116, 114]) = true
 ·simp only [h2, if_true] at h ⊢
  obtain ⟨a, rfl⟩ := Uk h.symm
  rw [Yb (w := 1) rfl rfl rfl rfl rfl]
  rfl
 simp only [h2, if_false, Bool.false_eq_true] at h ⊢
 by_cases h3 : ((t == [108, 101, 102, 116]) || (t == [114, 105, 103, 104, 116])) = true
 ·simp only [h3, if_true] at h ⊢
  obtain ⟨a, b, rfl⟩ := fj h.symm
  rw [Yc (v := 2) (w := 1) rfl rfl rfl rfl rfl rfl rfl rfl]
  rfl
 simp only [h3, if_false, Bool.false_eq_true] at h ⊢
 by_cases h4 : (t == [105, 115, 110, 117, 108, 108]) = true
 ·simp only [h4, if_true] at h ⊢
  obtain ⟨a, rfl⟩ := Uk h.symm
  rw [ud rfl rfl]
 simp only [h4, if_false, Bool.false_eq_true] at h ⊢
 by_cases h5 : (t == [110, 118, 108]) = true
 ·simp only [h5, if_true] at h ⊢
  obtain ⟨a, b, rfl⟩ := fj h.symm
  rw [ml rfl]
  simp
 simp only [h5, if_false, Bool.false_eq_true] at h ⊢
 obtain ⟨a, b, c, rfl⟩ := ue h.symm
 rw [ox rfl]
 simp
theorem l3 {e : Expr} (h : Bp e = true) (h1 : (e.op == 1) = false) (h2 : (e.op == 2) = false) {ks : List Int} (hl : ks.length = e.kids.length) : C5 e.op e.text ks = Gv (C0 e.op e.text) ks := by
 have hs := H6 h h1 h2
 unfold C0 at hs ⊢
 unfold Bp at h
 rw [h1, h2] at h
 simp only [Bool.false_eq_true, if_false] at h
 by_cases h3 : e.op = 3
 ·rw [h3] at hs ⊢
  simp only [beq_self_eq_true, if_true] at hs ⊢
  obtain ⟨a, rfl⟩ := Uk (by rw [hl, ← hs]; rfl)
  rw [Yb (w := 1) rfl rfl rfl rfl rfl]
  rfl
 by_cases h4 : e.op = 4
 ·rw [h4] at hs ⊢
  obtain ⟨a, rfl⟩ := Uk (by rw [hl, ← hs]; rfl)
  rw [show (if ((4 : Int) == 3) = true then (⟨[1], 1⟩ : Sign) else if ((4 : Int) == 4) = true then ⟨[3], 3⟩ else if ((4 : Int) == 5) = true then A0 e.text else A1 e.text) = ⟨[3], 3⟩ from rfl, Yb (w := 3) rfl rfl rfl rfl rfl]
  rfl
 by_cases h5 : e.op = 5
 ·rw [h5] at hs ⊢
  rw [show (if ((5 : Int) == 3) = true then (⟨[1], 1⟩ : Sign) else if ((5 : Int) == 4) = true then ⟨[3], 3⟩ else if ((5 : Int) == 5) = true then A0 e.text else A1 e.text) = A0 e.text from rfl] at hs ⊢
  obtain ⟨a, b, rfl⟩ := fj (by rw [hl, ← hs, K8])
  exact X6 _ _ _
 have h6 : e.op = 6 := by
  simp [h3, h4, h5] at h
  exact h.1
 rw [h6] at hs ⊢
 rw [show (if ((6 : Int) == 3) = true then (⟨[1], 1⟩ : Sign) else if ((6 : Int) == 4) = true then ⟨[3], 3⟩ else if ((6 : Int) == 5) = true then A0 e.text else A1 e.text) = A1 e.text from rfl] at hs ⊢
 exact X7 (by rw [hs, hl])
set_option maxRecDepth 4000
theorem Ls {n k : Nat} {o : Bool} {l : List Str} : Low n (.slice o k (l.map A7)) := by simp [or_imp, forall_and]
set_option maxRecDepth 8000
abbrev TK := Int × Str
/-- What stands from word i on. -/
def seg (l : List Tok) (i : Nat) : List TK := (l.drop i).map ktT
theorem Gp (s : Str) : s ∈ levels.flatten ∨ (Aj s = -1 ∧ ∀ l ∈ levels, l.contains s = false) := by
 by_cases h : s ∈ levels.flatten
 ·exact .inl h
 have h2 : ∀ l ∈ levels, l.contains s = false := fun l hl => by
  rw [Bool.eq_false_iff]
  intro h3
  exact h (List.mem_flatten.2 ⟨l, hl, by simpa using h3⟩)
 refine .inr ⟨?_, h2⟩
 unfold Aj
 rw [List.findIdx?_eq_none_iff.2 fun l hl => h2 l hl]
/-- The texts of levels of marks. -/
def ofL (k : Nat) : Str := if k = 0 then orT else if k = 1 then u7 else if k = 3 then ua else if k = 4 then ub else mg
theorem Om (s : Str) : -1 ≤ Aj s ∧ Aj s ≤ 5 ∧ Aj s ≠ 2 := by
 rcases Gp s with h | ⟨h, _⟩
 ·have h3 : (levels.flatten.all fun s => decide (-1 ≤ Aj s ∧ Aj s ≤ 5 ∧ Aj s ≠ 2)) = true := by kernel_rfl
  exact of_decide_eq_true (List.all_eq_true.1 h3 s h)
 omega
/-- A row of words behind which no mark of a level, or of a tighter one, stands. -/
def fk (k : Nat) (rest : List TK) : Prop := ∀ h r, rest = h :: r → ((h.1 == 5) || (h.1 == 2)) = true → Aj h.2 < (k : Int) ∧ h.2 ≠ [40]
def Ul : Str := [110, 111, 116]
def levE (e : Expr) : Nat := if e.op == 4 then 2 else if e.op == 3 then 6 else if e.op == 5 then (Aj e.text).toNat else 7
def l4 (least : Nat) (x : Expr) (T : List TK) : List TK := if least ≤ levE x then T else (5, [40]) :: (T ++ [(5, [41])])
def l5 (least : Nat) (x : Expr) (n : Nat) : Nat := if least ≤ levE x then n else n + 1
def Dj (own : Nat) : Nat := if own = 3 then 4 else own
def oy (v : Val) : TK := if v.kind == 1 then (3, Dg v) else if v.kind == 2 then (4, v.s) else (2, Dg v)
def uf (t : Str) : TK := (if Dl (t.headD 0) then 2 else 5, t)
def ug : List (List TK) → List TK
 | [] => []
 | T :: r => (5, [44]) :: (T ++ ug r)
def uh (o : Int) (t : Str) (v : Val) (k : List Expr) (ts : List (List TK)) : List TK :=
 if o == 1 then [oy v] else if o == 2 then [(1, t)]
 else if o == 3 then (5, [45]) :: l4 6 (k.getD 0 A8) (ts.getD 0 [])
 else if o == 4 then (2, Ul) :: l4 2 (k.getD 0 A8) (ts.getD 0 [])
 else if o == 5 then l4 (Dj (Aj t).toNat) (k.getD 0 A8) (ts.getD 0 []) ++ uf t :: l4 ((Aj t).toNat + 1) (k.getD 1 A8) (ts.getD 1 [])
 else (1, t) :: (5, [40]) :: ((ug ts).drop 1 ++ [(5, [41])])
mutual
def On : Expr → List TK
 | .mk o t v k => uh o t v k (mm k)
def mm : List Expr → List (List TK)
  | [] => []
  | e :: r => On e :: mm r
 end
def ui : List Nat → Nat
 | [] => 0
 | n :: r => max n (ui r)
def uj (o : Int) (t : Str) (k : List Expr) (ns : List Nat) : Nat :=
 if o == 1 then 0 else if o == 2 then 0
 else if o == 3 then 1 + l5 6 (k.getD 0 A8) (ns.getD 0 0)
 else if o == 4 then 1 + l5 2 (k.getD 0 A8) (ns.getD 0 0)
 else if o == 5 then max (l5 (Dj (Aj t).toNat) (k.getD 0 A8) (ns.getD 0 0)) (l5 ((Aj t).toNat + 1) (k.getD 1 A8) (ns.getD 1 0))
 else 1 + ui ns
mutual
def Yd : Expr → Nat
 | .mk o t v k => uj o t k (mn k)
def mn : List Expr → List Nat
  | [] => []
  | e :: r => Yd e :: mn r
 end
theorem l6 {v : Val} (h : H4 v = true) : v = noV := by
 unfold H4 at h
 simp only [Bool.and_eq_true, beq_iff_eq] at h
 cases v
 simp_all [noV]
/-- What a right node is. -/
inductive NodeC : Expr → Prop
 | val (v : Val) (h : Cd v = true) (h0 : 0 ≤ v.n) : NodeC (Sf v)
 | name (t : Str) (h : Dy t = true) : NodeC (An t)
 | neg (a : Expr) : NodeC (I0 3 a)
 | no (a : Expr) : NodeC (I0 4 a)
 | bin (t : Str) (a b : Expr) (h : 0 ≤ Aj t) : NodeC (Q4 t a b)
 | call (t : Str) (k : List Expr) (h : Bb t = (k.length : Int)) : NodeC (.mk 6 t noV k)
theorem X8 (o : Int) (t : Str) (v : Val) (k : List Expr) : D5 (.mk o t v k) =
 if o == 1 then ((Cd v && decide (0 ≤ v.n)) && (t == [])) && ((k.length : Int) == 0)
 else if !(H4 v) then false
 else if o == 2 then Dy t && ((k.length : Int) == 0)
 else if o == 3 || o == 4 then (t == []) && ((k.length : Int) == 1)
 else if o == 5 then decide (0 ≤ Aj t) && ((k.length : Int) == 2)
 else if o == 6 then Bb t == (k.length : Int)
 else false := rfl
theorem Ey {e : Expr} (h : Bp e = true) : NodeC e := by
 rw [Ii] at h
 cases e with
 | mk o t v k =>
 rw [X8] at h
 by_cases h1 : (o == 1) = true
 ·rw [if_pos h1] at h
  simp only [Bool.and_eq_true, beq_iff_eq, decide_eq_true_eq] at h h1
  obtain ⟨⟨⟨a1, a2⟩, a3⟩, a4⟩ := h
  subst h1
  subst a3
  have : k = [] := by cases k with | nil => rfl | cons x r => simp at a4; omega
  subst this
  exact .val v a1 a2
 rw [if_neg h1] at h
 by_cases hb : (!(H4 v)) = true
 ·rw [if_pos hb] at h; cases h
 rw [if_neg hb] at h
 have hv : v = noV := l6 (by simpa using hb)
 subst hv
 by_cases h2 : (o == 2) = true
 ·rw [if_pos h2] at h
  simp only [Bool.and_eq_true, beq_iff_eq] at h h2
  subst h2
  have : k = [] := by cases k with | nil => rfl | cons x r => have := h.2; simp at this; omega
  subst this
  exact .name t h.1
 rw [if_neg h2] at h
 by_cases h3 : (o == 3 || o == 4) = true
 ·rw [if_pos h3] at h
  simp only [Bool.and_eq_true, Bool.or_eq_true, beq_iff_eq] at h h3
  obtain ⟨rfl, h4⟩ := h
  match k, h4 with
  | [a], _ =>
   rcases h3 with rfl | rfl
   ·exact .neg a
   exact .no a
  | [], h4 => simp at h4
  | _ :: _ :: _, h4 => simp at h4; omega
 rw [if_neg h3] at h
 by_cases h5 : (o == 5) = true
 ·rw [if_pos h5] at h
  simp only [Bool.and_eq_true, beq_iff_eq, decide_eq_true_eq] at h h5
  subst h5
  match k, h.2 with
  | [a, b], _ => exact .bin t a b h.1
  | [], h4 => simp at h4
  | [_], h4 => simp at h4
  | _ :: _ :: _ :: _, h4 => simp at h4; omega
 rw [if_neg h5] at h
 by_cases h6 : (o == 6) = true
 ·rw [if_pos h6] at h
  simp only [beq_iff_eq] at h h6
  subst h6
  exact .call t k h
 rw [if_neg h6] at h; cases h
/-- The functions of the levels. -/
def pf (l : List Tok) (D : Fam) : Nat → PS → Expr × PS
 | 0 => Ya l D
 | 1 => mj l D
 | 2 => ov l D
 | 3 => Uj l D
 | 4 => Q5 l D
 | 5 => mi l D
 | 6 => ou l D
 | _ => mh l D
abbrev fam (l : List Tok) (n : Nat) : Fam := kx l (30 - n)
def adv (S : PS) (n : Nat) : PS := ⟨S.i + n, S.nest, S.code, S.at_⟩
def T1 (l : List Tok) (x : Expr) : Prop := ∀ (k : Nat) (S : PS) (rest : List TK), k ≤ levE x → S.code = 0 → S.nest + Yd x ≤ 30 → seg l S.i = On x ++ rest → fk k rest → pf l (fam l S.nest) k S = (x, adv S (On x).length)
def T2 (l : List Tok) (x : Expr) : Prop := ∀ (k : Nat) (S : PS) (rest : List TK), (k = 0 ∨ k = 1 ∨ k = 4 ∨ k = 5) → k ≤ levE x → S.code = 0 → S.nest + Yd x ≤ 30 → seg l S.i = On x ++ rest → fk (k + 1) rest →
 ∃ n, l.length ≤ S.i + (On x).length + n ∧ Qv l (ofL k) (pf l (fam l S.nest) (k + 1)) S = fe l (ofL k) (pf l (fam l S.nest) (k + 1)) n (x, adv S (On x).length)
/-! The parser from a word on, and of a source. -/
set_option maxRecDepth 4000
theorem Q7 {α : Type} {a b : List α} (hl : a.length = b.length) (h : ∀ (j : Nat) (y : α), j < a.length → a[j]? = some y → b[j]? = some y) : a = b := by
 apply List.ext_getElem hl
 intro j h1 h2
 have := h j a[j] h1 (List.getElem?_eq_getElem h1)
 rw [List.getElem?_eq_getElem h2] at this
 injection this with this
 exact this.symm
theorem Cv {n k : Nat} {o : Bool} {l : List Expr} : Low n (.slice o k (l.map A5)) := low_slice.2 fun y hy => by
 obtain ⟨a, _, rfl⟩ := List.mem_map.1 hy
 exact B0 _ a
theorem Qx {l : List Expr} (h : 0 < l.length) : D0 l = l[0] :: D0 (l[0].kids ++ l.drop 1) ∧ At l = 1 + At (l[0].kids ++ l.drop 1) ∧ l[0].kids.length ≤ At l := by
 cases l with
 | nil => simp at h
 | cons e r =>
  refine ⟨?_, ?_, ?_⟩
  ·show Fm e ++ D0 r = e :: D0 (e.kids ++ r)
   rw [Qj, Jm]
   rfl
  ·show sizeE e + At r = 1 + At (e.kids ++ r)
   rw [El, Ft]
   omega
  show e.kids.length ≤ sizeE e + At r
  have := Hl e.kids
  rw [El]
  omega
theorem Qy (l : List Expr) : l.length ≤ At l := by have := Hl l; omega
structure NamesAt (e : Expr) (x : List Expr × List Str) : Prop where
 eq : B4 e = (D0 x.1).foldl Db x.2
 bd : x.2.length + At x.1 ≤ 1048576
theorem NamesAt.on {e : Expr} {x : List Expr × List Str} (h : NamesAt e x) (h0 : 0 < x.1.length) : NamesAt e (x.1[0].kids ++ x.1.drop 1, Db x.2 x.1[0]) := by
 obtain ⟨a, b, _⟩ := Qx h0
 refine ⟨?_, ?_⟩
 ·rw [h.eq, a, List.foldl_cons]
 have := h.bd
 have := Y1 x.2 x.1[0]
 show (Db x.2 x.1[0]).length + At (x.1[0].kids ++ x.1.drop 1) ≤ _
 omega
theorem L6 (l : List Str) (s : Str) : (l.any fun w => w == s) = l.contains s := by
 rw [Bool.eq_iff_iff, List.any_eq_true, List.contains_iff_mem]
 constructor
 ·rintro ⟨w, hw, h⟩
  rw [beq_iff_eq] at h
  subst h
  exact hw
 exact fun h => ⟨s, h, by simp⟩
theorem b8 {l : List Str} {z : Nat} (h : z < l.length) (s : Str) : ((l.take (z + 1)).any fun w => w == s) = (((l.take z).any fun w => w == s) || (l[z] == s)) := by
 rw [List.take_succ_eq_append_getElem h, List.any_append]
 simp
theorem c72 (e : Expr) (hs : sizeE e ≤ 1048576) (Hp : List AObj) : AFun Tryz.prog 72 [A5 e] Hp (C2 (B4 e)) := by
 refine ACall.body [.tmp 2] [0] Tryz.func72 Tryz.ntmps72 (fun d => ?_)
 refine Z89 ?_;refine S2 ?_;refine R.fin [1, 3] ?_;refine Z86 ?_;refine Z74 ?_;refine R.fin [3, 4] ?_;refine W.seq ?_
 refine AW.loopC (α := List Expr × List Str) (fun x => ⟨51, A2 3 (.slice true 1 (x.2.map A7)) (A2 4 (.slice true 6 (x.1.map A5)) (fun _ => .any)), Hp, [], [], none⟩) (fun x => NamesAt e x) (fun x => At x.1) (([e], [])) ⟨by unfold B4; simp [D0], by simp [At]; exact hs⟩ (StLe.of_eq (by simp [Bg])) rfl (fun x hx => ?_)
 refine Z10 ?_;refine Px ?_;refine R.fin [3, 4, 13] ?_
 refine W.cond (fun ht13 => ?_) (fun ht13 => ?_)
 ·have hlt : 0 < x.1.length := by simpa using ht13
  have hpop := Qx hlt
  have hon := hx.on hlt
  have em : List.map A5 x.1[0].kids ++ List.drop 1 (List.map A5 x.1) = List.map A5 (x.1[0].kids ++ x.1.drop 1) := by rw [List.map_append, List.map_drop]
  refine Z4 ?_;refine AW.block ?_;refine Z0 ?_;refine R.indexAddr (0) (A5 x.1[0]) jU jS (A9 hlt) ?_;refine W3 ?_;refine R.fin [3, 4, 5] ?_;refine W.drawY [0, 0, 2, 7, 0, 16, 63, 127] [] [.s [17] none [] [], .q 2 [] [], .s [17, 20] none [] [], .q 2 [] []] (fun _ => Hp) (fun _ => [.cells 60 (Cx x.1[0])]) Ah (by kernel_rfl) rfl rfl (fun _ => rfl) ?_;refine Y.buildSlice jU Tryz.sizeOf60 Tryz.zeroValue60 ?_
  apply Y.q
  case h1 =>
   intro B hT hF
   refine D.fieldAddrPtr (fo := 5) jU Tryz.sizeOf53 ?_;refine D.loadOwn jA ?_;exact D.end rfl rfl
  case hTF => decide
  refine Y.append jU Tryz.type60 ?_ ?_ ?_
  ·have := hpop.2.2; have := hx.bd; simp [Tryz.t60]; omega
  ·have := hpop.2.2; have := hx.bd; simp [Tryz.t60]; omega
  apply Y.q
  case h1 =>
   intro B hT hF
   refine D.move ?_
   refine D.cutL 1 jU Tryz.sizeOf60 (show 1 ≤ (x.1.map A5).length by rw [List.length_map]; exact hlt) (Nat.le_refl _) ?_
   exact D.end rfl rfl
  case hTF => decide
  refine Y.tail (tn := [])  ?_
  refine R.append jU Tryz.type60 ?_ ?_ ?_
  ·have := hpop.2.2; have := hx.bd; have := Qy x.1; simp [Tryz.t60]; omega
  ·have := hpop.2.2; have := hx.bd; have := Qy x.1; simp [Tryz.t60]; omega
  refine Fq ?_;refine R.fin [3, 4, 5] ?_;refine ag ?_;refine R.neq ?_;refine R.fin [3, 4, 5, 26] ?_
  refine W.cond (fun ht26 => ?_) (fun ht26 => ?_)
  ·have hadd : Db x.2 x.1[0] = x.2 := if_neg (by have := ht26; simp at this; simp [this])
   rw [hadd] at hon
   refine W.keep [3, 4] ?_;refine Z29 ?_;refine K.blE ?_
   refine K.lpN (x.1[0].kids ++ x.1.drop 1, x.2) hon (by have := hpop.2.1; show At (x.1[0].kids ++ x.1.drop 1) < At x.1; omega) ?_
   simp only [show Tryz.t60.size = 6 from rfl, em]
   exact StCut.take (own := []) (fun _ => .refl _) (by repeat (first | exact Al | refine Ak (by first | exact Cv | exact Ls | exact J2 | (rw [← List.map_append]; exact Cv)) ?_)) (by simp) (by simp)
  have hop : (x.1[0].op == 2) = true := by simpa using ht26
  refine Z4 ?_;refine Z1 ?_;refine R.fin [3, 4, 5, 6] ?_;refine Z52 ?_;refine R.fin [3, 4, 5, 6, 7] ?_
  refine AW.loopC (α := Nat) (fun z => ⟨51, A2 3 (.slice true 1 (x.2.map A7)) (A2 4 (.slice true 6 ((x.1[0].kids ++ x.1.drop 1).map A5)) (A2 5 (.ptr (oid Hp.length 0) 0) (A2 6 (Am ((x.2.take z).any fun w => w == x.1[0].text)) (A2 7 (A3 (z : Nat)) (fun _ => .any))))), Hp, [.cells 60 (Cx x.1[0])], [], none⟩) (fun z => z ≤ x.2.length) (fun z => x.2.length - z) (0) (Nat.zero_le _) (StLe.of_eq (by simp [List.map_append, List.map_drop] <;> rfl)) rfl (fun z hz => ?_)
  refine Z83 ?_;refine R.fin [3, 4, 5, 6, 7, 30] ?_
  refine W.cond (fun ht30 => ?_) (fun ht30 => ?_)
  ·have hlz : z < x.2.length := by simpa using ht30
   have hbd := hx.bd
   refine Z46 ?_;refine W.draw0 [0, 1, 3, 3, 15, 31, 3, 67, 255, 511, 1023] 8 Ah (by kernel_rfl) ?_;refine Z54 ?_;refine W9 ?_;refine H.indexAddr (z) (A7 x.2[z]) jU jS (fun _ => A9 hlz) ?_;refine Hg ?_;refine H.fieldAddrPtr (fo := 1) jU Tryz.sizeOf9 ?_;refine H.loadOwn jA ?_;refine D.tail ?_;refine G.seql ?_;refine W7 ?_;refine R.fin [3, 4, 5, 6, 7] ?_;refine Z90 ?_;refine R.fin [3, 4, 5, 6, 7] ?_
   refine K.lpN (z + 1) hlz (by omega) (StCut.of_eq ?_)
   rw [b8 hlz]
   rfl
  have hze : x.2.take z = x.2 := List.take_of_length_le (by simp at ht30; omega)
  refine Ts ?_;refine R.not ?_;refine R.fin [3, 4, 5, 44] ?_
  refine W.cond (fun ht44 => ?_) (fun ht44 => ?_)
  ·have hadd : Db x.2 x.1[0] = x.2 ++ [x.1[0].text] := if_pos (by rw [hop]; rw [hze, L6] at ht44; simpa using ht44)
   rw [hadd] at hon
   refine Z84 ?_;refine R.fieldAddrPtr (fo := 1) jU Tryz.sizeOf9 ?_;refine Hi ?_;refine H0 ?_
   refine R.append jU Tryz.type9 ?_ ?_ ?_
   ·have := hx.bd; simp [Tryz.t9]; omega
   ·have := hx.bd; simp [Tryz.t9]; omega
   refine Fq ?_;refine R.fin [3, 4] ?_;refine K.blN ?_
   first | refine K.lpN (x.1[0].kids ++ x.1.drop 1, x.2 ++ [x.1[0].text]) hon (by have := hpop.2.1; show At (x.1[0].kids ++ x.1.drop 1) < At x.1; omega) ?_ | refine K.lpN (x.1[0].kids ++ x.1.drop 1, x.2) hon (by have := hpop.2.1; show At (x.1[0].kids ++ x.1.drop 1) < At x.1; omega) ?_
   try simp only [show Tryz.t9.size = 1 from rfl, List.map_append, List.map_cons, List.map_nil]
   exact StCut.take (own := []) (fun _ => .refl _) (by repeat (first | exact Al | refine Ak (by first | exact Cv | exact Ls | exact J2 | (rw [← List.map_append]; exact Cv)) ?_)) (by simp) (by simp)
  have hadd : Db x.2 x.1[0] = x.2 := if_neg (by rw [hop]; rw [hze, L6] at ht44; simp at ht44; simp [ht44])
  rw [hadd] at hon
  refine W.keep [3, 4] ?_;refine AW.skip ?_;refine K.blN ?_
  first | refine K.lpN (x.1[0].kids ++ x.1.drop 1, x.2 ++ [x.1[0].text]) hon (by have := hpop.2.1; show At (x.1[0].kids ++ x.1.drop 1) < At x.1; omega) ?_ | refine K.lpN (x.1[0].kids ++ x.1.drop 1, x.2) hon (by have := hpop.2.1; show At (x.1[0].kids ++ x.1.drop 1) < At x.1; omega) ?_
  try simp only [show Tryz.t9.size = 1 from rfl, List.map_append, List.map_cons, List.map_nil]
  exact StCut.take (own := []) (fun _ => .refl _) (by repeat (first | exact Al | refine Ak (by first | exact Cv | exact Ls | exact J2 | (rw [← List.map_append]; exact Cv)) ?_)) (by simp) (by simp)
 have hnil : x.1 = [] := by have := ht13; simp at this; exact this
 refine Z47 ?_;refine Z40 ?_;refine Z2 ?_;exact K.fin (V.one V.tmp) ⟨by rw [hx.eq, hnil]; rfl, rfl⟩

theorem b9 {l : List Expr} {n f : Nat} (h0 : l.isEmpty = false) (h : Jn l n = true) : E0 f l n = true := by
 cases f with
 | zero => rw [E0, h0]; rfl
 | succ f => rw [E0, if_neg (by rw [h0]; simp), if_pos h]
theorem l7 {l : List Expr} {n y : Nat} (hy : y < l.length) (h : 500 < n + y + 1 ∨ Ln l[y] = true) : Jn l n = true := by
 unfold Jn
 rcases h with h | h
 ·rw [decide_eq_true (by omega)]; rfl
 rw [List.any_eq_true.2 ⟨_, List.getElem_mem hy, h⟩, Bool.or_true]
theorem Oo {l : List Expr} : ∀ (y : Nat), y ≤ l.length → (∀ (j : Nat) (e : Expr), j < y → l[j]? = some e → Ln e = false) → ((l.take y).flatMap Expr.kids).length ≤ 100 * y
 | 0, _, _ => by simp
 | y + 1, hy, h => by
  rw [List.take_succ_eq_append_getElem hy, List.flatMap_append, List.length_append]
  have h1 := Oo y (by omega) (fun j e hj he => h j e (by omega) he)
  have h2 := Sa (h y l[y] (by omega) (List.getElem?_eq_getElem _))
  simp only [List.flatMap_cons, List.flatMap_nil, List.append_nil]
  omega
structure WideAt (l0 : List Expr) (x : List Expr × Nat × Nat) : Prop where
 eq : E0 61 l0 0 = E0 x.2.2 x.1 x.2.1
 f : x.2.2 ≤ 61
 n : x.2.1 ≤ 500
theorem c35 (l0 : List Expr) (Hp : List AObj) : AFun Tryz.prog 35 [.slice false 6 (l0.map A5), A3 0] Hp (Am (E0 61 l0 0)) := by
 refine ACall.body [.tmp 4] [0, 1] Tryz.func35 Tryz.ntmps35 (fun d => ?_)
 refine Z75 ?_;refine Z1 ?_;refine Nx ?_;refine W.seq ?_
 refine AW.loopC (α := List Expr × Nat × Nat) (fun x => ⟨67, A2 0 (.slice false 6 (x.1.map A5)) (A2 1 (A3 (61 - (x.2.2 : Int))) (A2 5 (A3 (x.2.1 : Nat)) (fun _ => .any))), Hp, [], [], none⟩) (fun x => WideAt l0 x) (fun x => x.2.2) ((l0, 0, 61)) ⟨rfl, Nat.le_refl _, Nat.zero_le _⟩ (StLe.of_eq (by simp)) rfl (fun x hx => ?_)
 refine Z10 ?_;refine Px ?_;refine R.fin [0, 1, 5, 10] ?_
 refine W.cond (fun ht10 => ?_) (fun ht10 => ?_)
 ·have hpos : 0 < x.1.length := by simpa using ht10
  have hne : x.1.isEmpty = false := by cases hxx : x.1 with
   | nil => rw [hxx] at hpos; simp at hpos
   | cons a r => rfl
  have hxf := hx.f
  refine Z4 ?_;refine AW.block ?_;refine S2 ?_;refine R.fin [0, 1, 5, 6] ?_;refine Z52 ?_;refine R.fin [0, 1, 5, 6, 7] ?_
  refine AW.loopC (α := Nat) (fun y => ⟨67, A2 0 (.slice false 6 (x.1.map A5)) (A2 1 (A3 (61 - (x.2.2 : Int))) (A2 5 (A3 ((x.2.1 + y : Nat) : Int)) (A2 6 (.slice true 6 (((x.1.take y).flatMap Expr.kids).map A5)) (A2 7 (A3 (y : Nat)) (fun _ => .any))))), Hp, [], [], none⟩) (fun y => y ≤ x.1.length ∧ x.2.1 + y ≤ 500 ∧ ∀ (j : Nat) (e : Expr), j < y → x.1[j]? = some e → Ln e = false) (fun y => x.1.length - y) (0) ⟨Nat.zero_le _, hx.n, fun j e h => by omega⟩ (StLe.of_eq (by simp)) rfl (fun y hy => ?_)
  refine Z83 ?_;refine R.fin [0, 1, 5, 6, 7, 15] ?_
  refine W.cond (fun ht15 => ?_) (fun ht15 => ?_)
  ·have hlt : y < x.1.length := by simpa using ht15
   have hyn := hy.2.1
   refine Z46 ?_;refine Z0 ?_;refine Z21 ?_;refine R.fin [0, 1, 5, 6, 7] ?_;refine Z10 ?_;refine R.gtr ?_;refine nd ?_;refine Z26 ?_;refine G.slen jU ?_;refine Z95 ?_;refine nd ?_;refine G.fieldAddrRo (off := 2) jU Tryz.sizeOf58 ?_;refine G.fieldAddrRo (off := 2) jU Tryz.sizeOf9 ?_;refine K3 ?_;refine G.slen jU ?_;refine Z95 ?_;refine nd ?_;refine j7 ?_;refine Z95 ?_;refine R.fin [0, 1, 5, 6, 7, 49] ?_
   refine W.cond (fun ht49 => ?_) (fun ht49 => ?_)
   ·have hm : Jn x.1 x.2.1 = true := l7 hlt (by
     simp only [Bool.or_eq_true, decide_eq_true_eq, List.length_map] at ht49
     unfold Ln
     simp only [Bool.or_eq_true, decide_eq_true_eq]
     omega)
    have hw := b9 (f := x.2.2) hne hm
    refine Jz ?_;refine K.thR ?_;refine Z61 ?_;refine K.blR ?_;exact rh
   have hfat : Ln x.1[y] = false ∧ x.2.1 + y + 1 ≤ 500 := by
    simp only [Bool.or_eq_false_iff, decide_eq_false_iff_not, List.length_map] at ht49
    unfold Ln
    simp only [Bool.or_eq_false_iff, decide_eq_false_iff_not]
    omega
   have hkl := (Sa hfat.1).2.2
   have hfm : (x.1.take (y + 1)).flatMap Expr.kids = (x.1.take y).flatMap Expr.kids ++ x.1[y].kids := by rw [List.take_succ_eq_append_getElem hlt, List.flatMap_append]; simp
   refine We ?_;refine Z58 ?_;refine R.indexAddr (y) (A5 x.1[y]) jU jS (A9 hlt) ?_;refine Z19 ?_
   refine R.append jU Tryz.type60 ?_ ?_ ?_
   ·have h1 := Oo y hy.1 hy.2.2; have h2 := hkl; have h3 := hy.2.1; simp only [List.length_map, Tryz.t60]; omega
   ·have h1 := Oo y hy.1 hy.2.2; have h2 := hkl; have h3 := hy.2.1; simp only [List.length_map, Tryz.t60]; omega
   refine Fq ?_;refine R.fin [0, 1, 5, 6, 7] ?_;refine Z90 ?_;refine R.fin [0, 1, 5, 6, 7] ?_
   refine K.lpN (y + 1) ⟨hlt, by omega, Aq hlt hy.2.2 hfat.1⟩ (by omega) (StCut.of_eq ?_)
   rw [hfm, List.map_append]
   rfl
  have hye : x.1.take y = x.1 := List.take_of_length_le (by simp at ht15; omega)
  have hyl : y = x.1.length := by have := hy.1; simp at ht15; omega
  have hmany : Jn x.1 x.2.1 = false := by
   unfold Jn
   rw [decide_eq_false (by have := hy.2.1; omega), Bool.false_or, List.any_eq_false]
   intro e he
   obtain ⟨j, hj⟩ := List.getElem?_of_mem he
   rw [hy.2.2 j e (by have := (List.getElem?_eq_some_iff.1 hj).1; omega) hj]
   simp
  refine Z47 ?_;refine Z10 ?_;refine Px ?_;refine Wf ?_;refine R.fin [1, 5, 6, 63] ?_
  refine W.cond (fun ht63 => ?_) (fun ht63 => ?_)
  ·have hw : E0 x.2.2 x.1 x.2.1 = true := by
    have h9 := ht63
    rw [hye] at h9
    simp only [Bool.or_eq_true, decide_eq_true_eq, List.length_map] at h9
    cases hf : x.2.2 with
    | zero => rw [E0, hne]; rfl
    | succ f =>
     rw [E0, if_neg (by rw [hne]; simp), if_neg (by rw [hmany]; simp), if_pos (by rw [decide_eq_true_eq]; omega)]
   refine Jz ?_;refine K.thR ?_;refine K.blR ?_;exact rh
  have h9 := ht63
  rw [hye] at h9
  simp only [Bool.or_eq_false_iff, decide_eq_false_iff_not, List.length_map] at h9
  obtain ⟨f, hf⟩ : ∃ f, x.2.2 = f + 1 := ⟨x.2.2 - 1, by omega⟩
  have hw : E0 x.2.2 x.1 x.2.1 = E0 f (x.1.flatMap Expr.kids) (x.2.1 + x.1.length) := by
   rw [hf, E0, if_neg (by rw [hne]; simp), if_neg (by rw [hmany]; simp), if_neg (by rw [decide_eq_true_eq]; omega)]
  refine Z4 ?_;refine Z40 ?_;refine Nx ?_;refine Z41 ?_;refine Nx ?_;refine K.blN ?_
  refine K.lpN (x.1.flatMap Expr.kids, x.2.1 + x.1.length, f) ⟨hx.eq.trans hw, by show f ≤ 61; omega, by show x.2.1 + x.1.length ≤ 500; have := hy.2.1; omega⟩ (by show f < x.2.2; omega) (StCut.of_eq ?_)
  rw [hye, hyl]
  congr 4
  simp only [AV.v.injEq, Value.int.injEq, true_and]
  omega
 have hnil : x.1 = [] := by have := ht10; simp at this; exact this
 refine Z47 ?_;refine Jz ?_;exact K.fin (V.one V.tmp) ⟨by rw [hx.eq, hnil]; cases x.2.2 <;> rfl, rfl⟩

theorem c19 (e : Expr) (Hp : List AObj) : AFun Tryz.prog 19 [A5 e] Hp (Am (Oh e)) := by
 refine ACall.body [.tmp 2] [0] Tryz.func19 Tryz.ntmps19 (fun d => ?_)
 refine Z89 ?_;refine Z86 ?_;refine H0 ?_;refine R.call Tryz.call35 (c35 [e] _) ?_;exact Zn

theorem Um {a b : List Expr} (hl : a.length = b.length) (h : ∀ (j : Nat) (y z : Expr), j < a.length → a[j]? = some y → b[j]? = some z → eqE y z = true) : eqL a b = true := by
 rw [L1]
 refine Q7 hl fun j y hj hy => ?_
 have hjb : j < b.length := by omega
 have := h j y b[j] hj hy (List.getElem?_eq_getElem hjb)
 rw [List.getElem?_eq_getElem hjb, (S8 _ _).1 this]
theorem oz {a b : List Expr} (h : eqL a b = true) {j : Nat} (hj : j < a.length) (hb : j < b.length) : eqE a[j] b[j] = true := by
 have e := (L1 _ _).1 h
 subst e
 exact ew _
theorem fl {a b : List Expr} {j : Nat} (hj : j < a.length) (hb : j < b.length) (h : eqE a[j] b[j] = false) : eqL a b = false := by
 rw [Bool.eq_false_iff]
 intro h2
 rw [oz h2 hj hb] at h
 cases h
theorem Ye {a b : List Expr} (h : a.length ≠ b.length) : eqL a b = false := by
 rw [Bool.eq_false_iff]
 exact fun h2 => h (kp h2)
theorem mo {a b : List Expr} {x : Nat} (hx : x < a.length) (hb : x < b.length) (h : ∀ (j : Nat) (y z : Expr), j < x → a[j]? = some y → b[j]? = some z → eqE y z = true) (he : eqE a[x] b[x] = true) : ∀ (j : Nat) (y z : Expr), j < x + 1 → a[j]? = some y → b[j]? = some z → eqE y z = true := by
 intro j y z hj h1 h2
 rcases Nat.lt_or_ge j x with h3 | h3
 ·exact h j y z h3 h1 h2
 have : j = x := by omega
 subst this
 rw [List.getElem?_eq_getElem hx] at h1
 rw [List.getElem?_eq_getElem hb] at h2
 injection h1 with h1
 injection h2 with h2
 rw [← h1, ← h2]
 exact he
def Un (x y : Expr) : Bool := ((x.op == y.op) && (x.text == y.text)) && ((x.val.kind == y.val.kind && x.val.n == y.val.n) && x.val.s == y.val.s)
theorem Sh (x y : Expr) : eqE x y = (Un x y && eqL x.kids y.kids) := eu x y
theorem c69 : ∀ (n : Nat) (x : Expr), okE n x → ∀ (y : Expr) (Hp : List AObj), AFun Tryz.prog 69 [A5 x, A5 y] Hp (Am (eqE x y)) := by
 intro n
 induction n with
 | zero => exact fun x h => h.elim
 | succ n ih =>
 intro x hok y Hp
 refine ACall.body [.tmp 4] [0, 1] Tryz.func69 Tryz.ntmps69 (fun d => ?_)
 refine Z30 ?_;refine Zu ?_;refine R.fin [2, 3] ?_;refine Kv ?_;refine Z9 ?_;refine R.neq ?_;refine Av ?_;refine Z26 ?_;refine Z26 ?_;refine G.sneq ?_;refine Zw ?_;refine ix ?_;refine ix ?_;refine G.neqAgg eb (fun w => Ky x.val.kind x.val.n y.val.kind y.val.n x.val.s y.val.s w) ?_;refine Zw ?_;refine j7 ?_;refine j7 ?_;refine S0 ?_;refine R.fin [2, 3, 33] ?_
 refine W.cond (fun ht33 => ?_) (fun ht33 => ?_)
 ·have hf : eqE x y = false := by
   rw [Sh]
   simp only [Bool.or_eq_true, bne_iff_ne, ne_eq, List.length_map, Bool.not_eq_true'] at ht33
   by_cases hh : Un x y = true
   ·rw [hh, Bool.true_and]
    refine Ye ?_
    unfold Un at hh
    simp only [Bool.and_eq_true, beq_iff_eq] at hh
    obtain ⟨⟨h1, h2⟩, ⟨h3, h4⟩, h5⟩ := hh
    rcases ht33 with ((h | h) | h) | h
    ·exact absurd h1 h
    ·simp [h2] at h
    ·simp [h3, h4, h5] at h
    intro e; exact h (by rw [e])
   rw [Bool.not_eq_true] at hh
   rw [hh, Bool.false_and]
  refine Jz ?_;exact s7
 have hh : Un x y = true ∧ x.kids.length = y.kids.length := by
  simp only [Bool.or_eq_false_iff, bne_eq_false_iff_eq, List.length_map, Bool.not_eq_false'] at ht33
  obtain ⟨⟨⟨h1, h2⟩, h3⟩, h4⟩ := ht33
  unfold Un
  refine ⟨?_, by omega⟩
  simp only [beq_iff_eq, Bool.and_eq_true] at h1 h2 h3 ⊢
  exact ⟨⟨h1, h2⟩, h3⟩
 obtain ⟨hh, hlen⟩ := hh
 have hkl := hok.2.1
 refine Kx ?_;refine R.fin [2, 3, 5] ?_
 refine AW.loopC (α := Nat) (fun i => ⟨53, A2 2 (.ro (Cx x)) (A2 3 (.ro (Cx y)) (A2 5 (A3 (i : Nat)) (fun _ => .any))), Hp, [], [], none⟩) (fun i => i ≤ x.kids.length ∧ ∀ (j : Nat) (a b : Expr), j < i → x.kids[j]? = some a → y.kids[j]? = some b → eqE a b = true) (fun i => x.kids.length - i) (0) ⟨Nat.zero_le _, fun j a b h => by omega⟩ (StLe.refl _) rfl (fun i hi => ?_)
 refine Wd ?_;refine R.fin [2, 3, 5, 38] ?_
 refine W.cond (fun ht38 => ?_) (fun ht38 => ?_)
 ·have hlt : i < x.kids.length := by simpa using ht38
  have hly : i < y.kids.length := by omega
  refine Z46 ?_;refine W.draw [0, 1, 0, 7, 15, 0, 32, 0, 224, 480, 1023, 2047] 10 Ah (by kernel_rfl) ?_;refine Z99 ?_;refine D.move ?_;refine sn ?_;refine Z99 ?_;refine D.move ?_;refine D.indexAddr (i) (A5 y.kids[i]) jU jS (A9 hly) ?_;refine dd ?_;refine R.call Tryz.call69 (ih x.kids[i] (hok.2.2 _ (List.getElem_mem hlt)) y.kids[i] _) ?_;refine R.not ?_;refine R.fin [2, 3, 5, 52] ?_
  refine W.cond (fun ht52 => ?_) (fun ht52 => ?_)
  ·have hf : eqE x y = false := by rw [Sh, fl hlt hly (by simpa using ht52), Bool.and_false]
   refine Jz ?_;exact s8
  have he : eqE x.kids[i] y.kids[i] = true := by simpa using ht52
  refine Z85 ?_;refine R.fin [2, 3, 5] ?_;exact K.lpN (i + 1) ⟨hlt, mo hlt hly hi.2 he⟩ (by omega) (StCut.of_eq rfl)
 have hxe : x.kids.length ≤ i := by simpa using ht38
 refine Z47 ?_;refine Jz ?_;exact K.fin (V.one V.tmp) ⟨by rw [Sh, hh, Um hlen (fun j a b hj => hi.2 j a b (by omega))]; rfl, rfl⟩

theorem wo (n : Nat) (a b : List Expr) (ha : a.length ≤ 1048576) (hok : ∀ y ∈ a, okE n y) (ih : ∀ (x : Expr), okE n x → ∀ (y : Expr) (Hp : List AObj), AFun Tryz.prog 156 [A5 x, A5 y] Hp (Am (eqE x y))) (Hp : List AObj) : AFun Tryz.prog 168 [.slice false 6 (a.map A5), .slice false 6 (b.map A5), .fn (.func 156) [] []] Hp (Am (eqL a b)) := by
 refine ACall.body [.tmp 6] [0, 1, 2] Tryz.func168 Tryz.ntmps168 (fun d => ?_)
 refine Z1 ?_;refine R.fin [0, 1, 2] ?_;refine Z10 ?_;refine R.len jU ?_;refine Z36 ?_;refine R.neq ?_;refine R.fin [0, 1, 2, 14] ?_
 refine W.cond (fun ht14 => ?_) (fun ht14 => ?_)
 ·have hf : eqL a b = false := Ye (by have := ht14; simp at this; omega)
  refine Nt ?_;exact s7
 have hlen : a.length = b.length := by have := ht14; simp at this; omega
 refine Z4 ?_;refine S1 ?_;refine R.fin [1, 2, 15, 16, 17] ?_
 refine AW.loopC (α := Nat) (fun i => ⟨32, A2 1 (.slice false 6 (b.map A5)) (A2 2 (.fn (.func 156) [] []) (A2 15 (.slice false 6 (a.map A5)) (A2 16 (A3 (a.length : Nat)) (A2 17 (A3 (i : Nat)) (fun _ => .any))))), Hp, [], [], none⟩) (fun i => i ≤ a.length ∧ ∀ (j : Nat) (y z : Expr), j < i → a[j]? = some y → b[j]? = some z → eqE y z = true) (fun i => a.length - i) (0) ⟨Nat.zero_le _, fun j y z h => by omega⟩ (StLe.of_eq (by simp)) rfl (fun i hi => ?_)
 refine Z57 ?_;refine R.fin [1, 2, 15, 16, 17, 18] ?_
 refine W.condX (fun ht18 => ?_) (fun ht18 => ?_)
 ·have hlt : i < a.length := by simpa using ht18
  have hlb : i < b.length := by omega
  refine Mw ?_;refine R.indexAddr (i) (A5 a[i]) jU jS (A9 hlt) ?_;refine Ek ?_;refine W4 ?_;refine R.fin [1, 2, 7, 8, 15, 16, 17] ?_;refine Z32 ?_;refine R.indexAddr (i) (A5 b[i]) jU jS (A9 hlb) ?_;refine W3 ?_;refine R.fin [1, 2, 8, 9, 15, 16, 17] ?_;refine Z0 ?_;refine O0 ?_;refine O0 ?_;refine R.callV Tryz.call156 (ih a[i] (hok _ (List.getElem_mem hlt)) b[i] _) ?_;refine R.not ?_;refine R.fin [1, 2, 15, 16, 17, 30] ?_
  refine W.cond (fun ht30 => ?_) (fun ht30 => ?_)
  ·have hf : eqL a b = false := fl hlt hlb (by simpa using ht30)
   refine Nt ?_;exact s8
  have he : eqE a[i] b[i] = true := by simpa using ht30
  refine Ja ?_;refine R.fin [1, 2, 15, 16, 17] ?_;refine K.lpN (i + 1) ⟨hlt, mo hlt hlb hi.2 he⟩ (by omega) ?_
  exact StCut.take (own := []) (fun _ => .refl _) (by repeat (first | exact Al | refine Ak (by first | exact Cv | (simp; done)) ?_)) (by simp) (by simp)
 have hxe : a.length ≤ i := by simpa using ht18
 refine Z23 ?_;refine Nt ?_;exact K.fin (V.one V.tmp) ⟨by rw [Um hlen (fun j y z hj => hi.2 j y z (by omega))], rfl⟩

theorem uk : ∀ (n : Nat) (x : Expr), okE n x → ∀ (y : Expr) (Hp : List AObj), AFun Tryz.prog 156 [A5 x, A5 y] Hp (Am (eqE x y)) := by
 intro n
 induction n with
 | zero => exact fun x h => h.elim
 | succ n ih =>
 intro x hok y Hp
 refine ACall.body [.tmp 4] [0, 1] Tryz.func156 Tryz.ntmps156 (fun d => ?_)
 refine Z30 ?_;refine Zu ?_;refine R.fin [2, 3] ?_;refine Nr ?_;refine Z9 ?_;refine Mt ?_;refine Z26 ?_;refine Lf ?_;refine Rz ?_;refine ix ?_;refine ix ?_;refine G.eqlAgg eb (fun w => Ky x.val.kind x.val.n y.val.kind y.val.n x.val.s y.val.s w) ?_;refine Rz ?_;refine Z45 ?_;refine Z45 ?_;refine G.call Tryz.call168 (fun hB => wo n x.kids y.kids hok.2.1 hok.2.2 ih _) ?_;refine Z25 ?_;refine Z27 ?_;exact K.fin (V.one V.tmp) ⟨by rw [eu], rfl⟩

set_option maxRecDepth 8000
/-! Moves: what mig.Right, sound.* and the document's layers 18, 19 answer. -/
structure Mov where
 kind : Int
 take : List Str
 give : List Col
 ahead : List Expr
 back : List Expr
abbrev Az (l : List Expr) : AV := .slice false 6 (l.map A5)
abbrev Gb (m : Mov) : List AV := [A3 m.kind, C2 m.take, A4 m.give, Az m.ahead, Az m.back]
abbrev Gc (m : Mov) : AV := .agg (Gb m)
abbrev By (l : List Mov) : AV := .slice false 5 (l.map Gc)
/-- Trees that may be walked. -/
structure OkEs (l : List Expr) : Prop where
 len : l.length ≤ 1048576
 ok : ∀ e ∈ l, okE 61 e
 size : ∀ e ∈ l, sizeE e ≤ 1048576
 rng : ∀ e ∈ l, Cm Fu e = true
structure OkMov (m : Mov) : Prop where
 takes : m.take.length ≤ 1048576
 names : ∀ s ∈ m.take, s.length ≤ 1048576
 gives : OkCols m.give
 gives2 : m.give.length ≤ 1000000
 ahead : OkEs m.ahead
 back : OkEs m.back
structure OkMovs (l : List Mov) : Prop where
 len : l.length ≤ 1048576
 each : ∀ m ∈ l, OkMov m
def Cy (m : Mov) : Bool :=
 if ((m.ahead.length : Int) != (m.give.length : Int)) || ((m.back.length : Int) != (m.take.length : Int)) then false
 else if m.kind == 1 then ((m.take.length : Int) == 0) && ((m.give.length : Int) == 1)
 else if m.kind == 2 then ((m.take.length : Int) == 1) && ((m.give.length : Int) == 0)
 else if (m.kind == 3) || (m.kind == 6) then ((m.take.length : Int) == 1) && ((m.give.length : Int) == 1)
 else if m.kind == 4 then ((m.take.length : Int) == 1) && decide ((1 : Int) < (m.give.length : Int))
 else if m.kind == 5 then decide ((1 : Int) < (m.take.length : Int)) && ((m.give.length : Int) == 1)
 else false
def Ez (m : Mov) (c : Col) : Bool := Bw c.name && (((Bn c.kind == []) == (m.kind == 3)) && !((m.kind == 3) && (c.kind != 0)))
def Gd (m : Mov) : Bool :=
 if m.kind == 3 then eqE (m.ahead.getD 0 A8) (An (m.take.getD 0 [])) && eqE (m.back.getD 0 A8) (An (m.give.getD 0 ⟨[], 0⟩).name)
 else if m.kind == 6 then m.take.getD 0 [] == (m.give.getD 0 ⟨[], 0⟩).name else true
def D9 (m : Mov) : Bool := (((((Cy m && m.give.all (Ez m)) && m.take.all Bw) && m.ahead.all Ad) && m.back.all Ad) && Gd m)
def I1 (l : List Mov) : Bool := decide ((l.length : Int) ≤ 8) && l.all D9
/-! Columns behind moves. -/
def Uo (e : Expr) (c : List Col) (w : Int) : Bool := ((D3 e c).2 == 0) && (((D3 e c).1 == w) || ((D3 e c).1 == 0))
def Ai (c : List Col) (m : Mov) : List Col :=
 if m.kind == 3 then (if Af (m.take.getD 0 []) c < 0 then m.give else match m.give with
  | [] => []
  | y :: r => ⟨y.name, (c.getD (Af (m.take.getD 0 []) c).toNat ⟨[], 0⟩).kind⟩ :: r)
 else m.give
def Je (e : Expr) (c : List Col) (w : Int) : Int := if (D3 e c).2 != 0 then (D3 e c).2 else if !Uo e c w then 10 else 0
def Bz (over : List Col) : List Expr → List Col → Int
 | x :: r, w :: ws => if Je x over w.kind != 0 then Je x over w.kind else Bz over r ws
 | _, _ => 0
def E8 (c : List Col) (m : Mov) : List Col := m.take.map fun s => c.getD (Af s c).toNat ⟨[], 0⟩
def B7 (c : List Col) (m : Mov) : List Col × Int :=
 if (Bv c m.take (Ai c m)).2 != 0 then ([], (Bv c m.take (Ai c m)).2)
 else if Bz c m.ahead (Ai c m) != 0 then ([], Bz c m.ahead (Ai c m))
 else if Bz (Bv c m.take (Ai c m)).1 m.back (E8 c m) != 0 then ([], Bz (Bv c m.take (Ai c m)).1 m.back (E8 c m))
 else ((Bv c m.take (Ai c m)).1, 0)
/-- The columns ahead of each move and behind the last one, till one is wrong; the error. -/
def Bf (c : List Col) : List Mov → List (List Col) × Int
 | [] => ([c], 0)
 | m :: r => if (B7 c m).2 != 0 then ([c], (B7 c m).2) else (c :: (Bf (B7 c m).1 r).1, (Bf (B7 c m).1 r).2)
def Gw (c : List Col) (l : List Mov) : Bool := B1 c && I1 l
/-- ref19.Steps. -/
def C9 (c : List Col) (l : List Mov) : List (List Col) × Int := if Gw c l then Bf c l else ([], 1)
/-- sound.Steps. -/
def Aw (c : List Col) (l : List Mov) : List (List Col) × Int := if (C9 c l).2 != 0 then ([], (C9 c l).2) else C9 c l
def Ao (c : List Col) (l : List Mov) : List Col × Int := if (Aw c l).2 != 0 then ([], (Aw c l).2) else ((Aw c l).1.getLastD [], 0)
theorem Lt {m : Mov} (h : D9 m = true) : Cy m = true := by
 unfold D9 at h
 simp only [Bool.and_eq_true] at h
 exact h.1.1.1.1.1
theorem E9 {m : Mov} (h : Cy m = true) : m.ahead.length = m.give.length ∧ m.back.length = m.take.length := by
 unfold Cy at h
 split at h
 ·cases h
 rename_i h1
 simp only [Bool.or_eq_true, bne_iff_ne, ne_eq, not_or, Classical.not_not] at h1
 omega
theorem Im {m : Mov} (h : Cy m = true) (h3 : ((m.kind == 3) || (m.kind == 6)) = true) : m.take.length = 1 ∧ m.give.length = 1 := by
 unfold Cy at h
 split at h
 ·cases h
 have h1 : (m.kind == 1) = false := by simp at h3 ⊢; omega
 have h2 : (m.kind == 2) = false := by simp at h3 ⊢; omega
 simp only [h1, h2, h3, if_true, if_false, Bool.false_eq_true, Bool.and_eq_true, beq_iff_eq] at h
 omega
theorem Ee (c : List Col) (m : Mov) : (Ai c m).length = m.give.length := by
 unfold Ai
 split
 ·split
  ·rfl
  split <;> simp_all
 rfl
set_option maxRecDepth 4000
def mp : Str := [32, 101, 120, 112, 97, 110, 100, 32, 116, 114, 105, 103, 103, 101, 114, 32, 99, 111, 112, 121, 32, 118, 101, 114, 105, 102, 121, 32, 99, 117, 116, 32, 99, 111, 110, 116, 114, 97, 99, 116, 32, 114, 101, 108, 101, 97, 115, 101]
theorem X9 : Ie mp [32] = [[], [101, 120, 112, 97, 110, 100], [116, 114, 105, 103, 103, 101, 114], [99, 111, 112, 121], [118, 101, 114, 105, 102, 121], [99, 117, 116], [99, 111, 110, 116, 114, 97, 99, 116], [114, 101, 108, 101, 97, 115, 101]] := by kernel_rfl
def stepNames : List Str := [[], [101, 120, 112, 97, 110, 100], [116, 114, 105, 103, 103, 101, 114], [99, 111, 112, 121], [118, 101, 114, 105, 102, 121], [99, 117, 116], [99, 111, 110, 116, 114, 97, 99, 116], [114, 101, 108, 101, 97, 115, 101]]
def B5 (k : Int) : Str := if (decide (k < 1) || decide (7 < k)) = true then [] else stepNames.getD k.toNat []
theorem wq (Hp : List AObj) : AFun Tryz.prog 33 [A3 10, A3 4] Hp (.tup [A3 4, A3 0]) := by
 refine ACall.body [.tmp 4, .tmp 5] [0, 1] Tryz.func33 Tryz.ntmps33 (fun d => ?_)
 refine No ?_;refine ab ?_;refine Wf ?_;refine Z14 ?_;refine G.lss ?_;refine R.pickOr ?_;refine Wf ?_;refine R.fin [0, 1, 19] ?_
 refine W.cond (fun ht19 => ?_) (fun ht19 => ?_)
 ·cases ht19
 refine Tt ?_;refine R.add64 ?_;refine R.sub64 ?_;refine Av ?_;refine R.quo ?_
 rw [show IntKind.i64.wrap ((10 + 4 - 1 : Int).tdiv 4) = 3 from rfl]
 refine R.add64 ?_;exact nu

theorem wr (Hp : List AObj) : AFun Tryz.prog 17 [A3 10, A3 4] Hp (.tup [A3 13, A3 0]) := by
 refine ACall.body [.tmp 4, .tmp 5] [0, 1] Tryz.func17 Tryz.ntmps17 (fun d => ?_)
 refine No ?_;refine Z32 ?_;refine R.call Tryz.call33 (wq _) ?_;refine Fc ?_;refine R.fin [6, 7] ?_;refine Gs ?_;refine R.fin [6, 7, 15] ?_
 refine W.cond (fun ht15 => ?_) (fun ht15 => ?_)
 ·cases ht15
 refine Z96 ?_;refine R.mul ?_
 rw [show IntKind.i64.wrap (3 * 4 : Int) = 12 from rfl]
 refine R.add64 ?_;exact nu

theorem c18 (k : Int) (Hp : List AObj) : AFun Tryz.prog 18 [A3 k] Hp (A7 (B5 k)) := by
 refine ACall.body [.tmp 2] [0] Tryz.func18 Tryz.ntmps18 (fun d => ?_)
 refine Nv ?_;refine R.lss ?_;refine Wf ?_;refine R.fin [0, 8] ?_
 refine W.cond (fun ht8 => ?_) (fun ht8 => ?_)
 ·have hm : B5 k = [] := if_pos ht8
  exact dq
 have hm : B5 k = stepNames.getD k.toNat [] := if_neg (by rw [ht8]; simp)
 refine Hz ?_;refine R.call Tryz.call34 (c34 mp [32] (by decide) (by decide) _) ?_
 rw [X9]
 refine Av ?_
 have hk : 1 ≤ k ∧ k ≤ 7 := by simp at ht8; omega
 have hget : ([[], [101, 120, 112, 97, 110, 100], [116, 114, 105, 103, 103, 101, 114], [99, 111, 112, 121], [118, 101, 114, 105, 102, 121], [99, 117, 116], [99, 111, 110, 116, 114, 97, 99, 116], [114, 101, 108, 101, 97, 115, 101]].map A7)[k.toNat]? = some (A7 (stepNames.getD k.toNat [])) := by
  have hlt : k.toNat < stepNames.length := by show k.toNat < 8; omega
  show (stepNames.map A7)[k.toNat]? = _
  rw [List.getElem?_map, List.getElem?_eq_getElem hlt, List.getD_eq_getElem?_getD, List.getElem?_eq_getElem hlt]
  rfl
 refine R.indexAddr (k.toNat) (A7 (stepNames.getD k.toNat [])) jU jS hget ?_;refine ja ?_;exact rr

theorem c5w (Hp : List AObj) : AFun Tryz.prog 5 [] Hp (Am true) := by
 refine ACall.body [.tmp 0] [] Tryz.func5 Tryz.ntmps5 (fun d => ?_)
 refine Z1 ?_;refine R.fin [] ?_;refine Ba ?_;refine R.call Tryz.call17 (wr _) ?_;refine Fc ?_;refine R.fin [1, 2] ?_;refine K1 ?_;refine Z14 ?_;refine G.eql ?_;refine Rz ?_;refine G.call Tryz.call18 (fun hB => c18 6 _) ?_;refine G.seql ?_;refine Z25 ?_;refine R.fin [0] ?_;refine AW.ret ?_;exact S3

abbrev Up (s : Sign) : AV := .agg [.slice false 1 (s.kids.map A3), A3 s.own]
theorem Ff {n : Nat} (s : Sign) : Low n (Up s) := by simp [or_imp, forall_and]
theorem wt (s : Str) (Hp : List AObj) : AFun Tryz.prog 188 [A7 s] Hp (Up (A0 s)) := by
 refine ACall.body [.cell 2 200] [0] Tryz.func188 Tryz.ntmps188 (fun d => ?_)
 refine dp ?_;refine R.fin [0, 2] ?_;refine Z10 ?_;refine R.fin [2, 3] ?_;refine AW.block ?_;refine Nu ?_;refine R.fin [2, 3, 4] ?_
 refine W.cond (fun ht4 => ?_) (fun ht4 => ?_)
 ·refine Z4 ?_
  refine W.cond (fun ht4 => ?_) (fun ht4 => ?_)
  ·refine Z49 ?_
   first | (by_cases e0 : A0 s = ⟨[3, 3], 3⟩; exact K.fin (V.one (V.cellN Tryz.isAgg200 Tryz.sizeOf200)) ⟨by rw [e0]; rfl, rfl⟩; exfalso; apply e0; simp_all [A0]; done) | (by_cases e0 : A0 s = ⟨[-1, -1], 3⟩; exact K.fin (V.one (V.cellN Tryz.isAgg200 Tryz.sizeOf200)) ⟨by rw [e0]; rfl, rfl⟩; exfalso; apply e0; simp_all [A0]; done) | (by_cases e0 : A0 s = ⟨[2, 2], 2⟩; exact K.fin (V.one (V.cellN Tryz.isAgg200 Tryz.sizeOf200)) ⟨by rw [e0]; rfl, rfl⟩; exfalso; apply e0; simp_all [A0]; done) | (by_cases e0 : A0 s = ⟨[1, 1], 1⟩; exact K.fin (V.one (V.cellN Tryz.isAgg200 Tryz.sizeOf200)) ⟨by rw [e0]; rfl, rfl⟩; exfalso; apply e0; simp_all [A0]; done)
  refine Nu ?_;refine R.fin [2, 3, 9] ?_
  refine W.cond (fun ht9 => ?_) (fun ht9 => ?_)
  ·refine Z4 ?_
   refine W.cond (fun ht9 => ?_) (fun ht9 => ?_)
   ·refine Z49 ?_
    first | (by_cases e0 : A0 s = ⟨[3, 3], 3⟩; exact K.fin (V.one (V.cellN Tryz.isAgg200 Tryz.sizeOf200)) ⟨by rw [e0]; rfl, rfl⟩; exfalso; apply e0; simp_all [A0]; done) | (by_cases e0 : A0 s = ⟨[-1, -1], 3⟩; exact K.fin (V.one (V.cellN Tryz.isAgg200 Tryz.sizeOf200)) ⟨by rw [e0]; rfl, rfl⟩; exfalso; apply e0; simp_all [A0]; done) | (by_cases e0 : A0 s = ⟨[2, 2], 2⟩; exact K.fin (V.one (V.cellN Tryz.isAgg200 Tryz.sizeOf200)) ⟨by rw [e0]; rfl, rfl⟩; exfalso; apply e0; simp_all [A0]; done) | (by_cases e0 : A0 s = ⟨[1, 1], 1⟩; exact K.fin (V.one (V.cellN Tryz.isAgg200 Tryz.sizeOf200)) ⟨by rw [e0]; rfl, rfl⟩; exfalso; apply e0; simp_all [A0]; done)
   refine Mr ?_
   refine W.cond (fun ht18 => ?_) (fun ht18 => ?_)
   ·refine Z49 ?_
    first | (by_cases e0 : A0 s = ⟨[3, 3], 3⟩; exact K.fin (V.one (V.cellN Tryz.isAgg200 Tryz.sizeOf200)) ⟨by rw [e0]; rfl, rfl⟩; exfalso; apply e0; simp_all [A0]; done) | (by_cases e0 : A0 s = ⟨[-1, -1], 3⟩; exact K.fin (V.one (V.cellN Tryz.isAgg200 Tryz.sizeOf200)) ⟨by rw [e0]; rfl, rfl⟩; exfalso; apply e0; simp_all [A0]; done) | (by_cases e0 : A0 s = ⟨[2, 2], 2⟩; exact K.fin (V.one (V.cellN Tryz.isAgg200 Tryz.sizeOf200)) ⟨by rw [e0]; rfl, rfl⟩; exfalso; apply e0; simp_all [A0]; done) | (by_cases e0 : A0 s = ⟨[1, 1], 1⟩; exact K.fin (V.one (V.cellN Tryz.isAgg200 Tryz.sizeOf200)) ⟨by rw [e0]; rfl, rfl⟩; exfalso; apply e0; simp_all [A0]; done)
   refine Jb ?_
   first | (by_cases e0 : A0 s = ⟨[3, 3], 3⟩; exact K.fin (V.one (V.cellN Tryz.isAgg200 Tryz.sizeOf200)) ⟨by rw [e0]; rfl, rfl⟩; exfalso; apply e0; simp_all [A0]; done) | (by_cases e0 : A0 s = ⟨[-1, -1], 3⟩; exact K.fin (V.one (V.cellN Tryz.isAgg200 Tryz.sizeOf200)) ⟨by rw [e0]; rfl, rfl⟩; exfalso; apply e0; simp_all [A0]; done) | (by_cases e0 : A0 s = ⟨[2, 2], 2⟩; exact K.fin (V.one (V.cellN Tryz.isAgg200 Tryz.sizeOf200)) ⟨by rw [e0]; rfl, rfl⟩; exfalso; apply e0; simp_all [A0]; done) | (by_cases e0 : A0 s = ⟨[1, 1], 1⟩; exact K.fin (V.one (V.cellN Tryz.isAgg200 Tryz.sizeOf200)) ⟨by rw [e0]; rfl, rfl⟩; exfalso; apply e0; simp_all [A0]; done)
  refine Pu ?_
  refine W.cond (fun ht9 => ?_) (fun ht9 => ?_)
  ·refine Z4 ?_
   refine W.cond (fun ht9 => ?_) (fun ht9 => ?_)
   ·refine Z49 ?_
    first | (by_cases e0 : A0 s = ⟨[3, 3], 3⟩; exact K.fin (V.one (V.cellN Tryz.isAgg200 Tryz.sizeOf200)) ⟨by rw [e0]; rfl, rfl⟩; exfalso; apply e0; simp_all [A0]; done) | (by_cases e0 : A0 s = ⟨[-1, -1], 3⟩; exact K.fin (V.one (V.cellN Tryz.isAgg200 Tryz.sizeOf200)) ⟨by rw [e0]; rfl, rfl⟩; exfalso; apply e0; simp_all [A0]; done) | (by_cases e0 : A0 s = ⟨[2, 2], 2⟩; exact K.fin (V.one (V.cellN Tryz.isAgg200 Tryz.sizeOf200)) ⟨by rw [e0]; rfl, rfl⟩; exfalso; apply e0; simp_all [A0]; done) | (by_cases e0 : A0 s = ⟨[1, 1], 1⟩; exact K.fin (V.one (V.cellN Tryz.isAgg200 Tryz.sizeOf200)) ⟨by rw [e0]; rfl, rfl⟩; exfalso; apply e0; simp_all [A0]; done)
   refine Mr ?_
   refine W.cond (fun ht18 => ?_) (fun ht18 => ?_)
   ·refine Z49 ?_
    first | (by_cases e0 : A0 s = ⟨[3, 3], 3⟩; exact K.fin (V.one (V.cellN Tryz.isAgg200 Tryz.sizeOf200)) ⟨by rw [e0]; rfl, rfl⟩; exfalso; apply e0; simp_all [A0]; done) | (by_cases e0 : A0 s = ⟨[-1, -1], 3⟩; exact K.fin (V.one (V.cellN Tryz.isAgg200 Tryz.sizeOf200)) ⟨by rw [e0]; rfl, rfl⟩; exfalso; apply e0; simp_all [A0]; done) | (by_cases e0 : A0 s = ⟨[2, 2], 2⟩; exact K.fin (V.one (V.cellN Tryz.isAgg200 Tryz.sizeOf200)) ⟨by rw [e0]; rfl, rfl⟩; exfalso; apply e0; simp_all [A0]; done) | (by_cases e0 : A0 s = ⟨[1, 1], 1⟩; exact K.fin (V.one (V.cellN Tryz.isAgg200 Tryz.sizeOf200)) ⟨by rw [e0]; rfl, rfl⟩; exfalso; apply e0; simp_all [A0]; done)
   refine Jb ?_
   first | (by_cases e0 : A0 s = ⟨[3, 3], 3⟩; exact K.fin (V.one (V.cellN Tryz.isAgg200 Tryz.sizeOf200)) ⟨by rw [e0]; rfl, rfl⟩; exfalso; apply e0; simp_all [A0]; done) | (by_cases e0 : A0 s = ⟨[-1, -1], 3⟩; exact K.fin (V.one (V.cellN Tryz.isAgg200 Tryz.sizeOf200)) ⟨by rw [e0]; rfl, rfl⟩; exfalso; apply e0; simp_all [A0]; done) | (by_cases e0 : A0 s = ⟨[2, 2], 2⟩; exact K.fin (V.one (V.cellN Tryz.isAgg200 Tryz.sizeOf200)) ⟨by rw [e0]; rfl, rfl⟩; exfalso; apply e0; simp_all [A0]; done) | (by_cases e0 : A0 s = ⟨[1, 1], 1⟩; exact K.fin (V.one (V.cellN Tryz.isAgg200 Tryz.sizeOf200)) ⟨by rw [e0]; rfl, rfl⟩; exfalso; apply e0; simp_all [A0]; done)
  refine Pu ?_
  refine W.cond (fun ht9 => ?_) (fun ht9 => ?_)
  ·refine Z4 ?_
   refine W.cond (fun ht9 => ?_) (fun ht9 => ?_)
   ·refine Z49 ?_
    first | (by_cases e0 : A0 s = ⟨[3, 3], 3⟩; exact K.fin (V.one (V.cellN Tryz.isAgg200 Tryz.sizeOf200)) ⟨by rw [e0]; rfl, rfl⟩; exfalso; apply e0; simp_all [A0]; done) | (by_cases e0 : A0 s = ⟨[-1, -1], 3⟩; exact K.fin (V.one (V.cellN Tryz.isAgg200 Tryz.sizeOf200)) ⟨by rw [e0]; rfl, rfl⟩; exfalso; apply e0; simp_all [A0]; done) | (by_cases e0 : A0 s = ⟨[2, 2], 2⟩; exact K.fin (V.one (V.cellN Tryz.isAgg200 Tryz.sizeOf200)) ⟨by rw [e0]; rfl, rfl⟩; exfalso; apply e0; simp_all [A0]; done) | (by_cases e0 : A0 s = ⟨[1, 1], 1⟩; exact K.fin (V.one (V.cellN Tryz.isAgg200 Tryz.sizeOf200)) ⟨by rw [e0]; rfl, rfl⟩; exfalso; apply e0; simp_all [A0]; done)
   refine Mr ?_
   refine W.cond (fun ht18 => ?_) (fun ht18 => ?_)
   ·refine Z49 ?_
    first | (by_cases e0 : A0 s = ⟨[3, 3], 3⟩; exact K.fin (V.one (V.cellN Tryz.isAgg200 Tryz.sizeOf200)) ⟨by rw [e0]; rfl, rfl⟩; exfalso; apply e0; simp_all [A0]; done) | (by_cases e0 : A0 s = ⟨[-1, -1], 3⟩; exact K.fin (V.one (V.cellN Tryz.isAgg200 Tryz.sizeOf200)) ⟨by rw [e0]; rfl, rfl⟩; exfalso; apply e0; simp_all [A0]; done) | (by_cases e0 : A0 s = ⟨[2, 2], 2⟩; exact K.fin (V.one (V.cellN Tryz.isAgg200 Tryz.sizeOf200)) ⟨by rw [e0]; rfl, rfl⟩; exfalso; apply e0; simp_all [A0]; done) | (by_cases e0 : A0 s = ⟨[1, 1], 1⟩; exact K.fin (V.one (V.cellN Tryz.isAgg200 Tryz.sizeOf200)) ⟨by rw [e0]; rfl, rfl⟩; exfalso; apply e0; simp_all [A0]; done)
   refine Jb ?_
   first | (by_cases e0 : A0 s = ⟨[3, 3], 3⟩; exact K.fin (V.one (V.cellN Tryz.isAgg200 Tryz.sizeOf200)) ⟨by rw [e0]; rfl, rfl⟩; exfalso; apply e0; simp_all [A0]; done) | (by_cases e0 : A0 s = ⟨[-1, -1], 3⟩; exact K.fin (V.one (V.cellN Tryz.isAgg200 Tryz.sizeOf200)) ⟨by rw [e0]; rfl, rfl⟩; exfalso; apply e0; simp_all [A0]; done) | (by_cases e0 : A0 s = ⟨[2, 2], 2⟩; exact K.fin (V.one (V.cellN Tryz.isAgg200 Tryz.sizeOf200)) ⟨by rw [e0]; rfl, rfl⟩; exfalso; apply e0; simp_all [A0]; done) | (by_cases e0 : A0 s = ⟨[1, 1], 1⟩; exact K.fin (V.one (V.cellN Tryz.isAgg200 Tryz.sizeOf200)) ⟨by rw [e0]; rfl, rfl⟩; exfalso; apply e0; simp_all [A0]; done)
  refine Pu ?_
  refine W.cond (fun ht9 => ?_) (fun ht9 => ?_)
  ·refine Z4 ?_
   refine W.cond (fun ht9 => ?_) (fun ht9 => ?_)
   ·refine Z49 ?_
    first | (by_cases e0 : A0 s = ⟨[3, 3], 3⟩; exact K.fin (V.one (V.cellN Tryz.isAgg200 Tryz.sizeOf200)) ⟨by rw [e0]; rfl, rfl⟩; exfalso; apply e0; simp_all [A0]; done) | (by_cases e0 : A0 s = ⟨[-1, -1], 3⟩; exact K.fin (V.one (V.cellN Tryz.isAgg200 Tryz.sizeOf200)) ⟨by rw [e0]; rfl, rfl⟩; exfalso; apply e0; simp_all [A0]; done) | (by_cases e0 : A0 s = ⟨[2, 2], 2⟩; exact K.fin (V.one (V.cellN Tryz.isAgg200 Tryz.sizeOf200)) ⟨by rw [e0]; rfl, rfl⟩; exfalso; apply e0; simp_all [A0]; done) | (by_cases e0 : A0 s = ⟨[1, 1], 1⟩; exact K.fin (V.one (V.cellN Tryz.isAgg200 Tryz.sizeOf200)) ⟨by rw [e0]; rfl, rfl⟩; exfalso; apply e0; simp_all [A0]; done)
   refine Mr ?_
   refine W.cond (fun ht18 => ?_) (fun ht18 => ?_)
   ·refine Z49 ?_
    first | (by_cases e0 : A0 s = ⟨[3, 3], 3⟩; exact K.fin (V.one (V.cellN Tryz.isAgg200 Tryz.sizeOf200)) ⟨by rw [e0]; rfl, rfl⟩; exfalso; apply e0; simp_all [A0]; done) | (by_cases e0 : A0 s = ⟨[-1, -1], 3⟩; exact K.fin (V.one (V.cellN Tryz.isAgg200 Tryz.sizeOf200)) ⟨by rw [e0]; rfl, rfl⟩; exfalso; apply e0; simp_all [A0]; done) | (by_cases e0 : A0 s = ⟨[2, 2], 2⟩; exact K.fin (V.one (V.cellN Tryz.isAgg200 Tryz.sizeOf200)) ⟨by rw [e0]; rfl, rfl⟩; exfalso; apply e0; simp_all [A0]; done) | (by_cases e0 : A0 s = ⟨[1, 1], 1⟩; exact K.fin (V.one (V.cellN Tryz.isAgg200 Tryz.sizeOf200)) ⟨by rw [e0]; rfl, rfl⟩; exfalso; apply e0; simp_all [A0]; done)
   refine Jb ?_
   first | (by_cases e0 : A0 s = ⟨[3, 3], 3⟩; exact K.fin (V.one (V.cellN Tryz.isAgg200 Tryz.sizeOf200)) ⟨by rw [e0]; rfl, rfl⟩; exfalso; apply e0; simp_all [A0]; done) | (by_cases e0 : A0 s = ⟨[-1, -1], 3⟩; exact K.fin (V.one (V.cellN Tryz.isAgg200 Tryz.sizeOf200)) ⟨by rw [e0]; rfl, rfl⟩; exfalso; apply e0; simp_all [A0]; done) | (by_cases e0 : A0 s = ⟨[2, 2], 2⟩; exact K.fin (V.one (V.cellN Tryz.isAgg200 Tryz.sizeOf200)) ⟨by rw [e0]; rfl, rfl⟩; exfalso; apply e0; simp_all [A0]; done) | (by_cases e0 : A0 s = ⟨[1, 1], 1⟩; exact K.fin (V.one (V.cellN Tryz.isAgg200 Tryz.sizeOf200)) ⟨by rw [e0]; rfl, rfl⟩; exfalso; apply e0; simp_all [A0]; done)
  refine Pu ?_
  refine W.cond (fun ht9 => ?_) (fun ht9 => ?_)
  ·refine Z4 ?_
   refine W.cond (fun ht9 => ?_) (fun ht9 => ?_)
   ·refine Z49 ?_
    first | (by_cases e0 : A0 s = ⟨[3, 3], 3⟩; exact K.fin (V.one (V.cellN Tryz.isAgg200 Tryz.sizeOf200)) ⟨by rw [e0]; rfl, rfl⟩; exfalso; apply e0; simp_all [A0]; done) | (by_cases e0 : A0 s = ⟨[-1, -1], 3⟩; exact K.fin (V.one (V.cellN Tryz.isAgg200 Tryz.sizeOf200)) ⟨by rw [e0]; rfl, rfl⟩; exfalso; apply e0; simp_all [A0]; done) | (by_cases e0 : A0 s = ⟨[2, 2], 2⟩; exact K.fin (V.one (V.cellN Tryz.isAgg200 Tryz.sizeOf200)) ⟨by rw [e0]; rfl, rfl⟩; exfalso; apply e0; simp_all [A0]; done) | (by_cases e0 : A0 s = ⟨[1, 1], 1⟩; exact K.fin (V.one (V.cellN Tryz.isAgg200 Tryz.sizeOf200)) ⟨by rw [e0]; rfl, rfl⟩; exfalso; apply e0; simp_all [A0]; done)
   refine Mr ?_
   refine W.cond (fun ht18 => ?_) (fun ht18 => ?_)
   ·refine Z49 ?_
    first | (by_cases e0 : A0 s = ⟨[3, 3], 3⟩; exact K.fin (V.one (V.cellN Tryz.isAgg200 Tryz.sizeOf200)) ⟨by rw [e0]; rfl, rfl⟩; exfalso; apply e0; simp_all [A0]; done) | (by_cases e0 : A0 s = ⟨[-1, -1], 3⟩; exact K.fin (V.one (V.cellN Tryz.isAgg200 Tryz.sizeOf200)) ⟨by rw [e0]; rfl, rfl⟩; exfalso; apply e0; simp_all [A0]; done) | (by_cases e0 : A0 s = ⟨[2, 2], 2⟩; exact K.fin (V.one (V.cellN Tryz.isAgg200 Tryz.sizeOf200)) ⟨by rw [e0]; rfl, rfl⟩; exfalso; apply e0; simp_all [A0]; done) | (by_cases e0 : A0 s = ⟨[1, 1], 1⟩; exact K.fin (V.one (V.cellN Tryz.isAgg200 Tryz.sizeOf200)) ⟨by rw [e0]; rfl, rfl⟩; exfalso; apply e0; simp_all [A0]; done)
   refine Jb ?_
   first | (by_cases e0 : A0 s = ⟨[3, 3], 3⟩; exact K.fin (V.one (V.cellN Tryz.isAgg200 Tryz.sizeOf200)) ⟨by rw [e0]; rfl, rfl⟩; exfalso; apply e0; simp_all [A0]; done) | (by_cases e0 : A0 s = ⟨[-1, -1], 3⟩; exact K.fin (V.one (V.cellN Tryz.isAgg200 Tryz.sizeOf200)) ⟨by rw [e0]; rfl, rfl⟩; exfalso; apply e0; simp_all [A0]; done) | (by_cases e0 : A0 s = ⟨[2, 2], 2⟩; exact K.fin (V.one (V.cellN Tryz.isAgg200 Tryz.sizeOf200)) ⟨by rw [e0]; rfl, rfl⟩; exfalso; apply e0; simp_all [A0]; done) | (by_cases e0 : A0 s = ⟨[1, 1], 1⟩; exact K.fin (V.one (V.cellN Tryz.isAgg200 Tryz.sizeOf200)) ⟨by rw [e0]; rfl, rfl⟩; exfalso; apply e0; simp_all [A0]; done)
  refine Kw ?_;refine R.fin [2, 3, 9] ?_;refine K.thN ?_
  refine W.cond (fun ht9 => ?_) (fun ht9 => ?_)
  ·refine Z49 ?_
   first | (by_cases e0 : A0 s = ⟨[3, 3], 3⟩; exact K.fin (V.one (V.cellN Tryz.isAgg200 Tryz.sizeOf200)) ⟨by rw [e0]; rfl, rfl⟩; exfalso; apply e0; simp_all [A0]; done) | (by_cases e0 : A0 s = ⟨[-1, -1], 3⟩; exact K.fin (V.one (V.cellN Tryz.isAgg200 Tryz.sizeOf200)) ⟨by rw [e0]; rfl, rfl⟩; exfalso; apply e0; simp_all [A0]; done) | (by_cases e0 : A0 s = ⟨[2, 2], 2⟩; exact K.fin (V.one (V.cellN Tryz.isAgg200 Tryz.sizeOf200)) ⟨by rw [e0]; rfl, rfl⟩; exfalso; apply e0; simp_all [A0]; done) | (by_cases e0 : A0 s = ⟨[1, 1], 1⟩; exact K.fin (V.one (V.cellN Tryz.isAgg200 Tryz.sizeOf200)) ⟨by rw [e0]; rfl, rfl⟩; exfalso; apply e0; simp_all [A0]; done)
  refine Mr ?_
  refine W.cond (fun ht18 => ?_) (fun ht18 => ?_)
  ·refine Z49 ?_
   first | (by_cases e0 : A0 s = ⟨[3, 3], 3⟩; exact K.fin (V.one (V.cellN Tryz.isAgg200 Tryz.sizeOf200)) ⟨by rw [e0]; rfl, rfl⟩; exfalso; apply e0; simp_all [A0]; done) | (by_cases e0 : A0 s = ⟨[-1, -1], 3⟩; exact K.fin (V.one (V.cellN Tryz.isAgg200 Tryz.sizeOf200)) ⟨by rw [e0]; rfl, rfl⟩; exfalso; apply e0; simp_all [A0]; done) | (by_cases e0 : A0 s = ⟨[2, 2], 2⟩; exact K.fin (V.one (V.cellN Tryz.isAgg200 Tryz.sizeOf200)) ⟨by rw [e0]; rfl, rfl⟩; exfalso; apply e0; simp_all [A0]; done) | (by_cases e0 : A0 s = ⟨[1, 1], 1⟩; exact K.fin (V.one (V.cellN Tryz.isAgg200 Tryz.sizeOf200)) ⟨by rw [e0]; rfl, rfl⟩; exfalso; apply e0; simp_all [A0]; done)
  refine Jb ?_
  first | (by_cases e0 : A0 s = ⟨[3, 3], 3⟩; exact K.fin (V.one (V.cellN Tryz.isAgg200 Tryz.sizeOf200)) ⟨by rw [e0]; rfl, rfl⟩; exfalso; apply e0; simp_all [A0]; done) | (by_cases e0 : A0 s = ⟨[-1, -1], 3⟩; exact K.fin (V.one (V.cellN Tryz.isAgg200 Tryz.sizeOf200)) ⟨by rw [e0]; rfl, rfl⟩; exfalso; apply e0; simp_all [A0]; done) | (by_cases e0 : A0 s = ⟨[2, 2], 2⟩; exact K.fin (V.one (V.cellN Tryz.isAgg200 Tryz.sizeOf200)) ⟨by rw [e0]; rfl, rfl⟩; exfalso; apply e0; simp_all [A0]; done) | (by_cases e0 : A0 s = ⟨[1, 1], 1⟩; exact K.fin (V.one (V.cellN Tryz.isAgg200 Tryz.sizeOf200)) ⟨by rw [e0]; rfl, rfl⟩; exfalso; apply e0; simp_all [A0]; done)
 refine Kw ?_;refine R.fin [2, 3, 4] ?_;refine K.thN ?_
 refine W.cond (fun ht4 => ?_) (fun ht4 => ?_)
 ·refine Z49 ?_
  first | (by_cases e0 : A0 s = ⟨[3, 3], 3⟩; exact K.fin (V.one (V.cellN Tryz.isAgg200 Tryz.sizeOf200)) ⟨by rw [e0]; rfl, rfl⟩; exfalso; apply e0; simp_all [A0]; done) | (by_cases e0 : A0 s = ⟨[-1, -1], 3⟩; exact K.fin (V.one (V.cellN Tryz.isAgg200 Tryz.sizeOf200)) ⟨by rw [e0]; rfl, rfl⟩; exfalso; apply e0; simp_all [A0]; done) | (by_cases e0 : A0 s = ⟨[2, 2], 2⟩; exact K.fin (V.one (V.cellN Tryz.isAgg200 Tryz.sizeOf200)) ⟨by rw [e0]; rfl, rfl⟩; exfalso; apply e0; simp_all [A0]; done) | (by_cases e0 : A0 s = ⟨[1, 1], 1⟩; exact K.fin (V.one (V.cellN Tryz.isAgg200 Tryz.sizeOf200)) ⟨by rw [e0]; rfl, rfl⟩; exfalso; apply e0; simp_all [A0]; done)
 refine Nu ?_;refine R.fin [2, 3, 9] ?_
 refine W.cond (fun ht9 => ?_) (fun ht9 => ?_)
 ·refine Z4 ?_
  refine W.cond (fun ht9 => ?_) (fun ht9 => ?_)
  ·refine Z49 ?_
   first | (by_cases e0 : A0 s = ⟨[3, 3], 3⟩; exact K.fin (V.one (V.cellN Tryz.isAgg200 Tryz.sizeOf200)) ⟨by rw [e0]; rfl, rfl⟩; exfalso; apply e0; simp_all [A0]; done) | (by_cases e0 : A0 s = ⟨[-1, -1], 3⟩; exact K.fin (V.one (V.cellN Tryz.isAgg200 Tryz.sizeOf200)) ⟨by rw [e0]; rfl, rfl⟩; exfalso; apply e0; simp_all [A0]; done) | (by_cases e0 : A0 s = ⟨[2, 2], 2⟩; exact K.fin (V.one (V.cellN Tryz.isAgg200 Tryz.sizeOf200)) ⟨by rw [e0]; rfl, rfl⟩; exfalso; apply e0; simp_all [A0]; done) | (by_cases e0 : A0 s = ⟨[1, 1], 1⟩; exact K.fin (V.one (V.cellN Tryz.isAgg200 Tryz.sizeOf200)) ⟨by rw [e0]; rfl, rfl⟩; exfalso; apply e0; simp_all [A0]; done)
  refine Mr ?_
  refine W.cond (fun ht18 => ?_) (fun ht18 => ?_)
  ·refine Z49 ?_
   first | (by_cases e0 : A0 s = ⟨[3, 3], 3⟩; exact K.fin (V.one (V.cellN Tryz.isAgg200 Tryz.sizeOf200)) ⟨by rw [e0]; rfl, rfl⟩; exfalso; apply e0; simp_all [A0]; done) | (by_cases e0 : A0 s = ⟨[-1, -1], 3⟩; exact K.fin (V.one (V.cellN Tryz.isAgg200 Tryz.sizeOf200)) ⟨by rw [e0]; rfl, rfl⟩; exfalso; apply e0; simp_all [A0]; done) | (by_cases e0 : A0 s = ⟨[2, 2], 2⟩; exact K.fin (V.one (V.cellN Tryz.isAgg200 Tryz.sizeOf200)) ⟨by rw [e0]; rfl, rfl⟩; exfalso; apply e0; simp_all [A0]; done) | (by_cases e0 : A0 s = ⟨[1, 1], 1⟩; exact K.fin (V.one (V.cellN Tryz.isAgg200 Tryz.sizeOf200)) ⟨by rw [e0]; rfl, rfl⟩; exfalso; apply e0; simp_all [A0]; done)
  refine Jb ?_
  first | (by_cases e0 : A0 s = ⟨[3, 3], 3⟩; exact K.fin (V.one (V.cellN Tryz.isAgg200 Tryz.sizeOf200)) ⟨by rw [e0]; rfl, rfl⟩; exfalso; apply e0; simp_all [A0]; done) | (by_cases e0 : A0 s = ⟨[-1, -1], 3⟩; exact K.fin (V.one (V.cellN Tryz.isAgg200 Tryz.sizeOf200)) ⟨by rw [e0]; rfl, rfl⟩; exfalso; apply e0; simp_all [A0]; done) | (by_cases e0 : A0 s = ⟨[2, 2], 2⟩; exact K.fin (V.one (V.cellN Tryz.isAgg200 Tryz.sizeOf200)) ⟨by rw [e0]; rfl, rfl⟩; exfalso; apply e0; simp_all [A0]; done) | (by_cases e0 : A0 s = ⟨[1, 1], 1⟩; exact K.fin (V.one (V.cellN Tryz.isAgg200 Tryz.sizeOf200)) ⟨by rw [e0]; rfl, rfl⟩; exfalso; apply e0; simp_all [A0]; done)
 refine Pu ?_
 refine W.cond (fun ht9 => ?_) (fun ht9 => ?_)
 ·refine Z4 ?_
  refine W.cond (fun ht9 => ?_) (fun ht9 => ?_)
  ·refine Z49 ?_
   first | (by_cases e0 : A0 s = ⟨[3, 3], 3⟩; exact K.fin (V.one (V.cellN Tryz.isAgg200 Tryz.sizeOf200)) ⟨by rw [e0]; rfl, rfl⟩; exfalso; apply e0; simp_all [A0]; done) | (by_cases e0 : A0 s = ⟨[-1, -1], 3⟩; exact K.fin (V.one (V.cellN Tryz.isAgg200 Tryz.sizeOf200)) ⟨by rw [e0]; rfl, rfl⟩; exfalso; apply e0; simp_all [A0]; done) | (by_cases e0 : A0 s = ⟨[2, 2], 2⟩; exact K.fin (V.one (V.cellN Tryz.isAgg200 Tryz.sizeOf200)) ⟨by rw [e0]; rfl, rfl⟩; exfalso; apply e0; simp_all [A0]; done) | (by_cases e0 : A0 s = ⟨[1, 1], 1⟩; exact K.fin (V.one (V.cellN Tryz.isAgg200 Tryz.sizeOf200)) ⟨by rw [e0]; rfl, rfl⟩; exfalso; apply e0; simp_all [A0]; done)
  refine Mr ?_
  refine W.cond (fun ht18 => ?_) (fun ht18 => ?_)
  ·refine Z49 ?_
   first | (by_cases e0 : A0 s = ⟨[3, 3], 3⟩; exact K.fin (V.one (V.cellN Tryz.isAgg200 Tryz.sizeOf200)) ⟨by rw [e0]; rfl, rfl⟩; exfalso; apply e0; simp_all [A0]; done) | (by_cases e0 : A0 s = ⟨[-1, -1], 3⟩; exact K.fin (V.one (V.cellN Tryz.isAgg200 Tryz.sizeOf200)) ⟨by rw [e0]; rfl, rfl⟩; exfalso; apply e0; simp_all [A0]; done) | (by_cases e0 : A0 s = ⟨[2, 2], 2⟩; exact K.fin (V.one (V.cellN Tryz.isAgg200 Tryz.sizeOf200)) ⟨by rw [e0]; rfl, rfl⟩; exfalso; apply e0; simp_all [A0]; done) | (by_cases e0 : A0 s = ⟨[1, 1], 1⟩; exact K.fin (V.one (V.cellN Tryz.isAgg200 Tryz.sizeOf200)) ⟨by rw [e0]; rfl, rfl⟩; exfalso; apply e0; simp_all [A0]; done)
  refine Jb ?_
  first | (by_cases e0 : A0 s = ⟨[3, 3], 3⟩; exact K.fin (V.one (V.cellN Tryz.isAgg200 Tryz.sizeOf200)) ⟨by rw [e0]; rfl, rfl⟩; exfalso; apply e0; simp_all [A0]; done) | (by_cases e0 : A0 s = ⟨[-1, -1], 3⟩; exact K.fin (V.one (V.cellN Tryz.isAgg200 Tryz.sizeOf200)) ⟨by rw [e0]; rfl, rfl⟩; exfalso; apply e0; simp_all [A0]; done) | (by_cases e0 : A0 s = ⟨[2, 2], 2⟩; exact K.fin (V.one (V.cellN Tryz.isAgg200 Tryz.sizeOf200)) ⟨by rw [e0]; rfl, rfl⟩; exfalso; apply e0; simp_all [A0]; done) | (by_cases e0 : A0 s = ⟨[1, 1], 1⟩; exact K.fin (V.one (V.cellN Tryz.isAgg200 Tryz.sizeOf200)) ⟨by rw [e0]; rfl, rfl⟩; exfalso; apply e0; simp_all [A0]; done)
 refine Pu ?_
 refine W.cond (fun ht9 => ?_) (fun ht9 => ?_)
 ·refine Z4 ?_
  refine W.cond (fun ht9 => ?_) (fun ht9 => ?_)
  ·refine Z49 ?_
   first | (by_cases e0 : A0 s = ⟨[3, 3], 3⟩; exact K.fin (V.one (V.cellN Tryz.isAgg200 Tryz.sizeOf200)) ⟨by rw [e0]; rfl, rfl⟩; exfalso; apply e0; simp_all [A0]; done) | (by_cases e0 : A0 s = ⟨[-1, -1], 3⟩; exact K.fin (V.one (V.cellN Tryz.isAgg200 Tryz.sizeOf200)) ⟨by rw [e0]; rfl, rfl⟩; exfalso; apply e0; simp_all [A0]; done) | (by_cases e0 : A0 s = ⟨[2, 2], 2⟩; exact K.fin (V.one (V.cellN Tryz.isAgg200 Tryz.sizeOf200)) ⟨by rw [e0]; rfl, rfl⟩; exfalso; apply e0; simp_all [A0]; done) | (by_cases e0 : A0 s = ⟨[1, 1], 1⟩; exact K.fin (V.one (V.cellN Tryz.isAgg200 Tryz.sizeOf200)) ⟨by rw [e0]; rfl, rfl⟩; exfalso; apply e0; simp_all [A0]; done)
  refine Mr ?_
  refine W.cond (fun ht18 => ?_) (fun ht18 => ?_)
  ·refine Z49 ?_
   first | (by_cases e0 : A0 s = ⟨[3, 3], 3⟩; exact K.fin (V.one (V.cellN Tryz.isAgg200 Tryz.sizeOf200)) ⟨by rw [e0]; rfl, rfl⟩; exfalso; apply e0; simp_all [A0]; done) | (by_cases e0 : A0 s = ⟨[-1, -1], 3⟩; exact K.fin (V.one (V.cellN Tryz.isAgg200 Tryz.sizeOf200)) ⟨by rw [e0]; rfl, rfl⟩; exfalso; apply e0; simp_all [A0]; done) | (by_cases e0 : A0 s = ⟨[2, 2], 2⟩; exact K.fin (V.one (V.cellN Tryz.isAgg200 Tryz.sizeOf200)) ⟨by rw [e0]; rfl, rfl⟩; exfalso; apply e0; simp_all [A0]; done) | (by_cases e0 : A0 s = ⟨[1, 1], 1⟩; exact K.fin (V.one (V.cellN Tryz.isAgg200 Tryz.sizeOf200)) ⟨by rw [e0]; rfl, rfl⟩; exfalso; apply e0; simp_all [A0]; done)
  refine Jb ?_
  first | (by_cases e0 : A0 s = ⟨[3, 3], 3⟩; exact K.fin (V.one (V.cellN Tryz.isAgg200 Tryz.sizeOf200)) ⟨by rw [e0]; rfl, rfl⟩; exfalso; apply e0; simp_all [A0]; done) | (by_cases e0 : A0 s = ⟨[-1, -1], 3⟩; exact K.fin (V.one (V.cellN Tryz.isAgg200 Tryz.sizeOf200)) ⟨by rw [e0]; rfl, rfl⟩; exfalso; apply e0; simp_all [A0]; done) | (by_cases e0 : A0 s = ⟨[2, 2], 2⟩; exact K.fin (V.one (V.cellN Tryz.isAgg200 Tryz.sizeOf200)) ⟨by rw [e0]; rfl, rfl⟩; exfalso; apply e0; simp_all [A0]; done) | (by_cases e0 : A0 s = ⟨[1, 1], 1⟩; exact K.fin (V.one (V.cellN Tryz.isAgg200 Tryz.sizeOf200)) ⟨by rw [e0]; rfl, rfl⟩; exfalso; apply e0; simp_all [A0]; done)
 refine Pu ?_
 refine W.cond (fun ht9 => ?_) (fun ht9 => ?_)
 ·refine Z4 ?_
  refine W.cond (fun ht9 => ?_) (fun ht9 => ?_)
  ·refine Z49 ?_
   first | (by_cases e0 : A0 s = ⟨[3, 3], 3⟩; exact K.fin (V.one (V.cellN Tryz.isAgg200 Tryz.sizeOf200)) ⟨by rw [e0]; rfl, rfl⟩; exfalso; apply e0; simp_all [A0]; done) | (by_cases e0 : A0 s = ⟨[-1, -1], 3⟩; exact K.fin (V.one (V.cellN Tryz.isAgg200 Tryz.sizeOf200)) ⟨by rw [e0]; rfl, rfl⟩; exfalso; apply e0; simp_all [A0]; done) | (by_cases e0 : A0 s = ⟨[2, 2], 2⟩; exact K.fin (V.one (V.cellN Tryz.isAgg200 Tryz.sizeOf200)) ⟨by rw [e0]; rfl, rfl⟩; exfalso; apply e0; simp_all [A0]; done) | (by_cases e0 : A0 s = ⟨[1, 1], 1⟩; exact K.fin (V.one (V.cellN Tryz.isAgg200 Tryz.sizeOf200)) ⟨by rw [e0]; rfl, rfl⟩; exfalso; apply e0; simp_all [A0]; done)
  refine Mr ?_
  refine W.cond (fun ht18 => ?_) (fun ht18 => ?_)
  ·refine Z49 ?_
   first | (by_cases e0 : A0 s = ⟨[3, 3], 3⟩; exact K.fin (V.one (V.cellN Tryz.isAgg200 Tryz.sizeOf200)) ⟨by rw [e0]; rfl, rfl⟩; exfalso; apply e0; simp_all [A0]; done) | (by_cases e0 : A0 s = ⟨[-1, -1], 3⟩; exact K.fin (V.one (V.cellN Tryz.isAgg200 Tryz.sizeOf200)) ⟨by rw [e0]; rfl, rfl⟩; exfalso; apply e0; simp_all [A0]; done) | (by_cases e0 : A0 s = ⟨[2, 2], 2⟩; exact K.fin (V.one (V.cellN Tryz.isAgg200 Tryz.sizeOf200)) ⟨by rw [e0]; rfl, rfl⟩; exfalso; apply e0; simp_all [A0]; done) | (by_cases e0 : A0 s = ⟨[1, 1], 1⟩; exact K.fin (V.one (V.cellN Tryz.isAgg200 Tryz.sizeOf200)) ⟨by rw [e0]; rfl, rfl⟩; exfalso; apply e0; simp_all [A0]; done)
  refine Jb ?_
  first | (by_cases e0 : A0 s = ⟨[3, 3], 3⟩; exact K.fin (V.one (V.cellN Tryz.isAgg200 Tryz.sizeOf200)) ⟨by rw [e0]; rfl, rfl⟩; exfalso; apply e0; simp_all [A0]; done) | (by_cases e0 : A0 s = ⟨[-1, -1], 3⟩; exact K.fin (V.one (V.cellN Tryz.isAgg200 Tryz.sizeOf200)) ⟨by rw [e0]; rfl, rfl⟩; exfalso; apply e0; simp_all [A0]; done) | (by_cases e0 : A0 s = ⟨[2, 2], 2⟩; exact K.fin (V.one (V.cellN Tryz.isAgg200 Tryz.sizeOf200)) ⟨by rw [e0]; rfl, rfl⟩; exfalso; apply e0; simp_all [A0]; done) | (by_cases e0 : A0 s = ⟨[1, 1], 1⟩; exact K.fin (V.one (V.cellN Tryz.isAgg200 Tryz.sizeOf200)) ⟨by rw [e0]; rfl, rfl⟩; exfalso; apply e0; simp_all [A0]; done)
 refine Pu ?_
 refine W.cond (fun ht9 => ?_) (fun ht9 => ?_)
 ·refine Z4 ?_
  refine W.cond (fun ht9 => ?_) (fun ht9 => ?_)
  ·refine Z49 ?_
   first | (by_cases e0 : A0 s = ⟨[3, 3], 3⟩; exact K.fin (V.one (V.cellN Tryz.isAgg200 Tryz.sizeOf200)) ⟨by rw [e0]; rfl, rfl⟩; exfalso; apply e0; simp_all [A0]; done) | (by_cases e0 : A0 s = ⟨[-1, -1], 3⟩; exact K.fin (V.one (V.cellN Tryz.isAgg200 Tryz.sizeOf200)) ⟨by rw [e0]; rfl, rfl⟩; exfalso; apply e0; simp_all [A0]; done) | (by_cases e0 : A0 s = ⟨[2, 2], 2⟩; exact K.fin (V.one (V.cellN Tryz.isAgg200 Tryz.sizeOf200)) ⟨by rw [e0]; rfl, rfl⟩; exfalso; apply e0; simp_all [A0]; done) | (by_cases e0 : A0 s = ⟨[1, 1], 1⟩; exact K.fin (V.one (V.cellN Tryz.isAgg200 Tryz.sizeOf200)) ⟨by rw [e0]; rfl, rfl⟩; exfalso; apply e0; simp_all [A0]; done)
  refine Mr ?_
  refine W.cond (fun ht18 => ?_) (fun ht18 => ?_)
  ·refine Z49 ?_
   first | (by_cases e0 : A0 s = ⟨[3, 3], 3⟩; exact K.fin (V.one (V.cellN Tryz.isAgg200 Tryz.sizeOf200)) ⟨by rw [e0]; rfl, rfl⟩; exfalso; apply e0; simp_all [A0]; done) | (by_cases e0 : A0 s = ⟨[-1, -1], 3⟩; exact K.fin (V.one (V.cellN Tryz.isAgg200 Tryz.sizeOf200)) ⟨by rw [e0]; rfl, rfl⟩; exfalso; apply e0; simp_all [A0]; done) | (by_cases e0 : A0 s = ⟨[2, 2], 2⟩; exact K.fin (V.one (V.cellN Tryz.isAgg200 Tryz.sizeOf200)) ⟨by rw [e0]; rfl, rfl⟩; exfalso; apply e0; simp_all [A0]; done) | (by_cases e0 : A0 s = ⟨[1, 1], 1⟩; exact K.fin (V.one (V.cellN Tryz.isAgg200 Tryz.sizeOf200)) ⟨by rw [e0]; rfl, rfl⟩; exfalso; apply e0; simp_all [A0]; done)
  refine Jb ?_
  first | (by_cases e0 : A0 s = ⟨[3, 3], 3⟩; exact K.fin (V.one (V.cellN Tryz.isAgg200 Tryz.sizeOf200)) ⟨by rw [e0]; rfl, rfl⟩; exfalso; apply e0; simp_all [A0]; done) | (by_cases e0 : A0 s = ⟨[-1, -1], 3⟩; exact K.fin (V.one (V.cellN Tryz.isAgg200 Tryz.sizeOf200)) ⟨by rw [e0]; rfl, rfl⟩; exfalso; apply e0; simp_all [A0]; done) | (by_cases e0 : A0 s = ⟨[2, 2], 2⟩; exact K.fin (V.one (V.cellN Tryz.isAgg200 Tryz.sizeOf200)) ⟨by rw [e0]; rfl, rfl⟩; exfalso; apply e0; simp_all [A0]; done) | (by_cases e0 : A0 s = ⟨[1, 1], 1⟩; exact K.fin (V.one (V.cellN Tryz.isAgg200 Tryz.sizeOf200)) ⟨by rw [e0]; rfl, rfl⟩; exfalso; apply e0; simp_all [A0]; done)
 refine Kw ?_;refine R.fin [2, 3, 9] ?_;refine K.thN ?_
 refine W.cond (fun ht9 => ?_) (fun ht9 => ?_)
 ·refine Z49 ?_
  first | (by_cases e0 : A0 s = ⟨[3, 3], 3⟩; exact K.fin (V.one (V.cellN Tryz.isAgg200 Tryz.sizeOf200)) ⟨by rw [e0]; rfl, rfl⟩; exfalso; apply e0; simp_all [A0]; done) | (by_cases e0 : A0 s = ⟨[-1, -1], 3⟩; exact K.fin (V.one (V.cellN Tryz.isAgg200 Tryz.sizeOf200)) ⟨by rw [e0]; rfl, rfl⟩; exfalso; apply e0; simp_all [A0]; done) | (by_cases e0 : A0 s = ⟨[2, 2], 2⟩; exact K.fin (V.one (V.cellN Tryz.isAgg200 Tryz.sizeOf200)) ⟨by rw [e0]; rfl, rfl⟩; exfalso; apply e0; simp_all [A0]; done) | (by_cases e0 : A0 s = ⟨[1, 1], 1⟩; exact K.fin (V.one (V.cellN Tryz.isAgg200 Tryz.sizeOf200)) ⟨by rw [e0]; rfl, rfl⟩; exfalso; apply e0; simp_all [A0]; done)
 refine Mr ?_
 refine W.cond (fun ht18 => ?_) (fun ht18 => ?_)
 ·refine Z49 ?_
  first | (by_cases e0 : A0 s = ⟨[3, 3], 3⟩; exact K.fin (V.one (V.cellN Tryz.isAgg200 Tryz.sizeOf200)) ⟨by rw [e0]; rfl, rfl⟩; exfalso; apply e0; simp_all [A0]; done) | (by_cases e0 : A0 s = ⟨[-1, -1], 3⟩; exact K.fin (V.one (V.cellN Tryz.isAgg200 Tryz.sizeOf200)) ⟨by rw [e0]; rfl, rfl⟩; exfalso; apply e0; simp_all [A0]; done) | (by_cases e0 : A0 s = ⟨[2, 2], 2⟩; exact K.fin (V.one (V.cellN Tryz.isAgg200 Tryz.sizeOf200)) ⟨by rw [e0]; rfl, rfl⟩; exfalso; apply e0; simp_all [A0]; done) | (by_cases e0 : A0 s = ⟨[1, 1], 1⟩; exact K.fin (V.one (V.cellN Tryz.isAgg200 Tryz.sizeOf200)) ⟨by rw [e0]; rfl, rfl⟩; exfalso; apply e0; simp_all [A0]; done)
 refine Jb ?_
 first | (by_cases e0 : A0 s = ⟨[3, 3], 3⟩; exact K.fin (V.one (V.cellN Tryz.isAgg200 Tryz.sizeOf200)) ⟨by rw [e0]; rfl, rfl⟩; exfalso; apply e0; simp_all [A0]; done) | (by_cases e0 : A0 s = ⟨[-1, -1], 3⟩; exact K.fin (V.one (V.cellN Tryz.isAgg200 Tryz.sizeOf200)) ⟨by rw [e0]; rfl, rfl⟩; exfalso; apply e0; simp_all [A0]; done) | (by_cases e0 : A0 s = ⟨[2, 2], 2⟩; exact K.fin (V.one (V.cellN Tryz.isAgg200 Tryz.sizeOf200)) ⟨by rw [e0]; rfl, rfl⟩; exfalso; apply e0; simp_all [A0]; done) | (by_cases e0 : A0 s = ⟨[1, 1], 1⟩; exact K.fin (V.one (V.cellN Tryz.isAgg200 Tryz.sizeOf200)) ⟨by rw [e0]; rfl, rfl⟩; exfalso; apply e0; simp_all [A0]; done)

theorem wu (s : Str) (Hp : List AObj) : AFun Tryz.prog 189 [A7 s] Hp (Up (A1 s)) := by
 refine ACall.body [.cell 2 200] [0] Tryz.func189 Tryz.ntmps189 (fun d => ?_)
 refine dp ?_;refine R.fin [0, 2] ?_;refine Z10 ?_;refine R.fin [2, 3] ?_;refine AW.block ?_;refine Nu ?_;refine R.fin [2, 3, 4] ?_
 refine W.cond (fun ht4 => ?_) (fun ht4 => ?_)
 ·refine Z4 ?_
  refine W.cond (fun ht4 => ?_) (fun ht4 => ?_)
  ·refine Z49 ?_
   first | (by_cases e0 : A1 s = ⟨[2], 1⟩; exact K.fin (V.one (V.cellN Tryz.isAgg200 Tryz.sizeOf200)) ⟨by rw [e0]; rfl, rfl⟩; exfalso; apply e0; simp_all [A1]; done) | (by_cases e0 : A1 s = ⟨[1], 2⟩; exact K.fin (V.one (V.cellN Tryz.isAgg200 Tryz.sizeOf200)) ⟨by rw [e0]; rfl, rfl⟩; exfalso; apply e0; simp_all [A1]; done) | (by_cases e0 : A1 s = ⟨[2, 1], 2⟩; exact K.fin (V.one (V.cellN Tryz.isAgg200 Tryz.sizeOf200)) ⟨by rw [e0]; rfl, rfl⟩; exfalso; apply e0; simp_all [A1]; done) | (by_cases e0 : A1 s = ⟨[-2], 3⟩; exact K.fin (V.one (V.cellN Tryz.isAgg200 Tryz.sizeOf200)) ⟨by rw [e0]; rfl, rfl⟩; exfalso; apply e0; simp_all [A1]; done) | (by_cases e0 : A1 s = ⟨[-1, -1], -1⟩; exact K.fin (V.one (V.cellN Tryz.isAgg200 Tryz.sizeOf200)) ⟨by rw [e0]; rfl, rfl⟩; exfalso; apply e0; simp_all [A1]; done) | (by_cases e0 : A1 s = ⟨[3, -1, -1], -1⟩; exact K.fin (V.one (V.cellN Tryz.isAgg200 Tryz.sizeOf200)) ⟨by rw [e0]; rfl, rfl⟩; exfalso; apply e0; simp_all [A1]; done)
  refine Pu ?_
  refine W.cond (fun ht9 => ?_) (fun ht9 => ?_)
  ·refine Z49 ?_
   first | (by_cases e0 : A1 s = ⟨[2], 1⟩; exact K.fin (V.one (V.cellN Tryz.isAgg200 Tryz.sizeOf200)) ⟨by rw [e0]; rfl, rfl⟩; exfalso; apply e0; simp_all [A1]; done) | (by_cases e0 : A1 s = ⟨[1], 2⟩; exact K.fin (V.one (V.cellN Tryz.isAgg200 Tryz.sizeOf200)) ⟨by rw [e0]; rfl, rfl⟩; exfalso; apply e0; simp_all [A1]; done) | (by_cases e0 : A1 s = ⟨[2, 1], 2⟩; exact K.fin (V.one (V.cellN Tryz.isAgg200 Tryz.sizeOf200)) ⟨by rw [e0]; rfl, rfl⟩; exfalso; apply e0; simp_all [A1]; done) | (by_cases e0 : A1 s = ⟨[-2], 3⟩; exact K.fin (V.one (V.cellN Tryz.isAgg200 Tryz.sizeOf200)) ⟨by rw [e0]; rfl, rfl⟩; exfalso; apply e0; simp_all [A1]; done) | (by_cases e0 : A1 s = ⟨[-1, -1], -1⟩; exact K.fin (V.one (V.cellN Tryz.isAgg200 Tryz.sizeOf200)) ⟨by rw [e0]; rfl, rfl⟩; exfalso; apply e0; simp_all [A1]; done) | (by_cases e0 : A1 s = ⟨[3, -1, -1], -1⟩; exact K.fin (V.one (V.cellN Tryz.isAgg200 Tryz.sizeOf200)) ⟨by rw [e0]; rfl, rfl⟩; exfalso; apply e0; simp_all [A1]; done)
  refine Nu ?_;refine R.fin [2, 3, 13] ?_
  refine W.cond (fun ht13 => ?_) (fun ht13 => ?_)
  ·refine Z4 ?_
   refine W.cond (fun ht13 => ?_) (fun ht13 => ?_)
   ·refine Z49 ?_
    first | (by_cases e0 : A1 s = ⟨[2], 1⟩; exact K.fin (V.one (V.cellN Tryz.isAgg200 Tryz.sizeOf200)) ⟨by rw [e0]; rfl, rfl⟩; exfalso; apply e0; simp_all [A1]; done) | (by_cases e0 : A1 s = ⟨[1], 2⟩; exact K.fin (V.one (V.cellN Tryz.isAgg200 Tryz.sizeOf200)) ⟨by rw [e0]; rfl, rfl⟩; exfalso; apply e0; simp_all [A1]; done) | (by_cases e0 : A1 s = ⟨[2, 1], 2⟩; exact K.fin (V.one (V.cellN Tryz.isAgg200 Tryz.sizeOf200)) ⟨by rw [e0]; rfl, rfl⟩; exfalso; apply e0; simp_all [A1]; done) | (by_cases e0 : A1 s = ⟨[-2], 3⟩; exact K.fin (V.one (V.cellN Tryz.isAgg200 Tryz.sizeOf200)) ⟨by rw [e0]; rfl, rfl⟩; exfalso; apply e0; simp_all [A1]; done) | (by_cases e0 : A1 s = ⟨[-1, -1], -1⟩; exact K.fin (V.one (V.cellN Tryz.isAgg200 Tryz.sizeOf200)) ⟨by rw [e0]; rfl, rfl⟩; exfalso; apply e0; simp_all [A1]; done) | (by_cases e0 : A1 s = ⟨[3, -1, -1], -1⟩; exact K.fin (V.one (V.cellN Tryz.isAgg200 Tryz.sizeOf200)) ⟨by rw [e0]; rfl, rfl⟩; exfalso; apply e0; simp_all [A1]; done)
   refine jk ?_
   refine W.cond (fun ht18 => ?_) (fun ht18 => ?_)
   ·refine Z49 ?_
    first | (by_cases e0 : A1 s = ⟨[2], 1⟩; exact K.fin (V.one (V.cellN Tryz.isAgg200 Tryz.sizeOf200)) ⟨by rw [e0]; rfl, rfl⟩; exfalso; apply e0; simp_all [A1]; done) | (by_cases e0 : A1 s = ⟨[1], 2⟩; exact K.fin (V.one (V.cellN Tryz.isAgg200 Tryz.sizeOf200)) ⟨by rw [e0]; rfl, rfl⟩; exfalso; apply e0; simp_all [A1]; done) | (by_cases e0 : A1 s = ⟨[2, 1], 2⟩; exact K.fin (V.one (V.cellN Tryz.isAgg200 Tryz.sizeOf200)) ⟨by rw [e0]; rfl, rfl⟩; exfalso; apply e0; simp_all [A1]; done) | (by_cases e0 : A1 s = ⟨[-2], 3⟩; exact K.fin (V.one (V.cellN Tryz.isAgg200 Tryz.sizeOf200)) ⟨by rw [e0]; rfl, rfl⟩; exfalso; apply e0; simp_all [A1]; done) | (by_cases e0 : A1 s = ⟨[-1, -1], -1⟩; exact K.fin (V.one (V.cellN Tryz.isAgg200 Tryz.sizeOf200)) ⟨by rw [e0]; rfl, rfl⟩; exfalso; apply e0; simp_all [A1]; done) | (by_cases e0 : A1 s = ⟨[3, -1, -1], -1⟩; exact K.fin (V.one (V.cellN Tryz.isAgg200 Tryz.sizeOf200)) ⟨by rw [e0]; rfl, rfl⟩; exfalso; apply e0; simp_all [A1]; done)
   refine jv ?_
   refine W.cond (fun ht22 => ?_) (fun ht22 => ?_)
   ·refine Z49 ?_
    first | (by_cases e0 : A1 s = ⟨[2], 1⟩; exact K.fin (V.one (V.cellN Tryz.isAgg200 Tryz.sizeOf200)) ⟨by rw [e0]; rfl, rfl⟩; exfalso; apply e0; simp_all [A1]; done) | (by_cases e0 : A1 s = ⟨[1], 2⟩; exact K.fin (V.one (V.cellN Tryz.isAgg200 Tryz.sizeOf200)) ⟨by rw [e0]; rfl, rfl⟩; exfalso; apply e0; simp_all [A1]; done) | (by_cases e0 : A1 s = ⟨[2, 1], 2⟩; exact K.fin (V.one (V.cellN Tryz.isAgg200 Tryz.sizeOf200)) ⟨by rw [e0]; rfl, rfl⟩; exfalso; apply e0; simp_all [A1]; done) | (by_cases e0 : A1 s = ⟨[-2], 3⟩; exact K.fin (V.one (V.cellN Tryz.isAgg200 Tryz.sizeOf200)) ⟨by rw [e0]; rfl, rfl⟩; exfalso; apply e0; simp_all [A1]; done) | (by_cases e0 : A1 s = ⟨[-1, -1], -1⟩; exact K.fin (V.one (V.cellN Tryz.isAgg200 Tryz.sizeOf200)) ⟨by rw [e0]; rfl, rfl⟩; exfalso; apply e0; simp_all [A1]; done) | (by_cases e0 : A1 s = ⟨[3, -1, -1], -1⟩; exact K.fin (V.one (V.cellN Tryz.isAgg200 Tryz.sizeOf200)) ⟨by rw [e0]; rfl, rfl⟩; exfalso; apply e0; simp_all [A1]; done)
   refine Jb ?_
   first | (by_cases e0 : A1 s = ⟨[2], 1⟩; exact K.fin (V.one (V.cellN Tryz.isAgg200 Tryz.sizeOf200)) ⟨by rw [e0]; rfl, rfl⟩; exfalso; apply e0; simp_all [A1]; done) | (by_cases e0 : A1 s = ⟨[1], 2⟩; exact K.fin (V.one (V.cellN Tryz.isAgg200 Tryz.sizeOf200)) ⟨by rw [e0]; rfl, rfl⟩; exfalso; apply e0; simp_all [A1]; done) | (by_cases e0 : A1 s = ⟨[2, 1], 2⟩; exact K.fin (V.one (V.cellN Tryz.isAgg200 Tryz.sizeOf200)) ⟨by rw [e0]; rfl, rfl⟩; exfalso; apply e0; simp_all [A1]; done) | (by_cases e0 : A1 s = ⟨[-2], 3⟩; exact K.fin (V.one (V.cellN Tryz.isAgg200 Tryz.sizeOf200)) ⟨by rw [e0]; rfl, rfl⟩; exfalso; apply e0; simp_all [A1]; done) | (by_cases e0 : A1 s = ⟨[-1, -1], -1⟩; exact K.fin (V.one (V.cellN Tryz.isAgg200 Tryz.sizeOf200)) ⟨by rw [e0]; rfl, rfl⟩; exfalso; apply e0; simp_all [A1]; done) | (by_cases e0 : A1 s = ⟨[3, -1, -1], -1⟩; exact K.fin (V.one (V.cellN Tryz.isAgg200 Tryz.sizeOf200)) ⟨by rw [e0]; rfl, rfl⟩; exfalso; apply e0; simp_all [A1]; done)
  refine Kw ?_;refine R.fin [2, 3, 13] ?_;refine K.thN ?_
  refine W.cond (fun ht13 => ?_) (fun ht13 => ?_)
  ·refine Z49 ?_
   first | (by_cases e0 : A1 s = ⟨[2], 1⟩; exact K.fin (V.one (V.cellN Tryz.isAgg200 Tryz.sizeOf200)) ⟨by rw [e0]; rfl, rfl⟩; exfalso; apply e0; simp_all [A1]; done) | (by_cases e0 : A1 s = ⟨[1], 2⟩; exact K.fin (V.one (V.cellN Tryz.isAgg200 Tryz.sizeOf200)) ⟨by rw [e0]; rfl, rfl⟩; exfalso; apply e0; simp_all [A1]; done) | (by_cases e0 : A1 s = ⟨[2, 1], 2⟩; exact K.fin (V.one (V.cellN Tryz.isAgg200 Tryz.sizeOf200)) ⟨by rw [e0]; rfl, rfl⟩; exfalso; apply e0; simp_all [A1]; done) | (by_cases e0 : A1 s = ⟨[-2], 3⟩; exact K.fin (V.one (V.cellN Tryz.isAgg200 Tryz.sizeOf200)) ⟨by rw [e0]; rfl, rfl⟩; exfalso; apply e0; simp_all [A1]; done) | (by_cases e0 : A1 s = ⟨[-1, -1], -1⟩; exact K.fin (V.one (V.cellN Tryz.isAgg200 Tryz.sizeOf200)) ⟨by rw [e0]; rfl, rfl⟩; exfalso; apply e0; simp_all [A1]; done) | (by_cases e0 : A1 s = ⟨[3, -1, -1], -1⟩; exact K.fin (V.one (V.cellN Tryz.isAgg200 Tryz.sizeOf200)) ⟨by rw [e0]; rfl, rfl⟩; exfalso; apply e0; simp_all [A1]; done)
  refine jk ?_
  refine W.cond (fun ht18 => ?_) (fun ht18 => ?_)
  ·refine Z49 ?_
   first | (by_cases e0 : A1 s = ⟨[2], 1⟩; exact K.fin (V.one (V.cellN Tryz.isAgg200 Tryz.sizeOf200)) ⟨by rw [e0]; rfl, rfl⟩; exfalso; apply e0; simp_all [A1]; done) | (by_cases e0 : A1 s = ⟨[1], 2⟩; exact K.fin (V.one (V.cellN Tryz.isAgg200 Tryz.sizeOf200)) ⟨by rw [e0]; rfl, rfl⟩; exfalso; apply e0; simp_all [A1]; done) | (by_cases e0 : A1 s = ⟨[2, 1], 2⟩; exact K.fin (V.one (V.cellN Tryz.isAgg200 Tryz.sizeOf200)) ⟨by rw [e0]; rfl, rfl⟩; exfalso; apply e0; simp_all [A1]; done) | (by_cases e0 : A1 s = ⟨[-2], 3⟩; exact K.fin (V.one (V.cellN Tryz.isAgg200 Tryz.sizeOf200)) ⟨by rw [e0]; rfl, rfl⟩; exfalso; apply e0; simp_all [A1]; done) | (by_cases e0 : A1 s = ⟨[-1, -1], -1⟩; exact K.fin (V.one (V.cellN Tryz.isAgg200 Tryz.sizeOf200)) ⟨by rw [e0]; rfl, rfl⟩; exfalso; apply e0; simp_all [A1]; done) | (by_cases e0 : A1 s = ⟨[3, -1, -1], -1⟩; exact K.fin (V.one (V.cellN Tryz.isAgg200 Tryz.sizeOf200)) ⟨by rw [e0]; rfl, rfl⟩; exfalso; apply e0; simp_all [A1]; done)
  refine jv ?_
  refine W.cond (fun ht22 => ?_) (fun ht22 => ?_)
  ·refine Z49 ?_
   first | (by_cases e0 : A1 s = ⟨[2], 1⟩; exact K.fin (V.one (V.cellN Tryz.isAgg200 Tryz.sizeOf200)) ⟨by rw [e0]; rfl, rfl⟩; exfalso; apply e0; simp_all [A1]; done) | (by_cases e0 : A1 s = ⟨[1], 2⟩; exact K.fin (V.one (V.cellN Tryz.isAgg200 Tryz.sizeOf200)) ⟨by rw [e0]; rfl, rfl⟩; exfalso; apply e0; simp_all [A1]; done) | (by_cases e0 : A1 s = ⟨[2, 1], 2⟩; exact K.fin (V.one (V.cellN Tryz.isAgg200 Tryz.sizeOf200)) ⟨by rw [e0]; rfl, rfl⟩; exfalso; apply e0; simp_all [A1]; done) | (by_cases e0 : A1 s = ⟨[-2], 3⟩; exact K.fin (V.one (V.cellN Tryz.isAgg200 Tryz.sizeOf200)) ⟨by rw [e0]; rfl, rfl⟩; exfalso; apply e0; simp_all [A1]; done) | (by_cases e0 : A1 s = ⟨[-1, -1], -1⟩; exact K.fin (V.one (V.cellN Tryz.isAgg200 Tryz.sizeOf200)) ⟨by rw [e0]; rfl, rfl⟩; exfalso; apply e0; simp_all [A1]; done) | (by_cases e0 : A1 s = ⟨[3, -1, -1], -1⟩; exact K.fin (V.one (V.cellN Tryz.isAgg200 Tryz.sizeOf200)) ⟨by rw [e0]; rfl, rfl⟩; exfalso; apply e0; simp_all [A1]; done)
  refine Jb ?_
  first | (by_cases e0 : A1 s = ⟨[2], 1⟩; exact K.fin (V.one (V.cellN Tryz.isAgg200 Tryz.sizeOf200)) ⟨by rw [e0]; rfl, rfl⟩; exfalso; apply e0; simp_all [A1]; done) | (by_cases e0 : A1 s = ⟨[1], 2⟩; exact K.fin (V.one (V.cellN Tryz.isAgg200 Tryz.sizeOf200)) ⟨by rw [e0]; rfl, rfl⟩; exfalso; apply e0; simp_all [A1]; done) | (by_cases e0 : A1 s = ⟨[2, 1], 2⟩; exact K.fin (V.one (V.cellN Tryz.isAgg200 Tryz.sizeOf200)) ⟨by rw [e0]; rfl, rfl⟩; exfalso; apply e0; simp_all [A1]; done) | (by_cases e0 : A1 s = ⟨[-2], 3⟩; exact K.fin (V.one (V.cellN Tryz.isAgg200 Tryz.sizeOf200)) ⟨by rw [e0]; rfl, rfl⟩; exfalso; apply e0; simp_all [A1]; done) | (by_cases e0 : A1 s = ⟨[-1, -1], -1⟩; exact K.fin (V.one (V.cellN Tryz.isAgg200 Tryz.sizeOf200)) ⟨by rw [e0]; rfl, rfl⟩; exfalso; apply e0; simp_all [A1]; done) | (by_cases e0 : A1 s = ⟨[3, -1, -1], -1⟩; exact K.fin (V.one (V.cellN Tryz.isAgg200 Tryz.sizeOf200)) ⟨by rw [e0]; rfl, rfl⟩; exfalso; apply e0; simp_all [A1]; done)
 refine Kw ?_;refine R.fin [2, 3, 4] ?_;refine K.thN ?_
 refine W.cond (fun ht4 => ?_) (fun ht4 => ?_)
 ·refine Z49 ?_
  first | (by_cases e0 : A1 s = ⟨[2], 1⟩; exact K.fin (V.one (V.cellN Tryz.isAgg200 Tryz.sizeOf200)) ⟨by rw [e0]; rfl, rfl⟩; exfalso; apply e0; simp_all [A1]; done) | (by_cases e0 : A1 s = ⟨[1], 2⟩; exact K.fin (V.one (V.cellN Tryz.isAgg200 Tryz.sizeOf200)) ⟨by rw [e0]; rfl, rfl⟩; exfalso; apply e0; simp_all [A1]; done) | (by_cases e0 : A1 s = ⟨[2, 1], 2⟩; exact K.fin (V.one (V.cellN Tryz.isAgg200 Tryz.sizeOf200)) ⟨by rw [e0]; rfl, rfl⟩; exfalso; apply e0; simp_all [A1]; done) | (by_cases e0 : A1 s = ⟨[-2], 3⟩; exact K.fin (V.one (V.cellN Tryz.isAgg200 Tryz.sizeOf200)) ⟨by rw [e0]; rfl, rfl⟩; exfalso; apply e0; simp_all [A1]; done) | (by_cases e0 : A1 s = ⟨[-1, -1], -1⟩; exact K.fin (V.one (V.cellN Tryz.isAgg200 Tryz.sizeOf200)) ⟨by rw [e0]; rfl, rfl⟩; exfalso; apply e0; simp_all [A1]; done) | (by_cases e0 : A1 s = ⟨[3, -1, -1], -1⟩; exact K.fin (V.one (V.cellN Tryz.isAgg200 Tryz.sizeOf200)) ⟨by rw [e0]; rfl, rfl⟩; exfalso; apply e0; simp_all [A1]; done)
 refine Pu ?_
 refine W.cond (fun ht9 => ?_) (fun ht9 => ?_)
 ·refine Z49 ?_
  first | (by_cases e0 : A1 s = ⟨[2], 1⟩; exact K.fin (V.one (V.cellN Tryz.isAgg200 Tryz.sizeOf200)) ⟨by rw [e0]; rfl, rfl⟩; exfalso; apply e0; simp_all [A1]; done) | (by_cases e0 : A1 s = ⟨[1], 2⟩; exact K.fin (V.one (V.cellN Tryz.isAgg200 Tryz.sizeOf200)) ⟨by rw [e0]; rfl, rfl⟩; exfalso; apply e0; simp_all [A1]; done) | (by_cases e0 : A1 s = ⟨[2, 1], 2⟩; exact K.fin (V.one (V.cellN Tryz.isAgg200 Tryz.sizeOf200)) ⟨by rw [e0]; rfl, rfl⟩; exfalso; apply e0; simp_all [A1]; done) | (by_cases e0 : A1 s = ⟨[-2], 3⟩; exact K.fin (V.one (V.cellN Tryz.isAgg200 Tryz.sizeOf200)) ⟨by rw [e0]; rfl, rfl⟩; exfalso; apply e0; simp_all [A1]; done) | (by_cases e0 : A1 s = ⟨[-1, -1], -1⟩; exact K.fin (V.one (V.cellN Tryz.isAgg200 Tryz.sizeOf200)) ⟨by rw [e0]; rfl, rfl⟩; exfalso; apply e0; simp_all [A1]; done) | (by_cases e0 : A1 s = ⟨[3, -1, -1], -1⟩; exact K.fin (V.one (V.cellN Tryz.isAgg200 Tryz.sizeOf200)) ⟨by rw [e0]; rfl, rfl⟩; exfalso; apply e0; simp_all [A1]; done)
 refine Nu ?_;refine R.fin [2, 3, 13] ?_
 refine W.cond (fun ht13 => ?_) (fun ht13 => ?_)
 ·refine Z4 ?_
  refine W.cond (fun ht13 => ?_) (fun ht13 => ?_)
  ·refine Z49 ?_
   first | (by_cases e0 : A1 s = ⟨[2], 1⟩; exact K.fin (V.one (V.cellN Tryz.isAgg200 Tryz.sizeOf200)) ⟨by rw [e0]; rfl, rfl⟩; exfalso; apply e0; simp_all [A1]; done) | (by_cases e0 : A1 s = ⟨[1], 2⟩; exact K.fin (V.one (V.cellN Tryz.isAgg200 Tryz.sizeOf200)) ⟨by rw [e0]; rfl, rfl⟩; exfalso; apply e0; simp_all [A1]; done) | (by_cases e0 : A1 s = ⟨[2, 1], 2⟩; exact K.fin (V.one (V.cellN Tryz.isAgg200 Tryz.sizeOf200)) ⟨by rw [e0]; rfl, rfl⟩; exfalso; apply e0; simp_all [A1]; done) | (by_cases e0 : A1 s = ⟨[-2], 3⟩; exact K.fin (V.one (V.cellN Tryz.isAgg200 Tryz.sizeOf200)) ⟨by rw [e0]; rfl, rfl⟩; exfalso; apply e0; simp_all [A1]; done) | (by_cases e0 : A1 s = ⟨[-1, -1], -1⟩; exact K.fin (V.one (V.cellN Tryz.isAgg200 Tryz.sizeOf200)) ⟨by rw [e0]; rfl, rfl⟩; exfalso; apply e0; simp_all [A1]; done) | (by_cases e0 : A1 s = ⟨[3, -1, -1], -1⟩; exact K.fin (V.one (V.cellN Tryz.isAgg200 Tryz.sizeOf200)) ⟨by rw [e0]; rfl, rfl⟩; exfalso; apply e0; simp_all [A1]; done)
  refine jk ?_
  refine W.cond (fun ht18 => ?_) (fun ht18 => ?_)
  ·refine Z49 ?_
   first | (by_cases e0 : A1 s = ⟨[2], 1⟩; exact K.fin (V.one (V.cellN Tryz.isAgg200 Tryz.sizeOf200)) ⟨by rw [e0]; rfl, rfl⟩; exfalso; apply e0; simp_all [A1]; done) | (by_cases e0 : A1 s = ⟨[1], 2⟩; exact K.fin (V.one (V.cellN Tryz.isAgg200 Tryz.sizeOf200)) ⟨by rw [e0]; rfl, rfl⟩; exfalso; apply e0; simp_all [A1]; done) | (by_cases e0 : A1 s = ⟨[2, 1], 2⟩; exact K.fin (V.one (V.cellN Tryz.isAgg200 Tryz.sizeOf200)) ⟨by rw [e0]; rfl, rfl⟩; exfalso; apply e0; simp_all [A1]; done) | (by_cases e0 : A1 s = ⟨[-2], 3⟩; exact K.fin (V.one (V.cellN Tryz.isAgg200 Tryz.sizeOf200)) ⟨by rw [e0]; rfl, rfl⟩; exfalso; apply e0; simp_all [A1]; done) | (by_cases e0 : A1 s = ⟨[-1, -1], -1⟩; exact K.fin (V.one (V.cellN Tryz.isAgg200 Tryz.sizeOf200)) ⟨by rw [e0]; rfl, rfl⟩; exfalso; apply e0; simp_all [A1]; done) | (by_cases e0 : A1 s = ⟨[3, -1, -1], -1⟩; exact K.fin (V.one (V.cellN Tryz.isAgg200 Tryz.sizeOf200)) ⟨by rw [e0]; rfl, rfl⟩; exfalso; apply e0; simp_all [A1]; done)
  refine jv ?_
  refine W.cond (fun ht22 => ?_) (fun ht22 => ?_)
  ·refine Z49 ?_
   first | (by_cases e0 : A1 s = ⟨[2], 1⟩; exact K.fin (V.one (V.cellN Tryz.isAgg200 Tryz.sizeOf200)) ⟨by rw [e0]; rfl, rfl⟩; exfalso; apply e0; simp_all [A1]; done) | (by_cases e0 : A1 s = ⟨[1], 2⟩; exact K.fin (V.one (V.cellN Tryz.isAgg200 Tryz.sizeOf200)) ⟨by rw [e0]; rfl, rfl⟩; exfalso; apply e0; simp_all [A1]; done) | (by_cases e0 : A1 s = ⟨[2, 1], 2⟩; exact K.fin (V.one (V.cellN Tryz.isAgg200 Tryz.sizeOf200)) ⟨by rw [e0]; rfl, rfl⟩; exfalso; apply e0; simp_all [A1]; done) | (by_cases e0 : A1 s = ⟨[-2], 3⟩; exact K.fin (V.one (V.cellN Tryz.isAgg200 Tryz.sizeOf200)) ⟨by rw [e0]; rfl, rfl⟩; exfalso; apply e0; simp_all [A1]; done) | (by_cases e0 : A1 s = ⟨[-1, -1], -1⟩; exact K.fin (V.one (V.cellN Tryz.isAgg200 Tryz.sizeOf200)) ⟨by rw [e0]; rfl, rfl⟩; exfalso; apply e0; simp_all [A1]; done) | (by_cases e0 : A1 s = ⟨[3, -1, -1], -1⟩; exact K.fin (V.one (V.cellN Tryz.isAgg200 Tryz.sizeOf200)) ⟨by rw [e0]; rfl, rfl⟩; exfalso; apply e0; simp_all [A1]; done)
  refine Jb ?_
  first | (by_cases e0 : A1 s = ⟨[2], 1⟩; exact K.fin (V.one (V.cellN Tryz.isAgg200 Tryz.sizeOf200)) ⟨by rw [e0]; rfl, rfl⟩; exfalso; apply e0; simp_all [A1]; done) | (by_cases e0 : A1 s = ⟨[1], 2⟩; exact K.fin (V.one (V.cellN Tryz.isAgg200 Tryz.sizeOf200)) ⟨by rw [e0]; rfl, rfl⟩; exfalso; apply e0; simp_all [A1]; done) | (by_cases e0 : A1 s = ⟨[2, 1], 2⟩; exact K.fin (V.one (V.cellN Tryz.isAgg200 Tryz.sizeOf200)) ⟨by rw [e0]; rfl, rfl⟩; exfalso; apply e0; simp_all [A1]; done) | (by_cases e0 : A1 s = ⟨[-2], 3⟩; exact K.fin (V.one (V.cellN Tryz.isAgg200 Tryz.sizeOf200)) ⟨by rw [e0]; rfl, rfl⟩; exfalso; apply e0; simp_all [A1]; done) | (by_cases e0 : A1 s = ⟨[-1, -1], -1⟩; exact K.fin (V.one (V.cellN Tryz.isAgg200 Tryz.sizeOf200)) ⟨by rw [e0]; rfl, rfl⟩; exfalso; apply e0; simp_all [A1]; done) | (by_cases e0 : A1 s = ⟨[3, -1, -1], -1⟩; exact K.fin (V.one (V.cellN Tryz.isAgg200 Tryz.sizeOf200)) ⟨by rw [e0]; rfl, rfl⟩; exfalso; apply e0; simp_all [A1]; done)
 refine Kw ?_;refine R.fin [2, 3, 13] ?_;refine K.thN ?_
 refine W.cond (fun ht13 => ?_) (fun ht13 => ?_)
 ·refine Z49 ?_
  first | (by_cases e0 : A1 s = ⟨[2], 1⟩; exact K.fin (V.one (V.cellN Tryz.isAgg200 Tryz.sizeOf200)) ⟨by rw [e0]; rfl, rfl⟩; exfalso; apply e0; simp_all [A1]; done) | (by_cases e0 : A1 s = ⟨[1], 2⟩; exact K.fin (V.one (V.cellN Tryz.isAgg200 Tryz.sizeOf200)) ⟨by rw [e0]; rfl, rfl⟩; exfalso; apply e0; simp_all [A1]; done) | (by_cases e0 : A1 s = ⟨[2, 1], 2⟩; exact K.fin (V.one (V.cellN Tryz.isAgg200 Tryz.sizeOf200)) ⟨by rw [e0]; rfl, rfl⟩; exfalso; apply e0; simp_all [A1]; done) | (by_cases e0 : A1 s = ⟨[-2], 3⟩; exact K.fin (V.one (V.cellN Tryz.isAgg200 Tryz.sizeOf200)) ⟨by rw [e0]; rfl, rfl⟩; exfalso; apply e0; simp_all [A1]; done) | (by_cases e0 : A1 s = ⟨[-1, -1], -1⟩; exact K.fin (V.one (V.cellN Tryz.isAgg200 Tryz.sizeOf200)) ⟨by rw [e0]; rfl, rfl⟩; exfalso; apply e0; simp_all [A1]; done) | (by_cases e0 : A1 s = ⟨[3, -1, -1], -1⟩; exact K.fin (V.one (V.cellN Tryz.isAgg200 Tryz.sizeOf200)) ⟨by rw [e0]; rfl, rfl⟩; exfalso; apply e0; simp_all [A1]; done)
 refine jk ?_
 refine W.cond (fun ht18 => ?_) (fun ht18 => ?_)
 ·refine Z49 ?_
  first | (by_cases e0 : A1 s = ⟨[2], 1⟩; exact K.fin (V.one (V.cellN Tryz.isAgg200 Tryz.sizeOf200)) ⟨by rw [e0]; rfl, rfl⟩; exfalso; apply e0; simp_all [A1]; done) | (by_cases e0 : A1 s = ⟨[1], 2⟩; exact K.fin (V.one (V.cellN Tryz.isAgg200 Tryz.sizeOf200)) ⟨by rw [e0]; rfl, rfl⟩; exfalso; apply e0; simp_all [A1]; done) | (by_cases e0 : A1 s = ⟨[2, 1], 2⟩; exact K.fin (V.one (V.cellN Tryz.isAgg200 Tryz.sizeOf200)) ⟨by rw [e0]; rfl, rfl⟩; exfalso; apply e0; simp_all [A1]; done) | (by_cases e0 : A1 s = ⟨[-2], 3⟩; exact K.fin (V.one (V.cellN Tryz.isAgg200 Tryz.sizeOf200)) ⟨by rw [e0]; rfl, rfl⟩; exfalso; apply e0; simp_all [A1]; done) | (by_cases e0 : A1 s = ⟨[-1, -1], -1⟩; exact K.fin (V.one (V.cellN Tryz.isAgg200 Tryz.sizeOf200)) ⟨by rw [e0]; rfl, rfl⟩; exfalso; apply e0; simp_all [A1]; done) | (by_cases e0 : A1 s = ⟨[3, -1, -1], -1⟩; exact K.fin (V.one (V.cellN Tryz.isAgg200 Tryz.sizeOf200)) ⟨by rw [e0]; rfl, rfl⟩; exfalso; apply e0; simp_all [A1]; done)
 refine jv ?_
 refine W.cond (fun ht22 => ?_) (fun ht22 => ?_)
 ·refine Z49 ?_
  first | (by_cases e0 : A1 s = ⟨[2], 1⟩; exact K.fin (V.one (V.cellN Tryz.isAgg200 Tryz.sizeOf200)) ⟨by rw [e0]; rfl, rfl⟩; exfalso; apply e0; simp_all [A1]; done) | (by_cases e0 : A1 s = ⟨[1], 2⟩; exact K.fin (V.one (V.cellN Tryz.isAgg200 Tryz.sizeOf200)) ⟨by rw [e0]; rfl, rfl⟩; exfalso; apply e0; simp_all [A1]; done) | (by_cases e0 : A1 s = ⟨[2, 1], 2⟩; exact K.fin (V.one (V.cellN Tryz.isAgg200 Tryz.sizeOf200)) ⟨by rw [e0]; rfl, rfl⟩; exfalso; apply e0; simp_all [A1]; done) | (by_cases e0 : A1 s = ⟨[-2], 3⟩; exact K.fin (V.one (V.cellN Tryz.isAgg200 Tryz.sizeOf200)) ⟨by rw [e0]; rfl, rfl⟩; exfalso; apply e0; simp_all [A1]; done) | (by_cases e0 : A1 s = ⟨[-1, -1], -1⟩; exact K.fin (V.one (V.cellN Tryz.isAgg200 Tryz.sizeOf200)) ⟨by rw [e0]; rfl, rfl⟩; exfalso; apply e0; simp_all [A1]; done) | (by_cases e0 : A1 s = ⟨[3, -1, -1], -1⟩; exact K.fin (V.one (V.cellN Tryz.isAgg200 Tryz.sizeOf200)) ⟨by rw [e0]; rfl, rfl⟩; exfalso; apply e0; simp_all [A1]; done)
 refine Jb ?_
 first | (by_cases e0 : A1 s = ⟨[2], 1⟩; exact K.fin (V.one (V.cellN Tryz.isAgg200 Tryz.sizeOf200)) ⟨by rw [e0]; rfl, rfl⟩; exfalso; apply e0; simp_all [A1]; done) | (by_cases e0 : A1 s = ⟨[1], 2⟩; exact K.fin (V.one (V.cellN Tryz.isAgg200 Tryz.sizeOf200)) ⟨by rw [e0]; rfl, rfl⟩; exfalso; apply e0; simp_all [A1]; done) | (by_cases e0 : A1 s = ⟨[2, 1], 2⟩; exact K.fin (V.one (V.cellN Tryz.isAgg200 Tryz.sizeOf200)) ⟨by rw [e0]; rfl, rfl⟩; exfalso; apply e0; simp_all [A1]; done) | (by_cases e0 : A1 s = ⟨[-2], 3⟩; exact K.fin (V.one (V.cellN Tryz.isAgg200 Tryz.sizeOf200)) ⟨by rw [e0]; rfl, rfl⟩; exfalso; apply e0; simp_all [A1]; done) | (by_cases e0 : A1 s = ⟨[-1, -1], -1⟩; exact K.fin (V.one (V.cellN Tryz.isAgg200 Tryz.sizeOf200)) ⟨by rw [e0]; rfl, rfl⟩; exfalso; apply e0; simp_all [A1]; done) | (by_cases e0 : A1 s = ⟨[3, -1, -1], -1⟩; exact K.fin (V.one (V.cellN Tryz.isAgg200 Tryz.sizeOf200)) ⟨by rw [e0]; rfl, rfl⟩; exfalso; apply e0; simp_all [A1]; done)

theorem wv (e : Expr) (Hp : List AObj) : AFun Tryz.prog 179 [A5 e] Hp (Up (C0 e.op e.text)) := by
 refine ACall.body [.cell 2 200] [0] Tryz.func179 Tryz.ntmps179 (fun d => ?_)
 refine Z30 ?_;refine R.alloc jZ ?_;refine R.fin [1, 2] ?_;refine Kv ?_;refine R.fin [1, 2, 4] ?_;refine Ld ?_;refine R.fin [1, 2, 4, 5] ?_
 refine W.cond (fun ht5 => ?_) (fun ht5 => ?_)
 ·refine Z49 ?_
  first | (by_cases e0 : C0 e.op e.text = ⟨[1], 1⟩; exact K.fin (V.one (V.cellN Tryz.isAgg200 Tryz.sizeOf200)) ⟨by rw [e0]; rfl, rfl⟩; exfalso; apply e0; simp_all [C0]; done) | (by_cases e0 : C0 e.op e.text = ⟨[3], 3⟩; exact K.fin (V.one (V.cellN Tryz.isAgg200 Tryz.sizeOf200)) ⟨by rw [e0]; rfl, rfl⟩; exfalso; apply e0; simp_all [C0]; done) | (by_cases e0 : C0 e.op e.text = A0 e.text; exact K.fin (V.one (V.cellN Tryz.isAgg200 Tryz.sizeOf200)) ⟨by rw [e0], rfl⟩ (hlow := Ff _); exfalso; apply e0; simp_all [C0]; done) | (by_cases e0 : C0 e.op e.text = A1 e.text; exact K.fin (V.one (V.cellN Tryz.isAgg200 Tryz.sizeOf200)) ⟨by rw [e0], rfl⟩ (hlow := Ff _); exfalso; apply e0; simp_all [C0]; done)
 refine Z37 ?_;refine R.fin [1, 2, 4, 9] ?_
 refine W.cond (fun ht9 => ?_) (fun ht9 => ?_)
 ·refine Z49 ?_
  first | (by_cases e0 : C0 e.op e.text = ⟨[1], 1⟩; exact K.fin (V.one (V.cellN Tryz.isAgg200 Tryz.sizeOf200)) ⟨by rw [e0]; rfl, rfl⟩; exfalso; apply e0; simp_all [C0]; done) | (by_cases e0 : C0 e.op e.text = ⟨[3], 3⟩; exact K.fin (V.one (V.cellN Tryz.isAgg200 Tryz.sizeOf200)) ⟨by rw [e0]; rfl, rfl⟩; exfalso; apply e0; simp_all [C0]; done) | (by_cases e0 : C0 e.op e.text = A0 e.text; exact K.fin (V.one (V.cellN Tryz.isAgg200 Tryz.sizeOf200)) ⟨by rw [e0], rfl⟩ (hlow := Ff _); exfalso; apply e0; simp_all [C0]; done) | (by_cases e0 : C0 e.op e.text = A1 e.text; exact K.fin (V.one (V.cellN Tryz.isAgg200 Tryz.sizeOf200)) ⟨by rw [e0], rfl⟩ (hlow := Ff _); exfalso; apply e0; simp_all [C0]; done)
 refine Z37 ?_;refine R.fin [1, 2, 13] ?_
 refine W.cond (fun ht13 => ?_) (fun ht13 => ?_)
 ·refine Jy ?_;refine R.call Tryz.call188 (wt e.text _) ?_;refine G9 ?_;refine Z12 ?_
  first | (by_cases e0 : C0 e.op e.text = ⟨[1], 1⟩; exact K.fin (V.one (V.cellN Tryz.isAgg200 Tryz.sizeOf200)) ⟨by rw [e0]; rfl, rfl⟩; exfalso; apply e0; simp_all [C0]; done) | (by_cases e0 : C0 e.op e.text = ⟨[3], 3⟩; exact K.fin (V.one (V.cellN Tryz.isAgg200 Tryz.sizeOf200)) ⟨by rw [e0]; rfl, rfl⟩; exfalso; apply e0; simp_all [C0]; done) | (by_cases e0 : C0 e.op e.text = A0 e.text; exact K.fin (V.one (V.cellN Tryz.isAgg200 Tryz.sizeOf200)) ⟨by rw [e0], rfl⟩ (hlow := Ff _); exfalso; apply e0; simp_all [C0]; done) | (by_cases e0 : C0 e.op e.text = A1 e.text; exact K.fin (V.one (V.cellN Tryz.isAgg200 Tryz.sizeOf200)) ⟨by rw [e0], rfl⟩ (hlow := Ff _); exfalso; apply e0; simp_all [C0]; done)
 refine Z18 ?_;refine Jy ?_;refine R.call Tryz.call189 (wu e.text _) ?_;refine G9 ?_;refine Z2 ?_
 first | (by_cases e0 : C0 e.op e.text = ⟨[1], 1⟩; exact K.fin (V.one (V.cellN Tryz.isAgg200 Tryz.sizeOf200)) ⟨by rw [e0]; rfl, rfl⟩; exfalso; apply e0; simp_all [C0]; done) | (by_cases e0 : C0 e.op e.text = ⟨[3], 3⟩; exact K.fin (V.one (V.cellN Tryz.isAgg200 Tryz.sizeOf200)) ⟨by rw [e0]; rfl, rfl⟩; exfalso; apply e0; simp_all [C0]; done) | (by_cases e0 : C0 e.op e.text = A0 e.text; exact K.fin (V.one (V.cellN Tryz.isAgg200 Tryz.sizeOf200)) ⟨by rw [e0], rfl⟩ (hlow := Ff _); exfalso; apply e0; simp_all [C0]; done) | (by_cases e0 : C0 e.op e.text = A1 e.text; exact K.fin (V.one (V.cellN Tryz.isAgg200 Tryz.sizeOf200)) ⟨by rw [e0], rfl⟩ (hlow := Ff _); exfalso; apply e0; simp_all [C0]; done)

theorem ul (a b : Int) (Hp : List AObj) : AFun Tryz.prog 190 [A3 a, A3 b] Hp (.tup [A3 (C1 a b).1, Am (C1 a b).2]) := by
 refine ACall.body [.tmp 4, .tmp 5] [0, 1] Tryz.func190 Tryz.ntmps190 (fun d => ?_)
 refine No ?_;refine Mw ?_;refine Z22 ?_;refine R.fin [0, 1, 6] ?_
 refine W.cond (fun ht6 => ?_) (fun ht6 => ?_)
 ·refine Z0 ?_;refine Z65 ?_;refine Z5 ?_
  first | (by_cases e0 : C1 a b = (b, true); exact K.fin (V.two V.tmp V.tmp) ⟨by rw [e0], rfl⟩; exfalso; apply e0; simp_all [C1]; done) | (by_cases e0 : C1 a b = (a, true); exact K.fin (V.two V.tmp V.tmp) ⟨by rw [e0], rfl⟩; exfalso; apply e0; simp_all [C1]; done) | (by_cases e0 : C1 a b = (0, false); exact K.fin (V.two V.tmp V.tmp) ⟨by rw [e0], rfl⟩; exfalso; apply e0; simp_all [C1]; done)
 refine K1 ?_;refine Z97 ?_;refine G.eql ?_;refine W7 ?_;refine R.fin [0, 10] ?_
 refine W.cond (fun ht10 => ?_) (fun ht10 => ?_)
 ·refine Z0 ?_;refine Z65 ?_;refine Z5 ?_
  first | (by_cases e0 : C1 a b = (b, true); exact K.fin (V.two V.tmp V.tmp) ⟨by rw [e0], rfl⟩; exfalso; apply e0; simp_all [C1]; done) | (by_cases e0 : C1 a b = (a, true); exact K.fin (V.two V.tmp V.tmp) ⟨by rw [e0], rfl⟩; exfalso; apply e0; simp_all [C1]; done) | (by_cases e0 : C1 a b = (0, false); exact K.fin (V.two V.tmp V.tmp) ⟨by rw [e0], rfl⟩; exfalso; apply e0; simp_all [C1]; done)
 refine Z18 ?_;refine Z48 ?_;refine Z13 ?_
 first | (by_cases e0 : C1 a b = (b, true); exact K.fin (V.two V.tmp V.tmp) ⟨by rw [e0], rfl⟩; exfalso; apply e0; simp_all [C1]; done) | (by_cases e0 : C1 a b = (a, true); exact K.fin (V.two V.tmp V.tmp) ⟨by rw [e0], rfl⟩; exfalso; apply e0; simp_all [C1]; done) | (by_cases e0 : C1 a b = (0, false); exact K.fin (V.two V.tmp V.tmp) ⟨by rw [e0], rfl⟩; exfalso; apply e0; simp_all [C1]; done)

structure FitAt (s : Sign) (ks : List Int) (x : Nat × Int) : Prop where
 le : x.1 ≤ ks.length
 eq : Jd s.kids ks 0 = Jd (s.kids.drop x.1) (ks.drop x.1) x.2
theorem FitAt.step {s : Sign} {ks : List Int} {x : Nat × Int} (h : FitAt s ks x) (hk : x.1 < ks.length) (hs : x.1 < s.kids.length) : Jd s.kids ks 0 = (if s.kids[x.1] == -2 then Jd (s.kids.drop (x.1 + 1)) (ks.drop (x.1 + 1)) x.2 else if s.kids[x.1] == -1 then (if (C1 x.2 ks[x.1]).2 then Jd (s.kids.drop (x.1 + 1)) (ks.drop (x.1 + 1)) (C1 x.2 ks[x.1]).1 else none) else if (C1 s.kids[x.1] ks[x.1]).2 then Jd (s.kids.drop (x.1 + 1)) (ks.drop (x.1 + 1)) x.2 else none) := by
 rw [h.eq, List.drop_eq_getElem_cons hk, List.drop_eq_getElem_cons hs, Jd]
theorem FitAt.skip {s : Sign} {ks : List Int} {x : Nat × Int} (h : FitAt s ks x) (hk : x.1 < ks.length) (hs : x.1 < s.kids.length) (h2 : (s.kids[x.1] == -2) = true) : FitAt s ks (x.1 + 1, x.2) := ⟨hk, by rw [h.step hk hs, if_pos h2]⟩
theorem FitAt.same {s : Sign} {ks : List Int} {x : Nat × Int} (h : FitAt s ks x) (hk : x.1 < ks.length) (hs : x.1 < s.kids.length) (h2 : (s.kids[x.1] == -2) = false) (h1 : (s.kids[x.1] == -1) = true) (hm : (C1 x.2 ks[x.1]).2 = true) : FitAt s ks (x.1 + 1, (C1 x.2 ks[x.1]).1) := ⟨hk, by rw [h.step hk hs, if_neg (by rw [h2]; simp), if_pos h1, if_pos hm]⟩
theorem FitAt.want {s : Sign} {ks : List Int} {x : Nat × Int} (h : FitAt s ks x) (hk : x.1 < ks.length) (hs : x.1 < s.kids.length) (h2 : (s.kids[x.1] == -2) = false) (h1 : (s.kids[x.1] == -1) = false) (hm : (C1 s.kids[x.1] ks[x.1]).2 = true) : FitAt s ks (x.1 + 1, x.2) := ⟨hk, by rw [h.step hk hs, if_neg (by rw [h2]; simp), if_neg (by rw [h1]; simp), if_pos hm]⟩
theorem FitAt.bad {s : Sign} {ks : List Int} {x : Nat × Int} (h : FitAt s ks x) (hk : x.1 < ks.length) (hs : x.1 < s.kids.length) (h2 : (s.kids[x.1] == -2) = false) (hm : (if s.kids[x.1] == -1 then (C1 x.2 ks[x.1]).2 else (C1 s.kids[x.1] ks[x.1]).2) = false) : Gv s ks = (0, 10) := by
 unfold Gv
 rw [h.step hk hs, if_neg (by rw [h2]; simp)]
 split at hm
 ·rename_i h1
  rw [if_pos h1, if_neg (by rw [hm]; simp)]
 rename_i h1
 rw [if_neg h1, if_neg (by rw [hm]; simp)]
theorem FitAt.out {s : Sign} {ks : List Int} {x : Nat × Int} (h : FitAt s ks x) (hk : ks.length ≤ x.1) : Gv s ks = if s.own == -1 then (x.2, 0) else (s.own, 0) := by
 unfold Gv
 rw [h.eq, List.drop_of_length_le hk]
 cases s.kids.drop x.1 <;> rfl
theorem ww (s : Sign) (ks : List Int) (hks : ks.length ≤ s.kids.length) (hk2 : ks.length ≤ 1048576) (Hp : List AObj) : AFun Tryz.prog 180 [Up s, .slice false 1 (ks.map A3)] Hp (.tup [A3 (Gv s ks).1, A3 (Gv s ks).2]) := by
 refine ACall.body [.tmp 4, .tmp 5] [0, 1] Tryz.func180 Tryz.ntmps180 (fun d => ?_)
 refine dt ?_;refine Ba ?_;refine Z42 ?_;refine R.fin [1, 2, 6] ?_;refine S1 ?_;refine ak ?_
 refine AW.loopC (α := Nat × Int) (fun x => ⟨49, A2 2 (.ro [.slice false 1 (s.kids.map A3), A3 s.own]) (A2 6 (.ptr (oid Hp.length 0) 0) (A2 13 (.slice false 1 (ks.map A3)) (A2 14 (A3 (ks.length : Nat)) (A2 15 (A3 (x.1 : Nat)) (fun _ => .any))))), Hp, [.cells 3 [A3 x.2]], [], none⟩) (fun x => FitAt s ks x) (fun x => ks.length - x.1) ((0, 0)) ⟨Nat.zero_le _, rfl⟩ (StLe.of_eq (by simp)) rfl (fun x hx => ?_)
 refine Z57 ?_;refine R.fin [2, 6, 13, 14, 15, 16] ?_
 refine W.condX (fun ht16 => ?_) (fun ht16 => ?_)
 ·have hlt : x.1 < ks.length := by simpa using ht16
  have hls : x.1 < s.kids.length := by omega
  refine Mw ?_;refine R.indexAddr (x.1) (A3 ks[x.1]) jU jS (A9 hlt) ?_;refine Dw ?_;refine Z8 ?_;refine R.fin [2, 6, 7, 8, 13, 14, 15] ?_;refine Ba ?_;refine R.fieldAddrRo (off := 0) jU Tryz.sizeOf157 ?_;refine jp ?_;refine R.indexAddr (x.1) (A3 s.kids[x.1]) jU jS (A9 hls) ?_;refine Dw ?_;refine Z42 ?_;refine R.fin [2, 6, 8, 9, 13, 14, 15] ?_;refine Z16 ?_;refine Hi ?_;refine R.eql ?_;refine R.fin [2, 6, 8, 9, 13, 14, 15, 26] ?_
  refine W.cond (fun ht26 => ?_) (fun ht26 => ?_)
  ·refine W.keep [2, 6, 13, 14, 15] ?_;refine Z29 ?_;refine K.blE ?_;refine K.thN ?_;refine Z53 ?_;refine ak ?_
   first | (refine K.lpN (x.1 + 1, x.2) (hx.skip hlt hls ht26) (by show ks.length - (x.1 + 1) < ks.length - x.1; omega) ?_; exact StCut.take (own := [.cells 3 [A3 x.2]]) (fun _ => .refl _) (by repeat (first | exact Al | refine Ak (by first | (simp [or_imp, forall_and]; done) | (simp [oid] <;> omega)) ?_)) (by intro y hy; rw [List.mem_singleton.1 hy]; intro z hz; rw [List.mem_singleton.1 hz]; simp) (by simp)) | (refine K.lpN (x.1 + 1, (C1 x.2 ks[x.1]).1) (hx.same hlt hls ht26 ht28 (by simpa using ht38)) (by show ks.length - (x.1 + 1) < ks.length - x.1; omega) ?_; exact StCut.take (own := [.cells 3 [A3 (C1 x.2 ks[x.1]).1]]) (fun _ => .refl _) (by repeat (first | exact Al | refine Ak (by first | (simp [or_imp, forall_and]; done) | (simp [oid] <;> omega)) ?_)) (by intro y hy; rw [List.mem_singleton.1 hy]; intro z hz; rw [List.mem_singleton.1 hz]; simp) (by simp)) | (refine K.lpN (x.1 + 1, x.2) (hx.want hlt hls ht26 ht28 (by simpa using ht38)) (by show ks.length - (x.1 + 1) < ks.length - x.1; omega) ?_; exact StCut.take (own := [.cells 3 [A3 x.2]]) (fun _ => .refl _) (by repeat (first | exact Al | refine Ak (by first | (simp [or_imp, forall_and]; done) | (simp [oid] <;> omega)) ?_)) (by intro y hy; rw [List.mem_singleton.1 hy]; intro z hz; rw [List.mem_singleton.1 hz]; simp) (by simp))
  refine Z4 ?_;refine Z1 ?_;refine R.fin [2, 6, 8, 9, 10, 13, 14, 15] ?_;refine Z16 ?_;refine Hi ?_;refine R.eql ?_;refine R.fin [2, 6, 8, 10, 13, 14, 15, 28] ?_
  refine W.cond (fun ht28 => ?_) (fun ht28 => ?_)
  ·refine di ?_;refine R.fin [2, 6, 8, 10, 13, 14, 15] ?_;refine Tq ?_;refine R.nilPtr ?_;refine dh ?_;refine R.call Tryz.call190 (ul _ _ _) ?_;refine Fc ?_;refine R.fin [2, 6, 10, 11, 12, 13, 14, 15] ?_;refine Z10 ?_;refine R.not ?_;refine R.fin [2, 6, 10, 11, 13, 14, 15, 38] ?_
   refine W.cond (fun ht38 => ?_) (fun ht38 => ?_)
   ·have hbad := hx.bad hlt hls ht26 (by first | (rw [if_pos ht28]; simpa using ht38) | (rw [if_neg (by rw [ht28]; simp)]; simpa using ht38))
    refine Id ?_;exact rf
   refine Z4 ?_;refine Z7 ?_;refine Av ?_;refine R.nilPtr ?_;refine G9 ?_;refine ak ?_;refine K2 ?_;refine ak ?_
   first | (refine K.lpN (x.1 + 1, x.2) (hx.skip hlt hls ht26) (by show ks.length - (x.1 + 1) < ks.length - x.1; omega) ?_; exact StCut.take (own := [.cells 3 [A3 x.2]]) (fun _ => .refl _) (by repeat (first | exact Al | refine Ak (by first | (simp [or_imp, forall_and]; done) | (simp [oid] <;> omega)) ?_)) (by intro y hy; rw [List.mem_singleton.1 hy]; intro z hz; rw [List.mem_singleton.1 hz]; simp) (by simp)) | (refine K.lpN (x.1 + 1, (C1 x.2 ks[x.1]).1) (hx.same hlt hls ht26 ht28 (by simpa using ht38)) (by show ks.length - (x.1 + 1) < ks.length - x.1; omega) ?_; exact StCut.take (own := [.cells 3 [A3 (C1 x.2 ks[x.1]).1]]) (fun _ => .refl _) (by repeat (first | exact Al | refine Ak (by first | (simp [or_imp, forall_and]; done) | (simp [oid] <;> omega)) ?_)) (by intro y hy; rw [List.mem_singleton.1 hy]; intro z hz; rw [List.mem_singleton.1 hz]; simp) (by simp)) | (refine K.lpN (x.1 + 1, x.2) (hx.want hlt hls ht26 ht28 (by simpa using ht38)) (by show ks.length - (x.1 + 1) < ks.length - x.1; omega) ?_; exact StCut.take (own := [.cells 3 [A3 x.2]]) (fun _ => .refl _) (by repeat (first | exact Al | refine Ak (by first | (simp [or_imp, forall_and]; done) | (simp [oid] <;> omega)) ?_)) (by intro y hy; rw [List.mem_singleton.1 hy]; intro z hz; rw [List.mem_singleton.1 hz]; simp) (by simp))
  refine Z96 ?_;refine R.nilPtr ?_;refine dh ?_;refine R.call Tryz.call190 (ul _ _ _) ?_;refine Fc ?_;refine R.fin [2, 6, 10, 11, 12, 13, 14, 15] ?_;refine Z10 ?_;refine R.not ?_;refine R.fin [2, 6, 10, 11, 13, 14, 15, 38] ?_
  refine W.cond (fun ht38 => ?_) (fun ht38 => ?_)
  ·have hbad := hx.bad hlt hls ht26 (by first | (rw [if_pos ht28]; simpa using ht38) | (rw [if_neg (by rw [ht28]; simp)]; simpa using ht38))
   refine Id ?_;exact rf
  refine Z4 ?_;refine Z7 ?_;refine Av ?_;refine R.nilPtr ?_;refine G9 ?_;refine ak ?_;refine K2 ?_;refine ak ?_
  first | (refine K.lpN (x.1 + 1, x.2) (hx.skip hlt hls ht26) (by show ks.length - (x.1 + 1) < ks.length - x.1; omega) ?_; exact StCut.take (own := [.cells 3 [A3 x.2]]) (fun _ => .refl _) (by repeat (first | exact Al | refine Ak (by first | (simp [or_imp, forall_and]; done) | (simp [oid] <;> omega)) ?_)) (by intro y hy; rw [List.mem_singleton.1 hy]; intro z hz; rw [List.mem_singleton.1 hz]; simp) (by simp)) | (refine K.lpN (x.1 + 1, (C1 x.2 ks[x.1]).1) (hx.same hlt hls ht26 ht28 (by simpa using ht38)) (by show ks.length - (x.1 + 1) < ks.length - x.1; omega) ?_; exact StCut.take (own := [.cells 3 [A3 (C1 x.2 ks[x.1]).1]]) (fun _ => .refl _) (by repeat (first | exact Al | refine Ak (by first | (simp [or_imp, forall_and]; done) | (simp [oid] <;> omega)) ?_)) (by intro y hy; rw [List.mem_singleton.1 hy]; intro z hz; rw [List.mem_singleton.1 hz]; simp) (by simp)) | (refine K.lpN (x.1 + 1, x.2) (hx.want hlt hls ht26 ht28 (by simpa using ht38)) (by show ks.length - (x.1 + 1) < ks.length - x.1; omega) ?_; exact StCut.take (own := [.cells 3 [A3 x.2]]) (fun _ => .refl _) (by repeat (first | exact Al | refine Ak (by first | (simp [or_imp, forall_and]; done) | (simp [oid] <;> omega)) ?_)) (by intro y hy; rw [List.mem_singleton.1 hy]; intro z hz; rw [List.mem_singleton.1 hz]; simp) (by simp))
 have hxe : ks.length ≤ x.1 := by simpa using ht16
 have hout := hx.out hxe
 refine Z23 ?_;refine Z16 ?_;refine Z87 ?_;refine R.eql ?_;refine R.fin [2, 6, 45] ?_
 refine W.cond (fun ht45 => ?_) (fun ht45 => ?_)
 ·refine dj ?_;refine Z65 ?_;refine K.thR ?_;exact K.fin (V.two V.tmp V.tmp) ⟨by rw [hout, if_pos ht45], rfl⟩
 refine Hz ?_;refine Z87 ?_;refine Z65 ?_;exact K.fin (V.two V.tmp V.tmp) ⟨by rw [hout, if_neg (by rw [ht45]; simp)], rfl⟩

theorem fm {n k : Nat} {own : Bool} {l : List Int} : Low n (.slice own k (l.map A3)) := low_slice.2 fun y hy => by
 obtain ⟨z, _, rfl⟩ := List.mem_map.1 hy
 simp
theorem Si {n : Nat} {e : Expr} : Low n (.ro (Cx e)) := by have := B0 n e; rw [Bg] at this; simpa using this
theorem D6 {c : List Col} {t : Str} (h : ¬ (Af t c < 0)) : ∃ (j : Nat), Af t c = (j : Int) ∧ j < c.length := by
 obtain ⟨j, y, h2, _, h3⟩ := find_mem.1 h
 exact ⟨j, h3, (List.getElem?_eq_some_iff.1 h2).1⟩
theorem Uq {c : List Col} {e : Expr} (h : (e.op == 1) = true) : Cl c e = (e.val.kind, 0) := by rw [L5]; unfold Qs; rw [if_pos h]
theorem Qz {c : List Col} {e : Expr} (h1 : (e.op == 1) = false) (h : (e.op == 2) = true) : Cl c e = Mf c e.text := by rw [L5]; unfold Qs; rw [h1, if_pos h]; rfl
theorem Ur {c : List Col} {e : Expr} (h1 : (e.op == 1) = false) (h2 : (e.op == 2) = false) {x : Nat} (hx : x < e.kids.length) (h0 : ∀ (j : Nat) (y : Expr), j < x → e.kids[j]? = some y → ((Cl c y).2 != 0) = false) (hb : ((Cl c e.kids[x]).2 != 0) = true) : Cl c e = (0, (Cl c e.kids[x]).2) := by
 rw [L5]
 unfold Qs
 rw [h1, h2]
 have : (e.kids.map (Cl c)).find? (fun q => q.2 != 0) = some ((e.kids.map (Cl c))[x]'(by simpa using hx)) := Xy (by simpa using hx) (by simpa using hb) (fun j y hj hy => by
  rw [List.getElem?_map, Option.map_eq_some_iff] at hy
  obtain ⟨z, hz, rfl⟩ := hy
  exact h0 j z hj hz)
 rw [this]
 simp
theorem Us {c : List Col} {e : Expr} (h1 : (e.op == 1) = false) (h2 : (e.op == 2) = false) (h0 : ∀ (j : Nat) (y : Expr), j < e.kids.length → e.kids[j]? = some y → ((Cl c y).2 != 0) = false) : Cl c e = Gv (C0 e.op e.text) (e.kids.map fun y => (Cl c y).1) := by
 rw [L5]
 unfold Qs
 rw [h1, h2]
 have : (e.kids.map (Cl c)).find? (fun q => q.2 != 0) = none := Qd (fun j y hy => by
  rw [List.getElem?_map, Option.map_eq_some_iff] at hy
  obtain ⟨z, hz, rfl⟩ := hy
  exact h0 j z (List.getElem?_eq_some_iff.1 hz).1 hz)
 rw [this]
 simp only [List.map_map]
 rfl
theorem R0 (f : Expr → Int) (l : List Expr) {x : Nat} (h : x < l.length) : ((l.take x).map f).map A3 ++ [A3 (f l[x])] = ((l.take (x + 1)).map f).map A3 := by rw [List.take_succ_eq_append_getElem h, List.map_append, List.map_append]; rfl
theorem wx (c : List Col) (hc : OkCols c) : ∀ (n : Nat) (e : Expr), okE n e → Cm Bp e = true → ∀ Hp : List AObj, AFun Tryz.prog 170 [A5 e, A4 c] Hp (.tup [A3 (Cl c e).1, A3 (Cl c e).2]) := by
 intro n
 induction n with
 | zero => exact fun e h => h.elim
 | succ n ih =>
 intro e hok hnd Hp
 have hnd0 := hnd
 rw [Cp, Bool.and_eq_true] at hnd0
 refine ACall.body [.tmp 4, .tmp 5] [0, 1] Tryz.func170 Tryz.ntmps170 (fun d => ?_)
 refine dt ?_;refine Kv ?_;refine R.fin [1, 2, 13] ?_;refine Ld ?_;refine R.fin [1, 2, 13, 14] ?_
 refine W.cond (fun ht14 => ?_) (fun ht14 => ?_)
 ·have hk := Uq (c := c) ht14
  refine Ba ?_;refine R.fieldAddrRo (off := 2) jU Tryz.sizeOf58 ?_;refine Z9 ?_;refine Z65 ?_;refine Z5 ?_;exact jz
 refine Z37 ?_;refine R.fin [1, 2, 19] ?_
 refine W.cond (fun ht19 => ?_) (fun ht19 => ?_)
 ·have hk := Qz (c := c) ht14 ht19
  refine Z0 ?_;refine Z24 ?_;refine R.call Tryz.call84 (c84 c hc e.text _) ?_;refine Ar ?_;refine R.fin [1, 6] ?_;refine ab ?_;refine R.fin [1, 6, 26] ?_
  refine W.cond (fun ht26 => ?_) (fun ht26 => ?_)
  ·have hk2 : Mf c e.text = (0, 9) := if_pos (by simpa using ht26)
   refine Id ?_;exact rg
  have hneg : ¬ (Af e.text c < 0) := by simpa using ht26
  obtain ⟨j, hj, hjl⟩ := D6 hneg
  have hk2 : Mf c e.text = (c[j].kind, 0) := by
   unfold Mf
   rw [if_neg hneg, hj, Int.toNat_natCast, List.getD_eq_getElem?_getD, List.getElem?_eq_getElem hjl]
   rfl
  rw [hj]
  refine Tt ?_;refine R.indexAddr (j) (B3 c[j]) jU jS (A9 hjl) ?_;refine Z87 ?_;refine Z65 ?_;exact rg
 refine Z18 ?_;refine Z1 ?_;refine R.fin [1, 2, 7] ?_;refine Z16 ?_;refine R.nilSl 7 1 ?_;refine Z19 ?_;refine Z64 ?_;refine R.fin [1, 2, 7, 33, 34, 35] ?_
 refine AW.loopC (α := Nat) (fun x => ⟨59, A2 1 (A4 c) (A2 2 (.ro (Cx e)) (A2 7 (.slice true 1 (((e.kids.take x).map fun y => (Cl c y).1).map A3)) (A2 33 (.slice false 6 (e.kids.map A5)) (A2 34 (A3 (e.kids.length : Nat)) (A2 35 (A3 (x : Nat)) (fun _ => .any)))))), Hp, [], [], none⟩) (fun x => x ≤ e.kids.length ∧ ∀ (j : Nat) (y : Expr), j < x → e.kids[j]? = some y → ((Cl c y).2 != 0) = false) (fun x => e.kids.length - x) (0) ⟨Nat.zero_le _, fun j y h => by omega⟩ (StLe.of_eq (by simp)) rfl (fun x hx => ?_)
 refine Z57 ?_;refine R.fin [1, 2, 7, 33, 34, 35, 36] ?_
 refine W.condX (fun ht36 => ?_) (fun ht36 => ?_)
 ·have hlt : x < e.kids.length := by simpa using ht36
  have hkl := hok.2.1
  refine J9 ?_;refine Z59 ?_;refine Z42 ?_;refine R.fin [1, 2, 7, 9, 33, 34, 35] ?_;refine Z88 ?_;refine Av ?_;refine R.call Tryz.call170 (ih e.kids[x] (hok.2.2 _ (List.getElem_mem hlt)) ((Cg _ _).1 hnd0.2 _ (List.getElem_mem hlt)) _) ?_;refine Fc ?_;refine R.fin [1, 2, 7, 10, 11, 33, 34, 35] ?_;refine Gs ?_;refine R.fin [1, 2, 7, 10, 11, 33, 34, 35, 46] ?_
  refine W.cond (fun ht46 => ?_) (fun ht46 => ?_)
  ·have hkb := Ur (c := c) ht14 ht19 hlt hx.2 ht46
   refine Z0 ?_;refine Z65 ?_;refine K.thR ?_;exact rk
  refine We ?_;refine jb ?_
  refine R.append jU Tryz.type3 ?_ ?_ ?_
  ·simp only [List.length_map, List.length_take, List.length_cons, List.length_nil, Tryz.t3]; omega
  ·simp only [List.length_map, List.length_take, List.length_cons, List.length_nil, Tryz.t3]; omega
  refine Fq ?_;refine R.fin [1, 2, 7, 33, 34, 35] ?_;refine K2 ?_;refine R.fin [1, 2, 7, 33, 34, 35] ?_;refine K.lpN (x + 1) ⟨hlt, Aq hlt hx.2 ht46⟩ (by omega) ?_
  simp only [show Tryz.t3.size = 1 from rfl, R0]
  exact StCut.take (own := []) (fun _ => .refl _) (by repeat (first | exact Al | refine Ak (by first | exact fm | exact Si | exact Cv | (simp [or_imp, forall_and]; done)) ?_)) (by simp) (by simp)
 have hxe : e.kids.take x = e.kids := List.take_of_length_le (by simp at ht36; omega)
 have hxl : e.kids.length ≤ x := by simp at ht36; omega
 have hka := Us (c := c) ht14 ht19 (fun j y hj hy => hx.2 j y (by omega) hy)
 rw [hxe]
 refine Z23 ?_;refine Z86 ?_;refine R.call Tryz.call179 (wv e _) ?_;refine Av ?_
 refine R.call Tryz.call180 (ww (C0 e.op e.text) (e.kids.map fun y => (Cl c y).1) (by rw [H6 hnd0.1 ht14 ht19]; simp) (by simpa using hok.2.1) _) ?_
 refine Z34 ?_;refine Z65 ?_;exact K.fin (V.two V.tmp V.tmp) ⟨by rw [hka], rfl⟩

theorem Mg {e : Expr} (h : Ad e = true) : Cm Bp e = true := by
 rw [Bx] at h
 unfold Aa at h
 rw [Bool.and_eq_true] at h
 exact h.2
theorem um (n : Nat) (e : Expr) (hok : okE n e) (hn : n ≤ 1048576) (c : List Col) (hc : OkCols c) (Hp : List AObj) : AFun Tryz.prog 161 [A5 e, A4 c] Hp (.tup [A3 (D3 e c).1, A3 (D3 e c).2]) := by
 refine ACall.body [.tmp 4, .tmp 5] [0, 1] Tryz.func161 Tryz.ntmps161 (fun d => ?_)
 refine dt ?_;refine W6 ?_;refine R.call Tryz.call64 (c64 n e hok hn _) ?_;refine Py ?_;refine G.call Tryz.call59 (fun hB => c59 c hc _) ?_;refine Np ?_;refine R.fin [1, 2, 13] ?_
 refine W.cond (fun ht13 => ?_) (fun ht13 => ?_)
 ·have hk : D3 e c = (0, 1) := if_pos ht13
  exact rq
 have hk : D3 e c = Cl c e := if_neg (by rw [ht13]; simp)
 have hr : Ad e = true := by simp only [Bool.or_eq_false_iff, Bool.not_eq_false'] at ht13; exact ht13.1
 refine Z4 ?_;refine Z86 ?_;refine Av ?_;refine R.call Tryz.call170 (wx c hc n e hok (Mg hr) _) ?_;refine Z34 ?_;exact ry

theorem Bo {n k : Nat} {o : Bool} {l : List Col} : Low n (.slice o k (l.map B3)) := by simp [or_imp, forall_and]
theorem wy {α β : Type} {f : α → β} {l : List α} {k : Nat} {y : α} (h : l[k]? = some y) : (l.map f)[k]? = some (f y) := by rw [List.getElem?_map, h]; rfl
theorem wz (c : List Col) (hc : OkCols c) (take : List Str) (ht : take.length ≤ 1048576) (give : List Col) (hg : OkCols give) (hg2 : give.length ≤ 1000000) (Hp : List AObj) : AFun Tryz.prog 136 [A4 c, C2 take, A4 give] Hp (.tup [A4 (Bv c take give).1, A3 (Bv c take give).2]) := by
 refine ACall.body [.tmp 6, .tmp 7] [0, 1, 2, 9] Tryz.func136 Tryz.ntmps136 (fun d => ?_)
 refine Z48 ?_;refine R.fin [0, 1, 2, 9] ?_;refine Z10 ?_;refine R.call Tryz.call39 (c39 c hc _) ?_;refine R.not ?_;refine R.fin [0, 1, 2, 9, 12] ?_
 refine W.cond (fun ht12 => ?_) (fun ht12 => ?_)
 ·have hr : B1 c = false := by rw [Dz] at ht12; simpa using ht12
  refine Ns ?_;exact qx
 have hr : B1 c = true := by rw [Dz] at ht12; simpa using ht12
 refine Z4 ?_;refine Nq ?_;refine R.call Tryz.call158 (wd c hc take ht _) ?_;refine R.not ?_;refine R.fin [0, 1, 2, 9, 16] ?_
 refine W.cond (fun ht16 => ?_) (fun ht16 => ?_)
 ·have hk : Di c take = false := by simpa using ht16
  refine Ns ?_;refine K.thR ?_;exact K.fin (V.two V.tmp V.tmp) ⟨by rw [Ww hr hk]; try rfl, rfl⟩
 have hk : Di c take = true := by simpa using ht16
 refine Hz ?_;refine R.alloc jZ ?_;refine R.fin [0, 1, 2, 8, 9] ?_;refine Z16 ?_;refine R.nilOwn 0 2 ?_
 refine R.assumeLow (fun hlow => ?_)
 refine Z58 ?_;refine R.call Tryz.call159 (wg c take _) ?_;refine R.fin [2, 8, 9, 19] ?_;refine AW.block ?_
 refine W.rangeV (m := 1) Tryz.call169 (fun FR as' bd' hFR has hbd => ?_)
 have hFRl : ∀ s, Low (Hp.length + 3) (FR s) := by
  intro s
  rw [hFR]
  refine Low.strip ?_
  revert s
  repeat (first | exact Al | refine Ak (by simp [oid, or_imp, forall_and] <;> try omega) ?_)
 have hOl : ∀ {k : Nat}, ∀ x ∈ [AObj.cells 22 [.slice true 2 ((B6 (c.take k) take).map B3)], AObj.defs, AObj.loop LoopState.ready none FR 41 #[20] as' bd' (oid Hp.length 1)], ObjLow (Hp.length + 3) x := by
  intro k x hx
  simp only [List.mem_cons, List.mem_nil_iff, or_false] at hx
  rcases hx with rfl | rfl | rfl
  ·intro y hy
   rw [List.mem_singleton.1 hy]
   exact Bo
  ·trivial
  exact ⟨hFRl, by simp [oid]⟩
 refine ⟨_, wh (oid Hp.length 2) c take hc.len ht (fun k => Hp ++ [AObj.cells 22 [.slice true 2 ((B6 (c.take k) take).map B3)], AObj.defs, AObj.loop LoopState.ready none FR 41 #[20] as' bd' (oid Hp.length 1)]) (fun k => by simp) (by simp [oid]) (fun k x hx => ?_) (fun k y hk hcn => by simp only [Qr hk hcn]) (fun k y X hk hcn => ?_), ?_⟩
 ·have := Gn (fun x hx => ObjLow.le (by omega) (hlow x hx)) hOl x hx
  simpa using this
 ·generalize hV : Hp ++ [AObj.cells 22 [.slice true 2 ((B6 (c.take k) take).map B3)], AObj.defs, AObj.loop LoopState.ready none FR 41 #[20] as' bd' (oid Hp.length 1)] ++ X = V
  have hL : V[oid Hp.length 2]? = some (AObj.loop LoopState.ready none FR 41 #[20] as' bd' (oid Hp.length 1)) := by rw [← hV, List.append_assoc, Bu]; rfl
  have hA0 : V[oid Hp.length 0]? = some (AObj.cells 22 [.slice true 2 ((B6 (c.take k) take).map B3)]) := by rw [← hV, List.append_assoc, Bu]; rfl
  refine AYield.ofRound (pd := none) (fr := FR) (sz := 41) (ps := #[20]) (df := oid Hp.length 1) (asg := as') (bd := bd') hL rfl (by decide) (fun d => ?_)
  subst hFR has hbd
  refine W.keep [8, 20] ?_;refine Hh ?_;refine Z42 ?_;refine R.fin [8, 9] ?_
  refine ⟨rfl, none, hL, ?_⟩
  generalize hbz : (AObj.loop LoopState.busy _ _ _ _ _ _ _) = bz
  have hA : (V.set (oid Hp.length 2) bz)[oid Hp.length 0]? = some (AObj.cells 22 [.slice true 2 ((B6 (c.take k) take).map B3)]) := by rw [List.getElem?_set_ne (Cs (by decide))]; exact hA0
  refine AW.block ?_;refine Hh ?_;refine R.loadUpT jA hA ?_;refine dc ?_
  refine R.append jU Tryz.type47 ?_ ?_ ?_
  ·have h1 := Co (c.take k) take; have h2 := hc.len; simp only [List.length_take] at h1; simp [Tryz.t47]; omega
  ·have h1 := Co (c.take k) take; have h2 := hc.len; simp only [List.length_take] at h1; simp [Tryz.t47]; omega
  refine R.storeUpT jS (Ay hA) ?_ ?_
  ·exact Lq
  refine dw ?_
  subst hbz
  refine K.rdN (Tj hL (Cs (by decide)) (Cs (by decide))) ?_
  refine ⟨rfl, ?_⟩
  subst hV
  simp only [List.append_assoc, Fp, List.cons_append, List.nil_append, List.set_cons_succ, List.set_cons_zero]
  rw [Y6 hk hcn, List.map_append]
  rfl
 rintro r H' rfl
 simp only [List.take_length]
 refine ⟨Hp, _, _, _, rfl, rfl, fun h => h, ?_, rfl, by simp, ?_⟩
 ·intro o ho
  have : o = oid Hp.length 1 := by simpa using ho
  subst this
  rw [Bu]
  rfl
 refine Z6 ?_;refine Ba ?_;refine R.loadOwnT jA ?_;refine Av ?_
 refine R.append jU Tryz.type47 ?_ ?_ ?_
 ·have h1 := Co c take; have h2 := H5 hr; simp [Tryz.t47]; omega
 ·have h1 := Co c take; have h2 := H5 hr; simp [Tryz.t47]; omega
 refine R.storeOwnT jS ?_;refine R.fin [8] ?_;refine J9 ?_
 have e10 : (B6 c take).map B3 ++ give.map B3 = (B6 c take ++ give).map B3 := (List.map_append ..).symm
 rw [e10]
 generalize hout : B6 c take ++ give = out
 have ho : OkCols out := X1 hc hr hg hg2 hout
 refine Hi ?_;refine R.call Tryz.call160 (we out ho _) ?_;refine dx ?_;refine R.fin [8, 28] ?_
 refine W.cond (fun ht28 => ?_) (fun ht28 => ?_)
 ·have hn : E7 out = false := by simpa using ht28
  refine Ns ?_;refine Z5 ?_;exact K.fin (V.two V.tmp V.tmp) ⟨by rw [Wx hr hk hout hn]; try rfl, rfl⟩
 have hn : E7 out = true := by simpa using ht28
 refine dj ?_;refine R.call Tryz.call59 (c59 out ho _) ?_;refine dx ?_;refine R.fin [8, 32] ?_
 refine W.cond (fun ht32 => ?_) (fun ht32 => ?_)
 ·have hq : Cw out = false := by rw [J0] at ht32; simpa using ht32
  refine Ns ?_;refine Z5 ?_;exact K.fin (V.two V.tmp V.tmp) ⟨by rw [Wy hr hk hout hn hq]; try rfl, rfl⟩
 have hq : Cw out = true := by rw [J0] at ht32; simpa using ht32
 refine dj ?_;refine Px ?_;refine Ar ?_;refine R.fin [8, 36] ?_
 refine W.cond (fun ht36 => ?_) (fun ht36 => ?_)
 ·have h12 : 12 < out.length := by simp at ht36; omega
  refine Ns ?_;refine Z5 ?_;exact K.fin (V.two V.tmp V.tmp) ⟨by rw [Wz hr hk hout hn hq h12]; try rfl, rfl⟩
 have h12 : ¬ 12 < out.length := by simp at ht36; omega
 refine Z18 ?_;refine dj ?_;refine Z8 ?_;refine Z44 ?_;exact K.fin (V.two V.tmp V.tmp) ⟨by rw [X0 hr hk hout hn hq h12]; try rfl, rfl⟩

theorem c6u (c : List Col) (Hp : List AObj) : AFun Tryz.prog 6 [A4 c] Hp (Am (Hw c)) := by
 refine ACall.body [.tmp 2] [0] Tryz.func6 Tryz.ntmps6 (fun d => ?_)
 refine Nv ?_;refine Px ?_;refine R.fin [0, 6] ?_
 refine W.cond (fun ht6 => ?_) (fun ht6 => ?_)
 ·rw [List.length_map] at ht6
  have hm : Hw c = true := by unfold Hw; rw [ht6]; rfl
  exact jm
 rw [List.length_map] at ht6
 have hl50 : c.length ≤ 50 := by simp at ht6; omega
 refine Kx ?_;refine Fd ?_
 refine AW.loopC (α := Nat) (fun x => ⟨20, A2 0 (A4 c) (A2 3 (A3 (x : Nat)) (fun _ => .any)), Hp, [], [], none⟩) (fun x => x ≤ c.length ∧ ∀ (j : Nat) (v : Col), j < x → c[j]? = some v → decide ((100 : Int) < (v.name.length : Int)) = false) (fun x => c.length - x) (0) ⟨Nat.zero_le _, fun j v h => by omega⟩ (StLe.of_eq (by simp)) rfl (fun x hx => ?_)
 refine Z83 ?_;refine R.fin [0, 3, 10] ?_
 refine W.cond (fun ht10 => ?_) (fun ht10 => ?_)
 ·have hlt : x < c.length := by simpa using ht10
  refine Jc ?_;refine j6 ?_;refine R.slen jU ?_;refine R.gtr ?_;refine R.fin [0, 3, 19] ?_
  refine W.cond (fun ht19 => ?_) (fun ht19 => ?_)
  ·have hm : Hw c = true := by unfold Hw; rw [Bool.or_eq_true]; exact .inr (List.any_eq_true.2 ⟨c[x], List.getElem_mem hlt, ht19⟩)
   exact nb
  refine Z18 ?_;refine Z7 ?_;refine R.add64 (h1 := by omega) (h2 := by omega) ?_;refine Ar ?_;refine Fd ?_;refine K.lpN (x + 1) ⟨hlt, Aq hlt hx.2 ht19⟩ (by omega) ?_;exact StCut.of_eq (by simp)
 have hxe : c.length ≤ x := by simpa using ht10
 have hm : Hw c = false := by
  unfold Hw
  rw [ht6, Bool.false_or, List.any_eq_false]
  intro v hv
  obtain ⟨j, hj⟩ := List.getElem?_of_mem hv
  have := hx.2 j v (by have := (List.getElem?_eq_some_iff.1 hj).1; omega) hj
  rw [this]
  simp
 exact jr

/-- law18.Wide. -/
def Ge (m : Mov) : Bool := (((((Hw m.give || decide ((20 : Int) < (m.take.length : Int))) || decide ((20 : Int) < (m.ahead.length : Int))) || decide ((20 : Int) < (m.back.length : Int))) || m.take.any fun s => decide ((100 : Int) < (s.length : Int))) || m.ahead.any Oh) || m.back.any Oh
def F0 (l : List Mov) : Bool := decide ((12 : Int) < (l.length : Int)) || l.any Ge
theorem E1 {α : Type} {p : α → Bool} {l : List α} {x : Nat} (h : l.length ≤ x) (hp : ∀ (j : Nat) (v : α), j < x → l[j]? = some v → p v = false) : l.any p = false := by
 rw [List.any_eq_false]
 intro v hv
 obtain ⟨j, hj⟩ := List.getElem?_of_mem hv
 rw [hp j v (by have := (List.getElem?_eq_some_iff.1 hj).1; omega) hj]
 simp
theorem Sj {n : Nat} {m : Mov} : ∀ y ∈ Gb m, Low n y := by
 intro y hy
 simp only [Gb, List.mem_cons, List.mem_nil_iff, or_false] at hy
 rcases hy with rfl | rfl | rfl | rfl | rfl <;> simp [or_imp, forall_and, B0]
theorem fp {n : Nat} {m : Mov} : Low n (Gc m) := Go.SX.low_agg.2 Sj
theorem H7 {n k : Nat} {o : Bool} {l : List Mov} : Low n (.slice o k (l.map Gc)) := low_slice.2 fun y hy => by
 obtain ⟨m, _, rfl⟩ := List.mem_map.1 hy
 exact fp
theorem E4 {α : Type} {p : α → Bool} (l : List α) : (l.any fun s => !(p s)) = !(l.all p) := by
 induction l with
 | nil => rfl
 | cons a r ih => rw [List.any_cons, List.all_cons, ih]; cases p a <;> simp
theorem c7 (l : List Mov) (Hp : List AObj) : AFun Tryz.prog 7 [By l] Hp (Am (F0 l)) := by
 refine ACall.body [.tmp 2] [0] Tryz.func7 Tryz.ntmps7 (fun d => ?_)
 refine Nv ?_;refine Px ?_;refine R.fin [0, 10] ?_
 refine W.cond (fun ht10 => ?_) (fun ht10 => ?_)
 ·rw [List.length_map] at ht10
  have hm : F0 l = true := by unfold F0; rw [ht10]; rfl
  exact jm
 rw [List.length_map] at ht10
 have hl12 : l.length ≤ 12 := by simp at ht10; omega
 refine Kx ?_;refine Fd ?_
 refine AW.loopC (α := Nat) (fun x => ⟨82, A2 0 (By l) (A2 3 (A3 (x : Nat)) (fun _ => .any)), Hp, [], [], none⟩) (fun x => x ≤ l.length ∧ ∀ (j : Nat) (v : Mov), j < x → l[j]? = some v → Ge v = false) (fun x => l.length - x) (0) ⟨Nat.zero_le _, fun j v h => by omega⟩ (StLe.of_eq (by simp)) rfl (fun x hx => ?_)
 refine Z83 ?_;refine R.fin [0, 3, 14] ?_
 refine W.cond (fun ht14 => ?_) (fun ht14 => ?_)
 ·have hlt : x < l.length := by simpa using ht14
  have hbad : Ge l[x] = true → F0 l = true := fun h => by unfold F0; rw [Bool.or_eq_true]; exact .inr (List.any_eq_true.2 ⟨l[x], List.getElem_mem hlt, h⟩)
  refine Jc ?_;refine o1 ?_;refine W3 ?_;refine Nw ?_;refine Z16 ?_;refine R.fieldAddrPtr (fo := 2) jU Tryz.sizeOf22 ?_;refine Hi ?_;refine R.call Tryz.call6 (c6u l[x].give _) ?_;refine Av ?_;refine G.fieldAddrPtr (fo := 1) jU Tryz.sizeOf34 ?_;refine G.loadOwn jA ?_;refine G.len jU ?_;refine Z95 ?_;refine Av ?_;refine G.fieldAddrPtr (fo := 3) jU Tryz.sizeOf53 ?_;refine G.loadOwn jA ?_;refine G.len jU ?_;refine Z95 ?_;refine Av ?_;refine G.fieldAddrPtr (fo := 4) jU Tryz.sizeOf53 ?_;refine G.loadOwn jA ?_;refine G.len jU ?_;refine Z95 ?_;refine R.fin [0, 3, 4, 41] ?_
  refine W.cond (fun ht41 => ?_) (fun ht41 => ?_)
  ·simp only [List.length_map] at ht41
   have hm : F0 l = true := hbad (by unfold Ge; rw [ht41]; rfl)
   refine Tp ?_;exact Zm
  simp only [List.length_map] at ht41
  have hk : l[x].take.length ≤ 20 ∧ l[x].ahead.length ≤ 20 ∧ l[x].back.length ≤ 20 := by simp only [Bool.or_eq_false_iff, decide_eq_false_iff_not] at ht41; omega
  refine Kx ?_;refine R.fin [0, 3, 4, 5] ?_
  refine AW.loopC (α := Nat) (fun a => ⟨82, A2 0 (By l) (A2 3 (A3 (x : Nat)) (A2 4 (.ptr (oid Hp.length 0) 0) (A2 5 (A3 (a : Nat)) (fun _ => .any)))), Hp, [.cells 55 (Gb l[x])], [], none⟩) (fun a => a ≤ l[x].take.length ∧ ∀ (j : Nat) v, j < a → l[x].take[j]? = some v → (fun s : Str => decide ((100 : Int) < (s.length : Int))) v = false) (fun a => l[x].take.length - a) (0) ⟨Nat.zero_le _, fun j v h => by omega⟩ (StLe.of_eq (by simp)) rfl (fun a ha => ?_)
  refine Z10 ?_;refine R.fieldAddrPtr (fo := 1) jU Tryz.sizeOf34 ?_;refine Hi ?_;refine W1 ?_;refine R.fin [0, 3, 4, 5, 46] ?_
  refine W.cond (fun ht46 => ?_) (fun ht46 => ?_)
  ·have ha1 : a < l[x].take.length := by simpa using ht46
   refine Tn ?_;refine R.fieldAddrPtr (fo := 1) jU Tryz.sizeOf34 ?_;refine dh ?_;refine R.indexAddr (a) (A7 l[x].take[a]) jU jS (A9 ha1) ?_;refine Dw ?_;refine R.slen jU ?_;refine R.gtr ?_;refine R.fin [0, 3, 4, 5, 55] ?_
   refine W.cond (fun ht55 => ?_) (fun ht55 => ?_)
   ·have hm : F0 l = true := hbad (by unfold Ge; rw [ht41, List.any_eq_true.2 ⟨_, List.getElem_mem ha1, ht55⟩]; rfl)
    refine Pw ?_;exact Zm
   refine Z85 ?_;refine R.fin [0, 3, 4, 5] ?_;exact K.lpN (a + 1) ⟨ha1, Aq ha1 ha.2 ht55⟩ (by omega) (StCut.of_eq rfl)
  have hae : l[x].take.length ≤ a := by simpa using ht46
  have e1 := E1 hae ha.2
  refine Wg ?_;refine R.fin [0, 3, 4, 6] ?_
  refine AW.loopC (α := Nat) (fun b => ⟨82, A2 0 (By l) (A2 3 (A3 (x : Nat)) (A2 4 (.ptr (oid Hp.length 0) 0) (A2 6 (A3 (b : Nat)) (fun _ => .any)))), Hp, [.cells 55 (Gb l[x])], [], none⟩) (fun b => b ≤ l[x].ahead.length ∧ ∀ (j : Nat) v, j < b → l[x].ahead[j]? = some v → Oh v = false) (fun b => l[x].ahead.length - b) (0) ⟨Nat.zero_le _, fun j v h => by omega⟩ (StLe.of_eq (by simp)) rfl (fun b hb => ?_)
  refine Z10 ?_;refine R.fieldAddrPtr (fo := 3) jU Tryz.sizeOf53 ?_;refine Hi ?_;refine W1 ?_;refine R.fin [0, 3, 4, 6, 60] ?_
  refine W.cond (fun ht60 => ?_) (fun ht60 => ?_)
  ·have hb1 : b < l[x].ahead.length := by simpa using ht60
   refine Tn ?_;refine R.fieldAddrPtr (fo := 3) jU Tryz.sizeOf53 ?_;refine dh ?_;refine R.indexAddr (b) (A5 l[x].ahead[b]) jU jS (A9 hb1) ?_;refine Ek ?_;refine R.call Tryz.call19 (c19 l[x].ahead[b] _) ?_;refine R.fin [0, 3, 4, 6, 68] ?_
   refine W.cond (fun ht68 => ?_) (fun ht68 => ?_)
   ·have hm : F0 l = true := hbad (by unfold Ge; rw [List.any_eq_true.2 ⟨_, List.getElem_mem hb1, ht68⟩]; simp)
    refine Pw ?_;exact Zm
   refine Z85 ?_;refine R.fin [0, 3, 4, 6] ?_;exact K.lpN (b + 1) ⟨hb1, Aq hb1 hb.2 ht68⟩ (by omega) (StCut.of_eq rfl)
  have hbe : l[x].ahead.length ≤ b := by simpa using ht60
  have e2 := E1 hbe hb.2
  refine Z47 ?_;refine Z1 ?_;refine R.fin [0, 3, 4, 7] ?_
  refine AW.loopC (α := Nat) (fun e => ⟨82, A2 0 (By l) (A2 3 (A3 (x : Nat)) (A2 4 (.ptr (oid Hp.length 0) 0) (A2 7 (A3 (e : Nat)) (fun _ => .any)))), Hp, [.cells 55 (Gb l[x])], [], none⟩) (fun e => e ≤ l[x].back.length ∧ ∀ (j : Nat) v, j < e → l[x].back[j]? = some v → Oh v = false) (fun e => l[x].back.length - e) (0) ⟨Nat.zero_le _, fun j v h => by omega⟩ (StLe.of_eq (by simp)) rfl (fun e he => ?_)
  refine Z10 ?_;refine R.fieldAddrPtr (fo := 4) jU Tryz.sizeOf53 ?_;refine Hi ?_;refine W1 ?_;refine R.fin [0, 3, 4, 7, 73] ?_
  refine W.cond (fun ht73 => ?_) (fun ht73 => ?_)
  ·have he1 : e < l[x].back.length := by simpa using ht73
   refine Tn ?_;refine R.fieldAddrPtr (fo := 4) jU Tryz.sizeOf53 ?_;refine dh ?_;refine R.indexAddr (e) (A5 l[x].back[e]) jU jS (A9 he1) ?_;refine Ek ?_;refine R.call Tryz.call19 (c19 l[x].back[e] _) ?_;refine R.fin [0, 3, 4, 7, 81] ?_
   refine W.cond (fun ht81 => ?_) (fun ht81 => ?_)
   ·have hm : F0 l = true := hbad (by unfold Ge; rw [List.any_eq_true.2 ⟨_, List.getElem_mem he1, ht81⟩]; simp)
    refine Z92 ?_;refine K.lpR ?_;exact Zm
   refine Z85 ?_;refine R.fin [0, 3, 4, 7] ?_;exact K.lpN (e + 1) ⟨he1, Aq he1 he.2 ht81⟩ (by omega) (StCut.of_eq rfl)
  have hee : l[x].back.length ≤ e := by simpa using ht73
  have e3 := E1 hee he.2
  have e4 : Ge l[x] = false := by unfold Ge; rw [ht41, e1, e2, e3]; rfl
  refine Z29 ?_;refine K.lpE ?_;refine Z90 ?_;refine Fd ?_;refine K.lpN (x + 1) ⟨hlt, Aq hlt hx.2 e4⟩ (by omega) ?_
  exact StCut.take (own := []) (fun _ => .refl _) (by repeat (first | exact Al | refine Ak (by first | (simp [or_imp, forall_and]; done) | exact H7 | (simp [oid] <;> omega)) ?_)) (by simp) (by simp)
 have hxe : l.length ≤ x := by simpa using ht14
 have hm : F0 l = false := by unfold F0; rw [ht10, E1 hxe hx.2]; rfl
 exact jr

theorem c68 (l : List Expr) (h : OkEs l) (Hp : List AObj) : AFun Tryz.prog 68 [Az l] Hp (Am (l.all Aa)) := by
 refine ACall.body [.tmp 2] [0] Tryz.func68 Tryz.ntmps68 (fun d => ?_)
 refine Z55 ?_;refine Z52 ?_;refine Fd ?_
 refine AW.loopC (α := Nat) (fun x => ⟨16, A2 0 (Az l) (A2 3 (A3 (x : Nat)) (fun _ => .any)), Hp, [], [], none⟩) (fun x => x ≤ l.length ∧ ∀ (j : Nat) (v : Expr), j < x → l[j]? = some v → (!Aa v) = false) (fun x => l.length - x) (0) ⟨Nat.zero_le _, fun j v h => by omega⟩ (StLe.of_eq (by simp)) rfl (fun x hx => ?_)
 refine Z83 ?_;refine R.fin [0, 3, 7] ?_
 refine W.cond (fun ht7 => ?_) (fun ht7 => ?_)
 ·have hlt : x < l.length := by simpa using ht7
  have hlen := h.len
  refine Jc ?_;refine cz ?_;refine R.call Tryz.call71 (c71 61 l[x] (h.ok _ (List.getElem_mem hlt)) (by decide) (h.size _ (List.getElem_mem hlt)) _) ?_;refine R.not ?_;refine R.fin [0, 3, 15] ?_
  refine W.cond (fun ht15 => ?_) (fun ht15 => ?_)
  ·have hm : l.all Aa = false := by rw [List.all_eq_false]; exact ⟨_, List.getElem_mem hlt, by simpa using ht15⟩
   exact nb
  refine Z85 ?_;refine Fd ?_;exact K.lpN (x + 1) ⟨hlt, Aq hlt hx.2 ht15⟩ (by omega) (StCut.of_eq rfl)
 have hxe : l.length ≤ x := by simpa using ht7
 have hm : l.all Aa = true := by have := E1 hxe hx.2; rw [E4] at this; simpa using this
 exact jr

theorem Oq (k w : Int) (Hp : List AObj) : AFun Tryz.prog 125 [A3 k, A3 w] Hp (Am (Cq k w)) := by
 refine ACall.body [.tmp 4] [0, 1] Tryz.func125 Tryz.ntmps125 (fun d => ?_)
 refine Z75 ?_;refine K1 ?_;refine Z97 ?_;refine G.eql ?_;refine W7 ?_;exact Zo

theorem x5 (n : Nat) (e : Expr) (hok : okE n e) (hn : n ≤ 1048576) (c : List Col) (hc : OkCols c) (w : Int) (Hp : List AObj) : AFun Tryz.prog 162 [A5 e, A4 c, A3 w] Hp (Am (Uo e c w)) := by
 refine ACall.body [.tmp 6] [0, 1, 2] Tryz.func162 Tryz.ntmps162 (fun d => ?_)
 refine Z56 ?_;refine R.fin [1, 2, 3] ?_;refine Z86 ?_;refine Av ?_;refine R.call Tryz.call161 (um n e hok hn c hc _) ?_;refine Fc ?_;refine R.fin [2, 7, 8] ?_;refine K1 ?_;refine Z97 ?_;refine G.eql ?_;refine Wa ?_;refine G.eql ?_;refine G.pickOr ?_;refine Z25 ?_;refine Z77 ?_;exact K.fin (V.one V.tmp) ⟨by unfold Uo; rfl, rfl⟩

theorem Gq {ks : List Int} {i : Nat} (h : i < ks.length) : (ks.map A3)[i]? = some (A3 (ks.getD i 0)) := by
 rw [List.getElem?_map, List.getElem?_eq_getElem h, List.getD_eq_getElem?_getD, List.getElem?_eq_getElem h]
 rfl
theorem p4 {e : Expr} (h : Bp e = true) (h3 : (e.op == 3) = true) : e.kids.length = 1 := by
 have h3' : e.op = 3 := by simpa using h3
 have := H6 h (by rw [h3']; rfl) (by rw [h3']; rfl)
 rw [← this, h3']; rfl
theorem p5 {e : Expr} (h : Bp e = true) (h4 : (e.op == 4) = true) : e.kids.length = 1 := by
 have h4' : e.op = 4 := by simpa using h4
 have := H6 h (by rw [h4']; rfl) (by rw [h4']; rfl)
 rw [← this, h4']; rfl
theorem Sk {e : Expr} (h : Bp e = true) (h5 : (e.op == 5) = true) : e.kids.length = 2 := by
 have h5' : e.op = 5 := by simpa using h5
 have := H6 h (by rw [h5']; rfl) (by rw [h5']; rfl)
 rw [← this, h5']
 exact K8 _
theorem p6 {e : Expr} (h : Bp e = true) (h1 : (e.op == 1) = false) (h2 : (e.op == 2) = false) (h3 : (e.op == 3) = false) (h4 : (e.op == 4) = false) (h5 : (e.op == 5) = false) : e.kids.length = (A1 e.text).kids.length := by
 have := H6 h h1 h2
 rw [← this]
 unfold C0
 rw [h3, h4, h5]
 rfl
theorem l8 {a b : Bool} (h : (a && b) = true) : a = true := by cases a <;> simp_all
theorem c97 (c : List Col) (hc : OkCols c) : ∀ (n : Nat) (e : Expr), okE n e → Cm Bp e = true → ∀ Hp : List AObj, AFun Tryz.prog 97 [A5 e, A4 c] Hp (.tup [A3 (Cl c e).1, A3 (Cl c e).2]) := by
 intro n
 induction n with
 | zero => exact fun e h => h.elim
 | succ n ih =>
 intro e hok hnd Hp
 have hnd0 := hnd
 rw [Cp, Bool.and_eq_true] at hnd0
 refine ACall.body [.tmp 4, .tmp 5] [0, 1] Tryz.func97 Tryz.ntmps97 (fun d => ?_)
 refine dt ?_;refine W5 ?_;refine R.fin [1, 2, 17] ?_
 refine W.cond (fun ht17 => ?_) (fun ht17 => ?_)
 ·have hk := Uq (c := c) ht17
  refine Ba ?_;refine R.fieldAddrRo (off := 2) jU Tryz.sizeOf58 ?_;refine Z9 ?_;refine Z65 ?_;refine K.thR ?_;exact jz
 refine Z4 ?_;refine W5 ?_;refine R.fin [1, 2, 23] ?_
 refine W.cond (fun ht23 => ?_) (fun ht23 => ?_)
 ·have hk := Qz (c := c) ht17 ht23
  refine Z0 ?_;refine Z24 ?_;refine R.call Tryz.call50 (c50 c hc e.text _) ?_;refine Ar ?_;refine R.fin [1, 6] ?_;refine ab ?_;refine R.fin [1, 6, 29] ?_
  refine W.cond (fun ht29 => ?_) (fun ht29 => ?_)
  ·have hk2 : Mf c e.text = (0, 9) := if_pos (by simpa using ht29)
   refine Id ?_;exact rc
  have hneg : ¬ (Af e.text c < 0) := by simpa using ht29
  obtain ⟨j, hj, hjl⟩ := D6 hneg
  have hk2 : Mf c e.text = (c[j].kind, 0) := by
   unfold Mf
   rw [if_neg hneg, hj, Int.toNat_natCast, List.getD_eq_getElem?_getD, List.getElem?_eq_getElem hjl]
   rfl
  rw [hj]
  refine Tt ?_;refine R.indexAddr (j) (B3 c[j]) jU jS (A9 hjl) ?_;refine Z87 ?_;refine Z65 ?_;exact rc
 refine Hz ?_;refine Z74 ?_;refine R.fin [1, 2, 7] ?_;refine Z52 ?_;refine R.fin [1, 2, 7, 8] ?_
 refine AW.loopC (α := Nat) (fun x => ⟨237, A2 1 (A4 c) (A2 2 (.ro (Cx e)) (A2 7 (.slice true 1 (((e.kids.take x).map fun y => (Cl c y).1).map A3)) (A2 8 (A3 (x : Nat)) (fun _ => .any)))), Hp, [], [], none⟩) (fun x => x ≤ e.kids.length ∧ ∀ (j : Nat) (y : Expr), j < x → e.kids[j]? = some y → ((Cl c y).2 != 0) = false) (fun x => e.kids.length - x) (0) ⟨Nat.zero_le _, fun j y h => by omega⟩ (StLe.of_eq (by simp)) rfl (fun x hx => ?_)
 refine Wd ?_;refine R.fin [1, 2, 7, 8, 40] ?_
 refine W.cond (fun ht40 => ?_) (fun ht40 => ?_)
 ·have hlt : x < e.kids.length := by simpa using ht40
  have hkl := hok.2.1
  refine Tn ?_;refine ae ?_;refine Av ?_;refine R.call Tryz.call97 (ih e.kids[x] (hok.2.2 _ (List.getElem_mem hlt)) ((Cg _ _).1 hnd0.2 _ (List.getElem_mem hlt)) _) ?_;refine Fc ?_;refine R.fin [1, 2, 7, 8, 9, 10] ?_;refine Gs ?_;refine R.fin [1, 2, 7, 8, 9, 10, 54] ?_
  refine W.cond (fun ht54 => ?_) (fun ht54 => ?_)
  ·have hkb := Ur (c := c) ht17 ht23 hlt hx.2 ht54
   refine Z0 ?_;refine Z65 ?_;refine K.thR ?_;exact rk
  refine We ?_;refine jb ?_
  refine R.append jU Tryz.type3 ?_ ?_ ?_
  ·simp only [List.length_map, List.length_take, List.length_cons, List.length_nil, Tryz.t3]; omega
  ·simp only [List.length_map, List.length_take, List.length_cons, List.length_nil, Tryz.t3]; omega
  refine Fq ?_;refine R.fin [1, 2, 7, 8] ?_;refine Z90 ?_;refine R.fin [1, 2, 7, 8] ?_
  refine K.lpN (x + 1) ⟨hlt, Aq hlt hx.2 ht54⟩ (by omega) (StCut.of_eq ?_)
  simp only [show Tryz.t3.size = 1 from rfl, R0]
  rfl
 have hxe : e.kids.take x = e.kids := List.take_of_length_le (by simp at ht40; omega)
 have hka := Us (c := c) ht17 ht23 (fun j y hj hy => hx.2 j y (by have := hx.1; simp at ht40; omega) hy)
 have hrf := l3 hnd0.1 ht17 ht23 (ks := e.kids.map fun y => (Cl c y).1) (by simp)
 have hks : (e.kids.map fun y => (Cl c y).1).length = e.kids.length := by simp
 rw [hxe]
 generalize (e.kids.map fun y => (Cl c y).1) = ks at *
 refine Z47 ?_;refine Z48 ?_;refine R.fin [2, 7, 12] ?_;refine J9 ?_;refine Z9 ?_;refine Z22 ?_;refine R.fin [2, 7, 12, 94] ?_
 refine W.cond (fun ht94 => ?_) (fun ht94 => ?_)
 ·have hl := p4 hnd0.1 ht94
  refine Z7 ?_;refine nq ?_;refine Tr ?_
  refine W.cond (fun ht235 => ?_) (fun ht235 => ?_)
  ·refine Id ?_
   have hq := ht235
   try simp only [Bool.not_eq_true', Bool.not_eq_false'] at hq
   try simp only [ht92, Bool.true_or, Bool.false_or, Bool.true_and] at hq
   first | exact absurd ht235 (by decide) | exact K.fin (V.two V.tmp V.tmp) ⟨by rw [hka, ← hrf]; unfold C5 C8; simp only [ht17, ht23, ht40, ht94, ht235, hq, Bool.false_and, Bool.true_and, Bool.true_or, Bool.false_or, if_true, if_false, Bool.false_eq_true, ↓reduceIte] <;> rfl, rfl⟩
  refine Mv ?_
  have hq := ht235
  try simp only [Bool.not_eq_true', Bool.not_eq_false'] at hq
  try simp only [ht92, Bool.true_or, Bool.false_or, Bool.true_and] at hq
  first | exact absurd ht235 (by decide) | exact K.fin (V.two V.tmp V.tmp) ⟨by rw [hka, ← hrf]; unfold C5 C8; simp only [ht17, ht23, ht40, ht94, ht235, hq, Bool.false_and, Bool.true_and, Bool.true_or, Bool.false_or, if_true, if_false, Bool.false_eq_true, ↓reduceIte] <;> rfl, rfl⟩
 refine Nr ?_;refine Z22 ?_;refine R.fin [2, 7, 12, 102] ?_
 refine W.cond (fun ht102 => ?_) (fun ht102 => ?_)
 ·have hl := p5 hnd0.1 ht102
  refine Z7 ?_;refine Z63 ?_;refine R.call Tryz.call125 (Oq (ks.getD 0 0) 3 _) ?_;refine Tr ?_
  refine W.cond (fun ht235 => ?_) (fun ht235 => ?_)
  ·refine Id ?_
   have hq := ht235
   try simp only [Bool.not_eq_true', Bool.not_eq_false'] at hq
   try simp only [ht92, Bool.true_or, Bool.false_or, Bool.true_and] at hq
   first | exact absurd ht235 (by decide) | exact K.fin (V.two V.tmp V.tmp) ⟨by rw [hka, ← hrf]; unfold C5 C8; simp only [ht17, ht23, ht40, ht94, ht102, ht235, hq, Bool.false_and, Bool.true_and, Bool.true_or, Bool.false_or, if_true, if_false, Bool.false_eq_true, ↓reduceIte] <;> rfl, rfl⟩
  refine Mv ?_
  have hq := ht235
  try simp only [Bool.not_eq_true', Bool.not_eq_false'] at hq
  try simp only [ht92, Bool.true_or, Bool.false_or, Bool.true_and] at hq
  first | exact absurd ht235 (by decide) | exact K.fin (V.two V.tmp V.tmp) ⟨by rw [hka, ← hrf]; unfold C5 C8; simp only [ht17, ht23, ht40, ht94, ht102, ht235, hq, Bool.false_and, Bool.true_and, Bool.true_or, Bool.false_or, if_true, if_false, Bool.false_eq_true, ↓reduceIte] <;> rfl, rfl⟩
 refine Nr ?_;refine Mt ?_;refine Lf ?_;refine G.move ?_;refine Lf ?_;refine G.pickOr ?_;refine Z25 ?_;refine R.fin [2, 7, 12, 110] ?_
 refine W.cond (fun ht110 => ?_) (fun ht110 => ?_)
 ·have hl := Sk hnd0.1 (l8 ht110)
  refine Z7 ?_;refine Z63 ?_;refine R.call Tryz.call125 (Oq (ks.getD 0 0) 3 _) ?_;refine Z14 ?_;refine ir ?_;refine G.call Tryz.call125 (fun hB => Oq (ks.getD 1 0) 3 _) ?_;refine Hf ?_;refine Tr ?_
  refine W.cond (fun ht235 => ?_) (fun ht235 => ?_)
  ·refine Id ?_
   have hq := ht235
   try simp only [Bool.not_eq_true', Bool.not_eq_false'] at hq
   try simp only [ht92, Bool.true_or, Bool.false_or, Bool.true_and] at hq
   first | exact absurd ht235 (by decide) | exact K.fin (V.two V.tmp V.tmp) ⟨by rw [hka, ← hrf]; unfold C5 C8; simp only [ht17, ht23, ht40, ht94, ht102, ht110, ht235, hq, Bool.false_and, Bool.true_and, Bool.true_or, Bool.false_or, if_true, if_false, Bool.false_eq_true, ↓reduceIte] <;> rfl, rfl⟩
  refine Mv ?_
  have hq := ht235
  try simp only [Bool.not_eq_true', Bool.not_eq_false'] at hq
  try simp only [ht92, Bool.true_or, Bool.false_or, Bool.true_and] at hq
  first | exact absurd ht235 (by decide) | exact K.fin (V.two V.tmp V.tmp) ⟨by rw [hka, ← hrf]; unfold C5 C8; simp only [ht17, ht23, ht40, ht94, ht102, ht110, ht235, hq, Bool.false_and, Bool.true_and, Bool.true_or, Bool.false_or, if_true, if_false, Bool.false_eq_true, ↓reduceIte] <;> rfl, rfl⟩
 refine Nr ?_;refine Mt ?_;refine Z26 ?_;refine G.call Tryz.call76 (fun hB => c76 e.text _) ?_;refine Z82 ?_;refine R.fin [2, 7, 12, 134] ?_
 refine W.cond (fun ht134 => ?_) (fun ht134 => ?_)
 ·have hl := Sk hnd0.1 (l8 ht134)
  refine W.draw0 [0, 1, 3, 7, 15, 31, 63, 127, 31, 287, 799, 2047, 4095, 4095, 16383] 14 Ah (by kernel_rfl) ?_;refine D.move ?_;refine D.indexAddr (0) (A3 (ks.getD 0 0)) jU jS (Gq (by omega)) ?_;refine H1 ?_;refine D.eql ?_;refine D.move ?_;refine H.move ?_;refine H.indexAddr (1) (A3 (ks.getD 1 0)) jU jS (fun _ => Gq (by omega)) ?_;refine Hg ?_;refine H.move ?_;refine H.indexAddr (0) (A3 (ks.getD 0 0)) jU jS (fun _ => Gq (by omega)) ?_;refine Hg ?_;refine H.call Tryz.call125 (fun hB => Oq (ks.getD 1 0) (ks.getD 0 0) _) ?_;refine D.pickOr ?_;refine Zx ?_;refine j5 ?_
  refine W.cond (fun ht235 => ?_) (fun ht235 => ?_)
  ·refine Id ?_
   have hq := ht235
   try simp only [Bool.not_eq_true', Bool.not_eq_false'] at hq
   try simp only [ht92, Bool.true_or, Bool.false_or, Bool.true_and] at hq
   first | exact absurd ht235 (by decide) | exact K.fin (V.two V.tmp V.tmp) ⟨by rw [hka, ← hrf]; unfold C5 C8; simp only [ht17, ht23, ht40, ht94, ht102, ht110, ht134, ht235, hq, Bool.false_and, Bool.true_and, Bool.true_or, Bool.false_or, if_true, if_false, Bool.false_eq_true, ↓reduceIte] <;> rfl, rfl⟩
  refine Mv ?_
  have hq := ht235
  try simp only [Bool.not_eq_true', Bool.not_eq_false'] at hq
  try simp only [ht92, Bool.true_or, Bool.false_or, Bool.true_and] at hq
  first | exact absurd ht235 (by decide) | exact K.fin (V.two V.tmp V.tmp) ⟨by rw [hka, ← hrf]; unfold C5 C8; simp only [ht17, ht23, ht40, ht94, ht102, ht110, ht134, ht235, hq, Bool.false_and, Bool.true_and, Bool.true_or, Bool.false_or, if_true, if_false, Bool.false_eq_true, ↓reduceIte] <;> rfl, rfl⟩
 refine Nr ?_;refine Mt ?_;refine Lf ?_;refine Z25 ?_;refine R.fin [2, 7, 12, 157] ?_
 refine W.cond (fun ht157 => ?_) (fun ht157 => ?_)
 ·have hl := Sk hnd0.1 (l8 ht157)
  refine Z7 ?_;refine nr ?_;refine Z14 ?_;refine ir ?_;refine G.call Tryz.call125 (fun hB => Oq (ks.getD 1 0) 2 _) ?_;refine Hf ?_;refine Tr ?_
  refine W.cond (fun ht235 => ?_) (fun ht235 => ?_)
  ·refine Id ?_
   have hq := ht235
   try simp only [Bool.not_eq_true', Bool.not_eq_false'] at hq
   try simp only [ht92, Bool.true_or, Bool.false_or, Bool.true_and] at hq
   first | exact absurd ht235 (by decide) | exact K.fin (V.two V.tmp V.tmp) ⟨by rw [hka, ← hrf]; unfold C5 C8; simp only [ht17, ht23, ht40, ht94, ht102, ht110, ht134, ht157, ht235, hq, Bool.false_and, Bool.true_and, Bool.true_or, Bool.false_or, if_true, if_false, Bool.false_eq_true, ↓reduceIte] <;> rfl, rfl⟩
  refine Mv ?_
  have hq := ht235
  try simp only [Bool.not_eq_true', Bool.not_eq_false'] at hq
  try simp only [ht92, Bool.true_or, Bool.false_or, Bool.true_and] at hq
  first | exact absurd ht235 (by decide) | exact K.fin (V.two V.tmp V.tmp) ⟨by rw [hka, ← hrf]; unfold C5 C8; simp only [ht17, ht23, ht40, ht94, ht102, ht110, ht134, ht157, ht235, hq, Bool.false_and, Bool.true_and, Bool.true_or, Bool.false_or, if_true, if_false, Bool.false_eq_true, ↓reduceIte] <;> rfl, rfl⟩
 refine Nr ?_;refine Z22 ?_;refine R.fin [2, 7, 12, 176] ?_
 refine W.cond (fun ht176 => ?_) (fun ht176 => ?_)
 ·have hl := Sk hnd0.1 ht176
  rw [ht176, Bool.true_and] at ht110 ht134 ht157
  refine Z7 ?_;refine nq ?_;refine Z14 ?_;refine ir ?_;refine G.call Tryz.call125 (fun hB => Oq (ks.getD 1 0) 1 _) ?_;refine Hf ?_;refine Tr ?_
  refine W.cond (fun ht235 => ?_) (fun ht235 => ?_)
  ·refine Id ?_
   have hq := ht235
   try simp only [Bool.not_eq_true', Bool.not_eq_false'] at hq
   try simp only [ht92, Bool.true_or, Bool.false_or, Bool.true_and] at hq
   first | exact absurd ht235 (by decide) | exact K.fin (V.two V.tmp V.tmp) ⟨by rw [hka, ← hrf]; unfold C5 C8; simp only [ht17, ht23, ht40, ht94, ht102, ht110, ht134, ht157, ht176, ht235, hq, Bool.false_and, Bool.true_and, Bool.true_or, Bool.false_or, if_true, if_false, Bool.false_eq_true, ↓reduceIte] <;> rfl, rfl⟩
  refine Mv ?_
  have hq := ht235
  try simp only [Bool.not_eq_true', Bool.not_eq_false'] at hq
  try simp only [ht92, Bool.true_or, Bool.false_or, Bool.true_and] at hq
  first | exact absurd ht235 (by decide) | exact K.fin (V.two V.tmp V.tmp) ⟨by rw [hka, ← hrf]; unfold C5 C8; simp only [ht17, ht23, ht40, ht94, ht102, ht110, ht134, ht157, ht176, ht235, hq, Bool.false_and, Bool.true_and, Bool.true_or, Bool.false_or, if_true, if_false, Bool.false_eq_true, ↓reduceIte] <;> rfl, rfl⟩
 have hl0 := p6 hnd0.1 ht17 ht23 ht94 ht102 ht176
 unfold A1 at hl0
 refine Jy ?_;refine R.seql ?_;refine Av ?_;refine Lf ?_;refine W7 ?_;refine R.fin [2, 7, 12, 190] ?_
 refine W.cond (fun ht190 => ?_) (fun ht190 => ?_)
 ·have hl : e.kids.length = 1 := by rw [hl0, if_pos ht190]; rfl
  refine Z7 ?_;refine nr ?_;refine Tr ?_
  refine W.cond (fun ht235 => ?_) (fun ht235 => ?_)
  ·refine Id ?_
   have hq := ht235
   try simp only [Bool.not_eq_true', Bool.not_eq_false'] at hq
   try simp only [ht92, Bool.true_or, Bool.false_or, Bool.true_and] at hq
   first | exact absurd ht235 (by decide) | exact K.fin (V.two V.tmp V.tmp) ⟨by rw [hka, ← hrf]; unfold C5 C8; simp only [ht17, ht23, ht40, ht94, ht102, ht110, ht134, ht157, ht176, ht190, ht235, hq, Bool.false_and, Bool.true_and, Bool.true_or, Bool.false_or, if_true, if_false, Bool.false_eq_true, ↓reduceIte] <;> rfl, rfl⟩
  refine Mv ?_
  have hq := ht235
  try simp only [Bool.not_eq_true', Bool.not_eq_false'] at hq
  try simp only [ht92, Bool.true_or, Bool.false_or, Bool.true_and] at hq
  first | exact absurd ht235 (by decide) | exact K.fin (V.two V.tmp V.tmp) ⟨by rw [hka, ← hrf]; unfold C5 C8; simp only [ht17, ht23, ht40, ht94, ht102, ht110, ht134, ht157, ht176, ht190, ht235, hq, Bool.false_and, Bool.true_and, Bool.true_or, Bool.false_or, if_true, if_false, Bool.false_eq_true, ↓reduceIte] <;> rfl, rfl⟩
 rw [if_neg (by rw [ht190]; simp)] at hl0
 refine Jy ?_;refine Z11 ?_;refine R.fin [2, 7, 12, 203] ?_
 refine W.cond (fun ht203 => ?_) (fun ht203 => ?_)
 ·have hl : e.kids.length = 1 := by rw [hl0, if_pos ht203]; rfl
  refine Z7 ?_;refine nq ?_;refine Tr ?_
  refine W.cond (fun ht235 => ?_) (fun ht235 => ?_)
  ·refine Id ?_
   have hq := ht235
   try simp only [Bool.not_eq_true', Bool.not_eq_false'] at hq
   try simp only [ht92, Bool.true_or, Bool.false_or, Bool.true_and] at hq
   first | exact absurd ht235 (by decide) | exact K.fin (V.two V.tmp V.tmp) ⟨by rw [hka, ← hrf]; unfold C5 C8; simp only [ht17, ht23, ht40, ht94, ht102, ht110, ht134, ht157, ht176, ht190, ht203, ht235, hq, Bool.false_and, Bool.true_and, Bool.true_or, Bool.false_or, if_true, if_false, Bool.false_eq_true, ↓reduceIte] <;> rfl, rfl⟩
  refine Mv ?_
  have hq := ht235
  try simp only [Bool.not_eq_true', Bool.not_eq_false'] at hq
  try simp only [ht92, Bool.true_or, Bool.false_or, Bool.true_and] at hq
  first | exact absurd ht235 (by decide) | exact K.fin (V.two V.tmp V.tmp) ⟨by rw [hka, ← hrf]; unfold C5 C8; simp only [ht17, ht23, ht40, ht94, ht102, ht110, ht134, ht157, ht176, ht190, ht203, ht235, hq, Bool.false_and, Bool.true_and, Bool.true_or, Bool.false_or, if_true, if_false, Bool.false_eq_true, ↓reduceIte] <;> rfl, rfl⟩
 rw [if_neg (by rw [ht203]; simp)] at hl0
 refine Jy ?_;refine R.seql ?_;refine Av ?_;refine Lf ?_;refine W7 ?_;refine R.fin [2, 7, 12, 211] ?_
 refine W.cond (fun ht211 => ?_) (fun ht211 => ?_)
 ·have hl : e.kids.length = 2 := by rw [hl0, if_pos ht211]; rfl
  refine Z7 ?_;refine nr ?_;refine Z14 ?_;refine ir ?_;refine G.call Tryz.call125 (fun hB => Oq (ks.getD 1 0) 1 _) ?_;refine Hf ?_;refine Tr ?_
  refine W.cond (fun ht235 => ?_) (fun ht235 => ?_)
  ·refine Id ?_
   have hq := ht235
   try simp only [Bool.not_eq_true', Bool.not_eq_false'] at hq
   try simp only [ht92, Bool.true_or, Bool.false_or, Bool.true_and] at hq
   first | exact absurd ht235 (by decide) | exact K.fin (V.two V.tmp V.tmp) ⟨by rw [hka, ← hrf]; unfold C5 C8; simp only [ht17, ht23, ht40, ht94, ht102, ht110, ht134, ht157, ht176, ht190, ht203, ht211, ht235, hq, Bool.false_and, Bool.true_and, Bool.true_or, Bool.false_or, if_true, if_false, Bool.false_eq_true, ↓reduceIte] <;> rfl, rfl⟩
  refine Mv ?_
  have hq := ht235
  try simp only [Bool.not_eq_true', Bool.not_eq_false'] at hq
  try simp only [ht92, Bool.true_or, Bool.false_or, Bool.true_and] at hq
  first | exact absurd ht235 (by decide) | exact K.fin (V.two V.tmp V.tmp) ⟨by rw [hka, ← hrf]; unfold C5 C8; simp only [ht17, ht23, ht40, ht94, ht102, ht110, ht134, ht157, ht176, ht190, ht203, ht211, ht235, hq, Bool.false_and, Bool.true_and, Bool.true_or, Bool.false_or, if_true, if_false, Bool.false_eq_true, ↓reduceIte] <;> rfl, rfl⟩
 rw [if_neg (by rw [ht211]; simp)] at hl0
 refine Jy ?_;refine Z11 ?_;refine R.fin [2, 7, 12, 230] ?_
 refine W.cond (fun ht230 => ?_) (fun ht230 => ?_)
 ·have hl : e.kids.length = 1 := by rw [hl0, if_pos ht230]; rfl
  refine di ?_;refine j5 ?_
  refine W.cond (fun ht235 => ?_) (fun ht235 => ?_)
  ·refine Id ?_
   have hq := ht235
   try simp only [Bool.not_eq_true', Bool.not_eq_false'] at hq
   try simp only [ht92, Bool.true_or, Bool.false_or, Bool.true_and] at hq
   first | exact absurd ht235 (by decide) | exact K.fin (V.two V.tmp V.tmp) ⟨by rw [hka, ← hrf]; unfold C5 C8; simp only [ht17, ht23, ht40, ht94, ht102, ht110, ht134, ht157, ht176, ht190, ht203, ht211, ht230, ht235, hq, Bool.false_and, Bool.true_and, Bool.true_or, Bool.false_or, if_true, if_false, Bool.false_eq_true, ↓reduceIte] <;> rfl, rfl⟩
  refine Mv ?_
  have hq := ht235
  try simp only [Bool.not_eq_true', Bool.not_eq_false'] at hq
  try simp only [ht92, Bool.true_or, Bool.false_or, Bool.true_and] at hq
  first | exact absurd ht235 (by decide) | exact K.fin (V.two V.tmp V.tmp) ⟨by rw [hka, ← hrf]; unfold C5 C8; simp only [ht17, ht23, ht40, ht94, ht102, ht110, ht134, ht157, ht176, ht190, ht203, ht211, ht230, ht235, hq, Bool.false_and, Bool.true_and, Bool.true_or, Bool.false_or, if_true, if_false, Bool.false_eq_true, ↓reduceIte] <;> rfl, rfl⟩
 rw [if_neg (by rw [ht230]; simp)] at hl0
 have hl : 2 ≤ e.kids.length := by rw [hl0]; split <;> simp
 have hl3 := hok.2.1
 refine W.draw [0, 0, 2, 6, 15, 31, 0, 0, 128, 384, 960, 1984, 63, 8191] 13 Ah (by kernel_rfl) ?_;refine Z54 ?_;refine D.len jU ?_
 rw [List.length_map]
 refine D.sub64 ?_;refine D.indexAddr ((ks.length - 2)) (A3 (ks.getD (ks.length - 2) 0)) jU jS (Gq (by omega)) ?_;refine dv ?_;refine D.len jU ?_
 rw [List.length_map]
 refine D.sub64 ?_;refine D.indexAddr ((ks.length - 1)) (A3 (ks.getD (ks.length - 1) 0)) jU jS (Gq (by omega)) ?_;refine H1 ?_;refine Zx ?_;refine R.fin [2, 7, 13, 14] ?_;refine K1 ?_;refine Z97 ?_;refine G.call Tryz.call125 (fun hB => Oq (ks.getD (ks.length - 1) 0) (ks.getD (ks.length - 2) 0) _) ?_;refine Zw ?_;refine Lf ?_;refine Wa ?_;refine G.indexAddr (0) (A3 (ks.getD 0 0)) jU jS (fun _ => Gq (by omega)) ?_;refine K3 ?_;refine G.call Tryz.call125 (fun hB => Oq (ks.getD 0 0) 3 _) ?_;refine G.pickOr ?_;refine Z25 ?_;refine R.fin [12, 13, 14] ?_;refine Z40 ?_;refine R.fin [11, 12, 13, 14] ?_;refine K1 ?_;refine R.fin [11, 12, 14, 92] ?_
 refine W.cond (fun ht92 => ?_) (fun ht92 => ?_)
 ·refine Z7 ?_;refine Ar ?_;refine j5 ?_
  refine W.cond (fun ht235 => ?_) (fun ht235 => ?_)
  ·refine Id ?_
   have hq := ht235
   try simp only [Bool.not_eq_true', Bool.not_eq_false'] at hq
   try simp only [ht92, Bool.true_or, Bool.false_or, Bool.true_and] at hq
   first | exact absurd ht235 (by decide) | exact K.fin (V.two V.tmp V.tmp) ⟨by rw [hka, ← hrf]; unfold C5 C8; simp only [ht17, ht23, ht40, ht94, ht102, ht110, ht134, ht157, ht176, ht190, ht203, ht211, ht230, ht92, ht235, hq, Bool.false_and, Bool.true_and, Bool.true_or, Bool.false_or, if_true, if_false, Bool.false_eq_true, ↓reduceIte] <;> rfl, rfl⟩
  refine Mv ?_
  have hq := ht235
  try simp only [Bool.not_eq_true', Bool.not_eq_false'] at hq
  try simp only [ht92, Bool.true_or, Bool.false_or, Bool.true_and] at hq
  first | exact absurd ht235 (by decide) | exact K.fin (V.two V.tmp V.tmp) ⟨by rw [hka, ← hrf]; unfold C5 C8; simp only [ht17, ht23, ht40, ht94, ht102, ht110, ht134, ht157, ht176, ht190, ht203, ht211, ht230, ht92, ht235, hq, Bool.false_and, Bool.true_and, Bool.true_or, Bool.false_or, if_true, if_false, Bool.false_eq_true, ↓reduceIte] <;> rfl, rfl⟩
 refine Z18 ?_;refine qb ?_
 refine W.cond (fun ht235 => ?_) (fun ht235 => ?_)
 ·refine Id ?_
  have hq := ht235
  try simp only [Bool.not_eq_true', Bool.not_eq_false'] at hq
  try simp only [ht92, Bool.true_or, Bool.false_or, Bool.true_and] at hq
  first | exact absurd ht235 (by decide) | exact K.fin (V.two V.tmp V.tmp) ⟨by rw [hka, ← hrf]; unfold C5 C8; simp only [ht17, ht23, ht40, ht94, ht102, ht110, ht134, ht157, ht176, ht190, ht203, ht211, ht230, ht92, ht235, hq, Bool.false_and, Bool.true_and, Bool.true_or, Bool.false_or, if_true, if_false, Bool.false_eq_true, ↓reduceIte] <;> rfl, rfl⟩
 refine Mv ?_
 have hq := ht235
 try simp only [Bool.not_eq_true', Bool.not_eq_false'] at hq
 try simp only [ht92, Bool.true_or, Bool.false_or, Bool.true_and] at hq
 first | exact absurd ht235 (by decide) | exact K.fin (V.two V.tmp V.tmp) ⟨by rw [hka, ← hrf]; unfold C5 C8; simp only [ht17, ht23, ht40, ht94, ht102, ht110, ht134, ht157, ht176, ht190, ht203, ht211, ht230, ht92, ht235, hq, Bool.false_and, Bool.true_and, Bool.true_or, Bool.false_or, if_true, if_false, Bool.false_eq_true, ↓reduceIte] <;> rfl, rfl⟩

theorem c70 (n : Nat) (e : Expr) (hok : okE n e) (hn : n ≤ 1048576) (hs : sizeE e ≤ 1048576) (c : List Col) (hc : OkCols c) (Hp : List AObj) : AFun Tryz.prog 70 [A5 e, A4 c] Hp (.tup [A3 (D3 e c).1, A3 (D3 e c).2]) := by
 refine ACall.body [.tmp 4, .tmp 5] [0, 1] Tryz.func70 Tryz.ntmps70 (fun d => ?_)
 refine dt ?_;refine W6 ?_;refine R.call Tryz.call71 (c71 n e hok hn hs _) ?_;refine Py ?_;refine G.call Tryz.call45 (fun hB => c45 c hc _) ?_;refine Np ?_;refine R.fin [1, 2, 13] ?_
 refine W.cond (fun ht13 => ?_) (fun ht13 => ?_)
 ·have hk : D3 e c = (0, 1) := by unfold D3; rw [Bx, J0, if_pos ht13]
  exact rq
 have hk : D3 e c = Cl c e := by unfold D3; rw [Bx, J0, if_neg (by rw [ht13]; simp)]
 have hr : Ad e = true := by rw [Bx]; simp only [Bool.or_eq_false_iff, Bool.not_eq_false'] at ht13; exact ht13.1
 refine Z4 ?_;refine Z86 ?_;refine Av ?_;refine R.call Tryz.call97 (c97 c hc n e hok (Mg hr) _) ?_;refine Z34 ?_;exact ry

end Go.SX.Nb
namespace Go.SX
variable [GI : GlobInv]
open Classical
@[simp] theorem x6 {n o k m c : Nat} : Low n (.sl o k m c) ↔ o < n := ⟨fun h => by cases h; assumption, fun h => .sl o k m c h⟩
/-- The cells of elements, one behind the other. -/
abbrev H8 (xs : List AV) : List AV := xs.flatMap AV.cells
theorem K9 (x : AV) (r : List AV) : H8 (x :: r) = x.cells ++ H8 r := by simp [H8]
theorem Lu {k : Nat} : ∀ {xs : List AV}, (∀ x ∈ xs, x.cells.length = k) → (H8 xs).length = xs.length * k
 | [], _ => by simp
 | x :: r, h => by
  rw [K9, List.length_append, h x List.mem_cons_self, Lu (fun y hy => h y (List.mem_cons_of_mem _ hy)), List.length_cons, Nat.add_mul]
  omega
theorem Lv {k : Nat} : ∀ {xs : List AV}, (∀ x ∈ xs, x.cells.length = k) → ∀ {i j : Nat} {x y : AV}, xs[i]? = some x → x.cells[j]? = some y → (H8 xs)[i * k + j]? = some y
 | [], _, i, j, x, y, h, _ => by simp at h
 | a :: r, hk, 0, j, x, y, h, h2 => by
  simp at h
  subst h
  rw [K9, Nat.zero_mul, Nat.zero_add, List.getElem?_append_left (List.getElem?_eq_some_iff.1 h2).1]
  exact h2
 | a :: r, hk, i + 1, j, x, y, h, h2 => by
  rw [List.getElem?_cons_succ] at h
  have ha := hk a List.mem_cons_self
  have hh := Lv (fun y hy => hk y (List.mem_cons_of_mem _ hy)) h h2
  rw [K9, List.getElem?_append_right (by rw [ha, Nat.add_mul]; omega), ha]
  rw [show (i + 1) * k + j - k = i * k + j by rw [Nat.add_mul]; omega]
  exact hh
section
variable {P : Program} {d : Nat} {st : St} {dst : Option Tmp} {ty : TypeId} {pos : String} {aft : Array Edge} {gd : Option (Nat × Bool)}
/-- The address of an element. -/
theorem OpV.indexAddrSl {t e : TypeId} {x i : Operand} {o k n c m : Nat} {q : IntKind} (hu : P.underlying t = some (.slice e)) (hsz : ∀ w, (sizeOf e).run P w = .ok k w) (hm : m < n)
  (hx : st.ev x = .sl o k n c) (hi : st.ev i = .v (.int q (m : Int))) : OpV P d ⟨dst, .indexAddr t x i, ty, pos, aft, gd⟩ st (.ptr o (m * k)) :=
 OpV.pure (by intro c h; cases h) fun G a w h => by
  have hr := hx ▸ h.eval x
  have hi' := C4 h hi
  generalize hv : a.eval x = u at hr
  cases hr with
  | sl l o k n c ho =>
   have hlt' : (m : Int) < n := by omega
   refine ⟨.pointer (some ((⟨G.blk o, 0, none⟩ : Addr).add (m * k))), by simp [execOp, Instr.indexAt, asIntOf, hi', hv, run_underlying hu, hm, hlt', hsz], ?_⟩
   rw [Bd rfl, Nat.zero_add]
   exact .ptr _ o _ ho
/-- An empty slice, over an object of its own. -/
theorem AOp.buildObj0 {t e : TypeId} {k s n : Nat} (hu : P.underlying t = some (.slice e)) (hsz : ∀ w, (sizeOf e).run P w = .ok k w) (hn : st.own.length = n) (hs : s < st.sz) :
  AOp P d ⟨some s, .buildSlice t 0 #[], ty, pos, aft, gd⟩ st (· = ({ st with own := st.own ++ [.cells e []] } : St).set s (.sl (st.up.length + n) k 0 0)) := by
 intro G a w h Q'
 obtain ⟨G', h1, T, hb, hlt⟩ := Is h e [] #[] rfl (fun j y u h1 _ => by simp at h1)
 have hlen : (st.up ++ st.own).length = st.up.length + n := by rw [List.length_append, hn]
 rw [hlen] at hb hlt
 have hrun : (execOp a.eval (⟨some s, .buildSlice t 0 #[], ty, pos, aft, gd⟩ : Oper)).run P w = .ok (.value (.slice (some ⟨w.heap.size, 0, none⟩) 0 0)) (w.alloc (.cells #[] e)) := by
  have hfl : ∀ f : Nat → Option (Nat × Nat), Instr.fill f ((Array.range 0).map fun _ => (default : Value)) [] = some #[] := fun f => by simp [Instr.fill]
  simp [execOp, Instr.buildSlice, run_underlying hu, hsz, newRow, hfl]
 refine Br (by intro c h; cases h) hrun ⟨G', _, h1.put (s := s) (y := .sl (st.up.length + n) k 0 0) hs ?_, T.keep d, rfl, rfl, rfl, rfl⟩
 rw [← hb]
 exact .sl _ _ _ _ _ hlt
/-- What is appended to an empty slice lies in a new object of ours; of its spare cells nothing is known. -/
theorem AOp.appendObj {t e : TypeId} {i : TypeInfo} {z : Value} {k by' s o n : Nat} {xr x : Operand} {o2 : Bool} {ys : List AV}
  (hu : P.underlying t = some (.slice e)) (hi : P.info? e = some i) (hz : i.zero = some z) (hsz : i.size = k) (hby : i.bytes = by') (hzk : z.cells.size = k) (hk : 0 < k)
  (hb : st.ev xr = .sl o k 0 0) (hx : I6 (st.ev x) o2 k ys) (hne : ys ≠ []) (hn : st.own.length = n) (hs : s < st.sz) (hl : ys.length * by' ≤ 140737488355328) (hl2 : ys.length ≤ 4611686018427387904) :
  AOp P d ⟨some s, .call ⟨.builtin .append, #[xr, x], #[t, t]⟩, ty, pos, aft, gd⟩ st (fun st' => ∃ c, ys.length ≤ c ∧ st' = ({ st with own := st.own ++ [.cells e (H8 ys ++ List.replicate ((c - ys.length) * k) .any)] } : St).set s (.sl (st.up.length + n) k ys.length c)) := by
 subst hsz
 subst hby
 intro G a w h Q'
 have hrb := hb ▸ h.eval xr
 have hrx := h.eval x
 have hm : ys.length ≠ 0 := fun e => hne (List.eq_nil_of_length_eq_zero e)
 generalize hvb : a.eval xr = vb at hrb
 cases hrb with
 | sl l o k n' c ho =>
  rcases Dn hx hrx with ⟨_, e0⟩ | ⟨ad2, c2, f2, hvx, hc2, F2, _⟩
  ·exact absurd e0 hne
  have hge := Ej w (0 + ys.length) 0 e
  have hv := run_append_grow (P := P) w t ty e i z hu hi hz ⟨G.blk o, 0, none⟩ 0 0 [] (by simp) (by simp) ad2 ys.length c2 (B8 i.size ys.length f2) (Ag _ _ _) (F2.vals hk) (by omega) (by omega) (growslice_fits (by omega) (by rw [Nat.zero_add]; exact hl))
  rw [Nat.zero_add] at hv hge
  let c' := grownCap w ys.length 0 e
  have hfl : (H8 ys).length = ys.length * i.size := Lu F2.k
  have hd' : StRel d G st a w.drew := h.drew (w.drawn + 1)
  obtain ⟨G', h1, T, hbk, hlt⟩ := Is hd' e (H8 ys ++ List.replicate ((c' - ys.length) * i.size) .any) (([] : List Value).toArray ++ (B8 i.size ys.length f2).toArray ++ Builtin.zeroCells z.cells (c' - ys.length)) (by
    simp only [Array.size_append, List.size_toArray, Ag, Value.oneSize _ hzk, List.length_append, List.length_replicate, hfl, List.length_nil]
    omega) (fun j y u hy hu' => by
    by_cases hj : j < ys.length * i.size
    ·rw [List.getElem?_append_left (by rw [hfl]; exact hj)] at hy
     have hq : j / i.size < ys.length := by rw [Nat.div_lt_iff_lt_mul hk]; exact hj
     have hjm : j % i.size < i.size := Nat.mod_lt _ hk
     have hx0 : ys[j / i.size]? = some (ys[j / i.size]) := List.getElem?_eq_getElem hq
     have hcl := F2.k _ (List.getElem_mem hq)
     have hy0 : (ys[j / i.size]).cells[j % i.size]? = some ((ys[j / i.size]).cells[j % i.size]'(by omega)) := List.getElem?_eq_getElem _
     have e1 : j / i.size * i.size + j % i.size = j := by have := Nat.div_add_mod j i.size; rw [Nat.mul_comm] at this; exact this
     have hfg := Lv F2.k hx0 hy0
     rw [e1, hy] at hfg
     injection hfg with hfg
     have hval : (B8 i.size ys.length f2)[j]? = some (f2 (j / i.size) (j % i.size)) := Ei hj
     rw [Array.getElem?_append_left (by simp only [Array.size_append, List.size_toArray, Ag, List.length_nil]; omega)] at hu'
     have e2 : u = f2 (j / i.size) (j % i.size) := by
      have : (([] : List Value).toArray ++ (B8 i.size ys.length f2).toArray)[j]? = (B8 i.size ys.length f2)[j]? := by simp
      rw [this, hval] at hu'
      injection hu' with hu'
      exact hu'.symm
     rw [e2, hfg]
     exact (Fw G w (w.drawn + 1)).rep (F2.rep _ _ _ _ hx0 hy0)
    rw [List.getElem?_append_right (by rw [hfl]; omega)] at hy
    rw [List.getElem?_replicate] at hy
    split at hy
    ·injection hy with hy; subst hy; exact .any _ _
    cases hy)
  have hlen : (st.up ++ st.own).length = st.up.length + n := by rw [List.length_append, hn]
  rw [hlen] at hbk hlt
  have hrun : (execOp a.eval (⟨some s, .call ⟨.builtin .append, #[xr, x], #[t, t]⟩, ty, pos, aft, gd⟩ : Oper)).run P w = .ok (.value (.slice (some ⟨w.heap.size, 0, none⟩) ys.length c')) (w.drew.alloc (.cells (([] : List Value).toArray ++ (B8 i.size ys.length f2).toArray ++ Builtin.zeroCells z.cells (c' - ys.length)) e)) := by
   simp only [execOp, resolve, invoke, builtin, Sem.run_bind, Sem.run_pure, Result.andThen_ok, List.map_toArray, List.map_cons, List.map_nil, hvb, hvx, hv]
   rfl
  have K0 := (Fw G w (w.drawn + 1)).keep d
  refine Br (by intro c h; cases h) hrun ⟨G', _, h1.put (s := s) (y := .sl (st.up.length + n) i.size ys.length c') hs ?_, K0.trans (T.keep d), rfl, rfl, rfl, c', hge, rfl⟩
  have hsz' : w.drew.heap.size = w.heap.size := rfl
  rw [← hsz', ← hbk]
  exact .sl _ _ _ _ _ hlt

/-- The elements are written no more: the object goes, and the slice is one of known elements. -/
theorem StRel.freeze {G : Gh} {a : Act} {w : World} (h : StRel d G st a w) {r i k c : Nat} {t : TypeId} {cs xs : List AV} (hr : st.fr r = .sl (st.up.length + i) k xs.length c) (ho : st.own[i]? = some (.cells t cs)) (hnc : xs.length ≤ c)
  (hcs : cs.take (xs.length * k) = H8 xs) (hk : ∀ x ∈ xs, x.cells.length = k) (h1 : ∀ x ∈ xs, ∀ y ∈ x.cells, y.one = true) (hst : ∀ x ∈ xs, ∀ y ∈ x.cells, y.strip = y) :
  ∃ G', StRel d G' { st with fr := A2 r (.slice false k xs) st.fr, own := st.own.set i .gone } a w ∧ Keep d G w G' w := by
 let G' : Gh := { G with tag := fun b q => if G.tag b q = .obj (st.up.length + i) then .fix else G.tag b q }
 have hto : (st.up ++ st.own)[st.up.length + i]? = some (.cells t cs) := by rw [Bt]; exact ho
 have hol : st.up.length + i < (st.up ++ st.own).length := (List.getElem?_eq_some_iff.1 hto).1
 have htag : ∀ b q, G.tag b q ≠ .obj (st.up.length + i) → G'.tag b q = G.tag b q := fun b q hb => by simp only [G']; rw [if_neg hb]
 have htagO : ∀ b q, G.tag b q = .obj (st.up.length + i) → G'.tag b q = .fix := fun b q hb => by simp only [G']; rw [if_pos hb]
 have hfix : ∀ b q, G.tag b q = .fix → G'.tag b q = .fix := fun b q hb => by rw [htag b q (by rw [hb]; simp)]; exact hb
 have htail : ∀ b q L, G.tag b q = .tail L → G'.tag b q = .tail L := fun b q L hb => by rw [htag b q (by rw [hb]; simp)]; exact hb
 have hrep : ∀ {l : Option Loc} {y : AV} {u : Value}, Rep G w l y u → Rep G' w l y u := fun hy =>
  hy.mono (G' := G') (fun b q e => ⟨hfix b q e, rfl⟩) (Nat.le_refl _) (fun _ _ => rfl) (fun L _ b q e => htail b q L e)
 have hst' : Still G w G' w := fun b hb => ⟨rfl, hb.1, fun q => by
  rcases hb.2.1 q with e | e
  ·exact .inl (hfix b q e)
  exact .inr (by rw [htag b q (by rw [e]; simp)]; exact e), hb.2.2⟩
 obtain ⟨vs, q1, q2, q3, q4⟩ := h.heap.obj _ _ hto
 refine ⟨G', ⟨h.size, fun s => ?_, ⟨fun j x hx => ?_, ?_, h.heap.inj⟩, h.defs, fun q hq => ?_, h.defsNodup, h.defsGe, ⟨fun b q hb => h.tags.ex b q (fun e => ?_), fun b q j hb => ?_, fun b q L hb => ?_, h.tags.globKeep hst'⟩, h.rnd, h.low⟩,
  ⟨fun b q e => ⟨hfix b q e, rfl⟩, fun b q e s _ ht => htail b q _ ht, Nat.le_refl _, fun _ _ => rfl, rfl, rfl, rfl, Nat.le_refl _, hst'⟩⟩
 ·show Rep G' w _ (A2 r (.slice false k xs) st.fr s) _
  unfold A2
  by_cases hs : s = r
  ·subst hs
   rw [if_pos rfl]
   have hsl := h.slots s
   rw [hr] at hsl
   generalize a.tmps.getD s undef = v at hsl
   cases hsl with
   | sl l o k n c ho' =>
    refine .slice _ false k xs ⟨G.blk (st.up.length + i), 0, none⟩ _ c (fun q j => vs.getD (q * k + j) undef) rfl rfl hnc hk h1 (fun q x j y hx hy => ?_) (fun q x j y hx hy => ?_) (fun e => by cases e)
    all_goals
     have hfg := Lv hk hx hy
     have hlt : q * k + j < xs.length * k := by
      have := (List.getElem?_eq_some_iff.1 hfg).1
      rw [Lu hk] at this; exact this
     rw [← hcs, List.getElem?_take_of_lt hlt] at hfg
     have hcl := (List.getElem?_eq_some_iff.1 hfg).1
    ·refine ⟨htagO _ _ (by simpa using q4 _ hcl), ?_⟩
     simp only [Nat.zero_add]
     simp [World.cell?, q1, show q * k + j < vs.size by omega]
    have hu := q3 _ y (vs[q * k + j]'(by omega)) hfg (Array.getElem?_eq_getElem (by omega))
    have e1 : vs.getD (q * k + j) undef = vs[q * k + j]'(by omega) := by simp [show q * k + j < vs.size by omega]
    rw [e1]
    have := hrep (hu.strip (l' := none))
    rw [hst x (List.mem_of_getElem? hx) y (List.mem_of_getElem? hy)] at this
    exact this
  rw [if_neg hs]
  exact hrep (h.slots s)
 ·have hx' : (st.up ++ st.own.set i .gone)[j]? = some x := hx
  rw [← As, List.getElem?_set] at hx'
  by_cases hj : st.up.length + i = j
  ·rw [if_pos hj, if_pos hol] at hx'
   injection hx' with hx'
   subst hx'
   subst hj
   exact ⟨vs, t, (0, 0), q1, fun q hq => htagO _ _ (q4 q (by omega))⟩
  rw [if_neg hj] at hx'
  exact (h.heap.obj j x hx').free (fun e => hj e.symm) htag rfl rfl
 ·show G.n = (st.up ++ st.own.set i .gone).length
  have := h.heap.n
  simpa using this
 ·show (st.up ++ st.own.set i .gone)[q]? = _
  have h2 := h.defsAt q hq
  rw [← As, List.getElem?_set]
  by_cases hj : st.up.length + i = q
  ·subst hj; rw [hto] at h2; cases h2
  rw [if_neg hj]; exact h2
 ·simp only [G'] at hb
  split at hb
  ·rename_i e'; rw [e] at e'; cases e'
  exact hb e
 ·simp only [G'] at hb
  split at hb
  ·cases hb
  exact h.tags.obj b q j hb
 simp only [G'] at hb
 split at hb
 ·cases hb
 exact h.tags.tail b q L hb
end
section
variable {P : Program} {d : Nat} {ops : Array Oper}
theorem ARun.turnSt {l : List Oper} {st st' : St} {Q : St → Prop} (h : ∀ (G : Gh) (a : Act) (w : World), StRel d G st a w → ∃ G', StRel d G' st' a w ∧ Keep d G w G' w) (e1 : st'.up.length = st.up.length) (e2 : st'.rnd = st.rnd) (e3 : st'.sz = st.sz) (hr : ARun P d ops l st' Q) : ARun P d ops l st Q := by
 intro G a w hrel idx hidx
 obtain ⟨G', h1, k⟩ := h G a w hrel
 have := hr G' a w h1 idx hidx
 rw [Ci hrel k e2] at this
 exact Bq (fun e a' w' hp => ⟨hp.1, hp.2.next k e1 e2 e3⟩) _ _ _ this
variable {sz : Nat} {fr : Nat → AV} {up own own' : List AObj} {dfs : List Nat} {rnd : Option Nat} {Q : St → Prop} {rest : List Oper} {s : Nat} {ty : TypeId} {pos : String} {aft : Array Edge}
theorem R.indexAddrSl {t e : TypeId} {x i : Operand} {o k n c : Nat} {q : IntKind} {z : Int} (m : Nat) (ht : P.underlying t = some (.slice e)) (hsz : ∀ w, (Go.sizeOf e).run P w = .ok k w) (hm : m < n) (hr : ARun P d ops rest ⟨sz, A2 s (.ptr o (m * k)) fr, up, own, dfs, rnd⟩ Q)
  (hx : A6 fr x = .sl o k n c := by exact sL0) (hi : A6 fr i = .v (.int q z) := by exact sL0) (hz : z = (m : Int) := by first | rfl | omega) (hs : Nat.blt s sz = true := by rfl) :
  ARun P d ops (⟨some s, .indexAddr t x i, ty, pos, aft, none⟩ :: rest) ⟨sz, fr, up, own, dfs, rnd⟩ Q :=
 ARun.vv rfl rfl hs (OpV.indexAddrSl ht hsz hm hx (by subst hz; exact hi)) hr
theorem R.buildObj0 {t e : TypeId} {k n : Nat} (ht : P.underlying t = some (.slice e)) (hsz : ∀ w, (Go.sizeOf e).run P w = .ok k w) (hr : ARun P d ops rest ⟨sz, A2 s (.sl (oid up.length n) k 0 0) fr, up, own', dfs, rnd⟩ Q)
  (hn : own.length = n := by rfl) (ho : own ++ [.cells e []] = own' := by rfl) (hs : Nat.blt s sz = true := by rfl) :
  ARun P d ops (⟨some s, .buildSlice t 0 #[], ty, pos, aft, none⟩ :: rest) ⟨sz, fr, up, own, dfs, rnd⟩ Q := by
 subst ho
 exact ARun.aop rfl (AOp.buildObj0 (st := ⟨sz, fr, up, own, dfs, rnd⟩) ht hsz hn (by simpa using hs)) hr
theorem R.appendObj {t e : TypeId} {i : TypeInfo} {z : Value} {k o n : Nat} {xr x : Operand} {o2 : Bool} {y : AV} {ys : List AV} (hu : P.underlying t = some (.slice e)) (hi : P.info? e = some i) (hne : ys ≠ []) (hl : ys.length * i.bytes ≤ 140737488355328) (hl2 : ys.length ≤ 4611686018427387904)
  (hr : ∀ c, ys.length ≤ c → ARun P d ops rest ⟨sz, A2 s (.sl (oid up.length n) k ys.length c) fr, up, own ++ [.cells e (H8 ys ++ List.replicate ((c - ys.length) * k) .any)], dfs, rnd⟩ Q)
  (hz : i.zero = some z := by rfl) (hsz : i.size = k := by rfl) (hzk : z.cells.size = k := by rfl) (hk : 0 < k := by decide) (hb : A6 fr xr = .sl o k 0 0 := by exact sL0)
  (hx : A6 fr x = y := by exact sL0) (hx' : I6 y o2 k ys := by first | exact .inl rfl | exact .inr ⟨rfl, rfl⟩) (hn : own.length = n := by rfl) (hs : Nat.blt s sz = true := by rfl) :
  ARun P d ops (⟨some s, .call ⟨.builtin .append, #[xr, x], #[t, t]⟩, ty, pos, aft, none⟩ :: rest) ⟨sz, fr, up, own, dfs, rnd⟩ Q := by
 subst hx
 refine ARun.op rfl (AOp.appendObj (st := ⟨sz, fr, up, own, dfs, rnd⟩) hu hi hz hsz rfl hzk hk hb hx' hne hn (by simpa using hs) hl hl2) (fun s' hs' => ?_)
 obtain ⟨c, hc, rfl⟩ := hs'
 exact hr c hc
/-- The elements of the slice in slot r, over object i of ours, are written no more. -/
theorem R.freeze {l : List Oper} (r i : Nat) {k n c : Nat} {t : TypeId} {cs : List AV} (xs : List AV) (hnc : n ≤ c) (hn : n = xs.length) (hcs : cs.take (n * k) = H8 xs) (hk : ∀ x ∈ xs, x.cells.length = k) (h1 : ∀ x ∈ xs, ∀ y ∈ x.cells, y.one = true) (hst : ∀ x ∈ xs, ∀ y ∈ x.cells, y.strip = y)
  (hr : ARun P d ops l ⟨sz, A2 r (.slice false k xs) fr, up, own', dfs, rnd⟩ Q) (hf : fr r = .sl (oid up.length i) k n c := by exact sL0) (ho : own[i]? = some (.cells t cs) := by rfl) (hset : own.set i .gone = own' := by rfl) :
  ARun P d ops l ⟨sz, fr, up, own, dfs, rnd⟩ Q := by
 subst hset
 subst hn
 exact ARun.turnSt (fun G a w h => h.freeze (st := ⟨sz, fr, up, own, dfs, rnd⟩) hf ho hnc hcs hk h1 hst) rfl rfl rfl hr
end
end Go.SX
