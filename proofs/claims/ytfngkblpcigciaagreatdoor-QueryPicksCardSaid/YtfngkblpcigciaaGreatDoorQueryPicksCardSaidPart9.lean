/- Texts on the way to this: QueryPicks answers true for whatever it is handed: the answer has, of each row that the query of all columns tells, just the values of its own columns. (part 9) -/
import Derived.Shelf.Strconv.AtoiAll
import Derived.Shelf.Strings.Builder1
import Derived.Lib.ItoaLen
import Derived.Lib.ParseIntBCases
import Derived.Lib.SliceRun
import Derived.Test.YtfngkblpcigciaaGreatDoorQueryPicksCardSaidPart8
set_option linter.all false
namespace Go.SX.Nb
open Go Go.SX Go.Proofs Go.RowKit
variable [ErrAt]
set_option maxRecDepth 4000
theorem c75 (s : Str) (hs : s.length ≤ 1048576) (Hp : List AObj) : AFun Tryz.prog 75 [A8 s] Hp (.tup [A4 (L4 s), .any]) := by
 refine AFun.libAny (xs := [sv s]) (n := .int .i64 (L4 s)) (fun w hg => ?_)
 have hz : (⟨s.toArray⟩ : ByteArray).size ≤ 1048576 := by simpa [ByteArray.size] using hs
 unfold L4
 rcases h : Lib.atoiAll s with v | _ | _
 ·refine (Any.strconv_Atoi_ok Tryz.lays172 ⟨s.toArray⟩ (by omega) v h w).mono ?_
  rintro e w' ⟨rfl, hb⟩
  refine ⟨_, rfl, ?_⟩
  rcases hb with rfl | ⟨t, rfl⟩
  ·exact Below.refl _ _
  exact Lib.bytesWorld_below _ _ _
 ·refine (Any.strconv_Atoi_syntax Tryz.lays172 ⟨s.toArray⟩ (by omega) h _ w (Qo hg) (.inr ⟨_, _, rfl⟩)).mono ?_
  rintro e w' ⟨N, rfl, _, _, hb⟩
  exact ⟨_, rfl, hb⟩
 refine (Any.strconv_Atoi_range Tryz.lays172 ⟨s.toArray⟩ (by omega) h _ w (H9 hg) (.inr ⟨_, _, rfl⟩)).mono ?_
 rintro e w' ⟨N, rfl, _, _, hb⟩
 exact ⟨_, rfl, hb⟩
theorem c45 (n : Int) (h0 : -9223372036854775808 ≤ n) (h1 : n ≤ 9223372036854775807) (Hp : List AObj) : AFun Tryz.prog 45 [A4 n] Hp (A8 (Lib.itoa n)) := by
 refine AFun.lib (xs := [.int .i64 n]) (v := sv (Lib.itoa n)) (fun G w => .v _ _) (fun w hg => ?_)
 refine (Any.strconv_Itoa Tryz.lays171 n h0 h1 w (S3 hg)).mono ?_
 rintro e w' ⟨rfl, k, os, rfl⟩
 exact ⟨rfl, Mm _ _ _⟩
end Go.SX.Nb
namespace Go.SX.Nb
open Go Go.SX Go.Proofs
variable [ErrAt]
set_option maxRecDepth 4000
theorem ng {l : List Tok} {s : Str} {S : QS} (h : isQ l s S = true) : (A9 l S.i).kind ≠ 0 := by
 unfold isQ at h
 simp only [Bool.and_eq_true, Bool.or_eq_true, beq_iff_eq] at h
 rcases h.1.2 with e | e <;> rw [e] <;> decide
theorem F4 {l : List Tok} (hl : TokEnd l) {s : Str} {S : QS} (hi : S.i < l.length) (h : isQ l s S = true) : (C7 S).i < l.length := hl.step hi (ng h)
theorem Jw (l : List Tok) (e : Int) (S : QS) : (E4 l e S).i = S.i := by unfold E4; split <;> rfl
theorem Te {l : List Tok} (hl : TokEnd l) {s : Str} {S : QS} (hi : S.i < l.length) : (Ju l s S).i < l.length := by
 unfold Ju
 split
 ·rename_i h; exact F4 hl hi h
 rw [Jw]; exact hi
theorem Gn {l : List Tok} (hl : TokEnd l) {q : Qry} {S : QS} (hi : S.i < l.length) (hc : q.cols.length ≤ 12) : S.i ≤ (De l (q, S)).2.i ∧ (De l (q, S)).2.i < l.length ∧ (De l (q, S)).1.cols.length ≤ 12 := by
 unfold De
 split
 ·exact ⟨Nat.le_refl _, hi, hc⟩
 split
 ·exact q9
 split
 ·exact q9
 rename_i h1 h2 h3
 have hk : (A9 l S.i).kind ≠ 0 := by
  have : (A9 l S.i).kind = 1 := by simpa using h2
  rw [this]; decide
 refine ⟨Nat.le_succ _, hl.step hi hk, ?_⟩
 simp only [beq_iff_eq] at h3
 rw [List.length_append, List.length_singleton]
 simp only at h3 ⊢
 omega
/-- Where the loop of names stands. -/
structure QNames (l : List Tok) (r0 r : Qry × QS) : Prop where
 lt : r.2.i < l.length
 cols : r.1.cols.length ≤ 12
 fuel : ∃ n, Fi l l.length r0 = Fi l n r ∧ l.length - r.2.i ≤ n
theorem QNames.start {l : List Tok} {r : Qry × QS} (h1 : r.2.i < l.length) (h2 : r.1.cols.length ≤ 12) : QNames l r r := ⟨h1, h2, l.length, rfl, by omega⟩
theorem QNames.on {l : List Tok} (hl : TokEnd l) {r0 r : Qry × QS} (h : QNames l r0 r) (hq : isQ l [44] r.2 = true) : QNames l r0 (De l (r.1, C7 r.2)) ∧ r.2.i + 1 ≤ (De l (r.1, C7 r.2)).2.i := by
 obtain ⟨n, e, hn⟩ := h.fuel
 have hlt := F4 hl h.lt hq
 obtain ⟨f1, f2, f3⟩ := Gn hl (q := r.1) hlt h.cols
 have h1 := h.lt
 refine ⟨⟨f2, f3, n - 1, ?_, ?_⟩, f1⟩
 ·rw [e]
  obtain ⟨m, rfl⟩ : ∃ m, n = m + 1 := ⟨n - 1, by omega⟩
  rw [Fi, if_pos hq]
  rfl
 have : r.2.i + 1 ≤ (De l (r.1, C7 r.2)).2.i := f1
 omega
theorem QNames.out {l : List Tok} {r0 r : Qry × QS} (h : QNames l r0 r) (hq : isQ l [44] r.2 = false) : Fi l l.length r0 = r := by
 obtain ⟨n, e, _⟩ := h.fuel
 rw [e]
 cases n with
 | zero => rfl
 | succ n => rw [Fi, if_neg (by rw [hq]; simp)]
theorem qA {Hp : List AObj} {o ox : Nat} {A B : AObj} (hl : o < Hp.length) (hne : ox ≠ o) : ((Hp.set o A).set ox B)[o]? = some A := by rw [List.getElem?_set_ne hne]; simp [hl]
theorem qB {Hp : List AObj} {o ox : Nat} {A B : AObj} (hl : ox < Hp.length) : ((Hp.set o A).set ox B)[ox]? = some B := by simp [hl]
theorem di {Hp : List AObj} {o ox : Nat} {A A' B : AObj} (hne : ox ≠ o) : ((Hp.set o A).set ox B).set o A' = (Hp.set o A').set ox B := by rw [List.set_comm _ _ hne, List.set_set]
theorem uc {Hp : List AObj} {o ox m : Nat} {A A' B B' : AObj} (hl : o < Hp.length) (hlx : ox < Hp.length) (hne : ox ≠ o) (hA : ObjLow m A') (hB : ObjLow m B') (h : ∀ x ∈ (Hp.set o A).set ox B, ObjLow m x) : ∀ x ∈ (Hp.set o A').set ox B', ObjLow m x := by
 intro x hx
 obtain ⟨i, hi⟩ := List.getElem?_of_mem hx
 by_cases h1 : i = ox
 ·subst h1
  rw [qB hlx] at hi
  injection hi with hi
  subst hi
  exact hB
 by_cases h2 : i = o
 ·subst h2
  rw [qA hl hne] at hi
  injection hi with hi
  subst hi
  exact hA
 refine h x (List.mem_of_getElem? (i := i) ?_)
 rw [List.getElem?_set_ne (Ne.symm h1), List.getElem?_set_ne (Ne.symm h2)] at hi ⊢
 exact hi
/-- A call that turns the parser and the query. -/
theorem Wq {d : Nat} {ops : Array Oper} {rest : List Oper} {sz s : Nat} {fr : Nat → AV} {Hp : List AObj} {rnd : Option Nat} {Q : St → Prop} {ty : TypeId} {pos : String} {aft : Array Edge} {g : FuncId} {xs : List Operand} {ats : Array TypeId} {args : List AV} {l : List Tok} {S S' : QS} {q q' : Qry} {o oq : Nat}
  (hcall : ∀ args w, (callFunc g args).run Tryz.prog w = .ok (.enter g args) w) (hl : o < Hp.length) (hlq : oq < Hp.length) (hne : oq ≠ o)
  (h : ACall Tryz.prog g args ((Hp.set o (prq l S)).set oq (qo true q) ++ []) (fun r H' => r = L5 ∧ H' = (((Hp.set o (prq l S)).set oq (qo true q) ++ []).set o (prq l S')).set oq (qo true q')))
  (hr : ARun Tryz.prog d ops rest ⟨sz, A6 s L5 fr, (Hp.set o (prq l S')).set oq (qo true q'), [], [], rnd⟩ Q)
  (ha : xs.map (A7 fr) = args := by simp only [go_sem, ↓reduceIte, Nat.reduceEqDiff, Nat.reduceAdd] <;> rfl) (hs : Nat.blt s sz = true := by rfl) :
  ARun Tryz.prog d ops (⟨some s, .call ⟨.value (.func g), xs.toArray, ats⟩, ty, pos, aft, none⟩ :: rest) ⟨sz, fr, (Hp.set o (prq l S)).set oq (qo true q), [], [], rnd⟩ Q := by
 refine R.callX (up' := (Hp.set o (prq l S')).set oq (qo true q')) (own' := []) hcall (h.mono fun r H' e => ⟨e.1, e.2.trans ?_⟩) (by simp) (fun hlow => ?_) hr (by simp) ha hs
 ·rw [List.append_nil, List.append_nil, di hne, List.set_set]
 exact uc hl hlq hne Dy dh hlow
theorem nh (b : Bool) (q : Qry) : AObj.cells 29 [Ak b, .slice true 1 (q.cols.map A8), A4 q.whr.op, A8 q.whr.text, A4 q.whr.val.kind, A4 q.whr.val.n, A8 q.whr.val.s, .slice false 6 (q.whr.kids.map Ab), A4 q.lim] = qo true (Fw b q) := rfl
theorem rj {l : List Tok} {q : Qry} {S : QS} (h : isQ l [42] S = true) : Gm l (q, S) = (Fw true q, C7 S) := if_pos h
theorem rk {l : List Tok} {q : Qry} {S : QS} (h : isQ l [42] S = false) : Gm l (q, S) = Fi l l.length (De l (Fw false q, S)) := if_neg (by show ¬ (isQ l [42] S = true); rw [h]; simp)
theorem c39 (l : List Tok) (S : QS) (q : Qry) (o oq : Nat) (Hp : List AObj) (hne : oq ≠ o) (ho : Hp[o]? = some (prq l S)) (hoq : Hp[oq]? = some (qo true q)) (hi : S.i < l.length) (hl : TokEnd l) (hll : l.length ≤ 500000) (hc12 : q.cols.length ≤ 12) : ACall Tryz.prog 39 [.ptr o 0, .ptr oq 0] Hp (fun r H' => r = L5 ∧ H' = (Hp.set o (prq l (Gm l (q, S)).2)).set oq (qo true (Gm l (q, S)).1)) := by
 have hlo := (List.getElem?_eq_some_iff.1 ho).1
 have hlq := (List.getElem?_eq_some_iff.1 hoq).1
 refine ACall.body [] [0, 1] Tryz.func39 Tryz.ntmps39 (fun d => ?_)
 refine Lh ?_;refine R.callUp Tryz.call72 ho (by simp) Dy (c72 l S [42] o _ (Ac ho) hi (by omega)) ?_;refine R.nilPtr ?_;refine R.fieldAddrPtr (fo := 0) jU Tryz.sizeOf4 ?_
 refine R.storeUp jS (by rw [List.getElem?_set_ne (Ne.symm hne)]; exact hoq) ?_ ?_
 ·simp
 refine R.fin [0, 1] ?_;refine Z0 ?_;refine R.nilPtr ?_;refine R.fieldAddrPtr (fo := 0) jU Tryz.sizeOf4 ?_;refine R.loadUp jA (qB hlq) ?_;refine R.fin [0, 1, 12] ?_
 refine W.cond (fun ht12 => ?_) (fun ht12 => ?_)
 ·have hq : isQ l [42] S = true := ht12
  have e := rj (q := q) hq
  rw [Nu hq, hq]
  refine Z11 ?_;exact K.fin .nores (hp := ⟨rfl, by rw [e]; rfl⟩)
 have hq : isQ l [42] S = false := ht12
 have e := rk (q := q) hq
 rw [Nv hq, hq]
 rw [nh]
 refine Lj ?_
 have f0 := Gn hl (q := Fw false q) hi hc12
 refine Z79 ?_
 refine Wq Tryz.call73 hlo hlq hne (c73 l S (Fw false q) o oq _ hne (Ac (qA hlo hne)) (Ac (qB hlq)) hi (by omega) (by show q.cols.length ≤ _; omega)) ?_
 refine R.fin [0, 1] ?_
 refine AW.loopC (α := Qry × QS) (fun r => ⟨21, A6 0 (.ptr o 0) (A6 1 (.ptr oq 0) (fun _ => .any)), (Hp.set o (prq l r.2)).set oq (qo true r.1), [], [], none⟩) (fun r => QNames l (De l (Fw false q, S)) r) (fun r => l.length - r.2.i) (De l (Fw false q, S)) (.start f0.2.1 f0.2.2) (StLe.refl _) rfl (fun r hr => ?_)
 refine Z9 ?_;refine R.callUp Tryz.call72 (qA hlo hne) (by simp) Dy (c72 l r.2 [44] o _ (Ac (qA hlo hne)) hr.lt (by omega)) ?_;refine R.fin [0, 1, 17] ?_
 refine W.cond (fun ht17 => ?_) (fun ht17 => ?_)
 ·have hq1 : isQ l [44] r.2 = true := ht17
  have hlt1 := F4 hl hr.lt hq1
  have hon := hr.on hl hq1
  rw [Nu hq1, di hne]
  refine Z5 ?_;refine Eq ?_;refine Z21 ?_;refine At ?_
  refine Wq Tryz.call73 hlo hlq hne (c73 l (C7 r.2) r.1 o oq _ hne (Ac (qA hlo hne)) (Ac (qB hlq)) hlt1 (by omega) (by have := hr.cols; omega)) ?_
  refine R.fin [0, 1] ?_;refine K.blN ?_
  refine K.lpN (De l (r.1, C7 r.2)) hon.1 (by have := hr.lt; have := hon.2; omega) (StCut.of_eq rfl)
 have hq1 : isQ l [44] r.2 = false := ht17
 have hout := hr.out hq1
 rw [Nv hq1, di hne]
 refine Z96 ?_;refine K.lpE ?_;exact K.finN .nores (hp := ⟨rfl, by rw [e, hout]⟩)

theorem jh {l : List Tok} {q : Qry} {S : QS} (h : isQ l Fx S = false) : Eu l (q, S) = (q, S) := if_neg (by show ¬ (isQ l Fx S = true); rw [h]; simp)
theorem ji {l : List Tok} {q : Qry} {S : QS} (h : isQ l Fx S = true) (h2 : ((atM l (S.i + 1)).2.2.1 != 0) = true) : Eu l (q, S) = (q, ⟨S.i + 1, (atM l (S.i + 1)).2.2.1, (atM l (S.i + 1)).2.2.2⟩) := by
 unfold Eu
 rw [if_pos (by exact h), if_pos (by exact h2)]
theorem jk {l : List Tok} {q : Qry} {S : QS} {k : Nat} (h : isQ l Fx S = true) (h2 : ((atM l (S.i + 1)).2.2.1 != 0) = false) (hk : (atM l (S.i + 1)).2.1 = (k : Int)) : Eu l (q, S) = (⟨q.all, q.cols, (atM l (S.i + 1)).1, q.lim⟩, ⟨k, S.code, S.at_⟩) := by
 unfold Eu
 rw [if_pos (by exact h), if_neg (by show ¬ _ = true; rw [h2]; simp), hk]
 rfl
theorem jl {l : List Tok} {q : Qry} {S : QS} (h : isQ l Fj S = false) : Dx l (q, S) = (q, S) := if_neg (by show ¬ (isQ l Fj S = true); rw [h]; simp)
theorem jm {l : List Tok} {q : Qry} {S : QS} (h : isQ l Fj S = true) (h2 : ((A9 l (S.i + 1)).kind != 3) = true) : Dx l (q, S) = (q, E4 l 8 (C7 S)) := by
 unfold Dx
 rw [if_pos (by exact h), if_pos (by exact h2)]
theorem jn {l : List Tok} {q : Qry} {S : QS} (h : isQ l Fj S = true) (h2 : ((A9 l (S.i + 1)).kind != 3) = false) (h3 : decide ((100000 : Int) < L4 (A9 l (S.i + 1)).text) = true) : Dx l (q, S) = (q, E4 l 3 (C7 S)) := by
 unfold Dx
 rw [if_pos (by exact h), if_neg (by show ¬ _ = true; rw [h2]; simp), if_pos (by exact h3)]
theorem jo {l : List Tok} {q : Qry} {S : QS} (h : isQ l Fj S = true) (h2 : ((A9 l (S.i + 1)).kind != 3) = false) (h3 : decide ((100000 : Int) < L4 (A9 l (S.i + 1)).text) = false) : Dx l (q, S) = (⟨q.all, q.cols, q.whr, L4 (A9 l (S.i + 1)).text⟩, C7 (C7 S)) := by
 unfold Dx
 rw [if_pos (by exact h), if_neg (by show ¬ _ = true; rw [h2]; simp), if_neg (by show ¬ _ = true; rw [h3]; simp)]
theorem F5 {Hp : List AObj} {o : Nat} {A : AObj} (hl : o < Hp.length) : (Hp.set o A)[o]? = some A := by simp [hl]
theorem Yx {Hp : List AObj} {o oq : Nat} {A B : AObj} (hne : oq ≠ o) (hoq : Hp[oq]? = some B) : (Hp.set o A)[oq]? = some B := by rw [List.getElem?_set_ne (Ne.symm hne)]; exact hoq
theorem c40 (l : List Tok) (S : QS) (q : Qry) (o oq : Nat) (Hp : List AObj) (hne : oq ≠ o) (ho : Hp[o]? = some (prq l S)) (hoq : Hp[oq]? = some (qo true q)) (hi : S.i < l.length) (hl : TokEnd l) (hll : l.length ≤ 500000) (hc12 : q.cols.length ≤ 12) : ACall Tryz.prog 40 [.ptr o 0, .ptr oq 0] Hp (fun r H' => r = L5 ∧ H' = (Hp.set o (prq l (Eu l (q, S)).2)).set oq (qo true (Eu l (q, S)).1)) := by
 have hlo := (List.getElem?_eq_some_iff.1 ho).1
 have hlq := (List.getElem?_eq_some_iff.1 hoq).1
 refine ACall.body [] [0, 1] Tryz.func40 Tryz.ntmps40 (fun d => ?_)
 refine Z9 ?_;refine R.callUp Tryz.call72 ho (by simp) Dy (c72 l S Fx o _ (Ac ho) hi (by omega)) ?_;refine R.not ?_;refine R.fin [0, 1, 9] ?_
 refine W.cond (fun ht9 => ?_) (fun ht9 => ?_)
 ·have hq : isQ l Fx S = false := by simpa using ht9
  have e := jh (q := q) hq
  rw [Nv hq, B4 ho]
  exact Z34
 have hq : isQ l Fx S = true := by simpa using ht9
 have hi1 : S.i + 1 < l.length := F4 hl hi hq
 rw [Nu hq]
 refine Z5 ?_;refine W.drawY [0, 1, 3, 7, 0, 16, 48, 112, 255, 511, 1023, 1023, 1023, 0, 0, 26623, 61439, 131071] [] [.q 13 [] [], .s [4] none [] [], .s [6] none [] [], .s [4] none [] [], .q 1 [] [], .s [6] none [] []] (fun _ => Hp.set o (prq l (C7 S))) (fun _ => []) Ae (by kernel_rfl) rfl rfl (fun _ => rfl) ?_
 apply Y.q
 case h1 =>
  intro B hT hF
  refine Z86 ?_;refine D.loadUp jA (F5 hlo) ?_;refine Z69 ?_;refine D.loadUp jA (F5 hlo) ?_;refine D.call Tryz.call74 (c74 l (S.i + 1) hi1 hl hll (fun n Dv h1 h2 => Yw hl (by omega) n Dv h1 h2) _) ?_;refine D.move ?_;refine Z81 ?_;refine D.extract ?_;exact Jd
 case hTF => decide
 refine Y.allocP Tryz.zeroValue27 ?_;refine Y.allocP Tryz.zeroValue50 ?_;refine Y.storeP Tryz.sizeOf27 ?_
 apply Y.q
 case h1 =>
  intro B hT hF
  exact m0
 case hTF => decide
 refine Y.storeP Tryz.sizeOf50 ?_;refine Y.tail (tn := [])  ?_;refine R.fin [0, 1, 4, 5, 6] ?_;refine Z27 ?_;refine R.fieldAddrRo (off := 0) jU Tryz.sizeOf36 ?_;refine Cq ?_;refine R.neq ?_;refine R.fin [0, 1, 4, 5, 6, 25] ?_
 refine W.cond (fun ht25 => ?_) (fun ht25 => ?_)
 ·have e := ji (q := q) hq ht25
  refine Z0 ?_;refine Dn ?_;refine R.nilPtr ?_;refine R.fieldAddrPtr (fo := 2) jU Tryz.sizeOf50 ?_
  refine R.storeUp jS (F5 hlo) ?_ ?_
  ·simp
  refine R.fin [] ?_;exact Z34
 obtain ⟨k, hk, hkl⟩ := Wk hl (by omega) hi1 (by simpa using ht25)
 have e := jk (q := q) hq ht25 hk
 rw [hk]
 refine bc ?_;refine Dn ?_;refine At ?_;refine R.nilPtr ?_;refine R.fieldAddrPtr (fo := 2) jU Tryz.sizeOf27 ?_
 refine R.storeUp jS (Yx hne hoq) ?_ ?_
 ·intro z hz
  simp only [List.mem_cons, List.not_mem_nil, or_false] at hz
  rcases hz with rfl | rfl | rfl | rfl | rfl | rfl
  all_goals first | exact Cb | simp
 refine Z42 ?_
 refine R.storeUp jS (qA hlo hne) ?_ ?_
 ·simp
 exact Z67

theorem c41 (l : List Tok) (S : QS) (q : Qry) (o oq : Nat) (Hp : List AObj) (hne : oq ≠ o) (ho : Hp[o]? = some (prq l S)) (hoq : Hp[oq]? = some (qo true q)) (hi : S.i < l.length) (hl : TokEnd l) (hll : l.length ≤ 500000) (hc12 : q.cols.length ≤ 12) : ACall Tryz.prog 41 [.ptr o 0, .ptr oq 0] Hp (fun r H' => r = L5 ∧ H' = (Hp.set o (prq l (Dx l (q, S)).2)).set oq (qo true (Dx l (q, S)).1)) := by
 have hlo := (List.getElem?_eq_some_iff.1 ho).1
 have hlq := (List.getElem?_eq_some_iff.1 hoq).1
 refine ACall.body [] [0, 1] Tryz.func41 Tryz.ntmps41 (fun d => ?_)
 refine Z9 ?_;refine R.callUp Tryz.call72 ho (by simp) Dy (c72 l S Fj o _ (Ac ho) hi (by omega)) ?_;refine R.not ?_;refine R.fin [0, 1, 9] ?_
 refine W.cond (fun ht9 => ?_) (fun ht9 => ?_)
 ·have hq : isQ l Fj S = false := by simpa using ht9
  have e := jl (q := q) hq
  rw [Nv hq, B4 ho]
  exact Z34
 have hq : isQ l Fj S = true := by simpa using ht9
 have hi1 : S.i + 1 < l.length := F4 hl hi hq
 rw [Nu hq]
 refine Z5 ?_;refine W.drawY [0, 1, 3, 7, 0, 16, 48, 112, 255, 511, 0, 2047] [] [.q 10 [] [], .s [4] none [] [], .s [4] none [] []] (fun _ => Hp.set o (prq l (C7 S))) (fun _ => []) Ae (by kernel_rfl) rfl rfl (fun _ => rfl) ?_
 apply Y.q
 case h1 =>
  intro B hT hF
  refine Z86 ?_;refine D.loadUp jA (F5 hlo) ?_;refine Z69 ?_;refine D.loadUp jA (F5 hlo) ?_;refine D.indexAddr ((S.i + 1)) (Er (A9 l (S.i + 1))) jU jS (It hi1) ?_;exact ly
 case hTF => decide
 refine lx ?_;refine Y.tail (tn := [])  ?_;refine R.fin [0, 1, 4] ?_;refine Rw ?_;refine R.call Tryz.call75 (c75 (A9 l (S.i + 1)).text (hl.text _) _) ?_;refine Jb ?_;refine R.fin [0, 1, 4, 5] ?_;refine Z26 ?_;refine Mb ?_;refine Rr ?_;refine R.fin [0, 1, 5, 26] ?_
 refine W.cond (fun ht26 => ?_) (fun ht26 => ?_)
 ·have e := jm (q := q) hq ht26
  refine Z0 ?_;refine R.callUp Tryz.call42 (F5 hlo) (by simp) Dy (c42 l (C7 S) 8 o _ (Ac (F5 hlo)) hi1) ?_;refine R.fin [] ?_;exact Z68
 refine Z0 ?_;refine Xq ?_;refine R.fin [0, 1, 5, 32] ?_
 refine W.cond (fun ht32 => ?_) (fun ht32 => ?_)
 ·have e := jn (q := q) hq ht26 ht32
  refine Z0 ?_;refine R.callUp Tryz.call42 (F5 hlo) (by simp) Dy (c42 l (C7 S) 3 o _ (Ac (F5 hlo)) hi1) ?_;refine R.fin [] ?_;exact Z68
 have e := jo (q := q) hq ht26 ht32
 refine Z17 ?_;refine Z29 ?_;refine R.nilPtr ?_;refine R.fieldAddrPtr (fo := 8) jU Tryz.sizeOf3 ?_
 refine R.storeUp jS (Yx hne hoq) ?_ ?_
 ·simp
 refine R.fin [0] ?_;refine Z21 ?_;refine Z42 ?_;refine R.loadUp jA (qA hlo hne) ?_
 refine R.add64 (h2 := by rw [show (C7 S).i = S.i + 1 from rfl]; omega) ?_
 refine Z42 ?_
 refine R.storeUp jS (qA hlo hne) ?_ ?_
 ·simp
 exact Z67

theorem L6 {l : List Tok} (hl : TokEnd l) : ∀ (n : Nat) (r : Qry × QS), r.2.i < l.length → r.1.cols.length ≤ 12 → (Fi l n r).2.i < l.length ∧ (Fi l n r).1.cols.length ≤ 12
 | 0, r, h1, h2 => ⟨h1, h2⟩
 | n + 1, r, h1, h2 => by
  rw [Fi]
  split
  ·rename_i hq
   obtain ⟨_, f2, f3⟩ := Gn hl (q := r.1) (F4 hl h1 hq) h2
   exact L6 hl n _ f2 f3
  exact ⟨h1, h2⟩
theorem Tf {l : List Tok} (hl : TokEnd l) {r : Qry × QS} (h1 : r.2.i < l.length) (h2 : r.1.cols.length ≤ 12) : (Gm l r).2.i < l.length ∧ (Gm l r).1.cols.length ≤ 12 := by
 unfold Gm
 split
 ·rename_i hq; exact ⟨F4 hl h1 hq, h2⟩
 obtain ⟨_, f2, f3⟩ := Gn hl (q := Fw false r.1) h1 h2
 exact L6 hl _ _ f2 f3
theorem Tg {l : List Tok} (hl : TokEnd l) (hll : l.length ≤ 500000) {r : Qry × QS} (h1 : r.2.i < l.length) (h2 : r.1.cols.length ≤ 12) : (Eu l r).2.i < l.length ∧ (Eu l r).1.cols.length ≤ 12 := by
 unfold Eu
 split
 ·rename_i hq
  have hi1 : r.2.i + 1 < l.length := F4 hl h1 hq
  split
  ·exact ⟨hi1, h2⟩
  rename_i h
  obtain ⟨k, hk, hkl⟩ := Wk hl (by omega) hi1 (by simpa using h)
  refine ⟨?_, h2⟩
  show (atM l (r.2.i + 1)).2.1.toNat < _
  rw [hk, Int.toNat_natCast]
  exact hkl
 exact ⟨h1, h2⟩
theorem Th {l : List Tok} (hl : TokEnd l) {r : Qry × QS} (h1 : r.2.i < l.length) (h2 : r.1.cols.length ≤ 12) : (Dx l r).2.i < l.length ∧ (Dx l r).1.cols.length ≤ 12 := by
 unfold Dx
 split
 ·rename_i hq
  have hi1 : (C7 r.2).i < l.length := F4 hl h1 hq
  split
  ·exact ⟨by rw [Jw]; exact hi1, h2⟩
  split
  ·exact ⟨by rw [Jw]; exact hi1, h2⟩
  rename_i h _
  have hk : (A9 l (C7 r.2).i).kind ≠ 0 := by
   have : (A9 l (r.2.i + 1)).kind = 3 := by simpa using h
   show (A9 l (r.2.i + 1)).kind ≠ 0
   rw [this]; decide
  exact ⟨hl.step hi1 hk, h2⟩
 exact ⟨h1, h2⟩
def q0Q : Qry := ⟨false, [], Ah, -1⟩
def s1Q (l : List Tok) : QS := Ju l Jv ⟨0, 0, 0⟩
def r1Q (l : List Tok) : Qry × QS := Gm l (q0Q, s1Q l)
def r2Q (l : List Tok) : Qry × QS := Eu l (r1Q l)
def r3Q (l : List Tok) : Qry × QS := Dx l (r2Q l)
def s4Q (l : List Tok) : QS := Ju l [59] (r3Q l).2
def s5Q (l : List Tok) : QS := rh l (s4Q l)
theorem rl : Le (.agg [Ak false, .nil, A4 0, A8 [], A4 0, A4 0, A8 [], .nil, A4 (-1)]) (.agg [Ak false, .nil, A4 0, A8 [], A4 0, A4 0, A8 [], .slice false 6 [], A4 (-1)]) := by
 refine .agg _ _ rfl (by simp [AV.one, Value.oneCell', sv]) fun i y y' h1 h2 => ?_
 match i with
 | 0 => simp at h1 h2; subst h1; subst h2; exact .inl rfl
 | 1 => simp at h1 h2; subst h1; subst h2; exact .inl rfl
 | 2 => simp at h1 h2; subst h1; subst h2; exact .inl rfl
 | 3 => simp at h1 h2; subst h1; subst h2; exact .inl rfl
 | 4 => simp at h1 h2; subst h1; subst h2; exact .inl rfl
 | 5 => simp at h1 h2; subst h1; subst h2; exact .inl rfl
 | 6 => simp at h1 h2; subst h1; subst h2; exact .inl rfl
 | 7 => simp at h1 h2; subst h1; subst h2; exact .inr ⟨rfl, 6, rfl⟩
 | 8 => simp at h1 h2; subst h1; subst h2; exact .inl rfl
 | i + 9 => simp at h1
abbrev J4 (q : Qry) : AV := .agg (qoC false q)
theorem jp {n : Nat} {q : Qry} : Low n (J4 q) := by
 have h : ∀ z ∈ qoC false q, Low n z := dh (n := n) (own := false) (q := q)
 simpa using h
theorem Nw {n : Nat} : oid n 4 ≠ oid n 3 := by unfold oid; omega
theorem c6 (s : Str) (hs : s.length ≤ 1048576) (Hp : List AObj) : AFun Tryz.prog 15 [A8 s] Hp (.tup [J4 (Fy s).1, .agg [A4 (Fy s).2.1, A4 (Fy s).2.2]]) := by
 refine ACall.body [.cell 2 29, .cell 3 50] [0] Tryz.func15 Tryz.ntmps15 (fun d => ?_)
 refine Z30 ?_;refine R.alloc jZ ?_;refine aw ?_;refine R.call Tryz.call37 (c37 s hs _) ?_;refine Z62 ?_;refine av ?_;refine R.fin [2, 3, 4, 5] ?_;refine Z27 ?_;refine i7 ?_;refine gw ?_;refine R.fin [2, 3, 4, 5, 15] ?_
 refine W.cond (fun ht15 => ?_) (fun ht15 => ?_)
 ·have e : Fy s = (Td, (Ap s).2.1, ((Ap s).2.2 : Int)) := if_pos ht15
  refine W.drawY [0, 0, 1, 7] [2] [.q 2 [] [], .s [] (some 0) [] []] (fun _ => Hp) (fun _ => [.cells 29 [Ak false, .nil, A4 0, A8 [], A4 0, A4 0, A8 [], .nil, A4 0], .cells 50 [A4 0, A4 0], .cells 50 [A4 (Ap s).2.1, A4 ((Ap s).2.2 : Nat)]]) Ae (by kernel_rfl) rfl rfl (fun _ => rfl) ?_
  apply Y.q
  case h1 =>
   intro B hT hF
   refine D.build (places := #[(0, 1), (1, 1), (2, 6), (8, 1)]) jU (fun w => by simp) jZ ?_;exact li
  case hTF => decide
  refine qa ?_;refine Y.tail (tn := [2])  ?_;refine m6 ?_;refine Rq ?_;exact la
 have e0 : ¬ ((Ap s).2.1 != 0) = true := by rw [ht15]; simp
 have hz : (Ap s).2.1 = 0 := by simpa using ht15
 have hle := ix hz
 have hlen := ja hz
 have hpos : 0 < (Ap s).1.length := hle.pos
 have hl5 : (Ap s).1.length ≤ 500000 := by omega
 have f1 : (s1Q (Ap s).1).i < (Ap s).1.length := Te hle hpos
 have f2 : (r1Q (Ap s).1).2.i < (Ap s).1.length ∧ (r1Q (Ap s).1).1.cols.length ≤ 12 := Tf hle (r := (q0Q, s1Q (Ap s).1)) f1 (show ([] : List Str).length ≤ 12 by decide)
 have f3 : (r2Q (Ap s).1).2.i < (Ap s).1.length ∧ (r2Q (Ap s).1).1.cols.length ≤ 12 := Tg hle hl5 f2.1 f2.2
 have f4 : (r3Q (Ap s).1).2.i < (Ap s).1.length ∧ (r3Q (Ap s).1).1.cols.length ≤ 12 := Th hle f3.1 f3.2
 have f5 : (s4Q (Ap s).1).i < (Ap s).1.length := Te hle f4.1
 have hp : Fy s = Wn (Ap s).1 := if_neg e0
 refine Jc ?_;refine R.build (places := #[(0, 1), (1, 1), (2, 2)]) jU (fun w => by simp) jZ ?_;refine R.box ?_;refine Au ?_;refine R.fin [2, 3, 6] ?_;refine Ba ?_;refine R.build (places := #[(0, 1), (1, 1), (2, 6), (8, 1)]) jU (fun w => by simp) jZ ?_;refine R.wk 21 _ rl ?_;refine Z16 ?_;refine R.fin [2, 3, 6, 7] ?_;refine Ba ?_;refine R.nilCell 4 1 1 ?_;refine At ?_
 refine R.callOwn (n := 3) (x := prq (Ap s).1 (s1Q (Ap s).1)) Tryz.call38 (c38 (Ap s).1 ⟨0, 0, 0⟩ Jv (oid Hp.length 3) _ (by rw [Am]; rfl) hpos (by omega)) ?_
 refine gm ?_
 refine R.callX (up' := Hp) (own' := [.cells 29 [Ak false, .nil, A4 0, A8 [], A4 0, A4 0, A8 [], .nil, A4 0], .cells 50 [A4 0, A4 0], .cells 50 [A4 (Ap s).2.1, A4 ((Ap s).2.2 : Nat)], prq (Ap s).1 (r1Q (Ap s).1).2, qo true (r1Q (Ap s).1).1]) Tryz.call39 ((c39 (Ap s).1 (s1Q (Ap s).1) q0Q (oid Hp.length 3) (oid Hp.length 4) _ Nw (by rw [Am]; rfl) (by rw [Am]; rfl) f1 hle hl5 (by decide)).mono fun r H' e => ⟨e.1, e.2.trans (by rw [Ck, Ck]; rfl)⟩) rfl (fun h => h) ?_
 refine gm ?_
 refine R.callX (up' := Hp) (own' := [.cells 29 [Ak false, .nil, A4 0, A8 [], A4 0, A4 0, A8 [], .nil, A4 0], .cells 50 [A4 0, A4 0], .cells 50 [A4 (Ap s).2.1, A4 ((Ap s).2.2 : Nat)], prq (Ap s).1 (r2Q (Ap s).1).2, qo true (r2Q (Ap s).1).1]) Tryz.call40 ((c40 (Ap s).1 (r1Q (Ap s).1).2 (r1Q (Ap s).1).1 (oid Hp.length 3) (oid Hp.length 4) _ Nw (by rw [Am]; rfl) (by rw [Am]; rfl) f2.1 hle hl5 f2.2).mono fun r H' e => ⟨e.1, e.2.trans (by rw [Ck, Ck]; rfl)⟩) rfl (fun h => h) ?_
 refine gm ?_
 refine R.callX (up' := Hp) (own' := [.cells 29 [Ak false, .nil, A4 0, A8 [], A4 0, A4 0, A8 [], .nil, A4 0], .cells 50 [A4 0, A4 0], .cells 50 [A4 (Ap s).2.1, A4 ((Ap s).2.2 : Nat)], prq (Ap s).1 (r3Q (Ap s).1).2, qo true (r3Q (Ap s).1).1]) Tryz.call41 ((c41 (Ap s).1 (r2Q (Ap s).1).2 (r2Q (Ap s).1).1 (oid Hp.length 3) (oid Hp.length 4) _ Nw (by rw [Am]; rfl) (by rw [Am]; rfl) f3.1 hle hl5 f3.2).mono fun r H' e => ⟨e.1, e.2.trans (by rw [Ck, Ck]; rfl)⟩) rfl (fun h => h) ?_
 refine gm ?_
 refine R.callOwn (n := 3) (x := prq (Ap s).1 (s4Q (Ap s).1)) Tryz.call38 (c38 (Ap s).1 (r3Q (Ap s).1).2 [59] (oid Hp.length 3) _ (by rw [Am]; rfl) f4.1 (by omega)) ?_
 refine R.fin [2, 3, 6, 7] ?_;refine W.seq ?_;refine W.draw [0, 1, 3, 7, 0, 16, 48, 112, 255, 511, 1023, 2047] 8 Ae (by kernel_rfl) ?_;refine Z86 ?_;refine D.loadOwn jA ?_;refine Z69 ?_;refine D.loadOwn jA ?_;refine D.tail ?_;refine R.indexAddr ((s4Q (Ap s).1).i) (Er (A9 (Ap s).1 (s4Q (Ap s).1).i)) jU jS (It f5) ?_;refine Z15 ?_;refine R.neq ?_;refine R.fin [2, 3, 6, 7, 43] ?_
 refine W.cond (fun ht43 => ?_) (fun ht43 => ?_)
 ·have e5 : s5Q (Ap s).1 = E4 (Ap s).1 8 (s4Q (Ap s).1) := if_pos ht43
  refine Z21 ?_
  refine R.callOwn (n := 3) (x := prq (Ap s).1 (E4 (Ap s).1 8 (s4Q (Ap s).1))) Tryz.call42 (c42 (Ap s).1 (s4Q (Ap s).1) 8 (oid Hp.length 3) _ (by rw [Am]; rfl) f5) ?_
  refine R.fin [2, 3, 6, 7] ?_;refine K.thN ?_;refine Z9 ?_;refine be ?_;refine gw ?_;refine R.fin [2, 3, 6, 7, 51] ?_
  refine W.cond (fun ht51 => ?_) (fun ht51 => ?_)
  ·rw [← e5] at ht51 ⊢
   have e : Fy s = (Td, (s5Q (Ap s).1).code, (s5Q (Ap s).1).at_) := by rw [hp]; exact if_pos ht51
   refine qb ?_
   apply Y.q
   case h1 =>
    intro B hT hF
    refine pa ?_;exact pg
   case hTF => decide
   refine Z99 ?_;refine m6 ?_;refine Rq ?_;exact la
  rw [← e5] at ht51
  have e : Fy s = ((r3Q (Ap s).1).1, 0, 0) := by rw [hp]; exact if_neg (by show ¬ (((s5Q (Ap s).1).code != 0) = true); rw [ht51]; simp)
  refine Ui ?_;refine lf ?_;refine Rq ?_;exact nz
 have e5 : s5Q (Ap s).1 = s4Q (Ap s).1 := if_neg (by rw [ht43]; simp)
 refine Z5 ?_;refine Z9 ?_;refine be ?_;refine gw ?_;refine R.fin [2, 3, 6, 7, 51] ?_
 refine W.cond (fun ht51 => ?_) (fun ht51 => ?_)
 ·rw [← e5] at ht51 ⊢
  have e : Fy s = (Td, (s5Q (Ap s).1).code, (s5Q (Ap s).1).at_) := by rw [hp]; exact if_pos ht51
  refine qb ?_
  apply Y.q
  case h1 =>
   intro B hT hF
   refine pa ?_;exact pg
  case hTF => decide
  refine Z99 ?_;refine m6 ?_;refine Rq ?_;exact la
 rw [← e5] at ht51
 have e : Fy s = ((r3Q (Ap s).1).1, 0, 0) := by rw [hp]; exact if_neg (by show ¬ (((s5Q (Ap s).1).code != 0) = true); rw [ht51]; simp)
 refine Ui ?_;refine lf ?_;refine Rq ?_;exact nz

theorem Jx {k : List Expr} {i : Nat} (h : i < k.length) : (k.map Ab)[i]? = some (Ab (k.getD i Ah)) ∧ k.getD i Ah ∈ k ∧ ∀ (f : Expr → Rs) (d : Rs), (k.map f).getD i d = f (k.getD i Ah) := by
 have e : k.getD i Ah = k[i] := by rw [List.getD_eq_getElem?_getD, List.getElem?_eq_getElem h]; rfl
 rw [e]
 refine ⟨by simp [h], List.getElem_mem h, fun f d => ?_⟩
 rw [List.getD_eq_getElem?_getD, List.getElem?_map, List.getElem?_eq_getElem h]
 rfl
theorem dj {e : Expr} (h : C8 e = true) : (e.op = 5 → e.kids.length = 2) ∧ (e.op = 3 ∨ e.op = 4 → e.kids.length = 1) ∧ (e.op = 6 → Av e.text = (e.kids.length : Int)) ∧ (e.op = 1 ∨ e.op = 2 ∨ e.op = 3 ∨ e.op = 4 ∨ e.op = 5 ∨ e.op = 6) := by
 cases Ff h with
 | val v hp h0 => simp [Fu, Expr.op]
 | name t ht => simp [D7, Expr.op]
 | neg a => simp [Di, Expr.op, Expr.kids]
 | no a => simp [Di, Expr.op, Expr.kids]
 | bin t a b ht => simp [Es, Expr.op, Expr.kids]
 | call t k ht => simpa [Expr.op, Expr.kids, Expr.text] using ht
def J5 (s : Str) : Int := if s == [111, 114] then 0 else if s == [97, 110, 100] then 1 else if (((((s == [61]) || (s == [33, 61])) || (s == [60])) || (s == [60, 61])) || (s == [62])) || (s == [62, 61]) then 3 else if ((s == [43]) || (s == [45])) || (s == [38]) then 4 else if ((s == [42]) || (s == [47])) || (s == [37]) then 5 else 7
theorem Yy (s : Str) : J5 s = if 0 ≤ Ar s then Ar s else 7 := by
 by_cases hf : s ∈ levels.flatten
 ·have h3 : (levels.flatten.all fun s => decide (J5 s = if 0 ≤ Ar s then Ar s else 7)) = true := by kernel_rfl
  exact of_decide_eq_true (List.all_eq_true.1 h3 s hf)
 have hn := hf
 have h : Ar s = -1 := by
  rcases Hl s with h | ⟨h, _⟩
  ·exact absurd h hf
  exact h
 rw [h]
 simp only [levels, List.flatten_cons, List.flatten_nil, List.append_nil, List.cons_append, List.nil_append, List.mem_cons, List.not_mem_nil, or_false, not_or] at hn
 obtain ⟨a1, a2, a3, a4, a5, a6, a7, a8, a9, b1, b2, b3, b4, b5⟩ := hn
 simp [J5, *]
/-- The level of a node. -/
def Vj (e : Expr) : Int := if e.op == 4 then 2 else if e.op == 3 then 6 else if e.op == 5 then J5 e.text else 7
theorem Wr {e : Expr} (h : C8 e = true) : Vj e = (levE e : Int) := by
 unfold Vj levE
 split
 ·rfl
 split
 ·rfl
 split
 ·rename_i h5
  have hb : 0 ≤ Ar e.text := by
   have h5' : e.op = 5 := by simpa using h5
   rw [Sm] at h
   unfold Jm at h
   simp [h5'] at h
   exact h.2.1
  rw [Yy, if_pos hb]
  omega
 rfl
theorem ud (s : Str) (Hp : List AObj) : AFun Tryz.prog 150 [A8 s] Hp (A4 (J5 s)) := by
 refine ACall.body [.tmp 2] [0] Tryz.func150 Tryz.ntmps150 (fun d => ?_)
 refine Z88 ?_;refine Z9 ?_;refine R.fin [3] ?_;refine Eq ?_;refine Z19 ?_;refine R.fin [3, 4] ?_
 refine W.cond (fun ht4 => ?_) (fun ht4 => ?_)
 ·exact ay
 refine Z19 ?_;refine R.fin [3, 6] ?_
 refine W.cond (fun ht6 => ?_) (fun ht6 => ?_)
 ·exact ay
 refine W.join ⟨23, A6 3 (A8 s) (A6 8 (Ak ((((((s == [61]) || (s == [33, 61])) || (s == [60])) || (s == [60, 61])) || (s == [62])) || (s == [62, 61]))) (fun _ => .any)), Hp, [], [], none⟩ ?_ ?_
 ·refine az ?_
  refine W.cond (fun ht8 => ?_) (fun ht8 => ?_)
  ·exact aq
  refine az ?_
  refine W.cond (fun ht8 => ?_) (fun ht8 => ?_)
  ·exact aq
  refine az ?_
  refine W.cond (fun ht8 => ?_) (fun ht8 => ?_)
  ·exact aq
  refine az ?_
  refine W.cond (fun ht8 => ?_) (fun ht8 => ?_)
  ·exact aq
  refine az ?_
  refine W.cond (fun ht8 => ?_) (fun ht8 => ?_)
  ·exact aq
  refine Qi ?_;refine R.fin [3, 8] ?_;exact Z53
 refine W.cond (fun ht8 => ?_) (fun ht8 => ?_)
 ·exact ay
 refine W.join ⟨23, A6 3 (A8 s) (A6 15 (Ak (((s == [43]) || (s == [45])) || (s == [38]))) (fun _ => .any)), Hp, [], [], none⟩ ?_ ?_
 ·refine Z19 ?_;refine R.fin [3, 15] ?_
  refine W.cond (fun ht15 => ?_) (fun ht15 => ?_)
  ·refine W.keep [3, 15] ?_;exact am
  refine Z19 ?_;refine R.fin [3, 15] ?_
  refine W.cond (fun ht15 => ?_) (fun ht15 => ?_)
  ·refine W.keep [3, 15] ?_;exact am
  refine Qi ?_;refine R.fin [3, 15] ?_;exact Z53
 refine W.cond (fun ht15 => ?_) (fun ht15 => ?_)
 ·exact ay
 refine W.join ⟨23, A6 19 (Ak (((s == [42]) || (s == [47])) || (s == [37]))) (fun _ => .any), Hp, [], [], none⟩ ?_ ?_
 ·refine Z19 ?_;refine R.fin [3, 19] ?_
  refine W.cond (fun ht19 => ?_) (fun ht19 => ?_)
  ·refine W.keep [19] ?_;exact am
  refine Z19 ?_;refine R.fin [3, 19] ?_
  refine W.cond (fun ht19 => ?_) (fun ht19 => ?_)
  ·refine W.keep [19] ?_;exact am
  refine Qi ?_;refine R.fin [19] ?_;exact Z53
 refine W.cond (fun ht19 => ?_) (fun ht19 => ?_)
 ·exact ay
 refine Z17 ?_;refine Z57 ?_;exact K.fin (V.one V.tmp) ⟨by simp_all [J5], rfl⟩

theorem rm (e : Expr) (Hp : List AObj) : AFun Tryz.prog 116 [Ab e] Hp (A4 (Vj e)) := by
 refine ACall.body [.tmp 2] [0] Tryz.func116 Tryz.ntmps116 (fun d => ?_)
 refine Ob ?_;refine Z27 ?_;refine Z15 ?_;refine R.fin [1, 4] ?_;refine Ru ?_;refine R.fin [1, 4, 5] ?_
 refine W.cond (fun ht5 => ?_) (fun ht5 => ?_)
 ·refine Z57 ?_;exact lj
 refine Z48 ?_;refine R.fin [1, 4, 7] ?_
 refine W.cond (fun ht7 => ?_) (fun ht7 => ?_)
 ·refine Z57 ?_;exact lj
 refine Z48 ?_;refine R.fin [1, 9] ?_
 refine W.cond (fun ht9 => ?_) (fun ht9 => ?_)
 ·refine Rw ?_;refine R.call Tryz.call150 (ud e.text _) ?_;refine Z76 ?_;exact lj
 refine Z17 ?_;refine Z57 ?_;exact K.fin (V.one V.tmp) ⟨by simp_all [Vj], rfl⟩

end Go.SX.Nb
namespace Go.Proofs
open Go.Shelf Go.RowKit

section
variable {P : Program} (w : World)

/-- Bytes behind a builder's bytes: what is handed back lies where it lay, or in the next block, or nowhere still. -/
theorem Yz {t u ty e : TypeId} {i : TypeInfo} (ht : P.underlying t = some (.slice e)) (hu : P.underlying u = some .string) (hi : P.info? e = some i) (hz : i.zero = some (.int .u8 0)) (hsize : i.size = 1) (hby : i.bytes = 1)
  (v : Value) (n : Nat) (xs : List Value) (hown : w.ownsRow 0 e 1 v n xs) (s : ByteArray) (hb : n + s.size ≤ 140737488355328) :
  ∃ v' w', (Builtin.append_ #[t, u] ty #[v, .string s]).run P w = .ok v' w' ∧ w'.ownsRow 0 e 1 v' (n + s.size) (xs ++ Lib.strCells s) ∧ w.grownBy w' v'.ownBlock ∧
   ((v = .slice none 0 0 ∧ v' = v ∧ s.size = 0) ∨ (∃ g cap, v = .slice (some ⟨g, 0, none⟩) n cap ∧ v' = .slice (some ⟨g, 0, none⟩) (n + s.size) cap) ∨ ∃ cap, v' = .slice (some ⟨w.heap.size, 0, none⟩) (n + s.size) cap ∧ 0 < n + s.size) := by
 have h63 : n + s.size ≤ maxLen := by unfold maxLen; omega
 obtain ⟨v', w', hr, h1, h2, h3⟩ := Lib.run_append_own_string (P := P) w 0 t u ty e i ht hu hi hz hsize hby v n xs hown s h63 hb (Nat.zero_le _)
 have hxl : xs.length = n := by simpa using hown.1
 refine ⟨v', w', hr, h1, ?_⟩
 rcases hown.2 with ⟨rfl, rfl⟩ | ⟨g, cap, cur, rfl, hbg, hg, hnc, hcm, hcs, htake⟩
 ·by_cases hm : s.size = 0
  ·have e1 := h3.2 ⟨rfl, hm⟩
   exact ⟨by rw [e1]; exact h2, .inl ⟨rfl, e1, hm⟩⟩
  have hr2 := run_append_nil_string (P := P) w t u ty e i (.int .u8 0) ht hu hi hz s (by omega) (by omega) (by rw [hby]; omega)
  rw [hr] at hr2
  injection hr2 with e1 e2
  refine ⟨?_, .inr (.inr ⟨_, by rw [e1, Nat.zero_add], by omega⟩)⟩
  rw [e2]
  exact ⟨rfl, rfl, rfl, by simp, fun k hk _ => Lib.alloc_old w.drew _ k hk⟩
 by_cases hroom : n + s.size ≤ cap
 ·have hcs' : cur.size = cap := by simpa using hcs
  have hr2 := Lib.run_append_room_string (P := P) w t u ty e i ht hu hi hsize g n cap cur hg s hroom (by omega)
  rw [hr] at hr2
  injection hr2 with e1 e2
  exact ⟨by rw [e1]; exact h2, .inr (.inl ⟨g, cap, rfl, e1⟩)⟩
 have holds : ∀ j u, xs[j]? = some u → w.cell? ((⟨g, 0, none⟩ : Addr).add j) = some u := hown.cells (g := g) rfl
 have hr2 := Lib.run_append_grow_string (P := P) w t u ty e i (.int .u8 0) ht hu hi hz ⟨g, 0, none⟩ n cap xs (by rw [hsize]; simpa using hxl) holds s (by omega) (by omega) (by rw [hby]; exact growslice_fits (by omega) (by omega))
 rw [hr] at hr2
 injection hr2 with e1 e2
 refine ⟨?_, .inr (.inr ⟨_, e1, by omega⟩)⟩
 rw [e2]
 exact ⟨rfl, rfl, rfl, by simp, fun k hk _ => Lib.alloc_old w.drew _ k hk⟩
end

theorem Km {P : Program} {w w' : World} {ops : Array Oper} {rest : List Oper} {o : Oper} {a : Act} {Q : Exit → Act → World → Prop} {v v' : Value} {s : ByteArray} (hgd : o.guard = none) (sl x : Operand) (t u ty : TypeId)
  (ho : o.op = .call { callee := .builtin .append, args := #[sl, x], argTypes := #[t, u] }) (hty : o.type = ty) (hs : a.eval sl = v) (hx : a.eval x = .string s) (hrun : (Builtin.append_ #[t, u] ty #[v, .string s]).run P w = .ok v' w')
  (h : wpList P ops Q rest (a.put o.dst v') w') : wpList P ops Q (o :: rest) a w := by
 refine wpList_plain hgd fun K hK => ?_
 subst hty
 unfold Oper.wp execOp
 simp only [ho, resolve, invoke, builtin, Sem.run_bind, Sem.run_pure, Result.andThen_ok, List.map_toArray, List.map_cons, List.map_nil, hs, hx, hrun]
 exact hK _ _ h

section
variable {P : Program} {ρ : Ren}

set_option maxHeartbeats 1000000 in
set_option maxRecDepth 100000 in
/-- The check of an unused builder within a block of type T. -/
theorem Z1 (L : Lays.n240 P ρ) (X : Builder.X72 P ρ) {T : TypeId} (hl : liesAt P P.depth T (2 / P.cellsOf T) 0 (ρ.t 72) 1 = true) (b : Nat) (w : World) (h0 : w.cell? ⟨b, 0, none⟩ = some (.pointer none)) (hsh : w.shape? b = some (T, 2)) (hfz : w.frozen? ⟨b, 0, none⟩ = false) :
  Calls P (ρ.f 240) #[.pointer (some ⟨b, 0, none⟩)] w fun e w' => e = .returned (.tuple #[]) ∧ w' = w.setCell ⟨b, 0, none⟩ (.pointer (some ⟨b, 0, none⟩)) := by
 obtain ⟨j, hj, hjs⟩ := Option.map_eq_some_iff.1 X.sizeBuilder
 have mixed := L.mixed
 have t72 := L.t72; have a72 := L.a72; have z72 := L.z72; have v72 := L.v72; have u72 := run_underlying L.t72
 have t70 := L.t70; have a70 := L.a70; have z70 := L.z70; have v70 := L.v70; have u70 := run_underlying L.t70
 have t9 := L.t9; have a9 := L.a9; have z9 := L.z9; have v9 := L.v9; have u9 := run_underlying L.t9
 have t4 := L.t4; have a4 := L.a4; have z4 := L.z4; have v4 := L.v4; have u4 := run_underlying L.t4
 have t164 := L.t164; have a164 := L.a164; have z164 := L.z164; have v164 := L.v164; have u164 := run_underlying L.t164
 go_enter L.f240, Body.n240_ntmps ρ
 go_wp2
 rw [Lib.run_to_unsafe w ⟨b, 0, none⟩ L.t70 L.t164 hj (by rw [hjs]; decide) hsh (Nat.zero_lt_succ 1)]
 simp only [Result.andThen]
 rw [Oper.upon_value]
 go_wp2
 rw [run_callFunc_extern L.f276 (by kernel_rfl) (by kernel_rfl) (by kernel_rfl) (e := Extern.AbiNoEscape.same) (by kernel_rfl)]
 rw [Lib.run_noEscape]
 simp only [Result.andThen]
 rw [Oper.upon_value]
 go_wp2
 rw [Lib.run_from_unsafe w ⟨b, 0, none⟩ L.t164 L.t70 hj hsh hl]
 simp only [Result.andThen]
 rw [Oper.upon_value]
 go_wp2
 go_end0
 exact ⟨rfl, rfl⟩

/-- The check: behind it the first cell holds the builder's own address; nothing else turns. -/
theorem dk (L : Lays.n240 P ρ) (X : Builder.X72 P ρ) {T e : TypeId} (hl : liesAt P P.depth T (2 / P.cellsOf T) 0 (ρ.t 72) 1 = true) (b : Nat) (p v : Value) (n : Nat) (bs : List Value) (w : World) (h : H8 T e b p v n bs w) :
  Calls P (ρ.f 240) #[.pointer (some ⟨b, 0, none⟩)] w fun e' w' => e' = .returned (.tuple #[]) ∧ H8 T e b (.pointer (some ⟨b, 0, none⟩)) v n bs w' ∧ w.grownBy w' (some b) ∧ w'.heap.size = w.heap.size := by
 obtain ⟨h1, hp, h3, h4⟩ := h
 rcases hp with rfl | rfl
 ·refine (Z1 L X hl b w (by rw [Lib.cell_of_heap h1]; rfl) (by simp [World.shape?, h1]) (Lib.frozen_of_heap h1 0)).mono ?_
  rintro e' w' ⟨rfl, rfl⟩
  have hgr : w.grownBy (w.setCell ⟨b, 0, none⟩ (.pointer (some ⟨b, 0, none⟩))) (some b) := ⟨rfl, rfl, rfl, by simp [World.setCell], fun k _ hk => Below.heap_setCell _ _ _ _ (fun e => hk (by simp [e]))⟩
  exact ⟨rfl, ⟨by simp [World.setCell, Array.getElem?_modify, h1], .inr rfl, h3.kept hgr (.inr h4), h4⟩, hgr, by simp [World.setCell]⟩
 refine (Any.Builder_copyCheck_used L X b w (by rw [Lib.cell_of_heap h1]; rfl)).mono ?_
 rintro e' w' ⟨rfl, rfl⟩
 exact ⟨rfl, ⟨h1, .inr rfl, h3, h4⟩, ⟨rfl, rfl, rfl, Nat.le_refl _, fun _ _ _ => rfl⟩, rfl⟩

set_option maxHeartbeats 1000000 in
set_option maxRecDepth 100000 in
/-- How many bytes there are. -/
theorem bldLen (L : Lays.n170 P ρ) {T e : TypeId} (b : Nat) (p v : Value) (n : Nat) (bs : List Value) (w : World) (h : H8 T e b p v n bs w) :
  Calls P (ρ.f 170) #[.pointer (some ⟨b, 0, none⟩)] w fun e' w' => e' = .returned (.int .i64 n) ∧ w' = w := by
 obtain ⟨h1, _, h3, _⟩ := h
 obtain ⟨ao, cap, rfl⟩ : ∃ ao cap, v = .slice ao n cap := by
  rcases h3.2 with ⟨hv, h0⟩ | ⟨g, cap, cur, hv, _⟩
  ·exact ⟨none, 0, by rw [hv, h0]⟩
  exact ⟨_, _, hv⟩
 have c1 : w.cell? ⟨b, 1, none⟩ = some (.slice ao n cap) := by rw [Lib.cell_of_heap h1]; rfl
 have mixed := L.mixed
 have t72 := L.t72; have a72 := L.a72; have z72 := L.z72; have v72 := L.v72; have u72 := run_underlying L.t72
 have t70 := L.t70; have a70 := L.a70; have z70 := L.z70; have v70 := L.v70; have u70 := run_underlying L.t70
 have t37 := L.t37; have a37 := L.a37; have z37 := L.z37; have v37 := L.v37; have u37 := run_underlying L.t37
 have t3 := L.t3; have a3 := L.a3; have z3 := L.z3; have v3 := L.v3; have u3 := run_underlying L.t3
 go_enter L.f170, Body.n170_ntmps ρ
 go_wp2
 go_ret
 exact ⟨rfl, rfl⟩

set_option maxHeartbeats 2000000 in
set_option maxRecDepth 100000 in
/-- A text is written behind it. -/
theorem bldWrite (L : Lays.n166 P ρ) (X : Builder.Extra P ρ) {T : TypeId} (hl : liesAt P P.depth T (2 / P.cellsOf T) 0 (ρ.t 72) 1 = true) (hTe : T ≠ ρ.t 5) (b : Nat) (p v : Value) (n : Nat) (bs : List Value) (s : ByteArray) (w : World) (h : H8 T (ρ.t 5) b p v n bs w)
  (hlen : n + s.size ≤ 140737488355328) :
  Calls P (ρ.f 166) #[.pointer (some ⟨b, 0, none⟩), .string s] w fun e w' => e = .returned (.tuple #[.int .i64 s.size, .nilIface]) ∧ ∃ v', H8 T (ρ.t 5) b (.pointer (some ⟨b, 0, none⟩)) v' (n + s.size) (bs ++ Lib.strCells s) w' ∧
   (w'.os = w.os ∧ w'.tape = w.tape ∧ w'.output = w.output ∧ w.heap.size ≤ w'.heap.size) ∧ (∀ k, k < w.heap.size → k ≠ b → v'.ownBlock ≠ some k → w'.heap[k]? = w.heap[k]?) ∧
   ((v = .slice none 0 0 ∧ v' = v ∧ s.size = 0) ∨ (∃ g cap, v = .slice (some ⟨g, 0, none⟩) n cap ∧ v' = .slice (some ⟨g, 0, none⟩) (n + s.size) cap) ∨ ∃ cap, v' = .slice (some ⟨w.heap.size, 0, none⟩) (n + s.size) cap ∧ 0 < n + s.size) := by
 obtain ⟨i0, hi, hz0, hz1, hz2⟩ := info_parts X.infoByte
 have mixed := L.mixed
 have t72 := L.t72; have a72 := L.a72; have z72 := L.z72; have v72 := L.v72; have u72 := run_underlying L.t72
 have t70 := L.t70; have a70 := L.a70; have z70 := L.z70; have v70 := L.v70; have u70 := run_underlying L.t70
 have t37 := L.t37; have a37 := L.a37; have z37 := L.z37; have v37 := L.v37; have u37 := run_underlying L.t37
 have t3 := L.t3; have a3 := L.a3; have z3 := L.z3; have v3 := L.v3; have u3 := run_underlying L.t3
 have t9 := L.t9; have a9 := L.a9; have z9 := L.z9; have v9 := L.v9; have u9 := run_underlying L.t9
 have t4 := L.t4; have a4 := L.a4; have z4 := L.z4; have v4 := L.v4; have u4 := run_underlying L.t4
 have t164 := L.t164; have a164 := L.a164; have z164 := L.z164; have v164 := L.v164; have u164 := run_underlying L.t164
 have t5 := X.t5; have a5 := X.a5; have z5 := X.z5; have v5 := X.v5; have u5 := run_underlying X.t5
 have e240 : ∀ args w, (callFunc (ρ.f 240) args).run P w = .ok (.enter (ρ.f 240) args) w := enters_of L.f240 (by kernel_rfl) rfl
 go_enter L.f166, Body.n166_ntmps ρ
 go_wp2_with (go_at_fn (ρ.f 240); refine (dk { L with } X.toX72 hl b p v n bs _ h).mono ?_)
 rintro e w1 ⟨rfl, ⟨hbk, _, hown, hne⟩, hg1, hs1⟩
 have c0 : w1.cell? ⟨b, 0, none⟩ = some (.pointer (some ⟨b, 0, none⟩)) := by rw [Lib.cell_of_heap hbk]; rfl
 have c1 : w1.cell? ⟨b, 1, none⟩ = some v := by rw [Lib.cell_of_heap hbk]; rfl
 obtain ⟨v', w2, hrun, hown', hgrow, hcase⟩ := Yz (P := P) w1 (ty := ρ.t 37) L.t37 L.t9 hi hz0 hz1 hz2 v n bs hown s hlen
 have hlt : b < w1.heap.size := (Array.getElem?_eq_some_iff.1 hbk).1
 have hne' : v'.ownBlock ≠ some b := by
  rcases hcase with ⟨_, e1, _⟩ | ⟨g, cap, e1, e2⟩ | ⟨cap, e1, _⟩
  ·rw [e1]; exact hne
  ·rw [e2]; rw [e1] at hne; exact hne
  rw [e1]; simp [Value.ownBlock]; omega
 have hb2 : w2.heap[b]? = some (.cells #[.pointer (some ⟨b, 0, none⟩), v] T (0, 0)) := by
  rw [hgrow.block b hlt (fun e => hne' e.symm)]
  exact hbk
 have d0 : w2.cell? ⟨b, 0, none⟩ = some (.pointer (some ⟨b, 0, none⟩)) := by rw [Lib.cell_of_heap hb2]; rfl
 have d1 : w2.cell? ⟨b, 1, none⟩ = some v := by rw [Lib.cell_of_heap hb2]; rfl
 have f1 : w2.frozen? ⟨b, 1, none⟩ = false := Lib.frozen_of_heap hb2 1
 obtain ⟨ao, n', cap, rfl⟩ : ∃ ao n' cap, v' = .slice ao n' cap := by
  rcases hown'.2 with ⟨hv, _⟩ | ⟨g, cap, cur, hv, _⟩
  ·exact ⟨_, _, _, hv⟩
  exact ⟨_, _, _, hv⟩
 go_wp2_with (at_builtin; refine Km rfl _ _ (ρ.t 37) (ρ.t 9) (ρ.t 37) rfl rfl rfl rfl hrun ?_)
 go_ret2
 refine ⟨rfl, _, ⟨by simp [World.setCell, Array.getElem?_modify, hb2], .inr rfl, hown'.kept (row := some b) ⟨rfl, rfl, rfl, by simp [World.setCell], fun k _ hk => Below.heap_setCell _ _ _ _ (fun e => hk (by simp [e]))⟩ (.inr hne'), hne'⟩, ⟨?_, ?_, ?_, ?_⟩, fun k hk hkb hkr => ?_, ?_⟩
 ·exact hgrow.os.trans hg1.os
 ·exact hgrow.tape.trans hg1.tape
 ·exact hgrow.output.trans hg1.output
 ·have := hgrow.size
  simp [World.setCell]; omega
 ·rw [Below.heap_setCell _ _ _ _ hkb, hgrow.block k (by omega) (fun e => hkr e.symm), hg1.block k hk (by simpa using hkb)]
 rw [hs1] at hcase; exact hcase

set_option maxHeartbeats 2000000 in
set_option maxRecDepth 100000 in
/-- Its text: some of its row is frozen; nothing else turns. -/
theorem bldString (L : Lays.n169 P ρ) (X : Builder.Extra P ρ) {T : TypeId} (b : Nat) (p v : Value) (l : List UInt8) (w : World) (h : H8 T (ρ.t 5) b p v l.length (Lib.byteCells l) w) (hcap : ∀ g, v ≠ .slice (some ⟨g, 0, none⟩) 0 0) :
  Calls P (ρ.f 169) #[.pointer (some ⟨b, 0, none⟩)] w fun e w' => e = .returned (.string ⟨l.toArray⟩) ∧ (w'.os = w.os ∧ w'.tape = w.tape ∧ w'.output = w.output ∧ w.heap.size ≤ w'.heap.size) ∧ ∀ k, v.ownBlock ≠ some k → w'.heap[k]? = w.heap[k]? := by
 obtain ⟨hbk, _, hown, hne⟩ := h
 have mixed := L.mixed
 have t72 := L.t72; have a72 := L.a72; have z72 := L.z72; have v72 := L.v72; have u72 := run_underlying L.t72
 have t70 := L.t70; have a70 := L.a70; have z70 := L.z70; have v70 := L.v70; have u70 := run_underlying L.t70
 have t37 := L.t37; have a37 := L.a37; have z37 := L.z37; have v37 := L.v37; have u37 := run_underlying L.t37
 have t127 := L.t127; have a127 := L.a127; have z127 := L.z127; have v127 := L.v127; have u127 := run_underlying L.t127
 have t3 := L.t3; have a3 := L.a3; have z3 := L.z3; have v3 := L.v3; have u3 := run_underlying L.t3
 have t9 := L.t9; have a9 := L.a9; have z9 := L.z9; have v9 := L.v9; have u9 := run_underlying L.t9
 have t5 := X.t5; have a5 := X.a5; have z5 := X.z5; have v5 := X.v5; have u5 := run_underlying X.t5
 rcases hown.2 with ⟨rfl, h0⟩ | ⟨g, cap, cur, rfl, hbg, hg, hnc, hcm, hcs, htake⟩
 ·have hl : l = [] := List.eq_nil_of_length_eq_zero h0
  subst hl
  have hUS := Any.unsafeString_none L X
  have c1 : w.drew.cell? ⟨b, 1, none⟩ = some (.slice none 0 0) := by
   have : w.drew.heap[b]? = some (.cells #[p, .slice none 0 0] T (0, 0)) := hbk
   rw [Lib.cell_of_heap this]; rfl
  have hSD : (Builtin.unsafeSliceData_ #[(ρ.t 37)] (ρ.t 127) #[.slice none 0 0]).run P w.drew = .ok (.pointer none) w.drew := rfl
  go_enter L.f169, Body.n169_ntmps ρ
  go_wp2
  go_region_o
  all_goals (go_wp2; go_ret; exact ⟨rfl, ⟨rfl, rfl, rfl, Nat.le_refl _⟩, fun _ _ => rfl⟩)
 have hc0 : cap ≠ 0 := by
  rintro rfl
  exact hcap g (by rw [show l.length = 0 by omega])
 have c1 : w.drew.cell? ⟨b, 1, none⟩ = some (.slice (some ⟨g, 0, none⟩) l.length cap) := by
  have : w.drew.heap[b]? = some (.cells #[p, .slice (some ⟨g, 0, none⟩) l.length cap] T (0, 0)) := hbk
  rw [Lib.cell_of_heap this]; rfl
 have hSD : (Builtin.unsafeSliceData_ #[(ρ.t 37)] (ρ.t 127) #[.slice (some ⟨g, 0, none⟩) l.length cap]).run P w.drew = .ok (.pointer (some ⟨g, 0, none⟩)) w.drew :=
  Lib.run_unsafeSliceData_row _ _ _ _ _ _ hc0
 by_cases hl : l = []
 ·subst hl
  have hUS := Any.unsafeString_none L X
  clear hc0 hcap
  simp only [List.length_nil] at c1 hSD
  go_enter L.f169, Body.n169_ntmps ρ
  go_wp2
  go_region_o
  all_goals (go_wp2; go_ret; exact ⟨rfl, ⟨rfl, rfl, rfl, Nat.le_refl _⟩, fun _ _ => rfl⟩)
 have hUS : (Builtin.unsafeString_ #[(ρ.t 127), (ρ.t 3)] (ρ.t 9) #[.pointer (some ⟨g, 0, none⟩), .int .i64 l.length]).run P w.drew = .ok (.string ⟨l.toArray⟩) (w.drew.freeze ⟨g, 0, none⟩ l.length) := by
  refine Lib.run_unsafeString_row w.drew (ρ.t 127) (ρ.t 3) (ρ.t 9) (ρ.t 5) L.t127 X.cellsByte g cur.size (by have hg' : w.drew.heap[g]? = some (.cells cur (ρ.t 5) (0, 0)) := hg; simp [World.shape?, hg']) l hl (by omega) (by unfold maxLen at hcm; omega) ?_
  intro j x hx
  exact hown.cells (g := g) rfl j (.int .u8 x.toNat) (by simp [Lib.byteCells, hx])
 have hfz : ∀ k, g ≠ k → (w.drew.freeze ⟨g, 0, none⟩ l.length).heap[k]? = w.heap[k]? := fun k hk => by
  unfold World.freeze
  split
  ·rfl
  show (w.heap.modify g _)[k]? = _
  rw [Array.getElem?_modify, if_neg hk]
 have hfs : (w.drew.freeze ⟨g, 0, none⟩ l.length).heap.size = w.heap.size := by
  unfold World.freeze
  split
  ·rfl
  show (w.heap.modify g _).size = _
  simp
 have hfo : (w.drew.freeze ⟨g, 0, none⟩ l.length).os = w.os ∧ (w.drew.freeze ⟨g, 0, none⟩ l.length).tape = w.tape ∧ (w.drew.freeze ⟨g, 0, none⟩ l.length).output = w.output := by
  unfold World.freeze
  split <;> exact ⟨rfl, rfl, rfl⟩
 clear hc0 hcap
 go_enter L.f169, Body.n169_ntmps ρ
 go_wp2
 go_region_o
 all_goals (go_wp2; go_ret; exact ⟨rfl, ⟨hfo.1, hfo.2.1, hfo.2.2, Nat.le_of_eq hfs.symm⟩, fun k hk => hfz k (fun e => hk (by rw [e]; rfl))⟩)
end
end Go.Proofs

namespace Go.SX.Nb
open Go Go.SX Go.Proofs Go.Shelf
variable [ErrAt]
set_option maxRecDepth 8000
/-! show's builder. -/
theorem rn : Builder.Extra Tryz.prog Tryz.ren155 where
 sizeBuilder := by kernel_rfl
 liesBuilder := by kernel_rfl
 t5 := Tryz.underlying5
 a5 := Tryz.isAgg5
 z5 := Tryz.sizeOf5
 v5 := Tryz.zeroValue5
 infoByte := by kernel_rfl
 cellsByte := by kernel_rfl
 sizeByte := by kernel_rfl
 neB5 := by decide
theorem jq : liesAt Tryz.prog Tryz.prog.depth 126 (2 / Tryz.prog.cellsOf 126) 0 121 1 = true := by kernel_rfl
abbrev Nx (bs : Str) : AObj := .bld 126 5 bs
theorem Bs {n : Nat} {bs : Str} : ObjLow n (Nx bs) := trivial
/-- (*strings.Builder).WriteString. -/
theorem c77 (bs s : Str) (hl : bs.length + s.length ≤ 140737488355328) (o : Nat) (Hp : List AObj) (ho : Hp[o]? = some (Nx bs)) :
  ACall Tryz.prog 77 [.ptr o 0, A8 s] Hp (fun r H' => r = .tup [A4 s.length, .v .nilIface] ∧ H' = Hp.set o (Nx (bs ++ s))) := by
 refine ACall.bldWrite ho (fun b p v w h => ?_)
 have hw := bldWrite Tryz.lays166 rn (T := 126) jq (by decide) b p v bs.length (Lib.byteCells bs) ⟨s.toArray⟩ w h (by rw [Cp]; exact hl)
 rw [Cp, Lib.strCells_eq, ← Lib.byteCells_append] at hw
 exact hw
/-- (*strings.Builder).Len. -/
theorem c80 (bs : Str) (o : Nat) (Hp : List AObj) (ho : Hp[o]? = some (Nx bs)) : AFun Tryz.prog 80 [.ptr o 0] Hp (A4 bs.length) :=
 AFun.bldLen ho (fun b p v w h => bldLen Tryz.lays170 (T := 126) (e := 5) b p v _ _ w h)
/-- (*strings.Builder).String. -/
theorem c78 (bs : Str) (o : Nat) (Hp : List AObj) (ho : Hp[o]? = some (Nx bs)) : ACall Tryz.prog 78 [.ptr o 0] Hp (fun r H' => r = A8 bs ∧ H' = Hp.set o (.cells 126 [.any, .any])) :=
 ACall.bldString ho (fun b p v w h hc => bldString (ρ := Tryz.ren155) { Tryz.lays155 with } rn (T := 126) b p v bs w h hc)
end Go.SX.Nb
namespace Go.SX.Nb
open Go Go.SX Go.Proofs
variable [ErrAt]
set_option maxRecDepth 4000
abbrev l6 : AV := .v (.tuple #[])
abbrev Dq : Nat := 1099511627776
/-- What node writes. -/
def dl (e : Expr) : Prop := ∀ (o : Nat) (bs : Str) (Hp : List AObj), Hp[o]? = some (Nx bs) → bs.length + (Ag e).length ≤ Dq → ACall Tryz.prog 79 [.ptr o 0, Ab e] Hp (fun r H' => r = l6 ∧ H' = Hp.set o (Nx (bs ++ Ag e)))
theorem Za (e : Expr) : Ag e = Jt e.op e.text e.val e.kids (e.kids.map Ag) := by
 cases e with
 | mk o t v k => rw [Ag, J0]; rfl
theorem jr {k : List Expr} {i : Nat} (h : i < k.length) : (k.map Ag).getD i [] = Ag (k.getD i Ah) := by
 rw [List.getD_eq_getElem?_getD, List.getD_eq_getElem?_getD, List.getElem?_map, List.getElem?_eq_getElem h]
 rfl
theorem Px (l : List Str) (s : Str) : Dp (l ++ [s]) = Dp l ++ (44 :: 32 :: s) := by
 induction l with
 | nil => simp [Dp]
 | cons a r ih => simp [Dp, ih]
theorem dm {k : List Expr} {x : Nat} (h : x < k.length) : (Dp ((k.take (x + 1)).map Ag)).drop 2 = (Dp ((k.take x).map Ag)).drop 2 ++ (if 0 < x then [44, 32] else []) ++ Ag k[x] := by
 rw [List.take_succ_eq_append_getElem h, List.map_append, List.map_singleton, Px]
 cases x with
 | zero => simp [Dp]
 | succ x =>
  have : 2 ≤ (Dp ((k.take (x + 1)).map Ag)).length := by
   rw [List.take_succ_eq_append_getElem (by omega), List.map_append, List.map_singleton, Px]
   simp
   omega
  rw [List.drop_append_of_le_length this, if_pos (by omega)]
  simp
theorem ni {k : List Expr} (x : Nat) : (Dp ((k.take x).map Ag)).length ≤ (Dp (k.map Ag)).length := by
 have : k.map Ag = (k.take x).map Ag ++ (k.drop x).map Ag := by rw [← List.map_append, List.take_append_drop]
 rw [this]
 have : ∀ a b : List Str, (Dp a).length ≤ (Dp (a ++ b)).length := by
  intro a b
  induction a with
  | nil => simp [Dp]
  | cons c r ih => simp [Dp]; exact ih
 exact this _ _
theorem Ti {H : List AObj} {o : Nat} {a b : AObj} : (H.set o a).set o b = H.set o b := List.set_set _
theorem Zb (e : Expr) (he : dl e) (hlev : Vj e = (levE e : Int)) (least : Nat) (l0 : Int) (hl0 : l0 = (least : Int)) (o : Nat) (bs : Str) (Hp : List AObj) (ho : Hp[o]? = some (Nx bs)) (hb : bs.length + (Gx least e (Ag e)).length ≤ Dq) : ACall Tryz.prog 118 [.ptr o 0, Ab e, A4 l0] Hp (fun r H' => r = l6 ∧ H' = Hp.set o (Nx (bs ++ Gx least e (Ag e)))) := by
 subst hl0
 refine ACall.body [] [0, 1, 2] Tryz.func118 Tryz.ntmps118 (fun d => ?_)
 refine Z24 ?_;refine R.fin [0, 2, 4] ?_;refine Mc ?_;refine R.call Tryz.call116 (rm e _) ?_;refine At ?_;refine R.geq ?_;refine R.fin [0, 4, 9] ?_
 refine W.cond (fun ht9 => ?_) (fun ht9 => ?_)
 ·have hz : least ≤ levE e := by
   have h := ht9
   rw [hlev] at h
   simpa using h
  rw [show Gx least e (Ag e) = Ag e from if_pos hz] at hb ⊢
  refine Z0 ?_;refine Dn ?_;refine R.callUp Tryz.call79 ho (by simp) Bs (he o bs _ (Ac ho) (by omega)) ?_;refine b9 ?_;exact K.fin .nores ⟨rfl, by simp⟩
 have hz : ¬ least ≤ levE e := by
  have h := ht9
  rw [hlev] at h
  simpa using h
 rw [show Gx least e (Ag e) = 40 :: (Ag e ++ [41]) from if_neg hz] at hb ⊢
 simp only [List.length_cons, List.length_append, List.length_nil, Dq] at hb
 refine Jc ?_;refine Z63 ?_
 refine R.callUp Tryz.call77 ho (by simp) Bs (c77 bs [40] (by simp only [Dq, List.length_append, List.length_cons, List.length_nil] at *; omega) o _ (Ac ho)) ?_
 refine R.fin [0, 4] ?_;refine Z0 ?_;refine Dn ?_
 refine R.callUp Tryz.call79 (Ad ho) (by simp) Bs (he o (bs ++ [40]) _ (Ac (Ad ho)) (by simp only [Dq, List.length_append, List.length_cons, List.length_nil] at *; omega)) ?_
 refine R.fin [0] ?_;refine Z21 ?_;refine Z63 ?_
 refine R.callUp Tryz.call77 (Ad (Ad ho)) (by simp) Bs (c77 (bs ++ [40] ++ Ag e) [41] (by simp only [Dq, List.length_append, List.length_cons, List.length_nil] at *; omega) o _ (Ac (Ad (Ad ho)))) ?_
 refine R.fin [] ?_;exact K.finN .nores ⟨rfl, by simp⟩

theorem c79 : ∀ (n : Nat) (e : Expr), okE n e → Cf C8 e = true → Cf F1 e = true → dl e := by
 intro n
 induction n with
 | zero => exact fun e h => h.elim
 | succ n ih =>
 intro e hok hnd hrg o bs Hp ho hb
 have hnd0 := hnd
 have hrg0 := hrg
 rw [Fo, Bool.and_eq_true] at hnd0 hrg0
 have hev : ∀ y ∈ e.kids, dl y := fun y hy => ih y (hok.2.2 y hy) ((Cg _ _).1 hnd0.2 y hy) ((Cg _ _).1 hrg0.2 y hy)
 have hlv : ∀ y ∈ e.kids, Vj y = (levE y : Int) := fun y hy => Wr (by have := (Cg _ _).1 hnd0.2 y hy; rw [Fo, Bool.and_eq_true] at this; exact this.1)
 obtain ⟨k5, k34, k6, kall⟩ := dj hnd0.1
 have hi64 : ic e.val.n := by
  have := hrg0.1
  simp only [F1, Bool.and_eq_true, decide_eq_true_eq] at this
  exact this
 have hlv0 := Wr hnd0.1
 have pe := Za e
 have hol := (List.getElem?_eq_some_iff.1 ho).1
 unfold Jt at pe
 refine ACall.body [] [0, 1] Tryz.func79 Tryz.ntmps79 (fun d => ?_)
 refine Z24 ?_;refine Lk ?_;refine Z54 ?_;refine R.call Tryz.call116 (rm e _) ?_;refine Au ?_;refine R.fin [0, 3, 4] ?_;refine Mb ?_;refine R.fin [0, 3, 4, 11] ?_;refine Ru ?_;refine R.fin [0, 3, 4, 11, 12] ?_
 refine W.cond (fun ht12 => ?_) (fun ht12 => ?_)
 ·rw [if_pos ht12] at pe
  refine W.draw0 [0, 1, 3, 0, 8, 24, 63] 6 Ae (by kernel_rfl) ?_;refine al ?_;refine D.fieldAddrRo (off := 2) jU Tryz.sizeOf24 ?_;refine I9 ?_;refine D.call Tryz.call117 (qv e.val hi64 _) ?_;refine D.tail ?_
  refine R.callUp Tryz.call77 ho (by simp) Bs (c77 bs (D6 e.val) (by rw [pe] at hb; simp only [Dq] at hb; omega) o _ (Ac ho)) ?_
  exact Xm
 rw [if_neg (by rw [ht12]; simp)] at pe
 refine Z48 ?_;refine R.fin [0, 3, 4, 11, 21] ?_
 refine W.cond (fun ht21 => ?_) (fun ht21 => ?_)
 ·rw [if_pos ht21] at pe
  refine W.draw0 [0, 1, 3, 0, 8, 31] 5 Ae (by kernel_rfl) ?_;refine al ?_;refine Z72 ?_;refine D.tail ?_
  refine R.callUp Tryz.call77 ho (by simp) Bs (c77 bs e.text (by rw [pe] at hb; simp only [Dq] at hb; omega) o _ (Ac ho)) ?_
  exact Xm
 rw [if_neg (by rw [ht21]; simp)] at pe
 refine Z48 ?_;refine R.fin [0, 3, 4, 11, 29] ?_
 refine W.cond (fun ht29 => ?_) (fun ht29 => ?_)
 ·rw [if_pos ht29] at pe
  have hkl := k34 (.inl (by simpa using ht29))
  rw [jr (by omega)] at pe
  rw [pe] at hb
  simp only [List.length_cons, Dq] at hb
  refine Z0 ?_;refine Z63 ?_
  refine R.callUp Tryz.call77 ho (by simp) Bs (c77 bs [45] (by simp only [Dq, List.length_append, List.length_cons, List.length_nil] at *; omega) o _ (Ac ho)) ?_
  refine Lk ?_;refine Z21 ?_;refine Z38 ?_;refine fj ?_
  refine R.callUp Tryz.call118 (Ad ho) (by simp) Bs (Zb (e.kids.getD 0 Ah) (hev _ (Jx (by omega)).2.1) (hlv _ (Jx (by omega)).2.1) (6) _ (rfl) o (bs ++ [45]) _ (Ac (Ad ho)) (by simp only [Dq, List.length_append, List.length_cons, List.length_nil] at *; omega)) ?_
  exact Xm
 rw [if_neg (by rw [ht29]; simp)] at pe
 refine Z48 ?_;refine R.fin [0, 3, 4, 11, 41] ?_
 refine W.cond (fun ht41 => ?_) (fun ht41 => ?_)
 ·rw [if_pos ht41] at pe
  have hkl := k34 (.inr (by simpa using ht41))
  rw [jr (by omega)] at pe
  rw [pe] at hb
  simp only [List.length_cons, List.length_append, Yo, List.length_nil, Dq] at hb
  refine Z0 ?_;refine Z63 ?_
  refine R.callUp Tryz.call77 ho (by simp) Bs (c77 bs [110, 111, 116, 32] (by simp only [Dq, List.length_append, List.length_cons, List.length_nil] at *; omega) o _ (Ac ho)) ?_
  refine Lk ?_;refine Z21 ?_;refine Z38 ?_;refine fj ?_
  refine R.callUp Tryz.call118 (Ad ho) (by simp) Bs (Zb (e.kids.getD 0 Ah) (hev _ (Jx (by omega)).2.1) (hlv _ (Jx (by omega)).2.1) (2) _ (rfl) o (bs ++ [110, 111, 116, 32]) _ (Ac (Ad ho)) (by simp only [Dq, List.length_append, List.length_cons, List.length_nil] at *; omega)) ?_
  exact Xm
 rw [if_neg (by rw [ht41]; simp)] at pe
 refine Z48 ?_;refine R.fin [0, 3, 4, 11, 53] ?_
 refine W.cond (fun ht53 => ?_) (fun ht53 => ?_)
 ·rw [if_pos ht53] at pe
  have h5 : e.op = 5 := by simpa using ht53
  have hkl := k5 h5
  have hlv5 : levE e = (Ar e.text).toNat := by simp [levE, h5]
  have hl5 := ct e.text
  rw [jr (by omega), jr (by omega)] at pe
  rw [pe] at hb
  simp only [List.length_cons, List.length_append, Dq] at hb
  rw [hlv0, hlv5]
  refine Z64 ?_;refine R.fin [0, 3, 4, 5] ?_;refine Z9 ?_;refine R.eql ?_;refine R.fin [0, 3, 4, 5, 57] ?_
  refine W.cond (fun ht57 => ?_) (fun ht57 => ?_)
  ·have h3 : (Ar e.text).toNat = 3 := by have := ht57; simp at this; omega
   have hf1 : (((Ar e.text).toNat : Int) + 1) = ((Dw (Ar e.text).toNat : Nat) : Int) := by rw [h3]; rfl
   refine Qm ?_;refine R.fin [0, 3, 4, 5] ?_;refine K.thN ?_;refine Z0 ?_;refine Z38 ?_;refine fj ?_;refine At ?_
   refine R.callUp Tryz.call118 ho (by simp) Bs (Zb (e.kids.getD 0 Ah) (hev _ (Jx (by omega)).2.1) (hlv _ (Jx (by omega)).2.1) (Dw (Ar e.text).toNat) _ (by first | exact hf1 | rw [hf2]) o (bs) _ (Ac ho) (by simp only [Dq, List.length_append, List.length_cons, List.length_nil] at *; omega)) ?_
   refine pj ?_;refine al ?_;refine Z72 ?_
   refine D.sadd (hl := by simp only [List.length_cons, List.length_nil]; omega) ?_
   refine D.sadd (hl := by simp only [List.length_cons, List.length_nil, List.length_append]; omega) ?_
   refine D.tail ?_
   refine R.callUp Tryz.call77 (Ad ho) (by simp) Bs (c77 (bs ++ Gx (Dw (Ar e.text).toNat) (e.kids.getD 0 Ah) (Ag (e.kids.getD 0 Ah))) (32 :: (e.text ++ [32])) (by simp only [Dq, List.length_append, List.length_cons, List.length_nil] at *; omega) o _ (Ac (Ad ho))) ?_
   refine R.fin [0, 3, 4] ?_;refine Z21 ?_;refine Z38 ?_;refine oz ?_;refine At ?_;refine R.add64 ?_
   refine R.callUp Tryz.call118 (Ad (Ad ho)) (by simp) Bs (Zb (e.kids.getD 1 Ah) (hev _ (Jx (by omega)).2.1) (hlv _ (Jx (by omega)).2.1) ((Ar e.text).toNat + 1) _ (by first | rfl | (push_cast; rfl)) o (bs ++ Gx (Dw (Ar e.text).toNat) (e.kids.getD 0 Ah) (Ag (e.kids.getD 0 Ah)) ++ 32 :: (e.text ++ [32])) _ (Ac (Ad (Ad ho))) (by simp only [Dq, List.length_append, List.length_cons, List.length_nil] at *; omega)) ?_
   exact Xm
  have h3 : (Ar e.text).toNat ≠ 3 := by have := ht57; simp at this; omega
  have hf2 : Dw (Ar e.text).toNat = (Ar e.text).toNat := by unfold Dw; rw [if_neg h3]
  refine Jc ?_;refine Z38 ?_;refine fj ?_;refine At ?_
  refine R.callUp Tryz.call118 ho (by simp) Bs (Zb (e.kids.getD 0 Ah) (hev _ (Jx (by omega)).2.1) (hlv _ (Jx (by omega)).2.1) (Dw (Ar e.text).toNat) _ (by first | exact hf1 | rw [hf2]) o (bs) _ (Ac ho) (by simp only [Dq, List.length_append, List.length_cons, List.length_nil] at *; omega)) ?_
  refine pj ?_;refine al ?_;refine Z72 ?_
  refine D.sadd (hl := by simp only [List.length_cons, List.length_nil]; omega) ?_
  refine D.sadd (hl := by simp only [List.length_cons, List.length_nil, List.length_append]; omega) ?_
  refine D.tail ?_
  refine R.callUp Tryz.call77 (Ad ho) (by simp) Bs (c77 (bs ++ Gx (Dw (Ar e.text).toNat) (e.kids.getD 0 Ah) (Ag (e.kids.getD 0 Ah))) (32 :: (e.text ++ [32])) (by simp only [Dq, List.length_append, List.length_cons, List.length_nil] at *; omega) o _ (Ac (Ad ho))) ?_
  refine R.fin [0, 3, 4] ?_;refine Z21 ?_;refine Z38 ?_;refine oz ?_;refine At ?_;refine R.add64 ?_
  refine R.callUp Tryz.call118 (Ad (Ad ho)) (by simp) Bs (Zb (e.kids.getD 1 Ah) (hev _ (Jx (by omega)).2.1) (hlv _ (Jx (by omega)).2.1) ((Ar e.text).toNat + 1) _ (by first | rfl | (push_cast; rfl)) o (bs ++ Gx (Dw (Ar e.text).toNat) (e.kids.getD 0 Ah) (Ag (e.kids.getD 0 Ah)) ++ 32 :: (e.text ++ [32])) _ (Ac (Ad (Ad ho))) (by simp only [Dq, List.length_append, List.length_cons, List.length_nil] at *; omega)) ?_
  exact Xm
 rw [if_neg (by rw [ht53]; simp)] at pe
 refine Z48 ?_;refine R.fin [0, 3, 83] ?_
 refine W.cond (fun ht83 => ?_) (fun ht83 => ?_)
 ·have hsl : ∀ x, ((Dp ((e.kids.take x).map Ag)).drop 2).length ≤ ((Dp (e.kids.map Ag)).drop 2).length := fun x => by have := ni (k := e.kids) x; rw [List.length_drop, List.length_drop]; omega
  have hkl6 := hok.2.1
  rw [pe] at hb
  simp only [List.length_cons, List.length_append, List.length_nil, Dq] at hb
  refine W.draw [0, 1, 3, 0, 8, 24, 63] 6 Ae (by kernel_rfl) ?_;refine al ?_;refine Z72 ?_
  refine D.sadd (hl := by simp only [List.length_cons, List.length_nil]; omega) ?_
  refine D.tail ?_
  refine R.callUp Tryz.call77 ho (by simp) Bs (c77 bs (e.text ++ [40]) (by simp only [Dq, List.length_append, List.length_cons, List.length_nil] at *; omega) o _ (Ac ho)) ?_
  refine Lk ?_;refine Z27 ?_;refine Z38 ?_;refine Z70 ?_;refine R.fin [0, 93, 94, 95] ?_
  refine AW.loopC (α := Nat) (fun x => ⟨114, A6 0 (.ptr o 0) (A6 93 (.slice false 6 (e.kids.map Ab)) (A6 94 (A4 (e.kids.length : Nat)) (A6 95 (A4 (x : Nat)) (fun _ => .any)))), Hp.set o (Nx (bs ++ (e.text ++ [40]) ++ (Dp ((e.kids.take x).map Ag)).drop 2)), [], [], none⟩) (fun x => x ≤ e.kids.length) (fun x => e.kids.length - x) (0) (Nat.zero_le _) (StLe.of_eq (by simp [Dp])) rfl (fun x hx => ?_)
  refine Z89 ?_;refine R.fin [0, 93, 94, 95, 96] ?_
  refine W.condX (fun ht96 => ?_) (fun ht96 => ?_)
  ·have hlt : x < e.kids.length := by simpa using ht96
   have hst := dm hlt
   have hsl1 := hsl (x + 1)
   have hslx := hsl x
   refine Gg ?_;refine fm ?_;refine av ?_;refine R.fin [0, 6, 7, 93, 94, 95] ?_;refine Z9 ?_;refine R.gtr ?_;refine R.fin [0, 7, 93, 94, 95, 101] ?_
   refine W.cond (fun ht101 => ?_) (fun ht101 => ?_)
   ·have h0x : 0 < x := by simpa using ht101
    rw [if_pos h0x] at hst
    have hstl := congrArg List.length hst
    simp only [List.length_append, List.length_cons, List.length_nil] at hstl
    refine Z21 ?_;refine Z63 ?_
    refine R.callUp Tryz.call77 (Ad ho) (by simp) Bs (c77 (bs ++ (e.text ++ [40]) ++ (Dp ((e.kids.take x).map Ag)).drop 2) [44, 32] (by simp only [Dq, List.length_append, List.length_cons, List.length_nil] at *; omega) o _ (Ac (Ad ho))) ?_
    refine R.fin [0, 7, 93, 94, 95] ?_;refine K.thN ?_;refine Z21 ?_;refine Mj ?_
    first | refine R.callUp Tryz.call79 (Ad ho) (by simp) Bs (hev _ (List.getElem_mem hlt) o (bs ++ (e.text ++ [40]) ++ (Dp ((e.kids.take x).map Ag)).drop 2) _ (Ac (Ad ho)) (by simp only [Dq, List.length_append, List.length_cons, List.length_nil] at *; omega)) ?_ | refine R.callUp Tryz.call79 (Ad (Ad ho)) (by simp) Bs (hev _ (List.getElem_mem hlt) o (bs ++ (e.text ++ [40]) ++ (Dp ((e.kids.take x).map Ag)).drop 2 ++ [44, 32]) _ (Ac (Ad (Ad ho))) (by simp only [Dq, List.length_append, List.length_cons, List.length_nil] at *; omega)) ?_
    refine R.fin [0, 93, 94, 95] ?_;refine U8 ?_;refine R.fin [0, 93, 94, 95] ?_;refine K.lpN (x + 1) hlt (by omega) ?_
    simp only [hst, Ti, List.append_assoc, List.append_nil]
    exact StCut.take (own := []) (fun _ => .refl _) (by repeat (first | exact B6 | refine B5 (by first | exact Cb | exact Lu | (simp [or_imp, forall_and, oid] <;> omega)) ?_)) (by simp) (by simp)
   have h0x : ¬ 0 < x := by simpa using ht101
   rw [if_neg h0x] at hst
   have hstl := congrArg List.length hst
   simp only [List.length_append, List.length_cons, List.length_nil] at hstl
   refine gc ?_;refine Mj ?_
   first | refine R.callUp Tryz.call79 (Ad ho) (by simp) Bs (hev _ (List.getElem_mem hlt) o (bs ++ (e.text ++ [40]) ++ (Dp ((e.kids.take x).map Ag)).drop 2) _ (Ac (Ad ho)) (by simp only [Dq, List.length_append, List.length_cons, List.length_nil] at *; omega)) ?_ | refine R.callUp Tryz.call79 (Ad (Ad ho)) (by simp) Bs (hev _ (List.getElem_mem hlt) o (bs ++ (e.text ++ [40]) ++ (Dp ((e.kids.take x).map Ag)).drop 2 ++ [44, 32]) _ (Ac (Ad (Ad ho))) (by simp only [Dq, List.length_append, List.length_cons, List.length_nil] at *; omega)) ?_
   refine R.fin [0, 93, 94, 95] ?_;refine U8 ?_;refine R.fin [0, 93, 94, 95] ?_;refine K.lpN (x + 1) hlt (by omega) ?_
   simp only [hst, Ti, List.append_assoc, List.append_nil]
   exact StCut.take (own := []) (fun _ => .refl _) (by repeat (first | exact B6 | refine B5 (by first | exact Cb | exact Lu | (simp [or_imp, forall_and, oid] <;> omega)) ?_)) (by simp) (by simp)
  have hxe : e.kids.take x = e.kids := List.take_of_length_le (by simp at ht96; omega)
  have hslx := hsl x
  refine Z55 ?_;refine Z21 ?_;refine Z63 ?_
  refine R.callUp Tryz.call77 (Ad ho) (by simp) Bs (c77 (bs ++ (e.text ++ [40]) ++ (Dp ((e.kids.take x).map Ag)).drop 2) [41] (by simp only [Dq, List.length_append, List.length_cons, List.length_nil] at *; omega) o _ (Ac (Ad ho))) ?_
  refine R.fin [] ?_;refine K.blN ?_;exact K.finN .nores ⟨rfl, by rw [pe, hxe] <;> simp⟩
 exfalso
 have h6 := kall
 simp at ht12 ht21 ht29 ht41 ht53 ht83
 omega

set_option maxRecDepth 8000
/-! How long a print is. -/
theorem Vk {v : Val} (hp : Bu v = true) (hi : ic v.n) : (D6 v).length ≤ 402 := by
 unfold D6
 rw [hp]
 simp only [Bool.not_true, Bool.false_eq_true, if_false]
 split
 ·have := Lib.itoa_length_le v.n hi.1 hi.2
  omega
 split
 ·rename_i h1 h2
  rw [L1]
  have h3 := Sp v.s
  have h4 : v.s.length ≤ 200 := by
   have k2 : v.kind = 2 := by simpa using h2
   simp [Bu, k2] at hp
   omega
  simp
  omega
 split
 ·simp
 split <;> simp
theorem Lt (k : Nat) (x : Expr) (s : Str) : (Gx k x s).length ≤ s.length + 2 := by
 unfold Gx
 split <;> simp
theorem Tj {t : Str} (h : 0 ≤ Ar t) : t.length ≤ 3 := by
 rcases Hl t with hm | ⟨hm, _⟩
 ·have h3 : (levels.flatten.all fun s => decide (s.length ≤ 3)) = true := by kernel_rfl
  exact of_decide_eq_true (List.all_eq_true.1 h3 t hm)
 omega
theorem Ny {t : Str} {n : Nat} (h : Av t = (n : Int)) : t.length ≤ 6 := by
 rcases Iz h with ⟨e, _⟩ | ⟨e, _⟩ | ⟨e, _⟩ | ⟨e, _⟩ | ⟨e, _⟩ | ⟨e, _⟩ | ⟨e, _⟩ | ⟨e, _⟩ <;> rw [e] <;> decide
theorem dn {k : List Expr} (h : ∀ y ∈ k, (Ag y).length + 10 ≤ 440 * sizeE y) : (Dp (k.map Ag)).length ≤ 440 * B8 k := by
 induction k with
 | nil => simp [Dp]
 | cons y r ih =>
  have h1 := h y List.mem_cons_self
  have h2 := ih (fun z hz => h z (List.mem_cons_of_mem _ hz))
  simp only [List.map_cons, Dp, B8, List.length_cons, List.length_append]
  omega
theorem Py : ∀ (n : Nat) (e : Expr), sizeE e ≤ n → Cf C8 e = true → Cf F1 e = true → (Ag e).length + 10 ≤ 440 * sizeE e
 | 0, e, h, _, _ => by rw [Hd] at h; omega
 | n + 1, e, h, hn, hr => by
  rw [Fo, Bool.and_eq_true] at hn hr
  have hk : ∀ y ∈ e.kids, (Ag y).length + 10 ≤ 440 * sizeE y := fun y hy => by
   obtain ⟨i, hi⟩ := List.getElem?_of_mem hy
   obtain ⟨hlt, rfl⟩ := List.getElem?_eq_some_iff.1 hi
   exact Py n _ (by have := cg e hlt; omega) ((Cg _ _).1 hn.2 _ hy) ((Cg _ _).1 hr.2 _ hy)
  have hi : ic e.val.n := by
   have := hr.1
   simp only [F1, Bool.and_eq_true, decide_eq_true_eq] at this
   exact this
  rw [Hd]
  cases Ff hn.1 with
  | val v hp h0 =>
   rw [mx]
   have := Vk hp (v := v) hi
   simp only [Fu, Expr.kids, B8]
   omega
  | name t ht =>
   rw [je]
   have : t.length ≤ 16 := by
    cases t with
    | nil => simp
    | cons c r =>
     simp only [Je, Bool.and_eq_true, decide_eq_true_eq] at ht
     exact ht.1.1.1
   simp only [D7, Expr.kids, B8]
   omega
  | neg a =>
   rw [my]
   have h1 := Lt 6 a (Ag a)
   have h2 := hk a (by simp [Di, Expr.kids])
   simp only [Di, Expr.kids, B8, List.length_cons]
   omega
  | no a =>
   rw [rf]
   have h1 := Lt 2 a (Ag a)
   have h2 := hk a (by simp [Di, Expr.kids])
   simp only [Di, Expr.kids, B8, List.length_cons, List.length_append, Yo, List.length_nil]
   omega
  | bin t a b ht =>
   rw [mz]
   have h1 := Lt (Dw (Ar t).toNat) a (Ag a)
   have h2 := Lt ((Ar t).toNat + 1) b (Ag b)
   have h3 := hk a (by simp [Es, Expr.kids])
   have h4 := hk b (by simp [Es, Expr.kids])
   have h5 := Tj ht
   simp only [Es, Expr.kids, B8, List.length_cons, List.length_append]
   omega
  | call t k ha =>
   rw [jf]
   have h1 := Ny ha
   have h2 := dn (k := k) hk
   rw [← J0] at h2
   simp only [Expr.kids, List.length_cons, List.length_append, List.length_drop, List.length_nil]
   omega
theorem Hs {e : Expr} (hr : Bx e = true) (hg : Cf F1 e = true) : (Ag e).length ≤ 132000 := by
 have h1 := J1 hr
 have h2 : sizeE e ≤ 300 := by
  unfold Bx at hr
  simp only [Bool.and_eq_true, decide_eq_true_eq] at hr
  exact hr.1.2
 have := Py _ e (Nat.le_refl _) h1 hg
 omega
set_option maxRecDepth 4000
theorem Vl {e : Expr} (h : C8 e = true) : e.text.length ≤ 16 ∧ e.kids.length ≤ 8 := by
 cases Ff h with
 | val v hp h0 => exact ⟨by simp [Fu, Expr.text], by simp [Fu, Expr.kids]⟩
 | name t ht =>
  refine ⟨?_, by simp [D7, Expr.kids]⟩
  show t.length ≤ 16
  cases t with
  | nil => simp
  | cons c r =>
   simp only [Je, Bool.and_eq_true, decide_eq_true_eq] at ht
   exact ht.1.1.1
 | neg a => exact ⟨by simp [Di, Expr.text], by simp [Di, Expr.kids]⟩
 | no a => exact ⟨by simp [Di, Expr.text], by simp [Di, Expr.kids]⟩
 | bin t a b ht => exact ⟨by have := Tj ht; show t.length ≤ 16; omega, by simp [Es, Expr.kids]⟩
 | call t k ha =>
  refine ⟨by have := Ny ha; show t.length ≤ 16; omega, ?_⟩
  show k.length ≤ 8
  rcases Iz ha with ⟨_, e⟩ | ⟨_, e⟩ | ⟨_, e⟩ | ⟨_, e⟩ | ⟨_, e⟩ | ⟨_, e⟩ | ⟨_, e⟩ | ⟨_, e⟩ <;> omega
theorem Pz : ∀ {l : List Expr} {y : Expr}, y ∈ l → depthE y ≤ Hh l
 | a :: r, y, h => by
  rw [Hh]
  rcases List.mem_cons.1 h with rfl | h
  ·omega
  have := Pz h
  omega
theorem Ws : ∀ (n : Nat) (e : Expr), depthE e ≤ n → Cf C8 e = true → okE n e
 | 0, e, h, _ => by rw [Pc] at h; omega
 | n + 1, e, h, hn => by
  rw [Fo, Bool.and_eq_true] at hn
  rw [Pc] at h
  have hs := Vl hn.1
  refine ⟨by omega, by omega, fun y hy => Ws n y (by have := Pz hy; omega) ((Cg _ _).1 hn.2 y hy)⟩
theorem Zc {e : Expr} (h : Bx e = true) : okE 30 e ∧ sizeE e ≤ 300 := by
 have h1 := J1 h
 unfold Bx at h
 simp only [Bool.and_eq_true, decide_eq_true_eq] at h
 exact ⟨Ws 30 e h.1.1 h1, h.1.2⟩
theorem c44 (n : Nat) (e : Expr) (hok : okE n e) (hn : n ≤ 1048576) (hg : Cf F1 e = true) (Hp : List AObj) : AFun Tryz.prog 44 [Ab e] Hp (.tup [A8 (Gu e).1, A4 (Gu e).2]) := by
 refine ACall.body [.tmp 2, .tmp 3] [0] Tryz.func44 Tryz.ntmps44 (fun d => ?_)
 refine Ue ?_;refine R.fin [1] ?_;refine Mc ?_;refine R.call Tryz.call61 (c61 n e hok hn _) ?_;refine R.not ?_;refine R.fin [1, 7] ?_
 refine W.cond (fun ht7 => ?_) (fun ht7 => ?_)
 ·have hsh : Gu e = ([], 1) := if_pos ht7
  refine Z3 ?_;refine Z40 ?_;exact og
 have hnr : ¬ (!(Bb e)) = true := by rw [ht7]; simp
 have hr : Bx e = true := by rw [← F0]; simpa using ht7
 have hps := Hs hr hg
 refine Lj ?_;refine R.build (places := #[(0, 2)]) jU (fun w => by simp) jZ ?_;refine R.box ?_;refine Au ?_;refine R.fin [1, 4] ?_;refine Ba ?_;refine R.toBld 0 126 5 ?_;refine At ?_;refine Dn ?_
 refine R.callOwn (n := 0) (x := Nx (Ag e)) Tryz.call79 (c79 n e hok (J1 hr) hg (oid Hp.length 0) [] _ (by rw [Am]; rfl) (by simp only [Dq, List.length_nil]; omega)) ?_
 refine R.fin [4] ?_;refine Z9 ?_;refine Z63 ?_
 refine R.call Tryz.call80 (c80 (Ag e) (oid Hp.length 0) _ (by rw [Am]; rfl)) ?_
 refine R.gtr ?_;refine R.fin [4, 17] ?_
 refine W.cond (fun ht17 => ?_) (fun ht17 => ?_)
 ·have hsh : Gu e = ([], 3) := by unfold Gu; rw [if_neg hnr, if_pos ht17]
  refine Z3 ?_;refine Z40 ?_;exact og
 have hsh : Gu e = (Ag e, 0) := by unfold Gu; rw [if_neg hnr, if_neg (by rw [ht17]; simp)]
 refine Jc ?_;refine Z63 ?_
 refine R.callOwn (n := 0) (x := .cells 126 [.any, .any]) Tryz.call78 (c78 (Ag e) (oid Hp.length 0) _ (by rw [Am]; rfl)) ?_
 refine b6 ?_;refine AW.ret ?_;exact qc

structure QW (q : Qry) : Prop where
 ok : okE 61 q.whr
 size : sizeE q.whr ≤ 1048576
 rng : Cf F1 q.whr = true
 len : q.cols.length ≤ 1048576
 names : ∀ s ∈ q.cols, s.length ≤ 1048576
def noN (s : Str) : Bool := !(Dg s)
def Nz (ks : List Str) : Int := if ks.any noN then (ks.findIdx noN : Int) else -1
theorem dp {ks : List Str} {i : Nat} (h : i < ks.length) (hn : noN ks[i] = true) (hp : ∀ (j : Nat) (y : Str), j < i → ks[j]? = some y → ¬ noN y = true) : (i : Int) = Nz ks := by
 unfold Nz
 rw [if_pos (List.any_eq_true.2 ⟨_, List.getElem_mem h, hn⟩)]
 congr 1
 refine (List.findIdx_eq h |>.2 ⟨hn, fun j hj => ?_⟩).symm
 have := hp j (ks[j]'(by omega)) hj (List.getElem?_eq_getElem (by omega))
 simpa using this
theorem Vm {ks : List Str} (hp : ∀ (j : Nat) (y : Str), ks[j]? = some y → ¬ noN y = true) : (-1 : Int) = Nz ks := by
 unfold Nz
 rw [if_neg]
 intro h
 obtain ⟨y, hy, hn⟩ := List.any_eq_true.1 h
 obtain ⟨j, hj⟩ := List.getElem?_of_mem hy
 exact hp j y hj hn
theorem Zd (ks : List Str) : decide (0 ≤ Nz ks) = ks.any noN := by
 unfold Nz
 cases ks.any noN <;> simp
theorem js {α : Type} {p : α → Bool} (l : List α) : (!(l.any fun s => !(p s))) = l.all p := by
 induction l with
 | nil => rfl
 | cons a r ih => rw [List.any_cons, List.all_cons, ← ih]; cases p a <;> simp
theorem jt {q : Qry} (h : ((((q.all != ((q.cols.length : Int) == 0)) || decide ((12 : Int) < (q.cols.length : Int))) || decide (q.lim < -1)) || decide ((100000 : Int) < q.lim)) = true) : Cj q = false := if_pos h
theorem ju {q : Qry} (h : ((((q.all != ((q.cols.length : Int) == 0)) || decide ((12 : Int) < (q.cols.length : Int))) || decide (q.lim < -1)) || decide ((100000 : Int) < q.lim)) = false) : Cj q = ((q.cols.all Dg) && (!(Ih q) || Bx q.whr)) := if_neg (by rw [h]; simp)
theorem jv {q : Qry} (h : ((((q.all != ((q.cols.length : Int) == 0)) || decide ((12 : Int) < (q.cols.length : Int))) || decide (q.lim < -1)) || decide ((100000 : Int) < q.lim)) = false) : Cj q = (!(q.cols.any noN) && (!(Ih q) || Bb q.whr)) := by rw [ju h, ← js, F0]; rfl
def L7 (q : Qry) : Bool := if decide ((20 : Int) < (q.cols.length : Int)) || Pg q.whr then true else q.cols.any fun s => decide ((100 : Int) < (s.length : Int))
theorem jx {q : Qry} (h : (decide ((20 : Int) < (q.cols.length : Int)) || Pg q.whr) = true) : L7 q = true := if_pos h
theorem jy {q : Qry} (h : (decide ((20 : Int) < (q.cols.length : Int)) || Pg q.whr) = false) {s : Str} (hs : s ∈ q.cols) (hn : decide ((100 : Int) < (s.length : Int)) = true) : L7 q = true := by
 unfold L7
 rw [if_neg (by rw [h]; simp)]
 exact List.any_eq_true.2 ⟨s, hs, hn⟩
theorem jz {q : Qry} (h : (decide ((20 : Int) < (q.cols.length : Int)) || Pg q.whr) = false) (hn : ∀ s ∈ q.cols, decide ((100 : Int) < (s.length : Int)) = false) : L7 q = false := by
 unfold L7
 rw [if_neg (by rw [h]; simp), Bool.eq_false_iff]
 intro e
 obtain ⟨s, hs, h2⟩ := List.any_eq_true.1 e
 rw [hn s hs] at h2; cases h2
theorem Vn {α : Type} {l : List α} {P : α → Prop} {i : Nat} (h : i < l.length) (hx : ∀ y ∈ l.take i, P y) (hr : P l[i]) : ∀ y ∈ l.take (i + 1), P y := by
 intro y hy
 rw [List.take_succ_eq_append_getElem h, List.mem_append] at hy
 rcases hy with hy | hy
 ·exact hx y hy
 rw [List.mem_singleton] at hy; subst hy; exact hr
theorem Ze {α : Type} {l : List α} {P : α → Prop} {i : Nat} (h : l.length ≤ i) (hx : ∀ y ∈ l.take i, P y) : ∀ y ∈ l, P y := by rwa [List.take_of_length_le h] at hx
theorem c59 (s : Str) (hs : s.length ≤ 1048576) (Hp : List AObj) : AFun Tryz.prog 59 [A8 s] Hp (Ak (noN s)) := by
 refine ACall.body [.tmp 2] [0] Tryz.func59 Tryz.ntmps59 (fun d => ?_)
 refine Z88 ?_;refine Z0 ?_;refine R.call Tryz.call60 (c60 s hs _) ?_;refine R.not ?_;exact ap

theorem c63 (ks : List Str) (hkl : ks.length ≤ 1048576) (hks : ∀ s ∈ ks, s.length ≤ 1048576) (Hp : List AObj) : AFun Tryz.prog 63 [Gq ks, .fn (.func 59) [] []] Hp (A4 (Nz ks)) := by
 refine ACall.body [.tmp 4] [0, 1] Tryz.func63 Tryz.ntmps63 (fun d => ?_)
 refine Z87 ?_;refine Of ?_;refine R.fin [0, 1, 7, 8] ?_
 refine AW.loopC (α := Nat) (fun x => ⟨19, A6 0 (Gq ks) (A6 1 (.fn (.func 59) [] []) (A6 7 (A4 ks.length) (A6 8 (A4 (x : Nat)) (fun _ => .any)))), Hp, [], [], none⟩) (fun x => x ≤ ks.length ∧ ∀ (j : Nat) (y : Str), j < x → ks[j]? = some y → ¬ noN y = true) (fun x => ks.length - x) (0) (by simp) (StLe.of_eq (by simp)) rfl (fun x hx => ?_)
 refine Z89 ?_;refine R.fin [0, 1, 7, 8, 9] ?_
 refine W.condX (fun ht9 => ?_) (fun ht9 => ?_)
 ·have hlt : x < ks.length := by simpa using ht9
  refine Z26 ?_;refine Z64 ?_;refine R.fin [0, 1, 5, 7, 8] ?_;refine Z29 ?_;refine At ?_;refine R.indexAddr (x) (A8 ks[x]) jU jS (Be hlt) ?_;refine Cq ?_;refine R.callV Tryz.call59 (c59 ks[x] (hks _ (List.getElem_mem hlt)) _) ?_;refine R.fin [0, 1, 5, 7, 8, 16] ?_
  refine W.cond (fun ht16 => ?_) (fun ht16 => ?_)
  ·refine Z64 ?_;refine Z41 ?_;refine Oa ?_;exact K.fin (V.one V.tmp) ⟨by rw [dp hlt ht16 hx.2], rfl⟩
  refine Mi ?_;exact o8
 refine Z55 ?_;refine Uh ?_;exact K.fin (V.one V.tmp) ⟨by rw [Vm (Hb (by simp at ht9; omega) hx.2)], rfl⟩

theorem c27 (ks : List Str) (hkl : ks.length ≤ 1048576) (hks : ∀ s ∈ ks, s.length ≤ 1048576) (Hp : List AObj) : AFun Tryz.prog 27 [Gq ks, .fn (.func 59) [] []] Hp (Ak (ks.any noN)) := by
 refine ACall.body [.tmp 4] [0, 1] Tryz.func27 Tryz.ntmps27 (fun d => ?_)
 refine Z87 ?_;refine Z29 ?_;refine R.call Tryz.call63 (c63 ks hkl hks _) ?_;refine R.geq ?_;refine Au ?_;refine Z41 ?_;exact K.fin (V.one V.tmp) ⟨by rw [← Zd]; try rfl, rfl⟩

theorem c30 (q : Qry) (h : QW q) (Hp : List AObj) : AFun Tryz.prog 30 [J4 q] Hp (Ak (Ih q)) := by
 refine ACall.body [.tmp 2] [0] Tryz.func30 Tryz.ntmps30 (fun d => ?_)
 refine Ob ?_;refine Ba ?_;refine Z85 ?_;refine Ry ?_;refine R.wk 5 _ Nm ?_;refine R.call Tryz.call66 (c66 61 q.whr h.ok Ah _) ?_;refine R.not ?_;exact ap

theorem c25 (q : Qry) (h : QW q) (Hp : List AObj) : AFun Tryz.prog 25 [J4 q] Hp (Ak (Cj q)) := by
 refine ACall.body [.tmp 2] [0] Tryz.func25 Tryz.ntmps25 (fun d => ?_)
 refine Ob ?_;refine Z27 ?_;refine ls ?_;refine Z51 ?_;refine R.len jU ?_;refine R.eql ?_;refine R.bneq jU ?_;refine At ?_;refine G.fieldAddrRo (off := 1) jU Tryz.sizeOf22 ?_;refine G.loadRo jA ?_;refine G.len jU ?_;refine Md ?_;refine At ?_;refine lv ?_;refine G.lss ?_;refine R.pickOr ?_;refine At ?_;refine lv ?_;refine Md ?_;refine R.fin [1, 25] ?_
 refine W.cond (fun ht25 => ?_) (fun ht25 => ?_)
 ·rw [List.length_map] at ht25
  have e := jt ht25
  refine Z57 ?_;refine K.thR ?_;exact K.fin (V.one V.tmp) ⟨by rw [e] <;> rfl, rfl⟩
 rw [List.length_map] at ht25
 have e := jv ht25
 refine Lj ?_;refine Z51 ?_;refine R.call Tryz.call27 (c27 q.cols h.len h.names _) ?_;refine R.not ?_;refine At ?_;refine G.loadRoN jA jS ?_;refine G.call Tryz.call30 (fun hB => c30 q h _) ?_;refine G.not ?_;refine G.move ?_;refine G.fieldAddrRo (off := 2) jU Tryz.sizeOf27 ?_;refine G.loadRoN jA jS ?_;refine G.call Tryz.call61 (fun hB => c61 61 q.whr h.ok (by decide) _) ?_;refine G.pickOr ?_;refine Z32 ?_;refine Z2 ?_;exact K.fin (V.one V.tmp) ⟨by rw [e] <;> rfl, rfl⟩

theorem c7 (q : Qry) (Hp : List AObj) : AFun Tryz.prog 7 [J4 q] Hp (Ak (L7 q)) := by
 refine ACall.body [.tmp 2] [0] Tryz.func7 Tryz.ntmps7 (fun d => ?_)
 refine Ob ?_;refine Z27 ?_;refine Z51 ?_;refine Xr ?_;refine At ?_;refine G.fieldAddrRo (off := 2) jU Tryz.sizeOf27 ?_;refine G.loadRoN jA jS ?_;refine G.call Tryz.call17 (fun hB => c17 q.whr _) ?_;refine R.pickOr ?_;refine R.fin [1, 12] ?_
 refine W.cond (fun ht12 => ?_) (fun ht12 => ?_)
 ·rw [List.length_map] at ht12
  have e := jx ht12
  refine Z57 ?_;refine K.thR ?_;exact m8
 rw [List.length_map] at ht12
 have hl20 : q.cols.length ≤ 20 := by
  simp only [Bool.or_eq_false_iff, decide_eq_false_iff_not] at ht12
  omega
 refine Z5 ?_;refine Ua ?_;refine R.fin [1, 3] ?_
 refine AW.loopC (α := Nat) (fun x => ⟨27, A6 1 (.ro (qoC false q)) (A6 3 (A4 (x : Nat)) (fun _ => .any)), Hp, [], [], none⟩) (fun x => x ≤ q.cols.length ∧ ∀ s ∈ q.cols.take x, decide ((100 : Int) < (s.length : Int)) = false) (fun x => q.cols.length - x) (0) ⟨Nat.zero_le _, fun s hs => by simp at hs⟩ (StLe.of_eq (by simp)) rfl (fun x hx => ?_)
 refine Z9 ?_;refine Z51 ?_;refine lh ?_;refine R.fin [1, 3, 17] ?_
 refine W.cond (fun ht17 => ?_) (fun ht17 => ?_)
 ·have hlt : x < q.cols.length := by simpa using ht17
  refine Z5 ?_;refine Qk ?_;refine Z51 ?_;refine At ?_;refine R.indexAddr (x) (A8 q.cols[x]) jU jS (Be hlt) ?_;refine Cq ?_;refine U3 ?_;refine R.fin [1, 3, 26] ?_
  refine W.cond (fun ht26 => ?_) (fun ht26 => ?_)
  ·have e := jy ht12 (List.getElem_mem hlt) ht26
   refine Z57 ?_;refine Oa ?_;exact m8
  refine Z17 ?_;refine Qm ?_;refine R.fin [1, 3] ?_;exact K.lpN (x + 1) ⟨hlt, Vn hlt hx.2 ht26⟩ (by omega) (StCut.of_eq rfl)
 have hxe : q.cols.length ≤ x := by simpa using ht17
 have e := jz ht12 (Ze hxe hx.2)
 refine Oe ?_;refine Z57 ?_;exact m8

/-! What is printed is parsed: queries. -/
structure QOk (q : Qry) : Prop where
 all : q.all = ((q.cols.length : Int) == 0)
 len : q.cols.length ≤ 12
 lo : -1 ≤ q.lim
 hi : q.lim ≤ 100000
 names : ∀ s ∈ q.cols, Dg s = true
 tree : Ih q = true → Bx q.whr = true
theorem Zf {q : Qry} (h : Cj q = true) : QOk q := by
 unfold Cj at h
 split at h
 ·cases h
 rename_i h1
 simp only [Bool.or_eq_true, not_or, Bool.not_eq_true, decide_eq_false_iff_not, bne_eq_false_iff_eq] at h1
 obtain ⟨⟨⟨a, b⟩, c⟩, d⟩ := h1
 simp only [Bool.and_eq_true, Bool.or_eq_true, Bool.not_eq_true', List.all_eq_true] at h
 refine ⟨a, by omega, by omega, by omega, h.1, fun ha => ?_⟩
 rcases h.2 with h2 | h2
 ·rw [h2] at ha; cases ha
 exact h2
theorem Zg (a : Str) (r : List Str) : Pt (a :: r) = a ++ Kl r := rfl
def Wt (q : Qry) : Str := if q.all then [42] else Pt q.cols
def dq (q : Qry) : Str := if Ih q then n7 ++ Ag q.whr else []
def k7 (q : Qry) : Str := if q.lim != -1 then n8 ++ Lib.itoa q.lim else []
def a1 (q : Qry) : Str := n6 ++ Wt q
def a2 (q : Qry) : Str := a1 q ++ dq q
def a3 (q : Qry) : Str := a2 q ++ k7 q
theorem Jy (q : Qry) : J3 q = a3 q ++ [59] := rfl
theorem L8 : ∀ r : List Str, Lib.joinTail [44, 32] r = Kl r
 | [] => rfl
 | a :: r => by
  show ([44, 32] ++ a) ++ Lib.joinTail [44, 32] r = _
  rw [L8 r]
  rfl
theorem Q0 (c : List Str) : Lib.join c [44, 32] = Pt c := by
 cases c with
 | nil => rfl
 | cons a r => rw [Lib.join_cons, L8, Zg]
theorem O0 : ∀ c : List Str, (∀ s ∈ c, s.length ≤ 1048576) → (Kl c).length ≤ c.length * 1048578
 | [], _ => Nat.zero_le _
 | a :: r, h => by
  have h1 := O0 r (fun s hs => h s (by simp [hs]))
  have h2 := h a (by simp)
  show (([44, 32] ++ a) ++ Kl r).length ≤ (r.length + 1) * 1048578
  simp only [List.length_append, List.length_cons, List.length_nil]
  omega
theorem Tk {c : List Str} (h : ∀ s ∈ c, s.length ≤ 1048576) : (Pt c).length ≤ c.length * 1048578 := by
 have := O0 c h
 unfold Pt
 rw [List.length_drop]
 omega
/-- query.Print: the text and the error. -/
def L9 (q : Qry) : Str × Int := if Cj q = true then (if decide ((4000 : Int) < ((J3 q).length : Int)) = true then ([], 3) else (J3 q, 0)) else ([], 1)
theorem k8 {q : Qry} (h : Cj q = false) : L9 q = ([], 1) := if_neg (by rw [h]; simp)
theorem Wu {q : Qry} (h : Cj q = true) (h2 : decide ((4000 : Int) < ((J3 q).length : Int)) = true) : L9 q = ([], 3) := by unfold L9; rw [if_pos h, if_pos h2]
theorem k9 {q : Qry} (h : Cj q = true) (h2 : decide ((4000 : Int) < ((J3 q).length : Int)) = false) : L9 q = (J3 q, 0) := by unfold L9; rw [if_pos h, if_neg (by rw [h2]; simp)]
theorem dr {q : Qry} (ha : Ih q = true) (h : 4000 < (Ag q.whr).length) : decide ((4000 : Int) < ((J3 q).length : Int)) = true := by
 rw [decide_eq_true_eq, Jy]
 unfold a3 a2 dq
 rw [if_pos ha]
 simp only [List.length_append]
 omega
theorem dt {q : Qry} (hq : QOk q) (h : ∀ s ∈ q.cols, s.length ≤ 1048576) : (a1 q).length ≤ 13000000 := by
 have h1 := Tk h
 have h2 := hq.len
 unfold a1 Wt n6 Jv
 split <;> simp only [List.length_append, List.length_cons, List.length_nil] <;> omega
theorem du {q : Qry} (hq : QOk q) (hg : Cf F1 q.whr = true) (h : ∀ s ∈ q.cols, s.length ≤ 1048576) : (a2 q).length ≤ 13200000 := by
 have h1 := dt hq h
 unfold a2 dq n7 Fx
 split
 ·rename_i ha
  have := Hs (hq.tree ha) hg
  simp only [List.length_append, List.length_cons, List.length_nil]
  omega
 simp only [List.length_append, List.length_nil]; omega
theorem Wv {q : Qry} (hq : QOk q) : (Lib.itoa q.lim).length ≤ 21 := Lib.itoa_length_le _ (by have := hq.lo; omega) (by have := hq.hi; omega)
theorem nj {q : Qry} (hq : QOk q) (hg : Cf F1 q.whr = true) (h : ∀ s ∈ q.cols, s.length ≤ 1048576) : (a3 q).length ≤ 13300000 := by
 have h1 := du hq hg h
 have h2 := Wv hq
 unfold a3 k7 n8 Fj
 split <;> simp only [List.length_append, List.length_cons, List.length_nil] <;> omega
theorem c16 (q : Qry) (h : QW q) (Hp : List AObj) : AFun Tryz.prog 16 [J4 q] Hp (.tup [A8 (L9 q).1, A4 (L9 q).2]) := by
 refine ACall.body [.tmp 2, .tmp 3] [0] Tryz.func16 Tryz.ntmps16 (fun d => ?_)
 refine Ue ?_;refine R.fin [1] ?_;refine Mc ?_;refine R.call Tryz.call25 (c25 q h _) ?_;refine R.not ?_;refine R.fin [1, 9] ?_
 refine W.cond (fun ht9 => ?_) (fun ht9 => ?_)
 ·have e := k8 (q := q) (by simpa using ht9)
  refine Z3 ?_;refine Z40 ?_;exact ol
 have hr : Cj q = true := by simpa using ht9
 have hq := Zf hr
 have hb1 := dt hq h.names
 have hb2 := du hq h.rng h.names
 have hb3 := nj hq h.rng h.names
 have hbl := Wv hq
 refine Z5 ?_;refine Z3 ?_;refine R.fin [1, 4] ?_
 refine W.join ⟨47, A6 1 (.ro (qoC false q)) (A6 4 (A8 (a1 q)) (fun _ => .any)), Hp, [], [], none⟩ ?_ ?_
 ·refine Ba ?_;refine ls ?_;refine R.not ?_;refine R.fin [1, 4, 12] ?_
  refine W.cond (fun ht12 => ?_) (fun ht12 => ?_)
  ·have ha : q.all = false := by simpa using ht12
   have ej : ([115, 101, 108, 101, 99, 116, 32] : Str) ++ Lib.join q.cols [44, 32] = a1 q := by
    rw [Q0]
    unfold a1 Wt
    rw [ha]
    rfl
   have hjl : (Lib.join q.cols [44, 32]).length ≤ 13000000 := by
    rw [Q0]
    have := Tk h.names
    have := hq.len
    omega
   refine AW.region ?_;refine Z51 ?_
   refine R.call Tryz.call43 (c43 q.cols [44, 32] (by have := h.len; omega) (by omega) _) ?_
   refine R.sadd ?_;refine Au ?_;refine R.fin [1, 4] ?_;refine K.thJ ?_
   try simp only [List.cons_append, List.nil_append] at ej
   exact StLe.of_eq (by rw [ej] <;> rfl)
  have ha : q.all = true := by simpa using ht12
  have ej : ([115, 101, 108, 101, 99, 116, 32, 42] : Str) = a1 q := by
   unfold a1 Wt
   rw [ha]
   rfl
  refine W.keep [1, 4] ?_;refine AW.skip ?_;refine K.thJ ?_
  try simp only [List.cons_append, List.nil_append] at ej
  exact StLe.of_eq (by rw [ej] <;> rfl)
 refine W.join ⟨47, A6 1 (.ro (qoC false q)) (A6 4 (A8 (a2 q)) (fun _ => .any)), Hp, [], [], none⟩ ?_ ?_
 ·refine Z54 ?_;refine R.call Tryz.call30 (c30 q h _) ?_;refine R.fin [1, 4, 18] ?_
  refine W.cond (fun ht18 => ?_) (fun ht18 => ?_)
  ·have hrw := hq.tree ht18
   have hpl := Hs hrw h.rng
   refine Ba ?_;refine Z85 ?_;refine R.call Tryz.call44 (c44 61 q.whr h.ok (by decide) h.rng _) ?_;refine Jb ?_;refine R.fin [1, 4, 5, 6] ?_;refine Mh ?_;refine R.fin [1, 4, 5, 6, 26] ?_
   refine W.cond (fun ht26 => ?_) (fun ht26 => ?_)
   ·have hsm : Gu q.whr = ([], 3) ∧ 4000 < (Ag q.whr).length := by
     rcases Wl hrw with h1 | h1
     ·exact h1
     rw [h1.1] at ht26; cases ht26
    have e := Wu hr (dr ht18 hsm.2)
    rw [hsm.1]
    refine Z0 ?_;refine b6 ?_;refine Z11 ?_;refine K.thR ?_;exact m9
   have hsm : Gu q.whr = (Ag q.whr, 0) := by
    rcases Wl hrw with h1 | h1
    ·rw [h1.1] at ht26; cases ht26
    exact h1.1
   rw [hsm]
   have ej2 : a1 q ++ (([32, 119, 104, 101, 114, 101, 32] : Str) ++ Ag q.whr) = a2 q := by
    unfold a2 dq
    rw [ht18]
    rfl
   refine bc ?_;refine R.sadd ?_;refine R.sadd ?_;refine Au ?_;refine R.fin [1, 4] ?_;refine K.thJ ?_
   try simp only [List.cons_append, List.nil_append] at ej2
   exact StLe.of_eq (by rw [ej2] <;> rfl)
  have ej2 : a1 q = a2 q := by
   unfold a2 dq
   rw [ht18, if_neg (by simp), List.append_nil]
  refine W.keep [1, 4] ?_;refine AW.skip ?_;refine K.thJ ?_
  try simp only [List.cons_append, List.nil_append] at ej2
  exact StLe.of_eq (by rw [ej2] <;> rfl)
 refine W.join ⟨47, A6 4 (A8 (a3 q)) (fun _ => .any), Hp, [], [], none⟩ ?_ ?_
 ·refine Ba ?_;refine fu ?_;refine R.neq ?_;refine R.fin [1, 4, 34] ?_
  refine W.cond (fun ht34 => ?_) (fun ht34 => ?_)
  ·have ej3 : a2 q ++ (([32, 108, 105, 109, 105, 116, 32] : Str) ++ Lib.itoa q.lim) = a3 q := by
    unfold a3 k7
    rw [ht34]
    rfl
   refine Z21 ?_;refine fu ?_
   refine R.call Tryz.call45 (c45 q.lim (by have := hq.lo; omega) (by have := hq.hi; omega) _) ?_
   refine R.sadd ?_;refine R.sadd ?_;refine Au ?_;refine R.fin [4] ?_;refine K.thJ ?_
   try simp only [List.cons_append, List.nil_append] at ej3
   exact StLe.of_eq (by rw [ej3] <;> rfl)
  have ej3 : a2 q = a3 q := by
   unfold a3 k7
   rw [ht34, if_neg (by simp), List.append_nil]
  refine W.keep [4] ?_;refine AW.skip ?_;refine K.thJ ?_
  try simp only [List.cons_append, List.nil_append] at ej3
  exact StLe.of_eq (by rw [ej3] <;> rfl)
 refine Z9 ?_;refine R.sadd ?_;refine Au ?_;refine R.fin [4] ?_;refine Z0 ?_;refine U3 ?_;refine R.fin [4, 45] ?_
 refine W.cond (fun ht45 => ?_) (fun ht45 => ?_)
 ·rw [← Jy] at ht45
  have e := Wu hr ht45
  refine Z3 ?_;refine Z40 ?_;exact ol
 rw [← Jy] at ht45
 have e := k9 hr ht45
 rw [← Jy]
 refine Jc ?_;refine b6 ?_;refine AW.ret ?_;exact m9

def qaT : Str := [115, 101, 108, 101, 99, 116, 32, 97, 44, 116, 32, 119, 104, 101, 114, 101, 32, 97, 62, 51, 32, 108, 105, 109, 105, 116, 32, 50, 59]
def qaP : Str := [115, 101, 108, 101, 99, 116, 32, 97, 44, 32, 116, 32, 119, 104, 101, 114, 101, 32, 97, 32, 62, 32, 51, 32, 108, 105, 109, 105, 116, 32, 50, 59]
def qaQ : Qry := ⟨false, [[97], [116]], Es [62] (D7 [97]) (Fu ⟨1, 3, []⟩), 2⟩
theorem dv : Fy qaT = (qaQ, 0, 0) := by kernel_rfl
theorem ka : L9 qaQ = (qaP, 0) := by kernel_rfl
theorem dw : Bx qaQ.whr = true := by kernel_rfl
theorem rp : QW qaQ := by
 obtain ⟨h1, h2⟩ := Zc dw
 exact ⟨Du (by decide) h1, by omega, by kernel_rfl, by decide, by decide⟩
theorem rq (Hp : List AObj) : AFun Tryz.prog 15 [A8 qaT] Hp (.tup [J4 qaQ, .agg [A4 0, A4 0]]) := by
 have := c6 qaT (by decide) Hp
 rw [dv] at this
 exact this
theorem rr (Hp : List AObj) : AFun Tryz.prog 16 [J4 qaQ] Hp (.tup [A8 qaP, A4 0]) := by
 have := c16 qaQ rp Hp
 rw [ka] at this
 exact this
theorem rt {q : Qry} (h : L7 q = false) (hg : Cf F1 q.whr = true) : QW q := by
 unfold L7 at h
 split at h
 ·cases h
 rename_i h1
 simp only [Bool.or_eq_true, decide_eq_true_eq, not_or, Bool.not_eq_true] at h1
 have hs := ir h1.2
 refine ⟨hs.ok, by have := hs.size; omega, hg, by omega, fun s hs => ?_⟩
 rw [Bool.eq_false_iff] at h
 have : ¬ ((100 : Int) < (s.length : Int)) := fun e => h (List.any_eq_true.2 ⟨s, hs, by simpa using e⟩)
 omega
theorem c5 (Hp : List AObj) : AFun Tryz.prog 6 [] Hp (Ak true) := by
 refine ACall.body [.tmp 0] [] Tryz.func6 Tryz.ntmps6 (fun d => ?_)
 refine Z3 ?_;refine R.fin [] ?_;refine Ba ?_;refine R.call Tryz.call15 (rq _) ?_;refine Z62 ?_;refine R.alloc jZ ?_;refine Z16 ?_;refine Do ?_;refine R.fin [1, 2] ?_;refine Z31 ?_;refine R.call Tryz.call16 (rr _) ?_;refine Jb ?_;refine R.fin [2, 3, 4] ?_;refine Ba ?_;refine i7 ?_;refine In ?_;refine Xx ?_;refine G.eql ?_;refine U5 ?_;refine G.seql ?_;refine Z32 ?_;refine R.fin [0] ?_;exact g8

abbrev Kn (r : Rs) : AV := .tup [Bh r.1, A4 r.2]
abbrev Ww (l : List Int) : AV := .slice false 1 (l.map A4)
abbrev O1 (c : List Col) (l : List Val) : AV := .agg [C0 c, Ev l]
theorem ue (e : Int) (Hp : List AObj) : AFun Tryz.prog 157 [A4 e] Hp (Kn (Bg e)) := by
 refine ACall.body [.cell 2 24, .tmp 3] [0] Tryz.func157 Tryz.ntmps157 (fun d => ?_)
 refine Rv ?_;refine R.fin [0, 2] ?_;refine m4 ?_;refine At ?_;refine Qh ?_;refine AW.ret ?_;exact K.fin (V.two (V.cellN jA jS) V.tmp)

theorem uf (n e : Int) (Hp : List AObj) : AFun Tryz.prog 224 [A4 n, A4 e] Hp (Kn (E9 (n, e))) := by
 refine ACall.body [.cell 4 24, .tmp 5] [0, 1] Tryz.func224 Tryz.ntmps224 (fun d => ?_)
 refine Rv ?_;refine R.fin [0, 1, 4] ?_;refine Mh ?_;refine R.fin [0, 1, 4, 7] ?_
 refine W.cond (fun ht7 => ?_) (fun ht7 => ?_)
 ·have hw : E9 (n, e) = Bg e := if_pos ht7
  refine Z0 ?_;refine Z43 ?_;refine Mg ?_;exact qd
 have hw : E9 (n, e) = (⟨1, n, []⟩, 0) := if_neg (by rw [ht7]; simp)
 refine Jc ?_;refine R.call Tryz.call197 (mh _ _) ?_;refine Do ?_;refine Z23 ?_;exact qd

theorem Tl {vs : List Val} {ks : List Int} (hl : ks.length ≤ vs.length) {x : Nat} (hk : x < ks.length) (hx : Cm vs ks = Cm (vs.drop x) (ks.drop x)) : Cm vs ks = ((vs[x].kind == ks[x]) && Cm (vs.drop (x + 1)) (ks.drop (x + 1))) := by
 rw [hx, List.drop_eq_getElem_cons hk, List.drop_eq_getElem_cons (show x < vs.length by omega), Cm]
theorem dx (vs : List Val) (ks : List Int) (hks : ks.length ≤ vs.length) (hk2 : ks.length ≤ 1048576) (Hp : List AObj) : AFun Tryz.prog 223 [Ev vs, Ww ks] Hp (Ak (Cm vs ks)) := by
 refine ACall.body [.tmp 4] [0, 1] Tryz.func223 Tryz.ntmps223 (fun d => ?_)
 refine Z87 ?_;refine Of ?_;refine R.fin [0, 7, 8, 9] ?_
 refine AW.loopC (α := Nat) (fun x => ⟨22, A6 0 (Ev vs) (A6 7 (Ww ks) (A6 8 (A4 (ks.length : Nat)) (A6 9 (A4 (x : Nat)) (fun _ => .any)))), Hp, [], [], none⟩) (fun x => x ≤ ks.length ∧ Cm vs ks = Cm (vs.drop x) (ks.drop x)) (fun x => ks.length - x) (0) ⟨Nat.zero_le _, rfl⟩ (StLe.of_eq (by simp)) rfl (fun x hx => ?_)
 refine Z89 ?_;refine R.fin [0, 7, 8, 9, 10] ?_
 refine W.condX (fun ht10 => ?_) (fun ht10 => ?_)
 ·have hlt : x < ks.length := by simpa using ht10
  have hls : x < vs.length := by omega
  have hst := Tl hks hlt hx.2
  refine Gg ?_;refine R.indexAddr (x) (A4 ks[x]) jU jS (Be hlt) ?_;refine Cq ?_;refine Z14 ?_;refine R.fin [0, 5, 6, 7, 8, 9] ?_;refine Z29 ?_;refine R.indexAddr (x) (Bh vs[x]) jU jS (Be hls) ?_;refine Z15 ?_;refine At ?_;refine R.neq ?_;refine R.fin [0, 7, 8, 9, 20] ?_
  refine W.cond (fun ht20 => ?_) (fun ht20 => ?_)
  ·have hm : Cm vs ks = false := by rw [hst]; simp only [bne_iff_ne, ne_eq] at ht20; simp [ht20]
   refine Uh ?_;exact ax
  have hn : Cm vs ks = Cm (vs.drop (x + 1)) (ks.drop (x + 1)) := by rw [hst]; simp only [bne_eq_false_iff_eq] at ht20; simp [ht20]
  refine Mi ?_;refine R.fin [0, 7, 8, 9] ?_;exact oh
 have hxe : ks.length ≤ x := by simpa using ht10
 have hm : Cm vs ks = true := by rw [hx.2, List.drop_of_length_le hxe]; cases vs.drop x <;> rfl
 refine Z55 ?_;exact gx

theorem ug (t : Str) (c : Int) (Hp : List AObj) : AFun Tryz.prog 237 [A8 t, A4 c] Hp (.tup [Ak (A5 t c).1, Ak (A5 t c).2]) := by
 refine ACall.body [.tmp 4, .tmp 5] [0, 1] Tryz.func237 Tryz.ntmps237 (fun d => ?_)
 refine Uf ?_;refine Z9 ?_;refine R.fin [1, 6] ?_;refine Eq ?_;refine Z19 ?_;refine R.fin [1, 6, 7] ?_
 refine W.cond (fun ht7 => ?_) (fun ht7 => ?_)
 ·refine Z0 ?_;refine Z20 ?_;refine Od ?_
  first | (by_cases e0 : A5 t c = (c == 0, true); exact K.fin (V.two V.tmp V.tmp) ⟨by rw [e0]; try rfl, rfl⟩; exfalso; refine e0 ?_; clear e0; simp_all [A5]; done) | (by_cases e0 : A5 t c = (c != 0, true); exact K.fin (V.two V.tmp V.tmp) ⟨by rw [e0]; try rfl, rfl⟩; exfalso; refine e0 ?_; clear e0; simp_all [A5]; done) | (by_cases e0 : A5 t c = (decide (c < 0), true); exact K.fin (V.two V.tmp V.tmp) ⟨by rw [e0]; try rfl, rfl⟩; exfalso; refine e0 ?_; clear e0; simp_all [A5]; done) | (by_cases e0 : A5 t c = (decide (c ≤ 0), true); exact K.fin (V.two V.tmp V.tmp) ⟨by rw [e0]; try rfl, rfl⟩; exfalso; refine e0 ?_; clear e0; simp_all [A5]; done) | (by_cases e0 : A5 t c = (decide (0 < c), true); exact K.fin (V.two V.tmp V.tmp) ⟨by rw [e0]; try rfl, rfl⟩; exfalso; refine e0 ?_; clear e0; simp_all [A5]; done) | (by_cases e0 : A5 t c = (decide (0 ≤ c), true); exact K.fin (V.two V.tmp V.tmp) ⟨by rw [e0]; try rfl, rfl⟩; exfalso; refine e0 ?_; clear e0; simp_all [A5]; done) | (by_cases e0 : A5 t c = (false, false); exact K.fin (V.two V.tmp V.tmp) ⟨by rw [e0]; try rfl, rfl⟩; exfalso; refine e0 ?_; clear e0; simp_all [A5]; done)
 refine Z19 ?_;refine R.fin [1, 6, 11] ?_
 refine W.cond (fun ht11 => ?_) (fun ht11 => ?_)
 ·refine Z0 ?_;refine R.neq ?_;refine Qn ?_
  first | (by_cases e0 : A5 t c = (c == 0, true); exact K.fin (V.two V.tmp V.tmp) ⟨by rw [e0]; try rfl, rfl⟩; exfalso; refine e0 ?_; clear e0; simp_all [A5]; done) | (by_cases e0 : A5 t c = (c != 0, true); exact K.fin (V.two V.tmp V.tmp) ⟨by rw [e0]; try rfl, rfl⟩; exfalso; refine e0 ?_; clear e0; simp_all [A5]; done) | (by_cases e0 : A5 t c = (decide (c < 0), true); exact K.fin (V.two V.tmp V.tmp) ⟨by rw [e0]; try rfl, rfl⟩; exfalso; refine e0 ?_; clear e0; simp_all [A5]; done) | (by_cases e0 : A5 t c = (decide (c ≤ 0), true); exact K.fin (V.two V.tmp V.tmp) ⟨by rw [e0]; try rfl, rfl⟩; exfalso; refine e0 ?_; clear e0; simp_all [A5]; done) | (by_cases e0 : A5 t c = (decide (0 < c), true); exact K.fin (V.two V.tmp V.tmp) ⟨by rw [e0]; try rfl, rfl⟩; exfalso; refine e0 ?_; clear e0; simp_all [A5]; done) | (by_cases e0 : A5 t c = (decide (0 ≤ c), true); exact K.fin (V.two V.tmp V.tmp) ⟨by rw [e0]; try rfl, rfl⟩; exfalso; refine e0 ?_; clear e0; simp_all [A5]; done) | (by_cases e0 : A5 t c = (false, false); exact K.fin (V.two V.tmp V.tmp) ⟨by rw [e0]; try rfl, rfl⟩; exfalso; refine e0 ?_; clear e0; simp_all [A5]; done)
 refine Z19 ?_;refine R.fin [1, 6, 15] ?_
 refine W.cond (fun ht15 => ?_) (fun ht15 => ?_)
 ·refine Z0 ?_;refine R.lss ?_;refine Qn ?_
  first | (by_cases e0 : A5 t c = (c == 0, true); exact K.fin (V.two V.tmp V.tmp) ⟨by rw [e0]; try rfl, rfl⟩; exfalso; refine e0 ?_; clear e0; simp_all [A5]; done) | (by_cases e0 : A5 t c = (c != 0, true); exact K.fin (V.two V.tmp V.tmp) ⟨by rw [e0]; try rfl, rfl⟩; exfalso; refine e0 ?_; clear e0; simp_all [A5]; done) | (by_cases e0 : A5 t c = (decide (c < 0), true); exact K.fin (V.two V.tmp V.tmp) ⟨by rw [e0]; try rfl, rfl⟩; exfalso; refine e0 ?_; clear e0; simp_all [A5]; done) | (by_cases e0 : A5 t c = (decide (c ≤ 0), true); exact K.fin (V.two V.tmp V.tmp) ⟨by rw [e0]; try rfl, rfl⟩; exfalso; refine e0 ?_; clear e0; simp_all [A5]; done) | (by_cases e0 : A5 t c = (decide (0 < c), true); exact K.fin (V.two V.tmp V.tmp) ⟨by rw [e0]; try rfl, rfl⟩; exfalso; refine e0 ?_; clear e0; simp_all [A5]; done) | (by_cases e0 : A5 t c = (decide (0 ≤ c), true); exact K.fin (V.two V.tmp V.tmp) ⟨by rw [e0]; try rfl, rfl⟩; exfalso; refine e0 ?_; clear e0; simp_all [A5]; done) | (by_cases e0 : A5 t c = (false, false); exact K.fin (V.two V.tmp V.tmp) ⟨by rw [e0]; try rfl, rfl⟩; exfalso; refine e0 ?_; clear e0; simp_all [A5]; done)
 refine Z19 ?_;refine R.fin [1, 6, 19] ?_
 refine W.cond (fun ht19 => ?_) (fun ht19 => ?_)
 ·refine Z0 ?_;refine R.leq ?_;refine Qn ?_
  first | (by_cases e0 : A5 t c = (c == 0, true); exact K.fin (V.two V.tmp V.tmp) ⟨by rw [e0]; try rfl, rfl⟩; exfalso; refine e0 ?_; clear e0; simp_all [A5]; done) | (by_cases e0 : A5 t c = (c != 0, true); exact K.fin (V.two V.tmp V.tmp) ⟨by rw [e0]; try rfl, rfl⟩; exfalso; refine e0 ?_; clear e0; simp_all [A5]; done) | (by_cases e0 : A5 t c = (decide (c < 0), true); exact K.fin (V.two V.tmp V.tmp) ⟨by rw [e0]; try rfl, rfl⟩; exfalso; refine e0 ?_; clear e0; simp_all [A5]; done) | (by_cases e0 : A5 t c = (decide (c ≤ 0), true); exact K.fin (V.two V.tmp V.tmp) ⟨by rw [e0]; try rfl, rfl⟩; exfalso; refine e0 ?_; clear e0; simp_all [A5]; done) | (by_cases e0 : A5 t c = (decide (0 < c), true); exact K.fin (V.two V.tmp V.tmp) ⟨by rw [e0]; try rfl, rfl⟩; exfalso; refine e0 ?_; clear e0; simp_all [A5]; done) | (by_cases e0 : A5 t c = (decide (0 ≤ c), true); exact K.fin (V.two V.tmp V.tmp) ⟨by rw [e0]; try rfl, rfl⟩; exfalso; refine e0 ?_; clear e0; simp_all [A5]; done) | (by_cases e0 : A5 t c = (false, false); exact K.fin (V.two V.tmp V.tmp) ⟨by rw [e0]; try rfl, rfl⟩; exfalso; refine e0 ?_; clear e0; simp_all [A5]; done)
 refine Z19 ?_;refine R.fin [1, 6, 23] ?_
 refine W.cond (fun ht23 => ?_) (fun ht23 => ?_)
 ·refine Z0 ?_;refine R.gtr ?_;refine Qn ?_
  first | (by_cases e0 : A5 t c = (c == 0, true); exact K.fin (V.two V.tmp V.tmp) ⟨by rw [e0]; try rfl, rfl⟩; exfalso; refine e0 ?_; clear e0; simp_all [A5]; done) | (by_cases e0 : A5 t c = (c != 0, true); exact K.fin (V.two V.tmp V.tmp) ⟨by rw [e0]; try rfl, rfl⟩; exfalso; refine e0 ?_; clear e0; simp_all [A5]; done) | (by_cases e0 : A5 t c = (decide (c < 0), true); exact K.fin (V.two V.tmp V.tmp) ⟨by rw [e0]; try rfl, rfl⟩; exfalso; refine e0 ?_; clear e0; simp_all [A5]; done) | (by_cases e0 : A5 t c = (decide (c ≤ 0), true); exact K.fin (V.two V.tmp V.tmp) ⟨by rw [e0]; try rfl, rfl⟩; exfalso; refine e0 ?_; clear e0; simp_all [A5]; done) | (by_cases e0 : A5 t c = (decide (0 < c), true); exact K.fin (V.two V.tmp V.tmp) ⟨by rw [e0]; try rfl, rfl⟩; exfalso; refine e0 ?_; clear e0; simp_all [A5]; done) | (by_cases e0 : A5 t c = (decide (0 ≤ c), true); exact K.fin (V.two V.tmp V.tmp) ⟨by rw [e0]; try rfl, rfl⟩; exfalso; refine e0 ?_; clear e0; simp_all [A5]; done) | (by_cases e0 : A5 t c = (false, false); exact K.fin (V.two V.tmp V.tmp) ⟨by rw [e0]; try rfl, rfl⟩; exfalso; refine e0 ?_; clear e0; simp_all [A5]; done)
 refine Z19 ?_;refine R.fin [1, 27] ?_
 refine W.cond (fun ht27 => ?_) (fun ht27 => ?_)
 ·refine Z0 ?_;refine R.geq ?_;refine Qn ?_
  first | (by_cases e0 : A5 t c = (c == 0, true); exact K.fin (V.two V.tmp V.tmp) ⟨by rw [e0]; try rfl, rfl⟩; exfalso; refine e0 ?_; clear e0; simp_all [A5]; done) | (by_cases e0 : A5 t c = (c != 0, true); exact K.fin (V.two V.tmp V.tmp) ⟨by rw [e0]; try rfl, rfl⟩; exfalso; refine e0 ?_; clear e0; simp_all [A5]; done) | (by_cases e0 : A5 t c = (decide (c < 0), true); exact K.fin (V.two V.tmp V.tmp) ⟨by rw [e0]; try rfl, rfl⟩; exfalso; refine e0 ?_; clear e0; simp_all [A5]; done) | (by_cases e0 : A5 t c = (decide (c ≤ 0), true); exact K.fin (V.two V.tmp V.tmp) ⟨by rw [e0]; try rfl, rfl⟩; exfalso; refine e0 ?_; clear e0; simp_all [A5]; done) | (by_cases e0 : A5 t c = (decide (0 < c), true); exact K.fin (V.two V.tmp V.tmp) ⟨by rw [e0]; try rfl, rfl⟩; exfalso; refine e0 ?_; clear e0; simp_all [A5]; done) | (by_cases e0 : A5 t c = (decide (0 ≤ c), true); exact K.fin (V.two V.tmp V.tmp) ⟨by rw [e0]; try rfl, rfl⟩; exfalso; refine e0 ?_; clear e0; simp_all [A5]; done) | (by_cases e0 : A5 t c = (false, false); exact K.fin (V.two V.tmp V.tmp) ⟨by rw [e0]; try rfl, rfl⟩; exfalso; refine e0 ?_; clear e0; simp_all [A5]; done)
 refine Z17 ?_;refine Z3 ?_;refine Z23 ?_
 first | (by_cases e0 : A5 t c = (c == 0, true); exact K.fin (V.two V.tmp V.tmp) ⟨by rw [e0]; try rfl, rfl⟩; exfalso; refine e0 ?_; clear e0; simp_all [A5]; done) | (by_cases e0 : A5 t c = (c != 0, true); exact K.fin (V.two V.tmp V.tmp) ⟨by rw [e0]; try rfl, rfl⟩; exfalso; refine e0 ?_; clear e0; simp_all [A5]; done) | (by_cases e0 : A5 t c = (decide (c < 0), true); exact K.fin (V.two V.tmp V.tmp) ⟨by rw [e0]; try rfl, rfl⟩; exfalso; refine e0 ?_; clear e0; simp_all [A5]; done) | (by_cases e0 : A5 t c = (decide (c ≤ 0), true); exact K.fin (V.two V.tmp V.tmp) ⟨by rw [e0]; try rfl, rfl⟩; exfalso; refine e0 ?_; clear e0; simp_all [A5]; done) | (by_cases e0 : A5 t c = (decide (0 < c), true); exact K.fin (V.two V.tmp V.tmp) ⟨by rw [e0]; try rfl, rfl⟩; exfalso; refine e0 ?_; clear e0; simp_all [A5]; done) | (by_cases e0 : A5 t c = (decide (0 ≤ c), true); exact K.fin (V.two V.tmp V.tmp) ⟨by rw [e0]; try rfl, rfl⟩; exfalso; refine e0 ?_; clear e0; simp_all [A5]; done) | (by_cases e0 : A5 t c = (false, false); exact K.fin (V.two V.tmp V.tmp) ⟨by rw [e0]; try rfl, rfl⟩; exfalso; refine e0 ?_; clear e0; simp_all [A5]; done)

theorem ru (a b : Int) (Hp : List AObj) : AFun Tryz.prog 241 [A4 a, A4 b] Hp (.tup [A4 (Hm a b).1, A4 (Hm a b).2]) := by
 refine ACall.body [.tmp 4, .tmp 5] [0, 1] Tryz.func241 Tryz.ntmps241 (fun d => ?_)
 refine Uf ?_;refine Z29 ?_;refine R.sub ?_;refine Au ?_;refine R.fin [0, 1, 6] ?_;refine Lh ?_;refine R.xor ?_;refine Z79 ?_;refine R.xor ?_;refine R.and ?_;refine R.lss ?_;refine R.fin [6, 17] ?_
 refine W.cond (fun ht17 => ?_) (fun ht17 => ?_)
 ·have hm : Hm a b = (0, 4) := if_pos ht17
  refine Z3 ?_;exact p8
 have hm : Hm a b = (IntKind.i64.wrap (a - b), 0) := if_neg (by rw [ht17]; simp)
 refine Z5 ?_;refine Z64 ?_;exact ph

theorem uh (a b : Int) (Hp : List AObj) : AFun Tryz.prog 248 [A4 a, A4 b] Hp (.tup [A4 (No a b).1, A4 (No a b).2]) := by
 refine ACall.body [.tmp 4, .tmp 5] [0, 1] Tryz.func248 Tryz.ntmps248 (fun d => ?_)
 refine Uf ?_;refine Z29 ?_;refine R.add ?_;refine Au ?_;refine R.fin [0, 1, 6] ?_;refine Lh ?_;refine R.xor ?_;refine Z79 ?_;refine R.xor ?_;refine R.and ?_;refine R.lss ?_;refine R.fin [6, 17] ?_
 refine W.cond (fun ht17 => ?_) (fun ht17 => ?_)
 ·have hm : No a b = (0, 4) := if_pos ht17
  refine Z3 ?_;exact p8
 have hm : No a b = (IntKind.i64.wrap (a + b), 0) := if_neg (by rw [ht17]; simp)
 refine Z5 ?_;refine Z64 ?_;exact ph

theorem ui (a : Int) (Hp : List AObj) : AFun Tryz.prog 225 [A4 a] Hp (.tup [A4 (Hm 0 a).1, A4 (Hm 0 a).2]) := by
 refine ACall.body [.tmp 2, .tmp 3] [0] Tryz.func225 Tryz.ntmps225 (fun d => ?_)
 refine Z3 ?_;refine Au ?_;refine R.fin [0] ?_;refine Z0 ?_;refine R.call Tryz.call241 (ru _ _ _) ?_;refine Z8 ?_;refine b6 ?_;refine AW.ret ?_;exact K.fin (V.two V.tmp V.tmp)

theorem rx (a : Int) (Hp : List AObj) : AFun Tryz.prog 258 [A4 a] Hp (bi (L3 a)) := by
 refine ACall.body [.tmp 2] [0] Tryz.func258 Tryz.ntmps258 (fun d => ?_)
 refine Z88 ?_;refine Ub ?_;refine R.fin [0, 4] ?_
 refine W.cond (fun ht4 => ?_) (fun ht4 => ?_)
 ·have hm : L3 a = IntKind.u64.wrap (0 - IntKind.u64.wrap a) := if_pos ht4
  refine Z0 ?_;refine R.iconv jU jU ?_;refine R.neg ?_;refine Z76 ?_;exact Z60
 have hm : L3 a = IntKind.u64.wrap a := if_neg (by rw [ht4]; simp)
 refine Jc ?_;refine R.iconv jU jU ?_;refine Z76 ?_;exact Y1

theorem nk (n : Int) : 0 ≤ IntKind.u64.wrap n ∧ IntKind.u64.wrap n < 18446744073709551616 := by rw [IntKind.wrap_u64]; omega
theorem dy (a : Int) : 0 ≤ L3 a ∧ L3 a < 18446744073709551616 := by
 unfold L3
 split <;> exact nk _
theorem uj (x y : Int) (hx : 0 ≤ x ∧ x < 18446744073709551616) (hy : 0 ≤ y ∧ y < 18446744073709551616) (Hp : List AObj) : AFun Tryz.prog 257 [bi x, bi y] Hp (.tup [bi (x * y / 18446744073709551616), bi (x * y % 18446744073709551616)]) := by
 obtain ⟨m, rfl⟩ := Int.eq_ofNat_of_zero_le hx.1
 obtain ⟨n, rfl⟩ := Int.eq_ofNat_of_zero_le hy.1
 refine AFun.lib (xs := [.int .u64 m, .int .u64 n]) (v := .tuple #[.int .u64 ((m * n / 18446744073709551616 : Nat) : Int), .int .u64 ((m * n % 18446744073709551616 : Nat) : Int)]) (fun G w => Gd rfl (fun i y u hy hu => ?_)) (fun w hg => ?_)
 ·match i with
  | 0 => simp at hy hu; subst hy; subst hu; exact .v _ _
  | 1 => simp at hy hu; subst hy; subst hu; exact .v _ _
  | i + 2 => simp at hy
 refine (Any.bits_Mul64 Tryz.lays264 m n (by omega) (by omega) w).mono ?_
 rintro e w' ⟨rfl, rfl⟩
 exact ⟨rfl, Go.RowKit.Below.refl _ _⟩
theorem uk (s t : Str) (Hp : List AObj) : AFun Tryz.prog 247 [A8 s, A8 t] Hp (A4 (Lib.compareBytes s t)) := by
 refine AFun.lib (xs := [sv s, sv t]) (v := .int .i64 (Lib.compareBytes s t)) (fun G w => .v _ _) (fun w hg => ?_)
 refine (Any.strings_Compare Tryz.lays106 ⟨s.toArray⟩ ⟨t.toArray⟩ w).mono ?_
 rintro e w' ⟨rfl, rfl⟩
 exact ⟨rfl, Go.RowKit.Below.refl _ _⟩
theorem ul (a b : Int) (Hp : List AObj) : AFun Tryz.prog 249 [A4 a, A4 b] Hp (.tup [A4 (Iv a b).1, A4 (Iv a b).2]) := by
 refine ACall.body [.tmp 4, .tmp 5] [0, 1] Tryz.func249 Tryz.ntmps249 (fun d => ?_)
 refine Uf ?_;refine Z0 ?_;refine R.call Tryz.call258 (rx _ _) ?_;refine At ?_;refine R.call Tryz.call258 (rx _ _) ?_;refine R.call Tryz.call257 (uj _ _ (dy a) (dy b) _) ?_;refine Jb ?_;refine R.fin [0, 1, 6, 7] ?_;refine Z0 ?_;refine R.lss ?_;refine At ?_;refine R.lss ?_;refine R.bneq jU ?_;refine Au ?_;refine R.fin [6, 7, 8] ?_;refine Z3 ?_;refine R.fin [6, 7, 8, 9] ?_;refine Z9 ?_;refine R.fin [6, 7, 8, 9, 23] ?_
 refine W.cond (fun ht23 => ?_) (fun ht23 => ?_)
 ·refine Z21 ?_;refine R.add ?_;refine Au ?_;refine R.fin [6, 7, 8, 9] ?_;refine K.thN ?_;refine Gg ?_;refine R.gtr ?_;refine Me ?_;refine Md ?_;refine Au ?_;refine R.fin [7, 8, 26] ?_
  refine W.cond (fun ht26 => ?_) (fun ht26 => ?_)
  ·refine Z3 ?_;refine Od ?_
   exact K.fin (V.two V.tmp V.tmp) ⟨by
    have w1 : IntKind.u64.wrap 9223372036854775808 = 9223372036854775808 := rfl
    simp_all [Iv]
    try first | (rw [if_pos ht26]; simp; done) | (rw [if_neg (by omega)]; simp; done), rfl⟩
  refine Z64 ?_;refine R.fin [7, 34] ?_
  refine W.cond (fun ht34 => ?_) (fun ht34 => ?_)
  ·refine Z0 ?_;refine R.neg ?_;refine R.iconv jU jU ?_;refine Qn ?_
   exact K.fin (V.two V.tmp V.tmp) ⟨by
    have w1 : IntKind.u64.wrap 9223372036854775808 = 9223372036854775808 := rfl
    simp_all [Iv]
    try first | (rw [if_pos ht26]; simp; done) | (rw [if_neg (by omega)]; simp; done), rfl⟩
  refine Z17 ?_;refine Z0 ?_;refine R.iconv jU jU ?_;refine Z91 ?_
  exact K.fin (V.two V.tmp V.tmp) ⟨by
   have w1 : IntKind.u64.wrap 9223372036854775808 = 9223372036854775808 := rfl
   simp_all [Iv]
   try first | (rw [if_pos ht26]; simp; done) | (rw [if_neg (by omega)]; simp; done), rfl⟩
 refine Z5 ?_;refine Gg ?_;refine R.gtr ?_;refine Me ?_;refine Md ?_;refine Au ?_;refine R.fin [7, 8, 26] ?_
 refine W.cond (fun ht26 => ?_) (fun ht26 => ?_)
 ·refine Z3 ?_;refine Od ?_
  exact K.fin (V.two V.tmp V.tmp) ⟨by
   have w1 : IntKind.u64.wrap 9223372036854775808 = 9223372036854775808 := rfl
   simp_all [Iv]
   try first | (rw [if_pos ht26]; simp; done) | (rw [if_neg (by omega)]; simp; done), rfl⟩
 refine Z64 ?_;refine R.fin [7, 34] ?_
 refine W.cond (fun ht34 => ?_) (fun ht34 => ?_)
 ·refine Z0 ?_;refine R.neg ?_;refine R.iconv jU jU ?_;refine Qn ?_
  exact K.fin (V.two V.tmp V.tmp) ⟨by
   have w1 : IntKind.u64.wrap 9223372036854775808 = 9223372036854775808 := rfl
   simp_all [Iv]
   try first | (rw [if_pos ht26]; simp; done) | (rw [if_neg (by omega)]; simp; done), rfl⟩
 refine Z17 ?_;refine Z0 ?_;refine R.iconv jU jU ?_;refine Z91 ?_
 exact K.fin (V.two V.tmp V.tmp) ⟨by
  have w1 : IntKind.u64.wrap 9223372036854775808 = 9223372036854775808 := rfl
  simp_all [Iv]
  try first | (rw [if_pos ht26]; simp; done) | (rw [if_neg (by omega)]; simp; done), rfl⟩

theorem um (a b : Int) (Hp : List AObj) : AFun Tryz.prog 250 [A4 a, A4 b] Hp (.tup [A4 (Ea a b).1, A4 (Ea a b).2]) := by
 refine ACall.body [.tmp 4, .tmp 5] [0, 1] Tryz.func250 Tryz.ntmps250 (fun d => ?_)
 refine Uf ?_;refine Gg ?_;refine Z20 ?_;refine R.fin [0, 1, 6] ?_
 refine W.cond (fun ht6 => ?_) (fun ht6 => ?_)
 ·refine Z3 ?_;refine Od ?_
  first | (by_cases e0 : Ea a b = (0, 5); exact K.fin (V.two V.tmp V.tmp) ⟨by rw [e0]; try rfl, rfl⟩; exfalso; refine e0 ?_; clear e0; simp_all [Ea]; done) | (by_cases e0 : Ea a b = (0, 4); exact K.fin (V.two V.tmp V.tmp) ⟨by rw [e0]; try rfl, rfl⟩; exfalso; refine e0 ?_; clear e0; simp_all [Ea]; done) | (by_cases e0 : Ea a b = (IntKind.i64.wrap (a.tdiv b), 0); exact K.fin (V.two V.tmp V.tmp) ⟨by rw [e0]; try rfl, rfl⟩; exfalso; refine e0 ?_; clear e0; simp_all [Ea]; done)
 refine Z0 ?_;refine Xx ?_;refine an ?_;refine R.fin [0, 1, 9] ?_
 refine W.cond (fun ht9 => ?_) (fun ht9 => ?_)
 ·refine Z3 ?_;refine Od ?_
  first | (by_cases e0 : Ea a b = (0, 5); exact K.fin (V.two V.tmp V.tmp) ⟨by rw [e0]; try rfl, rfl⟩; exfalso; refine e0 ?_; clear e0; simp_all [Ea]; done) | (by_cases e0 : Ea a b = (0, 4); exact K.fin (V.two V.tmp V.tmp) ⟨by rw [e0]; try rfl, rfl⟩; exfalso; refine e0 ?_; clear e0; simp_all [Ea]; done) | (by_cases e0 : Ea a b = (IntKind.i64.wrap (a.tdiv b), 0); exact K.fin (V.two V.tmp V.tmp) ⟨by rw [e0]; try rfl, rfl⟩; exfalso; refine e0 ?_; clear e0; simp_all [Ea]; done)
 refine Z17 ?_;refine Z29 ?_;refine R.quo (h0 := by simpa using ht6) ?_;refine Z91 ?_
 first | (by_cases e0 : Ea a b = (0, 5); exact K.fin (V.two V.tmp V.tmp) ⟨by rw [e0]; try rfl, rfl⟩; exfalso; refine e0 ?_; clear e0; simp_all [Ea]; done) | (by_cases e0 : Ea a b = (0, 4); exact K.fin (V.two V.tmp V.tmp) ⟨by rw [e0]; try rfl, rfl⟩; exfalso; refine e0 ?_; clear e0; simp_all [Ea]; done) | (by_cases e0 : Ea a b = (IntKind.i64.wrap (a.tdiv b), 0); exact K.fin (V.two V.tmp V.tmp) ⟨by rw [e0]; try rfl, rfl⟩; exfalso; refine e0 ?_; clear e0; simp_all [Ea]; done)

theorem Zh {a b : Int} (ha : -9223372036854775808 ≤ a ∧ a ≤ 9223372036854775807) : IntKind.i64.wrap (a.tmod b) = a.tmod b := by
 have h1 : (a.tmod b).natAbs ≤ a.natAbs := by rw [Int.natAbs_tmod]; exact Nat.mod_le _ _
 rw [IntKind.wrap_i64]
 rcases Int.le_total 0 a with h | h
 ·have := Int.tmod_nonneg b h
  omega
 have h2 := Int.tmod_nonneg b (show 0 ≤ -a by omega)
 rw [Int.neg_tmod] at h2
 omega
theorem un (a b : Int) (ha : -9223372036854775808 ≤ a ∧ a ≤ 9223372036854775807) (Hp : List AObj) : AFun Tryz.prog 251 [A4 a, A4 b] Hp (.tup [A4 (Jr a b).1, A4 (Jr a b).2]) := by
 refine ACall.body [.tmp 4, .tmp 5] [0, 1] Tryz.func251 Tryz.ntmps251 (fun d => ?_)
 refine Uf ?_;refine Z9 ?_;refine R.fin [0, 1, 6] ?_;refine Ru ?_;refine R.fin [0, 1, 6, 7] ?_
 refine W.cond (fun ht7 => ?_) (fun ht7 => ?_)
 ·have hm : Jr a b = (0, 5) := if_pos ht7
  refine Z3 ?_;exact p9
 refine Z48 ?_;refine R.fin [0, 1, 9] ?_
 refine W.cond (fun ht9 => ?_) (fun ht9 => ?_)
 ·have hm : Jr a b = (0, 0) := by unfold Jr; rw [if_neg (by rw [ht7]; simp), if_pos ht9]
  refine Z3 ?_;exact p9
 have hm : Jr a b = (a.tmod b, 0) := by unfold Jr; rw [if_neg (by rw [ht7]; simp), if_neg (by rw [ht9]; simp), Zh ha]
 refine Z17 ?_;refine Z29 ?_;refine R.rem (h0 := by simpa using ht7) ?_;refine Z91 ?_;exact i8

theorem ry (a : Int) (Hp : List AObj) : AFun Tryz.prog 254 [A4 a] Hp (Ak false) := by
 refine ACall.body [.tmp 2] [0] Tryz.func254 Tryz.ntmps254 (fun d => ?_)
 refine Z88 ?_;refine Z29 ?_;refine R.neq ?_;exact pt

theorem rz (a : Int) (Hp : List AObj) : AFun Tryz.prog 255 [A4 a] Hp (Ak false) := by
 refine ACall.body [.tmp 2] [0] Tryz.func255 Tryz.ntmps255 (fun d => ?_)
 refine Z88 ?_;refine Z29 ?_;refine R.neq ?_;exact pt

theorem uo (a b : Int) (Hp : List AObj) : AFun Tryz.prog 245 [A4 a, A4 b] Hp (A4 (Gw a b)) := by
 refine ACall.body [.tmp 4] [0, 1] Tryz.func245 Tryz.ntmps245 (fun d => ?_)
 refine Z87 ?_;refine Z0 ?_;refine R.call Tryz.call254 (ry _ _) ?_;refine Au ?_;refine R.fin [0, 1, 5] ?_;refine Z0 ?_;refine R.call Tryz.call254 (ry _ _) ?_;refine Au ?_;refine R.fin [0, 1, 5, 6] ?_;refine Z9 ?_;refine R.fin [0, 1, 6, 11] ?_
 refine W.cond (fun ht11 => ?_) (fun ht11 => ?_)
 ·cases ht11
 refine Z5 ?_;refine Z9 ?_;refine R.fin [0, 1, 13] ?_
 refine W.cond (fun ht13 => ?_) (fun ht13 => ?_)
 ·cases ht13
 refine Z5 ?_;refine Lh ?_;refine R.lss ?_;refine R.fin [0, 1, 16] ?_
 refine W.cond (fun ht16 => ?_) (fun ht16 => ?_)
 ·have hm : Gw a b = -1 := if_pos ht16
  exact Xs
 refine Z5 ?_;refine Lh ?_;refine R.gtr ?_;refine R.fin [19] ?_
 refine W.cond (fun ht19 => ?_) (fun ht19 => ?_)
 ·have hm : Gw a b = 1 := by unfold Gw; rw [if_neg (by rw [ht16]; simp), if_pos ht19]
  exact Xs
 have hm : Gw a b = 0 := by unfold Gw; rw [if_neg (by rw [ht16]; simp), if_neg (by rw [ht19]; simp)]
 refine Z5 ?_;exact gx

theorem uq (a b : Int) (Hp : List AObj) : AFun Tryz.prog 246 [A4 a, A4 b] Hp (A4 (Gw a b)) := by
 refine ACall.body [.tmp 4] [0, 1] Tryz.func246 Tryz.ntmps246 (fun d => ?_)
 refine Z87 ?_;refine Z0 ?_;refine R.call Tryz.call255 (rz _ _) ?_;refine Au ?_;refine R.fin [0, 1, 5] ?_;refine Z0 ?_;refine R.call Tryz.call255 (rz _ _) ?_;refine Au ?_;refine R.fin [0, 1, 5, 6] ?_;refine Z9 ?_;refine R.fin [0, 1, 6, 11] ?_
 refine W.cond (fun ht11 => ?_) (fun ht11 => ?_)
 ·cases ht11
 refine Z5 ?_;refine Z9 ?_;refine R.fin [0, 1, 13] ?_
 refine W.cond (fun ht13 => ?_) (fun ht13 => ?_)
 ·cases ht13
 refine Z5 ?_;refine Lh ?_;refine R.lss ?_;refine R.fin [0, 1, 16] ?_
 refine W.cond (fun ht16 => ?_) (fun ht16 => ?_)
 ·have hm : Gw a b = -1 := if_pos ht16
  exact Xs
 refine Z5 ?_;refine Lh ?_;refine R.gtr ?_;refine R.fin [19] ?_
 refine W.cond (fun ht19 => ?_) (fun ht19 => ?_)
 ·have hm : Gw a b = 1 := by unfold Gw; rw [if_neg (by rw [ht16]; simp), if_pos ht19]
  exact Xs
 have hm : Gw a b = 0 := by unfold Gw; rw [if_neg (by rw [ht16]; simp), if_neg (by rw [ht19]; simp)]
 refine Z5 ?_;exact gx

theorem dz {l : List Int} {x : Nat} (h : x < l.length) (hx : orI l = orI (l.drop x)) : orI l = if l[x] != 0 then l[x] else orI (l.drop (x + 1)) := by rw [hx, List.drop_eq_getElem_cons h, orI]
theorem ur (l : List Int) (hl : l.length ≤ 1048576) (Hp : List AObj) : AFun Tryz.prog 244 [Ww l] Hp (A4 (orI l)) := by
 refine ACall.body [.tmp 2] [0] Tryz.func244 Tryz.ntmps244 (fun d => ?_)
 refine Z88 ?_;refine Z3 ?_;refine Lk ?_;refine Of ?_;refine R.fin [3, 6, 7, 8] ?_
 refine AW.loopC (α := Nat) (fun x => ⟨18, A6 3 (A4 0) (A6 6 (Ww l) (A6 7 (A4 (l.length : Nat)) (A6 8 (A4 (x : Nat)) (fun _ => .any)))), Hp, [], [], none⟩) (fun x => x ≤ l.length ∧ orI l = orI (l.drop x)) (fun x => l.length - x) (0) ⟨Nat.zero_le _, rfl⟩ (StLe.of_eq (by simp)) rfl (fun x hx => ?_)
 refine Z89 ?_;refine R.fin [3, 6, 7, 8, 9] ?_
 refine W.condX (fun ht9 => ?_) (fun ht9 => ?_)
 ·have hlt : x < l.length := by simpa using ht9
  have hst := dz hlt hx.2
  refine Qk ?_;refine R.indexAddr (x) (A4 l[x]) jU jS (Be hlt) ?_;refine Cq ?_;refine Au ?_;refine R.fin [3, 5, 6, 7, 8] ?_;refine Z29 ?_;refine R.neq ?_;refine R.fin [3, 5, 6, 7, 8, 14] ?_
  refine W.cond (fun ht14 => ?_) (fun ht14 => ?_)
  ·have hm : orI l = l[x] := by rw [hst, if_pos ht14]
   refine Z64 ?_;refine Z2 ?_;exact ax
  have hn : orI l = orI (l.drop (x + 1)) := by rw [hst, if_neg (by rw [ht14]; simp)]
  refine Mi ?_;refine R.fin [3, 6, 7, 8] ?_;exact oh
 have hxe : l.length ≤ x := by simpa using ht9
 have hm : orI l = 0 := by rw [hx.2, List.drop_of_length_le hxe]; rfl
 refine Z55 ?_;refine Z64 ?_;refine Z2 ?_;exact Y1

theorem ut (a b : Val) (Hp : List AObj) : AFun Tryz.prog 238 [Bh a, Bh b] Hp (A4 (Yt a b)) := by
 refine ACall.body [.tmp 4] [0, 1] Tryz.func238 Tryz.ntmps238 (fun d => ?_)
 refine Li ?_;refine Z40 ?_;refine Mc ?_;refine R.call Tryz.call120 (bp a _) ?_;refine R.not ?_;refine At ?_;refine G.loadRoN jA jS ?_;refine G.call Tryz.call120 (fun hB => bp b _) ?_;refine ba ?_;refine R.fin [2, 3, 12] ?_
 refine W.cond (fun ht12 => ?_) (fun ht12 => ?_)
 ·have hm : Yt a b = 0 := if_pos ht12
  exact Xs
 have hm : Yt a b = orI [Gw a.kind b.kind, Gw a.n b.n, Lib.compareBytes a.s b.s] := if_neg (by rw [ht12]; simp)
 refine Z5 ?_;refine W.draw [0, 1, 0, 4, 15, 0, 32, 0, 128, 511, 0, 1024, 0, 4096, 16383, 32767, 65535, 131071] 14 Ae (by kernel_rfl) ?_;refine fx ?_;refine fx ?_;refine D.call Tryz.call245 (uo _ _ _) ?_;refine aj ?_;refine aj ?_;refine D.call Tryz.call246 (uq _ _ _) ?_;refine Z75 ?_;refine Z75 ?_;refine D.tail ?_;refine R.call Tryz.call247 (uk _ _ _) ?_;refine Mk ?_;refine R.call Tryz.call244 (ur [Gw a.kind b.kind, Gw a.n b.n, Lib.compareBytes a.s b.s] (by simp) _) ?_;refine Au ?_;exact ny

theorem uu (t : Str) (a b : Int) (ha : -9223372036854775808 ≤ a ∧ a ≤ 9223372036854775807) (Hp : List AObj) : AFun Tryz.prog 240 [A8 t, A4 a, A4 b] Hp (Kn (E9 (Al t a b))) := by
 refine ACall.body [.cell 6 24, .tmp 7] [0, 1, 2] Tryz.func240 Tryz.ntmps240 (fun d => ?_)
 refine Rv ?_;refine R.fin [0, 1, 2, 6] ?_;refine Z9 ?_;refine R.fin [1, 2, 6, 8] ?_;refine Eq ?_;refine Z19 ?_;refine R.fin [1, 2, 6, 8, 9] ?_
 refine W.cond (fun ht9 => ?_) (fun ht9 => ?_)
 ·refine Z29 ?_;refine R.call Tryz.call248 (uh _ _ _) ?_;refine Uc ?_;refine Z66 ?_;refine Z59 ?_
  first | (by_cases e0 : Al t a b = No a b; exact K.fin (V.two (V.cellN Tryz.isAgg24 Tryz.sizeOf24) V.tmp) ⟨by rw [e0]; try rfl, rfl⟩; exfalso; refine e0 ?_; clear e0; simp_all [Al]; done) | (by_cases e0 : Al t a b = Hm a b; exact K.fin (V.two (V.cellN Tryz.isAgg24 Tryz.sizeOf24) V.tmp) ⟨by rw [e0]; try rfl, rfl⟩; exfalso; refine e0 ?_; clear e0; simp_all [Al]; done) | (by_cases e0 : Al t a b = Iv a b; exact K.fin (V.two (V.cellN Tryz.isAgg24 Tryz.sizeOf24) V.tmp) ⟨by rw [e0]; try rfl, rfl⟩; exfalso; refine e0 ?_; clear e0; simp_all [Al]; done) | (by_cases e0 : Al t a b = Ea a b; exact K.fin (V.two (V.cellN Tryz.isAgg24 Tryz.sizeOf24) V.tmp) ⟨by rw [e0]; try rfl, rfl⟩; exfalso; refine e0 ?_; clear e0; simp_all [Al]; done) | (by_cases e0 : Al t a b = Jr a b; exact K.fin (V.two (V.cellN Tryz.isAgg24 Tryz.sizeOf24) V.tmp) ⟨by rw [e0]; try rfl, rfl⟩; exfalso; refine e0 ?_; clear e0; simp_all [Al]; done)
 refine Z19 ?_;refine R.fin [1, 2, 6, 8, 19] ?_
 refine W.cond (fun ht19 => ?_) (fun ht19 => ?_)
 ·refine Z29 ?_;refine R.call Tryz.call241 (ru _ _ _) ?_;refine Uc ?_;refine Z66 ?_;refine Z59 ?_
  first | (by_cases e0 : Al t a b = No a b; exact K.fin (V.two (V.cellN Tryz.isAgg24 Tryz.sizeOf24) V.tmp) ⟨by rw [e0]; try rfl, rfl⟩; exfalso; refine e0 ?_; clear e0; simp_all [Al]; done) | (by_cases e0 : Al t a b = Hm a b; exact K.fin (V.two (V.cellN Tryz.isAgg24 Tryz.sizeOf24) V.tmp) ⟨by rw [e0]; try rfl, rfl⟩; exfalso; refine e0 ?_; clear e0; simp_all [Al]; done) | (by_cases e0 : Al t a b = Iv a b; exact K.fin (V.two (V.cellN Tryz.isAgg24 Tryz.sizeOf24) V.tmp) ⟨by rw [e0]; try rfl, rfl⟩; exfalso; refine e0 ?_; clear e0; simp_all [Al]; done) | (by_cases e0 : Al t a b = Ea a b; exact K.fin (V.two (V.cellN Tryz.isAgg24 Tryz.sizeOf24) V.tmp) ⟨by rw [e0]; try rfl, rfl⟩; exfalso; refine e0 ?_; clear e0; simp_all [Al]; done) | (by_cases e0 : Al t a b = Jr a b; exact K.fin (V.two (V.cellN Tryz.isAgg24 Tryz.sizeOf24) V.tmp) ⟨by rw [e0]; try rfl, rfl⟩; exfalso; refine e0 ?_; clear e0; simp_all [Al]; done)
 refine Z19 ?_;refine R.fin [1, 2, 6, 8, 29] ?_
 refine W.cond (fun ht29 => ?_) (fun ht29 => ?_)
 ·refine Z29 ?_;refine R.call Tryz.call249 (ul _ _ _) ?_;refine Uc ?_;refine Z66 ?_;refine Z59 ?_
  first | (by_cases e0 : Al t a b = No a b; exact K.fin (V.two (V.cellN Tryz.isAgg24 Tryz.sizeOf24) V.tmp) ⟨by rw [e0]; try rfl, rfl⟩; exfalso; refine e0 ?_; clear e0; simp_all [Al]; done) | (by_cases e0 : Al t a b = Hm a b; exact K.fin (V.two (V.cellN Tryz.isAgg24 Tryz.sizeOf24) V.tmp) ⟨by rw [e0]; try rfl, rfl⟩; exfalso; refine e0 ?_; clear e0; simp_all [Al]; done) | (by_cases e0 : Al t a b = Iv a b; exact K.fin (V.two (V.cellN Tryz.isAgg24 Tryz.sizeOf24) V.tmp) ⟨by rw [e0]; try rfl, rfl⟩; exfalso; refine e0 ?_; clear e0; simp_all [Al]; done) | (by_cases e0 : Al t a b = Ea a b; exact K.fin (V.two (V.cellN Tryz.isAgg24 Tryz.sizeOf24) V.tmp) ⟨by rw [e0]; try rfl, rfl⟩; exfalso; refine e0 ?_; clear e0; simp_all [Al]; done) | (by_cases e0 : Al t a b = Jr a b; exact K.fin (V.two (V.cellN Tryz.isAgg24 Tryz.sizeOf24) V.tmp) ⟨by rw [e0]; try rfl, rfl⟩; exfalso; refine e0 ?_; clear e0; simp_all [Al]; done)
 refine Z19 ?_;refine R.fin [1, 2, 6, 39] ?_
 refine W.cond (fun ht39 => ?_) (fun ht39 => ?_)
 ·refine Z29 ?_;refine R.call Tryz.call250 (um _ _ _) ?_;refine Uc ?_;refine Z66 ?_;refine Z59 ?_
  first | (by_cases e0 : Al t a b = No a b; exact K.fin (V.two (V.cellN Tryz.isAgg24 Tryz.sizeOf24) V.tmp) ⟨by rw [e0]; try rfl, rfl⟩; exfalso; refine e0 ?_; clear e0; simp_all [Al]; done) | (by_cases e0 : Al t a b = Hm a b; exact K.fin (V.two (V.cellN Tryz.isAgg24 Tryz.sizeOf24) V.tmp) ⟨by rw [e0]; try rfl, rfl⟩; exfalso; refine e0 ?_; clear e0; simp_all [Al]; done) | (by_cases e0 : Al t a b = Iv a b; exact K.fin (V.two (V.cellN Tryz.isAgg24 Tryz.sizeOf24) V.tmp) ⟨by rw [e0]; try rfl, rfl⟩; exfalso; refine e0 ?_; clear e0; simp_all [Al]; done) | (by_cases e0 : Al t a b = Ea a b; exact K.fin (V.two (V.cellN Tryz.isAgg24 Tryz.sizeOf24) V.tmp) ⟨by rw [e0]; try rfl, rfl⟩; exfalso; refine e0 ?_; clear e0; simp_all [Al]; done) | (by_cases e0 : Al t a b = Jr a b; exact K.fin (V.two (V.cellN Tryz.isAgg24 Tryz.sizeOf24) V.tmp) ⟨by rw [e0]; try rfl, rfl⟩; exfalso; refine e0 ?_; clear e0; simp_all [Al]; done)
 refine Z17 ?_;refine Z29 ?_;refine R.call Tryz.call251 (un _ _ ha _) ?_;refine Uc ?_;refine Z66 ?_;refine AW.ret ?_
 first | (by_cases e0 : Al t a b = No a b; exact K.fin (V.two (V.cellN Tryz.isAgg24 Tryz.sizeOf24) V.tmp) ⟨by rw [e0]; try rfl, rfl⟩; exfalso; refine e0 ?_; clear e0; simp_all [Al]; done) | (by_cases e0 : Al t a b = Hm a b; exact K.fin (V.two (V.cellN Tryz.isAgg24 Tryz.sizeOf24) V.tmp) ⟨by rw [e0]; try rfl, rfl⟩; exfalso; refine e0 ?_; clear e0; simp_all [Al]; done) | (by_cases e0 : Al t a b = Iv a b; exact K.fin (V.two (V.cellN Tryz.isAgg24 Tryz.sizeOf24) V.tmp) ⟨by rw [e0]; try rfl, rfl⟩; exfalso; refine e0 ?_; clear e0; simp_all [Al]; done) | (by_cases e0 : Al t a b = Ea a b; exact K.fin (V.two (V.cellN Tryz.isAgg24 Tryz.sizeOf24) V.tmp) ⟨by rw [e0]; try rfl, rfl⟩; exfalso; refine e0 ?_; clear e0; simp_all [Al]; done) | (by_cases e0 : Al t a b = Jr a b; exact K.fin (V.two (V.cellN Tryz.isAgg24 Tryz.sizeOf24) V.tmp) ⟨by rw [e0]; try rfl, rfl⟩; exfalso; refine e0 ?_; clear e0; simp_all [Al]; done)

theorem uv (a b : Val) (fa : Fine a) (fb : Fine b) (Hp : List AObj) : AFun Tryz.prog 239 [.slice false 3 [Bh a, Bh b]] Hp (Kn (Jq a b)) := by
 refine ACall.body [.cell 2 24, .tmp 3] [0] Tryz.func239 Tryz.ntmps239 (fun d => ?_)
 refine Rv ?_;refine R.fin [0, 2] ?_;refine Gg ?_;refine R.buildSl jU jS jZ ?_;refine R.call Tryz.call223 (dx [a, b] [2, 2] (by simp) (by simp) _) ?_;refine R.not ?_;refine Au ?_;refine R.fin [0, 2, 4] ?_
 refine W.cond (fun ht4 => ?_) (fun ht4 => ?_)
 ·have hm : Jq a b = Bg 10 := if_pos ht4
  refine Oc ?_;refine Z40 ?_;refine AW.ret ?_;exact Z12
 have hla := fa.len
 have hlb := fb.len
 refine W.draw [0, 1, 3, 7, 15, 0, 32, 96, 224, 480, 1023, 2047, 4095] 10 Ae (by kernel_rfl) ?_;refine Z45 ?_;refine Z75 ?_;refine D.slen jU ?_;refine Z46 ?_;refine Z75 ?_;refine D.slen jU ?_;refine D.tail ?_;refine R.add64 (h1 := by omega) (h2 := by omega) ?_;refine Xq ?_;refine R.fin [0, 2, 12] ?_
 refine W.cond (fun ht12 => ?_) (fun ht12 => ?_)
 ·have hm : Jq a b = Bg 3 := by unfold Jq; rw [if_neg (by rw [ht4]; simp), if_pos ht12]
  refine Oc ?_;refine Z40 ?_;refine AW.ret ?_;exact Z12
 have hm : Jq a b = (Oq (a.s ++ b.s), 0) := by unfold Jq; rw [if_neg (by rw [ht4]; simp), if_neg (by rw [ht12]; simp)]
 refine Z17 ?_;refine W.draw [0, 1, 3, 7, 0, 16, 48, 112, 255, 511, 1023, 2047] 8 Ae (by kernel_rfl) ?_;refine Z45 ?_;refine Z75 ?_;refine Z46 ?_;refine Z75 ?_;refine D.tail ?_;refine R.sadd (hl := by omega) ?_;refine R.call Tryz.call215 (Y9 _ _) ?_;refine Qh ?_;exact lb

theorem uw (t : Str) (a b : Val) (fa : Fine a) (fb : Fine b) (Hp : List AObj) : AFun Tryz.prog 222 [A8 t, .slice false 3 [Bh a, Bh b]] Hp (Kn (Iw t a b)) := by
 refine ACall.body [.cell 4 24, .tmp 5] [0, 1] Tryz.func222 Tryz.ntmps222 (fun d => ?_)
 refine Rv ?_;refine R.fin [0, 1, 4] ?_;refine W.seq ?_;refine W.draw [0, 0, 2, 6, 0, 16, 48, 126, 255, 511, 1023, 1023, 2047, 8191] 13 Ae (by kernel_rfl) ?_;refine D.move ?_;refine Z45 ?_;refine I9 ?_;refine Z46 ?_;refine I9 ?_;refine D.call Tryz.call238 (ut _ _ _) ?_;refine D.call Tryz.call237 (ug _ _ _) ?_;refine D.move ?_;refine Z81 ?_;refine Xp ?_;refine Au ?_;refine R.fin [0, 1, 4, 6, 7] ?_;refine Z0 ?_;refine R.fin [0, 1, 4, 6, 20] ?_
 refine W.cond (fun ht20 => ?_) (fun ht20 => ?_)
 ·refine W.seq ?_;refine W.draw [0, 1, 3, 7, 0, 16, 48, 112, 255] 8 Ae (by kernel_rfl) ?_;refine Z45 ?_;refine fx ?_;refine Z46 ?_;refine fx ?_;refine D.tail ?_;refine R.neq ?_;refine R.fin [4, 6, 29] ?_
  refine W.cond (fun ht29 => ?_) (fun ht29 => ?_)
  ·have hm : Iw t a b = Bg 10 := by unfold Iw; rw [if_pos ht20, if_pos ht29]
   refine Oc ?_;refine Mg ?_;exact fk
  have hm : Iw t a b = (E0 (A5 t (Yt a b)).1, 0) := by unfold Iw; rw [if_pos ht20, if_neg (by rw [ht29]; simp)]
  refine Jc ?_;refine R.call Tryz.call122 (Ut _ _) ?_;exact m5
 refine Z5 ?_;refine Z9 ?_;refine R.seql ?_;refine R.fin [0, 1, 4, 36] ?_
 refine W.cond (fun ht36 => ?_) (fun ht36 => ?_)
 ·have hm : Iw t a b = Jq a b := by unfold Iw; rw [if_neg (by rw [ht20]; simp), if_pos ht36]
  refine Z0 ?_;refine R.call Tryz.call239 (uv a b fa fb _) ?_;refine Z36 ?_;exact ga
 refine Z5 ?_;refine Z9 ?_;refine R.buildSl jU jS jZ ?_;refine R.call Tryz.call223 (dx [a, b] [1, 1] (by simp) (by simp) _) ?_;refine R.not ?_;refine R.fin [0, 1, 4, 44] ?_
 refine W.cond (fun ht44 => ?_) (fun ht44 => ?_)
 ·have hm : Iw t a b = Bg 10 := by unfold Iw; rw [if_neg (by rw [ht20]; simp), if_neg (by rw [ht36]; simp), if_pos ht44]
  refine Oc ?_;exact ga
 have hm : Iw t a b = E9 (Al t a.n b.n) := by unfold Iw; rw [if_neg (by rw [ht20]; simp), if_neg (by rw [ht36]; simp), if_neg (by rw [ht44]; simp)]
 refine Z5 ?_;refine W.draw [0, 0, 2, 6, 14, 0, 32, 96, 224, 511, 1023, 1023, 4095, 8191] 12 Ae (by kernel_rfl) ?_;refine D.move ?_;refine Z45 ?_;refine aj ?_;refine Z46 ?_;refine aj ?_;refine D.call Tryz.call240 (uu _ _ _ ⟨fa.lo, fa.hi⟩ _) ?_;refine U7 ?_;exact gb

theorem nl (s : Str) (n : Int) : ∃ k : Nat, (if (0 : Int) < (if (s.length : Int) < n then (s.length : Int) else n) then (if (s.length : Int) < n then (s.length : Int) else n) else 0) = (k : Int) ∧ k ≤ s.length ∧ k = (max 0 (min n s.length)).toNat := by
 refine ⟨(max 0 (min n s.length)).toNat, ?_, ?_, rfl⟩ <;> repeat' split
 all_goals omega
theorem ux (t s : Str) (n : Int) (hs : s.length ≤ 1048576) (Hp : List AObj) : AFun Tryz.prog 227 [A8 t, A8 s, A4 n] Hp (Bh (Hq t s n)) := by
 refine ACall.body [.cell 6 24] [0, 1, 2] Tryz.func227 Tryz.ntmps227 (fun d => ?_)
 refine gi ?_;refine bb ?_;refine R.minI ?_;refine R.maxI ?_
 obtain ⟨k, hk, hks, hke⟩ := nl s n
 simp only [hk]
 refine Au ?_;refine R.fin [0, 1, 6, 7] ?_;refine Z9 ?_;refine R.seql ?_;refine R.fin [1, 6, 7, 14] ?_
 refine W.cond (fun ht14 => ?_) (fun ht14 => ?_)
 ·have hm : Hq t s n = Oq (s.take k) := by unfold Hq; rw [if_pos ht14, ← hke]
  refine Z29 ?_;refine R.scutH k jU (Nat.zero_le _) hks ?_;refine R.call Tryz.call215 (Y9 _ _) ?_;refine fl ?_;refine Z11 ?_;exact qe
 have hm : Hq t s n = Oq (s.drop (s.length - k)) := by unfold Hq; rw [if_neg (by rw [ht14]; simp), ← hke]
 refine Z5 ?_;refine bb ?_;refine At ?_;refine R.sub64 (h1 := by omega) (h2 := by omega) ?_;refine R.scutL (s.length - k) jU (show s.length - k ≤ s.length by omega) (Nat.le_refl _) ?_;refine R.call Tryz.call215 (Y9 _ _) ?_;refine Xv ?_;exact qe

theorem uz (t : Str) (v : Val) (h : Fine v) (Hp : List AObj) : AFun Tryz.prog 226 [A8 t, Bh v] Hp (Kn (Gt t v)) := by
 have hlen := h.len
 refine ACall.body [.cell 4 24, .tmp 5] [0, 1] Tryz.func226 Tryz.ntmps226 (fun d => ?_)
 refine Z24 ?_;refine Z83 ?_;refine R.fin [0, 3, 4] ?_;refine Gg ?_;refine R.seql ?_;refine At ?_;refine Z98 ?_;refine an ?_;refine R.fin [0, 3, 4, 6] ?_
 refine W.cond (fun ht6 => ?_) (fun ht6 => ?_)
 ·have hm : Gt t v = (Oq (Lib.itoa v.n), 0) := if_pos ht6
  refine Ba ?_;refine ai ?_;refine R.call Tryz.call151 (qu _ h.lo h.hi _) ?_;refine R.call Tryz.call215 (Y9 _ _) ?_;exact Qf
 refine Z0 ?_;refine R.seql ?_;refine At ?_;refine Z98 ?_;refine an ?_;refine R.fin [0, 3, 4, 18] ?_
 refine W.cond (fun ht18 => ?_) (fun ht18 => ?_)
 ·have hm : Gt t v = (⟨1, v.s.length, []⟩, 0) := by unfold Gt; rw [if_neg (by rw [ht6]; simp), if_pos ht18]
  refine Ba ?_;refine fq ?_;refine R.slen jU ?_;refine R.call Tryz.call197 (mh _ _) ?_;exact Qf
 refine Z0 ?_;refine R.seql ?_;refine At ?_;refine Z98 ?_;refine an ?_;refine R.fin [3, 4, 30] ?_
 refine W.cond (fun ht30 => ?_) (fun ht30 => ?_)
 ·have hm : Gt t v = E9 (Br v.s) := by unfold Gt; rw [if_neg (by rw [ht6]; simp), if_neg (by rw [ht18]; simp), if_pos ht30]
  refine Ba ?_;refine fq ?_;refine R.call Tryz.call196 (qt v.s (by omega) _) ?_;refine Uc ?_;exact Rp
 have hm : Gt t v = Bg 10 := by unfold Gt; rw [if_neg (by rw [ht6]; simp), if_neg (by rw [ht18]; simp), if_neg (by rw [ht30]; simp)]
 refine Z17 ?_;refine Oc ?_;exact Z49

theorem kb {vs : List Val} (h : 0 < vs.length) : vs.getD 0 noV = vs[0] := by rw [List.getD_eq_getElem?_getD, List.getElem?_eq_getElem h]; rfl
/-- As many values as a node asks for. -/
structure ArgsOk (o : Int) (vs : List Val) : Prop where
 two : o = 5 → ∃ a b, vs = [a, b]
 one : o = 3 ∨ o = 4 → vs.length = 1
 call : o = 6 → vs.length = 1 ∨ ∃ a b, vs = [a, b]
 fine : ∀ v ∈ vs, Fine v
theorem v6 (e : Expr) (vs : List Val) (h : ArgsOk e.op vs) (Hp : List AObj) : AFun Tryz.prog 207 [Ab e, Ev vs] Hp (Kn (B7 e.op e.text vs)) := by
 refine ACall.body [.cell 4 24, .tmp 5] [0, 1] Tryz.func207 Tryz.ntmps207 (fun d => ?_)
 refine Z24 ?_;refine Z83 ?_;refine R.fin [1, 2, 4] ?_;refine Z26 ?_;refine Xz ?_;refine R.fin [1, 2, 4, 6] ?_
 refine W.cond (fun ht6 => ?_) (fun ht6 => ?_)
 ·obtain ⟨a, b, rfl⟩ := h.two (by simpa using ht6)
  have hm : B7 e.op e.text [a, b] = Iw e.text a b := if_pos ht6
  refine Rw ?_;refine At ?_;refine R.call Tryz.call222 (uw e.text a b (h.fine a (by simp)) (h.fine b (by simp)) _) ?_;refine Z36 ?_;exact Rp
 refine Mb ?_;refine Xx ?_;refine G.buildSl jU jS jZ ?_
 refine G.call Tryz.call223 (C := ((e.op == 3) == true)) (fun hB => dx vs [1] (by have := h.one (.inl (by simpa using hB)); simp [this]) (by simp) _) ?_
 refine Z32 ?_;refine R.fin [1, 2, 4, 16] ?_
 refine W.cond (fun ht16 => ?_) (fun ht16 => ?_)
 ·have hm0 : ((e.op == 3) && Cm vs [1]) = true := ht16
  have hop : e.op = 3 := by simp only [Bool.and_eq_true, beq_iff_eq] at hm0; exact hm0.1
  have hln := h.one (.inl hop)
  have hg0 : (vs.map Bh)[0]? = some (Bh (vs.getD 0 noV)) := by rw [kb (by omega)]; exact Be (by omega)
  have hm : B7 e.op e.text vs = E9 (Hm 0 (vs.getD 0 noV).n) := by unfold B7; rw [if_neg (by rw [ht6]; simp), if_pos ht16]
  refine Z0 ?_;refine R.indexAddr (0) (Bh (vs.getD 0 noV)) jU jS hg0 ?_;refine ai ?_;refine R.call Tryz.call225 (ui _ _) ?_;refine Uc ?_;exact Rp
 refine Mb ?_;refine Xx ?_;refine G.buildSl jU jS jZ ?_
 refine G.call Tryz.call223 (C := ((e.op == 4) == true)) (fun hB => dx vs [3] (by have := h.one (.inr (by simpa using hB)); simp [this]) (by simp) _) ?_
 refine Z32 ?_;refine R.fin [1, 2, 4, 35] ?_
 refine W.cond (fun ht35 => ?_) (fun ht35 => ?_)
 ·have hm0 : ((e.op == 4) && Cm vs [3]) = true := ht35
  have hop : e.op = 4 := by simp only [Bool.and_eq_true, beq_iff_eq] at hm0; exact hm0.1
  have hln := h.one (.inr hop)
  have hg0 : (vs.map Bh)[0]? = some (Bh (vs.getD 0 noV)) := by rw [kb (by omega)]; exact Be (by omega)
  have hm : B7 e.op e.text vs = (E0 ((vs.getD 0 noV).n == 0), 0) := by unfold B7; rw [if_neg (by rw [ht6]; simp), if_neg (by rw [ht16]; simp), if_pos ht35]
  refine Z0 ?_;refine R.indexAddr (0) (Bh (vs.getD 0 noV)) jU jS hg0 ?_;refine ai ?_;refine R.eql ?_;exact pu
 refine Mb ?_;refine Rr ?_;refine R.fin [1, 2, 4, 50] ?_
 refine W.cond (fun ht50 => ?_) (fun ht50 => ?_)
 ·have hm : B7 e.op e.text vs = Bg 10 := by unfold B7; rw [if_neg (by rw [ht6]; simp), if_neg (by rw [ht16]; simp), if_neg (by rw [ht35]; simp), if_pos ht50]
  refine Oc ?_;exact Rp
 have hop : e.op = 6 := by simpa using ht50
 have hcl := h.call hop
 refine Z0 ?_;refine R.len jU ?_;refine Z20 ?_;refine R.fin [1, 2, 4, 57] ?_
 refine W.cond (fun ht57 => ?_) (fun ht57 => ?_)
 ·rw [List.length_map] at ht57
  have hln : vs.length = 1 := by have := ht57; simp only [beq_iff_eq] at this; omega
  have hg0 : (vs.map Bh)[0]? = some (Bh (vs.getD 0 noV)) := by rw [kb (by omega)]; exact Be (by omega)
  have hf0 : Fine (vs.getD 0 noV) := by rw [kb (by omega)]; exact h.fine _ (List.getElem_mem _)
  have hm : B7 e.op e.text vs = Gt e.text (vs.getD 0 noV) := by unfold B7; rw [if_neg (by rw [ht6]; simp), if_neg (by rw [ht16]; simp), if_neg (by rw [ht35]; simp), if_neg (by rw [ht50]; simp), if_pos ht57]
  refine W.draw [0, 1, 0, 4, 12, 31, 63, 63, 255, 511] 8 Ae (by kernel_rfl) ?_;refine Z72 ?_;refine D.move ?_;refine D.indexAddr (0) (Bh (vs.getD 0 noV)) jU jS hg0 ?_;refine I9 ?_;refine D.call Tryz.call226 (uz _ _ hf0 _) ?_;refine U7 ?_;exact Qf
 rw [List.length_map] at ht57
 obtain ⟨a, b, rfl⟩ : ∃ a b, vs = [a, b] := by
  rcases hcl with h1 | h1
  ·exfalso
   have := ht57
   rw [h1] at this
   simp at this
  exact h1
 refine Z0 ?_;refine R.buildSl jU jS jZ ?_;refine R.call Tryz.call223 (dx [a, b] [2, 1] (by simp) (by simp) _) ?_;refine R.not ?_;refine Au ?_;refine R.fin [1, 2, 4, 69] ?_
 refine W.cond (fun ht69 => ?_) (fun ht69 => ?_)
 ·have hm : B7 e.op e.text [a, b] = Bg 10 := by unfold B7; rw [if_neg (by rw [ht6]; simp), if_neg (by rw [ht16]; simp), if_neg (by rw [ht35]; simp), if_neg (by rw [ht50]; simp), if_neg (by rw [ht57]; simp), if_pos ht69]
  refine Oc ?_;exact Rp
 have hm : B7 e.op e.text [a, b] = (Hq e.text a.s b.n, 0) := by unfold B7; rw [if_neg (by rw [ht6]; simp), if_neg (by rw [ht16]; simp), if_neg (by rw [ht35]; simp), if_neg (by rw [ht50]; simp), if_neg (by rw [ht57]; simp), if_neg (by rw [ht69]; simp)]; rfl
 refine Z17 ?_;refine W.draw [0, 1, 0, 4, 12, 28, 0, 64, 192, 448, 1023, 2047, 4095] 10 Ae (by kernel_rfl) ?_;refine Z72 ?_;refine Z45 ?_;refine Z75 ?_;refine Z46 ?_;refine aj ?_;refine D.tail ?_
 refine R.call Tryz.call227 (ux e.text a.s b.n (by have := (h.fine a (by simp)).len; omega) _) ?_
 exact gb

theorem I7 (a b : Val) : ((a.kind == b.kind && a.n == b.n) && a.s == b.s) = (a == b) := by
 obtain ⟨k, n, s⟩ := a
 obtain ⟨k', n', s'⟩ := b
 by_cases h : (⟨k, n, s⟩ : Val) = ⟨k', n', s'⟩
 ·injection h with h1 h2 h3
  subst h1; subst h2; subst h3
  simp
 have : ((⟨k, n, s⟩ : Val) == ⟨k', n', s'⟩) = false := by simpa using h
 rw [this]
 simp only [Bool.and_eq_false_iff, beq_eq_false_iff_ne]
 by_cases h1 : k = k'
 ·by_cases h2 : n = n'
  ·right
   rintro rfl
   exact h (by rw [h1, h2])
  exact .inl (.inr h2)
 exact .inl (.inl h1)
/-- What eval answers for a tree, over any heap. -/
abbrev F6 (c : List Col) (l : List Val) (e : Expr) (r : Rs) : Prop := ∀ Hp, AFun Tryz.prog 158 [O1 c l, Ab e] Hp (Kn r)
theorem s0 (c : List Col) (l : List Val) (x : Expr) (r : Rs) (h : F6 c l x r) (Hp : List AObj) : AFun Tryz.prog 206 [O1 c l, Ab x] Hp (Kn (Ai r)) := by
 refine ACall.body [.cell 4 24, .tmp 5] [0, 1] Tryz.func206 Tryz.ntmps206 (fun d => ?_)
 refine Li ?_;refine gu ?_;refine Z54 ?_;refine Dn ?_;refine R.call Tryz.call158 (h _) ?_;refine Xy ?_;refine R.fin [4, 6, 7] ?_;refine Z9 ?_;refine Mf ?_;refine Z71 ?_;refine G.neq ?_;refine U2 ?_;refine Z71 ?_;refine G.neq ?_;refine R.pickAnd ?_;refine R.fin [4, 6, 7, 25] ?_
 refine W.cond (fun ht25 => ?_) (fun ht25 => ?_)
 ·have hm : Ai r = Bg 10 := if_pos ht25
  refine Oc ?_;exact ga
 have hm : Ai r = r := if_neg (by rw [ht25]; simp)
 refine Ui ?_;refine At ?_;exact gb

theorem s6 (c : List Col) (l : List Val) (x k0 k1 : Expr) (s : Val) (ra rb : Rs) (h0 : (x.kids.map Ab)[0]? = some (Ab k0)) (h1 : (x.kids.map Ab)[1]? = some (Ab k1)) (ha : F6 c l k0 ra) (hb : F6 c l k1 rb) (Hp : List AObj) : AFun Tryz.prog 184 [O1 c l, Ab x, Bh s] Hp (Kn (Et s ra rb)) := by
 refine ACall.body [.cell 6 24, .tmp 7] [0, 1, 2] Tryz.func184 Tryz.ntmps184 (fun d => ?_)
 refine Li ?_;refine R.boxRo ?_;refine Z83 ?_;refine R.fin [3, 4, 5, 6] ?_;refine W.drawY [0, 0, 2, 6, 14, 31, 63, 127, 127, 0, 767, 2047] [9, 10] [.q 9 [] [], .s [8] (some 0) [] [1], .s [] (some 1) [0] []] (fun _ => Hp) (fun B => if B 0 = true then [.cells 24 [A4 0, A4 0, A8 []], (if B 1 = true then .cells 24 [A4 (Ai ra).1.kind, A4 (Ai ra).1.n, A8 (Ai ra).1.s] else .cells 24 [A4 0, A4 0, A8 []] : AObj)] else [.cells 24 [A4 0, A4 0, A8 []]]) Ae (by kernel_rfl) rfl rfl (fun _ => rfl) ?_
 apply Y.q
 case h1 =>
  intro B hT hF
  refine Z65 ?_;refine Fs ?_;refine lr ?_;exact pi
 case hTF => decide
 refine Z56 ?_;refine o3 ?_;refine R.fin [3, 4, 5, 6, 8, 9] ?_;refine Mh ?_;refine At ?_;refine G.loadOwnN jA jS ?_;refine G.loadRoN jA jS ?_;refine G.eqlAgg S1 (fun w => Fl (Ai ra).1.kind (Ai ra).1.n s.kind s.n (Ai ra).1.s s.s w) ?_;refine R.pickOr ?_;refine R.fin [3, 4, 5, 6, 8, 9, 26] ?_
 refine W.cond (fun ht26 => ?_) (fun ht26 => ?_)
 ·rw [I7] at ht26
  have hm : Et s ra rb = Ai ra := if_pos ht26
  refine Z31 ?_;refine At ?_;refine Do ?_;refine Z66 ?_;exact Z37
 rw [I7] at ht26
 refine Z5 ?_;refine W.drawY [0, 0, 2, 6, 14, 31, 63, 127, 127, 0, 767, 2047] [9, 10] [.q 9 [] [], .s [10] (some 0) [] [1], .s [] (some 1) [0] []] (fun _ => Hp) (fun B => if B 0 = true then [.cells 24 [A4 0, A4 0, A8 []], .cells 24 [A4 (Ai ra).1.kind, A4 (Ai ra).1.n, A8 (Ai ra).1.s], (if B 1 = true then .cells 24 [A4 (Ai rb).1.kind, A4 (Ai rb).1.n, A8 (Ai rb).1.s] else .cells 24 [A4 0, A4 0, A8 []] : AObj)] else [.cells 24 [A4 0, A4 0, A8 []], .cells 24 [A4 (Ai ra).1.kind, A4 (Ai ra).1.n, A8 (Ai ra).1.s]]) Ae (by kernel_rfl) rfl rfl (fun _ => rfl) ?_
 apply Y.q
 case h1 =>
  intro B hT hF
  refine Z65 ?_;refine Fs ?_;refine D.indexAddr (1) (Ab k1) jU jS h1 ?_;refine I9 ?_;refine D.call Tryz.call206 (s0 c l k1 rb hb _) ?_;exact m3
 case hTF => decide
 refine Y.alloc (zs := [A4 0, A4 0, A8 []]) (n := 2) (u := Hp.length) Tryz.zeroValue24 (fun B hT hF hB => ⟨rfl, by simp [hB], by simp [upd, hB, hF 1 (by simp)], rfl⟩) ?_;refine Y.storeOwnT (u := Hp.length) (n := 2) (t' := 24) (cs := [A4 0, A4 0, A8 []]) (cs' := [A4 (Ai rb).1.kind, A4 (Ai rb).1.n, A8 (Ai rb).1.s]) Tryz.sizeOf24 (fun B hT hF hB => ⟨rfl, by simp [hT 0 (by simp), hB], by simp [upd, hT 0 (by simp), hB], rfl⟩) ?_;refine Y.tail (tn := [9, 10]) (O := [.cells 24 [A4 0, A4 0, A8 []], .cells 24 [A4 (Ai ra).1.kind, A4 (Ai ra).1.n, A8 (Ai ra).1.s], .cells 24 [A4 (Ai rb).1.kind, A4 (Ai rb).1.n, A8 (Ai rb).1.s]]) ?_;refine Au ?_;refine R.fin [5, 6, 8, 9, 10] ?_;refine Mh ?_;refine At ?_;refine G.loadOwnN jA jS ?_;refine G.loadRoN jA jS ?_
 refine G.eqlAgg S1 (fun w => Fl (Ai rb).1.kind (Ai rb).1.n s.kind s.n (Ai rb).1.s s.s w) ?_;refine R.pickOr ?_;refine At ?_;refine Z71 ?_;refine U4 ?_;refine R.fin [6, 8, 9, 10, 49] ?_
 refine W.cond (fun ht49 => ?_) (fun ht49 => ?_)
 ·rw [I7] at ht49
  have hm : Et s ra rb = Ai rb := by unfold Et; rw [if_neg (by rw [ht26]; simp), if_pos ht49]
  refine Z31 ?_;refine At ?_;refine Do ?_;refine Z66 ?_;exact Z37
 rw [I7] at ht49
 have hm : Et s ra rb = ((Ai ra).1, 0) := by unfold Et; rw [if_neg (by rw [ht26]; simp), if_neg (by rw [ht49]; simp)]
 refine Ui ?_;refine Do ?_;refine Z66 ?_;exact lb

theorem v7 (c : List Col) (l : List Val) (x k0 k1 k2 : Expr) (ra rb d2 : Rs) (h0 : (x.kids.map Ab)[0]? = some (Ab k0)) (h1 : (x.text == B1) = false → (x.kids.map Ab)[1]? = some (Ab k1)) (h2 : (x.text == ifW) = true → (x.kids.map Ab)[2]? = some (Ab k2)) (ha : F6 c l k0 ra) (hb : (x.text == B1) = false → F6 c l k1 rb) (hd : (x.text == ifW) = true → F6 c l k2 d2) (Hp : List AObj) : AFun Tryz.prog 185 [O1 c l, Ab x] Hp (Kn (Cx x.text ra rb d2)) := by
 refine ACall.body [.cell 4 24, .tmp 5] [0, 1] Tryz.func185 Tryz.ntmps185 (fun d => ?_)
 refine Li ?_;refine gu ?_;refine Z27 ?_;refine Z39 ?_;refine R.seql ?_;refine R.fin [2, 3, 4, 12] ?_
 refine W.cond (fun ht12 => ?_) (fun ht12 => ?_)
 ·have hni : (x.text == B1) = false := by
   have e : x.text = ifW := by simpa [ifW] using ht12
   rw [e]; rfl
  have hc : Cx x.text ra rb d2 = (if (Ai ra).2 != 0 then Bg (Ai ra).2 else if (Ai ra).1 == E0 true then rb else d2) := if_pos ht12
  refine W.drawY [0, 0, 2, 6, 14, 31, 63, 127, 127, 0, 767, 2047] [9, 10] [.q 9 [] [], .s [6] (some 0) [] [1], .s [] (some 1) [0] []] (fun _ => Hp) (fun B => if B 0 = true then [.cells 24 [A4 0, A4 0, A8 []], (if B 1 = true then .cells 24 [A4 (Ai ra).1.kind, A4 (Ai ra).1.n, A8 (Ai ra).1.s] else .cells 24 [A4 0, A4 0, A8 []] : AObj)] else [.cells 24 [A4 0, A4 0, A8 []]]) Ae (by kernel_rfl) rfl rfl (fun _ => rfl) ?_
  apply Y.q
  case h1 =>
   intro B hT hF
   refine Z65 ?_;refine Fs ?_;refine lr ?_;exact pi
  case hTF => decide
  refine Z56 ?_;refine o3 ?_;refine R.fin [2, 3, 4, 6, 7] ?_;refine Gg ?_;refine Rr ?_;refine R.fin [2, 3, 4, 6, 7, 22] ?_
  refine W.cond (fun ht22 => ?_) (fun ht22 => ?_)
  ·have hm : Cx x.text ra rb d2 = Bg (Ai ra).2 := by rw [hc, if_pos ht22]
   refine Z0 ?_;refine Z43 ?_;refine Od ?_;exact fk
  refine W.draw [0, 0, 3, 7] 2 Ae (by kernel_rfl) ?_;refine D.loadOwnN jA jS ?_;refine D.call Tryz.call122 (Ut true _) ?_;refine D.tail ?_;refine R.eqlAgg S1 (fun w => Fl (Ai ra).1.kind (Ai ra).1.n 3 1 (Ai ra).1.s [] w) ?_;refine Au ?_;refine R.fin [2, 3, 4, 29] ?_
  refine W.cond (fun ht29 => ?_) (fun ht29 => ?_)
  ·rw [I7 (Ai ra).1 ⟨3, 1, []⟩] at ht29
   have ht29b : ((Ai ra).1 == E0 true) = true := ht29
   have hm : Cx x.text ra rb d2 = rb := by rw [hc, if_neg (by rw [ht22]; simp), if_pos ht29b]
   refine ld ?_;refine Fs ?_;refine D.indexAddr (1) (Ab k1) jU jS (h1 hni) ?_;refine I9 ?_;refine D.call Tryz.call158 (hb hni _) ?_;refine U7 ?_;refine Do ?_;refine Od ?_;exact fk
  rw [I7 (Ai ra).1 ⟨3, 1, []⟩] at ht29
  have hm : Cx x.text ra rb d2 = d2 := by rw [hc, if_neg (by rw [ht22]; simp), if_neg (by show ¬ ((Ai ra).1 == ⟨3, 1, []⟩) = true; rw [ht29]; simp)]
  refine Z17 ?_;refine ld ?_;refine Fs ?_;refine D.indexAddr (2) (Ab k2) jU jS (h2 ht12) ?_;refine I9 ?_;refine D.call Tryz.call158 (hd ht12 _) ?_;refine U7 ?_;exact m5
 have hc : Cx x.text ra rb d2 = (if ra.2 != 0 then Bg ra.2 else if x.text == B1 then (E0 (ra.1.kind == 0), 0) else if ra.1.kind != 0 then (ra.1, 0) else rb) := if_neg (by show ¬ (x.text == ifW) = true; rw [show (x.text == ifW) = false from ht12]; simp)
 refine Z5 ?_;refine W.drawY [0, 0, 2, 6, 14, 31, 63, 127, 127, 0, 767, 2047] [9, 10] [.q 9 [] [], .s [8] (some 0) [] [1], .s [] (some 1) [0] []] (fun _ => Hp) (fun B => if B 0 = true then [.cells 24 [A4 0, A4 0, A8 []], (if B 1 = true then .cells 24 [A4 ra.1.kind, A4 ra.1.n, A8 ra.1.s] else .cells 24 [A4 0, A4 0, A8 []] : AObj)] else [.cells 24 [A4 0, A4 0, A8 []]]) Ae (by kernel_rfl) rfl rfl (fun _ => rfl) ?_
 apply Y.q
 case h1 =>
  intro B hT hF
  refine Z65 ?_;refine Fs ?_;refine lr ?_;refine D.call Tryz.call158 (ha _) ?_;exact m3
 case hTF => decide
 refine qf ?_;refine Y.storeOwnT (u := Hp.length) (n := 1) (t' := 24) (cs := [A4 0, A4 0, A8 []]) (cs' := [A4 ra.1.kind, A4 ra.1.n, A8 ra.1.s]) Tryz.sizeOf24 (fun B hT hF hB => ⟨rfl, by simp [hT 0 (by simp), hB], by simp [upd, hT 0 (by simp), hB], rfl⟩) ?_;refine Y.tail (tn := [9, 10]) (O := [.cells 24 [A4 0, A4 0, A8 []], .cells 24 [A4 ra.1.kind, A4 ra.1.n, A8 ra.1.s]]) ?_;refine Au ?_;refine R.fin [2, 3, 4, 8, 9] ?_;refine Gg ?_;refine Rr ?_;refine R.fin [2, 3, 4, 8, 9, 58] ?_
 refine W.cond (fun ht58 => ?_) (fun ht58 => ?_)
 ·have hm : Cx x.text ra rb d2 = Bg ra.2 := by rw [hc, if_pos ht58]
  refine Z0 ?_;refine Z43 ?_;exact Rp
 refine Rw ?_;refine Z10 ?_;refine R.fin [2, 3, 4, 8, 65] ?_
 refine W.cond (fun ht65 => ?_) (fun ht65 => ?_)
 ·have hm : Cx x.text ra rb d2 = (E0 (ra.1.kind == 0), 0) := by rw [hc, if_neg (by rw [ht58]; simp), if_pos (show (x.text == B1) = true from ht65)]
  refine Xu ?_;refine R.eql ?_;exact pu
 refine Xu ?_;refine Rr ?_;refine R.fin [2, 3, 4, 8, 73] ?_
 refine W.cond (fun ht73 => ?_) (fun ht73 => ?_)
 ·have hm : Cx x.text ra rb d2 = (ra.1, 0) := by rw [hc, if_neg (by rw [ht58]; simp), if_neg (by show ¬ (x.text == B1) = true; rw [show (x.text == B1) = false from ht65]; simp), if_pos ht73]
  refine Z31 ?_;exact Qf
 have hm : Cx x.text ra rb d2 = rb := by rw [hc, if_neg (by rw [ht58]; simp), if_neg (by show ¬ (x.text == B1) = true; rw [show (x.text == B1) = false from ht65]; simp), if_neg (by rw [ht73]; simp)]
 refine Z17 ?_;refine ld ?_;refine Fs ?_;refine D.indexAddr (1) (Ab k1) jU jS (h1 ht65) ?_;refine I9 ?_;refine D.call Tryz.call158 (hb ht65 _) ?_;refine U7 ?_;exact gb

abbrev Tm (s : Sign) : AV := .agg [.slice false 1 (s.kids.map A4), A4 s.own]
theorem Em {n : Nat} (s : Sign) : Low n (Tm s) := by simp [or_imp, forall_and]
theorem v8 (s : Str) (Hp : List AObj) : AFun Tryz.prog 131 [A8 s] Hp (Tm (A2 s)) := by
 refine ACall.body [.cell 2 144] [0] Tryz.func131 Tryz.ntmps131 (fun d => ?_)
 refine Z80 ?_;refine Z9 ?_;refine R.fin [2, 3] ?_;refine Eq ?_;refine W.seq ?_;refine Z19 ?_;refine R.fin [2, 3, 4] ?_
 refine W.cond (fun ht4 => ?_) (fun ht4 => ?_)
 ·refine Z5 ?_
  refine W.cond (fun ht4 => ?_) (fun ht4 => ?_)
  ·refine Z35 ?_
   first | (by_cases e0 : A2 s = ⟨[3, 3], 3⟩; exact K.fin (V.one (V.cellN Tryz.isAgg144 Tryz.sizeOf144)) ⟨by rw [e0]; rfl, rfl⟩; exfalso; apply e0; simp_all [A2]; done) | (by_cases e0 : A2 s = ⟨[-1, -1], 3⟩; exact K.fin (V.one (V.cellN Tryz.isAgg144 Tryz.sizeOf144)) ⟨by rw [e0]; rfl, rfl⟩; exfalso; apply e0; simp_all [A2]; done) | (by_cases e0 : A2 s = ⟨[2, 2], 2⟩; exact K.fin (V.one (V.cellN Tryz.isAgg144 Tryz.sizeOf144)) ⟨by rw [e0]; rfl, rfl⟩; exfalso; apply e0; simp_all [A2]; done) | (by_cases e0 : A2 s = ⟨[1, 1], 1⟩; exact K.fin (V.one (V.cellN Tryz.isAgg144 Tryz.sizeOf144)) ⟨by rw [e0]; rfl, rfl⟩; exfalso; apply e0; simp_all [A2]; done)
  refine W.seq ?_;refine Z95 ?_
  refine W.cond (fun ht9 => ?_) (fun ht9 => ?_)
  ·refine Z5 ?_
   refine W.cond (fun ht9 => ?_) (fun ht9 => ?_)
   ·refine Z35 ?_
    first | (by_cases e0 : A2 s = ⟨[3, 3], 3⟩; exact K.fin (V.one (V.cellN Tryz.isAgg144 Tryz.sizeOf144)) ⟨by rw [e0]; rfl, rfl⟩; exfalso; apply e0; simp_all [A2]; done) | (by_cases e0 : A2 s = ⟨[-1, -1], 3⟩; exact K.fin (V.one (V.cellN Tryz.isAgg144 Tryz.sizeOf144)) ⟨by rw [e0]; rfl, rfl⟩; exfalso; apply e0; simp_all [A2]; done) | (by_cases e0 : A2 s = ⟨[2, 2], 2⟩; exact K.fin (V.one (V.cellN Tryz.isAgg144 Tryz.sizeOf144)) ⟨by rw [e0]; rfl, rfl⟩; exfalso; apply e0; simp_all [A2]; done) | (by_cases e0 : A2 s = ⟨[1, 1], 1⟩; exact K.fin (V.one (V.cellN Tryz.isAgg144 Tryz.sizeOf144)) ⟨by rw [e0]; rfl, rfl⟩; exfalso; apply e0; simp_all [A2]; done)
   refine Lg ?_
   refine W.cond (fun ht18 => ?_) (fun ht18 => ?_)
   ·refine Z35 ?_
    first | (by_cases e0 : A2 s = ⟨[3, 3], 3⟩; exact K.fin (V.one (V.cellN Tryz.isAgg144 Tryz.sizeOf144)) ⟨by rw [e0]; rfl, rfl⟩; exfalso; apply e0; simp_all [A2]; done) | (by_cases e0 : A2 s = ⟨[-1, -1], 3⟩; exact K.fin (V.one (V.cellN Tryz.isAgg144 Tryz.sizeOf144)) ⟨by rw [e0]; rfl, rfl⟩; exfalso; apply e0; simp_all [A2]; done) | (by_cases e0 : A2 s = ⟨[2, 2], 2⟩; exact K.fin (V.one (V.cellN Tryz.isAgg144 Tryz.sizeOf144)) ⟨by rw [e0]; rfl, rfl⟩; exfalso; apply e0; simp_all [A2]; done) | (by_cases e0 : A2 s = ⟨[1, 1], 1⟩; exact K.fin (V.one (V.cellN Tryz.isAgg144 Tryz.sizeOf144)) ⟨by rw [e0]; rfl, rfl⟩; exfalso; apply e0; simp_all [A2]; done)
   refine I8 ?_
   first | (by_cases e0 : A2 s = ⟨[3, 3], 3⟩; exact K.fin (V.one (V.cellN Tryz.isAgg144 Tryz.sizeOf144)) ⟨by rw [e0]; rfl, rfl⟩; exfalso; apply e0; simp_all [A2]; done) | (by_cases e0 : A2 s = ⟨[-1, -1], 3⟩; exact K.fin (V.one (V.cellN Tryz.isAgg144 Tryz.sizeOf144)) ⟨by rw [e0]; rfl, rfl⟩; exfalso; apply e0; simp_all [A2]; done) | (by_cases e0 : A2 s = ⟨[2, 2], 2⟩; exact K.fin (V.one (V.cellN Tryz.isAgg144 Tryz.sizeOf144)) ⟨by rw [e0]; rfl, rfl⟩; exfalso; apply e0; simp_all [A2]; done) | (by_cases e0 : A2 s = ⟨[1, 1], 1⟩; exact K.fin (V.one (V.cellN Tryz.isAgg144 Tryz.sizeOf144)) ⟨by rw [e0]; rfl, rfl⟩; exfalso; apply e0; simp_all [A2]; done)
  refine Z95 ?_
  refine W.cond (fun ht9 => ?_) (fun ht9 => ?_)
  ·refine Z5 ?_
   refine W.cond (fun ht9 => ?_) (fun ht9 => ?_)
   ·refine Z35 ?_
    first | (by_cases e0 : A2 s = ⟨[3, 3], 3⟩; exact K.fin (V.one (V.cellN Tryz.isAgg144 Tryz.sizeOf144)) ⟨by rw [e0]; rfl, rfl⟩; exfalso; apply e0; simp_all [A2]; done) | (by_cases e0 : A2 s = ⟨[-1, -1], 3⟩; exact K.fin (V.one (V.cellN Tryz.isAgg144 Tryz.sizeOf144)) ⟨by rw [e0]; rfl, rfl⟩; exfalso; apply e0; simp_all [A2]; done) | (by_cases e0 : A2 s = ⟨[2, 2], 2⟩; exact K.fin (V.one (V.cellN Tryz.isAgg144 Tryz.sizeOf144)) ⟨by rw [e0]; rfl, rfl⟩; exfalso; apply e0; simp_all [A2]; done) | (by_cases e0 : A2 s = ⟨[1, 1], 1⟩; exact K.fin (V.one (V.cellN Tryz.isAgg144 Tryz.sizeOf144)) ⟨by rw [e0]; rfl, rfl⟩; exfalso; apply e0; simp_all [A2]; done)
   refine Lg ?_
   refine W.cond (fun ht18 => ?_) (fun ht18 => ?_)
   ·refine Z35 ?_
    first | (by_cases e0 : A2 s = ⟨[3, 3], 3⟩; exact K.fin (V.one (V.cellN Tryz.isAgg144 Tryz.sizeOf144)) ⟨by rw [e0]; rfl, rfl⟩; exfalso; apply e0; simp_all [A2]; done) | (by_cases e0 : A2 s = ⟨[-1, -1], 3⟩; exact K.fin (V.one (V.cellN Tryz.isAgg144 Tryz.sizeOf144)) ⟨by rw [e0]; rfl, rfl⟩; exfalso; apply e0; simp_all [A2]; done) | (by_cases e0 : A2 s = ⟨[2, 2], 2⟩; exact K.fin (V.one (V.cellN Tryz.isAgg144 Tryz.sizeOf144)) ⟨by rw [e0]; rfl, rfl⟩; exfalso; apply e0; simp_all [A2]; done) | (by_cases e0 : A2 s = ⟨[1, 1], 1⟩; exact K.fin (V.one (V.cellN Tryz.isAgg144 Tryz.sizeOf144)) ⟨by rw [e0]; rfl, rfl⟩; exfalso; apply e0; simp_all [A2]; done)
   refine I8 ?_
   first | (by_cases e0 : A2 s = ⟨[3, 3], 3⟩; exact K.fin (V.one (V.cellN Tryz.isAgg144 Tryz.sizeOf144)) ⟨by rw [e0]; rfl, rfl⟩; exfalso; apply e0; simp_all [A2]; done) | (by_cases e0 : A2 s = ⟨[-1, -1], 3⟩; exact K.fin (V.one (V.cellN Tryz.isAgg144 Tryz.sizeOf144)) ⟨by rw [e0]; rfl, rfl⟩; exfalso; apply e0; simp_all [A2]; done) | (by_cases e0 : A2 s = ⟨[2, 2], 2⟩; exact K.fin (V.one (V.cellN Tryz.isAgg144 Tryz.sizeOf144)) ⟨by rw [e0]; rfl, rfl⟩; exfalso; apply e0; simp_all [A2]; done) | (by_cases e0 : A2 s = ⟨[1, 1], 1⟩; exact K.fin (V.one (V.cellN Tryz.isAgg144 Tryz.sizeOf144)) ⟨by rw [e0]; rfl, rfl⟩; exfalso; apply e0; simp_all [A2]; done)
  refine Z95 ?_
  refine W.cond (fun ht9 => ?_) (fun ht9 => ?_)
  ·refine Z5 ?_
   refine W.cond (fun ht9 => ?_) (fun ht9 => ?_)
   ·refine Z35 ?_
    first | (by_cases e0 : A2 s = ⟨[3, 3], 3⟩; exact K.fin (V.one (V.cellN Tryz.isAgg144 Tryz.sizeOf144)) ⟨by rw [e0]; rfl, rfl⟩; exfalso; apply e0; simp_all [A2]; done) | (by_cases e0 : A2 s = ⟨[-1, -1], 3⟩; exact K.fin (V.one (V.cellN Tryz.isAgg144 Tryz.sizeOf144)) ⟨by rw [e0]; rfl, rfl⟩; exfalso; apply e0; simp_all [A2]; done) | (by_cases e0 : A2 s = ⟨[2, 2], 2⟩; exact K.fin (V.one (V.cellN Tryz.isAgg144 Tryz.sizeOf144)) ⟨by rw [e0]; rfl, rfl⟩; exfalso; apply e0; simp_all [A2]; done) | (by_cases e0 : A2 s = ⟨[1, 1], 1⟩; exact K.fin (V.one (V.cellN Tryz.isAgg144 Tryz.sizeOf144)) ⟨by rw [e0]; rfl, rfl⟩; exfalso; apply e0; simp_all [A2]; done)
   refine Lg ?_
   refine W.cond (fun ht18 => ?_) (fun ht18 => ?_)
   ·refine Z35 ?_
    first | (by_cases e0 : A2 s = ⟨[3, 3], 3⟩; exact K.fin (V.one (V.cellN Tryz.isAgg144 Tryz.sizeOf144)) ⟨by rw [e0]; rfl, rfl⟩; exfalso; apply e0; simp_all [A2]; done) | (by_cases e0 : A2 s = ⟨[-1, -1], 3⟩; exact K.fin (V.one (V.cellN Tryz.isAgg144 Tryz.sizeOf144)) ⟨by rw [e0]; rfl, rfl⟩; exfalso; apply e0; simp_all [A2]; done) | (by_cases e0 : A2 s = ⟨[2, 2], 2⟩; exact K.fin (V.one (V.cellN Tryz.isAgg144 Tryz.sizeOf144)) ⟨by rw [e0]; rfl, rfl⟩; exfalso; apply e0; simp_all [A2]; done) | (by_cases e0 : A2 s = ⟨[1, 1], 1⟩; exact K.fin (V.one (V.cellN Tryz.isAgg144 Tryz.sizeOf144)) ⟨by rw [e0]; rfl, rfl⟩; exfalso; apply e0; simp_all [A2]; done)
   refine I8 ?_
   first | (by_cases e0 : A2 s = ⟨[3, 3], 3⟩; exact K.fin (V.one (V.cellN Tryz.isAgg144 Tryz.sizeOf144)) ⟨by rw [e0]; rfl, rfl⟩; exfalso; apply e0; simp_all [A2]; done) | (by_cases e0 : A2 s = ⟨[-1, -1], 3⟩; exact K.fin (V.one (V.cellN Tryz.isAgg144 Tryz.sizeOf144)) ⟨by rw [e0]; rfl, rfl⟩; exfalso; apply e0; simp_all [A2]; done) | (by_cases e0 : A2 s = ⟨[2, 2], 2⟩; exact K.fin (V.one (V.cellN Tryz.isAgg144 Tryz.sizeOf144)) ⟨by rw [e0]; rfl, rfl⟩; exfalso; apply e0; simp_all [A2]; done) | (by_cases e0 : A2 s = ⟨[1, 1], 1⟩; exact K.fin (V.one (V.cellN Tryz.isAgg144 Tryz.sizeOf144)) ⟨by rw [e0]; rfl, rfl⟩; exfalso; apply e0; simp_all [A2]; done)
  refine Z95 ?_
  refine W.cond (fun ht9 => ?_) (fun ht9 => ?_)
  ·refine Z5 ?_
   refine W.cond (fun ht9 => ?_) (fun ht9 => ?_)
   ·refine Z35 ?_
    first | (by_cases e0 : A2 s = ⟨[3, 3], 3⟩; exact K.fin (V.one (V.cellN Tryz.isAgg144 Tryz.sizeOf144)) ⟨by rw [e0]; rfl, rfl⟩; exfalso; apply e0; simp_all [A2]; done) | (by_cases e0 : A2 s = ⟨[-1, -1], 3⟩; exact K.fin (V.one (V.cellN Tryz.isAgg144 Tryz.sizeOf144)) ⟨by rw [e0]; rfl, rfl⟩; exfalso; apply e0; simp_all [A2]; done) | (by_cases e0 : A2 s = ⟨[2, 2], 2⟩; exact K.fin (V.one (V.cellN Tryz.isAgg144 Tryz.sizeOf144)) ⟨by rw [e0]; rfl, rfl⟩; exfalso; apply e0; simp_all [A2]; done) | (by_cases e0 : A2 s = ⟨[1, 1], 1⟩; exact K.fin (V.one (V.cellN Tryz.isAgg144 Tryz.sizeOf144)) ⟨by rw [e0]; rfl, rfl⟩; exfalso; apply e0; simp_all [A2]; done)
   refine Lg ?_
   refine W.cond (fun ht18 => ?_) (fun ht18 => ?_)
   ·refine Z35 ?_
    first | (by_cases e0 : A2 s = ⟨[3, 3], 3⟩; exact K.fin (V.one (V.cellN Tryz.isAgg144 Tryz.sizeOf144)) ⟨by rw [e0]; rfl, rfl⟩; exfalso; apply e0; simp_all [A2]; done) | (by_cases e0 : A2 s = ⟨[-1, -1], 3⟩; exact K.fin (V.one (V.cellN Tryz.isAgg144 Tryz.sizeOf144)) ⟨by rw [e0]; rfl, rfl⟩; exfalso; apply e0; simp_all [A2]; done) | (by_cases e0 : A2 s = ⟨[2, 2], 2⟩; exact K.fin (V.one (V.cellN Tryz.isAgg144 Tryz.sizeOf144)) ⟨by rw [e0]; rfl, rfl⟩; exfalso; apply e0; simp_all [A2]; done) | (by_cases e0 : A2 s = ⟨[1, 1], 1⟩; exact K.fin (V.one (V.cellN Tryz.isAgg144 Tryz.sizeOf144)) ⟨by rw [e0]; rfl, rfl⟩; exfalso; apply e0; simp_all [A2]; done)
   refine I8 ?_
   first | (by_cases e0 : A2 s = ⟨[3, 3], 3⟩; exact K.fin (V.one (V.cellN Tryz.isAgg144 Tryz.sizeOf144)) ⟨by rw [e0]; rfl, rfl⟩; exfalso; apply e0; simp_all [A2]; done) | (by_cases e0 : A2 s = ⟨[-1, -1], 3⟩; exact K.fin (V.one (V.cellN Tryz.isAgg144 Tryz.sizeOf144)) ⟨by rw [e0]; rfl, rfl⟩; exfalso; apply e0; simp_all [A2]; done) | (by_cases e0 : A2 s = ⟨[2, 2], 2⟩; exact K.fin (V.one (V.cellN Tryz.isAgg144 Tryz.sizeOf144)) ⟨by rw [e0]; rfl, rfl⟩; exfalso; apply e0; simp_all [A2]; done) | (by_cases e0 : A2 s = ⟨[1, 1], 1⟩; exact K.fin (V.one (V.cellN Tryz.isAgg144 Tryz.sizeOf144)) ⟨by rw [e0]; rfl, rfl⟩; exfalso; apply e0; simp_all [A2]; done)
  refine Z95 ?_
  refine W.cond (fun ht9 => ?_) (fun ht9 => ?_)
  ·refine Z5 ?_
   refine W.cond (fun ht9 => ?_) (fun ht9 => ?_)
   ·refine Z35 ?_
    first | (by_cases e0 : A2 s = ⟨[3, 3], 3⟩; exact K.fin (V.one (V.cellN Tryz.isAgg144 Tryz.sizeOf144)) ⟨by rw [e0]; rfl, rfl⟩; exfalso; apply e0; simp_all [A2]; done) | (by_cases e0 : A2 s = ⟨[-1, -1], 3⟩; exact K.fin (V.one (V.cellN Tryz.isAgg144 Tryz.sizeOf144)) ⟨by rw [e0]; rfl, rfl⟩; exfalso; apply e0; simp_all [A2]; done) | (by_cases e0 : A2 s = ⟨[2, 2], 2⟩; exact K.fin (V.one (V.cellN Tryz.isAgg144 Tryz.sizeOf144)) ⟨by rw [e0]; rfl, rfl⟩; exfalso; apply e0; simp_all [A2]; done) | (by_cases e0 : A2 s = ⟨[1, 1], 1⟩; exact K.fin (V.one (V.cellN Tryz.isAgg144 Tryz.sizeOf144)) ⟨by rw [e0]; rfl, rfl⟩; exfalso; apply e0; simp_all [A2]; done)
   refine Lg ?_
   refine W.cond (fun ht18 => ?_) (fun ht18 => ?_)
   ·refine Z35 ?_
    first | (by_cases e0 : A2 s = ⟨[3, 3], 3⟩; exact K.fin (V.one (V.cellN Tryz.isAgg144 Tryz.sizeOf144)) ⟨by rw [e0]; rfl, rfl⟩; exfalso; apply e0; simp_all [A2]; done) | (by_cases e0 : A2 s = ⟨[-1, -1], 3⟩; exact K.fin (V.one (V.cellN Tryz.isAgg144 Tryz.sizeOf144)) ⟨by rw [e0]; rfl, rfl⟩; exfalso; apply e0; simp_all [A2]; done) | (by_cases e0 : A2 s = ⟨[2, 2], 2⟩; exact K.fin (V.one (V.cellN Tryz.isAgg144 Tryz.sizeOf144)) ⟨by rw [e0]; rfl, rfl⟩; exfalso; apply e0; simp_all [A2]; done) | (by_cases e0 : A2 s = ⟨[1, 1], 1⟩; exact K.fin (V.one (V.cellN Tryz.isAgg144 Tryz.sizeOf144)) ⟨by rw [e0]; rfl, rfl⟩; exfalso; apply e0; simp_all [A2]; done)
   refine I8 ?_
   first | (by_cases e0 : A2 s = ⟨[3, 3], 3⟩; exact K.fin (V.one (V.cellN Tryz.isAgg144 Tryz.sizeOf144)) ⟨by rw [e0]; rfl, rfl⟩; exfalso; apply e0; simp_all [A2]; done) | (by_cases e0 : A2 s = ⟨[-1, -1], 3⟩; exact K.fin (V.one (V.cellN Tryz.isAgg144 Tryz.sizeOf144)) ⟨by rw [e0]; rfl, rfl⟩; exfalso; apply e0; simp_all [A2]; done) | (by_cases e0 : A2 s = ⟨[2, 2], 2⟩; exact K.fin (V.one (V.cellN Tryz.isAgg144 Tryz.sizeOf144)) ⟨by rw [e0]; rfl, rfl⟩; exfalso; apply e0; simp_all [A2]; done) | (by_cases e0 : A2 s = ⟨[1, 1], 1⟩; exact K.fin (V.one (V.cellN Tryz.isAgg144 Tryz.sizeOf144)) ⟨by rw [e0]; rfl, rfl⟩; exfalso; apply e0; simp_all [A2]; done)
  refine Qi ?_;refine R.fin [2, 3, 9] ?_;refine K.thN ?_
  refine W.cond (fun ht9 => ?_) (fun ht9 => ?_)
  ·refine Z35 ?_
   first | (by_cases e0 : A2 s = ⟨[3, 3], 3⟩; exact K.fin (V.one (V.cellN Tryz.isAgg144 Tryz.sizeOf144)) ⟨by rw [e0]; rfl, rfl⟩; exfalso; apply e0; simp_all [A2]; done) | (by_cases e0 : A2 s = ⟨[-1, -1], 3⟩; exact K.fin (V.one (V.cellN Tryz.isAgg144 Tryz.sizeOf144)) ⟨by rw [e0]; rfl, rfl⟩; exfalso; apply e0; simp_all [A2]; done) | (by_cases e0 : A2 s = ⟨[2, 2], 2⟩; exact K.fin (V.one (V.cellN Tryz.isAgg144 Tryz.sizeOf144)) ⟨by rw [e0]; rfl, rfl⟩; exfalso; apply e0; simp_all [A2]; done) | (by_cases e0 : A2 s = ⟨[1, 1], 1⟩; exact K.fin (V.one (V.cellN Tryz.isAgg144 Tryz.sizeOf144)) ⟨by rw [e0]; rfl, rfl⟩; exfalso; apply e0; simp_all [A2]; done)
  refine Lg ?_
  refine W.cond (fun ht18 => ?_) (fun ht18 => ?_)
  ·refine Z35 ?_
   first | (by_cases e0 : A2 s = ⟨[3, 3], 3⟩; exact K.fin (V.one (V.cellN Tryz.isAgg144 Tryz.sizeOf144)) ⟨by rw [e0]; rfl, rfl⟩; exfalso; apply e0; simp_all [A2]; done) | (by_cases e0 : A2 s = ⟨[-1, -1], 3⟩; exact K.fin (V.one (V.cellN Tryz.isAgg144 Tryz.sizeOf144)) ⟨by rw [e0]; rfl, rfl⟩; exfalso; apply e0; simp_all [A2]; done) | (by_cases e0 : A2 s = ⟨[2, 2], 2⟩; exact K.fin (V.one (V.cellN Tryz.isAgg144 Tryz.sizeOf144)) ⟨by rw [e0]; rfl, rfl⟩; exfalso; apply e0; simp_all [A2]; done) | (by_cases e0 : A2 s = ⟨[1, 1], 1⟩; exact K.fin (V.one (V.cellN Tryz.isAgg144 Tryz.sizeOf144)) ⟨by rw [e0]; rfl, rfl⟩; exfalso; apply e0; simp_all [A2]; done)
  refine I8 ?_
  first | (by_cases e0 : A2 s = ⟨[3, 3], 3⟩; exact K.fin (V.one (V.cellN Tryz.isAgg144 Tryz.sizeOf144)) ⟨by rw [e0]; rfl, rfl⟩; exfalso; apply e0; simp_all [A2]; done) | (by_cases e0 : A2 s = ⟨[-1, -1], 3⟩; exact K.fin (V.one (V.cellN Tryz.isAgg144 Tryz.sizeOf144)) ⟨by rw [e0]; rfl, rfl⟩; exfalso; apply e0; simp_all [A2]; done) | (by_cases e0 : A2 s = ⟨[2, 2], 2⟩; exact K.fin (V.one (V.cellN Tryz.isAgg144 Tryz.sizeOf144)) ⟨by rw [e0]; rfl, rfl⟩; exfalso; apply e0; simp_all [A2]; done) | (by_cases e0 : A2 s = ⟨[1, 1], 1⟩; exact K.fin (V.one (V.cellN Tryz.isAgg144 Tryz.sizeOf144)) ⟨by rw [e0]; rfl, rfl⟩; exfalso; apply e0; simp_all [A2]; done)
 refine Qi ?_;refine R.fin [2, 3, 4] ?_;refine K.thN ?_
 refine W.cond (fun ht4 => ?_) (fun ht4 => ?_)
 ·refine Z35 ?_
  first | (by_cases e0 : A2 s = ⟨[3, 3], 3⟩; exact K.fin (V.one (V.cellN Tryz.isAgg144 Tryz.sizeOf144)) ⟨by rw [e0]; rfl, rfl⟩; exfalso; apply e0; simp_all [A2]; done) | (by_cases e0 : A2 s = ⟨[-1, -1], 3⟩; exact K.fin (V.one (V.cellN Tryz.isAgg144 Tryz.sizeOf144)) ⟨by rw [e0]; rfl, rfl⟩; exfalso; apply e0; simp_all [A2]; done) | (by_cases e0 : A2 s = ⟨[2, 2], 2⟩; exact K.fin (V.one (V.cellN Tryz.isAgg144 Tryz.sizeOf144)) ⟨by rw [e0]; rfl, rfl⟩; exfalso; apply e0; simp_all [A2]; done) | (by_cases e0 : A2 s = ⟨[1, 1], 1⟩; exact K.fin (V.one (V.cellN Tryz.isAgg144 Tryz.sizeOf144)) ⟨by rw [e0]; rfl, rfl⟩; exfalso; apply e0; simp_all [A2]; done)
 refine W.seq ?_;refine Z95 ?_
 refine W.cond (fun ht9 => ?_) (fun ht9 => ?_)
 ·refine Z5 ?_
  refine W.cond (fun ht9 => ?_) (fun ht9 => ?_)
  ·refine Z35 ?_
   first | (by_cases e0 : A2 s = ⟨[3, 3], 3⟩; exact K.fin (V.one (V.cellN Tryz.isAgg144 Tryz.sizeOf144)) ⟨by rw [e0]; rfl, rfl⟩; exfalso; apply e0; simp_all [A2]; done) | (by_cases e0 : A2 s = ⟨[-1, -1], 3⟩; exact K.fin (V.one (V.cellN Tryz.isAgg144 Tryz.sizeOf144)) ⟨by rw [e0]; rfl, rfl⟩; exfalso; apply e0; simp_all [A2]; done) | (by_cases e0 : A2 s = ⟨[2, 2], 2⟩; exact K.fin (V.one (V.cellN Tryz.isAgg144 Tryz.sizeOf144)) ⟨by rw [e0]; rfl, rfl⟩; exfalso; apply e0; simp_all [A2]; done) | (by_cases e0 : A2 s = ⟨[1, 1], 1⟩; exact K.fin (V.one (V.cellN Tryz.isAgg144 Tryz.sizeOf144)) ⟨by rw [e0]; rfl, rfl⟩; exfalso; apply e0; simp_all [A2]; done)
  refine Lg ?_
  refine W.cond (fun ht18 => ?_) (fun ht18 => ?_)
  ·refine Z35 ?_
   first | (by_cases e0 : A2 s = ⟨[3, 3], 3⟩; exact K.fin (V.one (V.cellN Tryz.isAgg144 Tryz.sizeOf144)) ⟨by rw [e0]; rfl, rfl⟩; exfalso; apply e0; simp_all [A2]; done) | (by_cases e0 : A2 s = ⟨[-1, -1], 3⟩; exact K.fin (V.one (V.cellN Tryz.isAgg144 Tryz.sizeOf144)) ⟨by rw [e0]; rfl, rfl⟩; exfalso; apply e0; simp_all [A2]; done) | (by_cases e0 : A2 s = ⟨[2, 2], 2⟩; exact K.fin (V.one (V.cellN Tryz.isAgg144 Tryz.sizeOf144)) ⟨by rw [e0]; rfl, rfl⟩; exfalso; apply e0; simp_all [A2]; done) | (by_cases e0 : A2 s = ⟨[1, 1], 1⟩; exact K.fin (V.one (V.cellN Tryz.isAgg144 Tryz.sizeOf144)) ⟨by rw [e0]; rfl, rfl⟩; exfalso; apply e0; simp_all [A2]; done)
  refine I8 ?_
  first | (by_cases e0 : A2 s = ⟨[3, 3], 3⟩; exact K.fin (V.one (V.cellN Tryz.isAgg144 Tryz.sizeOf144)) ⟨by rw [e0]; rfl, rfl⟩; exfalso; apply e0; simp_all [A2]; done) | (by_cases e0 : A2 s = ⟨[-1, -1], 3⟩; exact K.fin (V.one (V.cellN Tryz.isAgg144 Tryz.sizeOf144)) ⟨by rw [e0]; rfl, rfl⟩; exfalso; apply e0; simp_all [A2]; done) | (by_cases e0 : A2 s = ⟨[2, 2], 2⟩; exact K.fin (V.one (V.cellN Tryz.isAgg144 Tryz.sizeOf144)) ⟨by rw [e0]; rfl, rfl⟩; exfalso; apply e0; simp_all [A2]; done) | (by_cases e0 : A2 s = ⟨[1, 1], 1⟩; exact K.fin (V.one (V.cellN Tryz.isAgg144 Tryz.sizeOf144)) ⟨by rw [e0]; rfl, rfl⟩; exfalso; apply e0; simp_all [A2]; done)
 refine Z95 ?_
 refine W.cond (fun ht9 => ?_) (fun ht9 => ?_)
 ·refine Z5 ?_
  refine W.cond (fun ht9 => ?_) (fun ht9 => ?_)
  ·refine Z35 ?_
   first | (by_cases e0 : A2 s = ⟨[3, 3], 3⟩; exact K.fin (V.one (V.cellN Tryz.isAgg144 Tryz.sizeOf144)) ⟨by rw [e0]; rfl, rfl⟩; exfalso; apply e0; simp_all [A2]; done) | (by_cases e0 : A2 s = ⟨[-1, -1], 3⟩; exact K.fin (V.one (V.cellN Tryz.isAgg144 Tryz.sizeOf144)) ⟨by rw [e0]; rfl, rfl⟩; exfalso; apply e0; simp_all [A2]; done) | (by_cases e0 : A2 s = ⟨[2, 2], 2⟩; exact K.fin (V.one (V.cellN Tryz.isAgg144 Tryz.sizeOf144)) ⟨by rw [e0]; rfl, rfl⟩; exfalso; apply e0; simp_all [A2]; done) | (by_cases e0 : A2 s = ⟨[1, 1], 1⟩; exact K.fin (V.one (V.cellN Tryz.isAgg144 Tryz.sizeOf144)) ⟨by rw [e0]; rfl, rfl⟩; exfalso; apply e0; simp_all [A2]; done)
  refine Lg ?_
  refine W.cond (fun ht18 => ?_) (fun ht18 => ?_)
  ·refine Z35 ?_
   first | (by_cases e0 : A2 s = ⟨[3, 3], 3⟩; exact K.fin (V.one (V.cellN Tryz.isAgg144 Tryz.sizeOf144)) ⟨by rw [e0]; rfl, rfl⟩; exfalso; apply e0; simp_all [A2]; done) | (by_cases e0 : A2 s = ⟨[-1, -1], 3⟩; exact K.fin (V.one (V.cellN Tryz.isAgg144 Tryz.sizeOf144)) ⟨by rw [e0]; rfl, rfl⟩; exfalso; apply e0; simp_all [A2]; done) | (by_cases e0 : A2 s = ⟨[2, 2], 2⟩; exact K.fin (V.one (V.cellN Tryz.isAgg144 Tryz.sizeOf144)) ⟨by rw [e0]; rfl, rfl⟩; exfalso; apply e0; simp_all [A2]; done) | (by_cases e0 : A2 s = ⟨[1, 1], 1⟩; exact K.fin (V.one (V.cellN Tryz.isAgg144 Tryz.sizeOf144)) ⟨by rw [e0]; rfl, rfl⟩; exfalso; apply e0; simp_all [A2]; done)
  refine I8 ?_
  first | (by_cases e0 : A2 s = ⟨[3, 3], 3⟩; exact K.fin (V.one (V.cellN Tryz.isAgg144 Tryz.sizeOf144)) ⟨by rw [e0]; rfl, rfl⟩; exfalso; apply e0; simp_all [A2]; done) | (by_cases e0 : A2 s = ⟨[-1, -1], 3⟩; exact K.fin (V.one (V.cellN Tryz.isAgg144 Tryz.sizeOf144)) ⟨by rw [e0]; rfl, rfl⟩; exfalso; apply e0; simp_all [A2]; done) | (by_cases e0 : A2 s = ⟨[2, 2], 2⟩; exact K.fin (V.one (V.cellN Tryz.isAgg144 Tryz.sizeOf144)) ⟨by rw [e0]; rfl, rfl⟩; exfalso; apply e0; simp_all [A2]; done) | (by_cases e0 : A2 s = ⟨[1, 1], 1⟩; exact K.fin (V.one (V.cellN Tryz.isAgg144 Tryz.sizeOf144)) ⟨by rw [e0]; rfl, rfl⟩; exfalso; apply e0; simp_all [A2]; done)
 refine Z95 ?_
 refine W.cond (fun ht9 => ?_) (fun ht9 => ?_)
 ·refine Z5 ?_
  refine W.cond (fun ht9 => ?_) (fun ht9 => ?_)
  ·refine Z35 ?_
   first | (by_cases e0 : A2 s = ⟨[3, 3], 3⟩; exact K.fin (V.one (V.cellN Tryz.isAgg144 Tryz.sizeOf144)) ⟨by rw [e0]; rfl, rfl⟩; exfalso; apply e0; simp_all [A2]; done) | (by_cases e0 : A2 s = ⟨[-1, -1], 3⟩; exact K.fin (V.one (V.cellN Tryz.isAgg144 Tryz.sizeOf144)) ⟨by rw [e0]; rfl, rfl⟩; exfalso; apply e0; simp_all [A2]; done) | (by_cases e0 : A2 s = ⟨[2, 2], 2⟩; exact K.fin (V.one (V.cellN Tryz.isAgg144 Tryz.sizeOf144)) ⟨by rw [e0]; rfl, rfl⟩; exfalso; apply e0; simp_all [A2]; done) | (by_cases e0 : A2 s = ⟨[1, 1], 1⟩; exact K.fin (V.one (V.cellN Tryz.isAgg144 Tryz.sizeOf144)) ⟨by rw [e0]; rfl, rfl⟩; exfalso; apply e0; simp_all [A2]; done)
  refine Lg ?_
  refine W.cond (fun ht18 => ?_) (fun ht18 => ?_)
  ·refine Z35 ?_
   first | (by_cases e0 : A2 s = ⟨[3, 3], 3⟩; exact K.fin (V.one (V.cellN Tryz.isAgg144 Tryz.sizeOf144)) ⟨by rw [e0]; rfl, rfl⟩; exfalso; apply e0; simp_all [A2]; done) | (by_cases e0 : A2 s = ⟨[-1, -1], 3⟩; exact K.fin (V.one (V.cellN Tryz.isAgg144 Tryz.sizeOf144)) ⟨by rw [e0]; rfl, rfl⟩; exfalso; apply e0; simp_all [A2]; done) | (by_cases e0 : A2 s = ⟨[2, 2], 2⟩; exact K.fin (V.one (V.cellN Tryz.isAgg144 Tryz.sizeOf144)) ⟨by rw [e0]; rfl, rfl⟩; exfalso; apply e0; simp_all [A2]; done) | (by_cases e0 : A2 s = ⟨[1, 1], 1⟩; exact K.fin (V.one (V.cellN Tryz.isAgg144 Tryz.sizeOf144)) ⟨by rw [e0]; rfl, rfl⟩; exfalso; apply e0; simp_all [A2]; done)
  refine I8 ?_
  first | (by_cases e0 : A2 s = ⟨[3, 3], 3⟩; exact K.fin (V.one (V.cellN Tryz.isAgg144 Tryz.sizeOf144)) ⟨by rw [e0]; rfl, rfl⟩; exfalso; apply e0; simp_all [A2]; done) | (by_cases e0 : A2 s = ⟨[-1, -1], 3⟩; exact K.fin (V.one (V.cellN Tryz.isAgg144 Tryz.sizeOf144)) ⟨by rw [e0]; rfl, rfl⟩; exfalso; apply e0; simp_all [A2]; done) | (by_cases e0 : A2 s = ⟨[2, 2], 2⟩; exact K.fin (V.one (V.cellN Tryz.isAgg144 Tryz.sizeOf144)) ⟨by rw [e0]; rfl, rfl⟩; exfalso; apply e0; simp_all [A2]; done) | (by_cases e0 : A2 s = ⟨[1, 1], 1⟩; exact K.fin (V.one (V.cellN Tryz.isAgg144 Tryz.sizeOf144)) ⟨by rw [e0]; rfl, rfl⟩; exfalso; apply e0; simp_all [A2]; done)
 refine Z95 ?_
 refine W.cond (fun ht9 => ?_) (fun ht9 => ?_)
 ·refine Z5 ?_
  refine W.cond (fun ht9 => ?_) (fun ht9 => ?_)
  ·refine Z35 ?_
   first | (by_cases e0 : A2 s = ⟨[3, 3], 3⟩; exact K.fin (V.one (V.cellN Tryz.isAgg144 Tryz.sizeOf144)) ⟨by rw [e0]; rfl, rfl⟩; exfalso; apply e0; simp_all [A2]; done) | (by_cases e0 : A2 s = ⟨[-1, -1], 3⟩; exact K.fin (V.one (V.cellN Tryz.isAgg144 Tryz.sizeOf144)) ⟨by rw [e0]; rfl, rfl⟩; exfalso; apply e0; simp_all [A2]; done) | (by_cases e0 : A2 s = ⟨[2, 2], 2⟩; exact K.fin (V.one (V.cellN Tryz.isAgg144 Tryz.sizeOf144)) ⟨by rw [e0]; rfl, rfl⟩; exfalso; apply e0; simp_all [A2]; done) | (by_cases e0 : A2 s = ⟨[1, 1], 1⟩; exact K.fin (V.one (V.cellN Tryz.isAgg144 Tryz.sizeOf144)) ⟨by rw [e0]; rfl, rfl⟩; exfalso; apply e0; simp_all [A2]; done)
  refine Lg ?_
  refine W.cond (fun ht18 => ?_) (fun ht18 => ?_)
  ·refine Z35 ?_
   first | (by_cases e0 : A2 s = ⟨[3, 3], 3⟩; exact K.fin (V.one (V.cellN Tryz.isAgg144 Tryz.sizeOf144)) ⟨by rw [e0]; rfl, rfl⟩; exfalso; apply e0; simp_all [A2]; done) | (by_cases e0 : A2 s = ⟨[-1, -1], 3⟩; exact K.fin (V.one (V.cellN Tryz.isAgg144 Tryz.sizeOf144)) ⟨by rw [e0]; rfl, rfl⟩; exfalso; apply e0; simp_all [A2]; done) | (by_cases e0 : A2 s = ⟨[2, 2], 2⟩; exact K.fin (V.one (V.cellN Tryz.isAgg144 Tryz.sizeOf144)) ⟨by rw [e0]; rfl, rfl⟩; exfalso; apply e0; simp_all [A2]; done) | (by_cases e0 : A2 s = ⟨[1, 1], 1⟩; exact K.fin (V.one (V.cellN Tryz.isAgg144 Tryz.sizeOf144)) ⟨by rw [e0]; rfl, rfl⟩; exfalso; apply e0; simp_all [A2]; done)
  refine I8 ?_
  first | (by_cases e0 : A2 s = ⟨[3, 3], 3⟩; exact K.fin (V.one (V.cellN Tryz.isAgg144 Tryz.sizeOf144)) ⟨by rw [e0]; rfl, rfl⟩; exfalso; apply e0; simp_all [A2]; done) | (by_cases e0 : A2 s = ⟨[-1, -1], 3⟩; exact K.fin (V.one (V.cellN Tryz.isAgg144 Tryz.sizeOf144)) ⟨by rw [e0]; rfl, rfl⟩; exfalso; apply e0; simp_all [A2]; done) | (by_cases e0 : A2 s = ⟨[2, 2], 2⟩; exact K.fin (V.one (V.cellN Tryz.isAgg144 Tryz.sizeOf144)) ⟨by rw [e0]; rfl, rfl⟩; exfalso; apply e0; simp_all [A2]; done) | (by_cases e0 : A2 s = ⟨[1, 1], 1⟩; exact K.fin (V.one (V.cellN Tryz.isAgg144 Tryz.sizeOf144)) ⟨by rw [e0]; rfl, rfl⟩; exfalso; apply e0; simp_all [A2]; done)
 refine Z95 ?_
 refine W.cond (fun ht9 => ?_) (fun ht9 => ?_)
 ·refine Z5 ?_
  refine W.cond (fun ht9 => ?_) (fun ht9 => ?_)
  ·refine Z35 ?_
   first | (by_cases e0 : A2 s = ⟨[3, 3], 3⟩; exact K.fin (V.one (V.cellN Tryz.isAgg144 Tryz.sizeOf144)) ⟨by rw [e0]; rfl, rfl⟩; exfalso; apply e0; simp_all [A2]; done) | (by_cases e0 : A2 s = ⟨[-1, -1], 3⟩; exact K.fin (V.one (V.cellN Tryz.isAgg144 Tryz.sizeOf144)) ⟨by rw [e0]; rfl, rfl⟩; exfalso; apply e0; simp_all [A2]; done) | (by_cases e0 : A2 s = ⟨[2, 2], 2⟩; exact K.fin (V.one (V.cellN Tryz.isAgg144 Tryz.sizeOf144)) ⟨by rw [e0]; rfl, rfl⟩; exfalso; apply e0; simp_all [A2]; done) | (by_cases e0 : A2 s = ⟨[1, 1], 1⟩; exact K.fin (V.one (V.cellN Tryz.isAgg144 Tryz.sizeOf144)) ⟨by rw [e0]; rfl, rfl⟩; exfalso; apply e0; simp_all [A2]; done)
  refine Lg ?_
  refine W.cond (fun ht18 => ?_) (fun ht18 => ?_)
  ·refine Z35 ?_
   first | (by_cases e0 : A2 s = ⟨[3, 3], 3⟩; exact K.fin (V.one (V.cellN Tryz.isAgg144 Tryz.sizeOf144)) ⟨by rw [e0]; rfl, rfl⟩; exfalso; apply e0; simp_all [A2]; done) | (by_cases e0 : A2 s = ⟨[-1, -1], 3⟩; exact K.fin (V.one (V.cellN Tryz.isAgg144 Tryz.sizeOf144)) ⟨by rw [e0]; rfl, rfl⟩; exfalso; apply e0; simp_all [A2]; done) | (by_cases e0 : A2 s = ⟨[2, 2], 2⟩; exact K.fin (V.one (V.cellN Tryz.isAgg144 Tryz.sizeOf144)) ⟨by rw [e0]; rfl, rfl⟩; exfalso; apply e0; simp_all [A2]; done) | (by_cases e0 : A2 s = ⟨[1, 1], 1⟩; exact K.fin (V.one (V.cellN Tryz.isAgg144 Tryz.sizeOf144)) ⟨by rw [e0]; rfl, rfl⟩; exfalso; apply e0; simp_all [A2]; done)
  refine I8 ?_
  first | (by_cases e0 : A2 s = ⟨[3, 3], 3⟩; exact K.fin (V.one (V.cellN Tryz.isAgg144 Tryz.sizeOf144)) ⟨by rw [e0]; rfl, rfl⟩; exfalso; apply e0; simp_all [A2]; done) | (by_cases e0 : A2 s = ⟨[-1, -1], 3⟩; exact K.fin (V.one (V.cellN Tryz.isAgg144 Tryz.sizeOf144)) ⟨by rw [e0]; rfl, rfl⟩; exfalso; apply e0; simp_all [A2]; done) | (by_cases e0 : A2 s = ⟨[2, 2], 2⟩; exact K.fin (V.one (V.cellN Tryz.isAgg144 Tryz.sizeOf144)) ⟨by rw [e0]; rfl, rfl⟩; exfalso; apply e0; simp_all [A2]; done) | (by_cases e0 : A2 s = ⟨[1, 1], 1⟩; exact K.fin (V.one (V.cellN Tryz.isAgg144 Tryz.sizeOf144)) ⟨by rw [e0]; rfl, rfl⟩; exfalso; apply e0; simp_all [A2]; done)
 refine Qi ?_;refine R.fin [2, 3, 9] ?_;refine K.thN ?_
 refine W.cond (fun ht9 => ?_) (fun ht9 => ?_)
 ·refine Z35 ?_
  first | (by_cases e0 : A2 s = ⟨[3, 3], 3⟩; exact K.fin (V.one (V.cellN Tryz.isAgg144 Tryz.sizeOf144)) ⟨by rw [e0]; rfl, rfl⟩; exfalso; apply e0; simp_all [A2]; done) | (by_cases e0 : A2 s = ⟨[-1, -1], 3⟩; exact K.fin (V.one (V.cellN Tryz.isAgg144 Tryz.sizeOf144)) ⟨by rw [e0]; rfl, rfl⟩; exfalso; apply e0; simp_all [A2]; done) | (by_cases e0 : A2 s = ⟨[2, 2], 2⟩; exact K.fin (V.one (V.cellN Tryz.isAgg144 Tryz.sizeOf144)) ⟨by rw [e0]; rfl, rfl⟩; exfalso; apply e0; simp_all [A2]; done) | (by_cases e0 : A2 s = ⟨[1, 1], 1⟩; exact K.fin (V.one (V.cellN Tryz.isAgg144 Tryz.sizeOf144)) ⟨by rw [e0]; rfl, rfl⟩; exfalso; apply e0; simp_all [A2]; done)
 refine Lg ?_
 refine W.cond (fun ht18 => ?_) (fun ht18 => ?_)
 ·refine Z35 ?_
  first | (by_cases e0 : A2 s = ⟨[3, 3], 3⟩; exact K.fin (V.one (V.cellN Tryz.isAgg144 Tryz.sizeOf144)) ⟨by rw [e0]; rfl, rfl⟩; exfalso; apply e0; simp_all [A2]; done) | (by_cases e0 : A2 s = ⟨[-1, -1], 3⟩; exact K.fin (V.one (V.cellN Tryz.isAgg144 Tryz.sizeOf144)) ⟨by rw [e0]; rfl, rfl⟩; exfalso; apply e0; simp_all [A2]; done) | (by_cases e0 : A2 s = ⟨[2, 2], 2⟩; exact K.fin (V.one (V.cellN Tryz.isAgg144 Tryz.sizeOf144)) ⟨by rw [e0]; rfl, rfl⟩; exfalso; apply e0; simp_all [A2]; done) | (by_cases e0 : A2 s = ⟨[1, 1], 1⟩; exact K.fin (V.one (V.cellN Tryz.isAgg144 Tryz.sizeOf144)) ⟨by rw [e0]; rfl, rfl⟩; exfalso; apply e0; simp_all [A2]; done)
 refine I8 ?_
 first | (by_cases e0 : A2 s = ⟨[3, 3], 3⟩; exact K.fin (V.one (V.cellN Tryz.isAgg144 Tryz.sizeOf144)) ⟨by rw [e0]; rfl, rfl⟩; exfalso; apply e0; simp_all [A2]; done) | (by_cases e0 : A2 s = ⟨[-1, -1], 3⟩; exact K.fin (V.one (V.cellN Tryz.isAgg144 Tryz.sizeOf144)) ⟨by rw [e0]; rfl, rfl⟩; exfalso; apply e0; simp_all [A2]; done) | (by_cases e0 : A2 s = ⟨[2, 2], 2⟩; exact K.fin (V.one (V.cellN Tryz.isAgg144 Tryz.sizeOf144)) ⟨by rw [e0]; rfl, rfl⟩; exfalso; apply e0; simp_all [A2]; done) | (by_cases e0 : A2 s = ⟨[1, 1], 1⟩; exact K.fin (V.one (V.cellN Tryz.isAgg144 Tryz.sizeOf144)) ⟨by rw [e0]; rfl, rfl⟩; exfalso; apply e0; simp_all [A2]; done)

theorem vd (s : Str) (Hp : List AObj) : AFun Tryz.prog 132 [A8 s] Hp (Tm (A3 s)) := by
 refine ACall.body [.cell 2 144] [0] Tryz.func132 Tryz.ntmps132 (fun d => ?_)
 refine Z80 ?_;refine Z9 ?_;refine R.fin [2, 3] ?_;refine Eq ?_;refine W.seq ?_;refine Z19 ?_;refine R.fin [2, 3, 4] ?_
 refine W.cond (fun ht4 => ?_) (fun ht4 => ?_)
 ·refine Z5 ?_
  refine W.cond (fun ht4 => ?_) (fun ht4 => ?_)
  ·refine Z35 ?_
   first | (by_cases e0 : A3 s = ⟨[2], 1⟩; exact K.fin (V.one (V.cellN Tryz.isAgg144 Tryz.sizeOf144)) ⟨by rw [e0]; rfl, rfl⟩; exfalso; apply e0; simp_all [A3]; done) | (by_cases e0 : A3 s = ⟨[1], 2⟩; exact K.fin (V.one (V.cellN Tryz.isAgg144 Tryz.sizeOf144)) ⟨by rw [e0]; rfl, rfl⟩; exfalso; apply e0; simp_all [A3]; done) | (by_cases e0 : A3 s = ⟨[2, 1], 2⟩; exact K.fin (V.one (V.cellN Tryz.isAgg144 Tryz.sizeOf144)) ⟨by rw [e0]; rfl, rfl⟩; exfalso; apply e0; simp_all [A3]; done) | (by_cases e0 : A3 s = ⟨[-2], 3⟩; exact K.fin (V.one (V.cellN Tryz.isAgg144 Tryz.sizeOf144)) ⟨by rw [e0]; rfl, rfl⟩; exfalso; apply e0; simp_all [A3]; done) | (by_cases e0 : A3 s = ⟨[-1, -1], -1⟩; exact K.fin (V.one (V.cellN Tryz.isAgg144 Tryz.sizeOf144)) ⟨by rw [e0]; rfl, rfl⟩; exfalso; apply e0; simp_all [A3]; done) | (by_cases e0 : A3 s = ⟨[3, -1, -1], -1⟩; exact K.fin (V.one (V.cellN Tryz.isAgg144 Tryz.sizeOf144)) ⟨by rw [e0]; rfl, rfl⟩; exfalso; apply e0; simp_all [A3]; done)
  refine Z95 ?_
  refine W.cond (fun ht9 => ?_) (fun ht9 => ?_)
  ·refine Z35 ?_
   first | (by_cases e0 : A3 s = ⟨[2], 1⟩; exact K.fin (V.one (V.cellN Tryz.isAgg144 Tryz.sizeOf144)) ⟨by rw [e0]; rfl, rfl⟩; exfalso; apply e0; simp_all [A3]; done) | (by_cases e0 : A3 s = ⟨[1], 2⟩; exact K.fin (V.one (V.cellN Tryz.isAgg144 Tryz.sizeOf144)) ⟨by rw [e0]; rfl, rfl⟩; exfalso; apply e0; simp_all [A3]; done) | (by_cases e0 : A3 s = ⟨[2, 1], 2⟩; exact K.fin (V.one (V.cellN Tryz.isAgg144 Tryz.sizeOf144)) ⟨by rw [e0]; rfl, rfl⟩; exfalso; apply e0; simp_all [A3]; done) | (by_cases e0 : A3 s = ⟨[-2], 3⟩; exact K.fin (V.one (V.cellN Tryz.isAgg144 Tryz.sizeOf144)) ⟨by rw [e0]; rfl, rfl⟩; exfalso; apply e0; simp_all [A3]; done) | (by_cases e0 : A3 s = ⟨[-1, -1], -1⟩; exact K.fin (V.one (V.cellN Tryz.isAgg144 Tryz.sizeOf144)) ⟨by rw [e0]; rfl, rfl⟩; exfalso; apply e0; simp_all [A3]; done) | (by_cases e0 : A3 s = ⟨[3, -1, -1], -1⟩; exact K.fin (V.one (V.cellN Tryz.isAgg144 Tryz.sizeOf144)) ⟨by rw [e0]; rfl, rfl⟩; exfalso; apply e0; simp_all [A3]; done)
  refine W.seq ?_;refine Z19 ?_;refine R.fin [2, 3, 13] ?_
  refine W.cond (fun ht13 => ?_) (fun ht13 => ?_)
  ·refine Z5 ?_
   refine W.cond (fun ht13 => ?_) (fun ht13 => ?_)
   ·refine Z35 ?_
    first | (by_cases e0 : A3 s = ⟨[2], 1⟩; exact K.fin (V.one (V.cellN Tryz.isAgg144 Tryz.sizeOf144)) ⟨by rw [e0]; rfl, rfl⟩; exfalso; apply e0; simp_all [A3]; done) | (by_cases e0 : A3 s = ⟨[1], 2⟩; exact K.fin (V.one (V.cellN Tryz.isAgg144 Tryz.sizeOf144)) ⟨by rw [e0]; rfl, rfl⟩; exfalso; apply e0; simp_all [A3]; done) | (by_cases e0 : A3 s = ⟨[2, 1], 2⟩; exact K.fin (V.one (V.cellN Tryz.isAgg144 Tryz.sizeOf144)) ⟨by rw [e0]; rfl, rfl⟩; exfalso; apply e0; simp_all [A3]; done) | (by_cases e0 : A3 s = ⟨[-2], 3⟩; exact K.fin (V.one (V.cellN Tryz.isAgg144 Tryz.sizeOf144)) ⟨by rw [e0]; rfl, rfl⟩; exfalso; apply e0; simp_all [A3]; done) | (by_cases e0 : A3 s = ⟨[-1, -1], -1⟩; exact K.fin (V.one (V.cellN Tryz.isAgg144 Tryz.sizeOf144)) ⟨by rw [e0]; rfl, rfl⟩; exfalso; apply e0; simp_all [A3]; done) | (by_cases e0 : A3 s = ⟨[3, -1, -1], -1⟩; exact K.fin (V.one (V.cellN Tryz.isAgg144 Tryz.sizeOf144)) ⟨by rw [e0]; rfl, rfl⟩; exfalso; apply e0; simp_all [A3]; done)
   refine gk ?_
   refine W.cond (fun ht18 => ?_) (fun ht18 => ?_)
   ·refine Z35 ?_
    first | (by_cases e0 : A3 s = ⟨[2], 1⟩; exact K.fin (V.one (V.cellN Tryz.isAgg144 Tryz.sizeOf144)) ⟨by rw [e0]; rfl, rfl⟩; exfalso; apply e0; simp_all [A3]; done) | (by_cases e0 : A3 s = ⟨[1], 2⟩; exact K.fin (V.one (V.cellN Tryz.isAgg144 Tryz.sizeOf144)) ⟨by rw [e0]; rfl, rfl⟩; exfalso; apply e0; simp_all [A3]; done) | (by_cases e0 : A3 s = ⟨[2, 1], 2⟩; exact K.fin (V.one (V.cellN Tryz.isAgg144 Tryz.sizeOf144)) ⟨by rw [e0]; rfl, rfl⟩; exfalso; apply e0; simp_all [A3]; done) | (by_cases e0 : A3 s = ⟨[-2], 3⟩; exact K.fin (V.one (V.cellN Tryz.isAgg144 Tryz.sizeOf144)) ⟨by rw [e0]; rfl, rfl⟩; exfalso; apply e0; simp_all [A3]; done) | (by_cases e0 : A3 s = ⟨[-1, -1], -1⟩; exact K.fin (V.one (V.cellN Tryz.isAgg144 Tryz.sizeOf144)) ⟨by rw [e0]; rfl, rfl⟩; exfalso; apply e0; simp_all [A3]; done) | (by_cases e0 : A3 s = ⟨[3, -1, -1], -1⟩; exact K.fin (V.one (V.cellN Tryz.isAgg144 Tryz.sizeOf144)) ⟨by rw [e0]; rfl, rfl⟩; exfalso; apply e0; simp_all [A3]; done)
   refine gy ?_
   refine W.cond (fun ht22 => ?_) (fun ht22 => ?_)
   ·refine Z35 ?_
    first | (by_cases e0 : A3 s = ⟨[2], 1⟩; exact K.fin (V.one (V.cellN Tryz.isAgg144 Tryz.sizeOf144)) ⟨by rw [e0]; rfl, rfl⟩; exfalso; apply e0; simp_all [A3]; done) | (by_cases e0 : A3 s = ⟨[1], 2⟩; exact K.fin (V.one (V.cellN Tryz.isAgg144 Tryz.sizeOf144)) ⟨by rw [e0]; rfl, rfl⟩; exfalso; apply e0; simp_all [A3]; done) | (by_cases e0 : A3 s = ⟨[2, 1], 2⟩; exact K.fin (V.one (V.cellN Tryz.isAgg144 Tryz.sizeOf144)) ⟨by rw [e0]; rfl, rfl⟩; exfalso; apply e0; simp_all [A3]; done) | (by_cases e0 : A3 s = ⟨[-2], 3⟩; exact K.fin (V.one (V.cellN Tryz.isAgg144 Tryz.sizeOf144)) ⟨by rw [e0]; rfl, rfl⟩; exfalso; apply e0; simp_all [A3]; done) | (by_cases e0 : A3 s = ⟨[-1, -1], -1⟩; exact K.fin (V.one (V.cellN Tryz.isAgg144 Tryz.sizeOf144)) ⟨by rw [e0]; rfl, rfl⟩; exfalso; apply e0; simp_all [A3]; done) | (by_cases e0 : A3 s = ⟨[3, -1, -1], -1⟩; exact K.fin (V.one (V.cellN Tryz.isAgg144 Tryz.sizeOf144)) ⟨by rw [e0]; rfl, rfl⟩; exfalso; apply e0; simp_all [A3]; done)
   refine I8 ?_
   first | (by_cases e0 : A3 s = ⟨[2], 1⟩; exact K.fin (V.one (V.cellN Tryz.isAgg144 Tryz.sizeOf144)) ⟨by rw [e0]; rfl, rfl⟩; exfalso; apply e0; simp_all [A3]; done) | (by_cases e0 : A3 s = ⟨[1], 2⟩; exact K.fin (V.one (V.cellN Tryz.isAgg144 Tryz.sizeOf144)) ⟨by rw [e0]; rfl, rfl⟩; exfalso; apply e0; simp_all [A3]; done) | (by_cases e0 : A3 s = ⟨[2, 1], 2⟩; exact K.fin (V.one (V.cellN Tryz.isAgg144 Tryz.sizeOf144)) ⟨by rw [e0]; rfl, rfl⟩; exfalso; apply e0; simp_all [A3]; done) | (by_cases e0 : A3 s = ⟨[-2], 3⟩; exact K.fin (V.one (V.cellN Tryz.isAgg144 Tryz.sizeOf144)) ⟨by rw [e0]; rfl, rfl⟩; exfalso; apply e0; simp_all [A3]; done) | (by_cases e0 : A3 s = ⟨[-1, -1], -1⟩; exact K.fin (V.one (V.cellN Tryz.isAgg144 Tryz.sizeOf144)) ⟨by rw [e0]; rfl, rfl⟩; exfalso; apply e0; simp_all [A3]; done) | (by_cases e0 : A3 s = ⟨[3, -1, -1], -1⟩; exact K.fin (V.one (V.cellN Tryz.isAgg144 Tryz.sizeOf144)) ⟨by rw [e0]; rfl, rfl⟩; exfalso; apply e0; simp_all [A3]; done)
  refine Qi ?_;refine R.fin [2, 3, 13] ?_;refine K.thN ?_
  refine W.cond (fun ht13 => ?_) (fun ht13 => ?_)
  ·refine Z35 ?_
   first | (by_cases e0 : A3 s = ⟨[2], 1⟩; exact K.fin (V.one (V.cellN Tryz.isAgg144 Tryz.sizeOf144)) ⟨by rw [e0]; rfl, rfl⟩; exfalso; apply e0; simp_all [A3]; done) | (by_cases e0 : A3 s = ⟨[1], 2⟩; exact K.fin (V.one (V.cellN Tryz.isAgg144 Tryz.sizeOf144)) ⟨by rw [e0]; rfl, rfl⟩; exfalso; apply e0; simp_all [A3]; done) | (by_cases e0 : A3 s = ⟨[2, 1], 2⟩; exact K.fin (V.one (V.cellN Tryz.isAgg144 Tryz.sizeOf144)) ⟨by rw [e0]; rfl, rfl⟩; exfalso; apply e0; simp_all [A3]; done) | (by_cases e0 : A3 s = ⟨[-2], 3⟩; exact K.fin (V.one (V.cellN Tryz.isAgg144 Tryz.sizeOf144)) ⟨by rw [e0]; rfl, rfl⟩; exfalso; apply e0; simp_all [A3]; done) | (by_cases e0 : A3 s = ⟨[-1, -1], -1⟩; exact K.fin (V.one (V.cellN Tryz.isAgg144 Tryz.sizeOf144)) ⟨by rw [e0]; rfl, rfl⟩; exfalso; apply e0; simp_all [A3]; done) | (by_cases e0 : A3 s = ⟨[3, -1, -1], -1⟩; exact K.fin (V.one (V.cellN Tryz.isAgg144 Tryz.sizeOf144)) ⟨by rw [e0]; rfl, rfl⟩; exfalso; apply e0; simp_all [A3]; done)
  refine gk ?_
  refine W.cond (fun ht18 => ?_) (fun ht18 => ?_)
  ·refine Z35 ?_
   first | (by_cases e0 : A3 s = ⟨[2], 1⟩; exact K.fin (V.one (V.cellN Tryz.isAgg144 Tryz.sizeOf144)) ⟨by rw [e0]; rfl, rfl⟩; exfalso; apply e0; simp_all [A3]; done) | (by_cases e0 : A3 s = ⟨[1], 2⟩; exact K.fin (V.one (V.cellN Tryz.isAgg144 Tryz.sizeOf144)) ⟨by rw [e0]; rfl, rfl⟩; exfalso; apply e0; simp_all [A3]; done) | (by_cases e0 : A3 s = ⟨[2, 1], 2⟩; exact K.fin (V.one (V.cellN Tryz.isAgg144 Tryz.sizeOf144)) ⟨by rw [e0]; rfl, rfl⟩; exfalso; apply e0; simp_all [A3]; done) | (by_cases e0 : A3 s = ⟨[-2], 3⟩; exact K.fin (V.one (V.cellN Tryz.isAgg144 Tryz.sizeOf144)) ⟨by rw [e0]; rfl, rfl⟩; exfalso; apply e0; simp_all [A3]; done) | (by_cases e0 : A3 s = ⟨[-1, -1], -1⟩; exact K.fin (V.one (V.cellN Tryz.isAgg144 Tryz.sizeOf144)) ⟨by rw [e0]; rfl, rfl⟩; exfalso; apply e0; simp_all [A3]; done) | (by_cases e0 : A3 s = ⟨[3, -1, -1], -1⟩; exact K.fin (V.one (V.cellN Tryz.isAgg144 Tryz.sizeOf144)) ⟨by rw [e0]; rfl, rfl⟩; exfalso; apply e0; simp_all [A3]; done)
  refine gy ?_
  refine W.cond (fun ht22 => ?_) (fun ht22 => ?_)
  ·refine Z35 ?_
   first | (by_cases e0 : A3 s = ⟨[2], 1⟩; exact K.fin (V.one (V.cellN Tryz.isAgg144 Tryz.sizeOf144)) ⟨by rw [e0]; rfl, rfl⟩; exfalso; apply e0; simp_all [A3]; done) | (by_cases e0 : A3 s = ⟨[1], 2⟩; exact K.fin (V.one (V.cellN Tryz.isAgg144 Tryz.sizeOf144)) ⟨by rw [e0]; rfl, rfl⟩; exfalso; apply e0; simp_all [A3]; done) | (by_cases e0 : A3 s = ⟨[2, 1], 2⟩; exact K.fin (V.one (V.cellN Tryz.isAgg144 Tryz.sizeOf144)) ⟨by rw [e0]; rfl, rfl⟩; exfalso; apply e0; simp_all [A3]; done) | (by_cases e0 : A3 s = ⟨[-2], 3⟩; exact K.fin (V.one (V.cellN Tryz.isAgg144 Tryz.sizeOf144)) ⟨by rw [e0]; rfl, rfl⟩; exfalso; apply e0; simp_all [A3]; done) | (by_cases e0 : A3 s = ⟨[-1, -1], -1⟩; exact K.fin (V.one (V.cellN Tryz.isAgg144 Tryz.sizeOf144)) ⟨by rw [e0]; rfl, rfl⟩; exfalso; apply e0; simp_all [A3]; done) | (by_cases e0 : A3 s = ⟨[3, -1, -1], -1⟩; exact K.fin (V.one (V.cellN Tryz.isAgg144 Tryz.sizeOf144)) ⟨by rw [e0]; rfl, rfl⟩; exfalso; apply e0; simp_all [A3]; done)
  refine I8 ?_
  first | (by_cases e0 : A3 s = ⟨[2], 1⟩; exact K.fin (V.one (V.cellN Tryz.isAgg144 Tryz.sizeOf144)) ⟨by rw [e0]; rfl, rfl⟩; exfalso; apply e0; simp_all [A3]; done) | (by_cases e0 : A3 s = ⟨[1], 2⟩; exact K.fin (V.one (V.cellN Tryz.isAgg144 Tryz.sizeOf144)) ⟨by rw [e0]; rfl, rfl⟩; exfalso; apply e0; simp_all [A3]; done) | (by_cases e0 : A3 s = ⟨[2, 1], 2⟩; exact K.fin (V.one (V.cellN Tryz.isAgg144 Tryz.sizeOf144)) ⟨by rw [e0]; rfl, rfl⟩; exfalso; apply e0; simp_all [A3]; done) | (by_cases e0 : A3 s = ⟨[-2], 3⟩; exact K.fin (V.one (V.cellN Tryz.isAgg144 Tryz.sizeOf144)) ⟨by rw [e0]; rfl, rfl⟩; exfalso; apply e0; simp_all [A3]; done) | (by_cases e0 : A3 s = ⟨[-1, -1], -1⟩; exact K.fin (V.one (V.cellN Tryz.isAgg144 Tryz.sizeOf144)) ⟨by rw [e0]; rfl, rfl⟩; exfalso; apply e0; simp_all [A3]; done) | (by_cases e0 : A3 s = ⟨[3, -1, -1], -1⟩; exact K.fin (V.one (V.cellN Tryz.isAgg144 Tryz.sizeOf144)) ⟨by rw [e0]; rfl, rfl⟩; exfalso; apply e0; simp_all [A3]; done)
 refine Qi ?_;refine R.fin [2, 3, 4] ?_;refine K.thN ?_
 refine W.cond (fun ht4 => ?_) (fun ht4 => ?_)
 ·refine Z35 ?_
  first | (by_cases e0 : A3 s = ⟨[2], 1⟩; exact K.fin (V.one (V.cellN Tryz.isAgg144 Tryz.sizeOf144)) ⟨by rw [e0]; rfl, rfl⟩; exfalso; apply e0; simp_all [A3]; done) | (by_cases e0 : A3 s = ⟨[1], 2⟩; exact K.fin (V.one (V.cellN Tryz.isAgg144 Tryz.sizeOf144)) ⟨by rw [e0]; rfl, rfl⟩; exfalso; apply e0; simp_all [A3]; done) | (by_cases e0 : A3 s = ⟨[2, 1], 2⟩; exact K.fin (V.one (V.cellN Tryz.isAgg144 Tryz.sizeOf144)) ⟨by rw [e0]; rfl, rfl⟩; exfalso; apply e0; simp_all [A3]; done) | (by_cases e0 : A3 s = ⟨[-2], 3⟩; exact K.fin (V.one (V.cellN Tryz.isAgg144 Tryz.sizeOf144)) ⟨by rw [e0]; rfl, rfl⟩; exfalso; apply e0; simp_all [A3]; done) | (by_cases e0 : A3 s = ⟨[-1, -1], -1⟩; exact K.fin (V.one (V.cellN Tryz.isAgg144 Tryz.sizeOf144)) ⟨by rw [e0]; rfl, rfl⟩; exfalso; apply e0; simp_all [A3]; done) | (by_cases e0 : A3 s = ⟨[3, -1, -1], -1⟩; exact K.fin (V.one (V.cellN Tryz.isAgg144 Tryz.sizeOf144)) ⟨by rw [e0]; rfl, rfl⟩; exfalso; apply e0; simp_all [A3]; done)
 refine Z95 ?_
 refine W.cond (fun ht9 => ?_) (fun ht9 => ?_)
 ·refine Z35 ?_
  first | (by_cases e0 : A3 s = ⟨[2], 1⟩; exact K.fin (V.one (V.cellN Tryz.isAgg144 Tryz.sizeOf144)) ⟨by rw [e0]; rfl, rfl⟩; exfalso; apply e0; simp_all [A3]; done) | (by_cases e0 : A3 s = ⟨[1], 2⟩; exact K.fin (V.one (V.cellN Tryz.isAgg144 Tryz.sizeOf144)) ⟨by rw [e0]; rfl, rfl⟩; exfalso; apply e0; simp_all [A3]; done) | (by_cases e0 : A3 s = ⟨[2, 1], 2⟩; exact K.fin (V.one (V.cellN Tryz.isAgg144 Tryz.sizeOf144)) ⟨by rw [e0]; rfl, rfl⟩; exfalso; apply e0; simp_all [A3]; done) | (by_cases e0 : A3 s = ⟨[-2], 3⟩; exact K.fin (V.one (V.cellN Tryz.isAgg144 Tryz.sizeOf144)) ⟨by rw [e0]; rfl, rfl⟩; exfalso; apply e0; simp_all [A3]; done) | (by_cases e0 : A3 s = ⟨[-1, -1], -1⟩; exact K.fin (V.one (V.cellN Tryz.isAgg144 Tryz.sizeOf144)) ⟨by rw [e0]; rfl, rfl⟩; exfalso; apply e0; simp_all [A3]; done) | (by_cases e0 : A3 s = ⟨[3, -1, -1], -1⟩; exact K.fin (V.one (V.cellN Tryz.isAgg144 Tryz.sizeOf144)) ⟨by rw [e0]; rfl, rfl⟩; exfalso; apply e0; simp_all [A3]; done)
 refine W.seq ?_;refine Z19 ?_;refine R.fin [2, 3, 13] ?_
 refine W.cond (fun ht13 => ?_) (fun ht13 => ?_)
 ·refine Z5 ?_
  refine W.cond (fun ht13 => ?_) (fun ht13 => ?_)
  ·refine Z35 ?_
   first | (by_cases e0 : A3 s = ⟨[2], 1⟩; exact K.fin (V.one (V.cellN Tryz.isAgg144 Tryz.sizeOf144)) ⟨by rw [e0]; rfl, rfl⟩; exfalso; apply e0; simp_all [A3]; done) | (by_cases e0 : A3 s = ⟨[1], 2⟩; exact K.fin (V.one (V.cellN Tryz.isAgg144 Tryz.sizeOf144)) ⟨by rw [e0]; rfl, rfl⟩; exfalso; apply e0; simp_all [A3]; done) | (by_cases e0 : A3 s = ⟨[2, 1], 2⟩; exact K.fin (V.one (V.cellN Tryz.isAgg144 Tryz.sizeOf144)) ⟨by rw [e0]; rfl, rfl⟩; exfalso; apply e0; simp_all [A3]; done) | (by_cases e0 : A3 s = ⟨[-2], 3⟩; exact K.fin (V.one (V.cellN Tryz.isAgg144 Tryz.sizeOf144)) ⟨by rw [e0]; rfl, rfl⟩; exfalso; apply e0; simp_all [A3]; done) | (by_cases e0 : A3 s = ⟨[-1, -1], -1⟩; exact K.fin (V.one (V.cellN Tryz.isAgg144 Tryz.sizeOf144)) ⟨by rw [e0]; rfl, rfl⟩; exfalso; apply e0; simp_all [A3]; done) | (by_cases e0 : A3 s = ⟨[3, -1, -1], -1⟩; exact K.fin (V.one (V.cellN Tryz.isAgg144 Tryz.sizeOf144)) ⟨by rw [e0]; rfl, rfl⟩; exfalso; apply e0; simp_all [A3]; done)
  refine gk ?_
  refine W.cond (fun ht18 => ?_) (fun ht18 => ?_)
  ·refine Z35 ?_
   first | (by_cases e0 : A3 s = ⟨[2], 1⟩; exact K.fin (V.one (V.cellN Tryz.isAgg144 Tryz.sizeOf144)) ⟨by rw [e0]; rfl, rfl⟩; exfalso; apply e0; simp_all [A3]; done) | (by_cases e0 : A3 s = ⟨[1], 2⟩; exact K.fin (V.one (V.cellN Tryz.isAgg144 Tryz.sizeOf144)) ⟨by rw [e0]; rfl, rfl⟩; exfalso; apply e0; simp_all [A3]; done) | (by_cases e0 : A3 s = ⟨[2, 1], 2⟩; exact K.fin (V.one (V.cellN Tryz.isAgg144 Tryz.sizeOf144)) ⟨by rw [e0]; rfl, rfl⟩; exfalso; apply e0; simp_all [A3]; done) | (by_cases e0 : A3 s = ⟨[-2], 3⟩; exact K.fin (V.one (V.cellN Tryz.isAgg144 Tryz.sizeOf144)) ⟨by rw [e0]; rfl, rfl⟩; exfalso; apply e0; simp_all [A3]; done) | (by_cases e0 : A3 s = ⟨[-1, -1], -1⟩; exact K.fin (V.one (V.cellN Tryz.isAgg144 Tryz.sizeOf144)) ⟨by rw [e0]; rfl, rfl⟩; exfalso; apply e0; simp_all [A3]; done) | (by_cases e0 : A3 s = ⟨[3, -1, -1], -1⟩; exact K.fin (V.one (V.cellN Tryz.isAgg144 Tryz.sizeOf144)) ⟨by rw [e0]; rfl, rfl⟩; exfalso; apply e0; simp_all [A3]; done)
  refine gy ?_
  refine W.cond (fun ht22 => ?_) (fun ht22 => ?_)
  ·refine Z35 ?_
   first | (by_cases e0 : A3 s = ⟨[2], 1⟩; exact K.fin (V.one (V.cellN Tryz.isAgg144 Tryz.sizeOf144)) ⟨by rw [e0]; rfl, rfl⟩; exfalso; apply e0; simp_all [A3]; done) | (by_cases e0 : A3 s = ⟨[1], 2⟩; exact K.fin (V.one (V.cellN Tryz.isAgg144 Tryz.sizeOf144)) ⟨by rw [e0]; rfl, rfl⟩; exfalso; apply e0; simp_all [A3]; done) | (by_cases e0 : A3 s = ⟨[2, 1], 2⟩; exact K.fin (V.one (V.cellN Tryz.isAgg144 Tryz.sizeOf144)) ⟨by rw [e0]; rfl, rfl⟩; exfalso; apply e0; simp_all [A3]; done) | (by_cases e0 : A3 s = ⟨[-2], 3⟩; exact K.fin (V.one (V.cellN Tryz.isAgg144 Tryz.sizeOf144)) ⟨by rw [e0]; rfl, rfl⟩; exfalso; apply e0; simp_all [A3]; done) | (by_cases e0 : A3 s = ⟨[-1, -1], -1⟩; exact K.fin (V.one (V.cellN Tryz.isAgg144 Tryz.sizeOf144)) ⟨by rw [e0]; rfl, rfl⟩; exfalso; apply e0; simp_all [A3]; done) | (by_cases e0 : A3 s = ⟨[3, -1, -1], -1⟩; exact K.fin (V.one (V.cellN Tryz.isAgg144 Tryz.sizeOf144)) ⟨by rw [e0]; rfl, rfl⟩; exfalso; apply e0; simp_all [A3]; done)
  refine I8 ?_
  first | (by_cases e0 : A3 s = ⟨[2], 1⟩; exact K.fin (V.one (V.cellN Tryz.isAgg144 Tryz.sizeOf144)) ⟨by rw [e0]; rfl, rfl⟩; exfalso; apply e0; simp_all [A3]; done) | (by_cases e0 : A3 s = ⟨[1], 2⟩; exact K.fin (V.one (V.cellN Tryz.isAgg144 Tryz.sizeOf144)) ⟨by rw [e0]; rfl, rfl⟩; exfalso; apply e0; simp_all [A3]; done) | (by_cases e0 : A3 s = ⟨[2, 1], 2⟩; exact K.fin (V.one (V.cellN Tryz.isAgg144 Tryz.sizeOf144)) ⟨by rw [e0]; rfl, rfl⟩; exfalso; apply e0; simp_all [A3]; done) | (by_cases e0 : A3 s = ⟨[-2], 3⟩; exact K.fin (V.one (V.cellN Tryz.isAgg144 Tryz.sizeOf144)) ⟨by rw [e0]; rfl, rfl⟩; exfalso; apply e0; simp_all [A3]; done) | (by_cases e0 : A3 s = ⟨[-1, -1], -1⟩; exact K.fin (V.one (V.cellN Tryz.isAgg144 Tryz.sizeOf144)) ⟨by rw [e0]; rfl, rfl⟩; exfalso; apply e0; simp_all [A3]; done) | (by_cases e0 : A3 s = ⟨[3, -1, -1], -1⟩; exact K.fin (V.one (V.cellN Tryz.isAgg144 Tryz.sizeOf144)) ⟨by rw [e0]; rfl, rfl⟩; exfalso; apply e0; simp_all [A3]; done)
 refine Qi ?_;refine R.fin [2, 3, 13] ?_;refine K.thN ?_
 refine W.cond (fun ht13 => ?_) (fun ht13 => ?_)
 ·refine Z35 ?_
  first | (by_cases e0 : A3 s = ⟨[2], 1⟩; exact K.fin (V.one (V.cellN Tryz.isAgg144 Tryz.sizeOf144)) ⟨by rw [e0]; rfl, rfl⟩; exfalso; apply e0; simp_all [A3]; done) | (by_cases e0 : A3 s = ⟨[1], 2⟩; exact K.fin (V.one (V.cellN Tryz.isAgg144 Tryz.sizeOf144)) ⟨by rw [e0]; rfl, rfl⟩; exfalso; apply e0; simp_all [A3]; done) | (by_cases e0 : A3 s = ⟨[2, 1], 2⟩; exact K.fin (V.one (V.cellN Tryz.isAgg144 Tryz.sizeOf144)) ⟨by rw [e0]; rfl, rfl⟩; exfalso; apply e0; simp_all [A3]; done) | (by_cases e0 : A3 s = ⟨[-2], 3⟩; exact K.fin (V.one (V.cellN Tryz.isAgg144 Tryz.sizeOf144)) ⟨by rw [e0]; rfl, rfl⟩; exfalso; apply e0; simp_all [A3]; done) | (by_cases e0 : A3 s = ⟨[-1, -1], -1⟩; exact K.fin (V.one (V.cellN Tryz.isAgg144 Tryz.sizeOf144)) ⟨by rw [e0]; rfl, rfl⟩; exfalso; apply e0; simp_all [A3]; done) | (by_cases e0 : A3 s = ⟨[3, -1, -1], -1⟩; exact K.fin (V.one (V.cellN Tryz.isAgg144 Tryz.sizeOf144)) ⟨by rw [e0]; rfl, rfl⟩; exfalso; apply e0; simp_all [A3]; done)
 refine gk ?_
 refine W.cond (fun ht18 => ?_) (fun ht18 => ?_)
 ·refine Z35 ?_
  first | (by_cases e0 : A3 s = ⟨[2], 1⟩; exact K.fin (V.one (V.cellN Tryz.isAgg144 Tryz.sizeOf144)) ⟨by rw [e0]; rfl, rfl⟩; exfalso; apply e0; simp_all [A3]; done) | (by_cases e0 : A3 s = ⟨[1], 2⟩; exact K.fin (V.one (V.cellN Tryz.isAgg144 Tryz.sizeOf144)) ⟨by rw [e0]; rfl, rfl⟩; exfalso; apply e0; simp_all [A3]; done) | (by_cases e0 : A3 s = ⟨[2, 1], 2⟩; exact K.fin (V.one (V.cellN Tryz.isAgg144 Tryz.sizeOf144)) ⟨by rw [e0]; rfl, rfl⟩; exfalso; apply e0; simp_all [A3]; done) | (by_cases e0 : A3 s = ⟨[-2], 3⟩; exact K.fin (V.one (V.cellN Tryz.isAgg144 Tryz.sizeOf144)) ⟨by rw [e0]; rfl, rfl⟩; exfalso; apply e0; simp_all [A3]; done) | (by_cases e0 : A3 s = ⟨[-1, -1], -1⟩; exact K.fin (V.one (V.cellN Tryz.isAgg144 Tryz.sizeOf144)) ⟨by rw [e0]; rfl, rfl⟩; exfalso; apply e0; simp_all [A3]; done) | (by_cases e0 : A3 s = ⟨[3, -1, -1], -1⟩; exact K.fin (V.one (V.cellN Tryz.isAgg144 Tryz.sizeOf144)) ⟨by rw [e0]; rfl, rfl⟩; exfalso; apply e0; simp_all [A3]; done)
 refine gy ?_
 refine W.cond (fun ht22 => ?_) (fun ht22 => ?_)
 ·refine Z35 ?_
  first | (by_cases e0 : A3 s = ⟨[2], 1⟩; exact K.fin (V.one (V.cellN Tryz.isAgg144 Tryz.sizeOf144)) ⟨by rw [e0]; rfl, rfl⟩; exfalso; apply e0; simp_all [A3]; done) | (by_cases e0 : A3 s = ⟨[1], 2⟩; exact K.fin (V.one (V.cellN Tryz.isAgg144 Tryz.sizeOf144)) ⟨by rw [e0]; rfl, rfl⟩; exfalso; apply e0; simp_all [A3]; done) | (by_cases e0 : A3 s = ⟨[2, 1], 2⟩; exact K.fin (V.one (V.cellN Tryz.isAgg144 Tryz.sizeOf144)) ⟨by rw [e0]; rfl, rfl⟩; exfalso; apply e0; simp_all [A3]; done) | (by_cases e0 : A3 s = ⟨[-2], 3⟩; exact K.fin (V.one (V.cellN Tryz.isAgg144 Tryz.sizeOf144)) ⟨by rw [e0]; rfl, rfl⟩; exfalso; apply e0; simp_all [A3]; done) | (by_cases e0 : A3 s = ⟨[-1, -1], -1⟩; exact K.fin (V.one (V.cellN Tryz.isAgg144 Tryz.sizeOf144)) ⟨by rw [e0]; rfl, rfl⟩; exfalso; apply e0; simp_all [A3]; done) | (by_cases e0 : A3 s = ⟨[3, -1, -1], -1⟩; exact K.fin (V.one (V.cellN Tryz.isAgg144 Tryz.sizeOf144)) ⟨by rw [e0]; rfl, rfl⟩; exfalso; apply e0; simp_all [A3]; done)
 refine I8 ?_
 first | (by_cases e0 : A3 s = ⟨[2], 1⟩; exact K.fin (V.one (V.cellN Tryz.isAgg144 Tryz.sizeOf144)) ⟨by rw [e0]; rfl, rfl⟩; exfalso; apply e0; simp_all [A3]; done) | (by_cases e0 : A3 s = ⟨[1], 2⟩; exact K.fin (V.one (V.cellN Tryz.isAgg144 Tryz.sizeOf144)) ⟨by rw [e0]; rfl, rfl⟩; exfalso; apply e0; simp_all [A3]; done) | (by_cases e0 : A3 s = ⟨[2, 1], 2⟩; exact K.fin (V.one (V.cellN Tryz.isAgg144 Tryz.sizeOf144)) ⟨by rw [e0]; rfl, rfl⟩; exfalso; apply e0; simp_all [A3]; done) | (by_cases e0 : A3 s = ⟨[-2], 3⟩; exact K.fin (V.one (V.cellN Tryz.isAgg144 Tryz.sizeOf144)) ⟨by rw [e0]; rfl, rfl⟩; exfalso; apply e0; simp_all [A3]; done) | (by_cases e0 : A3 s = ⟨[-1, -1], -1⟩; exact K.fin (V.one (V.cellN Tryz.isAgg144 Tryz.sizeOf144)) ⟨by rw [e0]; rfl, rfl⟩; exfalso; apply e0; simp_all [A3]; done) | (by_cases e0 : A3 s = ⟨[3, -1, -1], -1⟩; exact K.fin (V.one (V.cellN Tryz.isAgg144 Tryz.sizeOf144)) ⟨by rw [e0]; rfl, rfl⟩; exfalso; apply e0; simp_all [A3]; done)

theorem c96 (e : Expr) (Hp : List AObj) : AFun Tryz.prog 96 [Ab e] Hp (Tm (Bt e.op e.text)) := by
 refine ACall.body [.cell 2 144] [0] Tryz.func96 Tryz.ntmps96 (fun d => ?_)
 refine Z24 ?_;refine R.alloc jZ ?_;refine R.fin [1, 2] ?_;refine Z27 ?_;refine Z15 ?_;refine R.fin [1, 2, 4] ?_;refine Ru ?_;refine R.fin [1, 2, 4, 5] ?_
 refine W.cond (fun ht5 => ?_) (fun ht5 => ?_)
 ·refine Z35 ?_
  first | (by_cases e0 : Bt e.op e.text = ⟨[1], 1⟩; exact K.fin (V.one (V.cellN Tryz.isAgg144 Tryz.sizeOf144)) ⟨by rw [e0]; rfl, rfl⟩; exfalso; apply e0; simp_all [Bt]; done) | (by_cases e0 : Bt e.op e.text = ⟨[3], 3⟩; exact K.fin (V.one (V.cellN Tryz.isAgg144 Tryz.sizeOf144)) ⟨by rw [e0]; rfl, rfl⟩; exfalso; apply e0; simp_all [Bt]; done) | (by_cases e0 : Bt e.op e.text = A2 e.text; exact K.fin (V.one (V.cellN Tryz.isAgg144 Tryz.sizeOf144)) ⟨by rw [e0], rfl⟩ (hlow := Em _); exfalso; apply e0; simp_all [Bt]; done) | (by_cases e0 : Bt e.op e.text = A3 e.text; exact K.fin (V.one (V.cellN Tryz.isAgg144 Tryz.sizeOf144)) ⟨by rw [e0], rfl⟩ (hlow := Em _); exfalso; apply e0; simp_all [Bt]; done)
 refine Z48 ?_;refine R.fin [1, 2, 4, 9] ?_
 refine W.cond (fun ht9 => ?_) (fun ht9 => ?_)
 ·refine Z35 ?_
  first | (by_cases e0 : Bt e.op e.text = ⟨[1], 1⟩; exact K.fin (V.one (V.cellN Tryz.isAgg144 Tryz.sizeOf144)) ⟨by rw [e0]; rfl, rfl⟩; exfalso; apply e0; simp_all [Bt]; done) | (by_cases e0 : Bt e.op e.text = ⟨[3], 3⟩; exact K.fin (V.one (V.cellN Tryz.isAgg144 Tryz.sizeOf144)) ⟨by rw [e0]; rfl, rfl⟩; exfalso; apply e0; simp_all [Bt]; done) | (by_cases e0 : Bt e.op e.text = A2 e.text; exact K.fin (V.one (V.cellN Tryz.isAgg144 Tryz.sizeOf144)) ⟨by rw [e0], rfl⟩ (hlow := Em _); exfalso; apply e0; simp_all [Bt]; done) | (by_cases e0 : Bt e.op e.text = A3 e.text; exact K.fin (V.one (V.cellN Tryz.isAgg144 Tryz.sizeOf144)) ⟨by rw [e0], rfl⟩ (hlow := Em _); exfalso; apply e0; simp_all [Bt]; done)
 refine Z48 ?_;refine R.fin [1, 2, 13] ?_
 refine W.cond (fun ht13 => ?_) (fun ht13 => ?_)
 ·refine Rw ?_;refine R.call Tryz.call131 (v8 e.text _) ?_;refine Z6 ?_;refine Z4 ?_
  first | (by_cases e0 : Bt e.op e.text = ⟨[1], 1⟩; exact K.fin (V.one (V.cellN Tryz.isAgg144 Tryz.sizeOf144)) ⟨by rw [e0]; rfl, rfl⟩; exfalso; apply e0; simp_all [Bt]; done) | (by_cases e0 : Bt e.op e.text = ⟨[3], 3⟩; exact K.fin (V.one (V.cellN Tryz.isAgg144 Tryz.sizeOf144)) ⟨by rw [e0]; rfl, rfl⟩; exfalso; apply e0; simp_all [Bt]; done) | (by_cases e0 : Bt e.op e.text = A2 e.text; exact K.fin (V.one (V.cellN Tryz.isAgg144 Tryz.sizeOf144)) ⟨by rw [e0], rfl⟩ (hlow := Em _); exfalso; apply e0; simp_all [Bt]; done) | (by_cases e0 : Bt e.op e.text = A3 e.text; exact K.fin (V.one (V.cellN Tryz.isAgg144 Tryz.sizeOf144)) ⟨by rw [e0], rfl⟩ (hlow := Em _); exfalso; apply e0; simp_all [Bt]; done)
 refine Z17 ?_;refine Rw ?_;refine R.call Tryz.call132 (vd e.text _) ?_;refine Z6 ?_
 first | (by_cases e0 : Bt e.op e.text = ⟨[1], 1⟩; exact K.fin (V.one (V.cellN Tryz.isAgg144 Tryz.sizeOf144)) ⟨by rw [e0]; rfl, rfl⟩; exfalso; apply e0; simp_all [Bt]; done) | (by_cases e0 : Bt e.op e.text = ⟨[3], 3⟩; exact K.fin (V.one (V.cellN Tryz.isAgg144 Tryz.sizeOf144)) ⟨by rw [e0]; rfl, rfl⟩; exfalso; apply e0; simp_all [Bt]; done) | (by_cases e0 : Bt e.op e.text = A2 e.text; exact K.fin (V.one (V.cellN Tryz.isAgg144 Tryz.sizeOf144)) ⟨by rw [e0], rfl⟩ (hlow := Em _); exfalso; apply e0; simp_all [Bt]; done) | (by_cases e0 : Bt e.op e.text = A3 e.text; exact K.fin (V.one (V.cellN Tryz.isAgg144 Tryz.sizeOf144)) ⟨by rw [e0], rfl⟩ (hlow := Em _); exfalso; apply e0; simp_all [Bt]; done)

theorem s7 (a b : Int) (Hp : List AObj) : AFun Tryz.prog 133 [A4 a, A4 b] Hp (.tup [A4 (Bv a b).1, Ak (Bv a b).2]) := by
 refine ACall.body [.tmp 4, .tmp 5] [0, 1] Tryz.func133 Tryz.ntmps133 (fun d => ?_)
 refine Uf ?_;refine Gg ?_;refine Z20 ?_;refine R.fin [0, 1, 6] ?_
 refine W.cond (fun ht6 => ?_) (fun ht6 => ?_)
 ·refine Z64 ?_;refine Od ?_
  first | (by_cases e0 : Bv a b = (b, true); exact K.fin (V.two V.tmp V.tmp) ⟨by rw [e0], rfl⟩; exfalso; apply e0; simp_all [Bv]; done) | (by_cases e0 : Bv a b = (a, true); exact K.fin (V.two V.tmp V.tmp) ⟨by rw [e0], rfl⟩; exfalso; apply e0; simp_all [Bv]; done) | (by_cases e0 : Bv a b = (0, false); exact K.fin (V.two V.tmp V.tmp) ⟨by rw [e0], rfl⟩; exfalso; apply e0; simp_all [Bv]; done)
 refine Z0 ?_;refine R.eql ?_;refine Me ?_;refine b7 ?_;refine Au ?_;refine R.fin [0, 10] ?_
 refine W.cond (fun ht10 => ?_) (fun ht10 => ?_)
 ·refine Z64 ?_;refine Od ?_
  first | (by_cases e0 : Bv a b = (b, true); exact K.fin (V.two V.tmp V.tmp) ⟨by rw [e0], rfl⟩; exfalso; apply e0; simp_all [Bv]; done) | (by_cases e0 : Bv a b = (a, true); exact K.fin (V.two V.tmp V.tmp) ⟨by rw [e0], rfl⟩; exfalso; apply e0; simp_all [Bv]; done) | (by_cases e0 : Bv a b = (0, false); exact K.fin (V.two V.tmp V.tmp) ⟨by rw [e0], rfl⟩; exfalso; apply e0; simp_all [Bv]; done)
 refine Z17 ?_;refine Z3 ?_;refine Z23 ?_
 first | (by_cases e0 : Bv a b = (b, true); exact K.fin (V.two V.tmp V.tmp) ⟨by rw [e0], rfl⟩; exfalso; apply e0; simp_all [Bv]; done) | (by_cases e0 : Bv a b = (a, true); exact K.fin (V.two V.tmp V.tmp) ⟨by rw [e0], rfl⟩; exfalso; apply e0; simp_all [Bv]; done) | (by_cases e0 : Bv a b = (0, false); exact K.fin (V.two V.tmp V.tmp) ⟨by rw [e0], rfl⟩; exfalso; apply e0; simp_all [Bv]; done)

structure FitAt (s : Sign) (ks : List Int) (x : Nat × Int) : Prop where
 le : x.1 ≤ ks.length
 eq : Nl s.kids ks 0 = Nl (s.kids.drop x.1) (ks.drop x.1) x.2
theorem FitAt.step {s : Sign} {ks : List Int} {x : Nat × Int} (h : FitAt s ks x) (hk : x.1 < ks.length) (hs : x.1 < s.kids.length) : Nl s.kids ks 0 = (if s.kids[x.1] == -2 then Nl (s.kids.drop (x.1 + 1)) (ks.drop (x.1 + 1)) x.2 else if s.kids[x.1] == -1 then (if (Bv x.2 ks[x.1]).2 then Nl (s.kids.drop (x.1 + 1)) (ks.drop (x.1 + 1)) (Bv x.2 ks[x.1]).1 else none) else if (Bv s.kids[x.1] ks[x.1]).2 then Nl (s.kids.drop (x.1 + 1)) (ks.drop (x.1 + 1)) x.2 else none) := by
 rw [h.eq, List.drop_eq_getElem_cons hk, List.drop_eq_getElem_cons hs, Nl]
theorem FitAt.skip {s : Sign} {ks : List Int} {x : Nat × Int} (h : FitAt s ks x) (hk : x.1 < ks.length) (hs : x.1 < s.kids.length) (h2 : (s.kids[x.1] == -2) = true) : FitAt s ks (x.1 + 1, x.2) := ⟨hk, by rw [h.step hk hs, if_pos h2]⟩
theorem FitAt.same {s : Sign} {ks : List Int} {x : Nat × Int} (h : FitAt s ks x) (hk : x.1 < ks.length) (hs : x.1 < s.kids.length) (h2 : (s.kids[x.1] == -2) = false) (h1 : (s.kids[x.1] == -1) = true) (hm : (Bv x.2 ks[x.1]).2 = true) : FitAt s ks (x.1 + 1, (Bv x.2 ks[x.1]).1) := ⟨hk, by rw [h.step hk hs, if_neg (by rw [h2]; simp), if_pos h1, if_pos hm]⟩
theorem FitAt.want {s : Sign} {ks : List Int} {x : Nat × Int} (h : FitAt s ks x) (hk : x.1 < ks.length) (hs : x.1 < s.kids.length) (h2 : (s.kids[x.1] == -2) = false) (h1 : (s.kids[x.1] == -1) = false) (hm : (Bv s.kids[x.1] ks[x.1]).2 = true) : FitAt s ks (x.1 + 1, x.2) := ⟨hk, by rw [h.step hk hs, if_neg (by rw [h2]; simp), if_neg (by rw [h1]; simp), if_pos hm]⟩
theorem FitAt.bad {s : Sign} {ks : List Int} {x : Nat × Int} (h : FitAt s ks x) (hk : x.1 < ks.length) (hs : x.1 < s.kids.length) (h2 : (s.kids[x.1] == -2) = false) (hm : (if s.kids[x.1] == -1 then (Bv x.2 ks[x.1]).2 else (Bv s.kids[x.1] ks[x.1]).2) = false) : Sx s ks = (0, 10) := by
 unfold Sx
 rw [h.step hk hs, if_neg (by rw [h2]; simp)]
 split at hm
 ·rename_i h1
  rw [if_pos h1, if_neg (by rw [hm]; simp)]
 rename_i h1
 rw [if_neg h1, if_neg (by rw [hm]; simp)]
theorem FitAt.out {s : Sign} {ks : List Int} {x : Nat × Int} (h : FitAt s ks x) (hk : ks.length ≤ x.1) : Sx s ks = if s.own == -1 then (x.2, 0) else (s.own, 0) := by
 unfold Sx
 rw [h.eq, List.drop_of_length_le hk]
 cases s.kids.drop x.1 <;> rfl
theorem c97 (s : Sign) (ks : List Int) (hks : ks.length ≤ s.kids.length) (hk2 : ks.length ≤ 1048576) (Hp : List AObj) : AFun Tryz.prog 97 [Tm s, .slice false 1 (ks.map A4)] Hp (.tup [A4 (Sx s ks).1, A4 (Sx s ks).2]) := by
 refine ACall.body [.tmp 4, .tmp 5] [0, 1] Tryz.func97 Tryz.ntmps97 (fun d => ?_)
 refine Ue ?_;refine R.fin [1, 2] ?_;refine U6 ?_;refine R.fin [1, 2, 6] ?_;refine Of ?_;refine Y2 ?_
 refine AW.loopC (α := Nat × Int) (fun x => ⟨49, A6 2 (.ro [.slice false 1 (s.kids.map A4), A4 s.own]) (A6 6 (.ptr (oid Hp.length 0) 0) (A6 13 (.slice false 1 (ks.map A4)) (A6 14 (A4 (ks.length : Nat)) (A6 15 (A4 (x.1 : Nat)) (fun _ => .any))))), Hp, [.cells 3 [A4 x.2]], [], none⟩) (fun x => FitAt s ks x) (fun x => ks.length - x.1) ((0, 0)) ⟨Nat.zero_le _, rfl⟩ (StLe.of_eq (by simp)) rfl (fun x hx => ?_)
 refine Z89 ?_;refine R.fin [2, 6, 13, 14, 15, 16] ?_
 refine W.condX (fun ht16 => ?_) (fun ht16 => ?_)
 ·have hlt : x.1 < ks.length := by simpa using ht16
  have hls : x.1 < s.kids.length := by omega
  refine Gg ?_;refine R.indexAddr (x.1) (A4 ks[x.1]) jU jS (Be hlt) ?_;refine Cq ?_;refine Z14 ?_;refine R.fin [2, 6, 7, 8, 13, 14, 15] ?_;refine Ba ?_;refine R.fieldAddrRo (off := 0) jU Tryz.sizeOf142 ?_;refine Cq ?_;refine At ?_;refine R.indexAddr (x.1) (A4 s.kids[x.1]) jU jS (Be hls) ?_;refine Cq ?_;refine Z16 ?_;refine R.fin [2, 6, 8, 9, 13, 14, 15] ?_;refine Z27 ?_;refine In ?_;refine R.eql ?_;refine R.fin [2, 6, 8, 9, 13, 14, 15, 26] ?_
  refine W.cond (fun ht26 => ?_) (fun ht26 => ?_)
  ·refine W.keep [2, 6, 13, 14, 15] ?_;refine Z96 ?_;refine K.blE ?_;refine K.thN ?_;refine Z77 ?_;refine Y2 ?_
   first | (refine K.lpN (x.1 + 1, x.2) (hx.skip hlt hls ht26) (by show ks.length - (x.1 + 1) < ks.length - x.1; omega) ?_; exact StCut.take (own := [.cells 3 [A4 x.2]]) (fun _ => .refl _) (by repeat (first | exact B6 | refine B5 (by first | (simp [or_imp, forall_and]; done) | (simp [oid] <;> omega)) ?_)) (by intro y hy; rw [List.mem_singleton.1 hy]; intro z hz; rw [List.mem_singleton.1 hz]; simp) (by simp)) | (refine K.lpN (x.1 + 1, (Bv x.2 ks[x.1]).1) (hx.same hlt hls ht26 ht28 (by simpa using ht38)) (by show ks.length - (x.1 + 1) < ks.length - x.1; omega) ?_; exact StCut.take (own := [.cells 3 [A4 (Bv x.2 ks[x.1]).1]]) (fun _ => .refl _) (by repeat (first | exact B6 | refine B5 (by first | (simp [or_imp, forall_and]; done) | (simp [oid] <;> omega)) ?_)) (by intro y hy; rw [List.mem_singleton.1 hy]; intro z hz; rw [List.mem_singleton.1 hz]; simp) (by simp)) | (refine K.lpN (x.1 + 1, x.2) (hx.want hlt hls ht26 ht28 (by simpa using ht38)) (by show ks.length - (x.1 + 1) < ks.length - x.1; omega) ?_; exact StCut.take (own := [.cells 3 [A4 x.2]]) (fun _ => .refl _) (by repeat (first | exact B6 | refine B5 (by first | (simp [or_imp, forall_and]; done) | (simp [oid] <;> omega)) ?_)) (by intro y hy; rw [List.mem_singleton.1 hy]; intro z hz; rw [List.mem_singleton.1 hz]; simp) (by simp))
  refine Z5 ?_;refine Z3 ?_;refine R.fin [2, 6, 8, 9, 10, 13, 14, 15] ?_;refine Z27 ?_;refine In ?_;refine R.eql ?_;refine R.fin [2, 6, 8, 10, 13, 14, 15, 28] ?_
  refine W.cond (fun ht28 => ?_) (fun ht28 => ?_)
  ·refine Xn ?_;refine R.fin [2, 6, 8, 10, 13, 14, 15] ?_;refine K.thN ?_;refine Z0 ?_;refine R.nilPtr ?_;refine In ?_;refine At ?_;refine R.call Tryz.call133 (s7 _ _ _) ?_;refine Jb ?_;refine R.fin [2, 6, 10, 11, 12, 13, 14, 15] ?_;refine Z9 ?_;refine R.not ?_;refine R.fin [2, 6, 10, 11, 13, 14, 15, 38] ?_
   refine W.cond (fun ht38 => ?_) (fun ht38 => ?_)
   ·have hbad := hx.bad hlt hls ht26 (by first | (rw [if_pos ht28]; simpa using ht38) | (rw [if_neg (by rw [ht28]; simp)]; simpa using ht38))
    refine Z3 ?_;refine Mg ?_;exact ou
   refine bc ?_;refine R.nilPtr ?_;refine Do ?_;refine Y2 ?_;refine U8 ?_;refine Y2 ?_
   first | (refine K.lpN (x.1 + 1, x.2) (hx.skip hlt hls ht26) (by show ks.length - (x.1 + 1) < ks.length - x.1; omega) ?_; exact StCut.take (own := [.cells 3 [A4 x.2]]) (fun _ => .refl _) (by repeat (first | exact B6 | refine B5 (by first | (simp [or_imp, forall_and]; done) | (simp [oid] <;> omega)) ?_)) (by intro y hy; rw [List.mem_singleton.1 hy]; intro z hz; rw [List.mem_singleton.1 hz]; simp) (by simp)) | (refine K.lpN (x.1 + 1, (Bv x.2 ks[x.1]).1) (hx.same hlt hls ht26 ht28 (by simpa using ht38)) (by show ks.length - (x.1 + 1) < ks.length - x.1; omega) ?_; exact StCut.take (own := [.cells 3 [A4 (Bv x.2 ks[x.1]).1]]) (fun _ => .refl _) (by repeat (first | exact B6 | refine B5 (by first | (simp [or_imp, forall_and]; done) | (simp [oid] <;> omega)) ?_)) (by intro y hy; rw [List.mem_singleton.1 hy]; intro z hz; rw [List.mem_singleton.1 hz]; simp) (by simp)) | (refine K.lpN (x.1 + 1, x.2) (hx.want hlt hls ht26 ht28 (by simpa using ht38)) (by show ks.length - (x.1 + 1) < ks.length - x.1; omega) ?_; exact StCut.take (own := [.cells 3 [A4 x.2]]) (fun _ => .refl _) (by repeat (first | exact B6 | refine B5 (by first | (simp [or_imp, forall_and]; done) | (simp [oid] <;> omega)) ?_)) (by intro y hy; rw [List.mem_singleton.1 hy]; intro z hz; rw [List.mem_singleton.1 hz]; simp) (by simp))
  refine Jc ?_;refine R.nilPtr ?_;refine In ?_;refine At ?_;refine R.call Tryz.call133 (s7 _ _ _) ?_;refine Jb ?_;refine R.fin [2, 6, 10, 11, 12, 13, 14, 15] ?_;refine Z9 ?_;refine R.not ?_;refine R.fin [2, 6, 10, 11, 13, 14, 15, 38] ?_
  refine W.cond (fun ht38 => ?_) (fun ht38 => ?_)
  ·have hbad := hx.bad hlt hls ht26 (by first | (rw [if_pos ht28]; simpa using ht38) | (rw [if_neg (by rw [ht28]; simp)]; simpa using ht38))
   refine Z3 ?_;refine Mg ?_;exact ou
  refine bc ?_;refine R.nilPtr ?_;refine Do ?_;refine Y2 ?_;refine U8 ?_;refine Y2 ?_
  first | (refine K.lpN (x.1 + 1, x.2) (hx.skip hlt hls ht26) (by show ks.length - (x.1 + 1) < ks.length - x.1; omega) ?_; exact StCut.take (own := [.cells 3 [A4 x.2]]) (fun _ => .refl _) (by repeat (first | exact B6 | refine B5 (by first | (simp [or_imp, forall_and]; done) | (simp [oid] <;> omega)) ?_)) (by intro y hy; rw [List.mem_singleton.1 hy]; intro z hz; rw [List.mem_singleton.1 hz]; simp) (by simp)) | (refine K.lpN (x.1 + 1, (Bv x.2 ks[x.1]).1) (hx.same hlt hls ht26 ht28 (by simpa using ht38)) (by show ks.length - (x.1 + 1) < ks.length - x.1; omega) ?_; exact StCut.take (own := [.cells 3 [A4 (Bv x.2 ks[x.1]).1]]) (fun _ => .refl _) (by repeat (first | exact B6 | refine B5 (by first | (simp [or_imp, forall_and]; done) | (simp [oid] <;> omega)) ?_)) (by intro y hy; rw [List.mem_singleton.1 hy]; intro z hz; rw [List.mem_singleton.1 hz]; simp) (by simp)) | (refine K.lpN (x.1 + 1, x.2) (hx.want hlt hls ht26 ht28 (by simpa using ht38)) (by show ks.length - (x.1 + 1) < ks.length - x.1; omega) ?_; exact StCut.take (own := [.cells 3 [A4 x.2]]) (fun _ => .refl _) (by repeat (first | exact B6 | refine B5 (by first | (simp [or_imp, forall_and]; done) | (simp [oid] <;> omega)) ?_)) (by intro y hy; rw [List.mem_singleton.1 hy]; intro z hz; rw [List.mem_singleton.1 hz]; simp) (by simp))
 have hxe : ks.length ≤ x.1 := by simpa using ht16
 have hout := hx.out hxe
 refine Z55 ?_;refine Z27 ?_;refine lu ?_;refine R.eql ?_;refine R.fin [2, 6, 45] ?_
 refine W.cond (fun ht45 => ?_) (fun ht45 => ?_)
 ·refine au ?_;refine Au ?_;refine Mg ?_;exact K.fin (V.two V.tmp V.tmp) ⟨by rw [hout, if_pos ht45], rfl⟩
 refine Lj ?_;refine lu ?_;refine Z91 ?_;exact K.fin (V.two V.tmp V.tmp) ⟨by rw [hout, if_neg (by rw [ht45]; simp)], rfl⟩

theorem ea {n k : Nat} {own : Bool} {l : List Int} : Low n (.slice own k (l.map A4)) := low_slice.2 fun y hy => by
 obtain ⟨z, _, rfl⟩ := List.mem_map.1 hy
 simp
theorem Lu {n : Nat} {e : Expr} : Low n (.ro (E1 e)) := by have := Aj n e; rw [Af] at this; simpa using this
theorem O2 {c : List Col} {t : Str} (h : ¬ (B2 t c < 0)) : ∃ (j : Nat), B2 t c = (j : Int) ∧ j < c.length := by
 obtain ⟨j, y, h2, _, h3⟩ := find_mem.1 h
 exact ⟨j, h3, (List.getElem?_eq_some_iff.1 h2).1⟩
theorem eb {c : List Col} {e : Expr} (h : (e.op == 1) = true) : Cw c e = (e.val.kind, 0) := by rw [Jp]; unfold Pn; rw [if_pos h]
theorem Zi {c : List Col} {e : Expr} (h1 : (e.op == 1) = false) (h : (e.op == 2) = true) : Cw c e = Sy c e.text := by rw [Jp]; unfold Pn; rw [h1, if_pos h]; rfl
theorem ec {c : List Col} {e : Expr} (h1 : (e.op == 1) = false) (h2 : (e.op == 2) = false) {x : Nat} (hx : x < e.kids.length) (h0 : ∀ (j : Nat) (y : Expr), j < x → e.kids[j]? = some y → ((Cw c y).2 != 0) = false) (hb : ((Cw c e.kids[x]).2 != 0) = true) : Cw c e = (0, (Cw c e.kids[x]).2) := by
 rw [Jp]
 unfold Pn
 rw [h1, h2]
 have : (e.kids.map (Cw c)).find? (fun q => q.2 != 0) = some ((e.kids.map (Cw c))[x]'(by simpa using hx)) := Qp (by simpa using hx) (by simpa using hb) (fun j y hj hy => by
  rw [List.getElem?_map, Option.map_eq_some_iff] at hy
  obtain ⟨z, hz, rfl⟩ := hy
  exact h0 j z hj hz)
 rw [this]
 simp
theorem ee {c : List Col} {e : Expr} (h1 : (e.op == 1) = false) (h2 : (e.op == 2) = false) (h0 : ∀ (j : Nat) (y : Expr), j < e.kids.length → e.kids[j]? = some y → ((Cw c y).2 != 0) = false) : Cw c e = Sx (Bt e.op e.text) (e.kids.map fun y => (Cw c y).1) := by
 rw [Jp]
 unfold Pn
 rw [h1, h2]
 have : (e.kids.map (Cw c)).find? (fun q => q.2 != 0) = none := K7 (fun j y hy => by
  rw [List.getElem?_map, Option.map_eq_some_iff] at hy
  obtain ⟨z, hz, rfl⟩ := hy
  exact h0 j z (List.getElem?_eq_some_iff.1 hz).1 hz)
 rw [this]
 simp only [List.map_map]
 rfl
theorem Zj (f : Expr → Int) (l : List Expr) {x : Nat} (h : x < l.length) : ((l.take x).map f).map A4 ++ [A4 (f l[x])] = ((l.take (x + 1)).map f).map A4 := by rw [List.take_succ_eq_append_getElem h, List.map_append, List.map_append]; rfl
theorem c67 (c : List Col) (hc : OkCols c) : ∀ (n : Nat) (e : Expr), okE n e → Cf C8 e = true → ∀ Hp : List AObj, AFun Tryz.prog 67 [Ab e, C0 c] Hp (.tup [A4 (Cw c e).1, A4 (Cw c e).2]) := by
 intro n
 induction n with
 | zero => exact fun e h => h.elim
 | succ n ih =>
 intro e hok hnd Hp
 have hnd0 := hnd
 rw [Fo, Bool.and_eq_true] at hnd0
 refine ACall.body [.tmp 4, .tmp 5] [0, 1] Tryz.func67 Tryz.ntmps67 (fun d => ?_)
 refine Ue ?_;refine R.fin [1, 2] ?_;refine Z27 ?_;refine Z15 ?_;refine R.fin [1, 2, 13] ?_;refine Ru ?_;refine R.fin [1, 2, 13, 14] ?_
 refine W.cond (fun ht14 => ?_) (fun ht14 => ?_)
 ·have hk := eb (c := c) ht14
  refine g7 ?_;refine Z15 ?_;refine Qn ?_;exact ma
 refine Z48 ?_;refine R.fin [1, 2, 19] ?_
 refine W.cond (fun ht19 => ?_) (fun ht19 => ?_)
 ·have hk := Zi (c := c) ht14 ht19
  refine Z0 ?_;refine Z39 ?_;refine R.call Tryz.call29 (c29 c hc e.text _) ?_;refine Au ?_;refine R.fin [1, 6] ?_;refine Ub ?_;refine R.fin [1, 6, 26] ?_
  refine W.cond (fun ht26 => ?_) (fun ht26 => ?_)
  ·have hk2 : Sy c e.text = (0, 9) := if_pos (by simpa using ht26)
   refine Z3 ?_;refine Mg ?_;refine Z4 ?_;exact qg
  have hneg : ¬ (B2 e.text c < 0) := by simpa using ht26
  obtain ⟨j, hj, hjl⟩ := O2 hneg
  have hk2 : Sy c e.text = (c[j].kind, 0) := by
   unfold Sy
   rw [if_neg hneg, hj, Int.toNat_natCast, List.getD_eq_getElem?_getD, List.getElem?_eq_getElem hjl]
   rfl
  rw [hj]
  refine Z5 ?_;refine Z29 ?_;refine R.indexAddr (j) (Rz c[j]) jU jS (Be hjl) ?_;refine lu ?_;refine Qn ?_;exact qg
 refine Z17 ?_;refine Z3 ?_;refine R.fin [1, 2, 7] ?_;refine Z27 ?_;refine R.nilSl 7 1 ?_;refine Z38 ?_;refine Z70 ?_;refine R.fin [1, 2, 7, 33, 34, 35] ?_
 refine AW.loopC (α := Nat) (fun x => ⟨59, A6 1 (C0 c) (A6 2 (.ro (E1 e)) (A6 7 (.slice true 1 (((e.kids.take x).map fun y => (Cw c y).1).map A4)) (A6 33 (.slice false 6 (e.kids.map Ab)) (A6 34 (A4 (e.kids.length : Nat)) (A6 35 (A4 (x : Nat)) (fun _ => .any)))))), Hp, [], [], none⟩) (fun x => x ≤ e.kids.length ∧ ∀ (j : Nat) (y : Expr), j < x → e.kids[j]? = some y → ((Cw c y).2 != 0) = false) (fun x => e.kids.length - x) (0) ⟨Nat.zero_le _, fun j y h => by omega⟩ (StLe.of_eq (by simp)) rfl (fun x hx => ?_)
 refine Z89 ?_;refine R.fin [1, 2, 7, 33, 34, 35, 36] ?_
 refine W.condX (fun ht36 => ?_) (fun ht36 => ?_)
 ·have hlt : x < e.kids.length := by simpa using ht36
  have hkl := hok.2.1
  refine Qk ?_;refine fm ?_;refine Z16 ?_;refine R.fin [1, 2, 7, 9, 33, 34, 35] ?_;refine Z31 ?_;refine At ?_;refine R.call Tryz.call67 (ih e.kids[x] (hok.2.2 _ (List.getElem_mem hlt)) ((Cg _ _).1 hnd0.2 _ (List.getElem_mem hlt)) _) ?_;refine Jb ?_;refine R.fin [1, 2, 7, 10, 11, 33, 34, 35] ?_;refine Mh ?_;refine R.fin [1, 2, 7, 10, 11, 33, 34, 35, 46] ?_
  refine W.cond (fun ht46 => ?_) (fun ht46 => ?_)
  ·have hkb := ec (c := c) ht14 ht19 hlt hx.2 ht46
   refine Z64 ?_;refine Mg ?_;refine Oa ?_;exact K.fin (V.two V.tmp V.tmp) ⟨by rw [hkb], rfl⟩
  refine Z5 ?_;refine AW.region ?_;refine R.moveT ?_;refine At ?_;refine Mk ?_
  refine R.append jU Tryz.type3 ?_ ?_ ?_
  ·simp only [List.length_map, List.length_take, List.length_cons, List.length_nil, Tryz.t3]; omega
  ·simp only [List.length_map, List.length_take, List.length_cons, List.length_nil, Tryz.t3]; omega
  refine R.assignT ?_;refine R.fin [1, 2, 7, 33, 34, 35] ?_;refine U8 ?_;refine R.fin [1, 2, 7, 33, 34, 35] ?_;refine K.lpN (x + 1) ⟨hlt, Da hlt hx.2 ht46⟩ (by omega) ?_
  simp only [show Tryz.t3.size = 1 from rfl, Zj]
  exact StCut.take (own := []) (fun _ => .refl _) (by repeat (first | exact B6 | refine B5 (by first | exact ea | exact Lu | exact Cb | (simp [or_imp, forall_and]; done)) ?_)) (by simp) (by simp)
 have hxe : e.kids.take x = e.kids := List.take_of_length_le (by simp at ht36; omega)
 have hxl : e.kids.length ≤ x := by simp at ht36; omega
 have hka := ee (c := c) ht14 ht19 (fun j y hj hy => hx.2 j y (by omega) hy)
 rw [hxe]
 refine Z55 ?_;refine Z54 ?_;refine R.call Tryz.call96 (c96 e _) ?_;refine At ?_
 refine R.call Tryz.call97 (c97 (Bt e.op e.text) (e.kids.map fun y => (Cw c y).1) (by rw [cv hnd0.1 ht14 ht19]; simp) (by simpa using hok.2.1) _) ?_
 refine Z8 ?_;refine Z91 ?_;exact K.fin (V.two V.tmp V.tmp) ⟨by rw [hka], rfl⟩

theorem Ht {e : Expr} (h : Bb e = true) : Cf C8 e = true := by
 rw [F0] at h
 unfold Bx at h
 rw [Bool.and_eq_true] at h
 exact h.2
theorem c31 (n : Nat) (e : Expr) (hok : okE n e) (hn : n ≤ 1048576) (c : List Col) (hc : OkCols c) (Hp : List AObj) : AFun Tryz.prog 31 [Ab e, C0 c] Hp (.tup [A4 (Gs e c).1, A4 (Gs e c).2]) := by
 refine ACall.body [.tmp 4, .tmp 5] [0, 1] Tryz.func31 Tryz.ntmps31 (fun d => ?_)
 refine Ue ?_;refine R.fin [1, 2] ?_;refine Mc ?_;refine R.call Tryz.call61 (c61 n e hok hn _) ?_;refine R.not ?_;refine Z22 ?_;refine G.call Tryz.call26 (fun hB => c26 c hc _) ?_;refine ba ?_;refine R.fin [1, 2, 13] ?_
 refine W.cond (fun ht13 => ?_) (fun ht13 => ?_)
 ·have hk : Gs e c = (0, 1) := if_pos ht13
  refine Z3 ?_;refine Mg ?_;exact ma
 have hk : Gs e c = Cw c e := if_neg (by rw [ht13]; simp)
 have hr : Bb e = true := by simp only [Bool.or_eq_false_iff, Bool.not_eq_false'] at ht13; exact ht13.1
 refine Z5 ?_;refine Z54 ?_;refine At ?_;refine R.call Tryz.call67 (c67 c hc n e hok (Ht hr) _) ?_;refine Z8 ?_;refine Z91 ?_;exact ma

/-- The first fault of those that were asked. -/
structure AllAt (f : Expr → Rs) (k : List Expr) (x : Nat) : Prop where
 le : x ≤ k.length
 ok : ∀ (j : Nat) (y : Expr), j < x → k[j]? = some y → ((f y).2 != 0) = false
theorem AllAt.bad {f : Expr → Rs} {k : List Expr} {x : Nat} (h : AllAt f k x) (hx : x < k.length) (hb : ((f k[x]).2 != 0) = true) (g : List Val → Rs) : Np g (k.map f) = Bg (f k[x]).2 := by
 unfold Np
 have : (k.map f).find? (fun q => q.2 != 0) = some ((k.map f)[x]'(by simpa using hx)) := Qp (by simpa using hx) (by simpa using hb) (fun j y hj hy => by
  rw [List.getElem?_map, Option.map_eq_some_iff] at hy
  obtain ⟨z, hz, rfl⟩ := hy
  exact h.ok j z hj hz)
 rw [this]
 simp
theorem AllAt.all {f : Expr → Rs} {k : List Expr} {x : Nat} (h : AllAt f k x) (hx : k.length ≤ x) (g : List Val → Rs) : Np g (k.map f) = if (k.take x).any (fun y => (f y).1.kind == 0) then (noV, 0) else g ((k.take x).map fun y => (f y).1) := by
 unfold Np
 have : (k.map f).find? (fun q => q.2 != 0) = none := K7 (fun j y hy => by
  rw [List.getElem?_map, Option.map_eq_some_iff] at hy
  obtain ⟨z, hz, rfl⟩ := hy
  exact h.ok j z (by have := (List.getElem?_eq_some_iff.1 hz).1; omega) hz)
 rw [this, List.take_of_length_le hx]
 simp only [List.any_map, List.map_map]
 rfl
theorem AllAt.next {f : Expr → Rs} {k : List Expr} {x : Nat} (h : AllAt f k x) (hx : x < k.length) (hb : ((f k[x]).2 != 0) = false) : AllAt f k (x + 1) := ⟨hx, Da hx h.ok hb⟩
theorem ef (f : Expr → Bool) (k : List Expr) {x : Nat} (h : x < k.length) : (k.take (x + 1)).any f = ((k.take x).any f || f k[x]) := by rw [List.take_succ_eq_append_getElem h, List.any_append]; simp
theorem Zk (f : Expr → Val) (l : List Expr) {x : Nat} (h : x < l.length) : ((l.take x).map f).map Bh ++ [Bh (f l[x])] = ((l.take (x + 1)).map f).map Bh := by rw [List.take_succ_eq_append_getElem h, List.map_append, List.map_append]; rfl
theorem Tn {n k : Nat} {own : Bool} {l : List Val} : Low n (.slice own k (l.map Bh)) := low_slice.2 fun y hy => by
 obtain ⟨z, _, rfl⟩ := List.mem_map.1 hy
 simp [or_imp, forall_and]
theorem ve (c : List Col) (l : List Val) (e : Expr) (hk : e.kids.length ≤ 1048576) (hev : ∀ y ∈ e.kids, F6 c l y (Bk c l y)) (hargs : ((∀ y ∈ e.kids, (Bk c l y).2 = 0) → ArgsOk e.op (e.kids.map fun y => (Bk c l y).1))) (Hp : List AObj) : AFun Tryz.prog 186 [O1 c l, Ab e] Hp (Kn (Np (B7 e.op e.text) (e.kids.map (Bk c l)))) := by
 refine ACall.body [.cell 4 24, .tmp 5] [0, 1] Tryz.func186 Tryz.ntmps186 (fun d => ?_)
 refine Li ?_;refine gu ?_;refine Z3 ?_;refine R.fin [2, 3, 4, 6] ?_;refine Ba ?_;refine R.nilSl 6 3 ?_;refine Au ?_;refine R.fin [2, 3, 4, 6, 7] ?_;refine Z27 ?_;refine Z38 ?_;refine Z70 ?_;refine R.fin [2, 3, 4, 6, 7, 13, 14, 15] ?_
 refine AW.loopC (α := Nat) (fun x => ⟨49, A6 2 (.ro [C0 c, Ev l]) (A6 3 (.ro (E1 e)) (A6 4 (.ptr (oid Hp.length 0) 0) (A6 6 (.slice true 3 (((e.kids.take x).map fun y => (Bk c l y).1).map Bh)) (A6 7 (Ak ((e.kids.take x).any fun y => (Bk c l y).1.kind == 0)) (A6 13 (.slice false 6 (e.kids.map Ab)) (A6 14 (A4 (e.kids.length : Nat)) (A6 15 (A4 (x : Nat)) (fun _ => .any)))))))), Hp, [.cells 24 [A4 0, A4 0, A8 []]], [], none⟩) (fun x => AllAt (Bk c l) e.kids x) (fun x => e.kids.length - x) (0) ⟨Nat.zero_le _, fun j y h => by omega⟩ (StLe.of_eq (by simp)) rfl (fun x hx => ?_)
 refine Z89 ?_;refine R.fin [2, 3, 4, 6, 7, 13, 14, 15, 16] ?_
 refine W.condX (fun ht16 => ?_) (fun ht16 => ?_)
 ·have hlt : x < e.kids.length := by simpa using ht16
  refine Qk ?_;refine fm ?_;refine Z16 ?_;refine R.fin [2, 3, 4, 6, 7, 9, 13, 14, 15] ?_;refine Z54 ?_;refine Mj ?_;refine R.call Tryz.call158 (hev _ (List.getElem_mem hlt) _) ?_;refine Xy ?_;refine R.fin [2, 3, 4, 6, 7, 10, 11, 13, 14, 15] ?_;refine Mh ?_;refine R.fin [2, 3, 4, 6, 7, 10, 11, 13, 14, 15, 26] ?_
  refine W.cond (fun ht26 => ?_) (fun ht26 => ?_)
  ·have hm := hx.bad hlt ht26 (B7 e.op e.text)
   refine Z0 ?_;refine Z43 ?_;refine Mg ?_;refine Z84 ?_;exact fk
  refine Z5 ?_;refine Z29 ?_;refine Z71 ?_;refine b7 ?_;refine Au ?_;refine R.fin [2, 3, 4, 6, 7, 10, 13, 14, 15] ?_;refine AW.region ?_;refine R.moveT ?_;refine Mj ?_;refine Mk ?_
  refine R.append jU Tryz.type24 ?_ ?_ ?_
  ·simp only [List.length_map, List.length_take, List.length_cons, List.length_nil, Tryz.t24]; omega
  ·simp only [List.length_map, List.length_take, List.length_cons, List.length_nil, Tryz.t24]; omega
  refine R.assignT ?_;refine R.fin [2, 3, 4, 6, 7, 13, 14, 15] ?_;refine U8 ?_;refine R.fin [2, 3, 4, 6, 7, 13, 14, 15] ?_;refine K.lpN (x + 1) (hx.next hlt ht26) (by omega) ?_
  simp only [show Tryz.t24.size = 3 from rfl, ef _ _ hlt]
  have hvs : ((e.kids.take x).map fun y => (Bk c l y).1).map Bh ++ [.agg [.v (.int .i64 (Bk c l e.kids[x]).1.kind), .v (.int .i64 (Bk c l e.kids[x]).1.n), .v (sv (Bk c l e.kids[x]).1.s)]] = ((e.kids.take (x + 1)).map fun y => (Bk c l y).1).map Bh := Zk _ _ hlt
  simp only [hvs]
  exact StCut.take (own := [.cells 24 [A4 0, A4 0, A8 []]]) (fun _ => .refl _) (by repeat (first | exact B6 | refine B5 (by first | exact Cb | exact Tn | exact Lu | (simp [or_imp, forall_and, oid] <;> omega)) ?_)) (by intro y hy; rw [List.mem_singleton.1 hy]; intro z hz; simp only [List.mem_cons, List.not_mem_nil, or_false] at hz; rcases hz with rfl | rfl | rfl <;> simp) (by simp)
 have hxe : e.kids.length ≤ x := by simpa using ht16
 have ha := hx.all hxe (B7 e.op e.text)
 have htk : e.kids.take x = e.kids := List.take_of_length_le hxe
 have h00 : ∀ y ∈ e.kids, (Bk c l y).2 = 0 := fun y hy => by
  obtain ⟨j, hj⟩ := List.getElem?_of_mem hy
  have := hx.ok j y (by have := (List.getElem?_eq_some_iff.1 hj).1; omega) hj
  simpa using this
 have hao := hargs h00
 rw [← htk] at hao
 refine Z55 ?_;refine Z9 ?_;refine R.fin [3, 4, 6, 42] ?_
 refine W.cond (fun ht42 => ?_) (fun ht42 => ?_)
 ·have hm : Np (B7 e.op e.text) (e.kids.map (Bk c l)) = (noV, 0) := by rw [ha, if_pos ht42]
  refine m4 ?_;exact m5
 have hm : Np (B7 e.op e.text) (e.kids.map (Bk c l)) = B7 e.op e.text ((e.kids.take x).map fun y => (Bk c l y).1) := by rw [ha, if_neg (by rw [ht42]; simp)]
 refine Z5 ?_;refine Z54 ?_;refine At ?_;refine R.call Tryz.call207 (v6 e _ hao _) ?_;refine Z36 ?_;exact Z49

theorem Q2 {e : Expr} (h : C8 e = true) : (e.op = 5 → e.kids.length = 2) ∧ (e.op = 3 ∨ e.op = 4 → e.kids.length = 1) ∧ (e.op = 6 → Av e.text = (e.kids.length : Int)) ∧ (e.op = 1 ∨ e.op = 2 ∨ e.op = 3 ∨ e.op = 4 ∨ e.op = 5 ∨ e.op = 6) := by
 cases Ff h with
 | val v hp h0 => simp [Fu, Expr.op]
 | name t ht => simp [D7, Expr.op]
 | neg a => simp [Di, Expr.op, Expr.kids]
 | no a => simp [Di, Expr.op, Expr.kids]
 | bin t a b ht => simp [Es, Expr.op, Expr.kids]
 | call t k ht => simpa [Expr.op, Expr.kids, Expr.text] using ht
theorem Dj {k : List Expr} {i : Nat} (h : i < k.length) : (k.map Ab)[i]? = some (Ab (k.getD i Ah)) ∧ k.getD i Ah ∈ k ∧ ∀ (f : Expr → Rs) (d : Rs), (k.map f).getD i d = f (k.getD i Ah) := by
 have e : k.getD i Ah = k[i] := by rw [List.getD_eq_getElem?_getD, List.getElem?_eq_getElem h]; rfl
 rw [e]
 refine ⟨by simp [h], List.getElem_mem h, fun f d => ?_⟩
 rw [List.getD_eq_getElem?_getD, List.getElem?_map, List.getElem?_eq_getElem h]
 rfl
theorem R4 {c : List Col} {l : List Val} {e : Expr} (h1 : (e.op == 1) = false) (h2 : (e.op == 2) = false) (h3 : ((e.op == 5) && (e.text == orW)) = false) (h4 : ((e.op == 5) && (e.text == jc)) = false) (h5 : ((e.op == 6) && (((e.text == ifW) || (e.text == R1)) || (e.text == B1))) = false) : Bk c l e = Np (B7 e.op e.text) (e.kids.map (Bk c l)) := by
 rw [Bk, T8]
 unfold Ho
 rw [h1, h2, h3, h4, h5]
 rfl
theorem kc {c : List Col} {l : List Val} (hf : ∀ v ∈ l, Fine v) {e : Expr} (hnd : Cf C8 e = true) (hrg : Cf F1 e = true) (hv : Cf Js e = true) (h5 : ((e.op == 6) && (((e.text == ifW) || (e.text == R1)) || (e.text == B1))) = false) : ArgsOk e.op (e.kids.map fun y => (Bk c l y).1) := by
 rw [Fo, Bool.and_eq_true] at hnd hrg hv
 obtain ⟨k5, k34, k6, _⟩ := Q2 hnd.1
 refine ⟨fun h => ?_, fun h => by rw [List.length_map]; exact k34 h, fun h => ?_, fun v hv' => ?_⟩
 ·obtain ⟨a, b, e⟩ := R3 (k5 h)
  rw [e]
  exact ⟨_, _, rfl⟩
 ·rw [List.length_map]
  rw [h] at h5
  simp only [beq_self_eq_true, Bool.true_and, Bool.or_eq_false_iff, beq_eq_false_iff_ne] at h5
  rcases Iz (k6 h) with ⟨_, h⟩ | ⟨_, h⟩ | ⟨_, h⟩ | ⟨e, _⟩ | ⟨e, _⟩ | ⟨_, h⟩ | ⟨_, h⟩ | ⟨e, _⟩
  ·exact .inl h
  ·exact .inl h
  ·exact .inl h
  ·exact absurd e h5.2
  ·exact absurd e h5.1.2
  ·obtain ⟨a, b, e⟩ := R3 h
   rw [e]
   exact .inr ⟨_, _, rfl⟩
  ·obtain ⟨a, b, e⟩ := R3 h
   rw [e]
   exact .inr ⟨_, _, rfl⟩
  exact absurd e h5.1.1
 obtain ⟨y, hy, rfl⟩ := List.mem_map.1 hv'
 exact Ps hf y ((Cg _ _).1 hv.2 y hy) ((Cg _ _).1 hrg.2 y hy)
theorem La (a b d : Rs) : Cx B1 a b d = Cx B1 a (noV, 0) (noV, 0) := by
 unfold Cx
 rw [show (B1 == ifW) = false from rfl, show (B1 == B1) = true from rfl]
 rfl
theorem Vo {t : Str} (h : (t == ifW) = false) (a b d d' : Rs) : Cx t a b d = Cx t a b d' := by
 unfold Cx
 rw [h]
 rfl
theorem To {t : Str} (h : (t == B1) = true) (a b b' d d' : Rs) : Cx t a b d = Cx t a b' d' := by
 have e : t = B1 := by simpa using h
 subst e
 rw [La, La a b' d']
theorem Zl {t : Str} {k : List Expr} {f : Expr → Rs} {a : Rs} (h1 : (t == B1) = false → 1 < k.length) (h2 : (t == ifW) = true → 2 < k.length) : Cx t a ((k.map f).getD 1 (noV, 0)) ((k.map f).getD 2 (noV, 0)) = Cx t a (f (k.getD 1 Ah)) (f (k.getD 2 Ah)) := by
 cases hn : t == B1 with
 | true => exact To hn _ _ _ _ _
 | false =>
  rw [(Dj (h1 hn)).2.2]
  cases hi : t == ifW with
  | true => rw [(Dj (h2 hi)).2.2]
  | false => exact Vo hi _ _ _ _
theorem vf (c : List Col) (l : List Val) (hc : OkCols c) (hl : l.length = c.length) (hf : ∀ v ∈ l, Fine v) : ∀ (n : Nat) (e : Expr), okE n e → Cf C8 e = true → Cf F1 e = true → Cf Js e = true → F6 c l e (Bk c l e) := by
 intro n
 induction n with
 | zero => exact fun e h => h.elim
 | succ n ih =>
 intro e hok hnd hrg hvo Hp
 have hnd0 := hnd
 have hrg0 := hrg
 have hvo0 := hvo
 rw [Fo, Bool.and_eq_true] at hnd0 hrg0 hvo0
 have hev : ∀ y ∈ e.kids, F6 c l y (Bk c l y) := fun y hy => ih y (hok.2.2 y hy) ((Cg _ _).1 hnd0.2 y hy) ((Cg _ _).1 hrg0.2 y hy) ((Cg _ _).1 hvo0.2 y hy)
 obtain ⟨k5, k34, k6, _⟩ := Q2 hnd0.1
 have hev0 : Bk c l e = Ho B7 c l e.op e.text e.val (e.kids.map (Bk c l)) := T8 _ _ _ _
 refine ACall.body [.cell 4 24, .tmp 5] [0, 1] Tryz.func158 Tryz.ntmps158 (fun d => ?_)
 refine Li ?_;refine gu ?_;refine Z26 ?_;refine Xz ?_;refine R.fin [2, 3, 4, 7] ?_
 refine W.cond (fun ht7 => ?_) (fun ht7 => ?_)
 ·have hm : Bk c l e = (e.val, 0) := by rw [hev0]; unfold Ho; rw [if_pos ht7]
  refine g7 ?_;refine Dn ?_;exact Qf
 refine Xz ?_;refine R.fin [2, 3, 4, 13] ?_
 refine W.cond (fun ht13 => ?_) (fun ht13 => ?_)
 ·have hm0 : Bk c l e = Hn c l e.text := by rw [hev0]; unfold Ho; rw [if_neg (by rw [ht7]; simp), if_pos ht13]
  refine Ba ?_;refine R.fieldAddrRo (off := 0) jU Tryz.sizeOf30 ?_;refine Cq ?_;refine Z39 ?_;refine R.call Tryz.call29 (c29 c hc e.text _) ?_;refine Au ?_;refine R.fin [2, 4, 6] ?_;refine Ub ?_;refine R.fin [2, 4, 6, 23] ?_
  refine W.cond (fun ht23 => ?_) (fun ht23 => ?_)
  ·have hm : Bk c l e = Bg 9 := by rw [hm0]; exact if_pos (by simpa using ht23)
   refine Oc ?_;refine Mg ?_;exact Z12
  have hneg : ¬ (B2 e.text c < 0) := by simpa using ht23
  obtain ⟨j, hj, hjc⟩ := O2 hneg
  have hjl : j < l.length := by omega
  have hm : Bk c l e = (l[j], 0) := by
   rw [hm0]
   unfold Hn
   rw [if_neg hneg, hj, Int.toNat_natCast, List.getD_eq_getElem?_getD, List.getElem?_eq_getElem hjl]
   rfl
  rw [hj]
  refine Lj ?_;refine lq ?_;refine At ?_;refine R.indexAddr (j) (Bh l[j]) jU jS (Be hjl) ?_;refine Dn ?_;exact Qf
 refine Mb ?_;refine Mf ?_;refine Ql ?_;refine Z32 ?_;refine R.fin [2, 3, 4, 32] ?_
 refine W.cond (fun ht32 => ?_) (fun ht32 => ?_)
 ·have h32 : ((e.op == 5) && (e.text == orW)) = true := ht32
  have hop : e.op = 5 := by simp only [Bool.and_eq_true, beq_iff_eq] at h32; exact h32.1
  have hkl := k5 hop
  have hm : Bk c l e = Et (E0 true) (Bk c l (e.kids.getD 0 Ah)) (Bk c l (e.kids.getD 1 Ah)) := by rw [hev0]; unfold Ho; rw [if_neg (by rw [ht7]; simp), if_neg (by rw [ht13]; simp), if_pos h32, (Dj (by omega)).2.2, (Dj (by omega)).2.2]
  refine pk ?_;refine I9 ?_;refine D.call Tryz.call122 (Ut _ _) ?_;refine D.call Tryz.call184 (s6 c l e (e.kids.getD 0 Ah) (e.kids.getD 1 Ah) (E0 true) _ _ (Dj (by omega)).1 (Dj (by omega)).1 (hev _ (Dj (by omega)).2.1) (hev _ (Dj (by omega)).2.1) _) ?_;refine U7 ?_;exact Qf
 have h32 : ((e.op == 5) && (e.text == orW)) = false := ht32
 refine Mb ?_;refine Mf ?_;refine Ql ?_;refine Z32 ?_;refine R.fin [2, 3, 4, 47] ?_
 refine W.cond (fun ht47 => ?_) (fun ht47 => ?_)
 ·have h47 : ((e.op == 5) && (e.text == jc)) = true := ht47
  have hop : e.op = 5 := by simp only [Bool.and_eq_true, beq_iff_eq] at h47; exact h47.1
  have hkl := k5 hop
  have hm : Bk c l e = Et (E0 false) (Bk c l (e.kids.getD 0 Ah)) (Bk c l (e.kids.getD 1 Ah)) := by rw [hev0]; unfold Ho; rw [if_neg (by rw [ht7]; simp), if_neg (by rw [ht13]; simp), if_neg (by rw [h32]; simp), if_pos h47, (Dj (by omega)).2.2, (Dj (by omega)).2.2]
  refine pk ?_;refine I9 ?_;refine D.call Tryz.call122 (Ut _ _) ?_;refine D.call Tryz.call184 (s6 c l e (e.kids.getD 0 Ah) (e.kids.getD 1 Ah) (E0 false) _ _ (Dj (by omega)).1 (Dj (by omega)).1 (hev _ (Dj (by omega)).2.1) (hev _ (Dj (by omega)).2.1) _) ?_;refine U7 ?_;exact Qf
 have h47 : ((e.op == 5) && (e.text == jc)) = false := ht47
 refine Mb ?_;refine Mf ?_;refine Ql ?_;refine G.move ?_;refine Ql ?_;refine G.pickOr ?_;refine G.move ?_;refine Ql ?_;refine G.pickOr ?_;refine Z32 ?_;refine R.fin [2, 3, 4, 62] ?_
 refine W.cond (fun ht62 => ?_) (fun ht62 => ?_)
 ·have h62 : ((e.op == 6) && (((e.text == ifW) || (e.text == R1)) || (e.text == B1))) = true := ht62
  obtain ⟨hkl, hl1, hl2⟩ : 0 < e.kids.length ∧ ((e.text == B1) = false → 1 < e.kids.length) ∧ ((e.text == ifW) = true → 2 < e.kids.length) := by
   have h := h62
   simp only [Bool.and_eq_true, Bool.or_eq_true, beq_iff_eq] at h
   have ha := k6 h.1
   rcases h.2 with (h1 | h1) | h1
   ·rw [h1] at ha ⊢
    have : e.kids.length = 3 := by
     have : Av ifW = 3 := by kernel_rfl
     omega
    exact ⟨by omega, fun _ => by omega, fun _ => by omega⟩
   ·rw [h1] at ha ⊢
    have : e.kids.length = 2 := by
     have : Av R1 = 2 := by kernel_rfl
     omega
    exact ⟨by omega, fun _ => by omega, fun h => absurd h (by decide)⟩
   rw [h1] at ha ⊢
   have : e.kids.length = 1 := by
    have : Av B1 = 1 := by kernel_rfl
    omega
   exact ⟨by omega, fun h => absurd h (by decide), fun h => absurd h (by decide)⟩
  have hm : Bk c l e = Cx e.text (Bk c l (e.kids.getD 0 Ah)) (Bk c l (e.kids.getD 1 Ah)) (Bk c l (e.kids.getD 2 Ah)) := by
   rw [hev0]
   unfold Ho
   rw [if_neg (by rw [ht7]; simp), if_neg (by rw [ht13]; simp), if_neg (by rw [h32]; simp), if_neg (by rw [h47]; simp), if_pos h62, (Dj hkl).2.2]
   exact Zl hl1 hl2
  refine Z54 ?_;refine Dn ?_;refine R.call Tryz.call185 (v7 c l e (e.kids.getD 0 Ah) (e.kids.getD 1 Ah) (e.kids.getD 2 Ah) _ _ _ (Dj (by omega)).1 (fun h => (Dj (hl1 h)).1) (fun h => (Dj (hl2 h)).1) (hev _ (Dj (by omega)).2.1) (fun h => hev _ (Dj (hl1 h)).2.1) (fun h => hev _ (Dj (hl2 h)).2.1) _) ?_;refine Z36 ?_;exact Rp
 have h62 : ((e.op == 6) && (((e.text == ifW) || (e.text == R1)) || (e.text == B1))) = false := ht62
 have hm := R4 (c := c) (l := l) ht7 ht13 h32 h47 h62
 refine Z17 ?_;refine Z54 ?_;refine Dn ?_;refine R.call Tryz.call186 (ve c l e hok.2.1 hev (fun _ => kc hf hnd hrg hvo h62) _) ?_;refine Z36 ?_;exact Z49

def Hu (l : List Val) : Bool := decide ((50 : Int) < (l.length : Int)) || l.any fun v => decide ((400 : Int) < (v.s.length : Int))
theorem c18 (l : List Val) (Hp : List AObj) : AFun Tryz.prog 18 [Ev l] Hp (Ak (Hu l)) := by
 refine ACall.body [.tmp 2] [0] Tryz.func18 Tryz.ntmps18 (fun d => ?_)
 refine Z88 ?_;refine Z9 ?_;refine Xr ?_;refine R.fin [0, 6] ?_
 refine W.cond (fun ht6 => ?_) (fun ht6 => ?_)
 ·rw [List.length_map] at ht6
  have hm : Hu l = true := by unfold Hu; rw [ht6]; rfl
  refine Z57 ?_;exact Z60
 rw [List.length_map] at ht6
 have hl50 : l.length ≤ 50 := by simp at ht6; omega
 refine Z5 ?_;refine Ua ?_;refine Lk ?_
 refine AW.loopC (α := Nat) (fun x => ⟨20, A6 0 (Ev l) (A6 3 (A4 (x : Nat)) (fun _ => .any)), Hp, [], [], none⟩) (fun x => x ≤ l.length ∧ ∀ (j : Nat) (v : Val), j < x → l[j]? = some v → decide ((400 : Int) < (v.s.length : Int)) = false) (fun x => l.length - x) (0) ⟨Nat.zero_le _, fun j v h => by omega⟩ (StLe.of_eq (by simp)) rfl (fun x hx => ?_)
 refine Xw ?_;refine R.fin [0, 3, 10] ?_
 refine W.cond (fun ht10 => ?_) (fun ht10 => ?_)
 ·have hlt : x < l.length := by simpa using ht10
  refine Ud ?_;refine Z29 ?_;refine R.indexAddr (x) (Bh l[x]) jU jS (Be hlt) ?_;refine fq ?_;refine U3 ?_;refine R.fin [0, 3, 19] ?_
  refine W.cond (fun ht19 => ?_) (fun ht19 => ?_)
  ·have hm : Hu l = true := by unfold Hu; rw [Bool.or_eq_true]; exact .inr (List.any_eq_true.2 ⟨l[x], List.getElem_mem hlt, ht19⟩)
   refine Z57 ?_;exact ax
  refine Z17 ?_;refine Z21 ?_;refine R.add64 (h1 := by omega) (h2 := by omega) ?_;refine gj ?_;refine K.lpN (x + 1) ⟨hlt, Da hlt hx.2 ht19⟩ (by omega) ?_;exact StCut.of_eq (by simp)
 have hxe : l.length ≤ x := by simpa using ht10
 have hm : Hu l = false := by
  unfold Hu
  rw [ht6, Bool.false_or, List.any_eq_false]
  intro v hv
  obtain ⟨j, hj⟩ := List.getElem?_of_mem hv
  have := hx.2 j v (by have := (List.getElem?_eq_some_iff.1 hj).1; omega) hj
  rw [this]
  simp
 refine Oe ?_;exact pm

structure RowAt (c : List Col) (l : List Val) (x : Nat) : Prop where
 le : x ≤ l.length
 ok : ∀ (i : Nat) (v : Val) (y : Col), i < x → l[i]? = some v → c[i]? = some y → Bu v = true ∧ (v.kind = 0 ∨ v.kind = y.kind)
theorem RowAt.next {c : List Col} {l : List Val} {x : Nat} (h : RowAt c l x) (hl : x < l.length) (hc : x < c.length) (hb : ((!(Bu l[x])) || ((l[x].kind != 0) && (l[x].kind != c[x].kind))) = false) : RowAt c l (x + 1) := ⟨hl, fun i v y hi hv hy => by
 rcases Nat.lt_or_ge i x with h' | h'
 ·exact h.ok i v y h' hv hy
 have e : i = x := by omega
 subst e
 rw [List.getElem?_eq_getElem hl] at hv
 rw [List.getElem?_eq_getElem hc] at hy
 injection hv with hv
 injection hy with hy
 subst hv
 subst hy
 simp only [Bool.or_eq_false_iff, Bool.not_eq_false', Bool.and_eq_false_iff, bne_eq_false_iff_eq] at hb
 exact ⟨hb.1, hb.2⟩⟩
theorem RowAt.bad {c : List Col} {l : List Val} {x : Nat} (hl : x < l.length) (hc : x < c.length) (hb : ((!(Bu l[x])) || ((l[x].kind != 0) && (l[x].kind != c[x].kind))) = true) : G9 c l = false := by
 cases h : G9 c l with
 | false => rfl
 | true =>
  obtain ⟨h1, h2⟩ := (row_iff.1 h).2.2 x l[x] c[x] (List.getElem?_eq_getElem hl) (List.getElem?_eq_getElem hc)
  rw [h1] at hb
  simp only [Bool.not_true, Bool.false_or, Bool.and_eq_true, bne_iff_ne] at hb
  omega
theorem c82 (c : List Col) (hc : OkCols c) (l : List Val) (hll : l.length ≤ 1048576) (Hp : List AObj) : AFun Tryz.prog 82 [C0 c, Ev l] Hp (Ak (G9 c l)) := by
 refine ACall.body [.tmp 4] [0, 1] Tryz.func82 Tryz.ntmps82 (fun d => ?_)
 refine Z87 ?_;refine Z9 ?_;refine R.call Tryz.call26 (c26 c hc _) ?_;refine R.not ?_;refine Z22 ?_;refine G.len jU ?_;refine G.move ?_;refine G.len jU ?_;refine U4 ?_;refine R.fin [0, 1, 16] ?_
 refine W.cond (fun ht16 => ?_) (fun ht16 => ?_)
 ·have hm : G9 c l = false := by
   simp only [List.length_map, Bool.or_eq_true, Bool.not_eq_true', bne_iff_ne, ne_eq] at ht16
   unfold G9
   rcases ht16 with h | h
   ·rw [h]; rfl
   rw [show (l.length == c.length) = false by simpa using (show l.length ≠ c.length by omega)]; simp
  exact Xs
 have hcl : Fd c = true ∧ l.length = c.length := by
  simp only [List.length_map, Bool.or_eq_false_iff, Bool.not_eq_false', bne_eq_false_iff_eq] at ht16
  exact ⟨ht16.1, by omega⟩
 refine Z5 ?_;refine Of ?_;refine R.fin [0, 17, 18, 19] ?_
 refine AW.loopC (α := Nat) (fun x => ⟨43, A6 0 (C0 c) (A6 17 (Ev l) (A6 18 (A4 (l.length : Nat)) (A6 19 (A4 (x : Nat)) (fun _ => .any)))), Hp, [], [], none⟩) (fun x => RowAt c l x) (fun x => l.length - x) (0) ⟨Nat.zero_le _, fun i v y h => by omega⟩ (StLe.of_eq (by simp)) rfl (fun x hx => ?_)
 refine Z89 ?_;refine R.fin [0, 17, 18, 19, 20] ?_
 refine W.condX (fun ht20 => ?_) (fun ht20 => ?_)
 ·have hlt : x < l.length := by simpa using ht20
  have hlc : x < c.length := by omega
  refine Gg ?_;refine R.indexAddr (x) (Bh l[x]) jU jS (Be hlt) ?_;refine Dn ?_;refine av ?_;refine R.fin [0, 5, 6, 17, 18, 19] ?_;refine W.draw [0, 1, 3, 7, 15, 31, 63, 127, 255, 511, 255, 255, 3327, 7423, 15615, 32767, 65535, 131071] 15 Ae (by kernel_rfl) ?_;refine D.loadOwnN jA jS ?_;refine D.call Tryz.call120 (bp _ _) ?_;refine D.not ?_;refine D.move ?_;refine H.fieldAddrPtr (fo := 0) jU Tryz.sizeOf3 ?_;refine H.loadOwn jA ?_;refine H.neq ?_;refine H.move ?_;refine H.fieldAddrPtr (fo := 0) jU Tryz.sizeOf3 ?_;refine H.loadOwn jA ?_;refine H.move ?_;refine H.move ?_;refine H.indexAddr (x) (Rz c[x]) jU jS (fun _ => Be hlc) ?_;refine H.fieldAddrRo (off := 1) jU Tryz.sizeOf3 ?_;refine H.loadRo jA ?_;refine D.tail ?_;refine G.neq ?_;refine G.pickAnd ?_;refine R.pickOr ?_;refine R.fin [0, 17, 18, 19, 41] ?_
  refine W.cond (fun ht41 => ?_) (fun ht41 => ?_)
  ·have hm := RowAt.bad hlt hlc ht41
   refine Uh ?_;exact ax
  refine Mi ?_;refine R.fin [0, 17, 18, 19] ?_;refine K.lpN (x + 1) (hx.next hlt hlc ht41) (by omega) ?_
  exact StCut.take (own := []) (fun _ => .refl _) (by repeat (first | exact B6 | refine B5 (by first | exact Tn | exact low_cols | (simp [or_imp, forall_and]; done)) ?_)) (by simp) (by simp)
 have hxe : l.length ≤ x := by simpa using ht20
 have hm : G9 c l = true := row_iff.2 ⟨by rw [← W4]; exact hcl.1, hcl.2, fun i v y hv hy => hx.ok i v y (by have := (List.getElem?_eq_some_iff.1 hv).1; omega) hv hy⟩
 refine Z55 ?_;exact gx

theorem eg {e : Expr} (h : C8 e = true) : Js e = true := by
 unfold Js
 cases Ff h with
 | val v hp h0 => simpa [Fu, Expr.op, Expr.val] using hp
 | name t ht => rfl
 | neg a => rfl
 | no a => rfl
 | bin t a b ht => rfl
 | call t k ht => rfl
mutual
theorem Wx : ∀ e : Expr, Cf C8 e = true → Cf Js e = true
 | .mk o t v k, h => by
  rw [Cf, Bool.and_eq_true] at h ⊢
  exact ⟨eg h.1, Tp k h.2⟩
theorem Tp : ∀ k : List Expr, Hi C8 k = true → Hi Js k = true
  | [], _ => rfl
  | e :: r, h => by
    rw [Hi, Bool.and_eq_true] at h ⊢
    exact ⟨Wx e h.1, Tp r h.2⟩
 end
theorem ek {c : List Col} {l : List Val} (h : G9 c l = true) (hr : ∀ v ∈ l, -9223372036854775808 ≤ v.n ∧ v.n ≤ 9223372036854775807) : ∀ v ∈ l, Fine v := fun v hv => by
 obtain ⟨i, hi⟩ := List.getElem?_of_mem hv
 obtain ⟨_, h2, h3⟩ := row_iff.1 h
 have hil := (List.getElem?_eq_some_iff.1 hi).1
 exact ⟨(h3 i v _ hi (List.getElem?_eq_getElem (show i < c.length by omega))).1, (hr v hv).1, (hr v hv).2⟩
theorem vg (n : Nat) (x : Expr) (hok : okE n x) (hn : n ≤ 1048576) (hrg : Cf F1 x = true) (c : List Col) (hc : OkCols c) (l : List Val) (hll : l.length ≤ 1048576) (hlr : ∀ v ∈ l, -9223372036854775808 ≤ v.n ∧ v.n ≤ 9223372036854775807) (Hp : List AObj) : AFun Tryz.prog 121 [Ab x, C0 c, Ev l] Hp (Kn (Fh x c l)) := by
 refine ACall.body [.cell 6 24, .tmp 7] [0, 1, 2] Tryz.func121 Tryz.ntmps121 (fun d => ?_)
 refine Z24 ?_;refine Z83 ?_;refine R.fin [1, 2, 3, 6] ?_;refine Mc ?_;refine R.call Tryz.call61 (c61 n x hok hn _) ?_;refine R.not ?_;refine Me ?_;refine G.call Tryz.call82 (fun hB => c82 c hc l hll _) ?_;refine ba ?_;refine R.fin [1, 2, 3, 6, 16] ?_
 refine W.cond (fun ht16 => ?_) (fun ht16 => ?_)
 ·have hm : Fh x c l = Bg 1 := if_pos ht16
  refine Oc ?_;refine Z66 ?_;exact Z37
 have hm : Fh x c l = Bk c l x := if_neg (by rw [ht16]; simp)
 have hrr : Bb x = true ∧ G9 c l = true := by simpa using ht16
 obtain ⟨hr, hrow⟩ := hrr
 refine Z5 ?_;refine Z29 ?_;refine Uk ?_;refine Dn ?_;refine R.call Tryz.call158 (vf c l hc (row_iff.1 hrow).2.1 (ek hrow hlr) n x hok (Ht hr) hrg (Wx x (Ht hr)) _) ?_;refine Z36 ?_;refine Z66 ?_;exact lb

theorem el {l : List Val} (h : Hu l = false) : l.length ≤ 1048576 := by
 unfold Hu at h
 simp only [Bool.or_eq_false_iff, decide_eq_false_iff_not] at h
 omega
end Go.SX.Nb
namespace Go.SX
variable [GI : GlobInv]
open Classical
variable {P : Program} {d : Nat} {ops : Array Oper} {rest : List Oper} {sz : Nat} {fr : Nat → AV} {up own : List AObj} {dfs : List Nat} {rnd : Option Nat} {Q : St → Prop} {s : Nat} {ty : TypeId} {pos : String} {aft : Array Edge}
/-- Whether a slice is nil is known only of one that has elements. -/
theorem R.eqlNil {t e u : TypeId} {x y : Operand} {o : Bool} {k : Nat} {xs : List AV} (ht : P.underlying t = some (.slice e)) (hg : P.eqGuardType P.depth t = false)
  (hr : ∀ b : Bool, (b = true → xs = []) → ARun P d ops rest ⟨sz, A6 s (.v (.bool b)) fr, up, own, dfs, rnd⟩ Q)
  (hx : A7 fr x = .slice o k xs := by exact sL0) (hy : A7 fr y = .nil := by exact sL0) (hs : Nat.blt s sz = true := by rfl) :
  ARun P d ops (⟨some s, .binOp .eql t x y u, ty, pos, aft, none⟩ :: rest) ⟨sz, fr, up, own, dfs, rnd⟩ Q := by
 refine ARun.op rfl (Q1 := fun s' => ∃ b : Bool, (b = true → xs = []) ∧ s' = ⟨sz, A6 s (.v (.bool b)) fr, up, own, dfs, rnd⟩) ?_ (by rintro _ ⟨b, hb, rfl⟩; exact hr b hb)
 intro G a w hrel Q'
 have h1 := hrel.eval x
 rw [show St.ev ⟨sz, fr, up, own, dfs, rnd⟩ x = .slice o k xs from hx] at h1
 have h2 := hrel.eval y
 rw [show St.ev ⟨sz, fr, up, own, dfs, rnd⟩ y = .nil from hy] at h2
 have key : ∀ b : Bool, (b = true → xs = []) → (execOp a.eval ⟨some s, .binOp .eql t x y u, ty, pos, aft, none⟩).run P w = .ok (.value (.bool b)) w →
   Oper.wpIn (Fr ((St.mk sz fr up own dfs rnd).rnd.map G.blk)) 0 P ⟨some s, .binOp .eql t x y u, ty, pos, aft, none⟩ a w (Post d ⟨sz, fr, up, own, dfs, rnd⟩ G w (fun s' => ∃ b : Bool, (b = true → xs = []) ∧ s' = ⟨sz, A6 s (.v (.bool b)) fr, up, own, dfs, rnd⟩)) Q' := fun b hb hv =>
  B9 (by intro c h; cases h) hv ⟨G, _, hrel.put (y := .v (.bool b)) (by simpa using hs) (.v _ _), Keep.refl d G w, rfl, rfl, rfl, b, hb, rfl⟩
 generalize hya : a.eval y = vy at h2
 generalize hxa : a.eval x = vx at h1
 cases h2
 cases h1 with
 | slice0 => exact key true (fun _ => rfl) (by simp only [execOp, hxa, hya, eqGuard]; simp [Lib.run_eql_slice_nil _ _ _ _ _ _ _ _ ht, hg])
 | sliceE => exact key false (fun h => by cases h) (by simp only [execOp, hxa, hya, eqGuard]; simp [Lib.run_eql_slice_nil _ _ _ _ _ _ _ _ ht, hg])
 | slice => exact key false (fun h => by cases h) (by simp only [execOp, hxa, hya, eqGuard]; simp [Lib.run_eql_slice_nil _ _ _ _ _ _ _ _ ht, hg])
/-! A guarded slice that may be appended to. -/
end Go.SX
