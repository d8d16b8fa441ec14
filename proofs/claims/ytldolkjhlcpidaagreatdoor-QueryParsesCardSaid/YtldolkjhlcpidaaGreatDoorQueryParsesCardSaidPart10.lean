/- Texts on the way to this: QueryParses answers true for whatever it is handed: any source of up to 2000 bytes is parsed as the reference says, or the first fault is told; what is parsed is right, and printed it is parsed as the same. (part 10) -/
import Derived.Shelf.Strconv.AtoiAll
import Derived.Lib.ParseIntBCases
import Derived.Shelf.Strings.Builder1
import Derived.Lib.ItoaLen
import Derived.Test.YtldolkjhlcpidaaGreatDoorQueryParsesCardSaidPart9
set_option linter.all false
namespace Go.SX.Nb
open Go Go.SX Go.Proofs Go.RowKit
variable [ErrAt]
set_option maxRecDepth 4000
theorem c50 (s : Str) (hs : s.length ≤ 1048576) (Hp : List AObj) : AFun Tryz.prog 50 [A7 s] Hp (.tup [A3 (Gs s), .any]) := by
 refine AFun.libAny (xs := [sv s]) (n := .int .i64 (Gs s)) (fun w hg => ?_)
 have hz : (⟨s.toArray⟩ : ByteArray).size ≤ 1048576 := by simpa [ByteArray.size] using hs
 unfold Gs
 rcases h : Lib.atoiAll s with v | _ | _
 ·refine (Any.strconv_Atoi_ok Tryz.lays172 ⟨s.toArray⟩ (by omega) v h w).mono ?_
  rintro e w' ⟨rfl, hb⟩
  refine ⟨_, rfl, ?_⟩
  rcases hb with rfl | ⟨t, rfl⟩
  ·exact Below.refl _ _
  exact Lib.bytesWorld_below _ _ _
 ·refine (Any.strconv_Atoi_syntax Tryz.lays172 ⟨s.toArray⟩ (by omega) h _ w (U9 hg) (.inr ⟨_, _, rfl⟩)).mono ?_
  rintro e w' ⟨N, rfl, _, _, hb⟩
  exact ⟨_, rfl, hb⟩
 refine (Any.strconv_Atoi_range Tryz.lays172 ⟨s.toArray⟩ (by omega) h _ w (Jk hg) (.inr ⟨_, _, rfl⟩)).mono ?_
 rintro e w' ⟨N, rfl, _, _, hb⟩
 exact ⟨_, rfl, hb⟩
theorem c33 (n : Int) (h0 : -9223372036854775808 ≤ n) (h1 : n ≤ 9223372036854775807) (Hp : List AObj) : AFun Tryz.prog 33 [A3 n] Hp (A7 (Lib.itoa n)) := by
 refine AFun.lib (xs := [.int .i64 n]) (v := sv (Lib.itoa n)) (fun G w => .v _ _) (fun w hg => ?_)
 refine (Any.strconv_Itoa Tryz.lays171 n h0 h1 w (W4 hg)).mono ?_
 rintro e w' ⟨rfl, k, os, rfl⟩
 exact ⟨rfl, Pk _ _ _⟩
end Go.SX.Nb
namespace Go.SX.Nb
open Go Go.SX Go.Proofs
variable [ErrAt]
set_option maxRecDepth 4000
theorem Lh {l : List Tok} {s : Str} {S : QS} (h : isQ l s S = true) : (A4 l S.i).kind ≠ 0 := by
 unfold isQ at h
 simp only [Bool.and_eq_true, Bool.or_eq_true, beq_iff_eq] at h
 rcases h.1.2 with e | e <;> rw [e] <;> decide
theorem Hn {l : List Tok} {s : Str} {S : QS} (h : isQ l s S = true) : S.code = 0 := by
 unfold isQ at h
 simp only [Bool.and_eq_true, beq_iff_eq] at h
 exact h.1.1
theorem Gy {l : List Tok} (hl : TokEnd l) {s : Str} {S : QS} (hi : S.i < l.length) (h : isQ l s S = true) : (Ai S).i < l.length := hl.step hi (Lh h)
theorem Fd (l : List Tok) (e : Int) (S : QS) : (Bq l e S).i = S.i := by unfold Bq; split <;> rfl
theorem K3 {l : List Tok} (hl : TokEnd l) {s : Str} {S : QS} (hi : S.i < l.length) : (Ei l s S).i < l.length := by
 unfold Ei
 split
 ·rename_i h; exact Gy hl hi h
 rw [Fd]; exact hi
theorem Ix {l : List Tok} (hl : TokEnd l) {q : Qry} {S : QS} (hi : S.i < l.length) (hc : q.cols.length ≤ 12) : S.i ≤ (Cd l (q, S)).2.i ∧ (Cd l (q, S)).2.i < l.length ∧ (Cd l (q, S)).1.cols.length ≤ 12 := by
 unfold Cd
 split
 ·exact ⟨Nat.le_refl _, hi, hc⟩
 split
 ·exact AB6
 split
 ·exact AB6
 rename_i h1 h2 h3
 have hk : (A4 l S.i).kind ≠ 0 := by
  have : (A4 l S.i).kind = 1 := by simpa using h2
  rw [this]; decide
 refine ⟨Nat.le_succ _, hl.step hi hk, ?_⟩
 simp only [beq_iff_eq] at h3
 rw [List.length_append, List.length_singleton]
 simp only at h3 ⊢
 omega
/-- Where the loop of names stands. -/
structure QNames (l : List Tok) (r0 r : Qry × QS) : Prop where
 lt : r.2.i < l.length
 cols : r.1.cols.length ≤ 12
 fuel : ∃ n, Cq l l.length r0 = Cq l n r ∧ l.length - r.2.i ≤ n
theorem QNames.start {l : List Tok} {r : Qry × QS} (h1 : r.2.i < l.length) (h2 : r.1.cols.length ≤ 12) : QNames l r r := ⟨h1, h2, l.length, rfl, by omega⟩
theorem QNames.on {l : List Tok} (hl : TokEnd l) {r0 r : Qry × QS} (h : QNames l r0 r) (hq : isQ l [44] r.2 = true) : QNames l r0 (Cd l (r.1, Ai r.2)) ∧ r.2.i + 1 ≤ (Cd l (r.1, Ai r.2)).2.i := by
 obtain ⟨n, e, hn⟩ := h.fuel
 have hlt := Gy hl h.lt hq
 obtain ⟨f1, f2, f3⟩ := Ix hl (q := r.1) hlt h.cols
 have h1 := h.lt
 refine ⟨⟨f2, f3, n - 1, ?_, ?_⟩, f1⟩
 ·rw [e]
  obtain ⟨m, rfl⟩ : ∃ m, n = m + 1 := ⟨n - 1, by omega⟩
  rw [Cq, if_pos hq]
  rfl
 have : r.2.i + 1 ≤ (Cd l (r.1, Ai r.2)).2.i := f1
 omega
theorem QNames.out {l : List Tok} {r0 r : Qry × QS} (h : QNames l r0 r) (hq : isQ l [44] r.2 = false) : Cq l l.length r0 = r := by
 obtain ⟨n, e, _⟩ := h.fuel
 rw [e]
 cases n with
 | zero => rfl
 | succ n => rw [Cq, if_neg (by rw [hq]; simp)]
theorem qA {Hp : List AObj} {o ox : Nat} {A B : AObj} (hl : o < Hp.length) (hne : ox ≠ o) : ((Hp.set o A).set ox B)[o]? = some A := by rw [List.getElem?_set_ne hne]; simp [hl]
theorem qB {Hp : List AObj} {o ox : Nat} {A B : AObj} (hl : ox < Hp.length) : ((Hp.set o A).set ox B)[ox]? = some B := by simp [hl]
theorem o3 {Hp : List AObj} {o ox : Nat} {A A' B : AObj} (hne : ox ≠ o) : ((Hp.set o A).set ox B).set o A' = (Hp.set o A').set ox B := by rw [List.set_comm _ _ hne, List.set_set]
theorem ADw {Hp : List AObj} {o ox m : Nat} {A A' B B' : AObj} (hl : o < Hp.length) (hlx : ox < Hp.length) (hne : ox ≠ o) (hA : ObjLow m A') (hB : ObjLow m B') (h : ∀ x ∈ (Hp.set o A).set ox B, ObjLow m x) : ∀ x ∈ (Hp.set o A').set ox B', ObjLow m x := by
 intro x hx
 obtain ⟨i, hi⟩ := List.getElem?_of_mem hx
 by_cases h1 : i = ox
 ·subst h1
  rw [qB hlx] at hi
  injection hi with hi
  subst hi
  exact hB
 by_cases h2 : i = o
 ·subst h2
  rw [qA hl hne] at hi
  injection hi with hi
  subst hi
  exact hA
 refine h x (List.mem_of_getElem? (i := i) ?_)
 rw [List.getElem?_set_ne (Ne.symm h1), List.getElem?_set_ne (Ne.symm h2)] at hi ⊢
 exact hi
/-- A call that turns the parser and the query. -/
theorem dr {d : Nat} {ops : Array Oper} {rest : List Oper} {sz s : Nat} {fr : Nat → AV} {Hp : List AObj} {rnd : Option Nat} {Q : St → Prop} {ty : TypeId} {pos : String} {aft : Array Edge} {g : FuncId} {xs : List Operand} {ats : Array TypeId} {args : List AV} {l : List Tok} {S S' : QS} {q q' : Qry} {o oq : Nat}
  (hcall : ∀ args w, (callFunc g args).run Tryz.prog w = .ok (.enter g args) w) (hl : o < Hp.length) (hlq : oq < Hp.length) (hne : oq ≠ o)
  (h : ACall Tryz.prog g args ((Hp.set o (prq l S)).set oq (qo true q) ++ []) (fun r H' => r = J2 ∧ H' = (((Hp.set o (prq l S)).set oq (qo true q) ++ []).set o (prq l S')).set oq (qo true q')))
  (hr : ARun Tryz.prog d ops rest ⟨sz, A5 s J2 fr, (Hp.set o (prq l S')).set oq (qo true q'), [], [], rnd⟩ Q)
  (ha : xs.map (A9 fr) = args := by simp only [go_sem, ↓reduceIte, Nat.reduceEqDiff, Nat.reduceAdd] <;> rfl) (hs : Nat.blt s sz = true := by rfl) :
  ARun Tryz.prog d ops (⟨some s, .call ⟨.value (.func g), xs.toArray, ats⟩, ty, pos, aft, none⟩ :: rest) ⟨sz, fr, (Hp.set o (prq l S)).set oq (qo true q), [], [], rnd⟩ Q := by
 refine R.callX (up' := (Hp.set o (prq l S')).set oq (qo true q')) (own' := []) hcall (h.mono fun r H' e => ⟨e.1, e.2.trans ?_⟩) (by simp) (fun hlow => ?_) hr (by simp) ha hs
 ·rw [List.append_nil, List.append_nil, o3 hne, List.set_set]
 exact ADw hl hlq hne Fc o1 hlow
theorem z7 (b : Bool) (q : Qry) : AObj.cells 30 [Ao b, .slice true 1 (q.cols.map A7), A3 q.whr.op, A7 q.whr.text, A3 q.whr.val.kind, A3 q.whr.val.n, A7 q.whr.val.s, .slice false 6 (q.whr.kids.map Af), A3 q.lim] = qo true (Ec b q) := rfl
theorem AC2 {l : List Tok} {q : Qry} {S : QS} (h : isQ l [42] S = true) : Du l (q, S) = (Ec true q, Ai S) := if_pos h
theorem AC3 {l : List Tok} {q : Qry} {S : QS} (h : isQ l [42] S = false) : Du l (q, S) = Cq l l.length (Cd l (Ec false q, S)) := if_neg (by show ¬ (isQ l [42] S = true); rw [h]; simp)
theorem c17 (l : List Tok) (S : QS) (q : Qry) (o oq : Nat) (Hp : List AObj) (hne : oq ≠ o) (ho : Hp[o]? = some (prq l S)) (hoq : Hp[oq]? = some (qo true q)) (hi : S.i < l.length) (hl : TokEnd l) (hll : l.length ≤ 500000) (hc12 : q.cols.length ≤ 12) : ACall Tryz.prog 17 [.ptr o 0, .ptr oq 0] Hp (fun r H' => r = J2 ∧ H' = (Hp.set o (prq l (Du l (q, S)).2)).set oq (qo true (Du l (q, S)).1)) := by
 have hlo := (List.getElem?_eq_some_iff.1 ho).1
 have hlq := (List.getElem?_eq_some_iff.1 hoq).1
 refine ACall.body [] [0, 1] Tryz.func17 Tryz.ntmps17 (fun d => ?_)
 refine Vs ?_;refine R.callUp Tryz.call47 ho (by simp) Fc (c47 l S [42] o _ (Ab ho) hi (by omega)) ?_;refine R.nilPtr ?_;refine lq ?_
 refine R.storeUp jS (by rw [List.getElem?_set_ne (Ne.symm hne)]; exact hoq) ?_ ?_
 ·simp
 refine R.fin [0, 1] ?_;refine Z0 ?_;refine R.nilPtr ?_;refine lq ?_;refine R.loadUp jA (qB hlq) ?_;refine R.fin [0, 1, 12] ?_
 refine W.cond (fun ht12 => ?_) (fun ht12 => ?_)
 ·have hq : isQ l [42] S = true := ht12
  have e := AC2 (q := q) hq
  rw [Qu hq, hq]
  refine AW.ret ?_;refine K.thR ?_;exact K.fin .nores (hp := ⟨rfl, by rw [e]; rfl⟩)
 have hq : isQ l [42] S = false := ht12
 have e := AC3 (q := q) hq
 rw [Qv hq, hq]
 rw [z7]
 refine Oa ?_
 have f0 := Ix hl (q := Ec false q) hi hc12
 refine Z53 ?_
 refine dr Tryz.call48 hlo hlq hne (c48 l S (Ec false q) o oq _ hne (Ab (qA hlo hne)) (Ab (qB hlq)) hi (by omega) (by show q.cols.length ≤ _; omega)) ?_
 refine R.fin [0, 1] ?_
 refine AW.loopC (α := Qry × QS) (fun r => ⟨21, A5 0 (.ptr o 0) (A5 1 (.ptr oq 0) (fun _ => .any)), (Hp.set o (prq l r.2)).set oq (qo true r.1), [], [], none⟩) (fun r => QNames l (Cd l (Ec false q, S)) r) (fun r => l.length - r.2.i) (Cd l (Ec false q, S)) (.start f0.2.1 f0.2.2) (StLe.refl _) rfl (fun r hr => ?_)
 refine Z8 ?_;refine R.callUp Tryz.call47 (qA hlo hne) (by simp) Fc (c47 l r.2 [44] o _ (Ab (qA hlo hne)) hr.lt (by omega)) ?_;refine R.fin [0, 1, 17] ?_
 refine W.cond (fun ht17 => ?_) (fun ht17 => ?_)
 ·have hq1 : isQ l [44] r.2 = true := ht17
  have hlt1 := Gy hl hr.lt hq1
  have hon := hr.on hl hq1
  rw [Qu hq1, o3 hne]
  refine Pe ?_;refine Z5 ?_;refine C3 ?_
  refine dr Tryz.call48 hlo hlq hne (c48 l (Ai r.2) r.1 o oq _ hne (Ab (qA hlo hne)) (Ab (qB hlq)) hlt1 (by omega) (by have := hr.cols; omega)) ?_
  refine R.fin [0, 1] ?_;refine K.blN ?_
  refine K.lpN (Cd l (r.1, Ai r.2)) hon.1 (by have := hr.lt; have := hon.2; omega) (StCut.of_eq rfl)
 have hq1 : isQ l [44] r.2 = false := ht17
 have hout := hr.out hq1
 rw [Qv hq1, o3 hne]
 refine Z40 ?_;refine K.lpE ?_;exact K.finN .nores (hp := ⟨rfl, by rw [e, hout]⟩)

theorem uf {l : List Tok} {q : Qry} {S : QS} (h : isQ l De S = false) : Cs l (q, S) = (q, S) := if_neg (by show ¬ (isQ l De S = true); rw [h]; simp)
theorem ug {l : List Tok} {q : Qry} {S : QS} (h : isQ l De S = true) (h2 : ((atM l (S.i + 1)).2.2.1 != 0) = true) : Cs l (q, S) = (q, ⟨S.i + 1, (atM l (S.i + 1)).2.2.1, (atM l (S.i + 1)).2.2.2⟩) := by
 unfold Cs
 rw [if_pos (by exact h), if_pos (by exact h2)]
theorem uh {l : List Tok} {q : Qry} {S : QS} {k : Nat} (h : isQ l De S = true) (h2 : ((atM l (S.i + 1)).2.2.1 != 0) = false) (hk : (atM l (S.i + 1)).2.1 = (k : Int)) : Cs l (q, S) = (⟨q.all, q.cols, (atM l (S.i + 1)).1, q.lim⟩, ⟨k, S.code, S.at_⟩) := by
 unfold Cs
 rw [if_pos (by exact h), if_neg (by show ¬ _ = true; rw [h2]; simp), hk]
 rfl
theorem ui {l : List Tok} {q : Qry} {S : QS} (h : isQ l Cr S = false) : Ck l (q, S) = (q, S) := if_neg (by show ¬ (isQ l Cr S = true); rw [h]; simp)
theorem uj {l : List Tok} {q : Qry} {S : QS} (h : isQ l Cr S = true) (h2 : ((A4 l (S.i + 1)).kind != 3) = true) : Ck l (q, S) = (q, Bq l 8 (Ai S)) := by
 unfold Ck
 rw [if_pos (by exact h), if_pos (by exact h2)]
theorem uk {l : List Tok} {q : Qry} {S : QS} (h : isQ l Cr S = true) (h2 : ((A4 l (S.i + 1)).kind != 3) = false) (h3 : decide ((100000 : Int) < Gs (A4 l (S.i + 1)).text) = true) : Ck l (q, S) = (q, Bq l 3 (Ai S)) := by
 unfold Ck
 rw [if_pos (by exact h), if_neg (by show ¬ _ = true; rw [h2]; simp), if_pos (by exact h3)]
theorem ul {l : List Tok} {q : Qry} {S : QS} (h : isQ l Cr S = true) (h2 : ((A4 l (S.i + 1)).kind != 3) = false) (h3 : decide ((100000 : Int) < Gs (A4 l (S.i + 1)).text) = false) : Ck l (q, S) = (⟨q.all, q.cols, q.whr, Gs (A4 l (S.i + 1)).text⟩, Ai (Ai S)) := by
 unfold Ck
 rw [if_pos (by exact h), if_neg (by show ¬ _ = true; rw [h2]; simp), if_neg (by show ¬ _ = true; rw [h3]; simp)]
theorem Gz {Hp : List AObj} {o : Nat} {A : AObj} (hl : o < Hp.length) : (Hp.set o A)[o]? = some A := by simp [hl]
theorem jb {Hp : List AObj} {o oq : Nat} {A B : AObj} (hne : oq ≠ o) (hoq : Hp[oq]? = some B) : (Hp.set o A)[oq]? = some B := by rw [List.getElem?_set_ne (Ne.symm hne)]; exact hoq
theorem c18 (l : List Tok) (S : QS) (q : Qry) (o oq : Nat) (Hp : List AObj) (hne : oq ≠ o) (ho : Hp[o]? = some (prq l S)) (hoq : Hp[oq]? = some (qo true q)) (hi : S.i < l.length) (hl : TokEnd l) (hll : l.length ≤ 500000) (hc12 : q.cols.length ≤ 12) : ACall Tryz.prog 18 [.ptr o 0, .ptr oq 0] Hp (fun r H' => r = J2 ∧ H' = (Hp.set o (prq l (Cs l (q, S)).2)).set oq (qo true (Cs l (q, S)).1)) := by
 have hlo := (List.getElem?_eq_some_iff.1 ho).1
 have hlq := (List.getElem?_eq_some_iff.1 hoq).1
 refine ACall.body [] [0, 1] Tryz.func18 Tryz.ntmps18 (fun d => ?_)
 refine Z8 ?_;refine R.callUp Tryz.call47 ho (by simp) Fc (c47 l S De o _ (Ab ho) hi (by omega)) ?_;refine R.not ?_;refine R.fin [0, 1, 9] ?_
 refine W.cond (fun ht9 => ?_) (fun ht9 => ?_)
 ·have hq : isQ l De S = false := by simpa using ht9
  have e := uf (q := q) hq
  rw [Qv hq, B5 ho]
  refine AW.ret ?_;exact Z35
 have hq : isQ l De S = true := by simpa using ht9
 have hi1 : S.i + 1 < l.length := Gy hl hi hq
 rw [Qu hq]
 refine Z4 ?_;refine W.drawY [0, 1, 3, 7, 0, 16, 48, 112, 255, 511, 1023, 1023, 1023, 0, 0, 26623, 61439, 131071] [] [.q 13 [] [], .s [4] none [] [], .s [6] none [] [], .s [4] none [] [], .q 1 [] [], .s [6] none [] []] (fun _ => Hp.set o (prq l (Ai S))) (fun _ => []) Ae (by kernel_rfl) rfl rfl (fun _ => rfl) ?_
 apply Y.q
 case h1 =>
  intro B hT hF
  refine Z16 ?_;refine D.loadUp jA (Gz hlo) ?_;refine Z12 ?_;refine D.loadUp jA (Gz hlo) ?_;refine D.call Tryz.call49 (c49 l (S.i + 1) hi1 hl hll (fun n Dv h1 h2 => ja hl (by omega) n Dv h1 h2) _) ?_;refine D.move ?_;refine D.extract ?_;refine D.extract ?_;refine D.extract ?_;exact Jj
 case hTF => decide
 refine Y.allocP Tryz.zeroValue28 ?_;refine Y.allocP Tryz.zeroValue33 ?_;refine Y.storeP Tryz.sizeOf28 ?_
 apply Y.q
 case h1 =>
  intro B hT hF
  exact gg
 case hTF => decide
 refine Y.storeP Tryz.sizeOf33 ?_;refine Y.tail (tn := [])  ?_;refine R.fin [0, 1, 4, 5, 6] ?_;refine Z29 ?_;refine R.fieldAddrRo (off := 0) jU Tryz.sizeOf31 ?_;refine Ff ?_;refine R.neq ?_;refine R.fin [0, 1, 4, 5, 6, 25] ?_
 refine W.cond (fun ht25 => ?_) (fun ht25 => ?_)
 ·have e := ug (q := q) hq ht25
  refine rd ?_;refine qm ?_
  refine R.storeUp jS (Gz hlo) ?_ ?_
  ·simp
  refine Rf ?_;exact Z35
 obtain ⟨k, hk, hkl⟩ := Ou hl (by omega) hi1 (by simpa using ht25)
 have e := uh (q := q) hq ht25 hk
 rw [hk]
 refine Z4 ?_;refine Z5 ?_;refine C3 ?_;refine I7 ?_;refine C3 ?_;refine R.nilPtr ?_;refine R.fieldAddrPtr (fo := 2) jU Tryz.sizeOf28 ?_
 refine R.storeUp jS (jb hne hoq) ?_ ?_
 ·intro z hz
  simp only [List.mem_cons, List.not_mem_nil, or_false] at hz
  rcases hz with rfl | rfl | rfl | rfl | rfl | rfl
  all_goals first | exact Ds | simp
 refine Z3 ?_
 refine R.storeUp jS (qA hlo hne) ?_ ?_
 ·simp
 exact Z72

theorem c19 (l : List Tok) (S : QS) (q : Qry) (o oq : Nat) (Hp : List AObj) (hne : oq ≠ o) (ho : Hp[o]? = some (prq l S)) (hoq : Hp[oq]? = some (qo true q)) (hi : S.i < l.length) (hl : TokEnd l) (hll : l.length ≤ 500000) (hc12 : q.cols.length ≤ 12) : ACall Tryz.prog 19 [.ptr o 0, .ptr oq 0] Hp (fun r H' => r = J2 ∧ H' = (Hp.set o (prq l (Ck l (q, S)).2)).set oq (qo true (Ck l (q, S)).1)) := by
 have hlo := (List.getElem?_eq_some_iff.1 ho).1
 have hlq := (List.getElem?_eq_some_iff.1 hoq).1
 refine ACall.body [] [0, 1] Tryz.func19 Tryz.ntmps19 (fun d => ?_)
 refine Z8 ?_;refine R.callUp Tryz.call47 ho (by simp) Fc (c47 l S Cr o _ (Ab ho) hi (by omega)) ?_;refine R.not ?_;refine R.fin [0, 1, 9] ?_
 refine W.cond (fun ht9 => ?_) (fun ht9 => ?_)
 ·have hq : isQ l Cr S = false := by simpa using ht9
  have e := ui (q := q) hq
  rw [Qv hq, B5 ho]
  refine AW.ret ?_;exact Z35
 have hq : isQ l Cr S = true := by simpa using ht9
 have hi1 : S.i + 1 < l.length := Gy hl hi hq
 rw [Qu hq]
 refine Z4 ?_;refine W.drawY [0, 1, 3, 7, 0, 16, 48, 112, 255, 511, 0, 2047] [] [.q 10 [] [], .s [4] none [] [], .s [4] none [] []] (fun _ => Hp.set o (prq l (Ai S))) (fun _ => []) Ae (by kernel_rfl) rfl rfl (fun _ => rfl) ?_
 apply Y.q
 case h1 =>
  intro B hT hF
  refine Z16 ?_;refine D.loadUp jA (Gz hlo) ?_;refine Z12 ?_;refine D.loadUp jA (Gz hlo) ?_;refine D.indexAddr ((S.i + 1)) (D0 (A4 l (S.i + 1))) jU jS (Fm hi1) ?_;exact wm
 case hTF => decide
 refine Yv ?_;refine R.fin [0, 1, 4] ?_;refine gm ?_;refine R.call Tryz.call50 (c50 (A4 l (S.i + 1)).text (hl.text _) _) ?_;refine Zg ?_;refine R.fin [0, 1, 4, 5] ?_;refine Z38 ?_;refine Yu ?_;refine R.neq ?_;refine B3 ?_;refine R.fin [0, 1, 5, 26] ?_
 refine W.cond (fun ht26 => ?_) (fun ht26 => ?_)
 ·have e := uj (q := q) hq ht26
  refine Z0 ?_;refine R.callUp Tryz.call20 (Gz hlo) (by simp) Fc (c20 l (Ai S) 8 o _ (Ab (Gz hlo)) hi1) ?_;refine Rf ?_;exact Z74
 refine Z0 ?_;refine lf ?_;refine R.fin [0, 1, 5, 32] ?_
 refine W.cond (fun ht32 => ?_) (fun ht32 => ?_)
 ·have e := uk (q := q) hq ht26 ht32
  refine Z0 ?_;refine R.callUp Tryz.call20 (Gz hlo) (by simp) Fc (c20 l (Ai S) 3 o _ (Ab (Gz hlo)) hi1) ?_;refine Rf ?_;exact Z74
 have e := ul (q := q) hq ht26 ht32
 refine Z34 ?_;refine Z31 ?_;refine R.nilPtr ?_;refine R.fieldAddrPtr (fo := 8) jU Tryz.sizeOf3 ?_
 refine R.storeUp jS (jb hne hoq) ?_ ?_
 ·simp
 refine R.fin [0] ?_;refine Vx ?_;refine R.loadUp jA (qA hlo hne) ?_
 refine R.add64 (h2 := by rw [show (Ai S).i = S.i + 1 from rfl]; omega) ?_
 refine Z3 ?_
 refine R.storeUp jS (qA hlo hne) ?_ ?_
 ·simp
 exact Z72

theorem O0 {l : List Tok} (hl : TokEnd l) : ∀ (n : Nat) (r : Qry × QS), r.2.i < l.length → r.1.cols.length ≤ 12 → (Cq l n r).2.i < l.length ∧ (Cq l n r).1.cols.length ≤ 12
 | 0, r, h1, h2 => ⟨h1, h2⟩
 | n + 1, r, h1, h2 => by
  rw [Cq]
  split
  ·rename_i hq
   obtain ⟨_, f2, f3⟩ := Ix hl (q := r.1) (Gy hl h1 hq) h2
   exact O0 hl n _ f2 f3
  exact ⟨h1, h2⟩
theorem Xq {l : List Tok} (hl : TokEnd l) {r : Qry × QS} (h1 : r.2.i < l.length) (h2 : r.1.cols.length ≤ 12) : (Du l r).2.i < l.length ∧ (Du l r).1.cols.length ≤ 12 := by
 unfold Du
 split
 ·rename_i hq; exact ⟨Gy hl h1 hq, h2⟩
 obtain ⟨_, f2, f3⟩ := Ix hl (q := Ec false r.1) h1 h2
 exact O0 hl _ _ f2 f3
theorem Xr {l : List Tok} (hl : TokEnd l) (hll : l.length ≤ 500000) {r : Qry × QS} (h1 : r.2.i < l.length) (h2 : r.1.cols.length ≤ 12) : (Cs l r).2.i < l.length ∧ (Cs l r).1.cols.length ≤ 12 := by
 unfold Cs
 split
 ·rename_i hq
  have hi1 : r.2.i + 1 < l.length := Gy hl h1 hq
  split
  ·exact ⟨hi1, h2⟩
  rename_i h
  obtain ⟨k, hk, hkl⟩ := Ou hl (by omega) hi1 (by simpa using h)
  refine ⟨?_, h2⟩
  show (atM l (r.2.i + 1)).2.1.toNat < _
  rw [hk, Int.toNat_natCast]
  exact hkl
 exact ⟨h1, h2⟩
theorem Xs {l : List Tok} (hl : TokEnd l) {r : Qry × QS} (h1 : r.2.i < l.length) (h2 : r.1.cols.length ≤ 12) : (Ck l r).2.i < l.length ∧ (Ck l r).1.cols.length ≤ 12 := by
 unfold Ck
 split
 ·rename_i hq
  have hi1 : (Ai r.2).i < l.length := Gy hl h1 hq
  split
  ·exact ⟨by rw [Fd]; exact hi1, h2⟩
  split
  ·exact ⟨by rw [Fd]; exact hi1, h2⟩
  rename_i h _
  have hk : (A4 l (Ai r.2).i).kind ≠ 0 := by
   have : (A4 l (r.2.i + 1)).kind = 3 := by simpa using h
   show (A4 l (r.2.i + 1)).kind ≠ 0
   rw [this]; decide
  exact ⟨hl.step hi1 hk, h2⟩
 exact ⟨h1, h2⟩
def q0Q : Qry := ⟨false, [], Aj, -1⟩
def s1Q (l : List Tok) : QS := Ei l Fb ⟨0, 0, 0⟩
def r1Q (l : List Tok) : Qry × QS := Du l (q0Q, s1Q l)
def r2Q (l : List Tok) : Qry × QS := Cs l (r1Q l)
def r3Q (l : List Tok) : Qry × QS := Ck l (r2Q l)
def s4Q (l : List Tok) : QS := Ei l [59] (r3Q l).2
def s5Q (l : List Tok) : QS := bj l (s4Q l)
theorem dt (l : List Tok) : Qt l = ((r3Q l).1, s5Q l) := rfl
theorem w8 : Le (.agg [Ao false, .nil, A3 0, A7 [], A3 0, A3 0, A7 [], .nil, A3 (-1)]) (.agg [Ao false, .nil, A3 0, A7 [], A3 0, A3 0, A7 [], .slice false 6 [], A3 (-1)]) := by
 refine .agg _ _ rfl (by simp [AV.one, Value.oneCell', sv]) fun i y y' h1 h2 => ?_
 match i with
 | 0 => simp at h1 h2; subst h1; subst h2; exact .inl rfl
 | 1 => simp at h1 h2; subst h1; subst h2; exact .inl rfl
 | 2 => simp at h1 h2; subst h1; subst h2; exact .inl rfl
 | 3 => simp at h1 h2; subst h1; subst h2; exact .inl rfl
 | 4 => simp at h1 h2; subst h1; subst h2; exact .inl rfl
 | 5 => simp at h1 h2; subst h1; subst h2; exact .inl rfl
 | 6 => simp at h1 h2; subst h1; subst h2; exact .inl rfl
 | 7 => simp at h1 h2; subst h1; subst h2; exact .inr ⟨rfl, 6, rfl⟩
 | 8 => simp at h1 h2; subst h1; subst h2; exact .inl rfl
 | i + 9 => simp at h1
abbrev Rw (q : Qry) : AV := .agg (qoC false q)
theorem du {n : Nat} {q : Qry} : Low n (Rw q) := by
 have h : ∀ z ∈ qoC false q, Low n z := o1 (n := n) (own := false) (q := q)
 simpa using h
theorem Qw {n : Nat} : oid n 4 ≠ oid n 3 := by unfold oid; omega
theorem c6 (s : Str) (hs : s.length ≤ 1048576) (Hp : List AObj) : AFun Tryz.prog 6 [A7 s] Hp (.tup [Rw (An s).1, .agg [A3 (An s).2.1, A3 (An s).2.2]]) := by
 refine ACall.body [.cell 2 30, .cell 3 33] [0] Tryz.func6 Tryz.ntmps6 (fun d => ?_)
 refine Z28 ?_;refine J4 ?_;refine Yy ?_;refine R.call Tryz.call15 (c15 s hs _) ?_;refine Z78 ?_;refine J4 ?_;refine r6 ?_;refine Rk ?_;refine Z29 ?_;refine xk ?_;refine R.fin [2, 3, 4, 5, 15] ?_
 refine W.cond (fun ht15 => ?_) (fun ht15 => ?_)
 ·have e : An s = (K2, (A6 s).2.1, ((A6 s).2.2 : Int)) := if_pos ht15
  refine AB7 ?_
  apply Y.q
  case h1 =>
   intro B hT hF
   exact zt
  case hTF => decide
  refine Z93 ?_;exact lb
 have e0 : ¬ ((A6 s).2.1 != 0) = true := by rw [ht15]; simp
 have hz : (A6 s).2.1 = 0 := by simpa using ht15
 have hle := cm hz
 have hlen := cu hz
 have hpos : 0 < (A6 s).1.length := hle.pos
 have hl5 : (A6 s).1.length ≤ 500000 := by omega
 have f1 : (s1Q (A6 s).1).i < (A6 s).1.length := K3 hle hpos
 have f2 : (r1Q (A6 s).1).2.i < (A6 s).1.length ∧ (r1Q (A6 s).1).1.cols.length ≤ 12 := Xq hle (r := (q0Q, s1Q (A6 s).1)) f1 (show ([] : List Str).length ≤ 12 by decide)
 have f3 : (r2Q (A6 s).1).2.i < (A6 s).1.length ∧ (r2Q (A6 s).1).1.cols.length ≤ 12 := Xr hle hl5 f2.1 f2.2
 have f4 : (r3Q (A6 s).1).2.i < (A6 s).1.length ∧ (r3Q (A6 s).1).1.cols.length ≤ 12 := Xs hle f3.1 f3.2
 have f5 : (s4Q (A6 s).1).i < (A6 s).1.length := K3 hle f4.1
 have hp : An s = Eo (A6 s).1 := if_neg e0
 refine Ls ?_;refine AAp ?_;refine B3 ?_;refine R.fin [2, 3, 6] ?_;refine AAg ?_;refine R.wk 21 _ w8 ?_;refine Z10 ?_;refine Pi ?_;refine B9 ?_;refine R.nilCell 4 1 1 ?_;refine C3 ?_
 refine R.callOwn (n := 3) (x := prq (A6 s).1 (s1Q (A6 s).1)) Tryz.call16 (c16 (A6 s).1 ⟨0, 0, 0⟩ Fb (oid Hp.length 3) _ (by rw [Ap]; rfl) hpos (by omega)) ?_
 refine ra ?_
 refine R.callX (up' := Hp) (own' := [.cells 30 [Ao false, .nil, A3 0, A7 [], A3 0, A3 0, A7 [], .nil, A3 0], .cells 33 [A3 0, A3 0], .cells 33 [A3 (A6 s).2.1, A3 ((A6 s).2.2 : Nat)], prq (A6 s).1 (r1Q (A6 s).1).2, qo true (r1Q (A6 s).1).1]) Tryz.call17 ((c17 (A6 s).1 (s1Q (A6 s).1) q0Q (oid Hp.length 3) (oid Hp.length 4) _ Qw (by rw [Ap]; rfl) (by rw [Ap]; rfl) f1 hle hl5 (by decide)).mono fun r H' e => ⟨e.1, e.2.trans (by rw [Ed, Ed]; rfl)⟩) rfl (fun h => h) ?_
 refine ra ?_
 refine R.callX (up' := Hp) (own' := [.cells 30 [Ao false, .nil, A3 0, A7 [], A3 0, A3 0, A7 [], .nil, A3 0], .cells 33 [A3 0, A3 0], .cells 33 [A3 (A6 s).2.1, A3 ((A6 s).2.2 : Nat)], prq (A6 s).1 (r2Q (A6 s).1).2, qo true (r2Q (A6 s).1).1]) Tryz.call18 ((c18 (A6 s).1 (r1Q (A6 s).1).2 (r1Q (A6 s).1).1 (oid Hp.length 3) (oid Hp.length 4) _ Qw (by rw [Ap]; rfl) (by rw [Ap]; rfl) f2.1 hle hl5 f2.2).mono fun r H' e => ⟨e.1, e.2.trans (by rw [Ed, Ed]; rfl)⟩) rfl (fun h => h) ?_
 refine ra ?_
 refine R.callX (up' := Hp) (own' := [.cells 30 [Ao false, .nil, A3 0, A7 [], A3 0, A3 0, A7 [], .nil, A3 0], .cells 33 [A3 0, A3 0], .cells 33 [A3 (A6 s).2.1, A3 ((A6 s).2.2 : Nat)], prq (A6 s).1 (r3Q (A6 s).1).2, qo true (r3Q (A6 s).1).1]) Tryz.call19 ((c19 (A6 s).1 (r2Q (A6 s).1).2 (r2Q (A6 s).1).1 (oid Hp.length 3) (oid Hp.length 4) _ Qw (by rw [Ap]; rfl) (by rw [Ap]; rfl) f3.1 hle hl5 f3.2).mono fun r H' e => ⟨e.1, e.2.trans (by rw [Ed, Ed]; rfl)⟩) rfl (fun h => h) ?_
 refine ra ?_
 refine R.callOwn (n := 3) (x := prq (A6 s).1 (s4Q (A6 s).1)) Tryz.call16 (c16 (A6 s).1 (r3Q (A6 s).1).2 [59] (oid Hp.length 3) _ (by rw [Ap]; rfl) f4.1 (by omega)) ?_
 refine Pi ?_;refine W.seq ?_;refine Z44 ?_;refine re ?_;refine D.tail ?_;refine R.indexAddr ((s4Q (A6 s).1).i) (D0 (A4 (A6 s).1 (s4Q (A6 s).1).i)) jU jS (Fm f5) ?_;refine Z13 ?_;refine R.neq ?_;refine R.fin [2, 3, 6, 7, 43] ?_
 refine W.cond (fun ht43 => ?_) (fun ht43 => ?_)
 ·have e5 : s5Q (A6 s).1 = Bq (A6 s).1 8 (s4Q (A6 s).1) := if_pos ht43
  refine Z5 ?_
  refine R.callOwn (n := 3) (x := prq (A6 s).1 (Bq (A6 s).1 8 (s4Q (A6 s).1))) Tryz.call20 (c20 (A6 s).1 (s4Q (A6 s).1) 8 (oid Hp.length 3) _ (by rw [Ap]; rfl) f5) ?_
  refine Pi ?_;refine K.thN ?_;refine Z8 ?_;refine Yr ?_;refine Yt ?_;refine R.fin [2, 3, 6, 7, 51] ?_
  refine W.cond (fun ht51 => ?_) (fun ht51 => ?_)
  ·rw [← e5] at ht51 ⊢
   have e : An s = (K2, (s5Q (A6 s).1).code, (s5Q (A6 s).1).at_) := by rw [hp]; exact if_pos ht51
   refine AB8 ?_
   apply Y.q
   case h1 =>
    intro B hT hF
    refine wo ?_;exact x7
   case hTF => decide
   refine Z43 ?_;exact lb
  rw [← e5] at ht51
  have e : An s = ((r3Q (A6 s).1).1, 0, 0) := by rw [hp]; exact if_neg (by show ¬ (((s5Q (A6 s).1).code != 0) = true); rw [ht51]; simp)
  refine Zd ?_;refine q9 ?_;exact zk
 have e5 : s5Q (A6 s).1 = s4Q (A6 s).1 := if_neg (by rw [ht43]; simp)
 refine Vy ?_;refine Yr ?_;refine Yt ?_;refine R.fin [2, 3, 6, 7, 51] ?_
 refine W.cond (fun ht51 => ?_) (fun ht51 => ?_)
 ·rw [← e5] at ht51 ⊢
  have e : An s = (K2, (s5Q (A6 s).1).code, (s5Q (A6 s).1).at_) := by rw [hp]; exact if_pos ht51
  refine AB8 ?_
  apply Y.q
  case h1 =>
   intro B hT hF
   refine wo ?_;exact x7
  case hTF => decide
  refine Z43 ?_;exact lb
 rw [← e5] at ht51
 have e : An s = ((r3Q (A6 s).1).1, 0, 0) := by rw [hp]; exact if_neg (by show ¬ (((s5Q (A6 s).1).code != 0) = true); rw [ht51]; simp)
 refine Zd ?_;refine q9 ?_;exact zk

/-! The reference's parser of queries. -/
def isP (l : List Tok) (s : Str) (S : QS) : Bool := (((A4 l S.i).kind == 5) || ((A4 l S.i).kind == 2)) && ((A4 l S.i).text == s)
theorem Ml {l : List Tok} {s : Str} {S : QS} : ((S.code == 0) && isP l s S) = isQ l s S := by unfold isQ isP; rw [Bool.and_assoc]
def Fe (l : List Tok) (S : QS) : QS := if (A4 l S.i).kind != 1 then Bq l 8 S else S
def Dg (l : List Tok) (S : QS) : Str × QS := if (Fe l S).code != 0 then ([], Fe l S) else ((A4 l S.i).text, Ai (Fe l S))
def Ho (l : List Tok) (S : QS) : Expr × QS := if S.code != 0 then (Aj, S) else if (atM l S.i).2.2.1 != 0 then (Aj, ⟨S.i, (atM l S.i).2.2.1, (atM l S.i).2.2.2⟩) else ((atM l S.i).1, ⟨(atM l S.i).2.1.toNat, S.code, S.at_⟩)
def Rx (l : List Tok) (r : Qry × QS) : Qry × QS := (⟨r.1.all, r.1.cols ++ [(Dg l r.2).1], r.1.whr, r.1.lim⟩, (Dg l r.2).2)
def Cm (l : List Tok) (r : Qry × QS) : QS := if ((r.1.cols.length : Int) == 12) && ((A4 l r.2.i).kind == 1) then Bq l 3 r.2 else r.2
def Qx (l : List Tok) (r : Qry × QS) : Qry × QS := Rx l (r.1, Cm l (r.1, Ai r.2))
def J3 (l : List Tok) : Nat → Qry × QS → Qry × QS
 | 0, r => r
 | n + 1, r => if isQ l [44] r.2 then J3 l n (Qx l r) else r
def Ni (l : List Tok) (r : Qry × QS) : Qry × QS := if isQ l [42] r.2 then (Ec true r.1, Ai r.2) else J3 l l.length (Rx l r)
def Uw (l : List Tok) (r : Qry × QS) : Qry × QS := if isQ l De r.2 then (⟨r.1.all, r.1.cols, (Ho l (Ai r.2)).1, r.1.lim⟩, (Ho l (Ai r.2)).2) else r
def um (l : List Tok) (S : QS) : Int := (Ad (A4 l S.i).text).1
def Li (l : List Tok) (r : Qry × QS) : Qry × QS :=
 if isQ l Cr r.2 then
  if (A4 l (Ai r.2).i).kind != 3 then (r.1, Bq l 8 (Ai r.2))
  else if decide ((100000 : Int) < um l (Ai r.2)) then (r.1, Bq l 3 (Ai r.2))
  else (⟨r.1.all, r.1.cols, r.1.whr, um l (Ai r.2)⟩, Ai (Ai r.2))
 else r
def r1P (l : List Tok) : Qry × QS := Ni l (q0Q, s1Q l)
def r2P (l : List Tok) : Qry × QS := Uw l (r1P l)
def r3P (l : List Tok) : Qry × QS := Li l (r2P l)
def s4P (l : List Tok) : QS := Ei l [59] (r3P l).2
def s5P (l : List Tok) : QS := bj l (s4P l)
def Ux (l : List Tok) : Qry × Int × Int := if (s5P l).code != 0 then (K2, (s5P l).code, (s5P l).at_) else ((r3P l).1, 0, 0)

/-! Bounds. -/
theorem Kp {l : List Tok} {e : Int} {S : QS} (h : S.code ≠ 0) : Bq l e S = S := if_neg (by simpa using h)
theorem Dn {l : List Tok} {e : Int} (he : e ≠ 0) (S : QS) : (Bq l e S).code ≠ 0 := by
 unfold Bq
 split
 ·exact he
 rename_i h; simpa using h
theorem Qy {l : List Tok} (hl : TokEnd l) {S : QS} (hi : S.i < l.length) : S.i ≤ (Dg l S).2.i ∧ (Dg l S).2.i < l.length := by
 cases hk : ((A4 l S.i).kind != 1) with
 | true =>
  have e : Fe l S = Bq l 8 S := if_pos hk
  have e2 : Dg l S = ([], Bq l 8 S) := by unfold Dg; rw [e, if_pos (by simpa using Dn (l := l) (e := 8) (by decide) S)]
  rw [e2]
  exact ⟨by show S.i ≤ (Bq l 8 S).i; rw [Fd]; exact Nat.le_refl _, by show (Bq l 8 S).i < _; rw [Fd]; exact hi⟩
 | false =>
  have e : Fe l S = S := by unfold Fe; rw [hk]; rfl
  unfold Dg
  rw [e]
  split
  ·exact ⟨Nat.le_refl _, hi⟩
  exact ⟨Nat.le_succ _, hl.step hi (by have : (A4 l S.i).kind = 1 := (by simpa using hk); rw [this]; decide)⟩
theorem Xt {l : List Tok} {r : Qry × QS} : (Cm l r).i = r.2.i := by unfold Cm; split; exact Fd ..; rfl
/-- Where the loop of names stands. -/
structure PNames (l : List Tok) (r0 r : Qry × QS) : Prop where
 lt : r.2.i < l.length
 cols : r.1.cols.length ≤ r.2.i + 1
 fuel : ∃ n, J3 l l.length r0 = J3 l n r ∧ l.length - r.2.i ≤ n
theorem PNames.start {l : List Tok} {r : Qry × QS} (h1 : r.2.i < l.length) (h2 : r.1.cols.length ≤ r.2.i + 1) : PNames l r r := ⟨h1, h2, l.length, rfl, by omega⟩
theorem Qz {l : List Tok} (hl : TokEnd l) {r : Qry × QS} (hi : r.2.i < l.length) (hq : isQ l [44] r.2 = true) : (Ai r.2).i < l.length ∧ (Cm l (r.1, Ai r.2)).i < l.length ∧ r.2.i + 1 ≤ (Qx l r).2.i ∧ (Qx l r).2.i < l.length := by
 have h1 : (Ai r.2).i < l.length := hl.step hi (Lh hq)
 have h2 : (Cm l (r.1, Ai r.2)).i < l.length := by rw [Xt]; exact h1
 obtain ⟨h3, h4⟩ := Qy hl h2
 rw [Xt] at h3
 exact ⟨h1, h2, h3, h4⟩
theorem PNames.on {l : List Tok} (hl : TokEnd l) {r0 r : Qry × QS} (h : PNames l r0 r) (hq : isQ l [44] r.2 = true) : PNames l r0 (Qx l r) ∧ r.2.i + 1 ≤ (Qx l r).2.i := by
 obtain ⟨n, e, hn⟩ := h.fuel
 obtain ⟨_, _, f1, f2⟩ := Qz hl h.lt hq
 have h1 := h.lt
 have h2 := h.cols
 refine ⟨⟨f2, ?_, n - 1, ?_, by omega⟩, f1⟩
 ·show (r.1.cols ++ [_]).length ≤ _
  rw [List.length_append, List.length_singleton]
  omega
 rw [e]
 obtain ⟨m, rfl⟩ : ∃ m, n = m + 1 := ⟨n - 1, by omega⟩
 rw [J3, if_pos hq]
 rfl
theorem PNames.out {l : List Tok} {r0 r : Qry × QS} (h : PNames l r0 r) (hq : isQ l [44] r.2 = false) : J3 l l.length r0 = r := by
 obtain ⟨n, e, _⟩ := h.fuel
 rw [e]
 cases n with
 | zero => rfl
 | succ n => rw [J3, if_neg (by rw [hq]; simp)]
theorem Xu {l : List Tok} (hl : TokEnd l) {r0 : Qry × QS} : ∀ (k : Nat) (r : Qry × QS), l.length - r.2.i ≤ k → PNames l r0 r → (J3 l l.length r0).2.i < l.length ∧ (J3 l l.length r0).1.cols.length ≤ l.length
 | 0, r, hk, h => by have := h.lt; omega
 | k + 1, r, hk, h => by
  have h1 := h.lt
  cases hc : isQ l [44] r.2 with
  | false => rw [h.out hc]; exact ⟨h1, by have := h.cols; omega⟩
  | true =>
   obtain ⟨h2, h3⟩ := h.on hl hc
   exact Xu hl k _ (by omega) h2
theorem R0 {l : List Tok} (hl : TokEnd l) {r : Qry × QS} (hi : r.2.i < l.length) (hc : r.1.cols = []) : PNames l (Rx l r) (Rx l r) := by
 obtain ⟨h1, h2⟩ := Qy hl hi
 refine .start h2 ?_
 show (r.1.cols ++ [_]).length ≤ _
 rw [hc]
 simp
theorem Xv {l : List Tok} (hl : TokEnd l) {r : Qry × QS} (hi : r.2.i < l.length) (hc : r.1.cols = []) : (Ni l r).2.i < l.length ∧ (Ni l r).1.cols.length ≤ l.length := by
 unfold Ni
 split
 ·rename_i h; exact ⟨hl.step hi (Lh h), by show r.1.cols.length ≤ _; rw [hc]; exact Nat.zero_le _⟩
 exact Xu hl l.length _ (by omega) (R0 hl hi hc)

theorem un {l : List Tok} (hl : TokEnd l) (hll : l.length ≤ 500000) {S : QS} (hi : S.i < l.length) : (Ho l S).2.i < l.length := by
 unfold Ho
 split
 ·exact hi
 split
 ·exact hi
 rename_i h
 obtain ⟨k, hk, hkl⟩ := Ou hl (by omega) hi (show (atM l S.i).2.2.1 = 0 by simpa using h)
 show (atM l S.i).2.1.toNat < _
 rw [hk, Int.toNat_natCast]
 exact hkl
theorem Xw {l : List Tok} (hl : TokEnd l) (hll : l.length ≤ 500000) : (r1P l).2.i < l.length ∧ (r2P l).2.i < l.length ∧ (r3P l).2.i < l.length ∧ (s4P l).i < l.length := by
 have h1 : (r1P l).2.i < l.length := (Xv hl (r := (q0Q, s1Q l)) (K3 hl hl.pos) rfl).1
 have h2 : (r2P l).2.i < l.length := by
  unfold r2P Uw
  split
  ·rename_i h; exact un hl hll (hl.step h1 (Lh h))
  exact h1
 have h3 : (r3P l).2.i < l.length := by
  unfold r3P Li
  split
  ·rename_i h
   have hi := hl.step h2 (Lh h)
   split
   ·show (Bq l 8 _).i < _; rw [Fd]; exact hi
   split
   ·show (Bq l 3 _).i < _; rw [Fd]; exact hi
   rename_i hk _
   exact hl.step hi (by have : (A4 l (Ai (r2P l).2).i).kind = 3 := (by simpa using hk); show (A4 l ((r2P l).2.i + 1)).kind ≠ 0; have h3 : (A4 l ((r2P l).2.i + 1)).kind = 3 := this; rw [h3]; decide)
  exact h2
 exact ⟨h1, h2, h3, K3 hl h3⟩

/-! Both do the same. -/
def Uy (r q : Qry × QS) : Prop := r.2 = q.2 ∧ (q.2.code = 0 → r.1 = q.1)
theorem Te {l : List Tok} {S : QS} (h : S.code ≠ 0) : Dg l S = ([], S) := by
 have e : Fe l S = S := by unfold Fe; rw [Kp h]; split <;> rfl
 unfold Dg
 rw [e, if_pos (by simpa using h)]
theorem dv {l : List Tok} {r : Qry × QS} (h : r.2.code = 0) : Uy (Rx l (r.1, Cm l r)) (Cd l r) := by
 unfold Cd
 rw [if_neg (by rw [h]; decide)]
 cases hk : ((A4 l r.2.i).kind != 1) with
 | true =>
  have hk1 : ((A4 l r.2.i).kind == 1) = false := by simpa using hk
  have e : Cm l r = r.2 := by unfold Cm; rw [hk1, Bool.and_false]; rfl
  have e2 : Fe l r.2 = Bq l 8 r.2 := if_pos hk
  have hc := Dn (l := l) (e := 8) (by decide) r.2
  rw [e, if_pos rfl]
  refine ⟨?_, fun h => absurd h hc⟩
  show (Dg l r.2).2 = _
  unfold Dg
  rw [e2, if_pos (by simpa using hc)]
 | false =>
  have hk1 : ((A4 l r.2.i).kind == 1) = true := by simpa using hk
  rw [if_neg (by simp)]
  cases hl : ((r.1.cols.length : Int) == 12) with
  | true =>
   have e : Cm l r = Bq l 3 r.2 := by unfold Cm; rw [hk1, hl]; rfl
   have hc := Dn (l := l) (e := 3) (by decide) r.2
   rw [e, if_pos rfl]
   refine ⟨?_, fun h => absurd h hc⟩
   show (Dg l (Bq l 3 r.2)).2 = _
   rw [Te hc]
  | false =>
   have e : Cm l r = r.2 := by unfold Cm; rw [hl]; rfl
   have e2 : Fe l r.2 = r.2 := by unfold Fe; rw [hk]; rfl
   have e3 : Dg l r.2 = ((A4 l r.2.i).text, Ai r.2) := by unfold Dg; rw [e2, if_neg (by rw [h]; decide)]
   rw [e, if_neg (by simp)]
   unfold Rx
   rw [e3]
   exact Oc
theorem Tf {l : List Tok} : ∀ (n : Nat) (r q : Qry × QS), Uy r q → Uy (J3 l n r) (Cq l n q)
 | 0, _, _, h => h
 | n + 1, r, q, h => by
  rw [J3, Cq, h.1]
  cases hc : isQ l [44] q.2 with
  | false => exact h
  | true =>
   have h0 := Hn hc
   simp only [if_true]
   refine Tf n _ _ ?_
   unfold Qx
   rw [h.2 h0, h.1]
   exact dv (r := (q.1, Ai q.2)) h0
theorem jc {l : List Tok} {r : Qry × QS} (hc : r.1.cols = []) (ha : r.1.all = false) : Uy (Ni l r) (Du l r) := by
 unfold Ni Du
 cases hq : isQ l [42] r.2 with
 | true => exact ⟨rfl, fun _ => rfl⟩
 | false =>
  have e0 : Ec false r.1 = r.1 := by unfold Ec; rw [← ha]
  simp only [Bool.false_eq_true, if_false]
  refine Tf _ _ _ ?_
  rw [e0]
  by_cases h : r.2.code = 0
  ·have e : Cm l r = r.2 := by unfold Cm; rw [hc]; rfl
   have := dv (l := l) (r := r) h
   rw [e] at this
   exact this
  have e1 : Cd l (r.1, r.2) = (r.1, r.2) := if_pos (by simpa using h)
  rw [e1]
  unfold Rx
  rw [Te h]
  exact ⟨rfl, fun h2 => absurd h2 h⟩
theorem jd {l : List Tok} {r q : Qry × QS} (h : Uy r q) : Uy (Uw l r) (Cs l q) := by
 unfold Uw Cs
 rw [h.1]
 cases hc : isQ l De q.2 with
 | false => exact h
 | true =>
  have h0 := Hn hc
  have hx := h.2 h0
  simp only [if_true]
  unfold Ho
  rw [hx, if_neg (by show ¬ (q.2.code != 0) = true; rw [h0]; decide)]
  cases hat : ((atM l (q.2.i + 1)).2.2.1 != 0) with
  | true =>
   have hat' : ((atM l (Ai q.2).i).2.2.1 != 0) = true := hat
   rw [hat']
   refine ⟨rfl, fun h => ?_⟩
   have h : (atM l (q.2.i + 1)).2.2.1 = 0 := h
   rw [h] at hat
   cases hat
  | false =>
   have hat' : ((atM l (Ai q.2).i).2.2.1 != 0) = false := hat
   rw [hat']
   exact Oc
def R1 (t : Tok) : Prop := t.kind = 3 → Gs t.text = (Ad t.text).1
theorem je {l : List Tok} (ht : ∀ i, R1 (A4 l i)) {r q : Qry × QS} (h : Uy r q) : Uy (Li l r) (Ck l q) := by
 unfold Li Ck
 rw [h.1]
 cases hc : isQ l Cr q.2 with
 | false => exact h
 | true =>
  have hx := h.2 (Hn hc)
  simp only [if_true]
  rw [hx]
  cases hk : ((A4 l (q.2.i + 1)).kind != 3) with
  | true =>
   have hk' : ((A4 l (Ai q.2).i).kind != 3) = true := hk
   rw [hk']
   exact Oc
  | false =>
   have hk' : ((A4 l (Ai q.2).i).kind != 3) = false := hk
   have e : um l (Ai q.2) = Gs (A4 l (q.2.i + 1)).text := (ht (q.2.i + 1) (by simpa using hk)).symm
   rw [hk', e]
   exact Oc
theorem bl {l : List Tok} (ht : ∀ i, R1 (A4 l i)) : Ux l = Eo l := by
 have h3 : Uy (r3P l) (r3Q l) := je ht (jd (jc (l := l) (r := (q0Q, s1Q l)) rfl rfl))
 have h5 : s5P l = s5Q l := by unfold s5P s4P s5Q s4Q; rw [h3.1]
 unfold Ux Eo
 rw [dt, h5]
 cases hc : ((s5Q l).code != 0) with
 | true => rfl
 | false =>
  have h0 : (r3Q l).2.code = 0 := by
   refine Classical.byContradiction fun hb => ?_
   have e4 : s4Q l = (r3Q l).2 := by
    unfold s4Q Ei
    rw [if_neg (fun h => hb (Hn h)), Kp hb]
   have e5 : s5Q l = (r3Q l).2 := by
    unfold s5Q bj
    rw [e4, Kp hb]
    split <;> rfl
   rw [e5] at hc
   exact hb (by simpa using hc)
  rw [h3.2 h0]
/-! The numbers of words. -/
theorem o4 {c : UInt8} {r : Str} (ha : ∀ b ∈ (c :: r : Str), digs.contains b = true) (h0 : (Ad (c :: r)).2 = 0) : Gs (c :: r) = (Ad (c :: r)).1 := by
 have hn := Hh c (ha c List.mem_cons_self)
 have h43 : c.toNat ≠ 43 := fun e => hn.2.1 (UInt8.toNat_inj.1 (by rw [e]; rfl))
 have h45 : c.toNat ≠ 45 := fun e => hn.1 (UInt8.toNat_inj.1 (by rw [e]; rfl))
 have hp := Lib.parseIntB_plain 64 c r h43 h45
 rw [Lib.parseUintB_64] at hp
 unfold Ad at h0 ⊢
 cases hb : Cx (c :: r) with
 | true => rw [hb] at h0; exact absurd h0 (by show ¬ (6 : Int) = 0; decide)
 | false =>
  rw [hb] at h0
  simp only [Bool.false_eq_true, if_false] at h0 ⊢
  unfold Gs
  rw [Lib.atoiAll_plain c r h43 h45]
  rw [hp] at h0 ⊢
  cases hm : Lib.parseMag (c :: r) with
  | ok u =>
   rw [hm] at h0
   have e1 : Lib.signlessC (2 ^ (64 - 1)) (.ok u) = if 2 ^ (64 - 1) ≤ u then .range else .ok (u : Int) := rfl
   have e2 : Lib.signless (.ok u) = if 9223372036854775808 ≤ u then .range else .ok (u : Int) := rfl
   rw [e1] at h0 ⊢
   rw [e2]
   have e3 : (2 : Nat) ^ (64 - 1) = 9223372036854775808 := by decide
   rw [e3] at h0 ⊢
   by_cases hu : 9223372036854775808 ≤ u
   ·rw [if_pos hu] at h0; exact absurd h0 (by decide)
   rw [if_neg hu]
  | range => rw [hm] at h0; exact absurd h0 (by show ¬ (4 : Int) = 0; decide)
  | _ => rfl
theorem o5 {u : Str} {n : Nat} (h0 : u ≠ []) (he : (Aq u).2.2.2 = 0) : R1 ⟨(Aq u).1, (Aq u).2.1, n⟩ := by
 obtain ⟨h1, h2⟩ := Ko h0
 rw [h2 he]
 rw [he] at h1
 cases u with
 | nil => exact absurd rfl h0
 | cons c r =>
 intro h3
 cases h : Bc c with
 | true =>
  rw [Us h] at h3
  have h3 : (if Bj ((c :: r).takeWhile Bd) = true then (2 : Int) else 1) = 3 := h3
  split at h3 <;> exact absurd h3 (by decide)
 | false =>
  cases hd : At c with
  | true =>
   rw [Ut h hd] at h1 ⊢
   show Gs ((c :: r).takeWhile At) = (Ad ((c :: r).takeWhile At)).1
   have h1 : (if (Ad ((c :: r).takeWhile At)).2 == 6 then (7 : Int) else (Ad ((c :: r).takeWhile At)).2) = 0 := h1
   have hz : (Ad ((c :: r).takeWhile At)).2 = 0 := by
    split at h1
    ·exact rj
    exact h1
   have ha : ∀ b ∈ (c :: r).takeWhile At, digs.contains b = true := fun b hb => by rw [Iv]; exact Hm hb
   rw [Ic hd] at ha hz ⊢
   exact o4 ha hz
  | false =>
   by_cases hc : c = 39
   ·rw [Uu h hd hc] at h3
    exact absurd h3 (by show ¬ (4 : Int) = 3; decide)
   rw [Uv h hd hc] at h3
   exact absurd h3 (by show ¬ (5 : Int) = 3; decide)
theorem Tg : ∀ (f q : Nat) (s : Str), ∀ it ∈ Cj f q s, it.2 = 0 → R1 it.1
 | 0, _, _, it, h, _ => by cases h
 | f + 1, q, s, it, h, h0 => by
  rw [Cj] at h
  split at h
  ·cases h
  rename_i hs
  have hne : s ≠ [] := by rintro rfl; exact hs rfl
  rcases List.mem_cons.1 h with rfl | h
  ·exact o5 hne h0
  split at h
  ·exact Tg f _ _ it h h0
  cases h
theorem dw {s : Str} (h : (A6 s).2.1 = 0) (i : Nat) : R1 (A4 (A6 s).1 i) := by
 have hz : ∀ n, R1 ⟨0, [], n⟩ := fun n h => absurd h (by show ¬ (0 : Int) = 3; decide)
 obtain ⟨_, h2, h3⟩ := Ok h
 rw [h3]
 unfold A4
 rw [List.getD_eq_getElem?_getD]
 cases hg : ((Ax s).map (·.1) ++ [⟨0, [], s.length⟩] : List Tok)[i]? with
 | none => exact hz 0
 | some t =>
  have hm := List.mem_of_getElem? hg
  rw [Option.getD_some]
  rcases List.mem_append.1 hm with hm | hm
  ·obtain ⟨it, hit, rfl⟩ := List.mem_map.1 hm
   exact Tg _ _ _ it hit (h2 it hit)
  rw [List.mem_singleton.1 hm]; exact hz _
/-! What is printed is parsed: queries. -/
theorem z8 {l : List Tok} {i : Nat} {x : Expr} {rest : List TK} (hseg : seg l i = Ah x ++ rest) (hst : stops 0 rest) (hr : Bt x = true) (hg : C0 Dz x = true) (hn : B0 x ≤ 30) : atM l i = (x, ((i + (Ah x).length : Nat) : Int), 0, 0) := by
 unfold Bt at hr
 simp only [Bool.and_eq_true, decide_eq_true_eq] at hr
 obtain ⟨⟨hd, hz⟩, hx⟩ := hr
 have h1 : atR l i = (x, adv ⟨i, 0, 0, 0⟩ (Ah x).length) := (Qk l _ x (Nat.le_refl _) hx hg).1 0 ⟨i, 0, 0, 0⟩ rest (Nat.zero_le _) rfl (by show 0 + B0 x ≤ 30; omega) hseg hst
 have e : atS l i (x, adv ⟨i, 0, 0, 0⟩ (Ah x).length) = adv ⟨i, 0, 0, 0⟩ (Ah x).length := by
  unfold atS
  rw [if_neg (by show ¬ (((0 : Int) != 0) = true); decide), if_neg (by simp; omega), if_neg (by simp; omega)]
 unfold atM
 rw [h1, e, if_neg (by show ¬ (((0 : Int) != 0) = true); decide)]
 rfl
theorem Fy {l : List Tok} {S : QS} {s : Str} {k : Int} {t : Str} {r : List TK} (h : seg l S.i = (k, t) :: r) (h0 : S.code = 0) : isQ l s S = (((k == 5) || (k == 2)) && (t == s)) := by
 obtain ⟨h1, h2, _, _⟩ := Bi h
 unfold isQ
 rw [h0, h1, h2]
 rfl
theorem Xx {l : List Tok} {S : QS} {s : Str} {k : Int} {r : List TK} (h : seg l S.i = (k, s) :: r) (h0 : S.code = 0) (hk : ((k == 5) || (k == 2)) = true) : Ei l s S = Ai S ∧ seg l (Ai S).i = r := by
 refine ⟨?_, (Bi h).2.2.1⟩
 unfold Ei
 rw [if_pos (by rw [Fy h h0, hk]; simp)]
def R2 (rest : List TK) : Prop := ∀ h r, rest = h :: r → h.2 ≠ [44]
theorem Th {l : List Tok} {rest : List TK} (hc : R2 rest) (hne : rest ≠ []) : ∀ (cs : List Str) (n : Nat) (q : Qry) (S : QS), S.code = 0 → seg l S.i = I4 cs ++ rest → q.cols.length + cs.length ≤ 12 → cs.length ≤ n →
  Cq l n (q, S) = (⟨q.all, q.cols ++ cs, q.whr, q.lim⟩, ⟨S.i + 2 * cs.length, S.code, S.at_⟩)
 | [], n, q, S, h0, hs, _, _ => by
  have hno : isQ l [44] S = false := by
   cases hr : rest with
   | nil => exact absurd hr hne
   | cons h r =>
    have hs' : seg l S.i = (h.1, h.2) :: r := by rw [hs, hr]; rfl
    rw [Fy hs' h0]
    have : (h.2 == [44]) = false := by rw [beq_eq_false_iff_ne]; exact hc h r hr
    rw [this, Bool.and_false]
  have e : Cq l n (q, S) = (q, S) := by
   cases n with
   | zero => rfl
   | succ n => unfold Cq; rw [if_neg (by rw [hno]; simp)]
  rw [e]
  simp
 | a :: r, 0, q, S, _, _, _, hn => by simp at hn
 | a :: r, n + 1, q, S, h0, hs, hl, hn => by
  have hs' : seg l S.i = (5, [44]) :: (1, a) :: (I4 r ++ rest) := hs
  obtain ⟨_, _, hs2, _⟩ := Bi hs'
  obtain ⟨k1, t1, hs3, _⟩ := Bi (i := S.i + 1) hs2
  have e1 : Cd l (q, Ai S) = (⟨q.all, q.cols ++ [a], q.whr, q.lim⟩, Ai (Ai S)) := by
   unfold Cd
   rw [if_neg (by show ¬ ((S.code != 0) = true); rw [h0]; decide), if_neg (by show ¬ (((A4 l (S.i + 1)).kind != 1) = true); rw [k1]; decide), if_neg (by show ¬ (((q.cols.length : Int) == 12) = true); simp only [List.length_cons] at hl; simp; omega)]
   show ((⟨q.all, q.cols ++ [(A4 l (S.i + 1)).text], q.whr, q.lim⟩ : Qry), _) = _
   rw [t1]
  unfold Cq
  rw [if_pos (by show isQ l [44] S = true; rw [Fy hs' h0]; rfl)]
  show Cq l n (Cd l (q, Ai S)) = _
  rw [e1, Th hc hne r n _ (Ai (Ai S)) h0 hs3 (by simp only [List.length_append, List.length_cons, List.length_nil] at hl ⊢; omega) (by simp at hn; omega)]
  simp only [Ai, List.append_assoc, List.cons_append, List.nil_append, List.length_cons]
  congr 2
  omega
theorem Lj : ∀ cs : List Str, (I4 cs).length = 2 * cs.length
 | [] => rfl
 | a :: r => by rw [I4, List.length_cons, List.length_cons, Lj r, List.length_cons]; omega
theorem O1 (a : Str) (r : List Str) : (I4 (a :: r)).drop 1 = (1, a) :: I4 r := rfl
theorem uo {l : List Tok} {i : Nat} : (seg l i).length = l.length - i := by unfold seg; simp
/-- The columns. -/
theorem o6 {l : List Tok} {q : Qry} {rest : List TK} (hq : q.all = ((q.cols.length : Int) == 0)) (h12 : q.cols.length ≤ 12) (hc : R2 rest) (hne : rest ≠ []) (q0 : Qry) (h0 : q0.cols = []) (S : QS) (hS : S.code = 0) (hs : seg l S.i = Lg q ++ rest) :
  ∃ n, Du l (q0, S) = (⟨q.all, q.cols, q0.whr, q0.lim⟩, ⟨n, 0, S.at_⟩) ∧ seg l n = rest := by
 unfold Lg at hs
 cases ha : q.all with
 | true =>
  rw [ha, if_pos rfl] at hs
  have hs' : seg l S.i = (5, [42]) :: rest := hs
  have hcols : q.cols = [] := by
   rw [ha] at hq
   have := eq_of_beq hq.symm
   exact List.eq_nil_of_length_eq_zero (by omega)
  refine ⟨S.i + 1, ?_, (Bi hs').2.2.1⟩
  unfold Du
  rw [if_pos (by show isQ l [42] S = true; rw [Fy hs' hS]; rfl), hcols]
  show ((⟨true, q0.cols, q0.whr, q0.lim⟩ : Qry), (⟨S.i + 1, S.code, S.at_⟩ : QS)) = _
  rw [h0, hS]
 | false =>
  rw [ha, if_neg (by simp)] at hs
  cases hcl : q.cols with
  | nil => rw [ha, hcl] at hq; cases hq
  | cons a r =>
   rw [hcl, O1] at hs
   have hs' : seg l S.i = (1, a) :: (I4 r ++ rest) := hs
   obtain ⟨k1, t1, hs2, _⟩ := Bi hs'
   have e1 : Cd l (Ec false q0, S) = (⟨false, [a], q0.whr, q0.lim⟩, Ai S) := by
    unfold Cd
    rw [if_neg (by show ¬ ((S.code != 0) = true); rw [hS]; decide), if_neg (by show ¬ (((A4 l S.i).kind != 1) = true); rw [k1]; decide), if_neg (by show ¬ (((q0.cols.length : Int) == 12) = true); rw [h0]; decide)]
    show ((⟨false, q0.cols ++ [(A4 l S.i).text], q0.whr, q0.lim⟩ : Qry), _) = _
    rw [t1, h0]
    rfl
   have hlen : r.length ≤ l.length := by
    have := congrArg List.length hs2
    rw [uo, List.length_append, Lj] at this
    omega
   refine ⟨S.i + 1 + 2 * r.length, ?_, ?_⟩
   ·unfold Du
    rw [if_neg (by show ¬ (isQ l [42] S = true); rw [Fy hs' hS]; simp)]
    show Cq l l.length (Cd l (Ec false q0, S)) = _
    rw [e1, Th hc hne r l.length _ (Ai S) hS hs2 (by rw [hcl] at h12; simp only [List.length_cons, List.length_nil] at h12 ⊢; omega) hlen]
    show ((⟨false, [a] ++ r, q0.whr, q0.lim⟩ : Qry), (⟨S.i + 1 + 2 * r.length, S.code, S.at_⟩ : QS)) = _
    rw [hS]
    rfl
   have := Dp hs2
   rwa [Lj] at this
theorem o7 {n : Int} (h0 : 0 ≤ n) : Lib.itoa n = Lib.decDigits n.toNat := by
 unfold Lib.itoa
 rw [if_neg (by omega)]
theorem R3 {w : TK} {r : List TK} (h1 : Ak w.2 < 0) (h2 : w.2 ≠ [40]) : stops 0 (w :: r) := fun h r' e _ => by
 injection e with e1 _
 subst e1
 exact ⟨by simpa using h1, h2⟩
theorem uq : Ak Cr < 0 := by decide
theorem o8 : Ak [59] < 0 := by decide
structure QOk (q : Qry) : Prop where
 all : q.all = ((q.cols.length : Int) == 0)
 len : q.cols.length ≤ 12
 lo : -1 ≤ q.lim
 hi : q.lim ≤ 100000
 names : ∀ s ∈ q.cols, Ch s = true
 tree : Ej q = true → Bt q.whr = true
theorem Ti {q : Qry} (h : Ft q = true) : QOk q := by
 unfold Ft at h
 split at h
 ·cases h
 rename_i h1
 simp only [Bool.or_eq_true, not_or, Bool.not_eq_true, decide_eq_false_iff_not, bne_eq_false_iff_eq] at h1
 obtain ⟨⟨⟨a, b⟩, c⟩, d⟩ := h1
 simp only [Bool.and_eq_true, Bool.or_eq_true, Bool.not_eq_true', List.all_eq_true] at h
 refine ⟨a, by omega, by omega, by omega, h.1, fun ha => ?_⟩
 rcases h.2 with h2 | h2
 ·rw [h2] at ha; cases ha
 exact h2
theorem Xy {q : Qry} (h : Ej q = false) : q.whr = Aj := by
 unfold Ej at h
 simp only [Bool.not_eq_false'] at h
 exact (Oj _ _).1 h
theorem jf (n : Int) (h0 : 0 ≤ n) (h1 : n ≤ 100000) : Gs (Lib.itoa n) = n := by
 obtain ⟨u, rfl⟩ : ∃ u : Nat, n = (u : Int) := ⟨n.toNat, by omega⟩
 rw [o7 h0, Int.toNat_natCast]
 obtain ⟨c, r, e, _⟩ := Js u
 have hc : digs.contains c = true := Kl u c (by rw [e]; simp)
 obtain ⟨n45, n43, _⟩ := Hh c hc
 have hu : Lib.parseMag (Lib.decDigits u) = .ok u := by
  rw [← Lib.parseUintB_64]
  unfold Lib.parseUintB
  rw [if_neg (by rw [e]; simp)]
  exact AB0
 have n45' : c.toNat ≠ 45 := fun h => n45 (UInt8.toNat_inj.1 (by rw [h]; rfl))
 have n43' : c.toNat ≠ 43 := fun h => n43 (UInt8.toNat_inj.1 (by rw [h]; rfl))
 have ha : Lib.atoiAll (Lib.decDigits u) = .ok (u : Int) := by
  rw [e] at hu ⊢
  rw [Lib.atoiAll_plain c r n43' n45', hu]
  unfold Lib.signless
  simp
  omega
 unfold Gs
 rw [ha]
theorem dx (Z : Str) : Dq (59 :: Z) := fun c r e => by injection e with e1 e2; exact .inr (.inr (.inr (.inr e1.symm)))
theorem o9 : Lx [59] [(5, [59])] [] := Ir (by kernel_rfl) (fun d r e => by cases e)
theorem AC4 {n : Int} (h0 : 0 ≤ n) (h1 : n ≤ 9223372036854775807) {R : Str} (hR : Dq R) : Lx (Xp ++ Lib.itoa n) [(2, Cr), (3, Lib.itoa n)] R := by
 have c : Lx Cr [(2, Cr)] ((32 :: Lib.itoa n) ++ R) := Un (by kernel_rfl) (Gx _)
 exact Hy (Lx.app c (Hy (w4 h0 h1 hR)))
theorem AC5 {x : Expr} (hx : PL x) {R : Str} (hR : Dq R) : Lx (Xo ++ Ac x) ((2, De) :: Ah x) R := by
 have c : Lx De [(2, De)] ((32 :: Ac x) ++ R) := Un (by kernel_rfl) (Gx _)
 exact Hy (Lx.app c (Hy (hx.1 R hR)))
theorem Xz : ∀ (cs : List Str), (∀ s ∈ cs, Gq s = true) → ∀ R, Dq R → Lx (I3 cs) (I4 cs) R ∧ Dq (I3 cs ++ R)
 | [], _, R, hR => ⟨Lx.nil R, hR⟩
 | a :: r, h, R, hR => by
  obtain ⟨h1, h2⟩ := Xz r (fun s hs => h s (by simp [hs])) R hR
  have h3 := Lx.app (Ul (h a (by simp)) h2) h1
  have h4 := Lx.app (d9 ((a ++ I3 r) ++ R)) h3
  refine ⟨?_, cz _⟩
  show Lx ([44, 32] ++ a ++ I3 r) _ R
  rw [List.append_assoc]
  exact h4
theorem Tj (a : Str) (r : List Str) : Mk (a :: r) = a ++ I3 r := rfl
theorem za {q : Qry} (hq : QOk q) {R : Str} (hR : Dq R) : Lx (if q.all then [42] else Mk q.cols) (Lg q) R := by
 unfold Lg
 cases ha : q.all with
 | true =>
  rw [if_pos rfl, if_pos rfl]
  exact Ir (by kernel_rfl) (Ld hR)
 | false =>
  rw [if_neg (by simp), if_neg (by simp)]
  cases hc : q.cols with
  | nil => have := hq.all; rw [ha, hc] at this; cases this
  | cons a r =>
   have hn : ∀ s ∈ a :: r, Gq s = true := fun s hs => by
    have := hq.names s (by rw [hc]; exact hs)
    rwa [E8] at this
   obtain ⟨h1, h2⟩ := Xz r (fun s hs => hn s (by simp [hs])) R hR
   rw [Tj, O1]
   exact Lx.app (Ul (hn a (by simp)) h2) h1
/-- The words of a query's print. -/
theorem oa {q : Qry} (hq : QOk q) (hg : C0 Dz q.whr = true) : Lx (Cl q) (ny q) [] := by
 have e4 : Lx ((if q.lim != -1 then Xp ++ Lib.itoa q.lim else []) ++ [59]) (Gi q ++ [(5, [59])]) [] ∧ Dq (((if q.lim != -1 then Xp ++ Lib.itoa q.lim else []) ++ [59]) ++ []) := by
  unfold Gi
  by_cases hl : q.lim = -1
  ·rw [if_neg (by rw [hl]; decide), if_neg (by rw [hl]; decide)]
   exact ⟨o9, dx _⟩
  rw [if_pos (by simpa using hl), if_pos (by simpa using hl)]
  exact ⟨Lx.app (AC4 (by have := hq.lo; omega) (by have := hq.hi; omega) (dx _)) o9, Gx _⟩
 have hW : Cl q = ue ++ ((if q.all then [42] else Mk q.cols) ++ ((if Ej q then Xo ++ Ac q.whr else []) ++ ((if q.lim != -1 then Xp ++ Lib.itoa q.lim else []) ++ [59]))) := by
  unfold Cl; simp only [List.append_assoc]
 rw [hW]
 clear hW
 generalize ((if q.lim != -1 then Xp ++ Lib.itoa q.lim else []) ++ [59]) = M at e4 ⊢
 have e3 : Lx ((if Ej q then Xo ++ Ac q.whr else []) ++ M) (Kz q ++ (Gi q ++ [(5, [59])])) [] ∧ Dq (((if Ej q then Xo ++ Ac q.whr else []) ++ M) ++ []) := by
  unfold Kz
  cases ha : Ej q with
  | false => rw [if_neg (by simp), if_neg (by simp)]; exact e4
  | true =>
   rw [if_pos rfl, if_pos rfl]
   exact ⟨Lx.app (AC5 (Xf _ q.whr (Nat.le_refl _) (Iw (hq.tree ha)) hg) e4.2) e4.1, Gx _⟩
 generalize ((if Ej q then Xo ++ Ac q.whr else []) ++ M) = W at e3 ⊢
 have e2 := Lx.app (za hq e3.2) e3.1
 generalize ((if q.all then [42] else Mk q.cols) ++ W) = C at e2 ⊢
 have c : Lx Fb [(2, Fb)] ((32 :: C) ++ []) := Un (by kernel_rfl) (Gx _)
 exact Lx.app c (Hy e2)
theorem jg {s : Str} {T : List TK} (h : Lx s T []) (hl : s.length ≤ 4000) : ∃ (L : List Tok) (n : Nat), A6 s = (L ++ [⟨0, [], n⟩], 0, 0) ∧ L.map ktT = T := by
 obtain ⟨M, hM, e⟩ := h (s.length + 1) 0 (by simp)
 rw [List.append_nil] at e
 have e0 : Im (s.length + 1) (0 + s.length) [] = [] := by
  unfold Im
  rw [List.drop_nil, Cj]
  rfl
 rw [e0, List.append_nil] at e
 have hi : Ax s = M.map (fun t => (t, 0)) := by rw [Wp]; exact e
 have := si hl (by rw [hi]; intro it hit; obtain ⟨t, _, rfl⟩ := List.mem_map.1 hit; rfl)
 refine ⟨M, s.length, ?_, hM⟩
 rw [this, hi, List.map_map]
 simp [Function.comp_def]
/-- What the words of a query's print are parsed to. -/
theorem Uz {l : List Tok} {q : Qry} (hq : QOk q) (hg : C0 Dz q.whr = true) (hat : ∀ n : Int, 0 ≤ n → n ≤ 100000 → Gs (Lib.itoa n) = n) (hs : seg l 0 = ny q ++ [(0, [])]) (hn : B0 q.whr ≤ 30) :
  Eo l = (q, 0, 0) := by
 obtain ⟨w1, s1⟩ := Xx (l := l) (S := ⟨0, 0, 0⟩) (s := Fb) (k := 2) (r := Lg q ++ (Kz q ++ (Gi q ++ [(5, [59])])) ++ [(0, [])]) (by show seg l 0 = _; rw [hs]; rfl) rfl rfl
 have tail2 : ∀ (x : Qry) (n : Nat), seg l n = Gi q ++ ([(5, [59])] ++ [(0, [])]) → ∃ m, Ck l (⟨q.all, q.cols, x.whr, -1⟩, ⟨n, 0, 0⟩) = (⟨q.all, q.cols, x.whr, q.lim⟩, ⟨m, 0, 0⟩) ∧ seg l m = [(5, [59])] ++ [(0, [])] := by
  intro x n hn
  unfold Gi at hn
  by_cases hl : q.lim = -1
  ·rw [if_neg (by rw [hl]; decide)] at hn
   have hn' : seg l n = (5, [59]) :: [(0, [])] := hn
   refine ⟨n, ?_, hn⟩
   unfold Ck
   rw [if_neg (by show ¬ (isQ l Cr ⟨n, 0, 0⟩ = true); rw [Fy (S := ⟨n, 0, 0⟩) hn' rfl]; decide), hl]
  rw [if_pos (by simpa using hl)] at hn
  have hn' : seg l n = (2, Cr) :: (3, Lib.itoa q.lim) :: [(5, [59]), (0, [])] := hn
  obtain ⟨_, _, hn2, _⟩ := Bi hn'
  obtain ⟨k1, t1, hn3, _⟩ := Bi hn2
  have hv := hat q.lim (by have := hq.lo; omega) hq.hi
  refine ⟨n + 1 + 1, ?_, hn3⟩
  unfold Ck
  rw [if_pos (by show isQ l Cr ⟨n, 0, 0⟩ = true; rw [Fy (S := ⟨n, 0, 0⟩) hn' rfl]; decide), if_neg (by show ¬ (((A4 l (n + 1)).kind != 3) = true); rw [k1]; decide)]
  simp only
  rw [t1, hv, if_neg (by have := hq.hi; simp; omega)]
  rfl
 have hrest : R2 (Kz q ++ (Gi q ++ ([(5, [59])] ++ [(0, [])]))) ∧ (Kz q ++ (Gi q ++ ([(5, [59])] ++ [(0, [])]))) ≠ [] := by
  unfold Kz Gi
  refine ⟨fun h r e => ?_, by simp⟩
  split at e
  ·injection e with e _; subst e; decide
  split at e
  ·injection e with e _; subst e; decide
  injection e with e _; subst e; decide
 have s1' : seg l (Ai ⟨0, 0, 0⟩).i = Lg q ++ (Kz q ++ (Gi q ++ ([(5, [59])] ++ [(0, [])]))) := by rw [s1]; simp only [List.append_assoc]
 obtain ⟨n, e2, s2⟩ := o6 hq.all hq.len hrest.1 hrest.2 ⟨false, [], Aj, -1⟩ rfl (Ai ⟨0, 0, 0⟩) rfl s1'
 have e2' : Du l (⟨false, [], Aj, -1⟩, Ei l Fb ⟨0, 0, 0⟩) = (⟨q.all, q.cols, Aj, -1⟩, ⟨n, 0, 0⟩) := by rw [w1]; exact e2
 -- the end, once the tree is read
 have fin : ∀ (x : Expr) (m : Nat), Cs l (⟨q.all, q.cols, Aj, -1⟩, ⟨n, 0, 0⟩) = (⟨q.all, q.cols, x, -1⟩, ⟨m, 0, 0⟩) → seg l m = Gi q ++ ([(5, [59])] ++ [(0, [])]) → Eo l = (⟨q.all, q.cols, x, q.lim⟩, 0, 0) := by
  intro x m ew hm
  obtain ⟨m2, el, hm2⟩ := tail2 ⟨q.all, q.cols, x, -1⟩ m hm
  have hm2' : seg l m2 = (5, [59]) :: [(0, [])] := hm2
  obtain ⟨w3, s3⟩ := Xx (S := ⟨m2, 0, 0⟩) hm2' rfl rfl
  have hk : (A4 l (m2 + 1)).kind = 0 := (Bi (r := []) s3).1
  have eb : Qt l = (⟨q.all, q.cols, x, q.lim⟩, ⟨m2 + 1, 0, 0⟩) := by
   unfold Qt
   rw [e2', ew]
   simp only at el ⊢
   rw [el]
   simp only
   rw [w3]
   unfold bj
   show _ = _
   rw [if_neg (by show ¬ (((A4 l (m2 + 1)).kind != 0) = true); rw [hk]; decide)]
   rfl
  unfold Eo
  rw [eb]
  rfl
 cases ha : Ej q with
 | false =>
  have hw := Xy ha
  have s2' : seg l n = Gi q ++ ([(5, [59])] ++ [(0, [])]) := by rw [s2]; unfold Kz; rw [ha]; rfl
  have hno : isQ l De ⟨n, 0, 0⟩ = false := by
   unfold Gi at s2'
   split at s2'
   ·have s3 : seg l n = (2, Cr) :: (3, Lib.itoa q.lim) :: [(5, [59]), (0, [])] := s2'
    rw [Fy (S := ⟨n, 0, 0⟩) s3 rfl]; decide
   have s3 : seg l n = (5, [59]) :: [(0, [])] := s2'
   rw [Fy (S := ⟨n, 0, 0⟩) s3 rfl]; decide
  have := fin Aj n (by unfold Cs; rw [if_neg (by rw [hno]; simp)]) s2'
  rw [this, ← hw]
 | true =>
  have s2' : seg l n = (2, De) :: (Ah q.whr ++ (Gi q ++ ([(5, [59])] ++ [(0, [])]))) := by rw [s2]; unfold Kz; rw [ha]; rfl
  obtain ⟨_, _, s3, _⟩ := Bi s2'
  have hst : stops 0 (Gi q ++ ([(5, [59])] ++ [(0, [])])) := by
   unfold Gi
   split
   ·exact R3 uq (by decide)
   exact R3 o8 (by decide)
  have hr := hq.tree ha
  have his : isQ l De ⟨n, 0, 0⟩ = true := by rw [Fy (S := ⟨n, 0, 0⟩) s2' rfl]; decide
  have hm := z8 s3 hst hr hg hn
  exact fin q.whr (n + 1 + (Ah q.whr).length) (by
   unfold Cs
   rw [if_pos his]
   simp only
   rw [hm, if_neg (by simp)]
   rfl) (Dp s3)
/-! What was parsed is right, and is parsed again from its print. -/
theorem jh {s : Str} (h : (A6 s).2.1 = 0) (i : Nat) : WordOk (A4 (A6 s).1 i) := by
 obtain ⟨_, hi, hM⟩ := Ok h
 rw [hM]
 unfold A4
 rw [List.getD_eq_getElem?_getD]
 cases hg : ((Ax s).map (·.1) ++ [⟨0, [], s.length⟩] : List Tok)[i]? with
 | none => exact ni 0
 | some t =>
  have ht := List.mem_of_getElem? hg
  rw [Option.getD_some]
  rcases List.mem_append.1 ht with ht | ht
  ·obtain ⟨it, hit, rfl⟩ := List.mem_map.1 ht
   exact Xg _ _ _ it hit (hi it hit)
  rw [List.mem_singleton.1 ht]; exact ni _
theorem ur {l : List Tok} (hw : ∀ i, WordOk (A4 l i)) {i : Nat} (ha : (atM l i).2.2.1 = 0) : Bt (atM l i).1 = true ∧ C0 Dz (atM l i).1 = true ∧ B0 (atM l i).1 ≤ 30 := by
 unfold atM at ha ⊢
 by_cases hc : ((atS l i (atR l i)).code != 0) = true
 ·rw [if_pos hc] at ha
  rw [show (atS l i (atR l i)).code = 0 from ha] at hc
  cases hc
 rw [if_neg hc]
 have hc : (atS l i (atR l i)).code = 0 := by simpa using hc
 have h0 : (atR l i).2.code = 0 ∧ depthE (atR l i).1 ≤ 30 ∧ sizeE (atR l i).1 ≤ 300 := by
  unfold atS at hc
  split at hc
  ·rename_i hh; exact absurd hc (by simpa using hh)
  rename_i hh
  split at hc
  ·exact xr
  rename_i h2
  split at hc
  ·exact xr
  rename_i h3
  simp only [decide_eq_true_eq, Int.not_lt] at h2 h3
  exact ⟨by simpa using hh, by omega, by omega⟩
 have h1 := (nf _ hw 30 0 rfl).1 ⟨i, 0, 0, 0⟩ rfl h0.1
 have h2 := ((bb l 30 0 rfl).1 ⟨i, 0, 0, 0⟩ rfl).need h0.1
 have h3 := (Mh 0 (atR l i).1 (B0 (atR l i).1)).1
 refine ⟨?_, h1.2, ?_⟩
 ·unfold Bt
  rw [Bool.and_eq_true, Bool.and_eq_true]
  exact ⟨⟨by simpa using h0.2.1, by simpa using h0.2.2⟩, h1.1⟩
 show B0 (atR l i).1 ≤ 30
 unfold atR at h2 h3 ⊢
 omega
/-- What is so of a query behind its names. -/
structure NOk (q : Qry) : Prop where
 all : q.all = ((q.cols.length : Int) == 0)
 len : q.cols.length ≤ 12
 names : ∀ s ∈ q.cols, Ch s = true
 whr : q.whr = Aj
 lim : q.lim = -1
structure MOk (q : Qry) : Prop where
 all : q.all = false
 len : q.cols.length ≤ 12
 names : ∀ s ∈ q.cols, Ch s = true
 whr : q.whr = Aj
 lim : q.lim = -1
theorem dy {l : List Tok} (hw : ∀ i, WordOk (A4 l i)) {r : Qry × QS} (h : MOk r.1) (hc : (Cd l r).2.code = 0) : MOk (Cd l r).1 ∧ (Cd l r).1.cols ≠ [] := by
 unfold Cd at hc ⊢
 split
 ·rename_i h1; rw [if_pos h1] at hc; rw [hc] at h1; cases h1
 rename_i h1
 rw [if_neg h1] at hc
 split
 ·rename_i h2; rw [if_pos h2] at hc; exact absurd hc (Dn (by decide) _)
 rename_i h2
 rw [if_neg h2] at hc
 split
 ·rename_i h3; rw [if_pos h3] at hc; exact absurd hc (Dn (by decide) _)
 rename_i h3
 refine ⟨⟨h.all, ?_, fun s hs => ?_, h.whr, h.lim⟩, by simp⟩
 ·have := h.len
  simp only [beq_iff_eq] at h3
  show (r.1.cols ++ [_]).length ≤ 12
  rw [List.length_append, List.length_singleton]
  omega
 rcases List.mem_append.1 hs with hs | hs
 ·exact h.names s hs
 rw [List.mem_singleton.1 hs, E8]
 exact (hw r.2.i).name (by simpa using h2)
theorem dz {l : List Tok} (hw : ∀ i, WordOk (A4 l i)) : ∀ (n : Nat) (r : Qry × QS), (r.2.code = 0 → MOk r.1 ∧ r.1.cols ≠ []) → (Cq l n r).2.code = 0 → MOk (Cq l n r).1 ∧ (Cq l n r).1.cols ≠ []
 | 0, r, h, hc => h hc
 | n + 1, r, h, hc => by
  rw [Cq] at hc ⊢
  split
  ·rename_i hq
   rw [if_pos hq] at hc
   exact dz hw n _ (fun h2 => dy hw (h (Hn hq)).1 h2) hc
  rename_i hq
  rw [if_neg hq] at hc
  exact h hc
theorem ob {l : List Tok} (hw : ∀ i, WordOk (A4 l i)) {r : Qry × QS} (h : MOk r.1) (h0 : r.1.cols = []) (hc : (Du l r).2.code = 0) : NOk (Du l r).1 := by
 unfold Du at hc ⊢
 split
 ·exact ⟨by show true = ((r.1.cols.length : Int) == 0); rw [h0]; rfl, h.len, h.names, h.whr, h.lim⟩
 rename_i hq
 rw [if_neg hq] at hc
 obtain ⟨a, b⟩ := dz hw _ _ (fun h2 => dy hw (r := (Ec false r.1, r.2)) ⟨rfl, h.len, h.names, h.whr, h.lim⟩ h2) hc
 refine ⟨?_, a.len, a.names, a.whr, a.lim⟩
 rw [a.all]
 symm
 rw [beq_eq_false_iff_ne]
 intro e
 exact b (List.eq_nil_of_length_eq_zero (by omega))
/-- What is so of a query that was parsed. -/
structure PdOk (q : Qry) : Prop where
 all : q.all = ((q.cols.length : Int) == 0)
 len : q.cols.length ≤ 12
 names : ∀ s ∈ q.cols, Ch s = true
 lo : -1 ≤ q.lim
 hi : q.lim ≤ 100000
 tree : Ej q = true → Bt q.whr = true
 rng : C0 Dz q.whr = true
 need : B0 q.whr ≤ 30
theorem bm {l : List Tok} {r : Qry × QS} (hc : (Cs l r).2.code = 0) : r.2.code = 0 := by
 unfold Cs at hc
 split at hc
 ·rename_i h; exact Hn h
 exact hc
theorem bn {l : List Tok} {r : Qry × QS} (hc : (Ck l r).2.code = 0) : r.2.code = 0 := by
 unfold Ck at hc
 split at hc
 ·rename_i h; exact Hn h
 exact hc
theorem oc {l : List Tok} (hw : ∀ i, WordOk (A4 l i)) {r : Qry × QS} (h : NOk r.1) (hc : (Cs l r).2.code = 0) : PdOk (Cs l r).1 ∧ (Cs l r).1.lim = -1 := by
 have h1 : -1 ≤ r.1.lim ∧ r.1.lim ≤ 100000 := by rw [h.lim]; decide
 unfold Cs at hc ⊢
 split
 ·rename_i hq
  rw [if_pos hq] at hc
  split
  ·rename_i ha
   rw [if_pos ha] at hc
   have hc : (atM l (r.2.i + 1)).2.2.1 = 0 := hc
   rw [hc] at ha
   cases ha
  rename_i ha
  obtain ⟨a, b, c⟩ := ur hw (show (atM l (r.2.i + 1)).2.2.1 = 0 by simpa using ha)
  exact ⟨⟨h.all, h.len, h.names, h1.1, h1.2, fun _ => a, b, c⟩, h.lim⟩
 refine ⟨⟨h.all, h.len, h.names, h1.1, h1.2, fun ha => ?_, by rw [h.whr]; kernel_rfl, by rw [h.whr]; decide⟩, h.lim⟩
 unfold Ej at ha
 rw [h.whr] at ha
 exact absurd ha (by decide)
theorem od {l : List Tok} (hw : ∀ i, WordOk (A4 l i)) (ht : ∀ i, Ky (A4 l i)) (hn : ∀ i, R1 (A4 l i)) {r : Qry × QS} (h : PdOk r.1) (hc : (Ck l r).2.code = 0) : PdOk (Ck l r).1 := by
 unfold Ck at hc ⊢
 split
 ·rename_i hq
  split
  ·exact h
  rename_i hk
  have hk : (A4 l (r.2.i + 1)).kind = 3 := by simpa using hk
  split
  ·exact h
  rename_i hl
  have h2 := ((hw (r.2.i + 1)).num hk).2.1
  rw [(ht (r.2.i + 1)).1 hk] at h2
  rw [hn (r.2.i + 1) hk] at hl ⊢
  have h2 : 0 ≤ (Ad (A4 l (r.2.i + 1)).text).1 := h2
  simp only [decide_eq_true_eq] at hl
  exact ⟨h.all, h.len, h.names, by show -1 ≤ (Ad _).1; omega, by show (Ad _).1 ≤ 100000; omega, h.tree, h.rng, h.need⟩
 exact h
theorem bo {l : List Tok} {s : Str} {S : QS} (hc : (Ei l s S).code = 0) : S.code = 0 := by
 unfold Ei at hc
 split at hc
 ·exact hc
 exact absurd hc (Dn (by decide) _)
theorem oe {l : List Tok} {S : QS} (hc : (bj l S).code = 0) : S.code = 0 := by
 unfold bj at hc
 split at hc
 ·exact absurd hc (Dn (by decide) _)
 exact hc
theorem Nj {s : Str} (h : (An s).2.1 = 0) : PdOk (An s).1 := by
 unfold An at h ⊢
 split
 ·rename_i h1
  rw [if_pos h1] at h
  have h : (A6 s).2.1 = 0 := h
  rw [h] at h1
  cases h1
 rename_i h1
 rw [if_neg h1] at h
 have hz : (A6 s).2.1 = 0 := by simpa using h1
 have hw := jh hz
 unfold Eo at h ⊢
 rw [dt] at h ⊢
 split
 ·rename_i h2
  rw [if_pos h2] at h
  have h : (s5Q (A6 s).1).code = 0 := h
  rw [show (((r3Q (A6 s).1).1, s5Q (A6 s).1) : Qry × QS).2.code = (s5Q (A6 s).1).code from rfl, h] at h2
  cases h2
 rename_i h2
 have c5 : (s5Q (A6 s).1).code = 0 := by simpa using h2
 have c3 : (r3Q (A6 s).1).2.code = 0 := bo (oe c5)
 have c2 : (r2Q (A6 s).1).2.code = 0 := bn c3
 have c1 : (r1Q (A6 s).1).2.code = 0 := bm c2
 exact od hw (dp hz) (dw hz) (oc hw (ob hw (r := (q0Q, s1Q (A6 s).1)) (MOk.mk rfl (show ([] : List Str).length ≤ 12 by decide) (fun s hs => nomatch (show s ∈ ([] : List Str) from hs)) rfl rfl) rfl c1) c2).1 c3
theorem Iy {s : Str} (h : (An s).2.1 = 0) : Ft (An s).1 = true := by
 have hp := Nj h
 unfold Ft
 rw [if_neg]
 ·rw [Bool.and_eq_true, List.all_eq_true]
  refine ⟨hp.names, ?_⟩
  cases ha : Ej (An s).1 with
  | false => rfl
  | true => rw [hp.tree ha]; rfl
 rw [hp.all]
 have h1 := hp.len
 have h2 := hp.lo
 have h3 := hp.hi
 simp only [bne_self_eq_false, Bool.false_or, Bool.or_eq_true, decide_eq_true_eq, not_or]
 omega
theorem V0 {s : Str} (h : (An s).2.1 = 0) (hl : (Cl (An s).1).length ≤ 4000) : An (Cl (An s).1) = ((An s).1, 0, 0) := by
 have hp := Nj h
 have hr := Iy h
 have hq := Ti hr
 obtain ⟨L, n, e, hL⟩ := jg (oa hq hp.rng) hl
 have hs : seg (L ++ [⟨0, [], n⟩]) 0 = ny (An s).1 ++ [(0, [])] := by
  unfold seg
  rw [List.drop_zero, List.map_append, hL]
  rfl
 have hpq : An (Cl (An s).1) = Eo (L ++ [⟨0, [], n⟩]) := by
  have : An (Cl (An s).1) = if (A6 (Cl (An s).1)).2.1 != 0 then (K2, (A6 (Cl (An s).1)).2.1, ((A6 (Cl (An s).1)).2.2 : Int)) else Eo (A6 (Cl (An s).1)).1 := rfl
  rw [this, e]
  rfl
 rw [hpq]
 exact Uz hq hp.rng jf hs hp.need
/-- The reference's parser. -/
abbrev pq (l : List Tok) (S : PS) : AObj := .cells 117 [.slice false 3 (l.map D0), A3 (S.i : Int), A3 (S.nest : Int), A3 S.code, A3 S.at_]
theorem Et {n : Nat} {l : List Tok} {S : PS} : ObjLow n (pq l S) := by
 show ∀ y ∈ [AV.slice false 3 (l.map D0), A3 (S.i : Int), A3 (S.nest : Int), A3 S.code, A3 S.at_], Low n y
 intro y hy
 simp only [List.mem_cons, List.not_mem_nil, or_false] at hy
 rcases hy with rfl | rfl | rfl | rfl | rfl
 ·simp [or_imp, forall_and]
 all_goals simp
/-- The contract of a level. -/
def PLv (l : List Tok) (n : Nat) (f : PS → Expr × PS) (k : Nat) : Prop := ∀ (o : Nat) (Hp : List AObj) (S : PS), Hp[o]? = some (pq l S) → S.i < l.length → S.nest = k → ACall Tryz.prog 86 [.ptr o 0, A3 (n : Int)] Hp (fun r H' => r = Af (f S).1 ∧ H' = Hp.set o (pq l (f S).2))
theorem c87 (l : List Tok) (S : PS) (e a : Int) (o : Nat) (Hp : List AObj) (ho : Hp[o]? = some (pq l S)) : ACall Tryz.prog 87 [.ptr o 0, A3 e, A3 a] Hp (fun r H' => r = J2 ∧ H' = Hp.set o (pq l (B4 e a S))) := by
 refine ACall.body [] [0, 1, 2] Tryz.func87 Tryz.ntmps87 (fun d => ?_)
 refine Z0 ?_;refine Z85 ?_;refine l5 ?_;refine R.fin [0, 1, 2, 11] ?_
 refine W.cond (fun ht11 => ?_) (fun ht11 => ?_)
 ·have e : B4 e a S = ⟨S.i, S.nest, e, a⟩ := if_pos ht11
  refine Z5 ?_;refine Z53 ?_;refine AAs ?_;refine R.fieldAddrPtr (fo := 3) jU Tryz.sizeOf33 ?_
  refine R.storeUp jS ho ?_ ?_
  ·simp
  exact Z48
 have e : B4 e a S = S := if_neg (by rw [ht11]; simp)
 exact Z67

theorem Y0 (l : List Tok) (S : PS) (s : Str) (o : Nat) (Hp : List AObj) (ho : Hp[o]? = some (pq l S)) (hi : S.i < l.length) : AFun Tryz.prog 116 [.ptr o 0, A7 s] Hp (Ao (isR l s S)) := by
 refine ACall.body [.tmp 4] [0, 1] Tryz.func116 Tryz.ntmps116 (fun d => ?_)
 refine Z1 ?_;refine Z66 ?_
 apply Y.q
 case h1 =>
  intro B hT hF
  exact l6
 case hTF => decide
 refine Yv ?_;refine R.fin [1, 5] ?_;refine Yu ?_;refine Rh ?_;refine Z92 ?_;refine G.eql ?_;refine Vq ?_;refine Z36 ?_;refine G.move ?_;refine G.seql ?_;refine Z39 ?_;exact xc

theorem ADx (l : List Tok) (S : PS) (n : Nat) (o : Nat) (Hp : List AObj) (ho : Hp[o]? = some (pq l S)) (hi : S.i < l.length) : AFun Tryz.prog 119 [.ptr o 0, A3 (n : Int)] Hp (Ao (X6 l n S)) := by
 refine ACall.body [.tmp 4] [0, 1] Tryz.func119 Tryz.ntmps119 (fun d => ?_)
 refine Z1 ?_;refine Z66 ?_
 apply Y.q
 case h1 =>
  intro B hT hF
  exact l6
 case hTF => decide
 refine Yv ?_;refine R.fin [1, 5] ?_;refine Yu ?_;refine Rh ?_;refine Z92 ?_;refine G.eql ?_;refine Vq ?_;refine Z36 ?_;refine G.call Tryz.call103 (fun hB => ADm (A4 l S.i).text _) ?_;refine G.move ?_;refine G.eql ?_;refine Z39 ?_;exact xc

theorem AC6 (l : List Tok) (S : PS) (s : Str) (o : Nat) (Hp : List AObj) (ho : Hp[o]? = some (pq l S)) (hi : S.i < l.length) (hll : l.length ≤ 1048576) : ACall Tryz.prog 146 [.ptr o 0, A7 s] Hp (fun r H' => r = J2 ∧ H' = Hp.set o (pq l (Ay l s S))) := by
 refine ACall.body [] [0, 1] Tryz.func146 Tryz.ntmps146 (fun d => ?_)
 refine U6 ?_;refine Yx ?_;refine R.fin [0, 1, 9] ?_
 refine W.cond (fun ht9 => ?_) (fun ht9 => ?_)
 ·have e : Ay l s S = S := if_pos ht9
  refine AW.ret ?_;exact zl
 have e0 : ¬ (S.code != 0) = true := by rw [ht9]; simp
 refine Z4 ?_;refine W.seq ?_;refine W.draw [0, 1, 3, 7, 0, 16, 48, 112, 255, 511, 1023, 2047, 4095, 8191, 16383, 32767, 65535, 8191, 139263, 401407, 925695, 2097151, 4194303, 8388607, 8191, 33554431, 67108863] 25 Ae (by kernel_rfl) ?_;refine kw ?_;refine D.fieldAddrRo (off := 0) jU Tryz.sizeOf3 ?_;refine D.loadRo jA ?_;refine D.neq ?_;refine D.move ?_;refine xi ?_;refine H.loadUp jA ho ?_;refine xj ?_;refine AAn ?_;refine qi ?_;refine H.move ?_;refine D.tail ?_;refine G.sneq ?_;refine H7 ?_;refine R.fin [0, 36] ?_
 refine W.cond (fun ht36 => ?_) (fun ht36 => ?_)
 ·have e : Ay l s S = B4 8 (A4 l S.i).at_ S := by unfold Ay; rw [if_neg e0, if_pos ht36]
  refine W.draw [0, 0, 2, 6, 14, 0, 32, 96, 224, 510, 1022, 2046, 4095] 12 Ae (by kernel_rfl) ?_;refine D.move ?_;refine kw ?_;refine xf ?_;refine D.tail ?_;refine AB9 ?_;refine Rf ?_;exact zl
 have e : Ay l s S = A2 S := by unfold Ay; rw [if_neg e0, if_neg (by rw [ht36]; simp)]
 refine Z4 ?_;refine Vx ?_;refine Z87 ?_
 refine R.storeUp jS ho ?_ ?_
 ·simp
 exact Z48

theorem og (l : List Tok) (S : PS) (a : Int) (n : Nat) (f : PS → Expr × PS) (o : Nat) (Hp : List AObj) (ho : Hp[o]? = some (pq l S)) (hi : S.i < l.length) (hn : S.nest ≤ 30) (hf : S.nest < 30 → Bb l (S.nest + 1) f) (hcf : S.nest < 30 → PLv l n f (S.nest + 1)) : ACall Tryz.prog 117 [.ptr o 0, A3 a, A3 (n : Int)] Hp (fun r H' => r = Af (inR a f S).1 ∧ H' = Hp.set o (pq l (inR a f S).2)) := by
 refine ACall.body [.cell 6 28] [0, 1, 2] Tryz.func117 Tryz.ntmps117 (fun d => ?_)
 refine r7 ?_;refine U6 ?_;refine Yx ?_;refine Z14 ?_;refine G.nilPtr ?_;refine G.fieldAddrPtr (fo := 2) jU Tryz.sizeOf3 ?_;refine G.loadUp jA ho ?_;refine G.geq ?_;refine H7 ?_;refine R.fin [0, 1, 2, 6, 20] ?_
 refine W.cond (fun ht20 => ?_) (fun ht20 => ?_)
 ·have e : inR a f S = (Aj, B4 18 a S) := if_pos ht20
  refine Z31 ?_;refine R.callUp Tryz.call87 ho (by simp) Et (c87 l S 18 a o _ (Ab ho)) ?_;refine R.fin [6] ?_;refine Z26 ?_;refine R.wk 24 _ Eh ?_;refine Yz ?_;refine K.thR ?_;exact K.fin (V.one (V.cellN jA jS)) ⟨by rw [e]; simp only [A8], by rw [e]⟩ (hlow := by have := Ag Hp.length Aj; simpa only [A8, List.length_set] using this)
 have e : inR a f S = ((f (Al S)).1, Do (f (Al S)).2) := if_neg (by rw [ht20]; simp)
 have h30 : S.nest < 30 := by simp only [Bool.or_eq_false_iff, decide_eq_false_iff_not] at ht20; omega
 have hq := hf h30 (Al S) hi rfl
 have hn1 : (f (Al S)).2.nest = S.nest + 1 := hq.nest
 refine Zh ?_;refine Z58 ?_;refine R.loadUp jA ho ?_;refine R.add64 ?_;refine Z58 ?_
 refine R.storeUp jS ho ?_ ?_
 ·simp
 refine R.fin [0, 2, 6] ?_;refine Z31 ?_;refine R.callUp Tryz.call86 (Aa ho) (by simp) Et (hcf h30 o _ (Al S) (Ab (Aa ho)) hi rfl) ?_;refine Z10 ?_;refine R.fin [0, 6, 7] ?_;refine Z31 ?_;refine Z58 ?_;refine R.loadUp jA (Aa (Aa ho)) ?_
 rw [hn1]
 refine R.sub64 ?_;refine Z58 ?_
 refine R.storeUp jS (Aa (Aa ho)) ?_ ?_
 ·simp
 refine R.fin [6, 7] ?_;refine B9 ?_
 rw [show (((S.nest + 1 : Nat) : Int) - 1) = ((Do (f (Al S)).2).nest : Int) by show _ = (((f (Al S)).2.nest - 1 : Nat) : Int); rw [hn1]; omega]
 refine Kr ?_;refine Yz ?_;exact K.fin (V.one (V.cellN jA jS)) ⟨by rw [e]; simp only [A8], by rw [e]; simp only [List.set_set]; rfl⟩ (hlow := by have := Ag Hp.length (f (Al S)).1; simpa only [A8, List.length_set] using this)

theorem c86 (l : List Tok) (S : PS) (n : Nat) (hn7 : n ≤ 7) (Dl : Nat → PS → Expr × PS) (f : PS → Expr × PS) (o : Nat) (Hp : List AObj) (ho : Hp[o]? = some (pq l S)) (hi : S.i < l.length) (hl : TokEnd l) (hll : l.length ≤ 1048576) (hn : S.nest ≤ 30) (hD : S.nest < 30 → ∀ j, j ≤ 7 → Bb l (S.nest + 1) (Dl j) ∧ PLv l j (Dl j) (S.nest + 1)) (hf : Bb l S.nest f) (hcf : n < 7 → PLv l (n + 1) f S.nest) (hat : ∀ (o : Nat) (Hp : List AObj), Hp[o]? = some (pq l S) → S.code = 0 → ACall Tryz.prog 118 [.ptr o 0] Hp (fun r H' => r = Af (Cp l (Dl 0) S).1 ∧ H' = Hp.set o (pq l (Cp l (Dl 0) S).2))) : ACall Tryz.prog 86 [.ptr o 0, A3 (n : Int)] Hp (fun r H' => r = Af (lvS l Dl n f S).1 ∧ H' = Hp.set o (pq l (lvS l Dl n f S).2)) := by
 refine ACall.body [.cell 4 28] [0, 1] Tryz.func86 Tryz.ntmps86 (fun d => ?_)
 refine Z28 ?_;refine R.fin [0, 1, 4] ?_;refine U6 ?_;refine Yx ?_;refine R.fin [0, 1, 4, 13] ?_
 refine W.cond (fun ht13 => ?_) (fun ht13 => ?_)
 ·have e : lvS l Dl n f S = (Aj, S) := if_pos ht13
  refine Z26 ?_;refine R.wk 14 _ Eh ?_;refine gw ?_;exact K.fin (V.one (V.cellN jA jS)) ⟨by rw [e]; simp only [A8], by rw [e]; exact (B5 ho).symm⟩ (hlow := by have := Ag Hp.length Aj; simpa only [A8, List.length_set] using this)
 have e0 : ¬ (S.code != 0) = true := by rw [ht13]; simp
 have hc0 : S.code = 0 := by simpa using ht13
 refine Z4 ?_;refine Z44 ?_;refine Z79 ?_;refine rc ?_;refine Z37 ?_;refine B3 ?_;refine R.fin [0, 1, 4, 5] ?_;refine Z8 ?_;refine U4 ?_;refine G.call Tryz.call116 (fun hB => Y0 l S Ip o _ (Ab ho) hi) ?_;refine F6 ?_;refine R.fin [0, 1, 4, 5, 31] ?_
 refine W.cond (fun ht31 => ?_) (fun ht31 => ?_)
 ·have hi1 : (A2 S).i < l.length := hl.step hi (F9 (Bool.and_eq_true_iff.1 ht31).2)
  have e : lvS l Dl n f S = (Bl 4 (inR (A4 l S.i).at_ (Dl 2) (A2 S)).1, (inR (A4 l S.i).at_ (Dl 2) (A2 S)).2) := by unfold lvS; rw [if_neg e0, if_pos ht31]
  refine Ri ?_
  refine R.storeUp jS ho ?_ ?_
  ·simp
  refine R.fin [0, 4, 5] ?_;refine Z31 ?_;refine R.callUp Tryz.call117 (Aa ho) (by simp) Et (og l (A2 S) (A4 l S.i).at_ 2 (Dl 2) o _ (Ab (Aa ho)) hi1 hn (fun h => (hD h 2 (by decide)).1) (fun h => (hD h 2 (by decide)).2)) ?_;refine Z86 ?_;refine gw ?_;exact K.fin (V.one (V.cellN jA jS)) ⟨by rw [e, Hu]; simp only [A8], by rw [e, List.set_set]⟩ (hlow := by have := Ag Hp.length (Bl 4 (inR (A4 l S.i).at_ (Dl 2) (A2 S)).1); rw [Hu] at this; simp only [A8] at this; simpa only [List.length_set] using this)
 have e1 : ¬ (((n : Int) == 2) && isR l Ip S) = true := by rw [ht31]; simp
 refine Vy ?_;refine U4 ?_;refine G.call Tryz.call116 (fun hB => Y0 l S Ju o _ (Ab ho) hi) ?_;refine F6 ?_;refine R.fin [0, 1, 4, 5, 49] ?_
 refine W.cond (fun ht49 => ?_) (fun ht49 => ?_)
 ·have hi1 : (A2 S).i < l.length := hl.step hi (F9 (Bool.and_eq_true_iff.1 ht49).2)
  have e : lvS l Dl n f S = (Bl 3 (inR (A4 l S.i).at_ (Dl 6) (A2 S)).1, (inR (A4 l S.i).at_ (Dl 6) (A2 S)).2) := by unfold lvS; rw [if_neg e0, if_neg e1, if_pos ht49]
  refine Ri ?_
  refine R.storeUp jS ho ?_ ?_
  ·simp
  refine R.fin [0, 4, 5] ?_;refine Z31 ?_;refine R.callUp Tryz.call117 (Aa ho) (by simp) Et (og l (A2 S) (A4 l S.i).at_ 6 (Dl 6) o _ (Ab (Aa ho)) hi1 hn (fun h => (hD h 6 (by decide)).1) (fun h => (hD h 6 (by decide)).2)) ?_;refine Z86 ?_;refine gw ?_;exact K.fin (V.one (V.cellN jA jS)) ⟨by rw [e, Hu]; simp only [A8], by rw [e, List.set_set]⟩ (hlow := by have := Ag Hp.length (Bl 3 (inR (A4 l S.i).at_ (Dl 6) (A2 S)).1); rw [Hu] at this; simp only [A8] at this; simpa only [List.length_set] using this)
 have e2 : ¬ (((n : Int) == 6) && isR l Ju S) = true := by rw [ht49]; simp
 refine Vy ?_;refine R.eql ?_;refine R.fin [0, 1, 4, 63] ?_
 refine W.cond (fun ht63 => ?_) (fun ht63 => ?_)
 ·have e : lvS l Dl n f S = Cp l (Dl 0) S := by unfold lvS; rw [if_neg e0, if_neg e1, if_neg e2, if_pos ht63]
  refine Z0 ?_;refine R.callUp Tryz.call118 ho (by simp) Et (hat o _ (Ab ho) hc0) ?_;refine gw ?_;exact K.fin (V.one (V.cellN jA jS)) ⟨by rw [e]; simp only [A8], by rw [e]⟩ (hlow := by have := Ag Hp.length (Cp l (Dl 0) S).1; simpa only [A8, List.length_set] using this)
 have e : lvS l Dl n f S = Hi l n f l.length (f S) := by unfold lvS; rw [if_neg e0, if_neg e1, if_neg e2, if_neg (by rw [ht63]; simp)]
 have hn8 : n < 7 := by rw [beq_eq_false_iff_ne] at ht63; omega
 refine Zh ?_;refine R.add64 ?_;refine R.callUp Tryz.call86 ho (by simp) Et (hcf hn8 o _ S (Ab ho) hi rfl) ?_;refine Z10 ?_;refine R.fin [0, 1, 4, 6] ?_;refine W.seq ?_
 refine AW.loopC (α := Expr × PS) (fun r => ⟨119, A5 0 (.ptr o 0) (A5 1 (A3 (n : Int)) (A5 4 (.ptr (oid Hp.length 0) 0) (A5 6 (.ptr (oid Hp.length 1) 0) (fun _ => .any)))), Hp.set o (pq l r.2), [.cells 28 [A3 0, A7 [], A3 0, A3 0, A7 [], .nil], .cells 28 (Cw r.1)], [], none⟩) (fun r => LoopAt l n f S r) (fun r => l.length - r.2.i) (f S) (.start (hf S hi rfl)) (StLe.of_eq (by simp)) rfl (fun r hx => ?_)
 refine qw ?_;refine U4 ?_;refine G.neq ?_;refine U5 ?_;refine G.neq ?_;refine F6 ?_;refine Pd ?_;refine G.call Tryz.call119 (fun hB => ADx l r.2 n o _ (Ab (Aa ho)) hx.fact.lt) ?_;refine F6 ?_;refine R.fin [0, 1, 4, 6, 88] ?_
 refine W.cond (fun ht88 => ?_) (fun ht88 => ?_)
 ·have hon := hx.on hl ht88 hf
  have hle := hon.2.1.le
  have hlt0 := hx.fact.lt
  refine Pe ?_;refine W.drawY [0, 1, 3, 7, 0, 16, 48, 112, 255, 511, 0, 2047] [] [.q 10 [] [], .s [7] none [] [], .s [7] none [] []] (fun _ => Hp.set o (pq l r.2)) (fun _ => [.cells 28 [A3 0, A7 [], A3 0, A3 0, A7 [], .nil], .cells 28 (Cw r.1)]) Ae (by kernel_rfl) rfl rfl (fun _ => rfl) ?_
  apply Y.q
  case h1 =>
   intro B hT hF
   refine Z16 ?_;refine D.loadUp jA (Aa ho) ?_;refine Z12 ?_;refine D.loadUp jA (Aa ho) ?_;refine D.indexAddr (r.2.i) (D0 (A4 l r.2.i)) jU jS (Fm hx.fact.lt) ?_;exact wm
  case hTF => decide
  refine Yv ?_;refine R.fin [0, 1, 4, 6, 7] ?_;refine Vn ?_;refine ku ?_
  refine R.storeUp jS (Aa ho) ?_ ?_
  ·simp
  refine R.fin [0, 1, 4, 6, 7] ?_
  refine W.drawY [0, 1, 0, 0, 0, 16, 56, 124, 255, 511] [6] [.q 6 [] [], .s [112] (some 0) [] [], .q 1 [0] []] (fun B => Hp.set o (if B 0 = true then pq l (f (A2 r.2)).2 else pq l (A2 r.2))) (fun _ => [.cells 28 [A3 0, A7 [], A3 0, A3 0, A7 [], .nil], .cells 28 (Cw r.1)]) Ae (by kernel_rfl) (by simp only [Bool.false_eq_true, if_false, List.set_set]; rfl) rfl (fun B => by simp) ?_
  apply Y.q
  case h1 =>
   intro B hT hF
   refine Z54 ?_;refine Rl ?_;refine U3 ?_;refine D.add64 ?_;exact Jj
  case hTF => decide
  refine Y.callUp (r := Af (f (A2 r.2)).1) (o := o) (x0 := pq l (A2 r.2)) (x := pq l (f (A2 r.2)).2) Tryz.call86 (fun B hT hF hB => ⟨by simp only [hB]; exact Aa ho, by simp [upd], rfl, Et, ?_⟩) ?_
  ·simp only [hB]
   exact hcf hn8 o _ (A2 r.2) (Ab (Aa ho)) hon.1 hx.fact.nest
  apply Y.q
  case h1 =>
   intro B hT hF
   exact Z70
  case hTF => decide
  refine Y.tail (tn := [6]) (U := Hp.set o (pq l (f (A2 r.2)).2)) ?_;refine AA3 ?_;refine R.fin [0, 1, 4, 6] ?_;refine Z0 ?_;refine R.eql ?_;refine R.fin [0, 1, 4, 6, 116] ?_
  refine W.cond (fun ht116 => ?_) (fun ht116 => ?_)
  ·have hres := hon.2.2.2.1 ht116
   refine Z20 ?_;refine Z89 ?_;refine gr ?_;refine K.thR ?_;exact K.fin (V.one (V.cellN jA jS)) ⟨by rw [e, hres, Oo]; simp only [A8], by rw [e, hres]⟩ (hlow := by have := Ag Hp.length (Bu (A4 l r.2.i).text r.1 (f (A2 r.2)).1); rw [Oo] at this; simp only [A8] at this; simpa only [List.length_set] using this)
  have hnx := hon.2.2.2.2 ht116
  refine W.keep [0, 1, 4, 6] ?_;refine AW.skip ?_;refine K.blN ?_
  refine K.lpN (Bu (A4 l r.2.i).text r.1 (f (A2 r.2)).1, (f (A2 r.2)).2) hnx (by show l.length - (f (A2 r.2)).2.i < l.length - r.2.i; have : r.2.i + 1 ≤ (f (A2 r.2)).2.i := hle; omega) ?_
  exact StCut.of_eq (by simp only [Sm, A8] <;> rfl)
 have hout := hx.out ht88
 refine Z81 ?_;refine Z20 ?_;refine Z89 ?_;exact K.fin (V.one (V.cellN jA jS)) ⟨by rw [e, hout]; simp only [A8], by rw [e, hout]⟩ (hlow := by have := Ag Hp.length r.1; simpa only [A8, List.length_set] using this)

set_option maxRecDepth 8000
/-! What the signs of bits tell. -/
theorem ji {a : Int} (a0 : -9223372036854775808 ≤ a) (a1 : a ≤ 9223372036854775807) : Sz a = (a.natAbs : Int) := by
 have h1 := IntKind.wrap_u64 a
 have h2 := IntKind.wrap_u64 (0 - IntKind.u64.wrap a)
 unfold Sz
 split
 ·rename_i h
  have h : a < 0 := by simpa using h
  omega
 rename_i h
 have h : ¬ a < 0 := by simpa using h
 omega
/-! Sizes in digits to the base of 2^32. -/
abbrev B32 : Nat := 4294967296
def dig (m i : Nat) : Nat := m / B32 ^ i % B32
theorem B2 (m i : Nat) : dig m i < 4294967296 := Nat.mod_lt _ (by decide)
theorem pw (i : Nat) : 0 < B32 ^ i := Nat.pow_pos (by decide)
theorem Hq (m i : Nat) : m % B32 ^ (i + 1) = m % B32 ^ i + B32 ^ i * dig m i := Nat.mod_pow_succ
theorem Mm (m i : Nat) : m / B32 ^ (i + 1) = m / B32 ^ i / B32 := by rw [Nat.pow_succ, Nat.div_div_eq_div_mul]
def car (a b i : Nat) : Nat := (a % B32 ^ i + b % B32 ^ i) / B32 ^ i
theorem oh (a b : Nat) : car a b 0 = 0 := by simp [car, Nat.mod_one]
theorem oi (a b i : Nat) : car a b i ≤ 1 := by
 have h1 := Nat.mod_lt a (pw i)
 have h2 := Nat.mod_lt b (pw i)
 have : car a b i < 2 := by
  unfold car
  rw [Nat.div_lt_iff_lt_mul (pw i)]
  omega
 omega
theorem ol (P x y da db : Nat) (hP : 0 < P) : (da + db + (x + y) / P) / B32 = (x + P * da + (y + P * db)) / (P * B32) := by
 have e : x + P * da + (y + P * db) = (x + y) + P * (da + db) := by rw [Nat.mul_add]; omega
 rw [e, ← Nat.div_div_eq_div_mul, Nat.add_mul_div_left _ _ hP, Nat.add_comm]
theorem om (a b i : Nat) : (dig a i + dig b i + car a b i) / 4294967296 = car a b (i + 1) := by
 unfold car
 rw [Hq, Hq, Nat.pow_succ]
 exact ol _ _ _ _ _ (pw i)
theorem ut (P a b : Nat) (hP : 0 < P) : (a + b) / P = a / P + b / P + (a % P + b % P) / P := by
 have ha := Nat.mod_add_div a P
 have hb := Nat.mod_add_div b P
 have e : a + b = (a % P + b % P) + P * (a / P + b / P) := by rw [Nat.mul_add]; omega
 calc (a + b) / P = ((a % P + b % P) + P * (a / P + b / P)) / P := by rw [← e]
  _ = (a % P + b % P) / P + (a / P + b / P) := Nat.add_mul_div_left _ _ hP
  _ = _ := Nat.add_comm _ _
theorem uu (a b i : Nat) : (dig a i + dig b i + car a b i) % 4294967296 = dig (a + b) i := by
 unfold dig
 rw [ut _ a b (pw i)]
 unfold car
 generalize (a % B32 ^ i + b % B32 ^ i) / B32 ^ i = c
 generalize a / B32 ^ i = x
 generalize b / B32 ^ i = y
 show (x % 4294967296 + y % 4294967296 + c) % 4294967296 = (x + y + c) % 4294967296
 omega
def bor (a b i : Nat) : Nat := if a % B32 ^ i < b % B32 ^ i then 1 else 0
theorem Y1 (a b : Nat) : bor a b 0 = 0 := by simp [bor, Nat.mod_one]
theorem bp (a b i : Nat) : bor a b i ≤ 1 := by unfold bor; split <;> omega
theorem jj (P x y da db : Nat) (hx : x < P) (hy : y < P) : (x + P * da < y + P * db) ↔ (da < db ∨ (da = db ∧ x < y)) := by
 constructor
 ·intro h
  rcases Nat.lt_trichotomy da db with h1 | h1 | h1
  ·exact .inl h1
  ·subst h1; exact .inr ⟨rfl, by omega⟩
  exfalso
  have : P * (db + 1) ≤ P * da := Nat.mul_le_mul_left P h1
  rw [Nat.mul_add] at this
  omega
 rintro (h | ⟨rfl, h⟩)
 ·have : P * (da + 1) ≤ P * db := Nat.mul_le_mul_left P h
  rw [Nat.mul_add] at this
  omega
 omega
theorem Y2 (a b i : Nat) : 1 - (4294967296 + dig a i - dig b i - bor a b i) / 4294967296 = bor a b (i + 1) := by
 have hd := jj (B32 ^ i) (a % B32 ^ i) (b % B32 ^ i) (dig a i) (dig b i) (Nat.mod_lt _ (pw i)) (Nat.mod_lt _ (pw i))
 have h1 := B2 a i
 have h2 := B2 b i
 have hb : bor a b (i + 1) = if (dig a i < dig b i ∨ (dig a i = dig b i ∧ a % B32 ^ i < b % B32 ^ i)) then 1 else 0 := by
  unfold bor
  rw [Hq, Hq]
  by_cases h : a % B32 ^ i + B32 ^ i * dig a i < b % B32 ^ i + B32 ^ i * dig b i
  ·rw [if_pos h, if_pos (hd.1 h)]
  rw [if_neg h, if_neg fun h' => h (hd.2 h')]
 rw [hb]
 unfold bor
 by_cases hlt : a % B32 ^ i < b % B32 ^ i
 ·rw [if_pos hlt]
  by_cases hc : dig a i < dig b i ∨ dig a i = dig b i ∧ a % B32 ^ i < b % B32 ^ i
  ·rw [if_pos hc]
   have : dig a i ≤ dig b i := by rcases hc with h | h; omega; omega
   omega
  rw [if_neg hc]
  have : dig b i < dig a i := by
   rcases Nat.lt_trichotomy (dig a i) (dig b i) with h | h | h
   ·exact absurd (.inl h) hc
   ·exact absurd (.inr ⟨h, hlt⟩) hc
   exact h
  omega
 rw [if_neg hlt]
 by_cases hc : dig a i < dig b i ∨ dig a i = dig b i ∧ a % B32 ^ i < b % B32 ^ i
 ·rw [if_pos hc]
  have : dig a i < dig b i := by
   rcases hc with h | h
   ·exact h
   exact absurd h.2 hlt
  omega
 rw [if_neg hc]
 have : dig b i ≤ dig a i := by
  rcases Nat.lt_or_ge (dig a i) (dig b i) with h | h
  ·exact absurd (.inl h) hc
  exact h
 omega
theorem uv (P a b : Nat) (hP : 0 < P) (h : b ≤ a) : (a - b) / P + (if a % P < b % P then 1 else 0) + b / P = a / P := by
 have ha := Nat.mod_add_div a P
 have hb := Nat.mod_add_div b P
 have hm1 := Nat.mod_lt a hP
 have hm2 := Nat.mod_lt b hP
 have hq : b / P ≤ a / P := Nat.div_le_div_right h
 obtain ⟨t, ht⟩ : ∃ t, a / P = b / P + t := ⟨a / P - b / P, by omega⟩
 rw [ht, Nat.mul_add] at ha
 by_cases hlt : a % P < b % P
 ·rw [if_pos hlt]
  cases t with
  | zero => rw [Nat.mul_zero] at ha; omega
  | succ t =>
   rw [Nat.mul_add, Nat.mul_one] at ha
   have e : a - b = (P + a % P - b % P) + P * t := by omega
   rw [e, Nat.add_mul_div_left _ _ hP, Nat.div_eq_of_lt (by omega), ht]
   omega
 rw [if_neg hlt]
 have e : a - b = (a % P - b % P) + P * t := by omega
 rw [e, Nat.add_mul_div_left _ _ hP, Nat.div_eq_of_lt (by omega), ht]
 omega
theorem ea {a b : Nat} (h : b ≤ a) (i : Nat) : (4294967296 + dig a i - dig b i - bor a b i) % 4294967296 = dig (a - b) i := by
 have hd := uv (B32 ^ i) a b (pw i) h
 have hb := bp a b i
 unfold bor at hb ⊢
 unfold dig
 generalize (if a % B32 ^ i < b % B32 ^ i then 1 else 0) = c at *
 generalize (a - b) / B32 ^ i = z at *
 generalize a / B32 ^ i = x at *
 generalize b / B32 ^ i = y at *
 show (4294967296 + x % 4294967296 - y % 4294967296 - c) % 4294967296 = z % 4294967296
 omega
/-- Which of two sizes is smaller, digit by digit from above. -/
theorem uw {a b n : Nat} (h : a / B32 ^ (n + 1) = b / B32 ^ (n + 1)) (hd : dig a n ≠ dig b n) : decide (a < b) = decide (dig a n < dig b n) := by
 rw [Mm, Mm] at h
 have e : a / B32 ^ n < b / B32 ^ n ↔ dig a n < dig b n := by
  unfold dig at hd ⊢
  generalize a / B32 ^ n = x at *
  generalize b / B32 ^ n = y at *
  have h' : x / 4294967296 = y / 4294967296 := h
  show x < y ↔ x % 4294967296 < y % 4294967296
  omega
 have hne : a / B32 ^ n ≠ b / B32 ^ n := fun e' => hd (by unfold dig; rw [e'])
 rw [decide_eq_decide, ← e]
 constructor
 ·intro hl
  have := Nat.div_le_div_right (c := B32 ^ n) (Nat.le_of_lt hl)
  omega
 intro hl
 rcases Nat.lt_or_ge a b with h1 | h1
 ·exact h1
 have := Nat.div_le_div_right (c := B32 ^ n) h1
 omega
theorem jk {a b n : Nat} (h : a / B32 ^ (n + 1) = b / B32 ^ (n + 1)) (hd : dig a n = dig b n) : a / B32 ^ n = b / B32 ^ n := by
 rw [Mm, Mm] at h
 unfold dig at hd
 generalize a / B32 ^ n = x at *
 generalize b / B32 ^ n = y at *
 have h' : x / 4294967296 = y / 4294967296 := h
 have hd' : x % 4294967296 = y % 4294967296 := hd
 omega
set_option maxRecDepth 4000
theorem Mn {k : List Expr} {i : Nat} (h : i < k.length) : (k.map Af)[i]? = some (Af (k.getD i Aj)) ∧ k.getD i Aj ∈ k ∧ ∀ (f : Expr → Rs) (d : Rs), (k.map f).getD i d = f (k.getD i Aj) := by
 have e : k.getD i Aj = k[i] := by rw [List.getD_eq_getElem?_getD, List.getElem?_eq_getElem h]; rfl
 rw [e]
 refine ⟨by simp [h], List.getElem_mem h, fun f d => ?_⟩
 rw [List.getD_eq_getElem?_getD, List.getElem?_map, List.getElem?_eq_getElem h]
 rfl
theorem oo {e : Expr} (h : Bk e = true) : (e.op = 5 → e.kids.length = 2) ∧ (e.op = 3 ∨ e.op = 4 → e.kids.length = 1) ∧ (e.op = 6 → B7 e.text = (e.kids.length : Int)) ∧ (e.op = 1 ∨ e.op = 2 ∨ e.op = 3 ∨ e.op = 4 ∨ e.op = 5 ∨ e.op = 6) := by
 cases Fq h with
 | val v hp h0 => simp [Co, Expr.op]
 | name t ht => simp [D6, Expr.op]
 | neg a => simp [Bl, Expr.op, Expr.kids]
 | no a => simp [Bl, Expr.op, Expr.kids]
 | bin t a b ht => simp [Bu, Expr.op, Expr.kids]
 | call t k ht => simpa [Expr.op, Expr.kids, Expr.text] using ht
def Lk (s : Str) : Int := if s == [111, 114] then 0 else if s == [97, 110, 100] then 1 else if (((((s == [61]) || (s == [33, 61])) || (s == [60])) || (s == [60, 61])) || (s == [62])) || (s == [62, 61]) then 3 else if ((s == [43]) || (s == [45])) || (s == [38]) then 4 else if ((s == [42]) || (s == [47])) || (s == [37]) then 5 else 7
theorem jl (s : Str) : Lk s = if 0 ≤ Ak s then Ak s else 7 := by
 by_cases hf : s ∈ levels.flatten
 ·have h3 : (levels.flatten.all fun s => decide (Lk s = if 0 ≤ Ak s then Ak s else 7)) = true := by kernel_rfl
  exact of_decide_eq_true (List.all_eq_true.1 h3 s hf)
 have hn := hf
 have h : Ak s = -1 := by
  rcases Gf s with h | ⟨h, _⟩
  ·exact absurd h hf
  exact h
 rw [h]
 simp only [levels, List.flatten_cons, List.flatten_nil, List.append_nil, List.cons_append, List.nil_append, List.mem_cons, List.not_mem_nil, or_false, not_or] at hn
 obtain ⟨a1, a2, a3, a4, a5, a6, a7, a8, a9, b1, b2, b3, b4, b5⟩ := hn
 simp [Lk, *]
/-- The level of a node. -/
def bq (e : Expr) : Int := if e.op == 4 then 2 else if e.op == 3 then 6 else if e.op == 5 then Lk e.text else 7
theorem ee {e : Expr} (h : Bk e = true) : bq e = (levE e : Int) := by
 unfold bq levE
 split
 ·rfl
 split
 ·rfl
 split
 ·rename_i h5
  have hb : 0 ≤ Ak e.text := by
   have h5' : e.op = 5 := by simpa using h5
   rw [Gb] at h
   unfold M1 at h
   simp [h5'] at h
   exact h.2.1
  rw [jl, if_pos hb]
  omega
 rfl
theorem ADy (s : Str) (Hp : List AObj) : AFun Tryz.prog 122 [A7 s] Hp (A3 (Lk s)) := by
 refine ACall.body [.tmp 2] [0] Tryz.func122 Tryz.ntmps122 (fun d => ?_)
 refine Lq ?_;refine Z8 ?_;refine R.fin [3] ?_;refine AW.block ?_;refine Z45 ?_;refine R.fin [3, 4] ?_
 refine W.cond (fun ht4 => ?_) (fun ht4 => ?_)
 ·exact l9
 refine Z45 ?_;refine R.fin [3, 6] ?_
 refine W.cond (fun ht6 => ?_) (fun ht6 => ?_)
 ·exact l9
 refine W.join ⟨23, A5 3 (A7 s) (A5 8 (Ao ((((((s == [61]) || (s == [33, 61])) || (s == [60])) || (s == [60, 61])) || (s == [62])) || (s == [62, 61]))) (fun _ => .any)), Hp, [], [], none⟩ ?_ ?_
 ·refine la ?_
  refine W.cond (fun ht8 => ?_) (fun ht8 => ?_)
  ·exact kv
  refine la ?_
  refine W.cond (fun ht8 => ?_) (fun ht8 => ?_)
  ·exact kv
  refine la ?_
  refine W.cond (fun ht8 => ?_) (fun ht8 => ?_)
  ·exact kv
  refine la ?_
  refine W.cond (fun ht8 => ?_) (fun ht8 => ?_)
  ·exact kv
  refine la ?_
  refine W.cond (fun ht8 => ?_) (fun ht8 => ?_)
  ·exact kv
  refine H8 ?_;refine Z21 ?_;refine R.fin [3, 8] ?_;exact xh
 refine W.cond (fun ht8 => ?_) (fun ht8 => ?_)
 ·exact l9
 refine W.join ⟨23, A5 3 (A7 s) (A5 15 (Ao (((s == [43]) || (s == [45])) || (s == [38]))) (fun _ => .any)), Hp, [], [], none⟩ ?_ ?_
 ·refine Z45 ?_;refine R.fin [3, 15] ?_
  refine W.cond (fun ht15 => ?_) (fun ht15 => ?_)
  ·refine W.keep [3, 15] ?_;exact Z82
  refine Z45 ?_;refine R.fin [3, 15] ?_
  refine W.cond (fun ht15 => ?_) (fun ht15 => ?_)
  ·refine W.keep [3, 15] ?_;exact Z82
  refine H8 ?_;refine Z21 ?_;refine R.fin [3, 15] ?_;exact xh
 refine W.cond (fun ht15 => ?_) (fun ht15 => ?_)
 ·exact l9
 refine W.join ⟨23, A5 19 (Ao (((s == [42]) || (s == [47])) || (s == [37]))) (fun _ => .any), Hp, [], [], none⟩ ?_ ?_
 ·refine Z45 ?_;refine R.fin [3, 19] ?_
  refine W.cond (fun ht19 => ?_) (fun ht19 => ?_)
  ·refine W.keep [19] ?_;exact Z82
  refine Z45 ?_;refine R.fin [3, 19] ?_
  refine W.cond (fun ht19 => ?_) (fun ht19 => ?_)
  ·refine W.keep [19] ?_;exact Z82
  refine H8 ?_;refine Z21 ?_;refine R.fin [19] ?_;exact xh
 refine W.cond (fun ht19 => ?_) (fun ht19 => ?_)
 ·exact l9
 refine Z34 ?_;refine Z24 ?_;exact K.fin (V.one V.tmp) ⟨by simp_all [Lk], rfl⟩

theorem c91 (e : Expr) (Hp : List AObj) : AFun Tryz.prog 91 [Af e] Hp (A3 (bq e)) := by
 refine ACall.body [.tmp 2] [0] Tryz.func91 Tryz.ntmps91 (fun d => ?_)
 refine gh ?_;refine Z29 ?_;refine Z13 ?_;refine R.fin [1, 4] ?_;refine li ?_;refine R.fin [1, 4, 5] ?_
 refine W.cond (fun ht5 => ?_) (fun ht5 => ?_)
 ·refine Z24 ?_;exact x6
 refine Z73 ?_;refine R.fin [1, 4, 7] ?_
 refine W.cond (fun ht7 => ?_) (fun ht7 => ?_)
 ·refine Z24 ?_;exact x6
 refine Z73 ?_;refine R.fin [1, 9] ?_
 refine W.cond (fun ht9 => ?_) (fun ht9 => ?_)
 ·refine gm ?_;refine R.call Tryz.call122 (ADy e.text _) ?_;refine Z97 ?_;exact x6
 refine Z34 ?_;refine Z24 ?_;exact K.fin (V.one V.tmp) ⟨by simp_all [bq], rfl⟩

end Go.SX.Nb
namespace Go.Proofs
open Go.Shelf Go.RowKit

section
variable {P : Program} (w : World)

/-- Bytes behind a builder's bytes: what is handed back lies where it lay, or in the next block, or nowhere still. -/
theorem jm {t u ty e : TypeId} {i : TypeInfo} (ht : P.underlying t = some (.slice e)) (hu : P.underlying u = some .string) (hi : P.info? e = some i) (hz : i.zero = some (.int .u8 0)) (hsize : i.size = 1) (hby : i.bytes = 1)
  (v : Value) (n : Nat) (xs : List Value) (hown : w.ownsRow 0 e 1 v n xs) (s : ByteArray) (hb : n + s.size ≤ 140737488355328) :
  ∃ v' w', (Builtin.append_ #[t, u] ty #[v, .string s]).run P w = .ok v' w' ∧ w'.ownsRow 0 e 1 v' (n + s.size) (xs ++ Lib.strCells s) ∧ w.grownBy w' v'.ownBlock ∧
   ((v = .slice none 0 0 ∧ v' = v ∧ s.size = 0) ∨ (∃ g cap, v = .slice (some ⟨g, 0, none⟩) n cap ∧ v' = .slice (some ⟨g, 0, none⟩) (n + s.size) cap) ∨ ∃ cap, v' = .slice (some ⟨w.heap.size, 0, none⟩) (n + s.size) cap ∧ 0 < n + s.size) := by
 have h63 : n + s.size ≤ maxLen := by unfold maxLen; omega
 obtain ⟨v', w', hr, h1, h2, h3⟩ := Lib.run_append_own_string (P := P) w 0 t u ty e i ht hu hi hz hsize hby v n xs hown s h63 hb (Nat.zero_le _)
 have hxl : xs.length = n := by simpa using hown.1
 refine ⟨v', w', hr, h1, ?_⟩
 rcases hown.2 with ⟨rfl, rfl⟩ | ⟨g, cap, cur, rfl, hbg, hg, hnc, hcm, hcs, htake⟩
 ·by_cases hm : s.size = 0
  ·have e1 := h3.2 ⟨rfl, hm⟩
   exact ⟨by rw [e1]; exact h2, .inl ⟨rfl, e1, hm⟩⟩
  have hr2 := run_append_nil_string (P := P) w t u ty e i (.int .u8 0) ht hu hi hz s (by omega) (by omega) (by rw [hby]; omega)
  rw [hr] at hr2
  injection hr2 with e1 e2
  refine ⟨?_, .inr (.inr ⟨_, by rw [e1, Nat.zero_add], by omega⟩)⟩
  rw [e2]
  exact ⟨rfl, rfl, rfl, by simp, fun k hk _ => Lib.alloc_old w.drew _ k hk⟩
 by_cases hroom : n + s.size ≤ cap
 ·have hcs' : cur.size = cap := by simpa using hcs
  have hr2 := Lib.run_append_room_string (P := P) w t u ty e i ht hu hi hsize g n cap cur hg s hroom (by omega)
  rw [hr] at hr2
  injection hr2 with e1 e2
  exact ⟨by rw [e1]; exact h2, .inr (.inl ⟨g, cap, rfl, e1⟩)⟩
 have holds : ∀ j u, xs[j]? = some u → w.cell? ((⟨g, 0, none⟩ : Addr).add j) = some u := hown.cells (g := g) rfl
 have hr2 := Lib.run_append_grow_string (P := P) w t u ty e i (.int .u8 0) ht hu hi hz ⟨g, 0, none⟩ n cap xs (by rw [hsize]; simpa using hxl) holds s (by omega) (by omega) (by rw [hby]; exact growslice_fits (by omega) (by omega))
 rw [hr] at hr2
 injection hr2 with e1 e2
 refine ⟨?_, .inr (.inr ⟨_, e1, by omega⟩)⟩
 rw [e2]
 exact ⟨rfl, rfl, rfl, by simp, fun k hk _ => Lib.alloc_old w.drew _ k hk⟩
end

theorem Nk {P : Program} {w w' : World} {ops : Array Oper} {rest : List Oper} {o : Oper} {a : Act} {Q : Exit → Act → World → Prop} {v v' : Value} {s : ByteArray} (hgd : o.guard = none) (sl x : Operand) (t u ty : TypeId)
  (ho : o.op = .call { callee := .builtin .append, args := #[sl, x], argTypes := #[t, u] }) (hty : o.type = ty) (hs : a.eval sl = v) (hx : a.eval x = .string s) (hrun : (Builtin.append_ #[t, u] ty #[v, .string s]).run P w = .ok v' w')
  (h : wpList P ops Q rest (a.put o.dst v') w') : wpList P ops Q (o :: rest) a w := by
 refine wpList_plain hgd fun K hK => ?_
 subst hty
 unfold Oper.wp execOp
 simp only [ho, resolve, invoke, builtin, Sem.run_bind, Sem.run_pure, Result.andThen_ok, List.map_toArray, List.map_cons, List.map_nil, hs, hx, hrun]
 exact hK _ _ h

section
variable {P : Program} {ρ : Ren}

set_option maxHeartbeats 1000000 in
set_option maxRecDepth 100000 in
/-- The check of an unused builder within a block of type T. -/
theorem jn (L : Lays.n240 P ρ) (X : Builder.X72 P ρ) {T : TypeId} (hl : liesAt P P.depth T (2 / P.cellsOf T) 0 (ρ.t 72) 1 = true) (b : Nat) (w : World) (h0 : w.cell? ⟨b, 0, none⟩ = some (.pointer none)) (hsh : w.shape? b = some (T, 2)) (hfz : w.frozen? ⟨b, 0, none⟩ = false) :
  Calls P (ρ.f 240) #[.pointer (some ⟨b, 0, none⟩)] w fun e w' => e = .returned (.tuple #[]) ∧ w' = w.setCell ⟨b, 0, none⟩ (.pointer (some ⟨b, 0, none⟩)) := by
 obtain ⟨j, hj, hjs⟩ := Option.map_eq_some_iff.1 X.sizeBuilder
 have mixed := L.mixed
 have t72 := L.t72; have a72 := L.a72; have z72 := L.z72; have v72 := L.v72; have u72 := run_underlying L.t72
 have t70 := L.t70; have a70 := L.a70; have z70 := L.z70; have v70 := L.v70; have u70 := run_underlying L.t70
 have t9 := L.t9; have a9 := L.a9; have z9 := L.z9; have v9 := L.v9; have u9 := run_underlying L.t9
 have t4 := L.t4; have a4 := L.a4; have z4 := L.z4; have v4 := L.v4; have u4 := run_underlying L.t4
 have t164 := L.t164; have a164 := L.a164; have z164 := L.z164; have v164 := L.v164; have u164 := run_underlying L.t164
 go_enter L.f240, Body.n240_ntmps ρ
 go_wp2
 rw [Lib.run_to_unsafe w ⟨b, 0, none⟩ L.t70 L.t164 hj (by rw [hjs]; decide) hsh (Nat.zero_lt_succ 1)]
 simp only [Result.andThen]
 rw [Oper.upon_value]
 go_wp2
 rw [run_callFunc_extern L.f276 (by kernel_rfl) (by kernel_rfl) (by kernel_rfl) (e := Extern.AbiNoEscape.same) (by kernel_rfl)]
 rw [Lib.run_noEscape]
 simp only [Result.andThen]
 rw [Oper.upon_value]
 go_wp2
 rw [Lib.run_from_unsafe w ⟨b, 0, none⟩ L.t164 L.t70 hj hsh hl]
 simp only [Result.andThen]
 rw [Oper.upon_value]
 go_wp2
 go_end0
 exact ⟨rfl, rfl⟩

/-- The check: behind it the first cell holds the builder's own address; nothing else turns. -/
theorem ot (L : Lays.n240 P ρ) (X : Builder.X72 P ρ) {T e : TypeId} (hl : liesAt P P.depth T (2 / P.cellsOf T) 0 (ρ.t 72) 1 = true) (b : Nat) (p v : Value) (n : Nat) (bs : List Value) (w : World) (h : Jh T e b p v n bs w) :
  Calls P (ρ.f 240) #[.pointer (some ⟨b, 0, none⟩)] w fun e' w' => e' = .returned (.tuple #[]) ∧ Jh T e b (.pointer (some ⟨b, 0, none⟩)) v n bs w' ∧ w.grownBy w' (some b) ∧ w'.heap.size = w.heap.size := by
 obtain ⟨h1, hp, h3, h4⟩ := h
 rcases hp with rfl | rfl
 ·refine (jn L X hl b w (by rw [Lib.cell_of_heap h1]; rfl) (by simp [World.shape?, h1]) (Lib.frozen_of_heap h1 0)).mono ?_
  rintro e' w' ⟨rfl, rfl⟩
  have hgr : w.grownBy (w.setCell ⟨b, 0, none⟩ (.pointer (some ⟨b, 0, none⟩))) (some b) := ⟨rfl, rfl, rfl, by simp [World.setCell], fun k _ hk => Below.heap_setCell _ _ _ _ (fun e => hk (by simp [e]))⟩
  exact ⟨rfl, ⟨by simp [World.setCell, Array.getElem?_modify, h1], .inr rfl, h3.kept hgr (.inr h4), h4⟩, hgr, by simp [World.setCell]⟩
 refine (Any.Builder_copyCheck_used L X b w (by rw [Lib.cell_of_heap h1]; rfl)).mono ?_
 rintro e' w' ⟨rfl, rfl⟩
 exact ⟨rfl, ⟨h1, .inr rfl, h3, h4⟩, ⟨rfl, rfl, rfl, Nat.le_refl _, fun _ _ _ => rfl⟩, rfl⟩

set_option maxHeartbeats 1000000 in
set_option maxRecDepth 100000 in
/-- How many bytes there are. -/
theorem bldLen (L : Lays.n170 P ρ) {T e : TypeId} (b : Nat) (p v : Value) (n : Nat) (bs : List Value) (w : World) (h : Jh T e b p v n bs w) :
  Calls P (ρ.f 170) #[.pointer (some ⟨b, 0, none⟩)] w fun e' w' => e' = .returned (.int .i64 n) ∧ w' = w := by
 obtain ⟨h1, _, h3, _⟩ := h
 obtain ⟨ao, cap, rfl⟩ : ∃ ao cap, v = .slice ao n cap := by
  rcases h3.2 with ⟨hv, h0⟩ | ⟨g, cap, cur, hv, _⟩
  ·exact ⟨none, 0, by rw [hv, h0]⟩
  exact ⟨_, _, hv⟩
 have c1 : w.cell? ⟨b, 1, none⟩ = some (.slice ao n cap) := by rw [Lib.cell_of_heap h1]; rfl
 have mixed := L.mixed
 have t72 := L.t72; have a72 := L.a72; have z72 := L.z72; have v72 := L.v72; have u72 := run_underlying L.t72
 have t70 := L.t70; have a70 := L.a70; have z70 := L.z70; have v70 := L.v70; have u70 := run_underlying L.t70
 have t37 := L.t37; have a37 := L.a37; have z37 := L.z37; have v37 := L.v37; have u37 := run_underlying L.t37
 have t3 := L.t3; have a3 := L.a3; have z3 := L.z3; have v3 := L.v3; have u3 := run_underlying L.t3
 go_enter L.f170, Body.n170_ntmps ρ
 go_wp2
 go_ret
 exact ⟨rfl, rfl⟩

set_option maxHeartbeats 2000000 in
set_option maxRecDepth 100000 in
/-- A text is written behind it. -/
theorem bldWrite (L : Lays.n166 P ρ) (X : Builder.Extra P ρ) {T : TypeId} (hl : liesAt P P.depth T (2 / P.cellsOf T) 0 (ρ.t 72) 1 = true) (hTe : T ≠ ρ.t 5) (b : Nat) (p v : Value) (n : Nat) (bs : List Value) (s : ByteArray) (w : World) (h : Jh T (ρ.t 5) b p v n bs w)
  (hlen : n + s.size ≤ 140737488355328) :
  Calls P (ρ.f 166) #[.pointer (some ⟨b, 0, none⟩), .string s] w fun e w' => e = .returned (.tuple #[.int .i64 s.size, .nilIface]) ∧ ∃ v', Jh T (ρ.t 5) b (.pointer (some ⟨b, 0, none⟩)) v' (n + s.size) (bs ++ Lib.strCells s) w' ∧
   (w'.os = w.os ∧ w'.tape = w.tape ∧ w'.output = w.output ∧ w.heap.size ≤ w'.heap.size) ∧ (∀ k, k < w.heap.size → k ≠ b → v'.ownBlock ≠ some k → w'.heap[k]? = w.heap[k]?) ∧
   ((v = .slice none 0 0 ∧ v' = v ∧ s.size = 0) ∨ (∃ g cap, v = .slice (some ⟨g, 0, none⟩) n cap ∧ v' = .slice (some ⟨g, 0, none⟩) (n + s.size) cap) ∨ ∃ cap, v' = .slice (some ⟨w.heap.size, 0, none⟩) (n + s.size) cap ∧ 0 < n + s.size) := by
 obtain ⟨i0, hi, hz0, hz1, hz2⟩ := info_parts X.infoByte
 have mixed := L.mixed
 have t72 := L.t72; have a72 := L.a72; have z72 := L.z72; have v72 := L.v72; have u72 := run_underlying L.t72
 have t70 := L.t70; have a70 := L.a70; have z70 := L.z70; have v70 := L.v70; have u70 := run_underlying L.t70
 have t37 := L.t37; have a37 := L.a37; have z37 := L.z37; have v37 := L.v37; have u37 := run_underlying L.t37
 have t3 := L.t3; have a3 := L.a3; have z3 := L.z3; have v3 := L.v3; have u3 := run_underlying L.t3
 have t9 := L.t9; have a9 := L.a9; have z9 := L.z9; have v9 := L.v9; have u9 := run_underlying L.t9
 have t4 := L.t4; have a4 := L.a4; have z4 := L.z4; have v4 := L.v4; have u4 := run_underlying L.t4
 have t164 := L.t164; have a164 := L.a164; have z164 := L.z164; have v164 := L.v164; have u164 := run_underlying L.t164
 have t5 := X.t5; have a5 := X.a5; have z5 := X.z5; have v5 := X.v5; have u5 := run_underlying X.t5
 have e240 : ∀ args w, (callFunc (ρ.f 240) args).run P w = .ok (.enter (ρ.f 240) args) w := enters_of L.f240 (by kernel_rfl) rfl
 go_enter L.f166, Body.n166_ntmps ρ
 go_wp2_with (go_at_fn (ρ.f 240); refine (ot { L with } X.toX72 hl b p v n bs _ h).mono ?_)
 rintro e w1 ⟨rfl, ⟨hbk, _, hown, hne⟩, hg1, hs1⟩
 have c0 : w1.cell? ⟨b, 0, none⟩ = some (.pointer (some ⟨b, 0, none⟩)) := by rw [Lib.cell_of_heap hbk]; rfl
 have c1 : w1.cell? ⟨b, 1, none⟩ = some v := by rw [Lib.cell_of_heap hbk]; rfl
 obtain ⟨v', w2, hrun, hown', hgrow, hcase⟩ := jm (P := P) w1 (ty := ρ.t 37) L.t37 L.t9 hi hz0 hz1 hz2 v n bs hown s hlen
 have hlt : b < w1.heap.size := (Array.getElem?_eq_some_iff.1 hbk).1
 have hne' : v'.ownBlock ≠ some b := by
  rcases hcase with ⟨_, e1, _⟩ | ⟨g, cap, e1, e2⟩ | ⟨cap, e1, _⟩
  ·rw [e1]; exact hne
  ·rw [e2]; rw [e1] at hne; exact hne
  rw [e1]; simp [Value.ownBlock]; omega
 have hb2 : w2.heap[b]? = some (.cells #[.pointer (some ⟨b, 0, none⟩), v] T (0, 0)) := by
  rw [hgrow.block b hlt (fun e => hne' e.symm)]
  exact hbk
 have d0 : w2.cell? ⟨b, 0, none⟩ = some (.pointer (some ⟨b, 0, none⟩)) := by rw [Lib.cell_of_heap hb2]; rfl
 have d1 : w2.cell? ⟨b, 1, none⟩ = some v := by rw [Lib.cell_of_heap hb2]; rfl
 have f1 : w2.frozen? ⟨b, 1, none⟩ = false := Lib.frozen_of_heap hb2 1
 obtain ⟨ao, n', cap, rfl⟩ : ∃ ao n' cap, v' = .slice ao n' cap := by
  rcases hown'.2 with ⟨hv, _⟩ | ⟨g, cap, cur, hv, _⟩
  ·exact ⟨_, _, _, hv⟩
  exact ⟨_, _, _, hv⟩
 go_wp2_with (at_builtin; refine Nk rfl _ _ (ρ.t 37) (ρ.t 9) (ρ.t 37) rfl rfl rfl rfl hrun ?_)
 go_ret2
 refine ⟨rfl, _, ⟨by simp [World.setCell, Array.getElem?_modify, hb2], .inr rfl, hown'.kept (row := some b) ⟨rfl, rfl, rfl, by simp [World.setCell], fun k _ hk => Below.heap_setCell _ _ _ _ (fun e => hk (by simp [e]))⟩ (.inr hne'), hne'⟩, ⟨?_, ?_, ?_, ?_⟩, fun k hk hkb hkr => ?_, ?_⟩
 ·exact hgrow.os.trans hg1.os
 ·exact hgrow.tape.trans hg1.tape
 ·exact hgrow.output.trans hg1.output
 ·have := hgrow.size
  simp [World.setCell]; omega
 ·rw [Below.heap_setCell _ _ _ _ hkb, hgrow.block k (by omega) (fun e => hkr e.symm), hg1.block k hk (by simpa using hkb)]
 rw [hs1] at hcase; exact hcase

set_option maxHeartbeats 2000000 in
set_option maxRecDepth 100000 in
/-- Its text: some of its row is frozen; nothing else turns. -/
theorem bldString (L : Lays.n169 P ρ) (X : Builder.Extra P ρ) {T : TypeId} (b : Nat) (p v : Value) (l : List UInt8) (w : World) (h : Jh T (ρ.t 5) b p v l.length (Lib.byteCells l) w) (hcap : ∀ g, v ≠ .slice (some ⟨g, 0, none⟩) 0 0) :
  Calls P (ρ.f 169) #[.pointer (some ⟨b, 0, none⟩)] w fun e w' => e = .returned (.string ⟨l.toArray⟩) ∧ (w'.os = w.os ∧ w'.tape = w.tape ∧ w'.output = w.output ∧ w.heap.size ≤ w'.heap.size) ∧ ∀ k, v.ownBlock ≠ some k → w'.heap[k]? = w.heap[k]? := by
 obtain ⟨hbk, _, hown, hne⟩ := h
 have mixed := L.mixed
 have t72 := L.t72; have a72 := L.a72; have z72 := L.z72; have v72 := L.v72; have u72 := run_underlying L.t72
 have t70 := L.t70; have a70 := L.a70; have z70 := L.z70; have v70 := L.v70; have u70 := run_underlying L.t70
 have t37 := L.t37; have a37 := L.a37; have z37 := L.z37; have v37 := L.v37; have u37 := run_underlying L.t37
 have t127 := L.t127; have a127 := L.a127; have z127 := L.z127; have v127 := L.v127; have u127 := run_underlying L.t127
 have t3 := L.t3; have a3 := L.a3; have z3 := L.z3; have v3 := L.v3; have u3 := run_underlying L.t3
 have t9 := L.t9; have a9 := L.a9; have z9 := L.z9; have v9 := L.v9; have u9 := run_underlying L.t9
 have t5 := X.t5; have a5 := X.a5; have z5 := X.z5; have v5 := X.v5; have u5 := run_underlying X.t5
 rcases hown.2 with ⟨rfl, h0⟩ | ⟨g, cap, cur, rfl, hbg, hg, hnc, hcm, hcs, htake⟩
 ·have hl : l = [] := List.eq_nil_of_length_eq_zero h0
  subst hl
  have hUS := Any.unsafeString_none L X
  have c1 : w.drew.cell? ⟨b, 1, none⟩ = some (.slice none 0 0) := by
   have : w.drew.heap[b]? = some (.cells #[p, .slice none 0 0] T (0, 0)) := hbk
   rw [Lib.cell_of_heap this]; rfl
  have hSD : (Builtin.unsafeSliceData_ #[(ρ.t 37)] (ρ.t 127) #[.slice none 0 0]).run P w.drew = .ok (.pointer none) w.drew := rfl
  go_enter L.f169, Body.n169_ntmps ρ
  go_wp2
  go_region_o
  all_goals (go_wp2; go_ret; exact ⟨rfl, ⟨rfl, rfl, rfl, Nat.le_refl _⟩, fun _ _ => rfl⟩)
 have hc0 : cap ≠ 0 := by
  rintro rfl
  exact hcap g (by rw [show l.length = 0 by omega])
 have c1 : w.drew.cell? ⟨b, 1, none⟩ = some (.slice (some ⟨g, 0, none⟩) l.length cap) := by
  have : w.drew.heap[b]? = some (.cells #[p, .slice (some ⟨g, 0, none⟩) l.length cap] T (0, 0)) := hbk
  rw [Lib.cell_of_heap this]; rfl
 have hSD : (Builtin.unsafeSliceData_ #[(ρ.t 37)] (ρ.t 127) #[.slice (some ⟨g, 0, none⟩) l.length cap]).run P w.drew = .ok (.pointer (some ⟨g, 0, none⟩)) w.drew :=
  Lib.run_unsafeSliceData_row _ _ _ _ _ _ hc0
 by_cases hl : l = []
 ·subst hl
  have hUS := Any.unsafeString_none L X
  clear hc0 hcap
  simp only [List.length_nil] at c1 hSD
  go_enter L.f169, Body.n169_ntmps ρ
  go_wp2
  go_region_o
  all_goals (go_wp2; go_ret; exact ⟨rfl, ⟨rfl, rfl, rfl, Nat.le_refl _⟩, fun _ _ => rfl⟩)
 have hUS : (Builtin.unsafeString_ #[(ρ.t 127), (ρ.t 3)] (ρ.t 9) #[.pointer (some ⟨g, 0, none⟩), .int .i64 l.length]).run P w.drew = .ok (.string ⟨l.toArray⟩) (w.drew.freeze ⟨g, 0, none⟩ l.length) := by
  refine Lib.run_unsafeString_row w.drew (ρ.t 127) (ρ.t 3) (ρ.t 9) (ρ.t 5) L.t127 X.cellsByte g cur.size (by have hg' : w.drew.heap[g]? = some (.cells cur (ρ.t 5) (0, 0)) := hg; simp [World.shape?, hg']) l hl (by omega) (by unfold maxLen at hcm; omega) ?_
  intro j x hx
  exact hown.cells (g := g) rfl j (.int .u8 x.toNat) (by simp [Lib.byteCells, hx])
 have hfz : ∀ k, g ≠ k → (w.drew.freeze ⟨g, 0, none⟩ l.length).heap[k]? = w.heap[k]? := fun k hk => by
  unfold World.freeze
  split
  ·rfl
  show (w.heap.modify g _)[k]? = _
  rw [Array.getElem?_modify, if_neg hk]
 have hfs : (w.drew.freeze ⟨g, 0, none⟩ l.length).heap.size = w.heap.size := by
  unfold World.freeze
  split
  ·rfl
  show (w.heap.modify g _).size = _
  simp
 have hfo : (w.drew.freeze ⟨g, 0, none⟩ l.length).os = w.os ∧ (w.drew.freeze ⟨g, 0, none⟩ l.length).tape = w.tape ∧ (w.drew.freeze ⟨g, 0, none⟩ l.length).output = w.output := by
  unfold World.freeze
  split <;> exact ⟨rfl, rfl, rfl⟩
 clear hc0 hcap
 go_enter L.f169, Body.n169_ntmps ρ
 go_wp2
 go_region_o
 all_goals (go_wp2; go_ret; exact ⟨rfl, ⟨hfo.1, hfo.2.1, hfo.2.2, Nat.le_of_eq hfs.symm⟩, fun k hk => hfz k (fun e => hk (by rw [e]; rfl))⟩)
end
end Go.Proofs

namespace Go.SX.Nb
open Go Go.SX Go.Proofs Go.Shelf
variable [ErrAt]
set_option maxRecDepth 8000
/-! show's builder. -/
theorem AC7 : Builder.Extra Tryz.prog Tryz.ren155 where
 sizeBuilder := by kernel_rfl
 liesBuilder := by kernel_rfl
 t5 := Tryz.underlying5
 a5 := Tryz.isAgg5
 z5 := Tryz.sizeOf5
 v5 := Tryz.zeroValue5
 infoByte := by kernel_rfl
 cellsByte := by kernel_rfl
 sizeByte := by kernel_rfl
 neB5 := by decide
theorem ux : liesAt Tryz.prog Tryz.prog.depth 94 (2 / Tryz.prog.cellsOf 94) 0 90 1 = true := by kernel_rfl
abbrev R4 (bs : Str) : AObj := .bld 94 5 bs
theorem C8 {n : Nat} {bs : Str} : ObjLow n (R4 bs) := trivial
/-- (*strings.Builder).WriteString. -/
theorem c60 (bs s : Str) (hl : bs.length + s.length ≤ 140737488355328) (o : Nat) (Hp : List AObj) (ho : Hp[o]? = some (R4 bs)) :
  ACall Tryz.prog 60 [.ptr o 0, A7 s] Hp (fun r H' => r = .tup [A3 s.length, .v .nilIface] ∧ H' = Hp.set o (R4 (bs ++ s))) := by
 refine ACall.bldWrite ho (fun b p v w h => ?_)
 have hw := bldWrite Tryz.lays166 AC7 (T := 94) ux (by decide) b p v bs.length (Lib.byteCells bs) ⟨s.toArray⟩ w h (by rw [Dj]; exact hl)
 rw [Dj, Lib.strCells_eq, ← Lib.byteCells_append] at hw
 exact hw
/-- (*strings.Builder).Len. -/
theorem c63 (bs : Str) (o : Nat) (Hp : List AObj) (ho : Hp[o]? = some (R4 bs)) : AFun Tryz.prog 63 [.ptr o 0] Hp (A3 bs.length) :=
 AFun.bldLen ho (fun b p v w h => bldLen Tryz.lays170 (T := 94) (e := 5) b p v _ _ w h)
/-- (*strings.Builder).String. -/
theorem c61 (bs : Str) (o : Nat) (Hp : List AObj) (ho : Hp[o]? = some (R4 bs)) : ACall Tryz.prog 61 [.ptr o 0] Hp (fun r H' => r = A7 bs ∧ H' = Hp.set o (.cells 94 [.any, .any])) :=
 ACall.bldString ho (fun b p v w h hc => bldString (ρ := Tryz.ren155) { Tryz.lays155 with } AC7 (T := 94) b p v bs w h hc)
end Go.SX.Nb
namespace Go.SX.Nb
open Go Go.SX Go.Proofs
variable [ErrAt]
set_option maxRecDepth 4000
abbrev w9 : AV := .v (.tuple #[])
abbrev Ey : Nat := 1099511627776
/-- What node writes. -/
def ou (e : Expr) : Prop := ∀ (o : Nat) (bs : Str) (Hp : List AObj), Hp[o]? = some (R4 bs) → bs.length + (Ac e).length ≤ Ey → ACall Tryz.prog 62 [.ptr o 0, Af e] Hp (fun r H' => r = w9 ∧ H' = Hp.set o (R4 (bs ++ Ac e)))
theorem jo (e : Expr) : Ac e = Mg e.op e.text e.val e.kids (e.kids.map Ac) := by
 cases e with
 | mk o t v k => rw [Ac, Is]; rfl
theorem uz {k : List Expr} {i : Nat} (h : i < k.length) : (k.map Ac).getD i [] = Ac (k.getD i Aj) := by
 rw [List.getD_eq_getElem?_getD, List.getD_eq_getElem?_getD, List.getElem?_map, List.getElem?_eq_getElem h]
 rfl
theorem Tk (l : List Str) (s : Str) : Dm (l ++ [s]) = Dm l ++ (44 :: 32 :: s) := by
 induction l with
 | nil => simp [Dm]
 | cons a r ih => simp [Dm, ih]
theorem ov {k : List Expr} {x : Nat} (h : x < k.length) : (Dm ((k.take (x + 1)).map Ac)).drop 2 = (Dm ((k.take x).map Ac)).drop 2 ++ (if 0 < x then [44, 32] else []) ++ Ac k[x] := by
 rw [List.take_succ_eq_append_getElem h, List.map_append, List.map_singleton, Tk]
 cases x with
 | zero => simp [Dm]
 | succ x =>
  have : 2 ≤ (Dm ((k.take (x + 1)).map Ac)).length := by
   rw [List.take_succ_eq_append_getElem (by omega), List.map_append, List.map_singleton, Tk]
   simp
   omega
  rw [List.drop_append_of_le_length this, if_pos (by omega)]
  simp
theorem zb {k : List Expr} (x : Nat) : (Dm ((k.take x).map Ac)).length ≤ (Dm (k.map Ac)).length := by
 have : k.map Ac = (k.take x).map Ac ++ (k.drop x).map Ac := by rw [← List.map_append, List.take_append_drop]
 rw [this]
 have : ∀ a b : List Str, (Dm a).length ≤ (Dm (a ++ b)).length := by
  intro a b
  induction a with
  | nil => simp [Dm]
  | cons c r ih => simp [Dm]; exact ih
 exact this _ _
theorem Y3 {H : List AObj} {o : Nat} {a b : AObj} : (H.set o a).set o b = H.set o b := List.set_set _
theorem c93 (e : Expr) (he : ou e) (hlev : bq e = (levE e : Int)) (least : Nat) (l0 : Int) (hl0 : l0 = (least : Int)) (o : Nat) (bs : Str) (Hp : List AObj) (ho : Hp[o]? = some (R4 bs)) (hb : bs.length + (Hr least e (Ac e)).length ≤ Ey) : ACall Tryz.prog 93 [.ptr o 0, Af e, A3 l0] Hp (fun r H' => r = w9 ∧ H' = Hp.set o (R4 (bs ++ Hr least e (Ac e)))) := by
 subst hl0
 refine ACall.body [] [0, 1, 2] Tryz.func93 Tryz.ntmps93 (fun d => ?_)
 refine Z47 ?_;refine R.fin [0, 2, 4] ?_;refine Z29 ?_;refine I7 ?_;refine R.call Tryz.call91 (c91 e _) ?_;refine C3 ?_;refine R.geq ?_;refine R.fin [0, 4, 9] ?_
 refine W.cond (fun ht9 => ?_) (fun ht9 => ?_)
 ·have hz : least ≤ levE e := by
   have h := ht9
   rw [hlev] at h
   simpa using h
  rw [show Hr least e (Ac e) = Ac e from if_pos hz] at hb ⊢
  refine rd ?_;refine R.callUp Tryz.call62 ho (by simp) C8 (he o bs _ (Ab ho) (by omega)) ?_;refine Rf ?_;refine K.thR ?_;exact K.fin .nores ⟨rfl, by simp⟩
 have hz : ¬ least ≤ levE e := by
  have h := ht9
  rw [hlev] at h
  simpa using h
 rw [show Hr least e (Ac e) = 40 :: (Ac e ++ [41]) from if_neg hz] at hb ⊢
 simp only [List.length_cons, List.length_append, List.length_nil, Ey] at hb
 refine Ls ?_;refine Z68 ?_
 refine R.callUp Tryz.call60 ho (by simp) C8 (c60 bs [40] (by simp only [Ey, List.length_append, List.length_cons, List.length_nil] at *; omega) o _ (Ab ho)) ?_
 refine R.fin [0, 4] ?_;refine rd ?_
 refine R.callUp Tryz.call62 (Aa ho) (by simp) C8 (he o (bs ++ [40]) _ (Ab (Aa ho)) (by simp only [Ey, List.length_append, List.length_cons, List.length_nil] at *; omega)) ?_
 refine R.fin [0] ?_;refine Z5 ?_;refine Z68 ?_
 refine R.callUp Tryz.call60 (Aa (Aa ho)) (by simp) C8 (c60 (bs ++ [40] ++ Ac e) [41] (by simp only [Ey, List.length_append, List.length_cons, List.length_nil] at *; omega) o _ (Ab (Aa (Aa ho)))) ?_
 refine R.fin [] ?_;exact K.finN .nores ⟨rfl, by simp⟩

theorem c62 : ∀ (n : Nat) (e : Expr), okE n e → C0 Bk e = true → C0 Dz e = true → ou e := by
 intro n
 induction n with
 | zero => exact fun e h => h.elim
 | succ n ih =>
 intro e hok hnd hrg o bs Hp ho hb
 have hnd0 := hnd
 have hrg0 := hrg
 rw [Dk, Bool.and_eq_true] at hnd0 hrg0
 have hev : ∀ y ∈ e.kids, ou y := fun y hy => ih y (hok.2.2 y hy) ((D3 _ _).1 hnd0.2 y hy) ((D3 _ _).1 hrg0.2 y hy)
 have hlv : ∀ y ∈ e.kids, bq y = (levE y : Int) := fun y hy => ee (by have := (D3 _ _).1 hnd0.2 y hy; rw [Dk, Bool.and_eq_true] at this; exact this.1)
 obtain ⟨k5, k34, k6, kall⟩ := oo hnd0.1
 have hi64 : rt e.val.n := by
  have := hrg0.1
  simp only [Dz, Bool.and_eq_true, decide_eq_true_eq] at this
  exact this
 have hlv0 := ee hnd0.1
 have pe := jo e
 have hol := (List.getElem?_eq_some_iff.1 ho).1
 unfold Mg at pe
 refine ACall.body [] [0, 1] Tryz.func62 Tryz.ntmps62 (fun d => ?_)
 refine Z47 ?_;refine R.fin [0, 3] ?_;refine kz ?_;refine R.call Tryz.call91 (c91 e _) ?_;refine B3 ?_;refine Rj ?_;refine Yu ?_;refine R.fin [0, 3, 4, 11] ?_;refine li ?_;refine R.fin [0, 3, 4, 11, 12] ?_
 refine W.cond (fun ht12 => ?_) (fun ht12 => ?_)
 ·rw [if_pos ht12] at pe
  refine W.draw0 [0, 1, 3, 0, 8, 24, 63] 6 Ae (by kernel_rfl) ?_;refine kt ?_;refine D.fieldAddrRo (off := 2) jU Tryz.sizeOf25 ?_;refine D.loadRoN jA jS ?_;refine D.call Tryz.call92 (c92 e.val hi64 _) ?_;refine D.tail ?_
  refine R.callUp Tryz.call60 ho (by simp) C8 (c60 bs (Br e.val) (by rw [pe] at hb; simp only [Ey] at hb; omega) o _ (Ab ho)) ?_
  exact gi
 rw [if_neg (by rw [ht12]; simp)] at pe
 refine Z73 ?_;refine R.fin [0, 3, 4, 11, 21] ?_
 refine W.cond (fun ht21 => ?_) (fun ht21 => ?_)
 ·rw [if_pos ht21] at pe
  refine W.draw0 [0, 1, 3, 0, 8, 31] 5 Ae (by kernel_rfl) ?_;refine kt ?_;refine Z54 ?_;refine D.tail ?_
  refine R.callUp Tryz.call60 ho (by simp) C8 (c60 bs e.text (by rw [pe] at hb; simp only [Ey] at hb; omega) o _ (Ab ho)) ?_
  exact gi
 rw [if_neg (by rw [ht21]; simp)] at pe
 refine Z73 ?_;refine R.fin [0, 3, 4, 11, 29] ?_
 refine W.cond (fun ht29 => ?_) (fun ht29 => ?_)
 ·rw [if_pos ht29] at pe
  have hkl := k34 (.inl (by simpa using ht29))
  rw [uz (by omega)] at pe
  rw [pe] at hb
  simp only [List.length_cons, Ey] at hb
  refine Z0 ?_;refine Z68 ?_
  refine R.callUp Tryz.call60 ho (by simp) C8 (c60 bs [45] (by simp only [Ey, List.length_append, List.length_cons, List.length_nil] at *; omega) o _ (Ab ho)) ?_
  refine R.fin [0, 3] ?_;refine Z5 ?_;refine Z33 ?_;refine Z99 ?_
  refine R.callUp Tryz.call93 (Aa ho) (by simp) C8 (c93 (e.kids.getD 0 Aj) (hev _ (Mn (by omega)).2.1) (hlv _ (Mn (by omega)).2.1) (6) _ (rfl) o (bs ++ [45]) _ (Ab (Aa ho)) (by simp only [Ey, List.length_append, List.length_cons, List.length_nil] at *; omega)) ?_
  exact gi
 rw [if_neg (by rw [ht29]; simp)] at pe
 refine Z73 ?_;refine R.fin [0, 3, 4, 11, 41] ?_
 refine W.cond (fun ht41 => ?_) (fun ht41 => ?_)
 ·rw [if_pos ht41] at pe
  have hkl := k34 (.inr (by simpa using ht41))
  rw [uz (by omega)] at pe
  rw [pe] at hb
  simp only [List.length_cons, List.length_append, Ip, List.length_nil, Ey] at hb
  refine Z0 ?_;refine Z68 ?_
  refine R.callUp Tryz.call60 ho (by simp) C8 (c60 bs [110, 111, 116, 32] (by simp only [Ey, List.length_append, List.length_cons, List.length_nil] at *; omega) o _ (Ab ho)) ?_
  refine R.fin [0, 3] ?_;refine Z5 ?_;refine Z33 ?_;refine Z99 ?_
  refine R.callUp Tryz.call93 (Aa ho) (by simp) C8 (c93 (e.kids.getD 0 Aj) (hev _ (Mn (by omega)).2.1) (hlv _ (Mn (by omega)).2.1) (2) _ (rfl) o (bs ++ [110, 111, 116, 32]) _ (Ab (Aa ho)) (by simp only [Ey, List.length_append, List.length_cons, List.length_nil] at *; omega)) ?_
  exact gi
 rw [if_neg (by rw [ht41]; simp)] at pe
 refine Z73 ?_;refine R.fin [0, 3, 4, 11, 53] ?_
 refine W.cond (fun ht53 => ?_) (fun ht53 => ?_)
 ·rw [if_pos ht53] at pe
  have h5 : e.op = 5 := by simpa using ht53
  have hkl := k5 h5
  have hlv5 : levE e = (Ak e.text).toNat := by simp [levE, h5]
  have hl5 := M7 e.text
  rw [uz (by omega), uz (by omega)] at pe
  rw [pe] at hb
  simp only [List.length_cons, List.length_append, Ey] at hb
  rw [hlv0, hlv5]
  refine gt ?_;refine W3 ?_;refine Z8 ?_;refine R.eql ?_;refine R.fin [0, 3, 4, 5, 57] ?_
  refine W.cond (fun ht57 => ?_) (fun ht57 => ?_)
  ·have h3 : (Ak e.text).toNat = 3 := by have := ht57; simp at this; omega
   have hf1 : (((Ak e.text).toNat : Int) + 1) = ((Cg (Ak e.text).toNat : Nat) : Int) := by rw [h3]; rfl
   refine Z56 ?_;refine W3 ?_;refine K.thN ?_;refine Z0 ?_;refine Z33 ?_;refine Z99 ?_;refine C3 ?_
   refine R.callUp Tryz.call93 ho (by simp) C8 (c93 (e.kids.getD 0 Aj) (hev _ (Mn (by omega)).2.1) (hlv _ (Mn (by omega)).2.1) (Cg (Ak e.text).toNat) _ (by first | exact hf1 | rw [hf2]) o (bs) _ (Ab ho) (by simp only [Ey, List.length_append, List.length_cons, List.length_nil] at *; omega)) ?_
   refine AAm ?_;refine kt ?_;refine Z54 ?_
   refine D.sadd (hl := by simp only [List.length_cons, List.length_nil]; omega) ?_
   refine D.sadd (hl := by simp only [List.length_cons, List.length_nil, List.length_append]; omega) ?_
   refine D.tail ?_
   refine R.callUp Tryz.call60 (Aa ho) (by simp) C8 (c60 (bs ++ Hr (Cg (Ak e.text).toNat) (e.kids.getD 0 Aj) (Ac (e.kids.getD 0 Aj))) (32 :: (e.text ++ [32])) (by simp only [Ey, List.length_append, List.length_cons, List.length_nil] at *; omega) o _ (Ab (Aa ho))) ?_
   refine Rj ?_;refine Z5 ?_;refine Z33 ?_;refine AAa ?_;refine C3 ?_;refine R.add64 ?_
   refine R.callUp Tryz.call93 (Aa (Aa ho)) (by simp) C8 (c93 (e.kids.getD 1 Aj) (hev _ (Mn (by omega)).2.1) (hlv _ (Mn (by omega)).2.1) ((Ak e.text).toNat + 1) _ (by first | rfl | (push_cast; rfl)) o (bs ++ Hr (Cg (Ak e.text).toNat) (e.kids.getD 0 Aj) (Ac (e.kids.getD 0 Aj)) ++ 32 :: (e.text ++ [32])) _ (Ab (Aa (Aa ho))) (by simp only [Ey, List.length_append, List.length_cons, List.length_nil] at *; omega)) ?_
   exact gi
  have h3 : (Ak e.text).toNat ≠ 3 := by have := ht57; simp at this; omega
  have hf2 : Cg (Ak e.text).toNat = (Ak e.text).toNat := by unfold Cg; rw [if_neg h3]
  refine Ls ?_;refine Z33 ?_;refine Z99 ?_;refine C3 ?_
  refine R.callUp Tryz.call93 ho (by simp) C8 (c93 (e.kids.getD 0 Aj) (hev _ (Mn (by omega)).2.1) (hlv _ (Mn (by omega)).2.1) (Cg (Ak e.text).toNat) _ (by first | exact hf1 | rw [hf2]) o (bs) _ (Ab ho) (by simp only [Ey, List.length_append, List.length_cons, List.length_nil] at *; omega)) ?_
  refine AAm ?_;refine kt ?_;refine Z54 ?_
  refine D.sadd (hl := by simp only [List.length_cons, List.length_nil]; omega) ?_
  refine D.sadd (hl := by simp only [List.length_cons, List.length_nil, List.length_append]; omega) ?_
  refine D.tail ?_
  refine R.callUp Tryz.call60 (Aa ho) (by simp) C8 (c60 (bs ++ Hr (Cg (Ak e.text).toNat) (e.kids.getD 0 Aj) (Ac (e.kids.getD 0 Aj))) (32 :: (e.text ++ [32])) (by simp only [Ey, List.length_append, List.length_cons, List.length_nil] at *; omega) o _ (Ab (Aa ho))) ?_
  refine Rj ?_;refine Z5 ?_;refine Z33 ?_;refine AAa ?_;refine C3 ?_;refine R.add64 ?_
  refine R.callUp Tryz.call93 (Aa (Aa ho)) (by simp) C8 (c93 (e.kids.getD 1 Aj) (hev _ (Mn (by omega)).2.1) (hlv _ (Mn (by omega)).2.1) ((Ak e.text).toNat + 1) _ (by first | rfl | (push_cast; rfl)) o (bs ++ Hr (Cg (Ak e.text).toNat) (e.kids.getD 0 Aj) (Ac (e.kids.getD 0 Aj)) ++ 32 :: (e.text ++ [32])) _ (Ab (Aa (Aa ho))) (by simp only [Ey, List.length_append, List.length_cons, List.length_nil] at *; omega)) ?_
  exact gi
 rw [if_neg (by rw [ht53]; simp)] at pe
 refine Z73 ?_;refine R.fin [0, 3, 83] ?_
 refine W.cond (fun ht83 => ?_) (fun ht83 => ?_)
 ·have hsl : ∀ x, ((Dm ((e.kids.take x).map Ac)).drop 2).length ≤ ((Dm (e.kids.map Ac)).drop 2).length := fun x => by have := zb (k := e.kids) x; rw [List.length_drop, List.length_drop]; omega
  have hkl6 := hok.2.1
  rw [pe] at hb
  simp only [List.length_cons, List.length_append, List.length_nil, Ey] at hb
  refine xu ?_;refine kt ?_;refine Z54 ?_
  refine D.sadd (hl := by simp only [List.length_cons, List.length_nil]; omega) ?_
  refine D.tail ?_
  refine R.callUp Tryz.call60 ho (by simp) C8 (c60 bs (e.text ++ [40]) (by simp only [Ey, List.length_append, List.length_cons, List.length_nil] at *; omega) o _ (Ab ho)) ?_
  refine R.fin [0, 3] ?_;refine Z29 ?_;refine Z33 ?_;refine Z7 ?_;refine R.fin [0, 93, 94, 95] ?_
  refine AW.loopC (α := Nat) (fun x => ⟨114, A5 0 (.ptr o 0) (A5 93 (.slice false 6 (e.kids.map Af)) (A5 94 (A3 (e.kids.length : Nat)) (A5 95 (A3 (x : Nat)) (fun _ => .any)))), Hp.set o (R4 (bs ++ (e.text ++ [40]) ++ (Dm ((e.kids.take x).map Ac)).drop 2)), [], [], none⟩) (fun x => x ≤ e.kids.length) (fun x => e.kids.length - x) (0) (Nat.zero_le _) (StLe.of_eq (by simp [Dm])) rfl (fun x hx => ?_)
  refine lh ?_;refine R.fin [0, 93, 94, 95, 96] ?_
  refine W.condX (fun ht96 => ?_) (fun ht96 => ?_)
  ·have hlt : x < e.kids.length := by simpa using ht96
   have hst := ov hlt
   have hsl1 := hsl (x + 1)
   have hslx := hsl x
   refine Z38 ?_;refine Z0 ?_;refine qa ?_;refine J4 ?_;refine r6 ?_;refine R.fin [0, 6, 7, 93, 94, 95] ?_;refine Z8 ?_;refine R.gtr ?_;refine R.fin [0, 7, 93, 94, 95, 101] ?_
   refine W.cond (fun ht101 => ?_) (fun ht101 => ?_)
   ·have h0x : 0 < x := by simpa using ht101
    rw [if_pos h0x] at hst
    have hstl := congrArg List.length hst
    simp only [List.length_append, List.length_cons, List.length_nil] at hstl
    refine Z5 ?_;refine Z68 ?_
    refine R.callUp Tryz.call60 (Aa ho) (by simp) C8 (c60 (bs ++ (e.text ++ [40]) ++ (Dm ((e.kids.take x).map Ac)).drop 2) [44, 32] (by simp only [Ey, List.length_append, List.length_cons, List.length_nil] at *; omega) o _ (Ab (Aa ho))) ?_
    refine R.fin [0, 7, 93, 94, 95] ?_;refine K.thN ?_;refine Z5 ?_;refine Kr ?_
    first | refine R.callUp Tryz.call62 (Aa ho) (by simp) C8 (hev _ (List.getElem_mem hlt) o (bs ++ (e.text ++ [40]) ++ (Dm ((e.kids.take x).map Ac)).drop 2) _ (Ab (Aa ho)) (by simp only [Ey, List.length_append, List.length_cons, List.length_nil] at *; omega)) ?_ | refine R.callUp Tryz.call62 (Aa (Aa ho)) (by simp) C8 (hev _ (List.getElem_mem hlt) o (bs ++ (e.text ++ [40]) ++ (Dm ((e.kids.take x).map Ac)).drop 2 ++ [44, 32]) _ (Ab (Aa (Aa ho))) (by simp only [Ey, List.length_append, List.length_cons, List.length_nil] at *; omega)) ?_
    refine R.fin [0, 93, 94, 95] ?_;refine Z19 ?_;refine gk ?_;refine R.fin [0, 93, 94, 95] ?_;refine K.lpN (x + 1) hlt (by omega) ?_
    simp only [hst, Y3, List.append_assoc, List.append_nil]
    exact StCut.take (own := []) (fun _ => .refl _) (by repeat (first | exact F4 | refine F3 (by first | exact Ds | exact low_roE | (simp [or_imp, forall_and, oid] <;> omega)) ?_)) (by simp) (by simp)
   have h0x : ¬ 0 < x := by simpa using ht101
   rw [if_neg h0x] at hst
   have hstl := congrArg List.length hst
   simp only [List.length_append, List.length_cons, List.length_nil] at hstl
   refine Z4 ?_;refine Z5 ?_;refine Kr ?_
   first | refine R.callUp Tryz.call62 (Aa ho) (by simp) C8 (hev _ (List.getElem_mem hlt) o (bs ++ (e.text ++ [40]) ++ (Dm ((e.kids.take x).map Ac)).drop 2) _ (Ab (Aa ho)) (by simp only [Ey, List.length_append, List.length_cons, List.length_nil] at *; omega)) ?_ | refine R.callUp Tryz.call62 (Aa (Aa ho)) (by simp) C8 (hev _ (List.getElem_mem hlt) o (bs ++ (e.text ++ [40]) ++ (Dm ((e.kids.take x).map Ac)).drop 2 ++ [44, 32]) _ (Ab (Aa (Aa ho))) (by simp only [Ey, List.length_append, List.length_cons, List.length_nil] at *; omega)) ?_
   refine R.fin [0, 93, 94, 95] ?_;refine Z19 ?_;refine gk ?_;refine R.fin [0, 93, 94, 95] ?_;refine K.lpN (x + 1) hlt (by omega) ?_
   simp only [hst, Y3, List.append_assoc, List.append_nil]
   exact StCut.take (own := []) (fun _ => .refl _) (by repeat (first | exact F4 | refine F3 (by first | exact Ds | exact low_roE | (simp [or_imp, forall_and, oid] <;> omega)) ?_)) (by simp) (by simp)
  have hxe : e.kids.take x = e.kids := List.take_of_length_le (by simp at ht96; omega)
  have hslx := hsl x
  refine Z49 ?_;refine Z5 ?_;refine Z68 ?_
  refine R.callUp Tryz.call60 (Aa ho) (by simp) C8 (c60 (bs ++ (e.text ++ [40]) ++ (Dm ((e.kids.take x).map Ac)).drop 2) [41] (by simp only [Ey, List.length_append, List.length_cons, List.length_nil] at *; omega) o _ (Ab (Aa ho))) ?_
  refine R.fin [] ?_;refine K.blN ?_;exact K.finN .nores ⟨rfl, by rw [pe, hxe] <;> simp⟩
 exfalso
 have h6 := kall
 simp at ht12 ht21 ht29 ht41 ht53 ht83
 omega

set_option maxRecDepth 8000
/-! How long a print is. -/
theorem br {v : Val} (hp : Bw v = true) (hi : rt v.n) : (Br v).length ≤ 402 := by
 unfold Br
 rw [hp]
 simp only [Bool.not_true, Bool.false_eq_true, if_false]
 split
 ·have := Lib.itoa_length_le v.n hi.1 hi.2
  omega
 split
 ·rename_i h1 h2
  rw [Gc]
  have h3 := Wr v.s
  have h4 : v.s.length ≤ 200 := by
   have k2 : v.kind = 2 := by simpa using h2
   simp [Bw, k2] at hp
   omega
  simp
  omega
 split
 ·simp
 split <;> simp
theorem Ox (k : Nat) (x : Expr) (s : Str) : (Hr k x s).length ≤ s.length + 2 := by
 unfold Hr
 split <;> simp
theorem Y4 {t : Str} (h : 0 ≤ Ak t) : t.length ≤ 3 := by
 rcases Gf t with hm | ⟨hm, _⟩
 ·have h3 : (levels.flatten.all fun s => decide (s.length ≤ 3)) = true := by kernel_rfl
  exact of_decide_eq_true (List.all_eq_true.1 h3 t hm)
 omega
theorem R5 {t : Str} {n : Nat} (h : B7 t = (n : Int)) : t.length ≤ 6 := by
 rcases Lc h with ⟨e, _⟩ | ⟨e, _⟩ | ⟨e, _⟩ | ⟨e, _⟩ | ⟨e, _⟩ | ⟨e, _⟩ | ⟨e, _⟩ | ⟨e, _⟩ <;> rw [e] <;> decide
theorem ow {k : List Expr} (h : ∀ y ∈ k, (Ac y).length + 10 ≤ 440 * sizeE y) : (Dm (k.map Ac)).length ≤ 440 * Bg k := by
 induction k with
 | nil => simp [Dm]
 | cons y r ih =>
  have h1 := h y List.mem_cons_self
  have h2 := ih (fun z hz => h z (List.mem_cons_of_mem _ hz))
  simp only [List.map_cons, Dm, Bg, List.length_cons, List.length_append]
  omega
theorem Tl : ∀ (n : Nat) (e : Expr), sizeE e ≤ n → C0 Bk e = true → C0 Dz e = true → (Ac e).length + 10 ≤ 440 * sizeE e
 | 0, e, h, _, _ => by rw [E6] at h; omega
 | n + 1, e, h, hn, hr => by
  rw [Dk, Bool.and_eq_true] at hn hr
  have hk : ∀ y ∈ e.kids, (Ac y).length + 10 ≤ 440 * sizeE y := fun y hy => by
   obtain ⟨i, hi⟩ := List.getElem?_of_mem hy
   obtain ⟨hlt, rfl⟩ := List.getElem?_eq_some_iff.1 hi
   exact Tl n _ (by have := We e hlt; omega) ((D3 _ _).1 hn.2 _ hy) ((D3 _ _).1 hr.2 _ hy)
  have hi : rt e.val.n := by
   have := hr.1
   simp only [Dz, Bool.and_eq_true, decide_eq_true_eq] at this
   exact this
  rw [E6]
  cases Fq hn.1 with
  | val v hp h0 =>
   rw [mz]
   have := br hp (v := v) hi
   simp only [Co, Expr.kids, Bg]
   omega
  | name t ht =>
   rw [cw]
   have : t.length ≤ 16 := by
    cases t with
    | nil => simp
    | cons c r =>
     simp only [Gq, Bool.and_eq_true, decide_eq_true_eq] at ht
     exact ht.1.1.1
   simp only [D6, Expr.kids, Bg]
   omega
  | neg a =>
   rw [n4]
   have h1 := Ox 6 a (Ac a)
   have h2 := hk a (by simp [Bl, Expr.kids])
   simp only [Bl, Expr.kids, Bg, List.length_cons]
   omega
  | no a =>
   rw [w7]
   have h1 := Ox 2 a (Ac a)
   have h2 := hk a (by simp [Bl, Expr.kids])
   simp only [Bl, Expr.kids, Bg, List.length_cons, List.length_append, Ip, List.length_nil]
   omega
  | bin t a b ht =>
   rw [n5]
   have h1 := Ox (Cg (Ak t).toNat) a (Ac a)
   have h2 := Ox ((Ak t).toNat + 1) b (Ac b)
   have h3 := hk a (by simp [Bu, Expr.kids])
   have h4 := hk b (by simp [Bu, Expr.kids])
   have h5 := Y4 ht
   simp only [Bu, Expr.kids, Bg, List.length_cons, List.length_append]
   omega
  | call t k ha =>
   rw [cx]
   have h1 := R5 ha
   have h2 := ow (k := k) hk
   rw [← Is] at h2
   simp only [Expr.kids, List.length_cons, List.length_append, List.length_drop, List.length_nil]
   omega
theorem K4 {e : Expr} (hr : Bt e = true) (hg : C0 Dz e = true) : (Ac e).length ≤ 132000 := by
 have h1 := Iw hr
 have h2 : sizeE e ≤ 300 := by
  unfold Bt at hr
  simp only [Bool.and_eq_true, decide_eq_true_eq] at hr
  exact hr.1.2
 have := Tl _ e (Nat.le_refl _) h1 hg
 omega
set_option maxRecDepth 4000
/-- A number's two halves. -/
abbrev ef (a : Int) : List AV := [Ao (decide (a < 0)), Cb ((Sz a).tmod 4294967296), Cb (IntKind.u64.wrap ((Sz a).tdiv 4294967296)), Cb 0, Cb 0, Cb 0]
theorem c55 (a : Int) (Hp : List AObj) : AFun Tryz.prog 55 [A3 a] Hp (.agg (ef a)) := by
 refine ACall.body [.cell 2 84] [0] Tryz.func55 Tryz.ntmps55 (fun d => ?_)
 refine Z77 ?_;refine Z0 ?_;refine R.lss ?_;refine Z95 ?_;refine Yy ?_;refine R.iconv jU jU ?_;refine B3 ?_;refine R.fin [0, 2, 3, 4] ?_;refine Pg ?_;refine R.fin [2, 3, 4, 11] ?_
 refine W.cond (fun ht11 => ?_) (fun ht11 => ?_)
 ·have hm : Sz a = IntKind.u64.wrap (0 - IntKind.u64.wrap a) := if_pos ht11
  refine Z5 ?_;refine R.sub ?_;refine B3 ?_;refine R.fin [2, 3, 4] ?_;refine K.thN ?_;refine Z0 ?_;refine R.rem ?_;refine Z98 ?_;refine Fi ?_;refine R.fin [2, 3, 4] ?_;refine Z0 ?_;refine R.quo ?_;refine AAb ?_;refine Fi ?_;refine R.fin [2, 3] ?_;exact zu
 have hm : Sz a = IntKind.u64.wrap a := if_neg (by rw [ht11]; simp)
 refine Ls ?_;refine R.rem ?_;refine Z98 ?_;refine Fi ?_;refine R.fin [2, 3, 4] ?_;refine Z0 ?_;refine R.quo ?_;refine AAb ?_;refine Fi ?_;refine R.fin [2, 3] ?_;exact zu

/-! A wide number: a sign and five digits to the base of 2^32. -/
abbrev wF (s : Bool) (f : Nat → Nat) : List AV := [Ao s, Cb (f 0 : Nat), Cb (f 1 : Nat), Cb (f 2 : Nat), Cb (f 3 : Nat), Cb (f 4 : Nat)]
abbrev pF (f : Nat → Nat) : List AV := [Cb (f 0 : Nat), Cb (f 1 : Nat), Cb (f 2 : Nat), Cb (f 3 : Nat), Cb (f 4 : Nat)]
theorem Mo {f : Nat → Nat} {k : Nat} (h : k < 5) : (pF f).drop (k * 1) = Cb (f k : Nat) :: (pF f).drop (k + 1) := by
 rcases k with _ | _ | _ | _ | _ | k
 all_goals first | rfl | omega
theorem oy {s : Bool} {f : Nat → Nat} {k : Nat} (h : k < 5) : (wF s f)[1 + k * 1]? = some (Cb (f k : Nat)) := by
 rcases k with _ | _ | _ | _ | _ | k
 all_goals first | rfl | omega
def O2 (m k i : Nat) : Nat := if i < k then dig m i else 0
theorem V1 {s : Bool} {f g : Nat → Nat} {k v : Nat} (h : k < 5) (hg : g k = v) (he : ∀ i, i ≠ k → g i = f i) : B8 (wF s f) (1 + k * 1) [Cb (v : Nat)] = wF s g := by
 subst hg
 rcases k with _ | _ | _ | _ | _ | k
 ·rw [wF, wF, he 1 (by decide), he 2 (by decide), he 3 (by decide), he 4 (by decide)]; rfl
 ·rw [wF, wF, he 0 (by decide), he 2 (by decide), he 3 (by decide), he 4 (by decide)]; rfl
 ·rw [wF, wF, he 0 (by decide), he 1 (by decide), he 3 (by decide), he 4 (by decide)]; rfl
 ·rw [wF, wF, he 0 (by decide), he 1 (by decide), he 2 (by decide), he 4 (by decide)]; rfl
 ·rw [wF, wF, he 0 (by decide), he 1 (by decide), he 2 (by decide), he 3 (by decide)]; rfl
 omega
theorem Nl {s : Bool} {m k : Nat} (h : k < 5) : B8 (wF s (O2 m k)) (1 + k * 1) [Cb (dig m k : Nat)] = wF s (O2 m (k + 1)) := by
 refine V1 h (by unfold O2; rw [if_pos (by omega)]) fun i hi => ?_
 unfold O2
 by_cases h1 : i < k
 ·rw [if_pos h1, if_pos (by omega)]
 rw [if_neg h1, if_neg (by omega)]
theorem Nm (m : Nat) (s : Bool) : wF s (O2 m 5) = wF s (dig m) := rfl
theorem jp {x y z : Nat} (h : x + y + z < 18446744073709551616) : IntKind.u64.wrap (IntKind.u64.wrap ((x : Int) + (y : Int)) + (z : Int)) = ((x + y + z : Nat) : Int) := by
 simp only [IntKind.wrap_u64]; omega
theorem Ry (x : Nat) : (x : Int).tmod 4294967296 = ((x % 4294967296 : Nat) : Int) := by
 rw [Int.tmod_eq_emod_of_nonneg (by omega)]; omega
theorem Rz {x : Nat} (h : x < 18446744073709551616) : IntKind.u64.wrap ((x : Int).tdiv 4294967296) = ((x / 4294967296 : Nat) : Int) := by
 rw [Int.tdiv_eq_ediv_of_nonneg (by omega), IntKind.wrap_u64]; omega
theorem Ee {m i : Nat} (h : m < B32 ^ i) : dig m i = 0 := by unfold dig; rw [Nat.div_eq_of_lt h]; rfl
theorem wc (m : Nat) : dig m 0 = m % 4294967296 := by unfold dig; simp
theorem AC8 (m : Nat) : dig m 1 = m / 4294967296 % 4294967296 := by unfold dig; simp [B32]
/-- A number's halves. -/
theorem v6 {a : Int} (h0 : -9223372036854775808 ≤ a) (h1 : a ≤ 9223372036854775807) : ef a = wF (decide (a < 0)) (dig a.natAbs) := by
 have hs := ji h0 h1
 have hb : a.natAbs < 18446744073709551616 := by omega
 unfold ef wF
 rw [hs, Ry, Rz hb, wc, AC8, Nat.mod_eq_of_lt (show a.natAbs / 4294967296 < 4294967296 by omega)]
 have e2 : dig a.natAbs 2 = 0 := Ee (Nat.lt_of_lt_of_le hb (by decide))
 have e3 : dig a.natAbs 3 = 0 := Ee (Nat.lt_of_lt_of_le hb (by decide))
 have e4 : dig a.natAbs 4 = 0 := Ee (Nat.lt_of_lt_of_le hb (by decide))
 rw [e2, e3, e4]
 rfl
theorem ADz (a : Int) (h0 : -9223372036854775808 ≤ a) (h1 : a ≤ 9223372036854775807) (Hp : List AObj) : AFun Tryz.prog 55 [A3 a] Hp (.agg (wF (decide (a < 0)) (dig a.natAbs))) := by
 rw [← v6 h0 h1]
 exact c55 a Hp
theorem c88 (a b : Nat) (ha : a < B32 ^ 5) (hb : b < B32 ^ 5) (Hp : List AObj) : AFun Tryz.prog 88 [.agg (pF (dig a)), .agg (pF (dig b))] Hp (Ao (decide (a < b))) := by
 refine ACall.body [.tmp 4] [0, 1] Tryz.func88 Tryz.ntmps88 (fun d => ?_)
 refine gu ?_;refine r9 ?_;refine Lr ?_;refine R.fin [2, 3, 5] ?_
 refine AW.loopC (α := Nat) (fun k => ⟨24, A5 2 (.ro (pF (dig a))) (A5 3 (.ro (pF (dig b))) (A5 5 (A3 ((k : Nat) - 1)) (fun _ => .any))), Hp, [], [], none⟩) (fun k => k ≤ 5 ∧ a / B32 ^ k = b / B32 ^ k) (fun k => k) (5) ⟨Nat.le_refl _, by rw [Nat.div_eq_of_lt ha, Nat.div_eq_of_lt hb]⟩ (StLe.of_eq rfl) rfl (fun k hx => ?_)
 refine Z8 ?_;refine R.geq ?_;refine R.fin [2, 3, 5, 7] ?_
 refine W.cond (fun ht7 => ?_) (fun ht7 => ?_)
 ·have hk0 : 1 ≤ k := by simp only [decide_eq_true_eq] at ht7; omega
  have hq : a / B32 ^ (k - 1 + 1) = b / B32 ^ (k - 1 + 1) := by rw [Nat.sub_add_cancel hk0]; exact hx.2
  refine Ji ?_;refine xu ?_;refine D.move ?_;refine Z80 ?_;refine D.move ?_;refine Z80 ?_;refine D.tail ?_;refine R.neq ?_;refine R.fin [2, 3, 5, 16] ?_
  refine W.cond (fun ht16 => ?_) (fun ht16 => ?_)
  ·have hl := uw hq (fun e => by rw [e] at ht16; simp at ht16)
   refine W.draw [0, 1, 3, 0, 8, 24, 63, 127] 6 Ae (by kernel_rfl) ?_;refine D.move ?_;refine Z80 ?_;refine D.move ?_;refine Z80 ?_;refine D.tail ?_;refine R.lss ?_;refine B3 ?_;refine Z27 ?_;refine Zc ?_;exact K.fin (V.one V.tmp) ⟨by rw [hl]; simp, rfl⟩
  have hn := jk hq (by have : ((dig a (k - 1) : Nat) : Int) = ((dig b (k - 1) : Nat) : Int) := (by simpa using ht16); omega)
  refine Z34 ?_;refine Z5 ?_;refine R.sub64 ?_;refine B3 ?_;refine R.fin [2, 3, 5] ?_
  rw [show ((k : Int) - 1 - 1) = (((k - 1 : Nat) : Int) - 1) by omega]
  exact K.lpN (k - 1) ⟨by omega, hn⟩ (by omega) (StCut.of_eq rfl)
 have hk0 : k = 0 := by simp only [decide_eq_false_iff_not] at ht7; omega
 have hab : a = b := by have := hx.2; rw [hk0] at this; simpa using this
 refine Z81 ?_;refine Vw ?_;exact K.fin (V.one V.tmp) ⟨by rw [hab]; simp, rfl⟩

theorem AC9 {x y z : Nat} (hx : x < 4294967296) (hy : y < 4294967296) (hz : z ≤ 1) : IntKind.u64.wrap (IntKind.u64.wrap (IntKind.u64.wrap (4294967296 + (x : Int)) - (y : Int)) - (z : Int)) = ((4294967296 + x - y - z : Nat) : Int) := by
 simp only [IntKind.wrap_u64]; omega
theorem wd {q : Nat} (h : q ≤ 1) : IntKind.u64.wrap (1 - (q : Int)) = ((1 - q : Nat) : Int) := by
 simp only [IntKind.wrap_u64]; omega
section
variable (sa : Bool) (a : Nat) (sb : Bool) (b : Nat)
/-- The greater one, and the other. -/
def hiW : Bool × Nat := if decide (a < b) = true then (sb, b) else (sa, a)
def loW : Bool × Nat := if decide (a < b) = true then (sa, a) else (sb, b)
def v7 : Bool × Nat := if (sa == sb) = true then (sa, a + b) else ((hiW sa a sb b).1, (hiW sa a sb b).2 - (loW sa a sb b).2)
end
theorem we {sa : Bool} {a : Nat} {sb : Bool} {b : Nat} : (loW sa a sb b).2 ≤ (hiW sa a sb b).2 := by
 unfold loW hiW
 split
 ·rename_i h; have := of_decide_eq_true h; simp only; omega
 rename_i h; simp only [decide_eq_true_eq] at h; simp only; omega
theorem c56 (sa : Bool) (a : Nat) (sb : Bool) (b : Nat) (ha : a < B32 ^ 5) (hb : b < B32 ^ 5) (Hp : List AObj) : AFun Tryz.prog 56 [.agg (wF sa (dig a)), .agg (wF sb (dig b))] Hp (.agg (wF (v7 sa a sb b).1 (dig (v7 sa a sb b).2))) := by
 refine ACall.body [.cell 4 84] [0, 1] Tryz.func56 Tryz.ntmps56 (fun d => ?_)
 refine B9 ?_;refine R.box ?_;refine R.box ?_;refine J4 ?_;refine R.fin [2, 3, 4] ?_;refine B9 ?_;refine qh ?_;refine Z95 ?_;refine Rk ?_;refine Z29 ?_;refine qh ?_;refine qh ?_;refine R.beql jU ?_;refine R.fin [2, 3, 4, 5, 19] ?_
 refine W.cond (fun ht19 => ?_) (fun ht19 => ?_)
 ·have had : v7 sa a sb b = (sa, a + b) := if_pos ht19
  refine Z1 ?_;refine R.fin [2, 3, 4, 5, 6] ?_;refine Lr ?_;refine R.fin [2, 3, 4, 5, 6, 7] ?_
  refine AW.loopC (α := Nat) (fun k => ⟨78, A5 2 (.ptr (oid Hp.length 0) 0) (A5 3 (.ptr (oid Hp.length 1) 0) (A5 4 (.ptr (oid Hp.length 2) 0) (A5 5 (.ptr (oid Hp.length 3) 0) (A5 6 (Cb (car a b k : Nat)) (A5 7 (A3 (k : Nat)) (fun _ => .any)))))), Hp, [ .cells 84 (wF sa (dig a)),  .cells 84 (wF sb (dig b)),  .cells 84 [Ao false, Cb 0, Cb 0, Cb 0, Cb 0, Cb 0],  .cells 84 (wF sa (O2 (a + b) k))], [], none⟩) (fun k => k ≤ 5) (fun k => 5 - k) (0) (Nat.zero_le _) (StLe.of_eq (by rw [oh]; rfl)) rfl (fun k hx => ?_)
  refine Pg ?_;refine R.fin [2, 3, 4, 5, 6, 7, 21] ?_
  refine W.cond (fun ht21 => ?_) (fun ht21 => ?_)
  ·have hk : k < 5 := by simp at ht21; omega
   refine Ji ?_;refine W.draw [0, 0, 3, 7, 0, 0, 48, 112, 255, 0, 1023, 2047] 10 Ae (by kernel_rfl) ?_;refine gq ?_;refine gq ?_;refine D.add ?_;refine D.move ?_;refine D.tail ?_;refine R.add ?_;refine B3 ?_;refine R.fin [2, 3, 4, 5, 7, 8] ?_;refine B9 ?_
   rw [jp (by have := B2 a k; have := B2 b k; have := oi a b k; omega)]
   refine Z53 ?_;refine R.rem ?_
   rw [Ry, uu]
   refine wr ?_
   refine R.storeOwn jS (hput := Nl hk) (hfit := by simp; omega) ?_
   refine R.fin [2, 3, 4, 5, 7, 8] ?_;refine Z5 ?_;refine R.quo ?_
   rw [Rz (by have := B2 a k; have := B2 b k; have := oi a b k; omega), om]
   refine B3 ?_;refine R.fin [2, 3, 4, 5, 6, 7] ?_;refine Ob ?_;refine R.fin [2, 3, 4, 5, 6, 7] ?_;exact K.lpN (k + 1) hk (by omega) (StCut.of_eq rfl)
  have hke : k = 5 := by simp at ht21; omega
  refine Z81 ?_;refine B9 ?_
  rw [hke, Nm]
  refine Kr ?_;refine gw ?_;exact ABa
 have had : v7 sa a sb b = ((hiW sa a sb b).1, (hiW sa a sb b).2 - (loW sa a sb b).2) := if_neg (by rw [ht19]; simp)
 refine Zi ?_;refine Zk ?_;refine Kr ?_;refine Zk ?_;refine Kr ?_;refine R.call Tryz.call88 (c88 a b ha hb _) ?_;refine R.fin [2, 3, 4, 5, 47] ?_
 refine W.cond (fun ht47 => ?_) (fun ht47 => ?_)
 ·have hhi : (hiW sa a sb b) = (sb, b) := if_pos ht47
  have hlo : (loW sa a sb b) = (sa, a) := if_pos ht47
  refine Z20 ?_;refine Kr ?_;refine Fi ?_;refine Fi ?_;refine Rk ?_;refine H8 ?_;refine qh ?_;refine xd ?_;refine Rk ?_;refine K.thN ?_;refine Z1 ?_;refine R.fin [2, 3, 4, 5, 9] ?_;refine Lr ?_;refine lr ?_
  refine AW.loopC (α := Nat) (fun k => ⟨78, A5 2 (.ptr (oid Hp.length 0) 0) (A5 3 (.ptr (oid Hp.length 1) 0) (A5 4 (.ptr (oid Hp.length 2) 0) (A5 5 (.ptr (oid Hp.length 3) 0) (A5 9 (Cb (bor (hiW sa a sb b).2 (loW sa a sb b).2 k : Nat)) (A5 10 (A3 (k : Nat)) (fun _ => .any)))))), Hp, [ .cells 84 (wF (hiW sa a sb b).1 (dig (hiW sa a sb b).2)),  .cells 84 (wF (loW sa a sb b).1 (dig (loW sa a sb b).2)),  .cells 84 [Ao false, Cb 0, Cb 0, Cb 0, Cb 0, Cb 0],  .cells 84 (wF (hiW sa a sb b).1 (O2 ((hiW sa a sb b).2 - (loW sa a sb b).2) k))], [], none⟩) (fun k => k ≤ 5) (fun k => 5 - k) (0) (Nat.zero_le _) (StLe.of_eq (by rw [Y1, hhi, hlo]; rfl)) rfl (fun k hx => ?_)
  refine Pg ?_;refine R.fin [2, 3, 4, 5, 9, 10, 54] ?_
  refine W.cond (fun ht54 => ?_) (fun ht54 => ?_)
  ·have hk : k < 5 := by simp at ht54; omega
   refine AA1 ?_;refine gq ?_;refine D.add ?_;refine gq ?_;refine D.sub ?_;refine D.move ?_;refine D.tail ?_;refine R.sub ?_;refine B3 ?_;refine R.fin [2, 3, 4, 5, 10, 11] ?_;refine B9 ?_
   rw [AC9 (B2 _ k) (B2 _ k) (bp _ _ k)]
   refine Z53 ?_;refine R.rem ?_
   rw [Ry, ea we]
   refine wr ?_
   refine R.storeOwn jS (hput := Nl hk) (hfit := by simp; omega) ?_
   refine R.fin [2, 3, 4, 5, 10, 11] ?_;refine Z5 ?_;refine R.quo ?_
   rw [Rz (by have := B2 (hiW sa a sb b).2 k; omega)]
   refine R.sub ?_
   rw [wd (by have := B2 (hiW sa a sb b).2 k; omega), Y2]
   refine B3 ?_;refine lr ?_;refine Ob ?_;exact zx
  have hke : k = 5 := by simp at ht54; omega
  refine Z81 ?_;refine B9 ?_
  rw [hke, Nm]
  refine Kr ?_;exact AA7
 have hhi : (hiW sa a sb b) = (sa, a) := if_neg (by rw [ht47]; simp)
 have hlo : (loW sa a sb b) = (sb, b) := if_neg (by rw [ht47]; simp)
 refine Z4 ?_;refine Z1 ?_;refine R.fin [2, 3, 4, 5, 9] ?_;refine Lr ?_;refine lr ?_
 refine AW.loopC (α := Nat) (fun k => ⟨78, A5 2 (.ptr (oid Hp.length 0) 0) (A5 3 (.ptr (oid Hp.length 1) 0) (A5 4 (.ptr (oid Hp.length 2) 0) (A5 5 (.ptr (oid Hp.length 3) 0) (A5 9 (Cb (bor (hiW sa a sb b).2 (loW sa a sb b).2 k : Nat)) (A5 10 (A3 (k : Nat)) (fun _ => .any)))))), Hp, [ .cells 84 (wF (hiW sa a sb b).1 (dig (hiW sa a sb b).2)),  .cells 84 (wF (loW sa a sb b).1 (dig (loW sa a sb b).2)),  .cells 84 [Ao false, Cb 0, Cb 0, Cb 0, Cb 0, Cb 0],  .cells 84 (wF (hiW sa a sb b).1 (O2 ((hiW sa a sb b).2 - (loW sa a sb b).2) k))], [], none⟩) (fun k => k ≤ 5) (fun k => 5 - k) (0) (Nat.zero_le _) (StLe.of_eq (by rw [Y1, hhi, hlo]; rfl)) rfl (fun k hx => ?_)
 refine Pg ?_;refine R.fin [2, 3, 4, 5, 9, 10, 54] ?_
 refine W.cond (fun ht54 => ?_) (fun ht54 => ?_)
 ·have hk : k < 5 := by simp at ht54; omega
  refine AA1 ?_;refine gq ?_;refine D.add ?_;refine gq ?_;refine D.sub ?_;refine D.move ?_;refine D.tail ?_;refine R.sub ?_;refine B3 ?_;refine R.fin [2, 3, 4, 5, 10, 11] ?_;refine B9 ?_
  rw [AC9 (B2 _ k) (B2 _ k) (bp _ _ k)]
  refine Z53 ?_;refine R.rem ?_
  rw [Ry, ea we]
  refine wr ?_
  refine R.storeOwn jS (hput := Nl hk) (hfit := by simp; omega) ?_
  refine R.fin [2, 3, 4, 5, 10, 11] ?_;refine Z5 ?_;refine R.quo ?_
  rw [Rz (by have := B2 (hiW sa a sb b).2 k; omega)]
  refine R.sub ?_
  rw [wd (by have := B2 (hiW sa a sb b).2 k; omega), Y2]
  refine B3 ?_;refine lr ?_;refine Ob ?_;exact zx
 have hke : k = 5 := by simp at ht54; omega
 refine Z81 ?_;refine B9 ?_
 rw [hke, Nm]
 refine Kr ?_;exact AA7

set_option maxRecDepth 8000
/-! Multiplied digit by digit. -/
def bt (F : Nat → Nat) : Nat := F 0 + 4294967296 * (F 1 + 4294967296 * (F 2 + 4294967296 * (F 3 + 4294967296 * F 4)))
def jq (F : Nat → Nat) (p v j : Nat) : Nat := if j = p then v else F j
theorem Ek (x y j : Nat) (hx : x < 4294967296) : dig (x + 4294967296 * y) (j + 1) = dig y j := by
 unfold dig
 rw [Nat.pow_succ, Nat.mul_comm (B32 ^ j), ← Nat.div_div_eq_div_mul, show (x + 4294967296 * y) / B32 = y by show (x + 4294967296 * y) / 4294967296 = y; omega]
theorem K5 (x y : Nat) (hx : x < 4294967296) : dig (x + 4294967296 * y) 0 = x := by
 unfold dig
 simp only [Nat.pow_zero, Nat.div_one]
 show (x + 4294967296 * y) % 4294967296 = x
 omega
theorem eg {F : Nat → Nat} (h : ∀ j, F j < 4294967296) : ∀ j, j < 5 → dig (bt F) j = F j := by
 intro j hj
 unfold bt
 rcases j with _ | _ | _ | _ | _ | j
 ·exact K5 _ _ (h 0)
 ·rw [Ek _ _ _ (h 0)]; exact K5 _ _ (h 1)
 ·rw [Ek _ _ _ (h 0), Ek _ _ _ (h 1)]; exact K5 _ _ (h 2)
 ·rw [Ek _ _ _ (h 0), Ek _ _ _ (h 1), Ek _ _ _ (h 2)]; exact K5 _ _ (h 3)
 ·rw [Ek _ _ _ (h 0), Ek _ _ _ (h 1), Ek _ _ _ (h 2), Ek _ _ _ (h 3)]
  have := K5 (F 4) 0 (h 4)
  simpa using this
 omega
theorem v8 (F : Nat → Nat) (x c p : Nat) (hp : p < 5) : bt (jq F p ((F p + x % 4294967296 + c % 4294967296) % 4294967296)) + ((F p + x % 4294967296 + c % 4294967296) / 4294967296 + x / 4294967296 + c / 4294967296) * B32 ^ (p + 1) = bt F + (x + c) * B32 ^ p := by
 unfold bt jq B32
 rcases p with _ | _ | _ | _ | _ | p
 ·simp only [Nat.reduceEqDiff, if_true, if_false, Nat.reducePow, Nat.reduceAdd, Nat.zero_add]; simp; omega
 ·simp only [Nat.reduceEqDiff, if_true, if_false, Nat.reducePow, Nat.reduceAdd, Nat.zero_add]; simp; omega
 ·simp only [Nat.reduceEqDiff, if_true, if_false, Nat.reducePow, Nat.reduceAdd, Nat.zero_add]; simp; omega
 ·simp only [Nat.reduceEqDiff, if_true, if_false, Nat.reducePow, Nat.reduceAdd, Nat.zero_add]; simp; omega
 ·simp only [Nat.reduceEqDiff, if_true, if_false, Nat.reducePow, Nat.reduceAdd, Nat.zero_add]; simp; omega
 omega
def R6 (a b i k : Nat) : Nat := (a % B32 ^ i) * b + dig a i * (b % B32 ^ k) * B32 ^ i
structure MulAt (F : Nat → Nat) (c a b i k : Nat) : Prop where
 dg : ∀ j, F j < 4294967296
 c2 : c < 8589934592
 eq : bt F + c * B32 ^ (i + k) = R6 a b i k
theorem jr (a b i k : Nat) : R6 a b i (k + 1) = R6 a b i k + dig a i * dig b k * B32 ^ (i + k) := by
 unfold R6
 rw [Hq b k, Nat.mul_add, Nat.add_mul, Nat.pow_add]
 have : dig a i * (B32 ^ k * dig b k) * B32 ^ i = dig a i * dig b k * (B32 ^ i * B32 ^ k) := by simp only [Nat.mul_comm, Nat.mul_left_comm, Nat.mul_assoc]
 omega
theorem vd (a b i k : Nat) : R6 a b i k ≤ a * b := by
 have h1 : R6 a b i k ≤ (a % B32 ^ (i + 1)) * b := by
  unfold R6
  rw [Hq a i, Nat.add_mul]
  have : dig a i * (b % B32 ^ k) * B32 ^ i ≤ B32 ^ i * dig a i * b := by
   rw [Nat.mul_right_comm, Nat.mul_comm (dig a i)]
   exact Nat.mul_le_mul_left _ (Nat.mod_le _ _)
  omega
 exact Nat.le_trans h1 (Nat.mul_le_mul_right _ (Nat.mod_le _ _))
theorem MulAt.start (a b : Nat) : MulAt (fun _ => 0) 0 a b 0 0 := ⟨fun _ => by decide, by decide, by unfold R6; simp [bt, Nat.mod_one]⟩
theorem Ep {x y : Nat} (hx : x < 4294967296) (hy : y < 4294967296) : x * y / 4294967296 ≤ 4294967294 ∧ x * y < 18446744073709551616 := by
 have : x * y ≤ 4294967295 * 4294967295 := Nat.mul_le_mul (by omega) (by omega)
 omega
theorem MulAt.step {F : Nat → Nat} {c a b i k : Nat} (h : MulAt F c a b i k) (hp : i + k < 5) : MulAt (jq F (i + k) ((F (i + k) + dig a i * dig b k % 4294967296 + c % 4294967296) % 4294967296)) ((F (i + k) + dig a i * dig b k % 4294967296 + c % 4294967296) / 4294967296 + dig a i * dig b k / 4294967296 + c / 4294967296) a b i (k + 1) := by
 have hx := Ep (B2 a i) (B2 b k)
 have hf := h.dg (i + k)
 have hc := h.c2
 refine ⟨fun j => ?_, by omega, ?_⟩
 ·unfold jq
  split
  ·exact Nat.mod_lt _ (by decide)
  exact h.dg j
 have := v8 F (dig a i * dig b k) c (i + k) hp
 rw [jr, ← h.eq]
 rw [show i + (k + 1) = i + k + 1 by omega, this, Nat.add_mul]
 omega
theorem MulAt.idx {F : Nat → Nat} {c a b i k : Nat} (h : MulAt F c a b i k) (ha : a < B32 ^ 2) (hb : b < B32 ^ 2) (hi : i < 2) (hc : k < 2 ∨ 0 < c) : i + k < 4 := by
 rcases Nat.lt_or_ge (i + k) 4 with h1 | h1
 ·exact h1
 exfalso
 have hk : 0 < c := by omega
 have h2 : B32 ^ 4 ≤ B32 ^ (i + k) := Nat.pow_le_pow_right (by decide) h1
 have h3 : B32 ^ (i + k) ≤ c * B32 ^ (i + k) := Nat.le_mul_of_pos_left _ hk
 have h4 := vd a b i k
 have h5 : a * b < B32 ^ 2 * B32 ^ 2 := Nat.mul_lt_mul'' ha hb
 rw [← Nat.pow_add] at h5
 have h6 := h.eq
 have : B32 ^ (2 + 2) = B32 ^ 4 := rfl
 omega
theorem MulAt.next {F : Nat → Nat} {a b i k : Nat} (h : MulAt F 0 a b i k) (hb : b < B32 ^ 2) (hk : 2 ≤ k) : MulAt F 0 a b (i + 1) 0 := by
 refine ⟨h.dg, by decide, ?_⟩
 have h1 := h.eq
 rw [Nat.zero_mul] at h1 ⊢
 rw [h1]
 unfold R6
 have h2 : b % B32 ^ k = b := Nat.mod_eq_of_lt (Nat.lt_of_lt_of_le hb (Nat.pow_le_pow_right (by decide) hk))
 rw [h2, Hq a i, Nat.pow_zero, Nat.mod_one, Nat.mul_zero, Nat.zero_mul, Nat.add_zero, Nat.add_mul]
 have : dig a i * b * B32 ^ i = B32 ^ i * dig a i * b := by rw [Nat.mul_right_comm, Nat.mul_comm (dig a i)]
 omega
theorem MulAt.done {F : Nat → Nat} {a b : Nat} (h : MulAt F 0 a b 2 0) (ha : a < B32 ^ 2) : ∀ j, j < 5 → F j = dig (a * b) j := by
 intro j hj
 have h1 := h.eq
 have h2 : R6 a b 2 0 = a * b := by
  unfold R6
  rw [Nat.mod_eq_of_lt ha, Nat.pow_zero, Nat.mod_one]
  simp
 rw [h2, Nat.zero_mul, Nat.add_zero] at h1
 rw [← h1]
 exact (eg h.dg j hj).symm
set_option maxRecDepth 4000
theorem ACa {x y : Nat} (hx : x < 4294967296) (hy : y < 4294967296) : IntKind.u64.wrap ((x : Int) * (y : Int)) = ((x * y : Nat) : Int) := by
 have := Ep hx hy
 rw [IntKind.wrap_u64, show (x : Int) * (y : Int) = ((x * y : Nat) : Int) by simp]
 omega
theorem wg {x : Nat} (h : x = 0) : (0 : Int).tmod 4294967296 = ((x % 4294967296 : Nat) : Int) := by subst h; rfl
theorem wh {x : Nat} (h : x = 0) : IntKind.u64.wrap ((0 : Int).tdiv 4294967296) = ((x / 4294967296 : Nat) : Int) := by subst h; rfl
theorem js {b k : Nat} (hb : b < B32 ^ 2) (hk : 2 ≤ k) : dig b k = 0 := Ee (Nat.lt_of_lt_of_le hb (Nat.pow_le_pow_right (by decide) hk))
theorem c57 (sa : Bool) (a : Nat) (sb : Bool) (b : Nat) (ha : a < B32 ^ 2) (hb : b < B32 ^ 2) (Hp : List AObj) : AFun Tryz.prog 57 [.agg (wF sa (dig a)), .agg (wF sb (dig b))] Hp (.agg (wF (sa != sb) (dig (a * b)))) := by
 refine ACall.body [.cell 4 84] [0, 1] Tryz.func57 Tryz.ntmps57 (fun d => ?_)
 refine gu ?_;refine J4 ?_;refine R.fin [2, 3, 4] ?_;refine B9 ?_;refine Z65 ?_;refine Z65 ?_;refine R.bneq jU ?_;refine Z95 ?_;refine Rk ?_;refine Lr ?_;refine R.fin [2, 3, 4, 5, 6] ?_
 refine AW.loopC (α := Nat × (Nat → Nat)) (fun x => ⟨68, A5 2 (.ro (wF sa (dig a))) (A5 3 (.ro (wF sb (dig b))) (A5 4 (.ptr (oid Hp.length 0) 0) (A5 5 (.ptr (oid Hp.length 1) 0) (A5 6 (A3 (x.1 : Nat)) (fun _ => .any))))), Hp, [ .cells 84 [Ao false, Cb 0, Cb 0, Cb 0, Cb 0, Cb 0],  .cells 84 (wF (sa != sb) (x.2))], [], none⟩) (fun x => x.1 ≤ 2 ∧ MulAt x.2 0 a b x.1 0) (fun x => 2 - x.1) ((0, fun _ => 0)) ⟨Nat.zero_le _, .start a b⟩ (StLe.of_eq rfl) rfl (fun x hx => ?_)
 obtain ⟨i, F0⟩ := x
 simp only at hx ⊢
 refine Pg ?_;refine R.fin [2, 3, 4, 5, 6, 18] ?_
 refine W.cond (fun ht18 => ?_) (fun ht18 => ?_)
 ·have hi : i < 2 := by simp at ht18; omega
  refine Ji ?_;refine Z1 ?_;refine R.fin [2, 3, 4, 5, 6, 7] ?_;refine Z1 ?_;refine ls ?_
  refine AW.loopC (α := Nat × Nat × (Nat → Nat)) (fun y => ⟨68, A5 2 (.ro (wF sa (dig a))) (A5 3 (.ro (wF sb (dig b))) (A5 4 (.ptr (oid Hp.length 0) 0) (A5 5 (.ptr (oid Hp.length 1) 0) (A5 6 (A3 (i : Nat)) (A5 7 (Cb (y.2.1 : Nat)) (A5 8 (A3 (y.1 : Nat)) (fun _ => .any))))))), Hp, [ .cells 84 [Ao false, Cb 0, Cb 0, Cb 0, Cb 0, Cb 0],  .cells 84 (wF (sa != sb) (y.2.2))], [], none⟩) (fun y => MulAt y.2.2 y.2.1 a b i y.1) (fun y => 5 - (i + y.1)) ((0, 0, F0)) hx.2 (StLe.of_eq rfl) rfl (fun y hm => ?_)
  obtain ⟨k, c, F⟩ := y
  simp only at hm ⊢
  refine Pg ?_;refine Z14 ?_;refine ld ?_;refine R.fin [2, 3, 4, 5, 6, 7, 8, 26] ?_
  refine W.cond (fun ht26 => ?_) (fun ht26 => ?_)
  ·have hp4 := hm.idx ha hb hi (by have h26 := ht26; simp at h26; omega)
   refine Ji ?_;refine Z1 ?_;refine R.fin [2, 3, 4, 5, 6, 7, 8, 9] ?_;refine Pg ?_;refine R.fin [2, 3, 4, 5, 6, 7, 8, 9, 30] ?_
   refine W.cond (fun ht30 => ?_) (fun ht30 => ?_)
   ·have hk2 : k < 2 := by simp at ht30; omega
    refine W.draw0 [0, 0, 3, 7, 0, 0, 48, 112, 255, 511] 8 Ae (by kernel_rfl) ?_;refine D.move ?_;refine D.fieldAddrRo (off := 1) jU Tryz.sizeOf82 ?_;refine D.indexArrRo (i) jU Tryz.sizeOf81 (by omega) (hoff := Mo (by omega)) ?_;refine D.loadRo jA ?_;refine D.move ?_;refine D.fieldAddrRo (off := 1) jU Tryz.sizeOf82 ?_;refine D.indexArrRo (k) jU Tryz.sizeOf81 (by omega) (hoff := Mo (by omega)) ?_;refine D.loadRo jA ?_;refine D.tail ?_;refine R.mul ?_;refine B3 ?_;refine R.fin [2, 3, 4, 5, 6, 7, 8, 9] ?_;refine K.thN ?_;refine B9 ?_
    first | rw [ACa (B2 a i) (B2 b k)] | skip
    refine Z53 ?_;refine R.add64 ?_;refine Z76 ?_;refine R.loadOwn jA (hy := oy (by omega)) ?_;refine C3 ?_;refine R.rem ?_
    first | rw [Ry (dig a i * dig b k)] | rw [wg hz]
    refine R.add ?_;refine C3 ?_;refine R.rem ?_
    rw [Ry c]
    refine R.add ?_;refine B3 ?_;refine rl ?_;refine B9 ?_
    rw [jp (by have := Ep (B2 a i) (B2 b k); have := hm.dg (i + k); have := hm.c2; omega)]
    refine Z53 ?_;refine qg ?_;refine R.rem ?_
    rw [Ry (F (i + k) + dig a i * dig b k % 4294967296 + c % 4294967296)]
    refine Z76 ?_
    refine R.storeOwn jS (hput := V1 (g := jq F (i + k) ((F (i + k) + dig a i * dig b k % 4294967296 + c % 4294967296) % 4294967296)) (by omega) (if_pos rfl) (fun j hj => if_neg hj)) (hfit := by simp; omega) ?_
    refine rl ?_;refine Z5 ?_;refine R.quo ?_
    rw [Rz (x := (F (i + k) + dig a i * dig b k % 4294967296 + c % 4294967296)) (by have := Ep (B2 a i) (B2 b k); have := hm.dg (i + k); have := hm.c2; omega)]
    refine C3 ?_;refine R.quo ?_
    first | rw [Rz (x := dig a i * dig b k) (Ep (B2 a i) (B2 b k)).2] | rw [wh hz]
    refine R.add ?_;refine C3 ?_;refine R.quo ?_
    rw [Rz (x := c) (by have := Ep (B2 a i) (B2 b k); have := hm.dg (i + k); have := hm.c2; omega)]
    refine R.add ?_
    rw [jp (by have := Ep (B2 a i) (B2 b k); have := hm.dg (i + k); have := hm.c2; omega)]
    refine B3 ?_;refine ls ?_;refine Ob ?_;refine ls ?_
    refine K.lpN (k + 1, _, _) (hm.step (by omega)) (by show 5 - (i + (k + 1)) < 5 - (i + k); omega) (StCut.of_eq rfl)
   have hk2 : 2 ≤ k := by simp at ht30; omega
   have hz : dig a i * dig b k = 0 := by rw [js hb hk2, Nat.mul_zero]
   refine Oa ?_
   first | rw [ACa (B2 a i) (B2 b k)] | skip
   refine Z53 ?_;refine R.add64 ?_;refine Z76 ?_;refine R.loadOwn jA (hy := oy (by omega)) ?_;refine C3 ?_;refine R.rem ?_
   first | rw [Ry (dig a i * dig b k)] | rw [wg hz]
   refine R.add ?_;refine C3 ?_;refine R.rem ?_
   rw [Ry c]
   refine R.add ?_;refine B3 ?_;refine rl ?_;refine B9 ?_
   rw [jp (by have := Ep (B2 a i) (B2 b k); have := hm.dg (i + k); have := hm.c2; omega)]
   refine Z53 ?_;refine qg ?_;refine R.rem ?_
   rw [Ry (F (i + k) + dig a i * dig b k % 4294967296 + c % 4294967296)]
   refine Z76 ?_
   refine R.storeOwn jS (hput := V1 (g := jq F (i + k) ((F (i + k) + dig a i * dig b k % 4294967296 + c % 4294967296) % 4294967296)) (by omega) (if_pos rfl) (fun j hj => if_neg hj)) (hfit := by simp; omega) ?_
   refine rl ?_;refine Z5 ?_;refine R.quo ?_
   rw [Rz (x := (F (i + k) + dig a i * dig b k % 4294967296 + c % 4294967296)) (by have := Ep (B2 a i) (B2 b k); have := hm.dg (i + k); have := hm.c2; omega)]
   refine C3 ?_;refine R.quo ?_
   first | rw [Rz (x := dig a i * dig b k) (Ep (B2 a i) (B2 b k)).2] | rw [wh hz]
   refine R.add ?_;refine C3 ?_;refine R.quo ?_
   rw [Rz (x := c) (by have := Ep (B2 a i) (B2 b k); have := hm.dg (i + k); have := hm.c2; omega)]
   refine R.add ?_
   rw [jp (by have := Ep (B2 a i) (B2 b k); have := hm.dg (i + k); have := hm.c2; omega)]
   refine B3 ?_;refine ls ?_;refine Ob ?_;refine ls ?_
   refine K.lpN (k + 1, _, _) (hm.step (by omega)) (by show 5 - (i + (k + 1)) < 5 - (i + k); omega) (StCut.of_eq rfl)
  have hkc : 2 ≤ k ∧ c = 0 := by simp at ht26; omega
  obtain ⟨hk2, hc0⟩ := hkc
  subst hc0
  refine Z40 ?_;refine K.lpE ?_;refine Ob ?_;refine R.fin [2, 3, 4, 5, 6] ?_
  refine K.lpN (i + 1, F) ⟨hi, hm.next hb hk2⟩ (by show 2 - (i + 1) < 2 - i; omega) (StCut.of_eq rfl)
 have hie : i = 2 := by have := hx.1; simp at ht18; omega
 have hF := MulAt.done (hie ▸ hx.2) ha
 refine Z81 ?_;refine Z20 ?_;refine Z89 ?_;exact K.fin (V.one (V.cellN jA jS)) ⟨by rw [hF 0 (by decide), hF 1 (by decide), hF 2 (by decide), hF 3 (by decide), hF 4 (by decide)], rfl⟩

/-- A wide number as a number of 64 bits. -/
def Gp (s : Bool) (m : Nat) : Int × Int := if (s && decide (m ≤ 9223372036854775808)) = true then (-(m : Int), 0) else if ((!s) && decide (m ≤ 9223372036854775807)) = true then ((m : Int), 0) else (0, 4)
theorem oz {x y : Nat} (hx : x < 4294967296) (hy : y < 4294967296) : IntKind.u64.wrap (IntKind.u64.wrap ((y : Int) * 4294967296) + (x : Int)) = ((x + 4294967296 * y : Nat) : Int) := by
 simp only [IntKind.wrap_u64]; omega
theorem jt {m : Nat} (hm : m < B32 ^ 5) (h : (decide (0 < ((dig m 2 + dig m 3 + dig m 4 : Nat) : Int)) || decide (4294967296 ≤ ((dig m 1 : Nat) : Int))) = true) : 18446744073709551616 ≤ m := by
 rcases Nat.lt_or_ge m 18446744073709551616 with h1 | h1
 ·exfalso
  have e2 : dig m 2 = 0 := Ee (Nat.lt_of_lt_of_le h1 (by decide))
  have e3 : dig m 3 = 0 := Ee (Nat.lt_of_lt_of_le h1 (by decide))
  have e4 : dig m 4 = 0 := Ee (Nat.lt_of_lt_of_le h1 (by decide))
  have := B2 m 1
  rw [e2, e3, e4] at h
  simp at h
  omega
 exact h1
theorem ju {m : Nat} (hm : m < B32 ^ 5) (h : (decide (0 < ((dig m 2 + dig m 3 + dig m 4 : Nat) : Int)) || decide (4294967296 ≤ ((dig m 1 : Nat) : Int))) = false) : dig m 0 + 4294967296 * dig m 1 = m := by
 simp only [Bool.or_eq_false_iff, decide_eq_false_iff_not] at h
 have h2 : dig m 2 = 0 := by omega
 have h3 : dig m 3 = 0 := by omega
 have h4 : dig m 4 = 0 := by omega
 have e := eg (F := dig m) (fun j => B2 m j)
 have m0 := Nat.mod_add_div m 4294967296
 have m1 := Nat.mod_add_div (m / 4294967296) 4294967296
 unfold dig at *
 simp only [B32, Nat.reducePow, Nat.div_one, Nat.pow_zero, Nat.pow_one] at *
 omega
theorem ve {s : Bool} {m : Nat} (h : 18446744073709551616 ≤ m) : Gp s m = (0, 4) := by
 unfold Gp
 rw [if_neg (by simp; omega), if_neg (by simp; omega)]
theorem ACb {u : Nat} (h : u ≤ 9223372036854775808) : IntKind.i64.wrap (IntKind.u64.wrap (0 - (u : Int))) = -(u : Int) := by
 simp only [IntKind.wrap_u64, IntKind.wrap_i64]; omega
theorem ACc {u : Nat} (h : u ≤ 9223372036854775807) : IntKind.i64.wrap (u : Int) = (u : Int) := by
 simp only [IntKind.wrap_i64]; omega
theorem c58 (s : Bool) (m : Nat) (hm : m < B32 ^ 5) (Hp : List AObj) : AFun Tryz.prog 58 [.agg (wF s (dig m))] Hp (.tup [A3 (Gp s m).1, A3 (Gp s m).2]) := by
 refine ACall.body [.tmp 2, .tmp 3] [0] Tryz.func58 Tryz.ntmps58 (fun d => ?_)
 refine Z47 ?_;refine Z18 ?_;refine R.fin [1] ?_;refine B9 ?_;refine lu ?_;refine R.indexArrRo (1) jU Tryz.sizeOf81 (by decide) (hoff := Mo (by decide)) ?_;refine Ff ?_;refine R.mul ?_;refine lu ?_;refine R.indexArrRo (0) jU Tryz.sizeOf81 (by decide) (hoff := Mo (by decide)) ?_;refine Ff ?_;refine R.add ?_
 rw [oz (B2 m 0) (B2 m 1)]
 refine l4 ?_;refine Z29 ?_;refine lu ?_;refine R.indexArrRo (2) jU Tryz.sizeOf81 (by decide) (hoff := Mo (by decide)) ?_;refine Ff ?_;refine lu ?_;refine R.indexArrRo (3) jU Tryz.sizeOf81 (by decide) (hoff := Mo (by decide)) ?_;refine Ff ?_;refine R.add ?_;refine lu ?_;refine R.indexArrRo (4) jU Tryz.sizeOf81 (by decide) (hoff := Mo (by decide)) ?_;refine Ff ?_;refine R.add ?_
 rw [jp (by have := B2 m 2; have := B2 m 3; have := B2 m 4; omega)]
 refine R.gtr ?_;refine C3 ?_;refine G.fieldAddrRo (off := 1) jU Tryz.sizeOf82 ?_;refine G.indexArrRo (1) jU Tryz.sizeOf81 (by decide) (hoff := Mo (by decide)) ?_;refine G.loadRo jA ?_;refine G.geq ?_;refine H7 ?_;refine R.fin [1, 4, 30] ?_
 refine W.cond (fun ht30 => ?_) (fun ht30 => ?_)
 ·have hw := ve (s := s) (jt hm ht30)
  refine Pf ?_;exact wz
 have hu := ju hm ht30
 rw [hu]
 refine Zi ?_;refine Z65 ?_;refine Z14 ?_;refine G.leq ?_;refine F6 ?_;refine R.fin [1, 4, 36] ?_
 refine W.cond (fun ht36 => ?_) (fun ht36 => ?_)
 ·have hw : Gp s m = (-(m : Int), 0) := if_pos (by simp at ht36 ⊢; exact ⟨ht36.1, by omega⟩)
  refine Z0 ?_;refine R.sub ?_;refine R.iconv jU jU ?_
  rw [ACb (by simp at ht36; omega)]
  refine gx ?_;exact wz
 refine Zi ?_;refine Z65 ?_;refine R.not ?_;refine Z14 ?_;refine G.leq ?_;refine F6 ?_;refine R.fin [4, 46] ?_
 refine W.cond (fun ht46 => ?_) (fun ht46 => ?_)
 ·have hw : Gp s m = ((m : Int), 0) := by
   unfold Gp
   rw [if_neg (by simp at ht46 ⊢; simp [ht46.1]), if_pos (by simp at ht46 ⊢; exact ⟨ht46.1, by omega⟩)]
  refine Z0 ?_;refine R.iconv jU jU ?_
  rw [ACc (by simp at ht46; omega)]
  refine gx ?_;exact wz
 have hw : Gp s m = (0, 4) := by
  unfold Gp
  rw [if_neg (by simp at ht36 ⊢; intro hs; have := ht36 hs; omega), if_neg (by simp at ht46 ⊢; intro hs; have := ht46 hs; omega)]
 refine Z4 ?_;refine Pf ?_;exact K.fin (V.two V.tmp V.tmp) ⟨by rw [hw], rfl⟩

set_option maxRecDepth 8000
/-! The reference's reading of a number. -/
def rdS (x : Nat × Bool) (c : UInt8) : Nat × Bool := if x.2 then x else (x.1 * 10 + (c.toNat - 48), decide (18446744073709551616 ≤ x.1 * 10 + (c.toNat - 48)))
def rdL (d : Str) : Nat × Bool := d.foldl rdS (0, false)
def Mp (c : UInt8) : Bool := (decide (48 ≤ c.toNat) && decide (c.toNat ≤ 57))
theorem V2 : ∀ (l : Str) (m : Nat), l.foldl rdS (m, true) = (m, true)
 | [], m => rfl
 | c :: r, m => V2 r m
theorem eh {d : Str} {i : Nat} (h : i < d.length) : rdL (d.take (i + 1)) = rdS (rdL (d.take i)) d[i] := by
 unfold rdL
 rw [List.take_succ_eq_append_getElem h, List.foldl_append]
 rfl
theorem p8 {l : Str} (hl : ∀ c ∈ l, Mp c = true) : ∀ x : Nat × Bool, (x.2 = false → x.1 < 18446744073709551616) → (l.foldl rdS x).2 = false → (l.foldl rdS x).1 < 18446744073709551616 := by
 induction l with
 | nil => exact fun x h h2 => h h2
 | cons c r ih =>
  intro x h h2
  refine ih (fun y hy => hl y (List.mem_cons_of_mem _ hy)) (rdS x c) (fun h3 => ?_) h2
  unfold rdS at h3 ⊢
  split
  ·rename_i h4; rw [if_pos h4] at h3; rw [h4] at h3; cases h3
  rename_i h4; rw [if_neg h4] at h3; simp at h3; simpa using h3
theorem Y5 : ∀ (l : Str) (m : Nat), (∀ c ∈ l, Mp c = true) → m < 18446744073709551616 → Lib.parseUintM 18446744073709551615 m l = if (l.foldl rdS (m, false)).2 = true then .range else .ok (l.foldl rdS (m, false)).1
 | [], m, _, _ => by rw [Lib.parseUintM]; rfl
 | c :: r, m, h, hm => by
  have hc := h c (by simp)
  unfold Mp at hc
  simp only [Bool.and_eq_true, decide_eq_true_eq] at hc
  have hr := fun y hy => h y (List.mem_cons_of_mem _ hy)
  have e : (c :: r).foldl rdS (m, false) = r.foldl rdS (m * 10 + (c.toNat - 48), decide (18446744073709551616 ≤ m * 10 + (c.toNat - 48))) := rfl
  rw [Lib.parseUintM, if_pos hc, e]
  by_cases h1 : 1844674407370955162 ≤ m
  ·rw [if_pos h1, decide_eq_true (by omega), V2, if_pos rfl]
  rw [if_neg h1]
  by_cases h2 : 18446744073709551615 < m * 10 + (c.toNat - 48)
  ·rw [if_pos h2, decide_eq_true (by omega), V2, if_pos rfl]
  rw [if_neg h2, decide_eq_false (by omega)]
  exact Y5 r _ hr (by omega)
theorem ek (c : UInt8) : Mp c = digs.contains c := (I0 c).symm
/-- What is wrong with a text that is no number. -/
theorem vf {s d : Str} (hd : d = Ha s) (h : ((((d.length : Nat) : Int) == 0) || (decide ((1 : Int) < ((s.length : Nat) : Int)) && (((d.headD 0).toNat : Int) == 48))) = true) : Ad s = (0, 6) := by
 have : Cx s = true := by
  unfold Cx
  rw [← hd]
  simp only [Bool.or_eq_true, Bool.and_eq_true, beq_iff_eq, decide_eq_true_eq] at h
  rcases h with h | ⟨h1, h2⟩
  ·have : d = [] := List.eq_nil_of_length_eq_zero (by omega)
   rw [this]; rfl
  have e : d.headD 0 = 48 := UInt8.toNat_inj.1 (by have : (48 : UInt8).toNat = 48 := rfl; omega)
  rw [e, decide_eq_true (by omega)]
  simp
 unfold Ad
 rw [if_pos this]
theorem vg {s d : Str} (hd : d = Ha s) {i : Nat} (hi : i < d.length) (h : (decide (((d[i].toNat : Nat) : Int) < 48) || decide ((57 : Int) < ((d[i].toNat : Nat) : Int))) = true) : Ad s = (0, 6) := by
 have : Cx s = true := by
  unfold Cx
  rw [← hd]
  cases hb : Lib.trimS d digs == [] with
  | false => simp
  | true =>
   exfalso
   have hb' := trimS_nil.1 (eq_of_beq hb) d[i] (List.getElem_mem hi)
   rw [← ek] at hb'
   unfold Mp at hb'
   simp only [Bool.and_eq_true, decide_eq_true_eq] at hb'
   simp only [Bool.or_eq_true, decide_eq_true_eq] at h
   omega
 unfold Ad
 rw [if_pos this]
theorem en {s d : Str} (hd : d = Ha s) (h : ((((d.length : Nat) : Int) == 0) || (decide ((1 : Int) < ((s.length : Nat) : Int)) && (((d.headD 0).toNat : Int) == 48))) = false) (ha : ∀ c ∈ d, Mp c = true) : Ad s = if (rdL d).2 = true then (0, 4) else Gp (decide (((d.length : Nat) : Int) < ((s.length : Nat) : Int))) (rdL d).1 := by
 simp only [Bool.or_eq_false_iff, Bool.and_eq_false_iff, beq_eq_false_iff_ne, ne_eq, decide_eq_false_iff_not] at h
 have hne : d ≠ [] := fun e => h.1 (by rw [e]; rfl)
 have hg : Cx s = false := by
  unfold Cx
  rw [← hd]
  have h1 : (d == []) = false := by simpa using hne
  have h2 : (Lib.trimS d digs == []) = true := by
   have := trimS_nil.2 (fun b hb => by rw [← ek]; exact ha b hb)
   simpa using this
  have h3 : ((d.headD 0 == 48) && decide (1 < s.length)) = false := by
   rw [Bool.and_eq_false_iff]
   rcases h.2 with h4 | h4
   ·exact .inr (decide_eq_false (by omega))
   refine .inl ?_
   rw [beq_eq_false_iff_ne]
   intro e
   rw [e] at h4
   exact h4 rfl
  rw [h1, h2, h3]
  rfl
 have hl := p8 ha (0, false) (fun _ => by decide)
 have hp := Y5 d 0 ha (by decide)
 have hU : Lib.parseUintB 64 d = if (rdL d).2 = true then .range else .ok (rdL d).1 := by
  unfold Lib.parseUintB
  rw [if_neg hne]
  exact hp
 unfold Ad
 rw [hg, if_neg (by simp)]
 have p1 : (2 : Nat) ^ (64 - 1) = 9223372036854775808 := rfl
 rcases G8 s with ⟨h3, h4⟩ | ⟨r, h3, h4⟩
 ·have e : d = s := hd.trans h4
  subst e
  cases d with
  | nil => exact absurd rfl hne
  | cons c r =>
   have hc := ha c (by simp)
   unfold Mp at hc
   simp only [Bool.and_eq_true, decide_eq_true_eq] at hc
   have n1 : ¬ (c.toNat = 43 ∨ c.toNat = 45) := by omega
   have n2 : ¬ c.toNat = 45 := by omega
   simp only [Lib.parseIntB, if_neg n1, hU]
   cases ho : (rdL (c :: r)).2 with
   | true => simp
   | false =>
    have hm := hl ho
    simp only [Bool.false_eq_true, if_false]
    rw [decide_eq_false (show ¬ (((c :: r).length : Nat) : Int) < (((c :: r).length : Nat) : Int) by omega)]
    unfold Gp
    simp only [n2, not_false_eq_true, true_and, false_and, if_false, Bool.false_and, Bool.not_false, Bool.true_and, Bool.false_eq_true, decide_eq_true_eq]
    by_cases hx : 2 ^ (64 - 1) ≤ (rdL (c :: r)).1
    ·rw [if_pos hx, if_neg (by omega)]
    rw [if_neg hx, if_pos (by omega)]
 have e : d = r := hd.trans h4
 subst e
 subst h3
 have n1 : ((45 : UInt8).toNat = 43 ∨ (45 : UInt8).toNat = 45) := .inr rfl
 have n2 : (45 : UInt8).toNat = 45 := rfl
 simp only [Lib.parseIntB, if_pos n1, hU]
 cases ho : (rdL d).2 with
 | true => simp
 | false =>
  have hm := hl ho
  simp only [Bool.false_eq_true, if_false]
  rw [decide_eq_true (show ((d.length : Nat) : Int) < (((45 :: d : Str).length : Nat) : Int) by simp; omega)]
  unfold Gp
  simp only [n2, not_true_eq_false, true_and, false_and, if_false, if_true, Bool.not_true, Bool.false_and, Bool.true_and, Bool.false_eq_true, decide_eq_true_eq]
  by_cases hx : 2 ^ (64 - 1) < (rdL d).1
  ·rw [if_pos hx, if_neg (by omega)]
  rw [if_neg hx, if_pos (by omega)]
set_option maxRecDepth 4000
theorem gd1 {s : Str} (h : (decide ((0 : Int) < ((s.length : Nat) : Int)) == true) = true) : s ≠ [] := by rintro rfl; simp at h
theorem gd2 {d : Str} {b : Bool} (h : (((((d.length : Nat) : Int) == 0) == false) && b) = true) : d ≠ [] := by rintro rfl; simp at h
theorem ACd (a b : Nat) (ha : a < B32 ^ 5) (hb : b < B32 ^ 5) (Hp : List AObj) : AFun Tryz.prog 56 [.agg (wF false (dig a)), .agg (wF false (dig b))] Hp (.agg (wF false (dig (a + b)))) := c56 false a false b ha hb Hp
theorem AE0 (a b : Nat) (ha : a < B32 ^ 2) (hb : b < B32 ^ 2) (Hp : List AObj) : AFun Tryz.prog 57 [.agg (wF false (dig a)), .agg (wF false (dig b))] Hp (.agg (wF false (dig (a * b)))) := c57 false a false b ha hb Hp
theorem AE1 (Hp : List AObj) : AFun Tryz.prog 55 [A3 10] Hp (.agg (wF false (dig 10))) := ADz 10 (by decide) (by decide) Hp
theorem eo {p q : Nat} (hp : p < 256) (hq : q < 256) : B8 (wF false (dig p)) 1 [Cb (q : Nat)] = wF false (dig q) := by
 have h0 : dig q 0 = q := by rw [wc]; omega
 refine V1 (k := 0) (by decide) h0 fun i hi => ?_
 have hb : B32 ^ 1 ≤ B32 ^ i := Nat.pow_le_pow_right (by decide) (by omega)
 have hb1 : (256 : Nat) ≤ B32 ^ 1 := by decide
 rw [Ee (m := q) (i := i) (by omega), Ee (m := p) (i := i) (by omega)]
theorem ep : wF false (dig 0) = [Ao false, Cb 0, Cb 0, Cb 0, Cb 0, Cb 0] := by
 have : ∀ i, dig 0 i = 0 := fun i => by unfold dig; simp
 unfold wF
 rw [this, this, this, this, this]
 rfl
theorem w48 {c : UInt8} (h : 48 ≤ c.toNat) : IntKind.u64.wrap (IntKind.u64.wrap ((c.toNat : Nat) : Int) - 48) = ((c.toNat - 48 : Nat) : Int) := by
 have := c.toNat_lt
 simp only [IntKind.wrap_u64]
 omega
theorem Y6 {m : Nat} (h : m < B32 ^ 3) : decide (0 < ((dig m 2 : Nat) : Int)) = decide (18446744073709551616 ≤ m) := by
 rw [decide_eq_decide]
 unfold dig
 simp only [B32, Nat.reducePow] at h ⊢
 omega
structure RdAt (d : Str) (x : Nat × Nat) : Prop where
 le : x.1 ≤ d.length
 dg : ∀ (j : Nat) (c : UInt8), j < x.1 → d[j]? = some c → Mp c = true
 one : x.2 < 256
theorem RdAt.low {d : Str} {x : Nat × Nat} (h : RdAt d x) (ho : (rdL (d.take x.1)).2 = false) : (rdL (d.take x.1)).1 < 18446744073709551616 := by
 refine p8 (l := d.take x.1) (fun c hc => ?_) (0, false) (fun _ => by decide) ho
 obtain ⟨j, hj⟩ := List.getElem?_of_mem hc
 have hj1 : j < x.1 := by
  have := (List.getElem?_eq_some_iff.1 hj).1
  rw [List.length_take] at this
  omega
 rw [List.getElem?_take, if_pos hj1] at hj
 exact h.dg j c hj1 hj
theorem c27 (s : Str) (hs : s.length ≤ 1048576) (Hp : List AObj) : AFun Tryz.prog 27 [A7 s] Hp (.tup [A3 (Ad s).1, A3 (Ad s).2]) := by
 refine ACall.body [.tmp 2, .tmp 3] [0] Tryz.func27 Tryz.ntmps27 (fun d => ?_)
 refine Z1 ?_;refine B3 ?_;refine R.fin [0] ?_;refine gt ?_;refine R.fin [0, 4] ?_;refine Z8 ?_;refine Za ?_;refine Z14 ?_;refine G.sindex 0 (s.headD 0) jU (fun hB => I9 (gd1 hB))  ?_;refine G.eql ?_;refine F6 ?_;refine R.fin [0, 4, 18] ?_
 refine W.cond (fun ht18 => ?_) (fun ht18 => ?_)
 ·have h45 : s.headD 0 = 45 := by
   simp only [Bool.and_eq_true, decide_eq_true_eq, beq_iff_eq] at ht18
   exact UInt8.toNat_inj.1 (by have : (45 : UInt8).toNat = 45 := rfl; have := ht18.2; omega)
  have h1s : 1 ≤ s.length := by simp only [Bool.and_eq_true, decide_eq_true_eq] at ht18; have := ht18.1; omega
  obtain ⟨d, hd0⟩ : ∃ d, d = s.drop 1 := ⟨_, rfl⟩
  have hd : d = Ha s := by
   rw [hd0]
   rcases G8 s with ⟨h3, h4⟩ | ⟨r, h3, h4⟩
   ·exfalso
    cases s with
    | nil => simp at h1s
    | cons c r => simp at h3 h45; exact h3 h45
   rw [h4, h3]; rfl
  have hdl : d.length ≤ 1048576 := by rw [hd0, List.length_drop]; omega
  refine Z5 ?_;refine R.scutL 1 jU h1s (Nat.le_refl _) ?_;refine B3 ?_;refine R.fin [0, 4] ?_;refine K.thN ?_;refine Z29 ?_
  refine R.wk 4 (A7 d) (by rw [hd0]; exact Le.refl _) ?_
  refine Z69 ?_;refine U4 ?_;refine G.slen jU ?_;refine G.gtr ?_;refine Rg ?_;refine G.sindex 0 (d.headD 0) jU (fun hB => I9 (gd2 hB))  ?_;refine G.eql ?_;refine G.pickAnd ?_;refine H7 ?_;refine R.fin [0, 4, 33] ?_
  refine W.cond (fun ht33 => ?_) (fun ht33 => ?_)
  ·exact r8
  refine Oa ?_;refine Z95 ?_;refine R.fin [0, 4, 5] ?_;refine Z1 ?_;refine R.fin [0, 4, 5, 6] ?_;refine B9 ?_;refine AA8 ?_;refine gn ?_;refine R.fin [0, 4, 5, 6, 7, 8] ?_;refine Lr ?_;refine Rm ?_
  refine AW.loopC (α := Nat × Nat) (fun x => ⟨82, A5 0 (A7 s) (A5 4 (A7 d) (A5 5 (.ptr (oid Hp.length 0) 0) (A5 6 (Ao (rdL (d.take x.1)).2) (A5 7 (.ptr (oid Hp.length 1) 0) (A5 8 (.ptr (oid Hp.length 2) 0) (A5 9 (A3 (x.1 : Nat)) (fun _ => .any))))))), Hp, [ .cells 84 (wF false (dig (rdL (d.take x.1)).1)),  .cells 84 (wF false (dig 10)),  .cells 84 (wF false (dig x.2))], [], none⟩) (fun x => RdAt d x) (fun x => d.length - x.1) ((0, 0)) ⟨Nat.zero_le _, fun j c hj => by omega, by decide⟩ (StLe.of_eq (by simp only [List.take_zero, show rdL [] = (0, false) from rfl, ep] <;> rfl)) rfl (fun x hx => ?_)
  obtain ⟨i, p⟩ := x
  simp only at hx ⊢
  refine kx ?_;refine R.fin [0, 4, 5, 6, 7, 8, 9, 40] ?_
  refine W.cond (fun ht40 => ?_) (fun ht40 => ?_)
  ·have hil : i < d.length := by simp at ht40; omega
   refine Ji ?_;refine Vs ?_
   refine R.sindex i d[i] jU (List.getElem?_eq_getElem hil)  ?_
   refine R.lss ?_;refine Pd ?_
   refine G.sindex i d[i] jU (fun _ => List.getElem?_eq_getElem hil)  ?_
   refine ld ?_;refine R.fin [0, 4, 5, 6, 7, 8, 9, 52] ?_
   refine W.cond (fun ht52 => ?_) (fun ht52 => ?_)
   ·refine Pf ?_;refine K.thR ?_;refine Ys ?_;exact Z41
   have hdc : 48 ≤ d[i].toNat ∧ d[i].toNat ≤ 57 := by
    simp only [Bool.or_eq_false_iff, decide_eq_false_iff_not] at ht52
    omega
   have hnx := eh hil
   refine Zh ?_
   refine R.sindex i d[i] jU (List.getElem?_eq_getElem hil)  ?_
   refine R.iconv jU jU ?_;refine R.sub ?_
   rw [w48 hdc.1]
   refine Z98 ?_
   refine R.storeOwn jS (hput := eo hx.one (q := (d[i].toNat - 48)) (by have := (d[i]).toNat_lt; omega)) (hfit := by simp) ?_
   refine Rm ?_;refine Z0 ?_;refine R.not ?_;refine R.fin [0, 4, 5, 6, 7, 8, 9, 61] ?_
   refine W.cond (fun ht61 => ?_) (fun ht61 => ?_)
   ·have ho : (rdL (d.take i)).2 = false := by simpa using ht61
    have hml := hx.low ho
    simp only at hml
    have hm2 : (rdL (d.take i)).1 < B32 ^ 2 := hml
    have hm5 : (rdL (d.take i)).1 * 10 < B32 ^ 5 := Nat.lt_of_lt_of_le (show (rdL (d.take i)).1 * 10 < 184467440737095516170 by omega) (by decide)
    have hm3 : (rdL (d.take i)).1 * 10 + (d[i].toNat - 48) < B32 ^ 3 := Nat.lt_of_lt_of_le (show (rdL (d.take i)).1 * 10 + (d[i].toNat - 48) < 184467440737095516170 by omega) (by decide)
    have hst : rdL (d.take (i + 1)) = ((rdL (d.take i)).1 * 10 + (d[i].toNat - 48), decide (18446744073709551616 ≤ (rdL (d.take i)).1 * 10 + (d[i].toNat - 48))) := by rw [hnx]; exact if_neg (by rw [ho]; simp)
    refine AAo ?_;refine AAd ?_;refine Rl ?_;refine D.tail ?_
    refine R.call Tryz.call56 (ACd ((rdL (d.take i)).1 * 10) (d[i].toNat - 48) hm5 (Nat.lt_of_lt_of_le (show (d[i].toNat - 48) < 256 by have := (d[i]).toNat_lt; omega) (by decide)) _) ?_
    refine Fi ?_;refine R.fin [0, 4, 5, 7, 8, 9] ?_;refine H8 ?_;refine AA5 ?_;refine Kq ?_;refine R.gtr ?_
    rw [Y6 hm3]
    refine B3 ?_;refine Rm ?_;refine Ob ?_;refine Rm ?_
    refine K.lpN (i + 1, (d[i].toNat - 48)) ⟨hil, fun j c hj hc => ?_, by have := (d[i]).toNat_lt; show d[i].toNat - 48 < 256; omega⟩ (by show d.length - (i + 1) < d.length - i; omega) (StCut.of_eq (by rw [hst] <;> rfl))
    rcases Nat.lt_or_ge j i with h | h
    ·exact hx.dg j c h hc
    have : j = i := by have hj' : j < i + 1 := hj; omega
    subst this
    rw [List.getElem?_eq_getElem hil] at hc
    injection hc with hc
    rw [← hc]
    unfold Mp
    simp only [Bool.and_eq_true, decide_eq_true_eq]
    exact hdc
   have ho : (rdL (d.take i)).2 = true := by simpa using ht61
   have hst : rdL (d.take (i + 1)) = rdL (d.take i) := by rw [hnx]; exact if_pos ho
   refine Zf ?_;refine Rm ?_
   refine K.lpN (i + 1, (d[i].toNat - 48)) ⟨hil, fun j c hj hc => ?_, by have := (d[i]).toNat_lt; show d[i].toNat - 48 < 256; omega⟩ (by show d.length - (i + 1) < d.length - i; omega) (StCut.of_eq (by rw [hst] <;> rfl))
   rcases Nat.lt_or_ge j i with h | h
   ·exact hx.dg j c h hc
   have : j = i := by have hj' : j < i + 1 := hj; omega
   subst this
   rw [List.getElem?_eq_getElem hil] at hc
   injection hc with hc
   rw [← hc]
   unfold Mp
   simp only [Bool.and_eq_true, decide_eq_true_eq]
   exact hdc
  have hie : d.take i = d := List.take_of_length_le (by simp at ht40; omega)
  have hall : ∀ c ∈ d, Mp c = true := fun c hc => by
   obtain ⟨j, hj⟩ := List.getElem?_of_mem hc
   exact hx.dg j c (by have := (List.getElem?_eq_some_iff.1 hj).1; simp at ht40; omega) hj
  have hgood := en hd ht33 hall
  have hlow := hx.low
  simp only at hlow
  rw [hie] at hlow ⊢
  refine Z81 ?_;refine Z0 ?_;refine R.slen jU ?_;refine wq ?_;refine xd ?_;refine R.fin [5, 6] ?_;refine Z8 ?_;refine R.fin [5, 77] ?_
  refine W.cond (fun ht77 => ?_) (fun ht77 => ?_)
  ·rw [if_pos ht77] at hgood
   exact r8
  rw [if_neg (by rw [ht77]; simp)] at hgood
  refine AAc ?_;refine Z25 ?_;refine Z18 ?_;exact zn
 obtain ⟨d, hd0⟩ : ∃ d, d = s := ⟨_, rfl⟩
 have hd : d = Ha s := by
  rw [hd0]
  rcases G8 s with ⟨h3, h4⟩ | ⟨r, h3, h4⟩
  ·exact h4.symm
  exfalso
  rw [h3] at ht18
  simp at ht18 <;> omega
 have hdl : d.length ≤ 1048576 := by rw [hd0]; exact hs
 refine Zi ?_
 refine R.wk 4 (A7 d) (by rw [hd0]; exact Le.refl _) ?_
 refine Z69 ?_;refine U4 ?_;refine G.slen jU ?_;refine G.gtr ?_;refine Rg ?_;refine G.sindex 0 (d.headD 0) jU (fun hB => I9 (gd2 hB))  ?_;refine G.eql ?_;refine G.pickAnd ?_;refine H7 ?_;refine R.fin [0, 4, 33] ?_
 refine W.cond (fun ht33 => ?_) (fun ht33 => ?_)
 ·exact r8
 refine Oa ?_;refine Z95 ?_;refine R.fin [0, 4, 5] ?_;refine Z1 ?_;refine R.fin [0, 4, 5, 6] ?_;refine B9 ?_;refine AA8 ?_;refine gn ?_;refine R.fin [0, 4, 5, 6, 7, 8] ?_;refine Lr ?_;refine Rm ?_
 refine AW.loopC (α := Nat × Nat) (fun x => ⟨82, A5 0 (A7 s) (A5 4 (A7 d) (A5 5 (.ptr (oid Hp.length 0) 0) (A5 6 (Ao (rdL (d.take x.1)).2) (A5 7 (.ptr (oid Hp.length 1) 0) (A5 8 (.ptr (oid Hp.length 2) 0) (A5 9 (A3 (x.1 : Nat)) (fun _ => .any))))))), Hp, [ .cells 84 (wF false (dig (rdL (d.take x.1)).1)),  .cells 84 (wF false (dig 10)),  .cells 84 (wF false (dig x.2))], [], none⟩) (fun x => RdAt d x) (fun x => d.length - x.1) ((0, 0)) ⟨Nat.zero_le _, fun j c hj => by omega, by decide⟩ (StLe.of_eq (by simp only [List.take_zero, show rdL [] = (0, false) from rfl, ep] <;> rfl)) rfl (fun x hx => ?_)
 obtain ⟨i, p⟩ := x
 simp only at hx ⊢
 refine kx ?_;refine R.fin [0, 4, 5, 6, 7, 8, 9, 40] ?_
 refine W.cond (fun ht40 => ?_) (fun ht40 => ?_)
 ·have hil : i < d.length := by simp at ht40; omega
  refine Ji ?_;refine Vs ?_
  refine R.sindex i d[i] jU (List.getElem?_eq_getElem hil)  ?_
  refine R.lss ?_;refine Pd ?_
  refine G.sindex i d[i] jU (fun _ => List.getElem?_eq_getElem hil)  ?_
  refine ld ?_;refine R.fin [0, 4, 5, 6, 7, 8, 9, 52] ?_
  refine W.cond (fun ht52 => ?_) (fun ht52 => ?_)
  ·refine Pf ?_;refine K.thR ?_;refine Ys ?_;exact Z41
  have hdc : 48 ≤ d[i].toNat ∧ d[i].toNat ≤ 57 := by
   simp only [Bool.or_eq_false_iff, decide_eq_false_iff_not] at ht52
   omega
  have hnx := eh hil
  refine Zh ?_
  refine R.sindex i d[i] jU (List.getElem?_eq_getElem hil)  ?_
  refine R.iconv jU jU ?_;refine R.sub ?_
  rw [w48 hdc.1]
  refine Z98 ?_
  refine R.storeOwn jS (hput := eo hx.one (q := (d[i].toNat - 48)) (by have := (d[i]).toNat_lt; omega)) (hfit := by simp) ?_
  refine Rm ?_;refine Z0 ?_;refine R.not ?_;refine R.fin [0, 4, 5, 6, 7, 8, 9, 61] ?_
  refine W.cond (fun ht61 => ?_) (fun ht61 => ?_)
  ·have ho : (rdL (d.take i)).2 = false := by simpa using ht61
   have hml := hx.low ho
   simp only at hml
   have hm2 : (rdL (d.take i)).1 < B32 ^ 2 := hml
   have hm5 : (rdL (d.take i)).1 * 10 < B32 ^ 5 := Nat.lt_of_lt_of_le (show (rdL (d.take i)).1 * 10 < 184467440737095516170 by omega) (by decide)
   have hm3 : (rdL (d.take i)).1 * 10 + (d[i].toNat - 48) < B32 ^ 3 := Nat.lt_of_lt_of_le (show (rdL (d.take i)).1 * 10 + (d[i].toNat - 48) < 184467440737095516170 by omega) (by decide)
   have hst : rdL (d.take (i + 1)) = ((rdL (d.take i)).1 * 10 + (d[i].toNat - 48), decide (18446744073709551616 ≤ (rdL (d.take i)).1 * 10 + (d[i].toNat - 48))) := by rw [hnx]; exact if_neg (by rw [ho]; simp)
   refine AAo ?_;refine AAd ?_;refine Rl ?_;refine D.tail ?_
   refine R.call Tryz.call56 (ACd ((rdL (d.take i)).1 * 10) (d[i].toNat - 48) hm5 (Nat.lt_of_lt_of_le (show (d[i].toNat - 48) < 256 by have := (d[i]).toNat_lt; omega) (by decide)) _) ?_
   refine Fi ?_;refine R.fin [0, 4, 5, 7, 8, 9] ?_;refine H8 ?_;refine AA5 ?_;refine Kq ?_;refine R.gtr ?_
   rw [Y6 hm3]
   refine B3 ?_;refine Rm ?_;refine Ob ?_;refine Rm ?_
   refine K.lpN (i + 1, (d[i].toNat - 48)) ⟨hil, fun j c hj hc => ?_, by have := (d[i]).toNat_lt; show d[i].toNat - 48 < 256; omega⟩ (by show d.length - (i + 1) < d.length - i; omega) (StCut.of_eq (by rw [hst] <;> rfl))
   rcases Nat.lt_or_ge j i with h | h
   ·exact hx.dg j c h hc
   have : j = i := by have hj' : j < i + 1 := hj; omega
   subst this
   rw [List.getElem?_eq_getElem hil] at hc
   injection hc with hc
   rw [← hc]
   unfold Mp
   simp only [Bool.and_eq_true, decide_eq_true_eq]
   exact hdc
  have ho : (rdL (d.take i)).2 = true := by simpa using ht61
  have hst : rdL (d.take (i + 1)) = rdL (d.take i) := by rw [hnx]; exact if_pos ho
  refine Zf ?_;refine Rm ?_
  refine K.lpN (i + 1, (d[i].toNat - 48)) ⟨hil, fun j c hj hc => ?_, by have := (d[i]).toNat_lt; show d[i].toNat - 48 < 256; omega⟩ (by show d.length - (i + 1) < d.length - i; omega) (StCut.of_eq (by rw [hst] <;> rfl))
  rcases Nat.lt_or_ge j i with h | h
  ·exact hx.dg j c h hc
  have : j = i := by have hj' : j < i + 1 := hj; omega
  subst this
  rw [List.getElem?_eq_getElem hil] at hc
  injection hc with hc
  rw [← hc]
  unfold Mp
  simp only [Bool.and_eq_true, decide_eq_true_eq]
  exact hdc
 have hie : d.take i = d := List.take_of_length_le (by simp at ht40; omega)
 have hall : ∀ c ∈ d, Mp c = true := fun c hc => by
  obtain ⟨j, hj⟩ := List.getElem?_of_mem hc
  exact hx.dg j c (by have := (List.getElem?_eq_some_iff.1 hj).1; simp at ht40; omega) hj
 have hgood := en hd ht33 hall
 have hlow := hx.low
 simp only at hlow
 rw [hie] at hlow ⊢
 refine Z81 ?_;refine Z0 ?_;refine R.slen jU ?_;refine wq ?_;refine xd ?_;refine R.fin [5, 6] ?_;refine Z8 ?_;refine R.fin [5, 77] ?_
 refine W.cond (fun ht77 => ?_) (fun ht77 => ?_)
 ·rw [if_pos ht77] at hgood
  exact r8
 rw [if_neg (by rw [ht77]; simp)] at hgood
 refine AAc ?_;refine Z25 ?_;refine Z18 ?_;exact zn

theorem eu (t : Str) (k : List Expr) : Af (.mk 6 t noV k) = .agg [A3 6, A7 t, A3 0, A3 0, A7 [], .slice false 6 (k.map Af)] := by rw [A8]; rfl
theorem AE2 (l : List Tok) (S : PS) (f : PS → Expr × PS) (o : Nat) (Hp : List AObj) (ho : Hp[o]? = some (pq l S)) (hi : S.i < l.length) (hl : TokEnd l) (hll : l.length ≤ 1048576) (hn : S.nest ≤ 30) (hf : S.nest < 30 → Bb l (S.nest + 1) f ∧ PLv l 0 f (S.nest + 1)) : ACall Tryz.prog 118 [.ptr o 0] Hp (fun r H' => r = Af (Cp l f S).1 ∧ H' = Hp.set o (pq l (Cp l f S).2)) := by
 have hf0 : S.nest < 30 → Bb l (S.nest + 1) f := fun h => (hf h).1
 refine ACall.body [.cell 2 28] [0] Tryz.func118 Tryz.ntmps118 (fun d => ?_)
 refine Z77 ?_;refine W.drawY [0, 1, 3, 7, 0, 16, 48, 112, 255, 511, 0, 2047] [] [.q 10 [] [], .s [3] none [] [], .s [3] none [] []] (fun _ => Hp) (fun _ => [.cells 28 [A3 0, A7 [], A3 0, A3 0, A7 [], .nil]]) Ae (by kernel_rfl) rfl rfl (fun _ => rfl) ?_
 apply Y.q
 case h1 =>
  intro B hT hF
  exact l6
 case hTF => decide
 refine Yv ?_;refine R.fin [0, 2, 3] ?_;refine Z38 ?_;refine gy ?_;refine R.fin [0, 2, 3, 19] ?_
 refine W.cond (fun ht19 => ?_) (fun ht19 => ?_)
 ·have e : Cp l f S = (Co ⟨1, (Ad (A4 l S.i).text).1, []⟩, A2 S) := by unfold Cp; rw [if_pos ht19]
  refine Ri ?_
  refine R.storeUp jS ho ?_ ?_
  ·simp
  refine R.fin [2, 3] ?_;refine gm ?_;refine R.call Tryz.call27 (c27 (A4 l S.i).text (hl.text _) _) ?_;refine Zg ?_;refine R.fin [2, 4] ?_;refine wx ?_;refine Ph ?_;refine R.wk 38 _ (Hg 1 [] ⟨1, (Ad (A4 l S.i).text).1, []⟩) ?_;refine Vu ?_;exact K.fin (V.one (V.cellN jA jS)) ⟨by rw [e]; simp only [A8] <;> rfl, by rw [e] <;> rfl⟩ (hlow := by have := Ag Hp.length (Co ⟨1, (Ad (A4 l S.i).text).1, []⟩); simp only [A8, List.length_set] at this ⊢; exact this)
 have nt19 : ¬ ((A4 l S.i).kind == 3) = true := by rw [ht19]; simp
 refine gy ?_;refine R.fin [0, 2, 3, 39] ?_
 refine W.cond (fun ht39 => ?_) (fun ht39 => ?_)
 ·have e : Cp l f S = (Co ⟨2, 0, (A4 l S.i).text⟩, A2 S) := by unfold Cp; rw [if_neg nt19, if_pos ht39]
  refine Ri ?_
  refine R.storeUp jS ho ?_ ?_
  ·simp
  refine R.fin [2, 3] ?_;refine gm ?_;refine W0 ?_;refine Ph ?_;refine R.wk 53 _ (Hg 1 [] ⟨2, 0, (A4 l S.i).text⟩) ?_;refine Vu ?_;exact K.fin (V.one (V.cellN jA jS)) ⟨by rw [e]; simp only [A8] <;> rfl, by rw [e] <;> rfl⟩ (hlow := by have := Ag Hp.length (Co ⟨2, 0, (A4 l S.i).text⟩); simp only [A8, List.length_set] at this ⊢; exact this)
 have nt39 : ¬ ((A4 l S.i).kind == 4) = true := by rw [ht39]; simp
 refine Z0 ?_;refine R.call Tryz.call116 (Y0 l S Su o _ (Ab ho) hi) ?_;refine B3 ?_;refine R.fin [0, 2, 3, 54] ?_
 refine W.cond (fun ht54 => ?_) (fun ht54 => ?_)
 ·have e : Cp l f S = (Co ⟨3, 1, []⟩, A2 S) := by unfold Cp; rw [if_neg nt19, if_neg nt39, if_pos ht54]
  refine Ri ?_
  refine R.storeUp jS ho ?_ ?_
  ·simp
  refine R.fin [2] ?_;refine AAl ?_;refine R.wk 65 _ (Hg 1 [] ⟨3, 1, []⟩) ?_;refine Vu ?_;exact K.fin (V.one (V.cellN jA jS)) ⟨by rw [e]; simp only [A8] <;> rfl, by rw [e] <;> rfl⟩ (hlow := by have := Ag Hp.length (Co ⟨3, 1, []⟩); simp only [A8, List.length_set] at this ⊢; exact this)
 have nt54 : ¬ isR l Su S = true := by rw [ht54]; simp
 refine Z0 ?_;refine R.call Tryz.call116 (Y0 l S Na o _ (Ab ho) hi) ?_;refine B3 ?_;refine R.fin [0, 2, 3, 66] ?_
 refine W.cond (fun ht66 => ?_) (fun ht66 => ?_)
 ·have e : Cp l f S = (Co ⟨3, 0, []⟩, A2 S) := by unfold Cp; rw [if_neg nt19, if_neg nt39, if_neg nt54, if_pos ht66]
  refine Ri ?_
  refine R.storeUp jS ho ?_ ?_
  ·simp
  refine R.fin [2] ?_;refine AAl ?_;refine R.wk 77 _ (Hg 1 [] ⟨3, 0, []⟩) ?_;refine Vu ?_;exact K.fin (V.one (V.cellN jA jS)) ⟨by rw [e]; simp only [A8] <;> rfl, by rw [e] <;> rfl⟩ (hlow := by have := Ag Hp.length (Co ⟨3, 0, []⟩); simp only [A8, List.length_set] at this ⊢; exact this)
 have nt66 : ¬ isR l Na S = true := by rw [ht66]; simp
 refine Z0 ?_;refine R.call Tryz.call116 (Y0 l S Sv o _ (Ab ho) hi) ?_;refine B3 ?_;refine R.fin [0, 2, 3, 78] ?_
 refine W.cond (fun ht78 => ?_) (fun ht78 => ?_)
 ·have e : Cp l f S = (Co noV, A2 S) := by unfold Cp; rw [if_neg nt19, if_neg nt39, if_neg nt54, if_neg nt66, if_pos ht78]
  refine Ri ?_
  refine R.storeUp jS ho ?_ ?_
  ·simp
  refine R.fin [2] ?_;refine Z26 ?_;refine R.wk 88 _ (Hg 1 [] noV) ?_;refine Vu ?_;exact K.fin (V.one (V.cellN jA jS)) ⟨by rw [e]; simp only [A8] <;> rfl, by rw [e] <;> rfl⟩ (hlow := by have := Ag Hp.length (Co noV); simp only [A8, List.length_set] at this ⊢; exact this)
 have nt78 : ¬ isR l Sv S = true := by rw [ht78]; simp
 refine Z0 ?_;refine R.call Tryz.call116 (Y0 l S Jt o _ (Ab ho) hi) ?_;refine B3 ?_;refine R.fin [0, 2, 3, 89] ?_
 refine W.cond (fun ht89 => ?_) (fun ht89 => ?_)
 ·have e : Cp l f S = ((inR (A4 l S.i).at_ f (A2 S)).1, Ay l Aw (inR (A4 l S.i).at_ f (A2 S)).2) := by unfold Cp; rw [if_neg nt19, if_neg nt39, if_neg nt54, if_neg nt66, if_neg nt78, if_pos ht89]
  have hi1 : (A2 S).i < l.length := hl.step hi (F9 ht89)
  have hwf : Fact l (A2 S) (inR (A4 l S.i).at_ f (A2 S)) := Jx _ hf0 (A2 S) hi1 rfl
  refine Ri ?_
  refine R.storeUp jS ho ?_ ?_
  ·simp
  refine Yy ?_;refine Z37 ?_;refine R.callUp Tryz.call117 (Aa ho) (by simp) Et (og l (A2 S) (A4 l S.i).at_ 0 f o _ (Ab (Aa ho)) hi1 hn (fun h => (hf h).1) (fun h => (hf h).2)) ?_;refine Z10 ?_;refine R.fin [0, 2, 6] ?_;refine Z0 ?_;refine R.callUp Tryz.call146 (Aa (Aa ho)) (by simp) Et (AC6 l (inR (A4 l S.i).at_ f (A2 S)).2 Aw o _ (Ab (Aa (Aa ho))) hwf.lt hll) ?_;refine R.fin [2, 6] ?_;refine Vr ?_;refine Z6 ?_;exact K.fin (V.one (V.cellN jA jS)) ⟨by rw [e]; simp only [A8], by rw [e]; simp only [List.set_set]⟩ (hlow := by have := Ag Hp.length ((inR (A4 l S.i).at_ f (A2 S)).1); simp only [A8, List.length_set] at this ⊢; exact this)
 have nt89 : ¬ isR l Jt S = true := by rw [ht89]; simp
 refine gy ?_;refine R.fin [0, 2, 3, 106] ?_
 refine W.cond (fun ht106 => ?_) (fun ht106 => ?_)
 ·have hi1 : (A2 S).i < l.length := hl.step hi (by rw [beq_iff_eq] at ht106; rw [ht106]; decide)
  have e0 : Cp l f S = (if !isR l Jt (A2 S) then (D6 (A4 l S.i).text, A2 S) else if decide (Gn (A4 l S.i).text < 0) then (Aj, B4 9 (A4 l S.i).at_ (A2 S)) else Iq l f (A4 l S.i) (A2 S)) := by unfold Cp; rw [if_neg nt19, if_neg nt39, if_neg nt54, if_neg nt66, if_neg nt78, if_neg nt89, if_pos ht106]
  refine Ri ?_
  refine R.storeUp jS ho ?_ ?_
  ·simp
  refine R.fin [0, 2, 3] ?_;refine Z8 ?_;refine R.call Tryz.call116 (Y0 l (A2 S) Jt o _ (Ab (Aa ho)) hi1) ?_;refine R.not ?_;refine R.fin [0, 2, 3, 119] ?_
  refine W.cond (fun ht119 => ?_) (fun ht119 => ?_)
  ·have e : Cp l f S = (D6 (A4 l S.i).text, A2 S) := by rw [e0, if_pos ht119]
   refine AAi ?_;refine R.wk 122 _ (Wh _) ?_;refine gv ?_;refine Z6 ?_;exact K.fin (V.one (V.cellN jA jS)) ⟨by rw [e]; simp only [A8] <;> rfl, by rw [e] <;> rfl⟩ (hlow := by have := Ag Hp.length (D6 (A4 l S.i).text); simp only [A8, List.length_set] at this ⊢; exact this)
  have n119 : ¬ (!isR l Jt (A2 S)) = true := by rw [ht119]; simp
  have hi2 : (A2 (A2 S)).i < l.length := hl.step hi1 (F9 (by simpa using ht119))
  have hk0 : Fact l (A2 (A2 S)) (inR (A4 l (A2 S).i).at_ f (A2 (A2 S))) := Jx _ hf0 (A2 (A2 S)) hi2 rfl
  refine Zi ?_;refine Z55 ?_;refine R.call Tryz.call136 (ABt (A4 l S.i).text _) ?_;refine R.lss ?_;refine R.fin [0, 2, 3, 126] ?_
  refine W.cond (fun ht126 => ?_) (fun ht126 => ?_)
  ·have e : Cp l f S = (Aj, B4 9 (A4 l S.i).at_ (A2 S)) := by rw [e0, if_neg n119, if_pos ht126]
   refine Z0 ?_;refine Z37 ?_;refine R.callUp Tryz.call87 (Aa ho) (by simp) Et (c87 l (A2 S) 9 (A4 l S.i).at_ o _ (Ab (Aa ho))) ?_;refine R.fin [2] ?_;refine Z26 ?_;refine R.wk 131 _ Eh ?_;refine gv ?_;refine Z6 ?_;exact K.fin (V.one (V.cellN jA jS)) ⟨by rw [e]; simp only [A8], by rw [e]; simp only [List.set_set]⟩ (hlow := by have := Ag Hp.length (Aj); simp only [A8, List.length_set] at this ⊢; exact this)
  have e : Cp l f S = Iq l f (A4 l S.i) (A2 S) := by rw [e0, if_neg n119, if_neg (by rw [ht126]; simp)]
  refine Z4 ?_;refine Z44 ?_;refine D.loadUp jA (Aa ho) ?_;refine Z12 ?_;refine D.loadUp jA (Aa ho) ?_;refine D.tail ?_;refine R.indexAddr ((A2 S).i) (D0 (A4 l (A2 S).i)) jU jS (Fm hi1) ?_;refine Z37 ?_;refine B3 ?_;refine R.fin [0, 2, 3, 7] ?_;refine Vn ?_;refine ku ?_
  refine R.storeUp jS (Aa ho) ?_ ?_
  ·simp
  refine R.fin [0, 2, 3, 7] ?_
  refine W.drawY [0, 1, 0, 0, 12, 28, 63, 0, 255] [4, 7] [.q 4 [] [], .s [154] (some 0) [] [], .q 2 [0] [], .s [8] (some 1) [] []] (fun B => Hp.set o (if B 0 = true then pq l (inR (A4 l (A2 S).i).at_ f (A2 (A2 S))).2 else pq l (A2 (A2 S)))) (fun B => if B 1 = true then [.cells 28 [A3 0, A7 [], A3 0, A3 0, A7 [], .nil], .cells 28 [A3 0, A7 [], A3 0, A3 0, A7 [], .nil]] else [.cells 28 [A3 0, A7 [], A3 0, A3 0, A7 [], .nil]]) Ae (by kernel_rfl) (by simp only [Bool.false_eq_true, if_false, List.set_set]; rfl) rfl (fun B => by simp) ?_
  apply Y.q
  case h1 =>
   intro B hT hF
   refine Z54 ?_;refine U3 ?_;exact Jj
  case hTF => decide
  refine Y.callUp (r := Af (inR (A4 l (A2 S).i).at_ f (A2 (A2 S))).1) (o := o) (x0 := pq l (A2 (A2 S))) (x := pq l (inR (A4 l (A2 S).i).at_ f (A2 (A2 S))).2) Tryz.call117 (fun B hT hF hB => ⟨by simp only [hB]; exact Aa ho, by simp [upd], by simp [upd], Et, ?_⟩) ?_
  ·simp only [hB]
   exact og l (A2 (A2 S)) (A4 l (A2 S).i).at_ 0 f o _ (Ab (Aa ho)) hi2 hn (fun h => (hf h).1) (fun h => (hf h).2)
  apply Y.q
  case h1 =>
   intro B hT hF
   refine D.buildFull jU Tryz.sizeOf28 Tryz.zeroValue28 ?_;refine D.build (places := #[(0, 1), (1, 1), (2, 3), (5, 1)]) jU (fun w => by simp) jZ ?_;exact Jj
  case hTF => decide
  refine Y.alloc (zs := [A3 0, A7 [], A3 0, A3 0, A7 [], .nil]) (n := 1) (u := Hp.length) Tryz.zeroValue28 (fun B hT hF hB => ⟨by simp, by simp [hB], by simp [upd, hB], by simp [upd]⟩) ?_;refine Y.tail (tn := [4, 7]) (U := Hp.set o (pq l (inR (A4 l (A2 S).i).at_ f (A2 (A2 S))).2)) (O := [.cells 28 [A3 0, A7 [], A3 0, A3 0, A7 [], .nil], .cells 28 [A3 0, A7 [], A3 0, A3 0, A7 [], .nil]]) ?_;refine Fi ?_;refine R.fin [0, 2, 3, 7, 8] ?_;refine W.seq ?_
  refine AW.loopC (α := List Expr × PS) (fun r => ⟨201, A5 0 (.ptr o 0) (A5 2 (.ptr (oid Hp.length 0) 0) (A5 3 (.ro [A3 (A4 l S.i).kind, A7 (A4 l S.i).text, A3 (A4 l S.i).at_]) (A5 7 (A3 (A4 l (A2 S).i).at_) (A5 8 (.ptr (oid Hp.length 1) 0) (fun _ => .any))))), Hp.set o (pq l r.2), [.cells 28 [A3 0, A7 [], A3 0, A3 0, A7 [], .nil], .cells 28 [A3 6, A7 (A4 l S.i).text, A3 0, A3 0, A7 [], .slice true 6 (r.1.map Af)]], [], none⟩) (fun r => ArgsAt l (inR (A4 l (A2 S).i).at_ f) (A2 (A2 S)) r) (fun r => l.length - r.2.i) (([(inR (A4 l (A2 S).i).at_ f (A2 (A2 S))).1], (inR (A4 l (A2 S).i).at_ f (A2 (A2 S))).2)) (.start hk0) (StLe.trans (StLe.thaw (n := 1) (j0 := 5) rfl rfl (by simp)) (StLe.of_eq (by simp [A8]))) rfl (fun r hx => ?_)
  refine qw ?_;refine U4 ?_;refine G.call Tryz.call116 (fun hB => Y0 l r.2 az o _ (Ab (Aa ho)) hx.fact.lt) ?_;refine F6 ?_;refine R.fin [0, 2, 3, 7, 8, 166] ?_
  refine W.cond (fun ht166 => ?_) (fun ht166 => ?_)
  ·rw [← T6] at ht166
   have hon := hx.on hl ht166 (Jx (n := S.nest) _ hf0)
   have hle := hon.2.1.le
   have hlt0 := hx.fact.lt
   have hrn : r.2.nest = S.nest := hx.fact.nest
   refine Pe ?_;refine Vn ?_;refine ku ?_
   refine R.storeUp jS (Aa ho) ?_ ?_
   ·simp
   refine R.fin [0, 2, 3, 7, 8] ?_
   refine W.drawY0 [0, 1, 0, 0, 12, 28, 63, 127, 255] [1, 4] [.q 1 [] [0], .s [175] (some 0) [] [], .q 2 [] [1], .s [178] (some 1) [] [], .q 1 [1] []] (fun B => Hp.set o (if B 1 = true then pq l (inR (A4 l (A2 S).i).at_ f (A2 r.2)).2 else pq l (A2 r.2))) (fun B => [.cells 28 [A3 0, A7 [], A3 0, A3 0, A7 [], .nil], .cells 28 (if B 0 = true then [A3 6, A7 (A4 l S.i).text, A3 0, A3 0, A7 [], .slice false 6 (r.1.map Af)] else [A3 6, A7 (A4 l S.i).text, A3 0, A3 0, A7 [], .slice true 6 (r.1.map Af)])]) Ae (by kernel_rfl) (by simp only [Bool.false_eq_true, if_false, List.set_set]; rfl) rfl (fun B => by simp) ?_
   apply Y.q
   case h1 =>
    intro B hT hF
    exact wv
   case hTF => decide
   refine Y.loadOwnT (u := Hp.length) (n := 1) (t' := 28) (cs := [A3 6, A7 (A4 l S.i).text, A3 0, A3 0, A7 [], .slice true 6 (r.1.map Af)]) (cs' := [A3 6, A7 (A4 l S.i).text, A3 0, A3 0, A7 [], .slice false 6 (r.1.map Af)]) Tryz.isAgg26 (fun B hB => ⟨by simp, by simp only [hB]; rfl, by simp [upd], by simp [upd]⟩) ?_
   apply Y.q
   case h1 =>
    intro B hT hF
    refine U3 ?_;exact Jj
   case hTF => decide
   refine Y.callUp (r := Af (inR (A4 l (A2 S).i).at_ f (A2 r.2)).1) (o := o) (x0 := pq l (A2 r.2)) (x := pq l (inR (A4 l (A2 S).i).at_ f (A2 r.2)).2) Tryz.call117 (fun B hT hF hB => ⟨by simp only [hB]; exact Aa ho, by simp [upd], by simp [upd], Et, ?_⟩) ?_
   ·simp only [hB]
    exact og l (A2 r.2) (A4 l (A2 S).i).at_ 0 f o _ (Ab (Aa ho)) hon.1 (by show r.2.nest ≤ 30; rw [hrn]; exact hn) (by show r.2.nest < 30 → Bb l (r.2.nest + 1) f; rw [hrn]; exact fun h => (hf h).1) (by show r.2.nest < 30 → PLv l 0 f (r.2.nest + 1); rw [hrn]; exact fun h => (hf h).2)
   apply Y.q
   case h1 =>
    intro B hT hF
    exact Z70
   case hTF => decide
   refine Y.tail (tn := [1, 4]) (U := Hp.set o (pq l (inR (A4 l (A2 S).i).at_ f (A2 r.2)).2)) (O := [.cells 28 [A3 0, A7 [], A3 0, A3 0, A7 [], .nil], .cells 28 [A3 6, A7 (A4 l S.i).text, A3 0, A3 0, A7 [], .slice false 6 (r.1.map Af)]]) ?_
   refine R.append jU Tryz.type28 ?_ ?_ ?_
   ·have := hx.fact.len; have := hx.fact.lt; simp only [List.length_map, List.length_cons, List.length_nil, Tryz.t28]; omega
   ·have := hx.fact.len; have := hx.fact.lt; simp only [List.length_map, List.length_cons, List.length_nil, Tryz.t28]; omega
   refine R.fieldAddrPtr (fo := 5) jU Tryz.sizeOf26 ?_;refine R.storeOwnT jS ?_;refine R.fin [0, 2, 3, 7, 8] ?_;refine K.blN ?_
   refine K.lpN (r.1 ++ [(inR (A4 l (A2 S).i).at_ f (A2 r.2)).1], (inR (A4 l (A2 S).i).at_ f (A2 r.2)).2) hon.2.2 (by show l.length - (inR (A4 l (A2 S).i).at_ f (A2 r.2)).2.i < l.length - r.2.i; have : r.2.i + 1 ≤ (inR (A4 l (A2 S).i).at_ f (A2 r.2)).2.i := hle; omega) (StCut.of_eq ?_)
   simp only [List.map_append, List.map_cons, List.map_nil, A8]
   rfl
  rw [← T6] at ht166
  have hca : Dc l f (A2 S) = r := hx.out (by rw [ht166]; simp)
  refine Z81 ?_;refine Z0 ?_;refine R.callUp Tryz.call146 (Aa ho) (by simp) Et (AC6 l r.2 Aw o _ (Ab (Aa ho)) hx.fact.lt hll) ?_;refine R.fin [0, 2, 3, 8] ?_;refine W.seq ?_;refine xu ?_;refine D.fieldAddrPtr (fo := 5) jU Tryz.sizeOf26 ?_;refine D.loadOwn jA ?_;refine D.len jU ?_;refine Z54 ?_;refine D.call Tryz.call136 (ABt (A4 l S.i).text _) ?_;refine D.tail ?_;refine R.neq ?_;refine R.fin [0, 2, 3, 8, 190] ?_
  refine W.cond (fun ht190 => ?_) (fun ht190 => ?_)
  ·rw [List.length_map] at ht190
   have e2 : Dd l f (A4 l S.i) (A2 S) = B4 8 (A4 l S.i).at_ (Ay l Aw r.2) := by unfold Dd; rw [hca, if_pos ht190]
   refine Z5 ?_;refine Z37 ?_;refine R.callUp Tryz.call87 (Aa (Aa ho)) (by simp) Et (c87 l (Ay l Aw r.2) 8 (A4 l S.i).at_ o _ (Ab (Aa (Aa ho)))) ?_;refine R.fin [2, 8] ?_;refine K.thN ?_;refine Vr ?_;exact Z59
  rw [List.length_map] at ht190
  have e2 : Dd l f (A4 l S.i) (A2 S) = Ay l Aw r.2 := by unfold Dd; rw [hca, if_neg (by rw [ht190]; simp)]
  refine Z4 ?_;refine Vr ?_;exact Z59
 have nt106 : ¬ ((A4 l S.i).kind == 1) = true := by rw [ht106]; simp
 have e : Cp l f S = (Aj, B4 8 (A4 l S.i).at_ S) := by unfold Cp; rw [if_neg nt19, if_neg nt39, if_neg nt54, if_neg nt66, if_neg nt78, if_neg nt89, if_neg nt106]
 refine Z34 ?_;refine Z0 ?_;refine Z37 ?_;refine AB9 ?_;refine R.fin [2] ?_;refine Z26 ?_;refine R.wk 200 _ Eh ?_;refine Z22 ?_;exact ABb

/-- All levels. -/
theorem p9 {l : List Tok} (hl : TokEnd l) (hll : l.length ≤ 1048576) : ∀ (d n : Nat), n + d = 31 → n ≤ 30 → ∀ j, j ≤ 7 → PLv l j (Hj l d j) n
 | 0, n, h, hn => by omega
 | d + 1, n, h, hn => by
  have hD : n < 30 → ∀ j, j ≤ 7 → Bb l (n + 1) (Hj l d j) ∧ PLv l j (Hj l d j) (n + 1) := fun h30 j hj => ⟨Km hl hll d (n + 1) (by omega) (by omega) j, p9 hl hll d (n + 1) (by omega) (by omega) j hj⟩
  have hG : n < 30 → ∀ j, Bb l (n + 1) (Hj l d j) := fun h30 j => Km hl hll d (n + 1) (by omega) (by omega) j
  have step : ∀ j, j ≤ 7 → ∀ f, Bb l n f → (j < 7 → PLv l (j + 1) f n) → PLv l j (lvS l (Hj l d) j f) n := fun j hj f hf hcf o Hp S ho hi hS => by
   subst hS
   exact c86 l S j hj (Hj l d) f o Hp ho hi hl hll hn hD hf hcf (fun o Hp ho _ => AE2 l S (Hj l d 0) o Hp ho hi hl hll hn (fun h30 => hD h30 0 (by decide)))
  have key : ∀ k, k ≤ 7 → PLv l (7 - k) (lvN l (Hj l d) (7 - k)) n := by
   intro k
   induction k with
   | zero => exact fun _ => step 7 (Nat.le_refl _) (fun S => (Aj, S)) Sw (fun h => absurd h (by omega))
   | succ k ih =>
    intro hk
    have h7 : 7 - (k + 1) < 7 := by omega
    rw [Jw h7]
    have e : 7 - (k + 1) + 1 = 7 - k := by omega
    rw [e]
    exact step _ (by omega) _ (Ql hl hll hG _) (fun _ => by rw [e]; exact ih (by omega))
  intro j hj
  have := key (7 - j) (by omega)
  rw [show 7 - (7 - j) = j by omega] at this
  exact this
theorem jv {l : List Tok} (hl : TokEnd l) (hll : l.length ≤ 1048576) {i : Nat} (hi : i < l.length) : Fact l ⟨i, 0, 0, 0⟩ (D8 l i) := Km hl hll 31 0 rfl (by decide) 0 ⟨i, 0, 0, 0⟩ hi rfl
def R7 (l : List Tok) (i : Nat) (r : Expr × PS) : PS := if (r.2.code == 0) && decide ((30 : Int) < (depthE r.1 : Int)) then B4 18 (A4 l i).at_ r.2 else r.2
theorem ACe {l : List Tok} {i : Nat} {r : Expr × PS} : atS l i r = if ((R7 l i r).code == 0) && decide ((300 : Int) < (sizeE r.1 : Int)) then B4 3 (A4 l i).at_ (R7 l i r) else R7 l i r := by
 unfold atS R7
 cases hc : (r.2.code != 0) with
 | true =>
  have hc' : (r.2.code == 0) = false := by simpa using hc
  simp only [hc', if_true, Bool.false_and, Bool.false_eq_true, if_false]
 | false =>
  have hc0 : r.2.code = 0 := by simpa using hc
  simp only [hc0, beq_self_eq_true, Bool.true_and, Bool.false_eq_true, if_false]
  cases hd : decide ((30 : Int) < (depthE r.1 : Int)) with
  | true =>
   have e : B4 18 (A4 l i).at_ r.2 = ⟨r.2.i, r.2.nest, 18, (A4 l i).at_⟩ := if_pos (by rw [hc0]; rfl)
   simp only [if_true, e]
   rfl
  | false => simp only [Bool.false_eq_true, if_false, hc0, beq_self_eq_true, Bool.true_and]
theorem AE3 (l : List Tok) (i : Nat) (hi : i < l.length) (hl : TokEnd l) (hll : l.length ≤ 500000) (Hp : List AObj) : AFun Tryz.prog 54 [Np l, A3 (i : Int)] Hp (.tup [Af (Xk l i).1, A3 (Xk l i).2.1, .agg [A3 (Xk l i).2.2.1, A3 (Xk l i).2.2.2]]) := by
 have hmap : (l.map D0).length = l.length := List.length_map ..
 have hll1 : l.length ≤ 1048576 := by omega
 have hq := jv hl hll1 hi
 have hqlt := hq.lt
 have hqs := hq.sz
 have hok0 : okE 1048576 (D8 l i).1 := Db (by have := hq.lt; omega) hq.ok
 have hsz0 : sizeE (D8 l i).1 ≤ 1048576 := by have := hq.sz; have := hq.lt; omega
 refine ACall.body [.cell 4 28, .tmp 5, .cell 6 33] [0, 1] Tryz.func54 Tryz.ntmps54 (fun d => ?_)
 refine Z28 ?_;refine B3 ?_;refine J4 ?_;refine R.fin [0, 1, 4, 6] ?_;refine Pg ?_;refine Pd ?_;refine G.len jU ?_;refine G.geq ?_;refine H7 ?_;refine R.fin [0, 1, 4, 6, 16] ?_
 refine W.cond (fun ht16 => ?_) (fun ht16 => ?_)
 ·simp only [Bool.or_eq_true, decide_eq_true_eq] at ht16
  omega
 refine Zh ?_;refine AAj ?_;refine B3 ?_;refine R.fin [0, 1, 4, 6, 7] ?_;refine Z0 ?_
 refine R.callOwn (n := 2) (x := pq l (D8 l i).2) Tryz.call86 (p9 hl hll1 31 0 rfl (by decide) 0 (by decide) (oid Hp.length 2) _ ⟨i, 0, 0, 0⟩ (by rw [Ap]; rfl) hi rfl) ?_
 refine Z10 ?_;refine R.fin [0, 1, 4, 6, 7, 8] ?_
 refine W.join ⟨78, A5 0 (Np l) (A5 1 (A3 (i : Int)) (A5 4 (.ptr (oid Hp.length 0) 0) (A5 6 (.ptr (oid Hp.length 1) 0) (A5 7 (.ptr (oid Hp.length 2) 0) (A5 8 (.ptr (oid Hp.length 3) 0) (fun _ => .any)))))), Hp, [.cells 28 [A3 0, A7 [], A3 0, A3 0, A7 [], .nil], .cells 33 [A3 0, A3 0], pq l (R7 l i (D8 l i)), .cells 28 (Cw (D8 l i).1)], [], none⟩ ?_ ?_
 ·refine Z0 ?_;refine Z85 ?_;refine Kq ?_;refine Rh ?_;refine G.loadOwnN jA jS ?_;refine G.call Tryz.call71 (fun hB => c71 1048576 _ hok0 (Nat.le_refl _) _) ?_;refine G.gtr ?_;refine F6 ?_;refine R.fin [0, 1, 4, 6, 7, 8, 35] ?_
  refine W.cond (fun ht35 => ?_) (fun ht35 => ?_)
  ·have e : (R7 l i (D8 l i)) = B4 18 (A4 l i).at_ (D8 l i).2 := if_pos ht35
   refine Z5 ?_;refine qd ?_;refine Z37 ?_
   refine R.callOwn (n := 2) (x := pq l (B4 18 (A4 l i).at_ (D8 l i).2)) Tryz.call87 (c87 l (D8 l i).2 18 (A4 l i).at_ (oid Hp.length 2) _ (by rw [Ap]; rfl)) ?_
   refine R.fin [0, 1, 4, 6, 7, 8] ?_;exact wl
  have e : (R7 l i (D8 l i)) = (D8 l i).2 := if_neg (by rw [ht35]; simp)
  refine W.keep [0, 1, 4, 6, 7, 8] ?_;refine Z50 ?_;exact xv
 refine W.join ⟨78, A5 4 (.ptr (oid Hp.length 0) 0) (A5 6 (.ptr (oid Hp.length 1) 0) (A5 7 (.ptr (oid Hp.length 2) 0) (A5 8 (.ptr (oid Hp.length 3) 0) (fun _ => .any)))), Hp, [.cells 28 [A3 0, A7 [], A3 0, A3 0, A7 [], .nil], .cells 33 [A3 0, A3 0], pq l (atS l i (D8 l i)), .cells 28 (Cw (D8 l i).1)], [], none⟩ ?_ ?_
 ·refine Z0 ?_;refine Z85 ?_;refine Kq ?_;refine Rh ?_;refine G.loadOwnN jA jS ?_;refine G.call Tryz.call72 (fun hB => c72 1048576 _ hok0 hsz0 _) ?_;refine G.gtr ?_;refine F6 ?_;refine R.fin [0, 1, 4, 6, 7, 8, 53] ?_
  refine W.cond (fun ht53 => ?_) (fun ht53 => ?_)
  ·have e : (atS l i (D8 l i)) = B4 3 (A4 l i).at_ (R7 l i (D8 l i)) := by rw [ACe, if_pos ht53]
   refine Z5 ?_;refine qd ?_;refine Z37 ?_
   refine R.callOwn (n := 2) (x := pq l (B4 3 (A4 l i).at_ (R7 l i (D8 l i)))) Tryz.call87 (c87 l (R7 l i (D8 l i)) 3 (A4 l i).at_ (oid Hp.length 2) _ (by rw [Ap]; rfl)) ?_
   refine R.fin [4, 6, 7, 8] ?_;exact wl
  have e : (atS l i (D8 l i)) = (R7 l i (D8 l i)) := by rw [ACe, if_neg (by rw [ht53]; simp)]
  refine W.keep [4, 6, 7, 8] ?_;refine Z50 ?_;exact xv
 refine U6 ?_;refine Yt ?_;refine R.fin [4, 6, 7, 8, 66] ?_
 refine W.cond (fun ht66 => ?_) (fun ht66 => ?_)
 ·have e : Xk l i = (Aj, 0, (atS l i (D8 l i)).code, (atS l i (D8 l i)).at_) := if_pos ht66
  refine W.drawY [0, 0, 2, 6, 14, 1, 33, 127] [5] [.q 5 [] [], .s [] (some 0) [] [], .q 1 [0] []] (fun _ => Hp) (fun _ => [.cells 28 [A3 0, A7 [], A3 0, A3 0, A7 [], .nil], .cells 33 [A3 0, A3 0], pq l (atS l i (D8 l i)), .cells 28 (Cw (D8 l i).1)]) Ae (by kernel_rfl) rfl rfl (fun _ => rfl) ?_
  apply Y.q
  case h1 =>
   intro B hT hF
   refine AAf ?_;exact AAk
  case hTF => decide
  refine AB1 ?_
  apply Y.q
  case h1 =>
   intro B hT hF
   exact gg
  case hTF => decide
  refine Y.tail (tn := [5])  ?_;refine R.nilCell 0 5 6 ?_;refine qv ?_;refine AW.ret ?_;exact zp
 have e : Xk l i = ((D8 l i).1, ((atS l i (D8 l i)).i : Int), 0, 0) := if_neg (by rw [ht66]; simp)
 refine Z4 ?_;refine W.drawY [0, 0, 2, 6, 14, 0, 1, 95, 255] [6] [.q 6 [] [], .s [] (some 0) [] [], .q 1 [0] []] (fun _ => Hp) (fun B => [.cells 28 (if B 0 = true then Cw (D8 l i).1 else [A3 0, A7 [], A3 0, A3 0, A7 [], .nil]), .cells 33 [A3 0, A3 0], pq l (atS l i (D8 l i)), .cells 28 (Cw (D8 l i).1)]) Ae (by kernel_rfl) rfl rfl (fun _ => rfl) ?_
 apply Y.q
 case h1 =>
  intro B hT hF
  refine Rl ?_;refine xb ?_;exact wn
 case hTF => decide
 refine Y.storeOwn (u := Hp.length) (n := 0) (t' := 28) (cs := [A3 0, A7 [], A3 0, A3 0, A7 [], .nil]) (cs' := Cw (D8 l i).1) Tryz.sizeOf28 (fun B hB => ⟨rfl, by simp only [hB]; rfl, by simp [upd], rfl⟩) ?_
 apply Y.q
 case h1 =>
  intro B hT hF
  exact gg
 case hTF => decide
 refine Y.tail (tn := [6]) (O := [.cells 28 (Cw (D8 l i).1), .cells 33 [A3 0, A3 0], pq l (atS l i (D8 l i)), .cells 28 (Cw (D8 l i).1)]) ?_;refine qv ?_;refine AW.ret ?_;exact K.fin (V.three (V.cellN jA jS) V.tmp (V.cellN jA jS)) ⟨by rw [e, A8] <;> rfl, rfl⟩ (hlow := by have := low_agg (n := Hp.length) (D8 l i).1; simp at this ⊢; exact this)

theorem c54 (l : List Tok) (i : Nat) (hi : i < l.length) (hl : TokEnd l) (hll : l.length ≤ 500000) (ht : ∀ i, Ky (A4 l i)) (Hp : List AObj) : AFun Tryz.prog 54 [Np l, A3 (i : Int)] Hp (.tup [Af (atM l i).1, A3 (atM l i).2.1, .agg [A3 (atM l i).2.2.1, A3 (atM l i).2.2.2]]) := by
 have := AE3 l i hi hl hll Hp
 rwa [ua hl (by omega) ht hi] at this
theorem ey (c : UInt8) : Bd c = ((Bc c || At c) || (((c.toNat : Nat) : Int) == 95)) := by
 unfold Bd
 have : (((c.toNat : Nat) : Int) == 95) = (c == 95) := by
  rw [Bool.eq_iff_iff, beq_iff_eq, beq_iff_eq]
  exact ⟨fun h => UInt8.toNat_inj.1 (by show c.toNat = 95; omega), fun h => by rw [h]; rfl⟩
 rw [this]
theorem f6 (c : UInt8) : ((((c.toNat : Nat) : Int) == 61) = (c == 61)) ∧ ((((c.toNat : Nat) : Int) == 60) = (c == 60)) ∧ ((((c.toNat : Nat) : Int) == 62) = (c == 62)) ∧ ((((c.toNat : Nat) : Int) == 33) = (c == 33)) := by
 have := Ik (p := fun c => ((((c.toNat : Nat) : Int) == 61) == (c == 61)) && (((((c.toNat : Nat) : Int) == 60) == (c == 60)) && (((((c.toNat : Nat) : Int) == 62) == (c == 62)) && ((((c.toNat : Nat) : Int) == 33) == (c == 33))))) (by kernel_rfl) c
 simpa only [Bool.and_eq_true, beq_iff_eq] using this
theorem Y7 (c : UInt8) : (((((c.toNat : Nat) : Int) == 32) || (((c.toNat : Nat) : Int) == 9)) || (((c.toNat : Nat) : Int) == 10)) = blanks.contains c := by
 have := Ik (p := fun c => (((((c.toNat : Nat) : Int) == 32) || (((c.toNat : Nat) : Int) == 9)) || (((c.toNat : Nat) : Int) == 10)) == blanks.contains c) (by kernel_rfl) c
 simpa using this
abbrev pA (s : Str) (p : Nat) : UInt8 := s.getD p 0
theorem Ll {s : Str} {p : Nat} (h : p < s.length) : s.drop p = pA s p :: s.drop (p + 1) := by rw [En h, pA, getD_eq h]
/-- What the reference ACo at a place. -/
def rwA (s : Str) (p : Nat) : Int × Str × Nat × Int := Ur (s.drop p)
theorem ACf {s : Str} {p : Nat} (hp : p < s.length) (h : Bc (pA s p) = true) : rwA s p = (if Bj ((s.drop p).takeWhile Bd) then 2 else 1, (s.drop p).takeWhile Bd, C2 Bd (s.drop p), if Bj ((s.drop p).takeWhile Bd) then 0 else if 16 < C2 Bd (s.drop p) then 3 else 0) := by
 unfold rwA; rw [Ll hp]; exact Us h
theorem ACg {s : Str} {p : Nat} (hp : p < s.length) (h : Bc (pA s p) = false) (h2 : At (pA s p) = true) : rwA s p = (3, (s.drop p).takeWhile At, C2 At (s.drop p), if (Ad ((s.drop p).takeWhile At)).2 == 6 then 7 else (Ad ((s.drop p).takeWhile At)).2) := by
 unfold rwA; rw [Ll hp]; exact Ut h h2
theorem ACh {s : Str} {p z : Nat} {b : Str} (hp : p < s.length) (h : Bc (pA s p) = false) (h2 : At (pA s p) = false) (h3 : pA s p = 39) (hz : p + 1 ≤ z) (hq : B1 (s.drop (p + 1)) = (b, z - (p + 1))) : rwA s p = (4, b, z + 1 - p, if s.length ≤ z then 7 else if 200 < b.length then 3 else 0) := by
 unfold rwA; rw [Ll hp, Uu h h2 h3, hq]
 have e1 : (s.drop (p + 1)).length ≤ z - (p + 1) ↔ s.length ≤ z := by rw [List.length_drop]; omega
 have e2 : z - (p + 1) + 2 = z + 1 - p := by omega
 simp only [e1, e2]
theorem ACi {s : Str} {p : Nat} (hp : p < s.length) (h : Bc (pA s p) = false) (h2 : At (pA s p) = false) (h3 : pA s p ≠ 39) : rwA s p = (5, (s.drop p).take (Dt (s.drop p)), Dt (s.drop p), if Dt (s.drop p) = 2 ∨ singles.contains (pA s p) = true then 0 else 7) := by
 unfold rwA; rw [Ll hp]; exact Uv h h2 h3
theorem f7 {s : Str} {p : Nat} (hp : p < s.length) : Dt (s.drop p) = if ((decide (((p : Nat) : Int) + 1 < ((s.length : Nat) : Int)) && ((((s.getD (p + 1) 0).toNat : Nat) : Int) == 61)) && (((((s.getD p 0).toNat : Nat) : Int) == 60 || (((s.getD p 0).toNat : Nat) : Int) == 62) || (((s.getD p 0).toNat : Nat) : Int) == 33)) = true then 2 else 1 := by
 rw [(f6 (s.getD (p + 1) 0)).1, (f6 (s.getD p 0)).2.1, (f6 (s.getD p 0)).2.2.1, (f6 (s.getD p 0)).2.2.2]
 rcases Nat.lt_or_ge (p + 1) s.length with h | h
 ·rw [Ll hp, Ll h]
  unfold Dt
  rw [decide_eq_true (show ((p : Nat) : Int) + 1 < ((s.length : Nat) : Int) by omega)]
  simp only [Bool.true_and, Bool.and_eq_true, Bool.or_eq_true, beq_iff_eq, or_assoc]
 rw [Ll hp, List.drop_eq_nil_iff.2 h, decide_eq_false (show ¬ ((p : Nat) : Int) + 1 < ((s.length : Nat) : Int) by omega)]
 rfl
theorem vh {s : Str} {p : Nat} (hp : p < s.length) : p + Dt (s.drop p) ≤ s.length := by
 rw [f7 hp]
 split
 ·rename_i h
  simp only [Bool.and_eq_true, decide_eq_true_eq] at h
  omega
 omega
theorem pa {p n : Nat} : ((((p + n : Nat) : Int) - (p : Int)) == 2) = decide (n = 2) := by
 rw [Bool.eq_iff_iff, beq_iff_eq, decide_eq_true_iff]
 omega
/-- The word at a place is the one that the lexer ACo there. -/
theorem zc {s : Str} {k p : Nat} (hl4 : ¬ 4000 < s.length) (h : J0 s k p) (hp : p < s.length) (he : (rwA s p).2.2.2 ≠ 0) : A6 s = ([], (rwA s p).2.2.2, p) := by
 have hne : s.drop p ≠ [] := fun e => by have := List.drop_eq_nil_iff.1 e; omega
 have hs := Ko hne
 have e : (wAt s p).2.2.2 = (rwA s p).2.2.2 := hs.1.symm
 rw [Sd hl4 (Fl h hp) (by rw [e]; exact he) h.2.2, e]
theorem ACj {s : Str} {k p : Nat} (h : J0 s k p) (hp : p < s.length) (he : (rwA s p).2.2.2 = 0) : Dw s (k + 1) = Dw s k ++ [⟨(rwA s p).1, (rwA s p).2.1, p⟩] ∧ Fa false s (k + 1) (p + (rwA s p).2.2.1) ∧ 1 ≤ (rwA s p).2.2.1 := by
 have hne : s.drop p ≠ [] := fun e => by have := List.drop_eq_nil_iff.1 e; omega
 have hs := Ko hne
 have hw : (wAt s p).2.2.2 = 0 := hs.1.symm.trans he
 have e : wAt s p = ((rwA s p).1, (rwA s p).2.1, ((rwA s p).2.2.1 : Int), 0) := hs.2 hw
 refine ⟨?_, bh h hp hw (by rw [e]), ?_⟩
 ·rw [Pw (Fl h hp), e]
 obtain ⟨n, hn, h1, _⟩ := Lu (s := s.drop p) (by rw [List.length_drop]; omega) hw
 have : (Aq (s.drop p)).2.2.1 = ((rwA s p).2.2.1 : Int) := by have := congrArg (·.2.2.1) e; exact this
 omega
theorem jx {s : Str} {p n : Nat} : (s.take (p + n)).drop p = (s.drop p).take n := by rw [List.drop_take, Nat.add_sub_cancel_left]
theorem vi {n : Nat} {t : TypeId} {a b : Int} : ∀ x ∈ [AObj.cells t [A3 a, A3 b]], ObjLow n x := by
 intro x hx
 rw [List.mem_singleton.1 hx]
 show ∀ y ∈ [A3 a, A3 b], Low n y
 simp
theorem Y8 {l : Str} {j : Nat} (h : j < l.length) (c : UInt8) : (l.take (j + 1)).contains c = ((l.take j).contains c || (((l[j].toNat : Nat) : Int) == ((c.toNat : Nat) : Int))) := by
 rw [List.take_succ_eq_append_getElem h, Bool.eq_iff_iff]
 simp only [List.contains_iff_mem, List.mem_append, List.mem_singleton, Bool.or_eq_true, beq_iff_eq]
 constructor
 ·rintro (h | h)
  ·exact .inl h
  exact .inr (by rw [h])
 rintro (h | h)
 ·exact .inl h
 exact .inr (UInt8.toNat_inj.1 (by omega))
theorem c21 (s : Str) (hs : s.length ≤ 1048576) (Hp : List AObj) : AFun Tryz.prog 21 [A7 s] Hp (.tup [Np (A6 s).1, .agg [A3 (A6 s).2.1, A3 (A6 s).2.2]]) := by
 refine ACall.body [.tmp 2, .cell 3 33] [0] Tryz.func21 Tryz.ntmps21 (fun d => ?_)
 refine Z1 ?_;refine J4 ?_;refine R.fin [0, 3] ?_;refine Z8 ?_;refine Za ?_;refine R.fin [0, 3, 16] ?_
 refine W.cond (fun ht16 => ?_) (fun ht16 => ?_)
 ·have hlm : A6 s = ([], 3, 0) := by unfold A6; rw [if_pos (by simp at ht16; omega)]
  refine B9 ?_;refine AAr ?_;refine R.nilTmp 2 3 false ?_;refine Z88 ?_;refine K.thR ?_;exact K.fin (V.two V.tmp (V.cellN jA jS)) ⟨by rw [hlm] <;> rfl, rfl⟩
 have hl4 : ¬ 4000 < s.length := by simp at ht16; omega
 refine Oa ?_;refine qu ?_;refine Rj ?_;refine Z1 ?_;refine W3 ?_;refine W.seq ?_
 refine AW.loopC (α := Nat × Nat) (fun x => ⟨248, A5 0 (A7 s) (A5 3 (.ptr (oid Hp.length 0) 0) (A5 4 (.slice true 3 ((Dw s x.1).map D0)) (A5 5 (A3 (x.2 : Nat)) (fun _ => .any)))), Hp, [.cells 33 [A3 0, A3 0]], [], none⟩) (fun x => Fa false s x.1 x.2) (fun x => s.length - x.2) ((0, 0)) (bf s) (StLe.of_eq (by simp [Dw])) rfl (fun x hx => ?_)
 refine kx ?_;refine R.fin [0, 3, 4, 5, 22] ?_
 refine W.cond (fun ht22 => ?_) (fun ht22 => ?_)
 ·have hxl : x.2 < s.length := by simpa using ht22
  refine Pe ?_;refine Z31 ?_;refine R.sindex (x.2) (s.getD (x.2) 0) jU (D9 hxl)  ?_;refine B3 ?_;refine R.fin [0, 3, 4, 5, 6] ?_;refine Z8 ?_;refine U4 ?_;refine G.eql ?_;refine H7 ?_;refine Z14 ?_;refine G.eql ?_;refine H7 ?_;refine R.fin [0, 3, 4, 5, 6, 35] ?_
  refine W.cond (fun ht35 => ?_) (fun ht35 => ?_)
  ·have hbl := Xl hx hxl (by rw [Y7] at ht35; rw [← getD_eq hxl]; exact ht35)
   refine Z0 ?_;refine Z23 ?_;refine W3 ?_;refine Z40 ?_;refine K.blE ?_
   first | exact K.lpN (x.1, x.2 + 1) hbl (by show s.length - (x.2 + 1) < s.length - x.2; omega) (StCut.of_eq rfl) | exact K.lpN (x.1, z) hoff (by show s.length - z < s.length - x.2; omega) (StCut.of_eq rfl)
  have hnb : blanks.contains s[x.2] = false := by rw [Y7] at ht35; rw [← getD_eq hxl]; exact ht35
  refine Vy ?_;refine R.eql ?_;refine R.fin [0, 3, 4, 5, 6, 39] ?_
  refine W.cond (fun ht39 => ?_) (fun ht39 => ?_)
  ·refine W.keep [0, 3, 4, 5] ?_
   have h35 : s[x.2] = 35 := by rw [← getD_eq hxl]; rw [beq_iff_eq] at ht39; exact UInt8.toNat_inj.1 (by show (s.getD x.2 0).toNat = 35; omega)
   refine W.seq ?_
   refine AW.loopC (α := Nat) (fun z => ⟨248, A5 0 (A7 s) (A5 3 (.ptr (oid Hp.length 0) 0) (A5 4 (.slice true 3 ((Dw s x.1).map D0)) (A5 5 (A3 (z : Nat)) (fun _ => .any)))), Hp, [.cells 33 [A3 0, A3 0]], [], none⟩) (fun z => Fa true s x.1 z ∧ x.2 ≤ z ∧ (z = x.2 → s.getD z 0 ≠ 10)) (fun z => s.length - z) (x.2) ⟨bg hx hxl h35, Nat.le_refl _, fun _ => by rw [getD_eq hxl, h35]; decide⟩ (StLe.refl _) rfl (fun z hz => ?_)
   refine ll ?_
   refine G.sindex (z) (s.getD (z) 0) jU ?hb ?_
   case hb => exact fun hB => D9 (by simp at hB; omega)
   refine G.neq ?_;refine F6 ?_;refine R.fin [0, 3, 4, 5, 49] ?_
   refine W.cond (fun ht49 => ?_) (fun ht49 => ?_)
   ·have hzl : z < s.length := by simp only [Bool.and_eq_true, decide_eq_true_eq] at ht49; omega
    have hz10 : s[z] ≠ 10 := by intro e; simp only [Bool.and_eq_true, bne_iff_ne, ne_eq] at ht49; exact ht49.2 (by rw [getD_eq hzl, e]; rfl)
    refine Pe ?_;refine Z56 ?_;refine W3 ?_;refine K.blN ?_;exact K.lpN (z + 1) ⟨nr hz.1 hzl hz10, by have := hz.2.1; omega, fun h => by have := hz.2.1; omega⟩ (by omega) (StCut.of_eq rfl)
   refine W.keep [0, 3, 4, 5] ?_
   have hoff : Fa false s x.1 z := j6 hz.1 (by
    rcases Nat.lt_or_ge z s.length with h | h
    ·refine .inr ⟨h, ?_⟩
     have := ht49
     rw [decide_eq_true (by omega), Bool.true_and, bne_eq_false_iff_eq, getD_eq h] at this
     exact UInt8.toNat_inj.1 (by show s[z].toNat = 10; omega)
    exact .inl h)
   have hzx : x.2 < z := by
    rcases Nat.lt_or_ge x.2 z with h | h
    ·exact h
    exfalso
    have he : z = x.2 := by omega
    have := ht49
    subst he
    rw [decide_eq_true (by omega), Bool.true_and, bne_eq_false_iff_eq, getD_eq hxl, h35] at this
    exact absurd this (by decide)
   refine Z81 ?_;refine Z40 ?_;refine K.blE ?_
   first | exact K.lpN (x.1, x.2 + 1) hbl (by show s.length - (x.2 + 1) < s.length - x.2; omega) (StCut.of_eq rfl) | exact K.lpN (x.1, z) hoff (by show s.length - z < s.length - x.2; omega) (StCut.of_eq rfl)
  have h35 : s[x.2] ≠ 35 := by intro e; rw [beq_eq_false_iff_ne] at ht39; refine ht39 ?_; rw [getD_eq hxl, e]; rfl
  have hlx := T8 hx (.inr ⟨hxl, hnb, h35⟩)
  refine Ls ?_;refine B3 ?_;refine R.fin [0, 3, 4, 5, 6, 7] ?_;refine wx ?_;refine Z10 ?_;refine R.fin [0, 3, 4, 5, 6, 7, 8] ?_;refine Z1 ?_;refine lv ?_
  refine W.join ⟨248, A5 0 (A7 s) (A5 3 (.ptr (oid Hp.length 0) 0) (A5 4 (.slice true 3 ((Dw s x.1).map D0)) (A5 5 (A3 (x.2 : Nat)) (A5 7 (A3 ((x.2 + (rwA s x.2).2.2.1 : Nat) : Int)) (A5 8 (.ptr (oid Hp.length 1) 0) (A5 9 (A3 (rwA s x.2).2.2.2) (fun _ => .any))))))), Hp, [.cells 33 [A3 0, A3 0], .cells 52 [A3 (rwA s x.2).1, A7 (rwA s x.2).2.1, A3 (x.2 : Nat)]], [], none⟩ ?_ ?_
  ·refine Z0 ?_;refine R.call Tryz.call51 (c51 (pA s x.2) _) ?_;refine R.fin [0, 3, 4, 5, 6, 7, 8, 9, 56] ?_
   refine W.cond (fun ht56 => ?_) (fun ht56 => ?_)
   ·refine W.keep [0, 3, 4, 5, 7, 8, 9] ?_
    have hr0 := ACf hxl ht56
    refine W.seq ?_
    refine AW.loopC (α := Nat) (fun z => ⟨248, A5 0 (A7 s) (A5 3 (.ptr (oid Hp.length 0) 0) (A5 4 (.slice true 3 ((Dw s x.1).map D0)) (A5 5 (A3 (x.2 : Nat)) (A5 7 (A3 (z : Nat)) (A5 8 (.ptr (oid Hp.length 1) 0) (A5 9 (A3 0) (fun _ => .any))))))), Hp, [.cells 33 [A3 0, A3 0], .cells 52 [A3 0, A7 [], A3 (x.2 : Nat)]], [], none⟩) (fun z => x.2 ≤ z ∧ z ≤ x.2 + C2 Bd (s.drop x.2)) (fun z => s.length - z) (x.2) ⟨Nat.le_refl _, Nat.le_add_right _ _⟩ (StLe.refl _) rfl (fun z hz => ?_)
    refine ll ?_
    refine G.sindex (z) (s.getD (z) 0) jU ?hb ?_
    case hb => exact fun hB => D9 (by simp at hB; omega)
    refine G.call Tryz.call51 (fun hB => c51 (s.getD z 0) _) ?_;refine Rg ?_;refine G.move ?_
    refine G.sindex (z) (s.getD (z) 0) jU ?hb ?_
    case hb => exact fun hB => D9 (by simp at hB; omega)
    refine G.call Tryz.call52 (fun hB => c52 (s.getD z 0) _) ?_;refine G.pickOr ?_;refine Rg ?_;refine G.move ?_
    refine G.sindex (z) (s.getD (z) 0) jU ?hb ?_
    case hb => exact fun hB => D9 (by simp at hB; omega)
    refine lc ?_;refine F6 ?_;refine R.fin [0, 3, 4, 5, 7, 8, 9, 78] ?_
    refine W.cond (fun ht78 => ?_) (fun ht78 => ?_)
    ·have hzl : z < s.length := by simp only [Bool.and_eq_true, decide_eq_true_eq] at ht78; omega
     have hzq : Bd (s.getD z 0) = true := by rw [← ey, Bool.and_eq_true] at ht78; exact ht78.2
     refine Pe ?_;refine Z56 ?_;refine gz ?_;exact zo
    have hze : z = x.2 + C2 Bd (s.drop x.2) := Xm hz.1 hz.2 (by
     rcases Nat.lt_or_ge z s.length with h | h
     ·right; rw [← ey, decide_eq_true (by omega), Bool.true_and] at ht78; exact ht78
     exact .inl h)
    subst hze
    refine Z81 ?_;refine W.drawY [0, 0, 0, 7, 0, 16, 63, 127] [5] [.q 5 [] [], .s [] (some 0) [] []] (fun _ => Hp) (fun B => [.cells 33 [A3 0, A3 0], .cells 52 (if B 0 = true then [A3 1, A7 [], A3 (x.2 : Nat)] else [A3 0, A7 [], A3 (x.2 : Nat)])]) Ae (by kernel_rfl) rfl rfl (fun _ => rfl) ?_
    apply Y.q
    case h1 =>
     intro B hT hF
     refine U3 ?_;refine D.move ?_;refine D.scutLH x.2 (x.2 + C2 Bd (s.drop x.2)) jU (Nat.le_add_right _ _) (Ow (Nat.le_of_lt hxl)) ?_;exact wu
    case hTF => decide
    refine Y.storeOwn (u := Hp.length) (n := 1) (t' := 52) (cs := [A3 0, A7 [], A3 (x.2 : Nat)]) (cs' := [A3 1, A7 [], A3 (x.2 : Nat)]) Tryz.sizeOf3 (fun B hB => ⟨rfl, by simp only [hB]; rfl, by simp [upd], rfl⟩) ?_
    refine Y.tail (tn := [5]) (O := [.cells 33 [A3 0, A3 0], .cells 52 [A3 1, A7 [], A3 (x.2 : Nat)]]) ?_;refine qe ?_;refine gz ?_;refine B9 ?_
    rw [Tb]
    refine xa ?_;refine R.call Tryz.call53 (c53 ((s.drop x.2).takeWhile Bd) _) ?_;refine R.fin [0, 3, 4, 5, 7, 8, 9, 89] ?_
    refine W.cond (fun ht89 => ?_) (fun ht89 => ?_)
    ·have er : rwA s x.2 = (2, (s.drop x.2).takeWhile Bd, C2 Bd (s.drop x.2), 0) := by rw [hr0, if_pos ht89, if_pos ht89]
     refine H8 ?_;refine R.fieldAddrPtr (fo := 0) jU Tryz.sizeOf3 ?_;refine Fi ?_;refine Yq ?_
     rw [er]
     first | exact StLe.of_eq (by rfl) | (simp only [hyp]; exact StLe.of_eq (by rfl))
    have hsl := Ow (q := Bd) (Nat.le_of_lt hxl)
    refine Z31 ?_;refine R.sub64 ?_;refine R.gtr ?_;refine R.fin [0, 3, 4, 5, 7, 8, 9, 94] ?_
    refine W.cond (fun ht94 => ?_) (fun ht94 => ?_)
    ·have er : rwA s x.2 = (1, (s.drop x.2).takeWhile Bd, C2 Bd (s.drop x.2), 3) := by rw [hr0, if_neg (by rw [ht89]; simp), if_neg (by rw [ht89]; simp), if_pos (by simp at ht94; omega)]
     refine Yw ?_;refine Yq ?_
     rw [er]
     first | exact StLe.of_eq (by rfl) | (simp only [hyp]; exact StLe.of_eq (by rfl))
    have er : rwA s x.2 = (1, (s.drop x.2).takeWhile Bd, C2 Bd (s.drop x.2), 0) := by rw [hr0, if_neg (by rw [ht89]; simp), if_neg (by rw [ht89]; simp), if_neg (by simp at ht94; omega)]
    refine xp ?_
    rw [er]
    first | exact StLe.of_eq (by rfl) | (simp only [hyp]; exact StLe.of_eq (by rfl))
   refine Z0 ?_;refine R.call Tryz.call52 (c52 (pA s x.2) _) ?_;refine R.fin [0, 3, 4, 5, 6, 7, 8, 9, 96] ?_
   refine W.cond (fun ht96 => ?_) (fun ht96 => ?_)
   ·refine W.keep [0, 3, 4, 5, 7, 8] ?_
    have hr0 := ACg hxl ht56 ht96
    refine W.seq ?_
    refine AW.loopC (α := Nat) (fun z => ⟨248, A5 0 (A7 s) (A5 3 (.ptr (oid Hp.length 0) 0) (A5 4 (.slice true 3 ((Dw s x.1).map D0)) (A5 5 (A3 (x.2 : Nat)) (A5 7 (A3 (z : Nat)) (A5 8 (.ptr (oid Hp.length 1) 0) (fun _ => .any)))))), Hp, [.cells 33 [A3 0, A3 0], .cells 52 [A3 0, A7 [], A3 (x.2 : Nat)]], [], none⟩) (fun z => x.2 ≤ z ∧ z ≤ x.2 + C2 At (s.drop x.2)) (fun z => s.length - z) (x.2) ⟨Nat.le_refl _, Nat.le_add_right _ _⟩ (StLe.refl _) rfl (fun z hz => ?_)
    refine ll ?_
    refine G.sindex (z) (s.getD (z) 0) jU ?hb ?_
    case hb => exact fun hB => D9 (by simp at hB; omega)
    refine G.call Tryz.call52 (fun hB => c52 (s.getD z 0) _) ?_;refine F6 ?_;refine R.fin [0, 3, 4, 5, 7, 8, 106] ?_
    refine W.cond (fun ht106 => ?_) (fun ht106 => ?_)
    ·have hzl : z < s.length := by simp only [Bool.and_eq_true, decide_eq_true_eq] at ht106; omega
     have hzq : At (s.getD z 0) = true := by rw [Bool.and_eq_true] at ht106; exact ht106.2
     refine Pe ?_;refine Z56 ?_;refine R.fin [0, 3, 4, 5, 7, 8] ?_;exact zo
    have hze : z = x.2 + C2 At (s.drop x.2) := Xm hz.1 hz.2 (by
     rcases Nat.lt_or_ge z s.length with h | h
     ·right; rw [decide_eq_true (by omega), Bool.true_and] at ht106; exact ht106
     exact .inl h)
    subst hze
    refine Z81 ?_;refine W.drawY [0, 0, 0, 7, 0, 16, 63, 127] [5] [.q 5 [] [], .s [] (some 0) [] []] (fun _ => Hp) (fun B => [.cells 33 [A3 0, A3 0], .cells 52 (if B 0 = true then [A3 3, A7 [], A3 (x.2 : Nat)] else [A3 0, A7 [], A3 (x.2 : Nat)])]) Ae (by kernel_rfl) rfl rfl (fun _ => rfl) ?_
    apply Y.q
    case h1 =>
     intro B hT hF
     refine U3 ?_;refine D.move ?_;refine D.scutLH x.2 (x.2 + C2 At (s.drop x.2)) jU (Nat.le_add_right _ _) (Ow (Nat.le_of_lt hxl)) ?_;exact wu
    case hTF => decide
    refine Y.storeOwn (u := Hp.length) (n := 1) (t' := 52) (cs := [A3 0, A7 [], A3 (x.2 : Nat)]) (cs' := [A3 3, A7 [], A3 (x.2 : Nat)]) Tryz.sizeOf3 (fun B hB => ⟨rfl, by simp only [hB]; rfl, by simp [upd], rfl⟩) ?_
    refine Y.tail (tn := [5]) (O := [.cells 33 [A3 0, A3 0], .cells 52 [A3 3, A7 [], A3 (x.2 : Nat)]]) ?_;refine qe ?_;refine R.fin [0, 3, 4, 5, 7, 8] ?_;refine B9 ?_
    rw [Tb]
    refine xa ?_
    refine R.call Tryz.call27 (c27 ((s.drop x.2).takeWhile At) (by have h1 := Ow (q := At) (Nat.le_of_lt hxl); unfold C2 at h1; omega) _) ?_
    refine Z78 ?_;refine B3 ?_;refine gz ?_;refine Z0 ?_;refine R.eql ?_;refine R.fin [0, 3, 4, 5, 7, 8, 9, 122] ?_
    refine W.cond (fun ht122 => ?_) (fun ht122 => ?_)
    ·have er : rwA s x.2 = (3, (s.drop x.2).takeWhile At, C2 At (s.drop x.2), 7) := by rw [hr0, if_pos ht122]
     refine Yw ?_;refine Yq ?_
     rw [er]
     first | exact StLe.of_eq (by rfl) | (simp only [hyp]; exact StLe.of_eq (by rfl))
    have er : rwA s x.2 = (3, (s.drop x.2).takeWhile At, C2 At (s.drop x.2), (Ad ((s.drop x.2).takeWhile At)).2) := by rw [hr0, if_neg (by rw [ht122]; simp)]
    refine xp ?_
    rw [er]
    first | exact StLe.of_eq (by rfl) | (simp only [hyp]; exact StLe.of_eq (by rfl))
   refine Z0 ?_;refine R.eql ?_;refine R.fin [0, 3, 4, 5, 6, 7, 8, 9, 124] ?_
   refine W.cond (fun ht124 => ?_) (fun ht124 => ?_)
   ·have h39 : pA s x.2 = 39 := UInt8.toNat_inj.1 (by show (s.getD x.2 0).toNat = 39; simp only [beq_iff_eq] at ht124; omega)
    refine B9 ?_;refine qu ?_;refine lw ?_;refine Z0 ?_;refine Z23 ?_;refine lw ?_;refine W.seq ?_
    refine AW.loopC (α := Nat × Str) (fun y => ⟨248, A5 0 (A7 s) (A5 3 (.ptr (oid Hp.length 0) 0) (A5 4 (.slice true 3 ((Dw s x.1).map D0)) (A5 5 (A3 (x.2 : Nat)) (A5 7 (A3 (y.1 : Nat)) (A5 8 (.ptr (oid Hp.length 1) 0) (A5 9 (A3 0) (A5 10 (.slice true 1 (y.2.map u8A)) (fun _ => .any)))))))), Hp, [.cells 33 [A3 0, A3 0], .cells 52 [A3 0, A7 [], A3 (x.2 : Nat)]], [], none⟩) (fun y => QAt s x.2 y.1 y.2) (fun y => s.length - y.1) ((x.2 + 1, [])) (QAt.start hxl) (StLe.of_eq (by simp)) rfl (fun y hy => ?_)
    have hyhi := hy.hi
    have hylo := hy.lo
    have hyln := hy.len
    refine ll ?_
    refine G.sindex (y.1) (s.getD (y.1) 0) jU ?hb ?_
    case hb => exact fun hB => D9 (by simp at hB; omega)
    refine G.neq ?_;refine Rg ?_;refine G.add64 ?_;refine G.move ?_;refine G.slen jU ?_;refine G.lss ?_;refine Rg ?_;refine G.move ?_;refine G.add64 ?_
    refine G.sindex (y.1 + 1) (s.getD (y.1 + 1) 0) jU ?hb ?_
    case hb => exact fun hB => D9 (by simp at hB; omega)
    refine G.eql ?_;refine G.pickAnd ?_;refine G.pickOr ?_;refine F6 ?_;refine R.fin [0, 3, 4, 5, 7, 8, 9, 10, 151] ?_
    refine W.cond (fun ht151 => ?_) (fun ht151 => ?_)
    ·have hyl : y.1 < s.length := by simp only [Bool.and_eq_true, decide_eq_true_eq] at ht151; omega
     refine Pe ?_;refine B9 ?_;refine R.moveT ?_;refine Z53 ?_;refine R.sindex (y.1) (s.getD (y.1) 0) jU (D9 hyl)  ?_;refine W1 ?_
     refine R.append jU Tryz.type5 ?_ ?_ ?_
     ·have := hy.len; have := hy.hi; simp [Tryz.t5] <;> omega
     ·have := hy.len; have := hy.hi; simp [Tryz.t5] <;> omega
     refine R.assignT ?_;refine lw ?_;refine Vs ?_;refine R.sindex (y.1) (s.getD (y.1) 0) jU (D9 hyl)  ?_;refine R.eql ?_;refine R.fin [0, 3, 4, 5, 7, 8, 9, 10, 161] ?_
     refine W.cond (fun ht161 => ?_) (fun ht161 => ?_)
     ·have hq : s.getD y.1 0 = 39 := UInt8.toNat_inj.1 (by show (s.getD y.1 0).toNat = 39; simp only [beq_iff_eq] at ht161; omega)
      have h2 : y.1 + 1 < s.length ∧ s.getD (y.1 + 1) 0 = 39 := by
       have h9 := ht151
       simp only [Bool.and_eq_true, Bool.or_eq_true, decide_eq_true_eq, bne_iff_ne, beq_iff_eq, ne_eq] at h9
       rcases h9.2 with h | h
       ·exact absurd (by rw [hq]; rfl) h
       exact ⟨by omega, UInt8.toNat_inj.1 (by show (s.getD (y.1 + 1) 0).toNat = 39; omega)⟩
      have hon := hy.two h2.1 hq h2.2
      refine xn ?_;refine K.thN ?_;refine xn ?_;refine K.blN ?_
      first | exact K.lpN (y.1 + 1 + 1, y.2 ++ [s.getD y.1 0]) (hy.two h2.1 hq h2.2) (by show s.length - (y.1 + 1 + 1) < s.length - y.1; omega) (StCut.of_eq (by simp only [List.map_append]; rfl)) | exact K.lpN (y.1 + 1, y.2 ++ [s.getD y.1 0]) hon (by show s.length - (y.1 + 1) < s.length - y.1; omega) (StCut.of_eq (by simp only [List.map_append]; rfl))
     have hon := hy.one hyl (by intro e; rw [beq_eq_false_iff_ne] at ht161; exact ht161 (by rw [e]; rfl))
     refine Z4 ?_;refine xn ?_;refine K.blN ?_
     first | exact K.lpN (y.1 + 1 + 1, y.2 ++ [s.getD y.1 0]) (hy.two h2.1 hq h2.2) (by show s.length - (y.1 + 1 + 1) < s.length - y.1; omega) (StCut.of_eq (by simp only [List.map_append]; rfl)) | exact K.lpN (y.1 + 1, y.2 ++ [s.getD y.1 0]) hon (by show s.length - (y.1 + 1) < s.length - y.1; omega) (StCut.of_eq (by simp only [List.map_append]; rfl))
    have hout := hy.out (by
     rcases Nat.lt_or_ge y.1 s.length with h | h
     ·right
      have h9 := ht151
      rw [decide_eq_true (by omega), Bool.true_and, Bool.or_eq_false_iff, bne_eq_false_iff_eq] at h9
      refine ⟨UInt8.toNat_inj.1 (by show (s.getD y.1 0).toNat = 39; omega), ?_⟩
      rcases Nat.lt_or_ge (y.1 + 1) s.length with h1 | h1
      ·right
       have h8 := h9.2
       rw [decide_eq_true (by omega), Bool.true_and, beq_eq_false_iff_ne] at h8
       intro e
       exact h8 (by rw [e]; rfl)
      exact .inl h1
     exact .inl h)
    have hr0 := ACh hxl ht56 ht96 h39 hy.lo hout
    have hyp : x.2 + (y.1 + 1 - x.2) = y.1 + 1 := by have := hy.lo; omega
    refine Z81 ?_;refine W.drawY [0, 1, 0, 4, 15, 31] [3] [.q 3 [] [], .s [] (some 0) [] []] (fun _ => Hp) (fun B => [.cells 33 [A3 0, A3 0], .cells 52 (if B 0 = true then [A3 4, A7 [], A3 (x.2 : Nat)] else [A3 0, A7 [], A3 (x.2 : Nat)])]) Ae (by kernel_rfl) rfl rfl (fun _ => rfl) ?_
    apply Y.q
    case h1 =>
     intro B hT hF
     refine D.move ?_;refine D.bytesStr y.2 jU jU jU ?_;exact wu
    case hTF => decide
    refine Y.storeOwn (u := Hp.length) (n := 1) (t' := 52) (cs := [A3 0, A7 [], A3 (x.2 : Nat)]) (cs' := [A3 4, A7 [], A3 (x.2 : Nat)]) Tryz.sizeOf3 (fun B hB => ⟨rfl, by simp only [hB]; rfl, by simp [upd], rfl⟩) ?_
    refine Y.tail (tn := [3]) (O := [.cells 33 [A3 0, A3 0], .cells 52 [A3 4, A7 [], A3 (x.2 : Nat)]]) ?_;refine qe ?_;refine lw ?_;refine Z8 ?_;refine Z69 ?_;refine R.geq ?_;refine R.fin [0, 3, 4, 5, 7, 8, 9, 10, 173] ?_
    refine W.cond (fun ht173 => ?_) (fun ht173 => ?_)
    ·have er : rwA s x.2 = (4, y.2, y.1 + 1 - x.2, 7) := by rw [hr0, if_pos (by simp at ht173; omega)]
     refine Yw ?_;refine gz ?_;refine K.thN ?_;refine Z56 ?_;refine Yq ?_
     rw [er]
     first | exact StLe.of_eq (by rfl) | (simp only [hyp]; exact StLe.of_eq (by rfl))
    refine Z0 ?_;refine R.len jU ?_;refine R.gtr ?_;refine R.fin [0, 3, 4, 5, 7, 8, 9, 176] ?_
    refine W.cond (fun ht176 => ?_) (fun ht176 => ?_)
    ·have er : rwA s x.2 = (4, y.2, y.1 + 1 - x.2, 3) := by rw [hr0, if_neg (by simp at ht173; omega), if_pos (by simp at ht176; omega)]
     refine Yw ?_;refine gz ?_;refine K.thN ?_;refine Z56 ?_;refine Yq ?_
     rw [er]
     first | exact StLe.of_eq (by rfl) | (simp only [hyp]; exact StLe.of_eq (by rfl))
    have er : rwA s x.2 = (4, y.2, y.1 + 1 - x.2, 0) := by rw [hr0, if_neg (by simp at ht173; omega), if_neg (by simp at ht176; omega)]
    refine Z4 ?_;refine Z56 ?_;refine Yq ?_
    rw [er]
    first | exact StLe.of_eq (by rfl) | (simp only [hyp]; exact StLe.of_eq (by rfl))
   have h39 : pA s x.2 ≠ 39 := by intro e; rw [beq_eq_false_iff_ne] at ht124; exact ht124 (by rw [show s.getD x.2 0 = 39 from e]; rfl)
   have hr0 := ACi hxl ht56 ht96 h39
   have hsa := f7 hxl
   refine B9 ?_;refine R.fieldAddrPtr (fo := 0) jU Tryz.sizeOf3 ?_;refine Fi ?_;refine lv ?_;refine Z0 ?_;refine Z23 ?_;refine lv ?_
   refine W.join ⟨248, A5 0 (A7 s) (A5 3 (.ptr (oid Hp.length 0) 0) (A5 4 (.slice true 3 ((Dw s x.1).map D0)) (A5 5 (A3 (x.2 : Nat)) (A5 6 (.v (.int .u8 (pA s x.2).toNat)) (A5 7 (A3 ((x.2 + (Dt (s.drop x.2)) : Nat) : Int)) (A5 8 (.ptr (oid Hp.length 1) 0) (A5 9 (A3 0) (fun _ => .any)))))))), Hp, [.cells 33 [A3 0, A3 0], .cells 52 [A3 5, A7 [], A3 (x.2 : Nat)]], [], none⟩ ?_ ?_
   ·refine Z31 ?_;refine R.slen jU ?_;refine R.lss ?_;refine Pd ?_
    refine G.sindex (x.2 + 1) (s.getD (x.2 + 1) 0) jU ?hb ?_
    case hb => exact fun hB => D9 (by simp at hB; omega)
    refine G.eql ?_;refine U5 ?_;refine G.eql ?_;refine Rg ?_;refine lc ?_;refine Rg ?_;refine lc ?_;refine F6 ?_;refine R.fin [0, 3, 4, 5, 6, 7, 8, 9, 203] ?_
    refine W.cond (fun ht203 => ?_) (fun ht203 => ?_)
    ·have sg : Dt (s.drop x.2) = 2 := by rw [hsa, if_pos ht203]
     refine Z56 ?_;refine lv ?_;refine K.thJ ?_
     rw [sg]
     exact StLe.of_eq (by rfl)
    have sg : Dt (s.drop x.2) = 1 := by rw [hsa, if_neg (by rw [ht203]; simp)]
    refine W.keep [0, 3, 4, 5, 6, 7, 8, 9] ?_;refine Z50 ?_
    rw [sg]
    exact StLe.of_eq (by rfl)
   have hsgl := vh hxl
   refine Z31 ?_;refine C3 ?_;refine R.scutLH x.2 (x.2 + (Dt (s.drop x.2))) jU (Nat.le_add_right _ _) hsgl ?_;refine qe ?_;refine lv ?_;refine B9 ?_
   rw [jx]
   refine Z53 ?_;refine R.sub64 ?_;refine Z30 ?_;refine R.fin [0, 3, 4, 5, 6, 7, 8, 9, 11] ?_;refine Z1 ?_;refine R.fin [0, 3, 4, 5, 6, 7, 8, 9, 11, 12] ?_;refine Lr ?_;refine R.fin [0, 3, 4, 5, 6, 7, 8, 9, 11, 12, 13] ?_
   refine AW.loopC (α := Nat) (fun j => ⟨248, A5 0 (A7 s) (A5 3 (.ptr (oid Hp.length 0) 0) (A5 4 (.slice true 3 ((Dw s x.1).map D0)) (A5 5 (A3 (x.2 : Nat)) (A5 6 (.v (.int .u8 (pA s x.2).toNat)) (A5 7 (A3 ((x.2 + (Dt (s.drop x.2)) : Nat) : Int)) (A5 8 (.ptr (oid Hp.length 1) 0) (A5 9 (A3 0) (A5 11 (Ao (decide ((Dt (s.drop x.2)) = 2) || (singles.take j).contains (pA s x.2))) (A5 12 (A7 singles) (A5 13 (A3 (j : Nat)) (fun _ => .any))))))))))), Hp, [.cells 33 [A3 0, A3 0], .cells 52 [A3 5, A7 ((s.drop x.2).take (Dt (s.drop x.2))), A3 (x.2 : Nat)]], [], none⟩) (fun j => j ≤ singles.length) (fun j => singles.length - j) (0) (Nat.zero_le _) (StLe.of_eq (by rw [pa]; simp <;> rfl)) rfl (fun j hj => ?_)
   have hj14 : j ≤ 14 := hj
   refine kx ?_;refine R.fin [0, 3, 4, 5, 6, 7, 8, 9, 11, 12, 13, 218] ?_
   refine W.cond (fun ht218 => ?_) (fun ht218 => ?_)
   ·have hjl : j < singles.length := by simpa using ht218
    refine Ji ?_;refine Z5 ?_;refine Pd ?_
    refine G.sindex j singles[j] jU (fun _ => List.getElem?_eq_getElem hjl)  ?_
    refine G.move ?_;refine G.eql ?_;refine H7 ?_;refine B3 ?_;refine R.fin [0, 3, 4, 5, 6, 7, 8, 9, 11, 12, 13] ?_;refine Ob ?_;refine R.fin [0, 3, 4, 5, 6, 7, 8, 9, 11, 12, 13] ?_;exact K.lpN (j + 1) hjl (by omega) (StCut.of_eq (by rw [Y8 hjl, Bool.or_assoc]; rfl))
   have hje : (singles.take j) = singles := List.take_of_length_le (by simp at ht218; exact ht218)
   rw [hje]
   refine Z81 ?_;refine Z0 ?_;refine R.not ?_;refine R.fin [0, 3, 4, 5, 7, 8, 9, 230] ?_
   refine W.cond (fun ht230 => ?_) (fun ht230 => ?_)
   ·have er : rwA s x.2 = (5, (s.drop x.2).take (Dt (s.drop x.2)), Dt (s.drop x.2), 7) := by rw [hr0, if_neg (by simpa using ht230)]
    refine Yw ?_;refine Yq ?_
    rw [er]
    first | exact StLe.of_eq (by rfl) | (simp only [hyp]; exact StLe.of_eq (by rfl))
   have er : rwA s x.2 = (5, (s.drop x.2).take (Dt (s.drop x.2)), Dt (s.drop x.2), 0) := by rw [hr0, if_pos (by have h := ht230; simp at h; exact Decidable.or_iff_not_imp_left.2 (by simpa using h))]
   refine xp ?_
   rw [er]
   first | exact StLe.of_eq (by rfl) | (simp only [hyp]; exact StLe.of_eq (by rfl))
  refine Z8 ?_;refine R.neq ?_;refine R.fin [0, 3, 4, 5, 7, 8, 9, 232] ?_
  refine W.cond (fun ht232 => ?_) (fun ht232 => ?_)
  ·have he := zc hl4 hlx hxl (by simpa using ht232)
   refine Z31 ?_;refine AAr ?_;refine R.nilTmp 2 3 false ?_;refine Z88 ?_;refine K.thR ?_;refine gr ?_;refine K.thR ?_;exact K.fin (V.two V.tmp (V.cellN jA jS)) ⟨by rw [he] <;> rfl, rfl⟩
  obtain ⟨ha, hb, hc⟩ := ACj hlx hxl (by simpa using ht232)
  have hlen1 := Ew s x.1
  refine Oa ?_;refine R.moveT ?_;refine Kr ?_;refine W1 ?_
  refine R.append jU Tryz.type52 ?_ ?_ ?_
  ·have := Ew s x.1; simp [Tryz.t52] <;> omega
  ·have := Ew s x.1; simp [Tryz.t52] <;> omega
  refine R.assignT ?_;refine R.fin [0, 3, 4, 7] ?_;refine Z5 ?_;refine B3 ?_;refine W3 ?_;refine K.blN ?_
  refine K.lpN (x.1 + 1, x.2 + (rwA s x.2).2.2.1) hb (by show s.length - (x.2 + (rwA s x.2).2.2.1) < s.length - x.2; omega) ?_
  rw [ha, List.map_append]
  exact StCut.take (own := [.cells 33 [A3 0, A3 0]]) (fun _ => .refl _) (by repeat (first | exact F4 | refine F3 (by simp [or_imp, forall_and, oid]) ?_)) vi (by simp)
 have hxe : s.length ≤ x.2 := by simpa using ht22
 obtain ⟨hk, hz⟩ := Sb (T8 hx (.inl hxe)) hxe
 refine Z81 ?_;refine B9 ?_;refine R.moveT ?_;refine Z69 ?_;refine AA4 ?_
 refine R.append jU Tryz.type52 ?_ ?_ ?_
 ·have := Ew s x.1; simp [Tryz.t52] <;> omega
 ·have := Ew s x.1; simp [Tryz.t52] <;> omega
 refine ln ?_;refine R.assignT ?_;refine Z88 ?_;exact K.fin (V.two V.tmp (V.cellN jA jS)) ⟨by rw [Wc hl4 hz, hk, Np, List.map_append] <;> rfl, rfl⟩ (hlow := by simp [or_imp, forall_and])

abbrev prz (l : List Tok) (S : QS) : AObj := .cells 56 [.slice false 3 (l.map D0), A3 (S.i : Int), A3 S.code, A3 S.at_]
theorem vj {n : Nat} {l : List Tok} {S : QS} : ObjLow n (prz l S) := by
 show ∀ y ∈ [AV.slice false 3 (l.map D0), A3 (S.i : Int), A3 S.code, A3 S.at_], Low n y
 intro y hy
 simp only [List.mem_cons, List.not_mem_nil, or_false] at hy
 rcases hy with rfl | rfl | rfl | rfl
 ·simp [or_imp, forall_and]
 all_goals simp
def K6 (l : List Tok) (s : Str) (S : QS) : QS := if !isP l s S then Bq l 8 S else S
theorem pc {l : List Tok} {s : Str} {S : QS} : Ei l s S = if (K6 l s S).code == 0 then Ai (K6 l s S) else K6 l s S := by
 unfold Ei K6
 rw [← Ml]
 by_cases hc : S.code = 0
 ·rw [hc]
  cases hp : isP l s S with
  | true =>
   simp only [beq_self_eq_true, Bool.true_and, Bool.not_true, Bool.false_eq_true, if_true, if_false]
   rw [if_pos (by rw [hc]; rfl)]
  | false =>
   simp only [beq_self_eq_true, Bool.true_and, Bool.not_false, Bool.false_eq_true, if_true, if_false]
   rw [if_neg (by simpa using Dn (l := l) (e := 8) (by decide) S)]
 have h1 : (S.code == 0) = false := by simpa using hc
 rw [h1, Kp hc]
 simp only [Bool.false_and, Bool.false_eq_true, if_false]
 split <;> rw [h1] <;> rfl
theorem c25 (l : List Tok) (S : QS) (e : Int) (o : Nat) (Hp : List AObj) (ho : Hp[o]? = some (prz l S)) (hi : S.i < l.length) : ACall Tryz.prog 25 [.ptr o 0, A3 e] Hp (fun r H' => r = J2 ∧ H' = Hp.set o (prz l (Bq l e S))) := by
 refine ACall.body [] [0, 1] Tryz.func25 Tryz.ntmps25 (fun d => ?_)
 refine Vt ?_;refine l5 ?_;refine R.fin [0, 1, 9] ?_
 refine W.cond (fun ht9 => ?_) (fun ht9 => ?_)
 ·have e : Bq l e S = ⟨S.i, e, ((A4 l S.i).at_ : Int)⟩ := if_pos ht9
  refine zq ?_;refine kw ?_;refine xf ?_;refine AAt ?_;refine qm ?_
  refine R.storeUp jS ho ?_ ?_
  ·simp
  exact Z48
 have e : Bq l e S = S := if_neg (by rw [ht9]; simp)
 exact Z67

theorem c23 (l : List Tok) (S : QS) (s : Str) (o : Nat) (Hp : List AObj) (ho : Hp[o]? = some (prz l S)) (hi : S.i < l.length) : AFun Tryz.prog 23 [.ptr o 0, A7 s] Hp (Ao (isP l s S)) := by
 refine ACall.body [.tmp 4] [0, 1] Tryz.func23 Tryz.ntmps23 (fun d => ?_)
 refine Z9 ?_;refine Z44 ?_;refine Z79 ?_;refine rc ?_;refine Z13 ?_;refine B3 ?_;refine R.fin [0, 1, 5] ?_;refine W.draw [0, 1, 3, 7, 15, 31, 63, 127, 255, 511, 1023, 127, 2175, 6271, 14463, 32767, 65535, 131071, 127, 524287, 1048575, 2097151] 19 Ae (by kernel_rfl) ?_;refine D.move ?_;refine D.eql ?_;refine D.move ?_;refine H.move ?_;refine H.eql ?_;refine D.pickOr ?_;refine D.move ?_;refine xi ?_;refine H.loadUp jA ho ?_;refine xj ?_;refine AAn ?_;refine qi ?_;refine H.move ?_;refine D.tail ?_;refine G.seql ?_;refine Z39 ?_;exact xc

theorem c22 (l : List Tok) (S : QS) (s : Str) (o : Nat) (Hp : List AObj) (ho : Hp[o]? = some (prz l S)) (hi : S.i < l.length) (hll : l.length ≤ 1048576) : ACall Tryz.prog 22 [.ptr o 0, A7 s] Hp (fun r H' => r = J2 ∧ H' = Hp.set o (prz l (Ei l s S))) := by
 have hwi : (K6 l s S).i = S.i := by unfold K6; split; exact Fd ..; rfl
 refine ACall.body [] [0, 1] Tryz.func22 Tryz.ntmps22 (fun d => ?_)
 refine W.join ⟨23, A5 0 (.ptr o 0) (fun _ => .any), (Hp.set o (prz l (K6 l s S))), [], [], none⟩ ?_ ?_
 ·refine Z31 ?_;refine R.call Tryz.call23 (c23 l S s o _ (Ab ho) hi) ?_;refine R.not ?_;refine R.fin [0, 7] ?_
  refine W.cond (fun ht7 => ?_) (fun ht7 => ?_)
  ·have e : K6 l s S = Bq l 8 S := if_pos ht7
   refine Z5 ?_;refine AAh ?_;refine K.thJ ?_
   first | (rw [e]; exact StLe.of_eq (by rfl)) | (rw [e, B5 ho]; exact StLe.of_eq (by rfl))
  have e : K6 l s S = S := if_neg (by rw [ht7]; simp)
  refine W.keep [0] ?_;refine Z50 ?_
  first | (rw [e]; exact StLe.of_eq (by rfl)) | (rw [e, B5 ho]; exact StLe.of_eq (by rfl))
 refine Vt ?_;refine R.loadUp jA (Aa ho) ?_;refine R.eql ?_;refine R.fin [0, 15] ?_
 refine W.cond (fun ht15 => ?_) (fun ht15 => ?_)
 ·have e : Ei l s S = Ai (K6 l s S) := by rw [pc, if_pos ht15]
  refine Vx ?_;refine ku ?_
  refine R.storeUp jS (Aa ho) ?_ ?_
  ·simp
  refine R.fin [] ?_;exact ABc
 have e : Ei l s S = K6 l s S := by rw [pc, if_neg (by rw [ht15]; simp)]
 refine AW.skip ?_;exact ABc

theorem c24 (l : List Tok) (S : QS) (o : Nat) (Hp : List AObj) (ho : Hp[o]? = some (prz l S)) (hi : S.i < l.length) (hll : l.length ≤ 1048576) : ACall Tryz.prog 24 [.ptr o 0] Hp (fun r H' => r = A7 (Dg l S).1 ∧ H' = Hp.set o (prz l (Dg l S).2)) := by
 refine ACall.body [.tmp 2] [0] Tryz.func24 Tryz.ntmps24 (fun d => ?_)
 refine Lq ?_
 refine W.join ⟨42, A5 0 (.ptr o 0) (fun _ => .any), (Hp.set o (prz l (Fe l S))), [], [], none⟩ ?_ ?_
 ·refine Z44 ?_;refine Z79 ?_;refine rc ?_;refine Z13 ?_;refine R.neq ?_;refine R.fin [0, 14] ?_
  refine W.cond (fun ht14 => ?_) (fun ht14 => ?_)
  ·have e : Fe l S = Bq l 8 S := if_pos ht14
   refine Z5 ?_;refine AAh ?_;refine K.thJ ?_
   first | (rw [e]; exact StLe.of_eq (by rfl)) | (rw [e, B5 ho]; exact StLe.of_eq (by rfl))
  have e : Fe l S = S := if_neg (by rw [ht14]; simp)
  refine W.keep [0] ?_;refine Z50 ?_
  first | (rw [e]; exact StLe.of_eq (by rfl)) | (rw [e, B5 ho]; exact StLe.of_eq (by rfl))
 refine Z8 ?_;refine Yr ?_;refine R.loadUp jA (Aa ho) ?_;refine R.neq ?_;refine R.fin [0, 22] ?_
 refine W.cond (fun ht22 => ?_) (fun ht22 => ?_)
 ·have e : Dg l S = ([], Fe l S) := if_pos ht22
  refine Z24 ?_;refine K.thR ?_;exact ABd
 have e : Dg l S = ((A4 l S.i).text, Ai (Fe l S)) := if_neg (by rw [ht22]; simp)
 have hS : Fe l S = S := by
  cases hk : ((A4 l S.i).kind != 1) with
  | true =>
   have e2 : Fe l S = Bq l 8 S := if_pos hk
   rw [e2] at ht22
   exact absurd (by simpa using ht22) (Dn (l := l) (e := 8) (by decide) S)
  | false => unfold Fe; rw [hk]; rfl
 rw [hS] at e ⊢
 refine Z4 ?_;refine Vn ?_;refine ku ?_
 refine R.storeUp jS (Aa ho) ?_ ?_
 ·simp
 refine R.fin [0] ?_;refine W.draw [0, 1, 3, 7, 0, 16, 48, 112, 240, 511, 1023, 2047, 4095] 9 Ae (by kernel_rfl) ?_;refine Z16 ?_;refine D.loadUp jA (Aa (Aa ho)) ?_;refine Z12 ?_;refine D.loadUp jA (Aa (Aa ho)) ?_;refine D.sub64 ?_;refine zi ?_;refine Z55 ?_;refine Z97 ?_;exact ABd

theorem c26 (l : List Tok) (S : QS) (o : Nat) (Hp : List AObj) (ho : Hp[o]? = some (prz l S)) (hi : S.i < l.length) (hl : TokEnd l) (hll : l.length ≤ 500000) (ht : ∀ i, Ky (A4 l i)) : ACall Tryz.prog 26 [.ptr o 0] Hp (fun r H' => r = Af (Ho l S).1 ∧ H' = Hp.set o (prz l (Ho l S).2)) := by
 refine ACall.body [.cell 2 28] [0] Tryz.func26 Tryz.ntmps26 (fun d => ?_)
 refine Z77 ?_;refine Z8 ?_;refine Yr ?_;refine Yx ?_;refine R.fin [0, 2, 11] ?_
 refine W.cond (fun ht11 => ?_) (fun ht11 => ?_)
 ·have e : Ho l S = (Aj, S) := if_pos ht11
  refine Z26 ?_;refine R.wk 12 _ Eh ?_;refine gv ?_;exact K.fin (V.one (V.cellN jA jS)) ⟨by rw [e]; simp only [A8] <;> rfl, by rw [e]; exact (B5 ho).symm⟩ (hlow := by have := Ag Hp.length (Aj); simp only [A8, List.length_set] at this ⊢; exact this)
 have e0 : ¬ (S.code != 0) = true := by rw [ht11]; simp
 refine Z4 ?_;refine W.drawY [0, 1, 3, 7, 0, 16, 48, 112, 255, 511, 1023, 1023, 1023, 0, 0, 26623, 61439, 131071] [] [.q 13 [] [], .s [3] none [] [], .s [5] none [] [], .s [3] none [] [], .q 1 [] [], .s [5] none [] []] (fun _ => Hp) (fun _ => [.cells 28 [A3 0, A7 [], A3 0, A3 0, A7 [], .nil]]) Ae (by kernel_rfl) rfl rfl (fun _ => rfl) ?_
 apply Y.q
 case h1 =>
  intro B hT hF
  refine wy ?_;refine D.loadUp jA ho ?_;refine D.call Tryz.call54 (c54 l S.i hi hl hll ht _) ?_;refine D.move ?_;refine D.extract ?_;refine D.extract ?_;refine D.extract ?_;exact Jj
 case hTF => decide
 refine Y.allocP Tryz.zeroValue28 ?_;refine Y.allocP Tryz.zeroValue33 ?_;refine Y.storeP Tryz.sizeOf28 ?_
 apply Y.q
 case h1 =>
  intro B hT hF
  exact gg
 case hTF => decide
 refine Y.storeP Tryz.sizeOf33 ?_;refine Y.tail (tn := [])  ?_;refine R.fin [0, 2, 3, 4, 5] ?_;refine Z29 ?_;refine R.fieldAddrRo (off := 0) jU Tryz.sizeOf31 ?_;refine Ff ?_;refine R.neq ?_;refine R.fin [0, 2, 3, 4, 5, 28] ?_
 refine W.cond (fun ht28 => ?_) (fun ht28 => ?_)
 ·have e : Ho l S = (Aj, ⟨S.i, (atM l S.i).2.2.1, (atM l S.i).2.2.2⟩) := by unfold Ho; rw [if_neg e0, if_pos ht28]
  refine rd ?_;refine qm ?_
  refine R.storeUp jS ho ?_ ?_
  ·simp
  refine R.fin [2] ?_;refine Z26 ?_;refine R.wk 33 _ Eh ?_;refine gv ?_;exact ABb
 obtain ⟨k, hk, hkl⟩ := Ou hl (by omega) hi (show (atM l S.i).2.2.1 = 0 by simpa using ht28)
 have e : Ho l S = ((atM l S.i).1, ⟨k, S.code, S.at_⟩) := by unfold Ho; rw [if_neg e0, if_neg (by rw [ht28]; simp), hk]; rfl
 refine Oa ?_
 rw [hk]
 refine Z53 ?_;refine Z3 ?_
 refine R.storeUp jS ho ?_ ?_
 ·simp
 refine R.fin [2, 3] ?_;refine kz ?_;refine Z22 ?_;exact K.fin (V.one (V.cellN jA jS)) ⟨by rw [e]; simp only [A8] <;> rfl, by rw [e] <;> rfl⟩ (hlow := by have := Ag Hp.length ((atM l S.i).1); simp only [A8, List.length_set] at this ⊢; exact this)

theorem jy (c : List Str) (x : Str) : c.map A7 ++ [A7 x] = (c ++ [x]).map A7 := by simp
theorem c7 (s : Str) (hs : s.length ≤ 1048576) (Hp : List AObj) : AFun Tryz.prog 7 [A7 s] Hp (.tup [Rw (An s).1, .agg [A3 (An s).2.1, A3 (An s).2.2]]) := by
 refine ACall.body [.cell 2 30, .cell 3 33] [0] Tryz.func7 Tryz.ntmps7 (fun d => ?_)
 refine Z28 ?_;refine J4 ?_;refine Yy ?_;refine R.call Tryz.call21 (c21 s hs _) ?_;refine Z78 ?_;refine J4 ?_;refine r6 ?_;refine Rk ?_;refine Z29 ?_;refine xk ?_;refine R.fin [2, 3, 4, 5, 17] ?_
 refine W.cond (fun ht17 => ?_) (fun ht17 => ?_)
 ·have e : An s = (K2, (A6 s).2.1, ((A6 s).2.2 : Int)) := if_pos ht17
  refine AB7 ?_
  apply Y.q
  case h1 =>
   intro B hT hF
   exact zt
  case hTF => decide
  refine Z93 ?_;exact lb
 have e0 : ¬ ((A6 s).2.1 != 0) = true := by rw [ht17]; simp
 have hz : (A6 s).2.1 = 0 := by simpa using ht17
 have hle := cm hz
 have hlen := cu hz
 have hpos : 0 < (A6 s).1.length := hle.pos
 have hl5 : (A6 s).1.length ≤ 500000 := by omega
 have hl1 : (A6 s).1.length ≤ 1048576 := by omega
 have f1 : (s1Q (A6 s).1).i < (A6 s).1.length := K3 hle hpos
 have hp : An s = Ux (A6 s).1 := (show An s = Eo (A6 s).1 from if_neg e0).trans (bl (dw hz)).symm
 obtain ⟨f2, f3, f4, f5⟩ := Xw hle hl5
 refine Ls ?_;refine AAp ?_;refine B3 ?_;refine R.fin [2, 3, 6] ?_;refine AAg ?_;refine R.wk 23 _ w8 ?_;refine Z10 ?_;refine Pi ?_;refine B9 ?_;refine R.nilCell 4 1 1 ?_;refine C3 ?_
 refine R.callOwn (n := 3) (x := prz (A6 s).1 (s1Q (A6 s).1)) Tryz.call22 (c22 (A6 s).1 ⟨0, 0, 0⟩ Fb (oid Hp.length 3) _ (by rw [Ap]; rfl) hpos hl1) ?_
 refine Pi ?_
 refine W.join ⟨203, A5 2 (.ptr (oid Hp.length 0) 0) (A5 3 (.ptr (oid Hp.length 1) 0) (A5 6 (.ptr (oid Hp.length 3) 0) (A5 7 (.ptr (oid Hp.length 4) 0) (fun _ => .any)))), Hp, [.cells 30 [Ao false, .nil, A3 0, A7 [], A3 0, A3 0, A7 [], .nil, A3 0], .cells 33 [A3 0, A3 0], .cells 33 [A3 (A6 s).2.1, A3 ((A6 s).2.2 : Nat)], prz (A6 s).1 (r1P (A6 s).1).2, qo true (r1P (A6 s).1).1], [], none⟩ ?_ ?_
 ·refine Vt ?_;refine l8 ?_
  refine G.call Tryz.call23 (fun hB => c23 (A6 s).1 (s1Q (A6 s).1) [42] (oid Hp.length 3) _ (by rw [Ap]; rfl) f1) ?_
  refine F6 ?_;refine R.fin [2, 3, 6, 7, 35] ?_
  refine W.cond (fun ht35 => ?_) (fun ht35 => ?_)
  ·rw [Ml] at ht35
   have e1 : r1P (A6 s).1 = (Ec true q0Q, Ai (s1Q (A6 s).1)) := if_pos ht35
   refine B9 ?_;refine lq ?_;refine Z96 ?_;refine Vx ?_;refine l7 ?_;refine Z96 ?_;refine K.thJ ?_
   first | (rw [e1]; exact StLe.of_eq (by rfl)) | (rw [e1]; exact StLe.refl _)
  rw [Ml] at ht35
  have e0 : r1P (A6 s).1 = J3 (A6 s).1 (A6 s).1.length (Rx (A6 s).1 (q0Q, s1Q (A6 s).1)) := if_neg (by show ¬ isQ (A6 s).1 [42] (s1Q (A6 s).1) = true; rw [ht35]; simp)
  refine W.drawY [0, 1, 0, 4, 12, 31, 63, 127] [1, 3] [.q 1 [] [0], .s [45] (some 0) [] [], .q 1 [] [1], .s [47] (some 1) [] [], .q 1 [1] []] (fun _ => Hp) (fun B => [.cells 30 [Ao false, .nil, A3 0, A7 [], A3 0, A3 0, A7 [], .nil, A3 0], .cells 33 [A3 0, A3 0], .cells 33 [A3 (A6 s).2.1, A3 ((A6 s).2.2 : Nat)], (if B 1 = true then prz (A6 s).1 (Dg (A6 s).1 (s1Q (A6 s).1)).2 else prz (A6 s).1 (s1Q (A6 s).1) : AObj), .cells 30 (if B 0 = true then qoC false q0Q else qoC true q0Q)]) Ae (by kernel_rfl) rfl rfl (fun B => rfl) ?_
  apply Y.q
  case h1 =>
   intro B hT hF
   exact ww
  case hTF => decide
  refine Y.loadOwnT (u := Hp.length) (n := 4) (t' := 30) (cs := qoC true q0Q) (cs' := qoC false q0Q) Tryz.isAgg23 (fun B hB => ⟨rfl, by simp only [hB]; rfl, by simp [upd], rfl⟩) ?_
  apply Y.q
  case h1 =>
   intro B hT hF
   exact qt
  case hTF => decide
  refine Y.callOwn (r := A7 (Dg (A6 s).1 (s1Q (A6 s).1)).1) (n := 3) (x0 := prz (A6 s).1 (s1Q (A6 s).1)) (x := prz (A6 s).1 (Dg (A6 s).1 (s1Q (A6 s).1)).2) Tryz.call24 (fun B hT hF hB => ⟨by simp [hB], by simp [upd, hB], rfl, ?_⟩) ?_
  ·simp only [hB]
   exact c24 (A6 s).1 (s1Q (A6 s).1) (oid Hp.length 3) _ (by rw [Ap]; rfl) f1 hl1
  apply Y.q
  case h1 =>
   intro B hT hF
   exact Z70
  case hTF => decide
  refine Y.tail (tn := [1, 3]) (O := [.cells 30 [Ao false, .nil, A3 0, A7 [], A3 0, A3 0, A7 [], .nil, A3 0], .cells 33 [A3 0, A3 0], .cells 33 [A3 (A6 s).2.1, A3 ((A6 s).2.2 : Nat)], prz (A6 s).1 (Dg (A6 s).1 (s1Q (A6 s).1)).2, qo false q0Q]) ?_
  refine R.append jU Tryz.type9 ?_ ?_ ?_
  ·simp [Tryz.t9, q0Q]
  ·simp [Tryz.t9, q0Q]
  refine rk ?_;refine R.storeOwnT jS ?_;refine Pi ?_
  refine AW.loopC (α := Qry × QS) (fun r => ⟨203, A5 2 (.ptr (oid Hp.length 0) 0) (A5 3 (.ptr (oid Hp.length 1) 0) (A5 6 (.ptr (oid Hp.length 3) 0) (A5 7 (.ptr (oid Hp.length 4) 0) (fun _ => .any)))), Hp, [.cells 30 [Ao false, .nil, A3 0, A7 [], A3 0, A3 0, A7 [], .nil, A3 0], .cells 33 [A3 0, A3 0], .cells 33 [A3 (A6 s).2.1, A3 ((A6 s).2.2 : Nat)], prz (A6 s).1 r.2, qo true r.1], [], none⟩) (fun r => PNames (A6 s).1 (Rx (A6 s).1 (q0Q, s1Q (A6 s).1)) r) (fun r => (A6 s).1.length - r.2.i) ((Rx (A6 s).1 (q0Q, s1Q (A6 s).1))) (R0 hle f1 rfl) (StLe.of_eq (by rfl)) rfl (fun r hx => ?_)
  refine Z8 ?_;refine Yr ?_;refine l8 ?_
  refine G.call Tryz.call23 (fun hB => c23 (A6 s).1 r.2 [44] (oid Hp.length 3) _ (by rw [Ap]; rfl) hx.lt) ?_
  refine F6 ?_;refine R.fin [2, 3, 6, 7, 60] ?_
  refine W.cond (fun ht60 => ?_) (fun ht60 => ?_)
  ·rw [Ml] at ht60
   have hon := hx.on hle ht60
   have hst := Qz hle hx.lt ht60
   have hlt0 := hx.lt
   refine Pe ?_;refine Vn ?_;refine l7 ?_;refine Z96 ?_
   refine W.join ⟨203, A5 2 (.ptr (oid Hp.length 0) 0) (A5 3 (.ptr (oid Hp.length 1) 0) (A5 6 (.ptr (oid Hp.length 3) 0) (A5 7 (.ptr (oid Hp.length 4) 0) (fun _ => .any)))), Hp, [.cells 30 [Ao false, .nil, A3 0, A7 [], A3 0, A3 0, A7 [], .nil, A3 0], .cells 33 [A3 0, A3 0], .cells 33 [A3 (A6 s).2.1, A3 ((A6 s).2.2 : Nat)], prz (A6 s).1 (Cm (A6 s).1 (r.1, Ai r.2)), qo true r.1], [], none⟩ ?_ ?_
   ·refine W.draw [0, 1, 3, 7, 15, 31, 63, 127, 255, 31, 543, 1567, 3615, 8191, 16383, 32767, 65535, 131071] 13 Ae (by kernel_rfl) ?_;refine D.fieldAddrPtr (fo := 1) jU Tryz.sizeOf23 ?_;refine D.loadOwn jA ?_;refine D.len jU ?_;refine D.eql ?_;refine D.move ?_;refine xi ?_;refine H.loadOwn jA ?_;refine xj ?_;refine H.loadOwn jA ?_;refine D.tail ?_;refine G.indexAddr ((Ai r.2).i) (D0 (A4 (A6 s).1 (Ai r.2).i)) jU jS (fun _ => Fm hst.1) ?_;refine Z92 ?_;refine G.eql ?_;refine F6 ?_;refine R.fin [2, 3, 6, 7, 85] ?_
    refine W.cond (fun ht85 => ?_) (fun ht85 => ?_)
    ·rw [List.length_map] at ht85
     have ec : (Cm (A6 s).1 (r.1, Ai r.2)) = Bq (A6 s).1 3 (Ai r.2) := if_pos ht85
     refine Z5 ?_
     refine R.callOwn (n := 3) (x := prz (A6 s).1 (Bq (A6 s).1 3 (Ai r.2))) Tryz.call25 (c25 (A6 s).1 (Ai r.2) 3 (oid Hp.length 3) _ (by rw [Ap]; rfl) hst.1) ?_
     refine qx ?_
     first | (rw [ec]; exact StLe.of_eq (by rfl)) | (rw [ec]; exact StLe.refl _)
    rw [List.length_map] at ht85
    have ec : (Cm (A6 s).1 (r.1, Ai r.2)) = Ai r.2 := if_neg (fun h => by rw [show _ = true from h] at ht85; cases ht85)
    refine qy ?_
    first | (rw [ec]; exact StLe.of_eq (by rfl)) | (rw [ec]; exact StLe.refl _)
   refine W.drawY0 [0, 1, 0, 4, 12, 31, 63, 127] [1, 3] [.q 1 [] [0], .s [89] (some 0) [] [], .q 1 [] [1], .s [91] (some 1) [] [], .q 1 [1] []] (fun _ => Hp) (fun B => [.cells 30 [Ao false, .nil, A3 0, A7 [], A3 0, A3 0, A7 [], .nil, A3 0], .cells 33 [A3 0, A3 0], .cells 33 [A3 (A6 s).2.1, A3 ((A6 s).2.2 : Nat)], (if B 1 = true then prz (A6 s).1 (Dg (A6 s).1 (Cm (A6 s).1 (r.1, Ai r.2))).2 else prz (A6 s).1 (Cm (A6 s).1 (r.1, Ai r.2)) : AObj), .cells 30 (if B 0 = true then qoC false r.1 else qoC true r.1)]) Ae (by kernel_rfl) rfl rfl (fun B => rfl) ?_
   apply Y.q
   case h1 =>
    intro B hT hF
    exact ww
   case hTF => decide
   refine Y.loadOwnT (u := Hp.length) (n := 4) (t' := 30) (cs := qoC true r.1) (cs' := qoC false r.1) Tryz.isAgg23 (fun B hB => ⟨rfl, by simp only [hB]; rfl, by simp [upd], rfl⟩) ?_
   apply Y.q
   case h1 =>
    intro B hT hF
    exact qt
   case hTF => decide
   refine Y.callOwn (r := A7 (Dg (A6 s).1 (Cm (A6 s).1 (r.1, Ai r.2))).1) (n := 3) (x0 := prz (A6 s).1 (Cm (A6 s).1 (r.1, Ai r.2))) (x := prz (A6 s).1 (Dg (A6 s).1 (Cm (A6 s).1 (r.1, Ai r.2))).2) Tryz.call24 (fun B hT hF hB => ⟨by simp [hB], by simp [upd, hB], rfl, ?_⟩) ?_
   ·simp only [hB]
    exact c24 (A6 s).1 (Cm (A6 s).1 (r.1, Ai r.2)) (oid Hp.length 3) _ (by rw [Ap]; rfl) hst.2.1 hl1
   apply Y.q
   case h1 =>
    intro B hT hF
    exact Z70
   case hTF => decide
   refine Y.tail (tn := [1, 3]) (O := [.cells 30 [Ao false, .nil, A3 0, A7 [], A3 0, A3 0, A7 [], .nil, A3 0], .cells 33 [A3 0, A3 0], .cells 33 [A3 (A6 s).2.1, A3 ((A6 s).2.2 : Nat)], prz (A6 s).1 (Dg (A6 s).1 (Cm (A6 s).1 (r.1, Ai r.2))).2, qo false r.1]) ?_
   refine R.append jU Tryz.type9 ?_ ?_ ?_
   ·have := hx.cols; have := hx.lt; simp [Tryz.t9] <;> omega
   ·have := hx.cols; have := hx.lt; simp [Tryz.t9] <;> omega
   refine rk ?_;refine R.storeOwnT jS ?_;refine Pi ?_;refine K.blN ?_;exact K.lpN (Qx (A6 s).1 r) hon.1 (by have := hon.2; omega) (StCut.of_eq (by rw [jy]; rfl))
  refine W.keep [2, 3, 6, 7] ?_
  rw [Ml] at ht60
  have e1 : r1P (A6 s).1 = r := e0.trans (hx.out ht60)
  refine Z40 ?_;refine K.lpE ?_;refine K.thJ ?_
  first | (rw [e1]; exact StLe.of_eq (by rfl)) | (rw [e1]; exact StLe.refl _)
 refine W.join ⟨203, A5 2 (.ptr (oid Hp.length 0) 0) (A5 3 (.ptr (oid Hp.length 1) 0) (A5 6 (.ptr (oid Hp.length 3) 0) (A5 7 (.ptr (oid Hp.length 4) 0) (fun _ => .any)))), Hp, [.cells 30 [Ao false, .nil, A3 0, A7 [], A3 0, A3 0, A7 [], .nil, A3 0], .cells 33 [A3 0, A3 0], .cells 33 [A3 (A6 s).2.1, A3 ((A6 s).2.2 : Nat)], prz (A6 s).1 (r2P (A6 s).1).2, qo true (r2P (A6 s).1).1], [], none⟩ ?_ ?_
 ·refine Vt ?_;refine l8 ?_
  refine G.call Tryz.call23 (fun hB => c23 (A6 s).1 (r1P (A6 s).1).2 De (oid Hp.length 3) _ (by rw [Ap]; rfl) f2) ?_
  refine F6 ?_;refine R.fin [2, 3, 6, 7, 104] ?_
  refine W.cond (fun ht104 => ?_) (fun ht104 => ?_)
  ·rw [Ml] at ht104
   have hw1 : (Ai (r1P (A6 s).1).2).i < (A6 s).1.length := hle.step f2 (Lh ht104)
   have e2 : r2P (A6 s).1 = (⟨(r1P (A6 s).1).1.all, (r1P (A6 s).1).1.cols, (Ho (A6 s).1 (Ai (r1P (A6 s).1).2)).1, (r1P (A6 s).1).1.lim⟩, (Ho (A6 s).1 (Ai (r1P (A6 s).1).2)).2) := if_pos ht104
   refine Vn ?_;refine l7 ?_;refine Z96 ?_;refine Z5 ?_
   refine R.callOwn (n := 3) (x := prz (A6 s).1 (Ho (A6 s).1 (Ai (r1P (A6 s).1).2)).2) Tryz.call26 (c26 (A6 s).1 (Ai (r1P (A6 s).1).2) (oid Hp.length 3) _ (by rw [Ap]; rfl) hw1 hle hl5 (dp hz)) ?_
   refine R.fieldAddrPtr (fo := 2) jU Tryz.sizeOf28 ?_;refine Z96 ?_;refine K.thJ ?_
   first | (rw [e2]; exact StLe.of_eq (by rfl)) | (rw [e2]; exact StLe.refl _)
  rw [Ml] at ht104
  have e2 : r2P (A6 s).1 = r1P (A6 s).1 := if_neg (by rw [ht104]; simp)
  refine qy ?_
  first | (rw [e2]; exact StLe.of_eq (by rfl)) | (rw [e2]; exact StLe.refl _)
 refine W.join ⟨203, A5 2 (.ptr (oid Hp.length 0) 0) (A5 3 (.ptr (oid Hp.length 1) 0) (A5 6 (.ptr (oid Hp.length 3) 0) (A5 7 (.ptr (oid Hp.length 4) 0) (fun _ => .any)))), Hp, [.cells 30 [Ao false, .nil, A3 0, A7 [], A3 0, A3 0, A7 [], .nil, A3 0], .cells 33 [A3 0, A3 0], .cells 33 [A3 (A6 s).2.1, A3 ((A6 s).2.2 : Nat)], prz (A6 s).1 (r3P (A6 s).1).2, qo true (r3P (A6 s).1).1], [], none⟩ ?_ ?_
 ·refine Vt ?_;refine l8 ?_
  refine G.call Tryz.call23 (fun hB => c23 (A6 s).1 (r2P (A6 s).1).2 Cr (oid Hp.length 3) _ (by rw [Ap]; rfl) f3) ?_
  refine F6 ?_;refine R.fin [2, 3, 6, 7, 124] ?_
  refine W.cond (fun ht124 => ?_) (fun ht124 => ?_)
  ·rw [Ml] at ht124
   have hi2 : (Ai (r2P (A6 s).1).2).i < (A6 s).1.length := hle.step f3 (Lh ht124)
   refine Vn ?_;refine l7 ?_;refine Z96 ?_;refine W.draw [0, 1, 3, 7, 0, 16, 48, 112, 255, 511, 1023, 2047, 4095, 8191, 8191, 16383, 65535] 16 Ae (by kernel_rfl) ?_;refine Z16 ?_;refine re ?_;refine D.indexAddr ((Ai (r2P (A6 s).1).2).i) (D0 (A4 (A6 s).1 (Ai (r2P (A6 s).1).2).i)) jU jS (Fm hi2) ?_;refine Z54 ?_;refine D.call Tryz.call27 (c27 (A4 (A6 s).1 (Ai (r2P (A6 s).1).2).i).text (hle.text _) _) ?_;refine D.move ?_;refine D.extract ?_;refine D.extract ?_;refine D.assign ?_;refine D.tail ?_;refine B3 ?_;refine R.fin [2, 3, 6, 7, 8] ?_;refine Z44 ?_;refine re ?_;refine D.tail ?_;refine R.indexAddr ((Ai (r2P (A6 s).1).2).i) (D0 (A4 (A6 s).1 (Ai (r2P (A6 s).1).2).i)) jU jS (Fm hi2) ?_;refine Z13 ?_;refine R.neq ?_;refine R.fin [2, 3, 6, 7, 8, 158] ?_
   refine W.cond (fun ht158 => ?_) (fun ht158 => ?_)
   ·have e3 : r3P (A6 s).1 = ((r2P (A6 s).1).1, Bq (A6 s).1 8 (Ai (r2P (A6 s).1).2)) := by unfold r3P Li; rw [if_pos ht124, if_pos ht158]
    refine Z5 ?_
    refine R.callOwn (n := 3) (x := prz (A6 s).1 (Bq (A6 s).1 8 (Ai (r2P (A6 s).1).2))) Tryz.call25 (c25 (A6 s).1 (Ai (r2P (A6 s).1).2) 8 (oid Hp.length 3) _ (by rw [Ap]; rfl) hi2) ?_
    refine qx ?_
    first | (rw [e3]; exact StLe.of_eq (by rfl)) | (rw [e3]; exact StLe.refl _)
   refine Z0 ?_;refine R.gtr ?_;refine R.fin [2, 3, 6, 7, 8, 162] ?_
   refine W.cond (fun ht162 => ?_) (fun ht162 => ?_)
   ·have e3 : r3P (A6 s).1 = ((r2P (A6 s).1).1, Bq (A6 s).1 3 (Ai (r2P (A6 s).1).2)) := by unfold r3P Li; rw [if_pos ht124, if_neg (by rw [ht158]; simp)]; exact if_pos ht162
    refine Z5 ?_
    refine R.callOwn (n := 3) (x := prz (A6 s).1 (Bq (A6 s).1 3 (Ai (r2P (A6 s).1).2))) Tryz.call25 (c25 (A6 s).1 (Ai (r2P (A6 s).1).2) 3 (oid Hp.length 3) _ (by rw [Ap]; rfl) hi2) ?_
    refine qx ?_
    first | (rw [e3]; exact StLe.of_eq (by rfl)) | (rw [e3]; exact StLe.refl _)
   have e3 : r3P (A6 s).1 = (⟨(r2P (A6 s).1).1.all, (r2P (A6 s).1).1.cols, (r2P (A6 s).1).1.whr, um (A6 s).1 (Ai (r2P (A6 s).1).2)⟩, Ai (Ai (r2P (A6 s).1).2)) := by unfold r3P Li; rw [if_pos ht124, if_neg (by rw [ht158]; simp)]; exact if_neg (fun h => Bool.false_ne_true (ht162.symm.trans h))
   refine Z0 ?_;refine R.fieldAddrPtr (fo := 8) jU Tryz.sizeOf3 ?_;refine Z96 ?_;refine Vx ?_;refine l7 ?_;refine Z96 ?_;refine K.thJ ?_
   first | (rw [e3]; exact StLe.of_eq (by rfl)) | (rw [e3]; exact StLe.refl _)
  rw [Ml] at ht124
  have e3 : r3P (A6 s).1 = r2P (A6 s).1 := if_neg (by rw [ht124]; simp)
  refine qy ?_
  first | (rw [e3]; exact StLe.of_eq (by rfl)) | (rw [e3]; exact StLe.refl _)
 refine Z0 ?_
 refine R.callOwn (n := 3) (x := prz (A6 s).1 (s4P (A6 s).1)) Tryz.call22 (c22 (A6 s).1 (r3P (A6 s).1).2 [59] (oid Hp.length 3) _ (by rw [Ap]; rfl) f4 hl1) ?_
 refine Pi ?_
 refine W.join ⟨203, A5 2 (.ptr (oid Hp.length 0) 0) (A5 3 (.ptr (oid Hp.length 1) 0) (A5 6 (.ptr (oid Hp.length 3) 0) (A5 7 (.ptr (oid Hp.length 4) 0) (fun _ => .any)))), Hp, [.cells 30 [Ao false, .nil, A3 0, A7 [], A3 0, A3 0, A7 [], .nil, A3 0], .cells 33 [A3 0, A3 0], .cells 33 [A3 (A6 s).2.1, A3 ((A6 s).2.2 : Nat)], prz (A6 s).1 (s5P (A6 s).1), qo true (r3P (A6 s).1).1], [], none⟩ ?_ ?_
 ·refine Z44 ?_;refine re ?_;refine D.tail ?_;refine R.indexAddr ((s4P (A6 s).1).i) (D0 (A4 (A6 s).1 (s4P (A6 s).1).i)) jU jS (Fm f5) ?_;refine Z13 ?_;refine R.neq ?_;refine R.fin [2, 3, 6, 7, 187] ?_
  refine W.cond (fun ht187 => ?_) (fun ht187 => ?_)
  ·have e5 : s5P (A6 s).1 = Bq (A6 s).1 8 (s4P (A6 s).1) := if_pos ht187
   refine Z5 ?_
   refine R.callOwn (n := 3) (x := prz (A6 s).1 (Bq (A6 s).1 8 (s4P (A6 s).1))) Tryz.call25 (c25 (A6 s).1 (s4P (A6 s).1) 8 (oid Hp.length 3) _ (by rw [Ap]; rfl) f5) ?_
   refine qx ?_
   first | (rw [e5]; exact StLe.of_eq (by rfl)) | (rw [e5]; exact StLe.refl _)
  have e5 : s5P (A6 s).1 = s4P (A6 s).1 := if_neg (by rw [ht187]; simp)
  refine qy ?_
  first | (rw [e5]; exact StLe.of_eq (by rfl)) | (rw [e5]; exact StLe.refl _)
 refine Z8 ?_;refine Yr ?_;refine Yt ?_;refine R.fin [2, 3, 6, 7, 195] ?_
 refine W.cond (fun ht195 => ?_) (fun ht195 => ?_)
 ·have e : An s = (K2, (s5P (A6 s).1).code, (s5P (A6 s).1).at_) := by rw [hp]; exact if_pos ht195
  refine W.drawY [0, 0, 2, 6, 14, 1, 63] [5] [.q 5 [] [], .s [] (some 0) [] []] (fun _ => Hp) (fun _ => [.cells 30 [Ao false, .nil, A3 0, A7 [], A3 0, A3 0, A7 [], .nil, A3 0], .cells 33 [A3 0, A3 0], .cells 33 [A3 (A6 s).2.1, A3 ((A6 s).2.2 : Nat)], prz (A6 s).1 (s5P (A6 s).1), qo true (r3P (A6 s).1).1]) Ae (by kernel_rfl) rfl rfl (fun _ => rfl) ?_
  apply Y.q
  case h1 =>
   intro B hT hF
   refine wo ?_;exact x7
  case hTF => decide
  refine Z43 ?_;exact lb
 have e : An s = ((r3P (A6 s).1).1, 0, 0) := by rw [hp]; exact if_neg (by show ¬ (((s5P (A6 s).1).code != 0) = true); rw [ht195]; simp)
 refine Zd ?_;refine q9 ?_;refine Z88 ?_;exact K.fin (V.two (V.cellN jA jS) (V.cellN jA jS)) ⟨by rw [e] <;> rfl, rfl⟩ (hlow := by have := du (n := Hp.length) (q := (r3P (A6 s).1).1); simp at this ⊢; exact this)

theorem bu {e : Expr} (h : Bk e = true) : e.text.length ≤ 16 ∧ e.kids.length ≤ 8 := by
 cases Fq h with
 | val v hp h0 => exact ⟨by simp [Co, Expr.text], by simp [Co, Expr.kids]⟩
 | name t ht =>
  refine ⟨?_, by simp [D6, Expr.kids]⟩
  show t.length ≤ 16
  cases t with
  | nil => simp
  | cons c r =>
   simp only [Gq, Bool.and_eq_true, decide_eq_true_eq] at ht
   exact ht.1.1.1
 | neg a => exact ⟨by simp [Bl, Expr.text], by simp [Bl, Expr.kids]⟩
 | no a => exact ⟨by simp [Bl, Expr.text], by simp [Bl, Expr.kids]⟩
 | bin t a b ht => exact ⟨by have := Y4 ht; show t.length ≤ 16; omega, by simp [Bu, Expr.kids]⟩
 | call t k ha =>
  refine ⟨by have := R5 ha; show t.length ≤ 16; omega, ?_⟩
  show k.length ≤ 8
  rcases Lc ha with ⟨_, e⟩ | ⟨_, e⟩ | ⟨_, e⟩ | ⟨_, e⟩ | ⟨_, e⟩ | ⟨_, e⟩ | ⟨_, e⟩ | ⟨_, e⟩ <;> omega
theorem Tm : ∀ {l : List Expr} {y : Expr}, y ∈ l → depthE y ≤ Cf l
 | a :: r, y, h => by
  rw [Cf]
  rcases List.mem_cons.1 h with rfl | h
  ·omega
  have := Tm h
  omega
theorem f8 : ∀ (n : Nat) (e : Expr), depthE e ≤ n → C0 Bk e = true → okE n e
 | 0, e, h, _ => by rw [Ki] at h; omega
 | n + 1, e, h, hn => by
  rw [Dk, Bool.and_eq_true] at hn
  rw [Ki] at h
  have hs := bu hn.1
  refine ⟨by omega, by omega, fun y hy => f8 n y (by have := Tm hy; omega) ((D3 _ _).1 hn.2 y hy)⟩
theorem Tn {e : Expr} (h : Bt e = true) : okE 30 e ∧ sizeE e ≤ 300 := by
 have h1 := Iw h
 unfold Bt at h
 simp only [Bool.and_eq_true, decide_eq_true_eq] at h
 exact ⟨f8 30 e h.1.1 h1, h.1.2⟩
theorem c32 (n : Nat) (e : Expr) (hok : okE n e) (hn : n ≤ 1048576) (hg : C0 Dz e = true) (Hp : List AObj) : AFun Tryz.prog 32 [Af e] Hp (.tup [A7 (J1 e).1, A3 (J1 e).2]) := by
 refine ACall.body [.tmp 2, .tmp 3] [0] Tryz.func32 Tryz.ntmps32 (fun d => ?_)
 refine Z47 ?_;refine Z18 ?_;refine R.fin [1] ?_;refine Z29 ?_;refine I7 ?_;refine R.call Tryz.call37 (c37 n e hok hn _) ?_;refine R.not ?_;refine R.fin [1, 7] ?_
 refine W.cond (fun ht7 => ?_) (fun ht7 => ?_)
 ·have hsh : J1 e = ([], 1) := if_pos ht7
  refine Pf ?_;exact zz
 have hnr : ¬ (!(E7 e)) = true := by rw [ht7]; simp
 have hr : Bt e = true := by rw [← Il]; simpa using ht7
 have hps := K4 hr hg
 refine Oa ?_;refine R.build (places := #[(0, 2)]) jU (fun w => by simp) jZ ?_;refine R.box ?_;refine l4 ?_;refine B9 ?_;refine R.toBld 0 94 5 ?_;refine C3 ?_;refine I7 ?_
 refine R.callOwn (n := 0) (x := R4 (Ac e)) Tryz.call62 (c62 n e hok (Iw hr) hg (oid Hp.length 0) [] _ (by rw [Ap]; rfl) (by simp only [Ey, List.length_nil]; omega)) ?_
 refine R.fin [4] ?_;refine Z8 ?_;refine Z68 ?_
 refine R.call Tryz.call63 (c63 (Ac e) (oid Hp.length 0) _ (by rw [Ap]; rfl)) ?_
 refine R.gtr ?_;refine R.fin [4, 17] ?_
 refine W.cond (fun ht17 => ?_) (fun ht17 => ?_)
 ·have hsh : J1 e = ([], 3) := by unfold J1; rw [if_neg hnr, if_pos ht17]
  refine Pf ?_;exact zz
 have hsh : J1 e = (Ac e, 0) := by unfold J1; rw [if_neg hnr, if_neg (by rw [ht17]; simp)]
 refine Ls ?_;refine Z68 ?_
 refine R.callOwn (n := 0) (x := .cells 94 [.any, .any]) Tryz.call61 (c61 (Ac e) (oid Hp.length 0) _ (by rw [Ap]; rfl)) ?_
 refine gx ?_;exact ABe

structure QW (q : Qry) : Prop where
 ok : okE 61 q.whr
 size : sizeE q.whr ≤ 1048576
 rng : C0 Dz q.whr = true
 len : q.cols.length ≤ 1048576
 names : ∀ s ∈ q.cols, s.length ≤ 1048576
def noN (s : Str) : Bool := !(Ch s)
def R8 (ks : List Str) : Int := if ks.any noN then (ks.findIdx noN : Int) else -1
theorem pg {ks : List Str} {i : Nat} (h : i < ks.length) (hn : noN ks[i] = true) (hp : ∀ (j : Nat) (y : Str), j < i → ks[j]? = some y → ¬ noN y = true) : (i : Int) = R8 ks := by
 unfold R8
 rw [if_pos (List.any_eq_true.2 ⟨_, List.getElem_mem h, hn⟩)]
 congr 1
 refine (List.findIdx_eq h |>.2 ⟨hn, fun j hj => ?_⟩).symm
 have := hp j (ks[j]'(by omega)) hj (List.getElem?_eq_getElem (by omega))
 simpa using this
theorem bv {ks : List Str} (hp : ∀ (j : Nat) (y : Str), ks[j]? = some y → ¬ noN y = true) : (-1 : Int) = R8 ks := by
 unfold R8
 rw [if_neg]
 intro h
 obtain ⟨y, hy, hn⟩ := List.any_eq_true.1 h
 obtain ⟨j, hj⟩ := List.getElem?_of_mem hy
 exact hp j y hj hn
theorem jz (ks : List Str) : decide (0 ≤ R8 ks) = ks.any noN := by
 unfold R8
 cases ks.any noN <;> simp
theorem vk {α : Type} {p : α → Bool} (l : List α) : (!(l.any fun s => !(p s))) = l.all p := by
 induction l with
 | nil => rfl
 | cons a r ih => rw [List.any_cons, List.all_cons, ← ih]; cases p a <;> simp
theorem vl {q : Qry} (h : ((((q.all != ((q.cols.length : Int) == 0)) || decide ((12 : Int) < (q.cols.length : Int))) || decide (q.lim < -1)) || decide ((100000 : Int) < q.lim)) = true) : Ft q = false := if_pos h
theorem vm {q : Qry} (h : ((((q.all != ((q.cols.length : Int) == 0)) || decide ((12 : Int) < (q.cols.length : Int))) || decide (q.lim < -1)) || decide ((100000 : Int) < q.lim)) = false) : Ft q = ((q.cols.all Ch) && (!(Ej q) || Bt q.whr)) := if_neg (by rw [h]; simp)
theorem vn {q : Qry} (h : ((((q.all != ((q.cols.length : Int) == 0)) || decide ((12 : Int) < (q.cols.length : Int))) || decide (q.lim < -1)) || decide ((100000 : Int) < q.lim)) = false) : Ft q = (!(q.cols.any noN) && (!(Ej q) || E7 q.whr)) := by rw [vm h, ← vk, Il]; rfl
theorem c35 (s : Str) (hs : s.length ≤ 1048576) (Hp : List AObj) : AFun Tryz.prog 35 [A7 s] Hp (Ao (noN s)) := by
 refine ACall.body [.tmp 2] [0] Tryz.func35 Tryz.ntmps35 (fun d => ?_)
 refine Lq ?_;refine Z0 ?_;refine R.call Tryz.call36 (c36 s hs _) ?_;refine R.not ?_;exact qr

theorem c65 (ks : List Str) (hkl : ks.length ≤ 1048576) (hks : ∀ s ∈ ks, s.length ≤ 1048576) (Hp : List AObj) : AFun Tryz.prog 65 [H9 ks, .fn (.func 35) [] []] Hp (A3 (R8 ks)) := by
 refine ACall.body [.tmp 4] [0, 1] Tryz.func65 Tryz.ntmps65 (fun d => ?_)
 refine Z9 ?_;refine Z8 ?_;refine Z7 ?_;refine R.fin [0, 1, 7, 8] ?_
 refine AW.loopC (α := Nat) (fun x => ⟨19, A5 0 (H9 ks) (A5 1 (.fn (.func 35) [] []) (A5 7 (A3 ks.length) (A5 8 (A3 (x : Nat)) (fun _ => .any)))), Hp, [], [], none⟩) (fun x => x ≤ ks.length ∧ ∀ (j : Nat) (y : Str), j < x → ks[j]? = some y → ¬ noN y = true) (fun x => ks.length - x) (0) (by simp) (StLe.of_eq (by simp)) rfl (fun x hx => ?_)
 refine lh ?_;refine R.fin [0, 1, 7, 8, 9] ?_
 refine W.condX (fun ht9 => ?_) (fun ht9 => ?_)
 ·have hlt : x < ks.length := by simpa using ht9
  refine Z38 ?_;refine gt ?_;refine R.fin [0, 1, 5, 7, 8] ?_;refine Z31 ?_;refine C3 ?_;refine R.indexAddr (x) (A7 ks[x]) jU jS (Fj hlt) ?_;refine Ff ?_;refine R.callV Tryz.call35 (c35 ks[x] (hks _ (List.getElem_mem hlt)) _) ?_;refine R.fin [0, 1, 5, 7, 8, 16] ?_
  refine W.cond (fun ht16 => ?_) (fun ht16 => ?_)
  ·refine gt ?_;refine Z27 ?_;refine Zc ?_;exact K.fin (V.one V.tmp) ⟨by rw [pg hlt ht16 hx.2], rfl⟩
  refine Z34 ?_;refine gk ?_;refine R.fin [0, 1, 7, 8] ?_;exact K.lpN (x + 1) ⟨hlt, I8 hlt hx.2 (by rw [ht16]; simp)⟩ (by omega) (StCut.of_eq rfl)
 refine Z49 ?_;refine Vw ?_;exact K.fin (V.one V.tmp) ⟨by rw [bv (Pl (by simp at ht9; omega) hx.2)], rfl⟩

theorem c34 (ks : List Str) (hkl : ks.length ≤ 1048576) (hks : ∀ s ∈ ks, s.length ≤ 1048576) (Hp : List AObj) : AFun Tryz.prog 34 [H9 ks, .fn (.func 35) [] []] Hp (Ao (ks.any noN)) := by
 refine ACall.body [.tmp 4] [0, 1] Tryz.func34 Tryz.ntmps34 (fun d => ?_)
 refine Z9 ?_;refine Z31 ?_;refine R.call Tryz.call65 (c65 ks hkl hks _) ?_;refine R.geq ?_;refine B3 ?_;refine Z27 ?_;exact K.fin (V.one V.tmp) ⟨by rw [← jz]; try rfl, rfl⟩

theorem c31 (q : Qry) (h : QW q) (Hp : List AObj) : AFun Tryz.prog 31 [Rw q] Hp (Ao (Ej q)) := by
 refine ACall.body [.tmp 2] [0] Tryz.func31 Tryz.ntmps31 (fun d => ?_)
 refine lj ?_;refine R.fieldAddrRo (off := 2) jU Tryz.sizeOf28 ?_;refine I7 ?_;refine Ph ?_;refine R.wk 5 _ Eh ?_;refine R.call Tryz.call43 (c43 61 q.whr h.ok Aj _) ?_;refine R.not ?_;exact qr

theorem c10 (q : Qry) (h : QW q) (Hp : List AObj) : AFun Tryz.prog 10 [Rw q] Hp (Ao (Ft q)) := by
 refine ACall.body [.tmp 2] [0] Tryz.func10 Tryz.ntmps10 (fun d => ?_)
 refine gh ?_;refine Z29 ?_;refine Z65 ?_;refine xe ?_;refine R.len jU ?_;refine R.eql ?_;refine R.bneq jU ?_;refine C3 ?_;refine xg ?_;refine G.len jU ?_;refine G.gtr ?_;refine Vq ?_;refine ql ?_;refine G.lss ?_;refine Vq ?_;refine ql ?_;refine ld ?_;refine R.fin [1, 25] ?_
 refine W.cond (fun ht25 => ?_) (fun ht25 => ?_)
 ·rw [List.length_map] at ht25
  have e := vl ht25
  refine Z24 ?_;refine K.thR ?_;exact K.fin (V.one V.tmp) ⟨by rw [e] <;> rfl, rfl⟩
 rw [List.length_map] at ht25
 have e := vn ht25
 refine Oa ?_;refine xe ?_;refine R.call Tryz.call34 (c34 q.cols h.len h.names _) ?_;refine R.not ?_;refine C3 ?_;refine G.loadRoN jA jS ?_;refine G.call Tryz.call31 (fun hB => c31 q h _) ?_;refine G.not ?_;refine G.move ?_;refine x9 ?_;refine G.call Tryz.call37 (fun hB => c37 61 q.whr h.ok (by decide) _) ?_;refine G.pickOr ?_;refine ge ?_;exact K.fin (V.one V.tmp) ⟨by rw [e] <;> rfl, rfl⟩

theorem c8 (a b : Qry) (h : QW a) (Hp : List AObj) : AFun Tryz.prog 8 [Rw a, Rw b] Hp (Ao (nx a b)) := by
 refine ACall.body [.tmp 4] [0, 1] Tryz.func8 Tryz.ntmps8 (fun d => ?_)
 refine gu ?_;refine r9 ?_;refine B9 ?_;refine Z65 ?_;refine Z65 ?_;refine R.beql jU ?_;refine C3 ?_;refine ql ?_;refine ql ?_;refine G.eql ?_;refine Yp ?_;refine xg ?_;refine xg ?_;refine G.call Tryz.call28 (fun hB => c28 a.cols b.cols h.len _) ?_;refine Yp ?_;refine x9 ?_;refine x9 ?_;refine G.call Tryz.call29 (fun hB => c29 61 a.whr h.ok b.whr _) ?_;refine Z39 ?_;exact qq

def f9 (q : Qry) : Str := if q.all then [42] else Mk q.cols
def ph (q : Qry) : Str := if Ej q then Xo ++ Ac q.whr else []
def vo (q : Qry) : Str := if q.lim != -1 then Xp ++ Lib.itoa q.lim else []
def a1 (q : Qry) : Str := ue ++ f9 q
def a2 (q : Qry) : Str := a1 q ++ ph q
def a3 (q : Qry) : Str := a2 q ++ vo q
theorem Mq (q : Qry) : Cl q = a3 q ++ [59] := rfl
theorem O3 : ∀ r : List Str, Lib.joinTail [44, 32] r = I3 r
 | [] => rfl
 | a :: r => by
  show ([44, 32] ++ a) ++ Lib.joinTail [44, 32] r = _
  rw [O3 r]
  rfl
theorem To (c : List Str) : Lib.join c [44, 32] = Mk c := by
 cases c with
 | nil => rfl
 | cons a r => rw [Lib.join_cons, O3, Tj]
theorem R9 : ∀ c : List Str, (∀ s ∈ c, s.length ≤ 1048576) → (I3 c).length ≤ c.length * 1048578
 | [], _ => Nat.zero_le _
 | a :: r, h => by
  have h1 := R9 r (fun s hs => h s (by simp [hs]))
  have h2 := h a (by simp)
  show (([44, 32] ++ a) ++ I3 r).length ≤ (r.length + 1) * 1048578
  simp only [List.length_append, List.length_cons, List.length_nil]
  omega
theorem Y9 {c : List Str} (h : ∀ s ∈ c, s.length ≤ 1048576) : (Mk c).length ≤ c.length * 1048578 := by
 have := R9 c h
 unfold Mk
 rw [List.length_drop]
 omega
/-- query.Print: the text and the error. -/
def Hz (q : Qry) : Str × Int := if Ft q = true then (if decide ((4000 : Int) < ((Cl q).length : Int)) = true then ([], 3) else (Cl q, 0)) else ([], 1)
theorem vp {q : Qry} (h : Ft q = false) : Hz q = ([], 1) := if_neg (by rw [h]; simp)
theorem V3 {q : Qry} (h : Ft q = true) (h2 : decide ((4000 : Int) < ((Cl q).length : Int)) = true) : Hz q = ([], 3) := by unfold Hz; rw [if_pos h, if_pos h2]
theorem fa {q : Qry} (h : Ft q = true) (h2 : decide ((4000 : Int) < ((Cl q).length : Int)) = false) : Hz q = (Cl q, 0) := by unfold Hz; rw [if_pos h, if_neg (by rw [h2]; simp)]
theorem pi {q : Qry} (ha : Ej q = true) (h : 4000 < (Ac q.whr).length) : decide ((4000 : Int) < ((Cl q).length : Int)) = true := by
 rw [decide_eq_true_eq, Mq]
 unfold a3 a2 ph
 rw [if_pos ha]
 simp only [List.length_append]
 omega
theorem pj {q : Qry} (hq : QOk q) (h : ∀ s ∈ q.cols, s.length ≤ 1048576) : (a1 q).length ≤ 13000000 := by
 have h1 := Y9 h
 have h2 := hq.len
 unfold a1 f9 ue Fb
 split <;> simp only [List.length_append, List.length_cons, List.length_nil] <;> omega
theorem pk {q : Qry} (hq : QOk q) (hg : C0 Dz q.whr = true) (h : ∀ s ∈ q.cols, s.length ≤ 1048576) : (a2 q).length ≤ 13200000 := by
 have h1 := pj hq h
 unfold a2 ph Xo De
 split
 ·rename_i ha
  have := K4 (hq.tree ha) hg
  simp only [List.length_append, List.length_cons, List.length_nil]
  omega
 simp only [List.length_append, List.length_nil]; omega
theorem fb {q : Qry} (hq : QOk q) : (Lib.itoa q.lim).length ≤ 21 := Lib.itoa_length_le _ (by have := hq.lo; omega) (by have := hq.hi; omega)
theorem zd {q : Qry} (hq : QOk q) (hg : C0 Dz q.whr = true) (h : ∀ s ∈ q.cols, s.length ≤ 1048576) : (a3 q).length ≤ 13300000 := by
 have h1 := pk hq hg h
 have h2 := fb hq
 unfold a3 vo Xp Cr
 split <;> simp only [List.length_append, List.length_cons, List.length_nil] <;> omega
theorem c9 (q : Qry) (h : QW q) (Hp : List AObj) : AFun Tryz.prog 9 [Rw q] Hp (.tup [A7 (Hz q).1, A3 (Hz q).2]) := by
 refine ACall.body [.tmp 2, .tmp 3] [0] Tryz.func9 Tryz.ntmps9 (fun d => ?_)
 refine Z47 ?_;refine Z18 ?_;refine R.fin [1] ?_;refine Z29 ?_;refine I7 ?_;refine R.call Tryz.call10 (c10 q h _) ?_;refine R.not ?_;refine R.fin [1, 9] ?_
 refine W.cond (fun ht9 => ?_) (fun ht9 => ?_)
 ·have e := vp (q := q) (by simpa using ht9)
  refine Pf ?_;exact wt
 have hr : Ft q = true := by simpa using ht9
 have hq := Ti hr
 have hb1 := pj hq h.names
 have hb2 := pk hq h.rng h.names
 have hb3 := zd hq h.rng h.names
 have hbl := fb hq
 refine Z4 ?_;refine Z1 ?_;refine R.fin [1, 4] ?_
 refine W.join ⟨47, A5 1 (.ro (qoC false q)) (A5 4 (A7 (a1 q)) (fun _ => .any)), Hp, [], [], none⟩ ?_ ?_
 ·refine B9 ?_;refine Z65 ?_;refine R.not ?_;refine R.fin [1, 4, 12] ?_
  refine W.cond (fun ht12 => ?_) (fun ht12 => ?_)
  ·have ha : q.all = false := by simpa using ht12
   have ej : ([115, 101, 108, 101, 99, 116, 32] : Str) ++ Lib.join q.cols [44, 32] = a1 q := by
    rw [To]
    unfold a1 f9
    rw [ha]
    rfl
   have hjl : (Lib.join q.cols [44, 32]).length ≤ 13000000 := by
    rw [To]
    have := Y9 h.names
    have := hq.len
    omega
   refine H8 ?_;refine xe ?_
   refine R.call Tryz.call30 (c30 q.cols [44, 32] (by have := h.len; omega) (by omega) _) ?_
   refine R.sadd ?_;refine l4 ?_;refine K.thJ ?_
   try simp only [List.cons_append, List.nil_append] at ej
   exact StLe.of_eq (by rw [ej] <;> rfl)
  have ha : q.all = true := by simpa using ht12
  have ej : ([115, 101, 108, 101, 99, 116, 32, 42] : Str) = a1 q := by
   unfold a1 f9
   rw [ha]
   rfl
  refine W.keep [1, 4] ?_;refine Z50 ?_
  try simp only [List.cons_append, List.nil_append] at ej
  exact StLe.of_eq (by rw [ej] <;> rfl)
 refine W.join ⟨47, A5 1 (.ro (qoC false q)) (A5 4 (A7 (a2 q)) (fun _ => .any)), Hp, [], [], none⟩ ?_ ?_
 ·refine kz ?_;refine R.call Tryz.call31 (c31 q h _) ?_;refine R.fin [1, 4, 18] ?_
  refine W.cond (fun ht18 => ?_) (fun ht18 => ?_)
  ·have hrw := hq.tree ht18
   have hpl := K4 hrw h.rng
   refine B9 ?_;refine R.fieldAddrRo (off := 2) jU Tryz.sizeOf28 ?_;refine I7 ?_;refine R.call Tryz.call32 (c32 61 q.whr h.ok (by decide) h.rng _) ?_;refine Zg ?_;refine R.fin [1, 4, 5, 6] ?_;refine Z8 ?_;refine R.neq ?_;refine R.fin [1, 4, 5, 6, 26] ?_
   refine W.cond (fun ht26 => ?_) (fun ht26 => ?_)
   ·have hsm : J1 q.whr = ([], 3) ∧ 4000 < (Ac q.whr).length := by
     rcases dq hrw with h1 | h1
     ·exact h1
     rw [h1.1] at ht26; cases ht26
    have e := V3 hr (pi ht18 hsm.2)
    rw [hsm.1]
    refine Z0 ?_;refine gx ?_;refine K.thR ?_;exact wt
   have hsm : J1 q.whr = (Ac q.whr, 0) := by
    rcases dq hrw with h1 | h1
    ·rw [h1.1] at ht26; cases ht26
    exact h1.1
   rw [hsm]
   have ej2 : a1 q ++ (([32, 119, 104, 101, 114, 101, 32] : Str) ++ Ac q.whr) = a2 q := by
    unfold a2 ph
    rw [ht18]
    rfl
   refine Z4 ?_;refine Z5 ?_;refine C3 ?_;refine R.sadd ?_;refine R.sadd ?_;refine l4 ?_;refine K.thJ ?_
   try simp only [List.cons_append, List.nil_append] at ej2
   exact StLe.of_eq (by rw [ej2] <;> rfl)
  have ej2 : a1 q = a2 q := by
   unfold a2 ph
   rw [ht18, if_neg (by simp), List.append_nil]
  refine W.keep [1, 4] ?_;refine Z50 ?_
  try simp only [List.cons_append, List.nil_append] at ej2
  exact StLe.of_eq (by rw [ej2] <;> rfl)
 refine W.join ⟨47, A5 4 (A7 (a3 q)) (fun _ => .any), Hp, [], [], none⟩ ?_ ?_
 ·refine B9 ?_;refine R.fieldAddrRo (off := 8) jU Tryz.sizeOf3 ?_;refine Ff ?_;refine R.neq ?_;refine R.fin [1, 4, 34] ?_
  refine W.cond (fun ht34 => ?_) (fun ht34 => ?_)
  ·have ej3 : a2 q ++ (([32, 108, 105, 109, 105, 116, 32] : Str) ++ Lib.itoa q.lim) = a3 q := by
    unfold a3 vo
    rw [ht34]
    rfl
   refine Z5 ?_;refine R.fieldAddrRo (off := 8) jU Tryz.sizeOf3 ?_;refine Ff ?_
   refine R.call Tryz.call33 (c33 q.lim (by have := hq.lo; omega) (by have := hq.hi; omega) _) ?_
   refine R.sadd ?_;refine R.sadd ?_;refine B3 ?_;refine R.fin [4] ?_;refine K.thJ ?_
   try simp only [List.cons_append, List.nil_append] at ej3
   exact StLe.of_eq (by rw [ej3] <;> rfl)
  have ej3 : a2 q = a3 q := by
   unfold a3 vo
   rw [ht34, if_neg (by simp), List.append_nil]
  refine W.keep [4] ?_;refine Z50 ?_
  try simp only [List.cons_append, List.nil_append] at ej3
  exact StLe.of_eq (by rw [ej3] <;> rfl)
 refine Z8 ?_;refine R.sadd ?_;refine B3 ?_;refine R.fin [4] ?_;refine Z0 ?_;refine Za ?_;refine R.fin [4, 45] ?_
 refine W.cond (fun ht45 => ?_) (fun ht45 => ?_)
 ·rw [← Mq] at ht45
  have e := V3 hr ht45
  refine Pf ?_;exact wt
 rw [← Mq] at ht45
 have e := fa hr ht45
 rw [← Mq]
 refine Ls ?_;refine gx ?_;exact ABf

def qaT : Str := [115, 101, 108, 101, 99, 116, 32, 97, 44, 116, 32, 119, 104, 101, 114, 101, 32, 97, 62, 51, 32, 108, 105, 109, 105, 116, 32, 50, 59]
def qaP : Str := [115, 101, 108, 101, 99, 116, 32, 97, 44, 32, 116, 32, 119, 104, 101, 114, 101, 32, 97, 32, 62, 32, 51, 32, 108, 105, 109, 105, 116, 32, 50, 59]
def qaQ : Qry := ⟨false, [[97], [116]], Bu [62] (D6 [97]) (Co ⟨1, 3, []⟩), 2⟩
theorem pl : An qaT = (qaQ, 0, 0) := by kernel_rfl
theorem vq : Hz qaQ = (qaP, 0) := by kernel_rfl
theorem pm : Bt qaQ.whr = true := by kernel_rfl
theorem ACk : QW qaQ := by
 obtain ⟨h1, h2⟩ := Tn pm
 exact ⟨Db (by decide) h1, by omega, by kernel_rfl, by decide, by decide⟩
theorem ACl (Hp : List AObj) : AFun Tryz.prog 6 [A7 qaT] Hp (.tup [Rw qaQ, .agg [A3 0, A3 0]]) := by
 have := c6 qaT (by decide) Hp
 rw [pl] at this
 exact this
theorem ACm (Hp : List AObj) : AFun Tryz.prog 9 [Rw qaQ] Hp (.tup [A7 qaP, A3 0]) := by
 have := c9 qaQ ACk Hp
 rw [vq] at this
 exact this
theorem Tp (q : Qry) : nx q q = true := by
 unfold nx
 rw [Wn]
 simp
theorem vr : QW K2 := by
 obtain ⟨h1, h2⟩ : okE 61 Aj ∧ sizeE Aj ≤ 1048576 := ⟨Jr (by decide), by decide⟩
 exact ⟨h1, h2, by kernel_rfl, by decide, fun s hs => by cases hs⟩
theorem c5 (Hp : List AObj) : AFun Tryz.prog 5 [] Hp (Ao true) := by
 refine ACall.body [.tmp 0] [] Tryz.func5 Tryz.ntmps5 (fun d => ?_)
 refine Z1 ?_;refine R.fin [] ?_;refine B9 ?_;refine R.call Tryz.call6 (ACl _) ?_;refine Z78 ?_;refine gn ?_;refine R.fin [1, 2] ?_;refine Z20 ?_;refine R.call Tryz.call9 (ACm _) ?_;refine Zg ?_;refine R.fin [2, 3, 4] ?_;refine B9 ?_;refine rm ?_;refine l8 ?_;refine G.eql ?_;refine U5 ?_;refine G.seql ?_;refine Z39 ?_;refine R.fin [0] ?_;refine AW.ret ?_;exact K.fin (V.one V.tmp)

end Go.SX.Nb
