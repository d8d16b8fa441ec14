/- Texts on the way to this: QueryPrints answers true for whatever it is handed: what is printed of a query is parsed as the same, unless brackets nest too deep, any query that is right has the text that the reference says, and any other one has none. (part 9) -/
import Derived.Shelf.Strconv.AtoiAll
import Derived.Shelf.Strings.Builder1
import Derived.Lib.ItoaLen
import Derived.Lib.ParseIntBCases
import Derived.Test.YtldolkjhlcpidaaGreatDoorQueryPrintsCardSaidPart8
set_option linter.all false
namespace Go.SX.Nb
open Go Go.SX Go.Proofs Go.RowKit
variable [ErrAt]
set_option maxRecDepth 4000
theorem c50 (s : Str) (hs : s.length ≤ 1048576) (Hp : List AObj) : AFun Tryz.prog 50 [strA s] Hp (.tup [intA (atoiV s), .any]) := by
 refine AFun.libAny (xs := [sv s]) (n := .int .i64 (atoiV s)) (fun w hg => ?_)
 have hz : (⟨s.toArray⟩ : ByteArray).size ≤ 1048576 := by simpa [ByteArray.size] using hs
 unfold atoiV
 rcases h : Lib.atoiAll s with v | _ | _
 ·refine (Any.strconv_Atoi_ok Tryz.lays172 ⟨s.toArray⟩ (by omega) v h w).mono ?_
  rintro e w' ⟨rfl, hb⟩
  refine ⟨_, rfl, ?_⟩
  rcases hb with rfl | ⟨t, rfl⟩
  ·exact Below.refl _ _
  exact Lib.bytesWorld_below _ _ _
 ·refine (Any.strconv_Atoi_syntax Tryz.lays172 ⟨s.toArray⟩ (by omega) h _ w (errSyntax_of hg) (.inr ⟨_, _, rfl⟩)).mono ?_
  rintro e w' ⟨N, rfl, _, _, hb⟩
  exact ⟨_, rfl, hb⟩
 refine (Any.strconv_Atoi_range Tryz.lays172 ⟨s.toArray⟩ (by omega) h _ w (errRange_of hg) (.inr ⟨_, _, rfl⟩)).mono ?_
 rintro e w' ⟨N, rfl, _, _, hb⟩
 exact ⟨_, rfl, hb⟩
theorem c33 (n : Int) (h0 : -9223372036854775808 ≤ n) (h1 : n ≤ 9223372036854775807) (Hp : List AObj) : AFun Tryz.prog 33 [intA n] Hp (strA (Lib.itoa n)) := by
 refine AFun.lib (xs := [.int .i64 n]) (v := sv (Lib.itoa n)) (fun G w => .v _ _) (fun w hg => ?_)
 refine (Any.strconv_Itoa Tryz.lays171 n h0 h1 w (pow10_of hg)).mono ?_
 rintro e w' ⟨rfl, k, os, rfl⟩
 exact ⟨rfl, grow_below _ _ _⟩
end Go.SX.Nb
namespace Go.SX.Nb
open Go Go.SX Go.Proofs
variable [ErrAt]
set_option maxRecDepth 4000
theorem isQ_nz {l : List Tok} {s : Str} {S : QS} (h : isQ l s S = true) : (tokAt l S.i).kind ≠ 0 := by
 unfold isQ at h
 simp only [Bool.and_eq_true, Bool.or_eq_true, beq_iff_eq] at h
 rcases h.1.2 with e | e <;> rw [e] <;> decide
theorem step_lt {l : List Tok} (hl : TokEnd l) {s : Str} {S : QS} (hi : S.i < l.length) (h : isQ l s S = true) : (nextQ S).i < l.length := hl.step hi (isQ_nz h)
theorem failQ_i (l : List Tok) (e : Int) (S : QS) : (failQ l e S).i = S.i := by unfold failQ; split <;> rfl
theorem wantQ_lt {l : List Tok} (hl : TokEnd l) {s : Str} {S : QS} (hi : S.i < l.length) : (wantQ l s S).i < l.length := by
 unfold wantQ
 split
 ·rename_i h; exact step_lt hl hi h
 rw [failQ_i]; exact hi
theorem nameQ_fact {l : List Tok} (hl : TokEnd l) {q : Qry} {S : QS} (hi : S.i < l.length) (hc : q.cols.length ≤ 12) : S.i ≤ (nameQ l (q, S)).2.i ∧ (nameQ l (q, S)).2.i < l.length ∧ (nameQ l (q, S)).1.cols.length ≤ 12 := by
 unfold nameQ
 split
 ·exact ⟨Nat.le_refl _, hi, hc⟩
 split
 ·exact Z284
 split
 ·exact Z284
 rename_i h1 h2 h3
 have hk : (tokAt l S.i).kind ≠ 0 := by
  have : (tokAt l S.i).kind = 1 := by simpa using h2
  rw [this]; decide
 refine ⟨Nat.le_succ _, hl.step hi hk, ?_⟩
 simp only [beq_iff_eq] at h3
 rw [List.length_append, List.length_singleton]
 simp only at h3 ⊢
 omega
/-- Where the loop of names stands. -/
structure QNames (l : List Tok) (r0 r : Qry × QS) : Prop where
 lt : r.2.i < l.length
 cols : r.1.cols.length ≤ 12
 fuel : ∃ n, namesF l l.length r0 = namesF l n r ∧ l.length - r.2.i ≤ n
theorem QNames.start {l : List Tok} {r : Qry × QS} (h1 : r.2.i < l.length) (h2 : r.1.cols.length ≤ 12) : QNames l r r := ⟨h1, h2, l.length, rfl, by omega⟩
theorem QNames.on {l : List Tok} (hl : TokEnd l) {r0 r : Qry × QS} (h : QNames l r0 r) (hq : isQ l [44] r.2 = true) : QNames l r0 (nameQ l (r.1, nextQ r.2)) ∧ r.2.i + 1 ≤ (nameQ l (r.1, nextQ r.2)).2.i := by
 obtain ⟨n, e, hn⟩ := h.fuel
 have hlt := step_lt hl h.lt hq
 obtain ⟨f1, f2, f3⟩ := nameQ_fact hl (q := r.1) hlt h.cols
 have h1 := h.lt
 refine ⟨⟨f2, f3, n - 1, ?_, ?_⟩, f1⟩
 ·rw [e]
  obtain ⟨m, rfl⟩ : ∃ m, n = m + 1 := ⟨n - 1, by omega⟩
  rw [namesF, if_pos hq]
  rfl
 have : r.2.i + 1 ≤ (nameQ l (r.1, nextQ r.2)).2.i := f1
 omega
theorem QNames.out {l : List Tok} {r0 r : Qry × QS} (h : QNames l r0 r) (hq : isQ l [44] r.2 = false) : namesF l l.length r0 = r := by
 obtain ⟨n, e, _⟩ := h.fuel
 rw [e]
 cases n with
 | zero => rfl
 | succ n => rw [namesF, if_neg (by rw [hq]; simp)]
theorem qA {Hp : List AObj} {o ox : Nat} {A B : AObj} (hl : o < Hp.length) (hne : ox ≠ o) : ((Hp.set o A).set ox B)[o]? = some A := by rw [List.getElem?_set_ne hne]; simp [hl]
theorem qB {Hp : List AObj} {o ox : Nat} {A B : AObj} (hl : ox < Hp.length) : ((Hp.set o A).set ox B)[ox]? = some B := by simp [hl]
theorem setQ {Hp : List AObj} {o ox : Nat} {A A' B : AObj} (hne : ox ≠ o) : ((Hp.set o A).set ox B).set o A' = (Hp.set o A').set ox B := by rw [List.set_comm _ _ hne, List.set_set]
theorem low2 {Hp : List AObj} {o ox m : Nat} {A A' B B' : AObj} (hl : o < Hp.length) (hlx : ox < Hp.length) (hne : ox ≠ o) (hA : ObjLow m A') (hB : ObjLow m B') (h : ∀ x ∈ (Hp.set o A).set ox B, ObjLow m x) : ∀ x ∈ (Hp.set o A').set ox B', ObjLow m x := by
 intro x hx
 obtain ⟨i, hi⟩ := List.getElem?_of_mem hx
 by_cases h1 : i = ox
 ·subst h1
  rw [qB hlx] at hi
  injection hi with hi
  subst hi
  exact hB
 by_cases h2 : i = o
 ·subst h2
  rw [qA hl hne] at hi
  injection hi with hi
  subst hi
  exact hA
 refine h x (List.mem_of_getElem? (i := i) ?_)
 rw [List.getElem?_set_ne (Ne.symm h1), List.getElem?_set_ne (Ne.symm h2)] at hi ⊢
 exact hi
/-- A call that turns the parser and the query. -/
theorem callTwo {d : Nat} {ops : Array Oper} {rest : List Oper} {sz s : Nat} {fr : Nat → AV} {Hp : List AObj} {rnd : Option Nat} {Q : St → Prop} {ty : TypeId} {pos : String} {aft : Array Edge} {g : FuncId} {xs : List Operand} {ats : Array TypeId} {args : List AV} {l : List Tok} {S S' : QS} {q q' : Qry} {o oq : Nat}
  (hcall : ∀ args w, (callFunc g args).run Tryz.prog w = .ok (.enter g args) w) (hl : o < Hp.length) (hlq : oq < Hp.length) (hne : oq ≠ o)
  (h : ACall Tryz.prog g args ((Hp.set o (prq l S)).set oq (qo true q) ++ []) (fun r H' => r = unitQ ∧ H' = (((Hp.set o (prq l S)).set oq (qo true q) ++ []).set o (prq l S')).set oq (qo true q')))
  (hr : ARun Tryz.prog d ops rest ⟨sz, setF s unitQ fr, (Hp.set o (prq l S')).set oq (qo true q'), [], [], rnd⟩ Q)
  (ha : xs.map (frEv fr) = args := by simp only [go_sem, ↓reduceIte, Nat.reduceEqDiff, Nat.reduceAdd] <;> rfl) (hs : Nat.blt s sz = true := by rfl) :
  ARun Tryz.prog d ops (⟨some s, .call ⟨.value (.func g), xs.toArray, ats⟩, ty, pos, aft, none⟩ :: rest) ⟨sz, fr, (Hp.set o (prq l S)).set oq (qo true q), [], [], rnd⟩ Q := by
 refine R.callX (up' := (Hp.set o (prq l S')).set oq (qo true q')) (own' := []) hcall (h.mono fun r H' e => ⟨e.1, e.2.trans ?_⟩) (by simp) (fun hlow => ?_) hr (by simp) ha hs
 ·rw [List.append_nil, List.append_nil, setQ hne, List.set_set]
 exact low2 hl hlq hne low_prq low_qo hlow
theorem qo_all (b : Bool) (q : Qry) : AObj.cells 30 [boolA b, .slice true 1 (q.cols.map strA), intA q.whr.op, strA q.whr.text, intA q.whr.val.kind, intA q.whr.val.n, strA q.whr.val.s, .slice false 6 (q.whr.kids.map exprA), intA q.lim] = qo true (setAll b q) := rfl
theorem all_1 {l : List Tok} {q : Qry} {S : QS} (h : isQ l [42] S = true) : namesQ l (q, S) = (setAll true q, nextQ S) := if_pos h
theorem all_0 {l : List Tok} {q : Qry} {S : QS} (h : isQ l [42] S = false) : namesQ l (q, S) = namesF l l.length (nameQ l (setAll false q, S)) := if_neg (by show ¬ (isQ l [42] S = true); rw [h]; simp)
theorem c17 (l : List Tok) (S : QS) (q : Qry) (o oq : Nat) (Hp : List AObj) (hne : oq ≠ o) (ho : Hp[o]? = some (prq l S)) (hoq : Hp[oq]? = some (qo true q)) (hi : S.i < l.length) (hl : TokEnd l) (hll : l.length ≤ 500000) (hc12 : q.cols.length ≤ 12) : ACall Tryz.prog 17 [.ptr o 0, .ptr oq 0] Hp (fun r H' => r = unitQ ∧ H' = (Hp.set o (prq l (namesQ l (q, S)).2)).set oq (qo true (namesQ l (q, S)).1)) := by
 have hlo := (List.getElem?_eq_some_iff.1 ho).1
 have hlq := (List.getElem?_eq_some_iff.1 hoq).1
 refine ACall.body [] [0, 1] Tryz.func17 Tryz.ntmps17 (fun d => ?_)
 refine Z120 ?_;refine R.callUp Tryz.call47 ho (by simp) low_prq (c47 l S [42] o _ (get_up ho) hi (by omega)) ?_;refine R.nilPtr ?_;refine R.fieldAddrPtr (fo := 0) jU Tryz.sizeOf4 ?_
 refine R.storeUp jS (by rw [List.getElem?_set_ne (Ne.symm hne)]; exact hoq) ?_ ?_
 ·simp
 refine R.fin [0, 1] ?_;refine Z0 ?_;refine R.nilPtr ?_;refine R.fieldAddrPtr (fo := 0) jU Tryz.sizeOf4 ?_;refine R.loadUp jA (qB hlq) ?_;refine R.fin [0, 1, 12] ?_
 refine W.cond (fun ht12 => ?_) (fun ht12 => ?_)
 ·have hq : isQ l [42] S = true := ht12
  have e := all_1 (q := q) hq
  rw [step_1 hq, hq]
  refine Z23 ?_;exact K.fin .nores (hp := ⟨rfl, by rw [e]; rfl⟩)
 have hq : isQ l [42] S = false := ht12
 have e := all_0 (q := q) hq
 rw [step_0 hq, hq]
 rw [qo_all]
 refine Z3 ?_;refine Z252 ?_
 have f0 := nameQ_fact hl (q := setAll false q) hi hc12
 refine Z91 ?_
 refine callTwo Tryz.call48 hlo hlq hne (c48 l S (setAll false q) o oq _ hne (get_up (qA hlo hne)) (get_up (qB hlq)) hi (by omega) (by show q.cols.length ≤ _; omega)) ?_
 refine R.fin [0, 1] ?_
 refine AW.loopC (α := Qry × QS) (fun r => ⟨21, setF 0 (.ptr o 0) (setF 1 (.ptr oq 0) (fun _ => .any)), (Hp.set o (prq l r.2)).set oq (qo true r.1), [], [], none⟩) (fun r => QNames l (nameQ l (setAll false q, S)) r) (fun r => l.length - r.2.i) (nameQ l (setAll false q, S)) (.start f0.2.1 f0.2.2) (StLe.refl _) rfl (fun r hr => ?_)
 refine Z10 ?_;refine R.callUp Tryz.call47 (qA hlo hne) (by simp) low_prq (c47 l r.2 [44] o _ (get_up (qA hlo hne)) hr.lt (by omega)) ?_;refine R.fin [0, 1, 17] ?_
 refine W.cond (fun ht17 => ?_) (fun ht17 => ?_)
 ·have hq1 : isQ l [44] r.2 = true := ht17
  have hlt1 := step_lt hl hr.lt hq1
  have hon := hr.on hl hq1
  rw [step_1 hq1, setQ hne]
  refine Z246 ?_;refine Z6 ?_;refine Z257 ?_
  refine callTwo Tryz.call48 hlo hlq hne (c48 l (nextQ r.2) r.1 o oq _ hne (get_up (qA hlo hne)) (get_up (qB hlq)) hlt1 (by omega) (by have := hr.cols; omega)) ?_
  refine R.fin [0, 1] ?_;refine K.blN ?_
  refine K.lpN (nameQ l (r.1, nextQ r.2)) hon.1 (by have := hr.lt; have := hon.2; omega) (StCut.of_eq rfl)
 have hq1 : isQ l [44] r.2 = false := ht17
 have hout := hr.out hq1
 rw [step_0 hq1, setQ hne]
 refine Z52 ?_;refine K.lpE ?_;exact K.finN .nores (hp := ⟨rfl, by rw [e, hout]⟩)

theorem where_0 {l : List Tok} {q : Qry} {S : QS} (h : isQ l whereW S = false) : whereQ l (q, S) = (q, S) := if_neg (by show ¬ (isQ l whereW S = true); rw [h]; simp)
theorem where_1 {l : List Tok} {q : Qry} {S : QS} (h : isQ l whereW S = true) (h2 : ((atM l (S.i + 1)).2.2.1 != 0) = true) : whereQ l (q, S) = (q, ⟨S.i + 1, (atM l (S.i + 1)).2.2.1, (atM l (S.i + 1)).2.2.2⟩) := by
 unfold whereQ
 rw [if_pos (by exact h), if_pos (by exact h2)]
theorem where_2 {l : List Tok} {q : Qry} {S : QS} {k : Nat} (h : isQ l whereW S = true) (h2 : ((atM l (S.i + 1)).2.2.1 != 0) = false) (hk : (atM l (S.i + 1)).2.1 = (k : Int)) : whereQ l (q, S) = (⟨q.all, q.cols, (atM l (S.i + 1)).1, q.lim⟩, ⟨k, S.code, S.at_⟩) := by
 unfold whereQ
 rw [if_pos (by exact h), if_neg (by show ¬ _ = true; rw [h2]; simp), hk]
 rfl
theorem limit_0 {l : List Tok} {q : Qry} {S : QS} (h : isQ l limitW S = false) : limitQ l (q, S) = (q, S) := if_neg (by show ¬ (isQ l limitW S = true); rw [h]; simp)
theorem limit_1 {l : List Tok} {q : Qry} {S : QS} (h : isQ l limitW S = true) (h2 : ((tokAt l (S.i + 1)).kind != 3) = true) : limitQ l (q, S) = (q, failQ l 8 (nextQ S)) := by
 unfold limitQ
 rw [if_pos (by exact h), if_pos (by exact h2)]
theorem limit_2 {l : List Tok} {q : Qry} {S : QS} (h : isQ l limitW S = true) (h2 : ((tokAt l (S.i + 1)).kind != 3) = false) (h3 : decide ((100000 : Int) < atoiV (tokAt l (S.i + 1)).text) = true) : limitQ l (q, S) = (q, failQ l 3 (nextQ S)) := by
 unfold limitQ
 rw [if_pos (by exact h), if_neg (by show ¬ _ = true; rw [h2]; simp), if_pos (by exact h3)]
theorem limit_3 {l : List Tok} {q : Qry} {S : QS} (h : isQ l limitW S = true) (h2 : ((tokAt l (S.i + 1)).kind != 3) = false) (h3 : decide ((100000 : Int) < atoiV (tokAt l (S.i + 1)).text) = false) : limitQ l (q, S) = (⟨q.all, q.cols, q.whr, atoiV (tokAt l (S.i + 1)).text⟩, nextQ (nextQ S)) := by
 unfold limitQ
 rw [if_pos (by exact h), if_neg (by show ¬ _ = true; rw [h2]; simp), if_neg (by show ¬ _ = true; rw [h3]; simp)]
theorem getset' {Hp : List AObj} {o : Nat} {A : AObj} (hl : o < Hp.length) : (Hp.set o A)[o]? = some A := by simp [hl]
theorem getQ {Hp : List AObj} {o oq : Nat} {A B : AObj} (hne : oq ≠ o) (hoq : Hp[oq]? = some B) : (Hp.set o A)[oq]? = some B := by rw [List.getElem?_set_ne (Ne.symm hne)]; exact hoq
theorem c18 (l : List Tok) (S : QS) (q : Qry) (o oq : Nat) (Hp : List AObj) (hne : oq ≠ o) (ho : Hp[o]? = some (prq l S)) (hoq : Hp[oq]? = some (qo true q)) (hi : S.i < l.length) (hl : TokEnd l) (hll : l.length ≤ 500000) (hc12 : q.cols.length ≤ 12) : ACall Tryz.prog 18 [.ptr o 0, .ptr oq 0] Hp (fun r H' => r = unitQ ∧ H' = (Hp.set o (prq l (whereQ l (q, S)).2)).set oq (qo true (whereQ l (q, S)).1)) := by
 have hlo := (List.getElem?_eq_some_iff.1 ho).1
 have hlq := (List.getElem?_eq_some_iff.1 hoq).1
 refine ACall.body [] [0, 1] Tryz.func18 Tryz.ntmps18 (fun d => ?_)
 refine Z10 ?_;refine R.callUp Tryz.call47 ho (by simp) low_prq (c47 l S whereW o _ (get_up ho) hi (by omega)) ?_;refine R.not ?_;refine R.fin [0, 1, 9] ?_
 refine W.cond (fun ht9 => ?_) (fun ht9 => ?_)
 ·have hq : isQ l whereW S = false := by simpa using ht9
  have e := where_0 (q := q) hq
  rw [step_0 hq, set_same ho]
  exact Z28
 have hq : isQ l whereW S = true := by simpa using ht9
 have hi1 : S.i + 1 < l.length := step_lt hl hi hq
 rw [step_1 hq]
 refine Z3 ?_;refine W.drawY [0, 1, 3, 7, 0, 16, 48, 112, 255, 511, 1023, 1023, 1023, 0, 0, 26623, 61439, 131071] [] [.q 13 [] [], .s [4] none [] [], .s [6] none [] [], .s [4] none [] [], .q 1 [] [], .s [6] none [] []] (fun _ => Hp.set o (prq l (nextQ S))) (fun _ => []) Tryzmixed (by kernel_rfl) rfl rfl (fun _ => rfl) ?_
 apply Y.q
 case h1 =>
  intro B hT hF
  refine Z67 ?_;refine D.loadUp jA (getset' hlo) ?_;refine Z62 ?_;refine D.loadUp jA (getset' hlo) ?_;refine D.call Tryz.call49 (c49 l (S.i + 1) hi1 hl hll (fun n Dv h1 h2 => pcall_all hl (by omega) n Dv h1 h2) _) ?_;refine D.move ?_;refine D.extract ?_;refine D.extract ?_;refine D.extract ?_;exact Z269
 case hTF => decide
 refine Y.allocP Tryz.zeroValue28 ?_;refine Y.allocP Tryz.zeroValue33 ?_;refine Y.storeP Tryz.sizeOf28 ?_
 apply Y.q
 case h1 =>
  intro B hT hF
  exact Z213
 case hTF => decide
 refine Y.storeP Tryz.sizeOf33 ?_;refine Y.tail (tn := [])  ?_;refine R.fin [0, 1, 4, 5, 6] ?_;refine Z16 ?_;refine R.fieldAddrRo (off := 0) jU Tryz.sizeOf31 ?_;refine Z259 ?_;refine R.neq ?_;refine R.fin [0, 1, 4, 5, 6, 25] ?_
 refine W.cond (fun ht25 => ?_) (fun ht25 => ?_)
 ·have e := where_1 (q := q) hq ht25
  refine Z0 ?_;refine Z272 ?_;refine R.nilPtr ?_;refine R.fieldAddrPtr (fo := 2) jU Tryz.sizeOf33 ?_
  refine R.storeUp jS (getset' hlo) ?_ ?_
  ·simp
  refine R.fin [] ?_;exact Z28
 obtain ⟨k, hk, hkl⟩ := at_word hl (by omega) hi1 (by simpa using ht25)
 have e := where_2 (q := q) hq ht25 hk
 rw [hk]
 refine Z210 ?_;refine Z257 ?_;refine Z151 ?_;refine R.nilPtr ?_;refine R.fieldAddrPtr (fo := 2) jU Tryz.sizeOf28 ?_
 refine R.storeUp jS (getQ hne hoq) ?_ ?_
 ·intro z hz
  simp only [List.mem_cons, List.not_mem_nil, or_false] at hz
  rcases hz with rfl | rfl | rfl | rfl | rfl | rfl
  all_goals first | exact low_exprs | simp
 refine Z39 ?_
 refine R.storeUp jS (qA hlo hne) ?_ ?_
 ·simp
 exact Z59

theorem c19 (l : List Tok) (S : QS) (q : Qry) (o oq : Nat) (Hp : List AObj) (hne : oq ≠ o) (ho : Hp[o]? = some (prq l S)) (hoq : Hp[oq]? = some (qo true q)) (hi : S.i < l.length) (hl : TokEnd l) (hll : l.length ≤ 500000) (hc12 : q.cols.length ≤ 12) : ACall Tryz.prog 19 [.ptr o 0, .ptr oq 0] Hp (fun r H' => r = unitQ ∧ H' = (Hp.set o (prq l (limitQ l (q, S)).2)).set oq (qo true (limitQ l (q, S)).1)) := by
 have hlo := (List.getElem?_eq_some_iff.1 ho).1
 have hlq := (List.getElem?_eq_some_iff.1 hoq).1
 refine ACall.body [] [0, 1] Tryz.func19 Tryz.ntmps19 (fun d => ?_)
 refine Z10 ?_;refine R.callUp Tryz.call47 ho (by simp) low_prq (c47 l S limitW o _ (get_up ho) hi (by omega)) ?_;refine R.not ?_;refine R.fin [0, 1, 9] ?_
 refine W.cond (fun ht9 => ?_) (fun ht9 => ?_)
 ·have hq : isQ l limitW S = false := by simpa using ht9
  have e := limit_0 (q := q) hq
  rw [step_0 hq, set_same ho]
  exact Z28
 have hq : isQ l limitW S = true := by simpa using ht9
 have hi1 : S.i + 1 < l.length := step_lt hl hi hq
 rw [step_1 hq]
 refine Z3 ?_;refine W.drawY [0, 1, 3, 7, 0, 16, 48, 112, 255, 511, 0, 2047] [] [.q 10 [] [], .s [4] none [] [], .s [4] none [] []] (fun _ => Hp.set o (prq l (nextQ S))) (fun _ => []) Tryzmixed (by kernel_rfl) rfl rfl (fun _ => rfl) ?_
 apply Y.q
 case h1 =>
  intro B hT hF
  refine Z67 ?_;refine D.loadUp jA (getset' hlo) ?_;refine Z62 ?_;refine D.loadUp jA (getset' hlo) ?_;refine D.indexAddr ((S.i + 1)) (tokA (tokAt l (S.i + 1))) jU jS (getTok hi1) ?_;exact Z183
 case hTF => decide
 refine Z182 ?_;refine Y.tail (tn := [])  ?_;refine R.fin [0, 1, 4] ?_;refine Z84 ?_;refine R.call Tryz.call50 (c50 (tokAt l (S.i + 1)).text (hl.text _) _) ?_;refine Z86 ?_;refine Z13 ?_;refine R.fin [0, 1, 4, 5] ?_;refine Z34 ?_;refine Z187 ?_;refine R.neq ?_;refine Z258 ?_;refine R.fin [0, 1, 5, 26] ?_
 refine W.cond (fun ht26 => ?_) (fun ht26 => ?_)
 ·have e := limit_1 (q := q) hq ht26
  refine Z0 ?_;refine R.callUp Tryz.call20 (getset' hlo) (by simp) low_prq (c20 l (nextQ S) 8 o _ (get_up (getset' hlo)) hi1) ?_;refine R.fin [] ?_;refine AW.ret ?_;exact Z60
 refine Z0 ?_;refine Z230 ?_;refine R.fin [0, 1, 5, 32] ?_
 refine W.cond (fun ht32 => ?_) (fun ht32 => ?_)
 ·have e := limit_2 (q := q) hq ht26 ht32
  refine Z0 ?_;refine R.callUp Tryz.call20 (getset' hlo) (by simp) low_prq (c20 l (nextQ S) 3 o _ (get_up (getset' hlo)) hi1) ?_;refine R.fin [] ?_;refine AW.ret ?_;exact Z60
 have e := limit_3 (q := q) hq ht26 ht32
 refine Z22 ?_;refine Z47 ?_;refine R.nilPtr ?_;refine R.fieldAddrPtr (fo := 8) jU Tryz.sizeOf3 ?_
 refine R.storeUp jS (getQ hne hoq) ?_ ?_
 ·simp
 refine R.fin [0] ?_;refine Z6 ?_;refine Z39 ?_;refine R.loadUp jA (qA hlo hne) ?_
 refine R.add64 (h2 := by rw [show (nextQ S).i = S.i + 1 from rfl]; omega) ?_
 refine Z39 ?_
 refine R.storeUp jS (qA hlo hne) ?_ ?_
 ·simp
 exact Z59

theorem namesF_fact {l : List Tok} (hl : TokEnd l) : ∀ (n : Nat) (r : Qry × QS), r.2.i < l.length → r.1.cols.length ≤ 12 → (namesF l n r).2.i < l.length ∧ (namesF l n r).1.cols.length ≤ 12
 | 0, r, h1, h2 => ⟨h1, h2⟩
 | n + 1, r, h1, h2 => by
  rw [namesF]
  split
  ·rename_i hq
   obtain ⟨_, f2, f3⟩ := nameQ_fact hl (q := r.1) (step_lt hl h1 hq) h2
   exact namesF_fact hl n _ f2 f3
  exact ⟨h1, h2⟩
theorem namesQ_fact {l : List Tok} (hl : TokEnd l) {r : Qry × QS} (h1 : r.2.i < l.length) (h2 : r.1.cols.length ≤ 12) : (namesQ l r).2.i < l.length ∧ (namesQ l r).1.cols.length ≤ 12 := by
 unfold namesQ
 split
 ·rename_i hq; exact ⟨step_lt hl h1 hq, h2⟩
 obtain ⟨_, f2, f3⟩ := nameQ_fact hl (q := setAll false r.1) h1 h2
 exact namesF_fact hl _ _ f2 f3
theorem whereQ_fact {l : List Tok} (hl : TokEnd l) (hll : l.length ≤ 500000) {r : Qry × QS} (h1 : r.2.i < l.length) (h2 : r.1.cols.length ≤ 12) : (whereQ l r).2.i < l.length ∧ (whereQ l r).1.cols.length ≤ 12 := by
 unfold whereQ
 split
 ·rename_i hq
  have hi1 : r.2.i + 1 < l.length := step_lt hl h1 hq
  split
  ·exact ⟨hi1, h2⟩
  rename_i h
  obtain ⟨k, hk, hkl⟩ := at_word hl (by omega) hi1 (by simpa using h)
  refine ⟨?_, h2⟩
  show (atM l (r.2.i + 1)).2.1.toNat < _
  rw [hk, Int.toNat_natCast]
  exact hkl
 exact ⟨h1, h2⟩
theorem limitQ_fact {l : List Tok} (hl : TokEnd l) {r : Qry × QS} (h1 : r.2.i < l.length) (h2 : r.1.cols.length ≤ 12) : (limitQ l r).2.i < l.length ∧ (limitQ l r).1.cols.length ≤ 12 := by
 unfold limitQ
 split
 ·rename_i hq
  have hi1 : (nextQ r.2).i < l.length := step_lt hl h1 hq
  split
  ·exact ⟨by rw [failQ_i]; exact hi1, h2⟩
  split
  ·exact ⟨by rw [failQ_i]; exact hi1, h2⟩
  rename_i h _
  have hk : (tokAt l (nextQ r.2).i).kind ≠ 0 := by
   have : (tokAt l (r.2.i + 1)).kind = 3 := by simpa using h
   show (tokAt l (r.2.i + 1)).kind ≠ 0
   rw [this]; decide
  exact ⟨hl.step hi1 hk, h2⟩
 exact ⟨h1, h2⟩
def q0Q : Qry := ⟨false, [], nullX, -1⟩
def s1Q (l : List Tok) : QS := wantQ l selectW ⟨0, 0, 0⟩
def r1Q (l : List Tok) : Qry × QS := namesQ l (q0Q, s1Q l)
def r2Q (l : List Tok) : Qry × QS := whereQ l (r1Q l)
def r3Q (l : List Tok) : Qry × QS := limitQ l (r2Q l)
def s4Q (l : List Tok) : QS := wantQ l [59] (r3Q l).2
def s5Q (l : List Tok) : QS := endQ l (s4Q l)
theorem q0_le : Le (.agg [boolA false, .nil, intA 0, strA [], intA 0, intA 0, strA [], .nil, intA (-1)]) (.agg [boolA false, .nil, intA 0, strA [], intA 0, intA 0, strA [], .slice false 6 [], intA (-1)]) := by
 refine .agg _ _ rfl (by simp [AV.one, Value.oneCell', sv]) fun i y y' h1 h2 => ?_
 match i with
 | 0 => simp at h1 h2; subst h1; subst h2; exact .inl rfl
 | 1 => simp at h1 h2; subst h1; subst h2; exact .inl rfl
 | 2 => simp at h1 h2; subst h1; subst h2; exact .inl rfl
 | 3 => simp at h1 h2; subst h1; subst h2; exact .inl rfl
 | 4 => simp at h1 h2; subst h1; subst h2; exact .inl rfl
 | 5 => simp at h1 h2; subst h1; subst h2; exact .inl rfl
 | 6 => simp at h1 h2; subst h1; subst h2; exact .inl rfl
 | 7 => simp at h1 h2; subst h1; subst h2; exact .inr ⟨rfl, 6, rfl⟩
 | 8 => simp at h1 h2; subst h1; subst h2; exact .inl rfl
 | i + 9 => simp at h1
abbrev qryA (q : Qry) : AV := .agg (qoC false q)
theorem low_qry {n : Nat} {q : Qry} : Low n (qryA q) := by
 have h : ∀ z ∈ qoC false q, Low n z := low_qo (n := n) (own := false) (q := q)
 simpa using h
theorem oid_ne34 {n : Nat} : oid n 4 ≠ oid n 3 := by unfold oid; omega
theorem c6 (s : Str) (hs : s.length ≤ 1048576) (Hp : List AObj) : AFun Tryz.prog 6 [strA s] Hp (.tup [qryA (parseQ s).1, .agg [intA (parseQ s).2.1, intA (parseQ s).2.2]]) := by
 refine ACall.body [.cell 2 30, .cell 3 33] [0] Tryz.func6 Tryz.ntmps6 (fun d => ?_)
 refine Z35 ?_;refine R.alloc jZ ?_;refine Z162 ?_;refine R.call Tryz.call15 (c15 s hs _) ?_;refine Z86 ?_;refine R.alloc jZ ?_;refine Z258 ?_;refine Z260 ?_;refine R.fin [2, 3, 4, 5] ?_;refine Z16 ?_;refine Z285 ?_;refine Z191 ?_;refine R.fin [2, 3, 4, 5, 15] ?_
 refine W.cond (fun ht15 => ?_) (fun ht15 => ?_)
 ·have e : parseQ s = (nullQ, (lexM s).2.1, ((lexM s).2.2 : Int)) := if_pos ht15
  refine W.drawY [0, 0, 1, 7] [2] [.q 2 [] [], .s [] (some 0) [] []] (fun _ => Hp) (fun _ => [.cells 30 [boolA false, .nil, intA 0, strA [], intA 0, intA 0, strA [], .nil, intA 0], .cells 33 [intA 0, intA 0], .cells 33 [intA (lexM s).2.1, intA ((lexM s).2.2 : Nat)]]) Tryzmixed (by kernel_rfl) rfl rfl (fun _ => rfl) ?_
  apply Y.q
  case h1 =>
   intro B hT hF
   refine D.build (places := #[(0, 1), (1, 1), (2, 6), (8, 1)]) jU (fun w => by simp) jZ ?_;exact Z149
  case hTF => decide
  refine Z286 ?_;refine Y.tail (tn := [2])  ?_;refine Z244 ?_;refine Z69 ?_;exact Z105
 have e0 : ¬ ((lexM s).2.1 != 0) = true := by rw [ht15]; simp
 have hz : (lexM s).2.1 = 0 := by simpa using ht15
 have hle := lex_end hz
 have hlen := lex_len hz
 have hpos : 0 < (lexM s).1.length := hle.pos
 have hl5 : (lexM s).1.length ≤ 500000 := by omega
 have f1 : (s1Q (lexM s).1).i < (lexM s).1.length := wantQ_lt hle hpos
 have f2 : (r1Q (lexM s).1).2.i < (lexM s).1.length ∧ (r1Q (lexM s).1).1.cols.length ≤ 12 := namesQ_fact hle (r := (q0Q, s1Q (lexM s).1)) f1 (show ([] : List Str).length ≤ 12 by decide)
 have f3 : (r2Q (lexM s).1).2.i < (lexM s).1.length ∧ (r2Q (lexM s).1).1.cols.length ≤ 12 := whereQ_fact hle hl5 f2.1 f2.2
 have f4 : (r3Q (lexM s).1).2.i < (lexM s).1.length ∧ (r3Q (lexM s).1).1.cols.length ≤ 12 := limitQ_fact hle f3.1 f3.2
 have f5 : (s4Q (lexM s).1).i < (lexM s).1.length := wantQ_lt hle f4.1
 have hp : parseQ s = parseQL (lexM s).1 := if_neg e0
 refine Z95 ?_;refine R.build (places := #[(0, 1), (1, 1), (2, 2)]) jU (fun w => by simp) jZ ?_;refine R.box ?_;refine Z258 ?_;refine R.fin [2, 3, 6] ?_;refine Z252 ?_;refine R.build (places := #[(0, 1), (1, 1), (2, 6), (8, 1)]) jU (fun w => by simp) jZ ?_;refine R.wk 21 _ q0_le ?_;refine Z20 ?_;refine R.fin [2, 3, 6, 7] ?_;refine Z252 ?_;refine R.nilCell 4 1 1 ?_;refine Z257 ?_
 refine R.callOwn (n := 3) (x := prq (lexM s).1 (s1Q (lexM s).1)) Tryz.call16 (c16 (lexM s).1 ⟨0, 0, 0⟩ selectW (oid Hp.length 3) _ (by rw [get_oid]; rfl) hpos (by omega)) ?_
 refine Z234 ?_
 refine R.callX (up' := Hp) (own' := [.cells 30 [boolA false, .nil, intA 0, strA [], intA 0, intA 0, strA [], .nil, intA 0], .cells 33 [intA 0, intA 0], .cells 33 [intA (lexM s).2.1, intA ((lexM s).2.2 : Nat)], prq (lexM s).1 (r1Q (lexM s).1).2, qo true (r1Q (lexM s).1).1]) Tryz.call17 ((c17 (lexM s).1 (s1Q (lexM s).1) q0Q (oid Hp.length 3) (oid Hp.length 4) _ oid_ne34 (by rw [get_oid]; rfl) (by rw [get_oid]; rfl) f1 hle hl5 (by decide)).mono fun r H' e => ⟨e.1, e.2.trans (by rw [set_oid, set_oid]; rfl)⟩) rfl (fun h => h) ?_
 refine Z234 ?_
 refine R.callX (up' := Hp) (own' := [.cells 30 [boolA false, .nil, intA 0, strA [], intA 0, intA 0, strA [], .nil, intA 0], .cells 33 [intA 0, intA 0], .cells 33 [intA (lexM s).2.1, intA ((lexM s).2.2 : Nat)], prq (lexM s).1 (r2Q (lexM s).1).2, qo true (r2Q (lexM s).1).1]) Tryz.call18 ((c18 (lexM s).1 (r1Q (lexM s).1).2 (r1Q (lexM s).1).1 (oid Hp.length 3) (oid Hp.length 4) _ oid_ne34 (by rw [get_oid]; rfl) (by rw [get_oid]; rfl) f2.1 hle hl5 f2.2).mono fun r H' e => ⟨e.1, e.2.trans (by rw [set_oid, set_oid]; rfl)⟩) rfl (fun h => h) ?_
 refine Z234 ?_
 refine R.callX (up' := Hp) (own' := [.cells 30 [boolA false, .nil, intA 0, strA [], intA 0, intA 0, strA [], .nil, intA 0], .cells 33 [intA 0, intA 0], .cells 33 [intA (lexM s).2.1, intA ((lexM s).2.2 : Nat)], prq (lexM s).1 (r3Q (lexM s).1).2, qo true (r3Q (lexM s).1).1]) Tryz.call19 ((c19 (lexM s).1 (r2Q (lexM s).1).2 (r2Q (lexM s).1).1 (oid Hp.length 3) (oid Hp.length 4) _ oid_ne34 (by rw [get_oid]; rfl) (by rw [get_oid]; rfl) f3.1 hle hl5 f3.2).mono fun r H' e => ⟨e.1, e.2.trans (by rw [set_oid, set_oid]; rfl)⟩) rfl (fun h => h) ?_
 refine Z234 ?_
 refine R.callOwn (n := 3) (x := prq (lexM s).1 (s4Q (lexM s).1)) Tryz.call16 (c16 (lexM s).1 (r3Q (lexM s).1).2 [59] (oid Hp.length 3) _ (by rw [get_oid]; rfl) f4.1 (by omega)) ?_
 refine R.fin [2, 3, 6, 7] ?_;refine W.seq ?_;refine W.draw [0, 1, 3, 7, 0, 16, 48, 112, 255, 511, 1023, 2047] 8 Tryzmixed (by kernel_rfl) ?_;refine Z67 ?_;refine D.loadOwn jA ?_;refine Z62 ?_;refine D.loadOwn jA ?_;refine D.tail ?_;refine R.indexAddr ((s4Q (lexM s).1).i) (tokA (tokAt (lexM s).1 (s4Q (lexM s).1).i)) jU jS (getTok f5) ?_;refine Z8 ?_;refine R.neq ?_;refine R.fin [2, 3, 6, 7, 43] ?_
 refine W.cond (fun ht43 => ?_) (fun ht43 => ?_)
 ·have e5 : s5Q (lexM s).1 = failQ (lexM s).1 8 (s4Q (lexM s).1) := if_pos ht43
  refine Z6 ?_
  refine R.callOwn (n := 3) (x := prq (lexM s).1 (failQ (lexM s).1 8 (s4Q (lexM s).1))) Tryz.call20 (c20 (lexM s).1 (s4Q (lexM s).1) 8 (oid Hp.length 3) _ (by rw [get_oid]; rfl) f5) ?_
  refine R.fin [2, 3, 6, 7] ?_;refine K.thN ?_;refine Z10 ?_;refine Z247 ?_;refine Z191 ?_;refine R.fin [2, 3, 6, 7, 51] ?_
  refine W.cond (fun ht51 => ?_) (fun ht51 => ?_)
  ·rw [← e5] at ht51 ⊢
   have e : parseQ s = (nullQ, (s5Q (lexM s).1).code, (s5Q (lexM s).1).at_) := by rw [hp]; exact if_pos ht51
   refine Z287 ?_
   apply Y.q
   case h1 =>
    intro B hT hF
    refine Z222 ?_;exact Z225
   case hTF => decide
   refine Z78 ?_;refine Z244 ?_;refine Z69 ?_;exact Z105
  rw [← e5] at ht51
  have e : parseQ s = ((r3Q (lexM s).1).1, 0, 0) := by rw [hp]; exact if_neg (by show ¬ (((s5Q (lexM s).1).code != 0) = true); rw [ht51]; simp)
  refine Z3 ?_;refine Z36 ?_;refine Z135 ?_;refine Z69 ?_;exact Z97
 have e5 : s5Q (lexM s).1 = s4Q (lexM s).1 := if_neg (by rw [ht43]; simp)
 refine Z3 ?_;refine Z10 ?_;refine Z247 ?_;refine Z191 ?_;refine R.fin [2, 3, 6, 7, 51] ?_
 refine W.cond (fun ht51 => ?_) (fun ht51 => ?_)
 ·rw [← e5] at ht51 ⊢
  have e : parseQ s = (nullQ, (s5Q (lexM s).1).code, (s5Q (lexM s).1).at_) := by rw [hp]; exact if_pos ht51
  refine Z287 ?_
  apply Y.q
  case h1 =>
   intro B hT hF
   refine Z222 ?_;exact Z225
  case hTF => decide
  refine Z78 ?_;refine Z244 ?_;refine Z69 ?_;exact Z105
 rw [← e5] at ht51
 have e : parseQ s = ((r3Q (lexM s).1).1, 0, 0) := by rw [hp]; exact if_neg (by show ¬ (((s5Q (lexM s).1).code != 0) = true); rw [ht51]; simp)
 refine Z3 ?_;refine Z36 ?_;refine Z135 ?_;refine Z69 ?_;exact Z97

theorem kidD {k : List Expr} {i : Nat} (h : i < k.length) : (k.map exprA)[i]? = some (exprA (k.getD i nullX)) ∧ k.getD i nullX ∈ k ∧ ∀ (f : Expr → Rs) (d : Rs), (k.map f).getD i d = f (k.getD i nullX) := by
 have e : k.getD i nullX = k[i] := by rw [List.getD_eq_getElem?_getD, List.getElem?_eq_getElem h]; rfl
 rw [e]
 refine ⟨by simp [h], List.getElem_mem h, fun f d => ?_⟩
 rw [List.getD_eq_getElem?_getD, List.getElem?_map, List.getElem?_eq_getElem h]
 rfl
theorem kids_len {e : Expr} (h : nodeM e = true) : (e.op = 5 → e.kids.length = 2) ∧ (e.op = 3 ∨ e.op = 4 → e.kids.length = 1) ∧ (e.op = 6 → arityM e.text = (e.kids.length : Int)) ∧ (e.op = 1 ∨ e.op = 2 ∨ e.op = 3 ∨ e.op = 4 ∨ e.op = 5 ∨ e.op = 6) := by
 cases node_cases h with
 | val v hp h0 => simp [valX, Expr.op]
 | name t ht => simp [nameE, Expr.op]
 | neg a => simp [oneX, Expr.op, Expr.kids]
 | no a => simp [oneX, Expr.op, Expr.kids]
 | bin t a b ht => simp [binX, Expr.op, Expr.kids]
 | call t k ht => simpa [Expr.op, Expr.kids, Expr.text] using ht
def shLevM (s : Str) : Int := if s == [111, 114] then 0 else if s == [97, 110, 100] then 1 else if (((((s == [61]) || (s == [33, 61])) || (s == [60])) || (s == [60, 61])) || (s == [62])) || (s == [62, 61]) then 3 else if ((s == [43]) || (s == [45])) || (s == [38]) then 4 else if ((s == [42]) || (s == [47])) || (s == [37]) then 5 else 7
theorem marked_eq (s : Str) : shLevM s = if 0 ≤ levelM s then levelM s else 7 := by
 by_cases hf : s ∈ levels.flatten
 ·have h3 : (levels.flatten.all fun s => decide (shLevM s = if 0 ≤ levelM s then levelM s else 7)) = true := by kernel_rfl
  exact of_decide_eq_true (List.all_eq_true.1 h3 s hf)
 have hn := hf
 have h : levelM s = -1 := by
  rcases level_cases s with h | ⟨h, _⟩
  ·exact absurd h hf
  exact h
 rw [h]
 simp only [levels, List.flatten_cons, List.flatten_nil, List.append_nil, List.cons_append, List.nil_append, List.mem_cons, List.not_mem_nil, or_false, not_or] at hn
 obtain ⟨a1, a2, a3, a4, a5, a6, a7, a8, a9, b1, b2, b3, b4, b5⟩ := hn
 simp [shLevM, *]
/-- The level of a node. -/
def levI (e : Expr) : Int := if e.op == 4 then 2 else if e.op == 3 then 6 else if e.op == 5 then shLevM e.text else 7
theorem levI_eq {e : Expr} (h : nodeM e = true) : levI e = (levE e : Int) := by
 unfold levI levE
 split
 ·rfl
 split
 ·rfl
 split
 ·rename_i h5
  have hb : 0 ≤ levelM e.text := by
   have h5' : e.op = 5 := by simpa using h5
   rw [node_one] at h
   unfold nodeOneM at h
   simp [h5'] at h
   exact h.2.1
  rw [marked_eq, if_pos hb]
  omega
 rfl
theorem c122 (s : Str) (Hp : List AObj) : AFun Tryz.prog 122 [strA s] Hp (intA (shLevM s)) := by
 refine ACall.body [.tmp 2] [0] Tryz.func122 Tryz.ntmps122 (fun d => ?_)
 refine Z83 ?_;refine Z10 ?_;refine R.fin [3] ?_;refine AW.block ?_;refine Z40 ?_;refine R.fin [3, 4] ?_
 refine W.cond (fun ht4 => ?_) (fun ht4 => ?_)
 ·exact Z207
 refine Z40 ?_;refine R.fin [3, 6] ?_
 refine W.cond (fun ht6 => ?_) (fun ht6 => ?_)
 ·exact Z207
 refine W.join ⟨23, setF 3 (strA s) (setF 8 (boolA ((((((s == [61]) || (s == [33, 61])) || (s == [60])) || (s == [60, 61])) || (s == [62])) || (s == [62, 61]))) (fun _ => .any)), Hp, [], [], none⟩ ?_ ?_
 ·refine Z202 ?_
  refine W.cond (fun ht8 => ?_) (fun ht8 => ?_)
  ·exact Z154
  refine Z202 ?_
  refine W.cond (fun ht8 => ?_) (fun ht8 => ?_)
  ·exact Z154
  refine Z202 ?_
  refine W.cond (fun ht8 => ?_) (fun ht8 => ?_)
  ·exact Z154
  refine Z202 ?_
  refine W.cond (fun ht8 => ?_) (fun ht8 => ?_)
  ·exact Z154
  refine Z202 ?_
  refine W.cond (fun ht8 => ?_) (fun ht8 => ?_)
  ·exact Z154
  refine Z261 ?_;refine Z19 ?_;refine R.fin [3, 8] ?_;exact Z49
 refine W.cond (fun ht8 => ?_) (fun ht8 => ?_)
 ·exact Z207
 refine W.join ⟨23, setF 3 (strA s) (setF 15 (boolA (((s == [43]) || (s == [45])) || (s == [38]))) (fun _ => .any)), Hp, [], [], none⟩ ?_ ?_
 ·refine Z40 ?_;refine R.fin [3, 15] ?_
  refine W.cond (fun ht15 => ?_) (fun ht15 => ?_)
  ·refine W.keep [3, 15] ?_;exact Z108
  refine Z40 ?_;refine R.fin [3, 15] ?_
  refine W.cond (fun ht15 => ?_) (fun ht15 => ?_)
  ·refine W.keep [3, 15] ?_;exact Z108
  refine Z261 ?_;refine Z19 ?_;refine R.fin [3, 15] ?_;exact Z49
 refine W.cond (fun ht15 => ?_) (fun ht15 => ?_)
 ·exact Z207
 refine W.join ⟨23, setF 19 (boolA (((s == [42]) || (s == [47])) || (s == [37]))) (fun _ => .any), Hp, [], [], none⟩ ?_ ?_
 ·refine Z40 ?_;refine R.fin [3, 19] ?_
  refine W.cond (fun ht19 => ?_) (fun ht19 => ?_)
  ·refine W.keep [19] ?_;exact Z108
  refine Z40 ?_;refine R.fin [3, 19] ?_
  refine W.cond (fun ht19 => ?_) (fun ht19 => ?_)
  ·refine W.keep [19] ?_;exact Z108
  refine Z261 ?_;refine Z19 ?_;refine R.fin [19] ?_;exact Z49
 refine W.cond (fun ht19 => ?_) (fun ht19 => ?_)
 ·exact Z207
 refine Z22 ?_;refine Z12 ?_;exact K.fin (V.one V.tmp) ⟨by simp_all [shLevM], rfl⟩

theorem c91 (e : Expr) (Hp : List AObj) : AFun Tryz.prog 91 [exprA e] Hp (intA (levI e)) := by
 refine ACall.body [.tmp 2] [0] Tryz.func91 Tryz.ntmps91 (fun d => ?_)
 refine Z70 ?_;refine Z158 ?_;refine R.fin [1, 4] ?_;refine Z145 ?_;refine R.fin [1, 4, 5] ?_
 refine W.cond (fun ht5 => ?_) (fun ht5 => ?_)
 ·refine Z12 ?_;exact Z150
 refine Z29 ?_;refine R.fin [1, 4, 7] ?_
 refine W.cond (fun ht7 => ?_) (fun ht7 => ?_)
 ·refine Z12 ?_;exact Z150
 refine Z29 ?_;refine R.fin [1, 9] ?_
 refine W.cond (fun ht9 => ?_) (fun ht9 => ?_)
 ·refine Z84 ?_;refine R.call Tryz.call122 (c122 e.text _) ?_;refine Z9 ?_;exact Z150
 refine Z22 ?_;refine Z12 ?_;exact K.fin (V.one V.tmp) ⟨by simp_all [levI], rfl⟩

theorem c76 (e : Expr) (Hp : List AObj) : AFun Tryz.prog 76 [exprA e] Hp (intA (levI e)) := by
 refine ACall.body [.tmp 2] [0] Tryz.func76 Tryz.ntmps76 (fun d => ?_)
 refine Z70 ?_;refine Z158 ?_;refine R.eql ?_;refine R.fin [1, 5] ?_
 refine W.cond (fun ht5 => ?_) (fun ht5 => ?_)
 ·refine Z12 ?_;exact Z110
 refine Z3 ?_;refine Z158 ?_;refine R.eql ?_;refine R.fin [1, 8] ?_
 refine W.cond (fun ht8 => ?_) (fun ht8 => ?_)
 ·refine Z12 ?_;exact Z110
 refine Z3 ?_;refine Z158 ?_;refine Z98 ?_;refine Z21 ?_;refine G.call Tryz.call103 (fun hB => c103 e.text _) ?_;refine G.geq ?_;refine R.pickAnd ?_;refine R.fin [1, 17] ?_
 refine W.cond (fun ht17 => ?_) (fun ht17 => ?_)
 ·have hz : levI e = levelM e.text := by
   have h := ht17
   simp only [Bool.and_eq_true, beq_iff_eq, decide_eq_true_eq] at h
   simp [levI, h.1, marked_eq, h.2]
  refine Z212 ?_;refine Z9 ?_;exact Z110
 have hz : levI e = 7 := by
  have h := ht17
  simp only [Bool.and_eq_false_iff, beq_eq_false_iff_ne, decide_eq_false_iff_not] at h
  rcases h with h | h
  ·simp_all [levI]
  simp_all [levI, marked_eq]
  intro _ h2
  omega
 refine Z3 ?_;refine Z12 ?_;exact Z288

end Go.SX.Nb
namespace Go.Proofs
open Go.Shelf Go.RowKit

section
variable {P : Program} (w : World)

/-- Bytes behind a builder's bytes: what is handed back lies where it lay, or in the next block, or nowhere still. -/
theorem bldAppend {t u ty e : TypeId} {i : TypeInfo} (ht : P.underlying t = some (.slice e)) (hu : P.underlying u = some .string) (hi : P.info? e = some i) (hz : i.zero = some (.int .u8 0)) (hsize : i.size = 1) (hby : i.bytes = 1)
  (v : Value) (n : Nat) (xs : List Value) (hown : w.ownsRow 0 e 1 v n xs) (s : ByteArray) (hb : n + s.size ≤ 140737488355328) :
  ∃ v' w', (Builtin.append_ #[t, u] ty #[v, .string s]).run P w = .ok v' w' ∧ w'.ownsRow 0 e 1 v' (n + s.size) (xs ++ Lib.strCells s) ∧ w.grownBy w' v'.ownBlock ∧
   ((v = .slice none 0 0 ∧ v' = v ∧ s.size = 0) ∨ (∃ g cap, v = .slice (some ⟨g, 0, none⟩) n cap ∧ v' = .slice (some ⟨g, 0, none⟩) (n + s.size) cap) ∨ ∃ cap, v' = .slice (some ⟨w.heap.size, 0, none⟩) (n + s.size) cap ∧ 0 < n + s.size) := by
 have h63 : n + s.size ≤ maxLen := by unfold maxLen; omega
 obtain ⟨v', w', hr, h1, h2, h3⟩ := Lib.run_append_own_string (P := P) w 0 t u ty e i ht hu hi hz hsize hby v n xs hown s h63 hb (Nat.zero_le _)
 have hxl : xs.length = n := by simpa using hown.1
 refine ⟨v', w', hr, h1, ?_⟩
 rcases hown.2 with ⟨rfl, rfl⟩ | ⟨g, cap, cur, rfl, hbg, hg, hnc, hcm, hcs, htake⟩
 ·by_cases hm : s.size = 0
  ·have e1 := h3.2 ⟨rfl, hm⟩
   exact ⟨by rw [e1]; exact h2, .inl ⟨rfl, e1, hm⟩⟩
  have hr2 := run_append_nil_string (P := P) w t u ty e i (.int .u8 0) ht hu hi hz s (by omega) (by omega) (by rw [hby]; omega)
  rw [hr] at hr2
  injection hr2 with e1 e2
  refine ⟨?_, .inr (.inr ⟨_, by rw [e1, Nat.zero_add], by omega⟩)⟩
  rw [e2]
  exact ⟨rfl, rfl, rfl, by simp, fun k hk _ => Lib.alloc_old w.drew _ k hk⟩
 by_cases hroom : n + s.size ≤ cap
 ·have hcs' : cur.size = cap := by simpa using hcs
  have hr2 := Lib.run_append_room_string (P := P) w t u ty e i ht hu hi hsize g n cap cur hg s hroom (by omega)
  rw [hr] at hr2
  injection hr2 with e1 e2
  exact ⟨by rw [e1]; exact h2, .inr (.inl ⟨g, cap, rfl, e1⟩)⟩
 have holds : ∀ j u, xs[j]? = some u → w.cell? ((⟨g, 0, none⟩ : Addr).add j) = some u := hown.cells (g := g) rfl
 have hr2 := Lib.run_append_grow_string (P := P) w t u ty e i (.int .u8 0) ht hu hi hz ⟨g, 0, none⟩ n cap xs (by rw [hsize]; simpa using hxl) holds s (by omega) (by omega) (by rw [hby]; exact growslice_fits (by omega) (by omega))
 rw [hr] at hr2
 injection hr2 with e1 e2
 refine ⟨?_, .inr (.inr ⟨_, e1, by omega⟩)⟩
 rw [e2]
 exact ⟨rfl, rfl, rfl, by simp, fun k hk _ => Lib.alloc_old w.drew _ k hk⟩
end

theorem wpList_bldAppend {P : Program} {w w' : World} {ops : Array Oper} {rest : List Oper} {o : Oper} {a : Act} {Q : Exit → Act → World → Prop} {v v' : Value} {s : ByteArray} (hgd : o.guard = none) (sl x : Operand) (t u ty : TypeId)
  (ho : o.op = .call { callee := .builtin .append, args := #[sl, x], argTypes := #[t, u] }) (hty : o.type = ty) (hs : a.eval sl = v) (hx : a.eval x = .string s) (hrun : (Builtin.append_ #[t, u] ty #[v, .string s]).run P w = .ok v' w')
  (h : wpList P ops Q rest (a.put o.dst v') w') : wpList P ops Q (o :: rest) a w := by
 refine wpList_plain hgd fun K hK => ?_
 subst hty
 unfold Oper.wp execOp
 simp only [ho, resolve, invoke, builtin, Sem.run_bind, Sem.run_pure, Result.andThen_ok, List.map_toArray, List.map_cons, List.map_nil, hs, hx, hrun]
 exact hK _ _ h

section
variable {P : Program} {ρ : Ren}

set_option maxHeartbeats 1000000 in
set_option maxRecDepth 100000 in
/-- The check of an unused builder within a block of type T. -/
theorem bldCheck0 (L : Lays.n240 P ρ) (X : Builder.X72 P ρ) {T : TypeId} (hl : liesAt P P.depth T (2 / P.cellsOf T) 0 (ρ.t 72) 1 = true) (b : Nat) (w : World) (h0 : w.cell? ⟨b, 0, none⟩ = some (.pointer none)) (hsh : w.shape? b = some (T, 2)) (hfz : w.frozen? ⟨b, 0, none⟩ = false) :
  Calls P (ρ.f 240) #[.pointer (some ⟨b, 0, none⟩)] w fun e w' => e = .returned (.tuple #[]) ∧ w' = w.setCell ⟨b, 0, none⟩ (.pointer (some ⟨b, 0, none⟩)) := by
 obtain ⟨j, hj, hjs⟩ := Option.map_eq_some_iff.1 X.sizeBuilder
 have mixed := L.mixed
 have t72 := L.t72; have a72 := L.a72; have z72 := L.z72; have v72 := L.v72; have u72 := run_underlying L.t72
 have t70 := L.t70; have a70 := L.a70; have z70 := L.z70; have v70 := L.v70; have u70 := run_underlying L.t70
 have t9 := L.t9; have a9 := L.a9; have z9 := L.z9; have v9 := L.v9; have u9 := run_underlying L.t9
 have t4 := L.t4; have a4 := L.a4; have z4 := L.z4; have v4 := L.v4; have u4 := run_underlying L.t4
 have t164 := L.t164; have a164 := L.a164; have z164 := L.z164; have v164 := L.v164; have u164 := run_underlying L.t164
 go_enter L.f240, Body.n240_ntmps ρ
 go_wp2
 rw [Lib.run_to_unsafe w ⟨b, 0, none⟩ L.t70 L.t164 hj (by rw [hjs]; decide) hsh (Nat.zero_lt_succ 1)]
 simp only [Result.andThen]
 rw [Oper.upon_value]
 go_wp2
 rw [run_callFunc_extern L.f276 (by kernel_rfl) (by kernel_rfl) (by kernel_rfl) (e := Extern.AbiNoEscape.same) (by kernel_rfl)]
 rw [Lib.run_noEscape]
 simp only [Result.andThen]
 rw [Oper.upon_value]
 go_wp2
 rw [Lib.run_from_unsafe w ⟨b, 0, none⟩ L.t164 L.t70 hj hsh hl]
 simp only [Result.andThen]
 rw [Oper.upon_value]
 go_wp2
 go_end0
 exact ⟨rfl, rfl⟩

/-- The check: behind it the first cell holds the builder's own address; nothing else turns. -/
theorem bldCheck (L : Lays.n240 P ρ) (X : Builder.X72 P ρ) {T e : TypeId} (hl : liesAt P P.depth T (2 / P.cellsOf T) 0 (ρ.t 72) 1 = true) (b : Nat) (p v : Value) (n : Nat) (bs : List Value) (w : World) (h : BldAt T e b p v n bs w) :
  Calls P (ρ.f 240) #[.pointer (some ⟨b, 0, none⟩)] w fun e' w' => e' = .returned (.tuple #[]) ∧ BldAt T e b (.pointer (some ⟨b, 0, none⟩)) v n bs w' ∧ w.grownBy w' (some b) ∧ w'.heap.size = w.heap.size := by
 obtain ⟨h1, hp, h3, h4⟩ := h
 rcases hp with rfl | rfl
 ·refine (bldCheck0 L X hl b w (by rw [Lib.cell_of_heap h1]; rfl) (by simp [World.shape?, h1]) (Lib.frozen_of_heap h1 0)).mono ?_
  rintro e' w' ⟨rfl, rfl⟩
  have hgr : w.grownBy (w.setCell ⟨b, 0, none⟩ (.pointer (some ⟨b, 0, none⟩))) (some b) := ⟨rfl, rfl, rfl, by simp [World.setCell], fun k _ hk => Below.heap_setCell _ _ _ _ (fun e => hk (by simp [e]))⟩
  exact ⟨rfl, ⟨by simp [World.setCell, Array.getElem?_modify, h1], .inr rfl, h3.kept hgr (.inr h4), h4⟩, hgr, by simp [World.setCell]⟩
 refine (Any.Builder_copyCheck_used L X b w (by rw [Lib.cell_of_heap h1]; rfl)).mono ?_
 rintro e' w' ⟨rfl, rfl⟩
 exact ⟨rfl, ⟨h1, .inr rfl, h3, h4⟩, ⟨rfl, rfl, rfl, Nat.le_refl _, fun _ _ _ => rfl⟩, rfl⟩

set_option maxHeartbeats 1000000 in
set_option maxRecDepth 100000 in
/-- How many bytes there are. -/
theorem bldLen (L : Lays.n170 P ρ) {T e : TypeId} (b : Nat) (p v : Value) (n : Nat) (bs : List Value) (w : World) (h : BldAt T e b p v n bs w) :
  Calls P (ρ.f 170) #[.pointer (some ⟨b, 0, none⟩)] w fun e' w' => e' = .returned (.int .i64 n) ∧ w' = w := by
 obtain ⟨h1, _, h3, _⟩ := h
 obtain ⟨ao, cap, rfl⟩ : ∃ ao cap, v = .slice ao n cap := by
  rcases h3.2 with ⟨hv, h0⟩ | ⟨g, cap, cur, hv, _⟩
  ·exact ⟨none, 0, by rw [hv, h0]⟩
  exact ⟨_, _, hv⟩
 have c1 : w.cell? ⟨b, 1, none⟩ = some (.slice ao n cap) := by rw [Lib.cell_of_heap h1]; rfl
 have mixed := L.mixed
 have t72 := L.t72; have a72 := L.a72; have z72 := L.z72; have v72 := L.v72; have u72 := run_underlying L.t72
 have t70 := L.t70; have a70 := L.a70; have z70 := L.z70; have v70 := L.v70; have u70 := run_underlying L.t70
 have t37 := L.t37; have a37 := L.a37; have z37 := L.z37; have v37 := L.v37; have u37 := run_underlying L.t37
 have t3 := L.t3; have a3 := L.a3; have z3 := L.z3; have v3 := L.v3; have u3 := run_underlying L.t3
 go_enter L.f170, Body.n170_ntmps ρ
 go_wp2
 go_ret
 exact ⟨rfl, rfl⟩

set_option maxHeartbeats 2000000 in
set_option maxRecDepth 100000 in
/-- A text is written behind it. -/
theorem bldWrite (L : Lays.n166 P ρ) (X : Builder.Extra P ρ) {T : TypeId} (hl : liesAt P P.depth T (2 / P.cellsOf T) 0 (ρ.t 72) 1 = true) (hTe : T ≠ ρ.t 5) (b : Nat) (p v : Value) (n : Nat) (bs : List Value) (s : ByteArray) (w : World) (h : BldAt T (ρ.t 5) b p v n bs w)
  (hlen : n + s.size ≤ 140737488355328) :
  Calls P (ρ.f 166) #[.pointer (some ⟨b, 0, none⟩), .string s] w fun e w' => e = .returned (.tuple #[.int .i64 s.size, .nilIface]) ∧ ∃ v', BldAt T (ρ.t 5) b (.pointer (some ⟨b, 0, none⟩)) v' (n + s.size) (bs ++ Lib.strCells s) w' ∧
   (w'.os = w.os ∧ w'.tape = w.tape ∧ w'.output = w.output ∧ w.heap.size ≤ w'.heap.size) ∧ (∀ k, k < w.heap.size → k ≠ b → v'.ownBlock ≠ some k → w'.heap[k]? = w.heap[k]?) ∧
   ((v = .slice none 0 0 ∧ v' = v ∧ s.size = 0) ∨ (∃ g cap, v = .slice (some ⟨g, 0, none⟩) n cap ∧ v' = .slice (some ⟨g, 0, none⟩) (n + s.size) cap) ∨ ∃ cap, v' = .slice (some ⟨w.heap.size, 0, none⟩) (n + s.size) cap ∧ 0 < n + s.size) := by
 obtain ⟨i0, hi, hz0, hz1, hz2⟩ := info_parts X.infoByte
 have mixed := L.mixed
 have t72 := L.t72; have a72 := L.a72; have z72 := L.z72; have v72 := L.v72; have u72 := run_underlying L.t72
 have t70 := L.t70; have a70 := L.a70; have z70 := L.z70; have v70 := L.v70; have u70 := run_underlying L.t70
 have t37 := L.t37; have a37 := L.a37; have z37 := L.z37; have v37 := L.v37; have u37 := run_underlying L.t37
 have t3 := L.t3; have a3 := L.a3; have z3 := L.z3; have v3 := L.v3; have u3 := run_underlying L.t3
 have t9 := L.t9; have a9 := L.a9; have z9 := L.z9; have v9 := L.v9; have u9 := run_underlying L.t9
 have t4 := L.t4; have a4 := L.a4; have z4 := L.z4; have v4 := L.v4; have u4 := run_underlying L.t4
 have t164 := L.t164; have a164 := L.a164; have z164 := L.z164; have v164 := L.v164; have u164 := run_underlying L.t164
 have t5 := X.t5; have a5 := X.a5; have z5 := X.z5; have v5 := X.v5; have u5 := run_underlying X.t5
 have e240 : ∀ args w, (callFunc (ρ.f 240) args).run P w = .ok (.enter (ρ.f 240) args) w := enters_of L.f240 (by kernel_rfl) rfl
 go_enter L.f166, Body.n166_ntmps ρ
 go_wp2_with (go_at_fn (ρ.f 240); refine (bldCheck { L with } X.toX72 hl b p v n bs _ h).mono ?_)
 rintro e w1 ⟨rfl, ⟨hbk, _, hown, hne⟩, hg1, hs1⟩
 have c0 : w1.cell? ⟨b, 0, none⟩ = some (.pointer (some ⟨b, 0, none⟩)) := by rw [Lib.cell_of_heap hbk]; rfl
 have c1 : w1.cell? ⟨b, 1, none⟩ = some v := by rw [Lib.cell_of_heap hbk]; rfl
 obtain ⟨v', w2, hrun, hown', hgrow, hcase⟩ := bldAppend (P := P) w1 (ty := ρ.t 37) L.t37 L.t9 hi hz0 hz1 hz2 v n bs hown s hlen
 have hlt : b < w1.heap.size := (Array.getElem?_eq_some_iff.1 hbk).1
 have hne' : v'.ownBlock ≠ some b := by
  rcases hcase with ⟨_, e1, _⟩ | ⟨g, cap, e1, e2⟩ | ⟨cap, e1, _⟩
  ·rw [e1]; exact hne
  ·rw [e2]; rw [e1] at hne; exact hne
  rw [e1]; simp [Value.ownBlock]; omega
 have hb2 : w2.heap[b]? = some (.cells #[.pointer (some ⟨b, 0, none⟩), v] T (0, 0)) := by
  rw [hgrow.block b hlt (fun e => hne' e.symm)]
  exact hbk
 have d0 : w2.cell? ⟨b, 0, none⟩ = some (.pointer (some ⟨b, 0, none⟩)) := by rw [Lib.cell_of_heap hb2]; rfl
 have d1 : w2.cell? ⟨b, 1, none⟩ = some v := by rw [Lib.cell_of_heap hb2]; rfl
 have f1 : w2.frozen? ⟨b, 1, none⟩ = false := Lib.frozen_of_heap hb2 1
 obtain ⟨ao, n', cap, rfl⟩ : ∃ ao n' cap, v' = .slice ao n' cap := by
  rcases hown'.2 with ⟨hv, _⟩ | ⟨g, cap, cur, hv, _⟩
  ·exact ⟨_, _, _, hv⟩
  exact ⟨_, _, _, hv⟩
 go_wp2_with (at_builtin; refine wpList_bldAppend rfl _ _ (ρ.t 37) (ρ.t 9) (ρ.t 37) rfl rfl rfl rfl hrun ?_)
 go_ret2
 refine ⟨rfl, _, ⟨by simp [World.setCell, Array.getElem?_modify, hb2], .inr rfl, hown'.kept (row := some b) ⟨rfl, rfl, rfl, by simp [World.setCell], fun k _ hk => Below.heap_setCell _ _ _ _ (fun e => hk (by simp [e]))⟩ (.inr hne'), hne'⟩, ⟨?_, ?_, ?_, ?_⟩, fun k hk hkb hkr => ?_, ?_⟩
 ·exact hgrow.os.trans hg1.os
 ·exact hgrow.tape.trans hg1.tape
 ·exact hgrow.output.trans hg1.output
 ·have := hgrow.size
  simp [World.setCell]; omega
 ·rw [Below.heap_setCell _ _ _ _ hkb, hgrow.block k (by omega) (fun e => hkr e.symm), hg1.block k hk (by simpa using hkb)]
 rw [hs1] at hcase; exact hcase

set_option maxHeartbeats 2000000 in
set_option maxRecDepth 100000 in
/-- Its text: some of its row is frozen; nothing else turns. -/
theorem bldString (L : Lays.n169 P ρ) (X : Builder.Extra P ρ) {T : TypeId} (b : Nat) (p v : Value) (l : List UInt8) (w : World) (h : BldAt T (ρ.t 5) b p v l.length (Lib.byteCells l) w) (hcap : ∀ g, v ≠ .slice (some ⟨g, 0, none⟩) 0 0) :
  Calls P (ρ.f 169) #[.pointer (some ⟨b, 0, none⟩)] w fun e w' => e = .returned (.string ⟨l.toArray⟩) ∧ (w'.os = w.os ∧ w'.tape = w.tape ∧ w'.output = w.output ∧ w.heap.size ≤ w'.heap.size) ∧ ∀ k, v.ownBlock ≠ some k → w'.heap[k]? = w.heap[k]? := by
 obtain ⟨hbk, _, hown, hne⟩ := h
 have mixed := L.mixed
 have t72 := L.t72; have a72 := L.a72; have z72 := L.z72; have v72 := L.v72; have u72 := run_underlying L.t72
 have t70 := L.t70; have a70 := L.a70; have z70 := L.z70; have v70 := L.v70; have u70 := run_underlying L.t70
 have t37 := L.t37; have a37 := L.a37; have z37 := L.z37; have v37 := L.v37; have u37 := run_underlying L.t37
 have t127 := L.t127; have a127 := L.a127; have z127 := L.z127; have v127 := L.v127; have u127 := run_underlying L.t127
 have t3 := L.t3; have a3 := L.a3; have z3 := L.z3; have v3 := L.v3; have u3 := run_underlying L.t3
 have t9 := L.t9; have a9 := L.a9; have z9 := L.z9; have v9 := L.v9; have u9 := run_underlying L.t9
 have t5 := X.t5; have a5 := X.a5; have z5 := X.z5; have v5 := X.v5; have u5 := run_underlying X.t5
 rcases hown.2 with ⟨rfl, h0⟩ | ⟨g, cap, cur, rfl, hbg, hg, hnc, hcm, hcs, htake⟩
 ·have hl : l = [] := List.eq_nil_of_length_eq_zero h0
  subst hl
  have hUS := Any.unsafeString_none L X
  have c1 : w.drew.cell? ⟨b, 1, none⟩ = some (.slice none 0 0) := by
   have : w.drew.heap[b]? = some (.cells #[p, .slice none 0 0] T (0, 0)) := hbk
   rw [Lib.cell_of_heap this]; rfl
  have hSD : (Builtin.unsafeSliceData_ #[(ρ.t 37)] (ρ.t 127) #[.slice none 0 0]).run P w.drew = .ok (.pointer none) w.drew := rfl
  go_enter L.f169, Body.n169_ntmps ρ
  go_wp2
  go_region_o
  all_goals (go_wp2; go_ret; exact ⟨rfl, ⟨rfl, rfl, rfl, Nat.le_refl _⟩, fun _ _ => rfl⟩)
 have hc0 : cap ≠ 0 := by
  rintro rfl
  exact hcap g (by rw [show l.length = 0 by omega])
 have c1 : w.drew.cell? ⟨b, 1, none⟩ = some (.slice (some ⟨g, 0, none⟩) l.length cap) := by
  have : w.drew.heap[b]? = some (.cells #[p, .slice (some ⟨g, 0, none⟩) l.length cap] T (0, 0)) := hbk
  rw [Lib.cell_of_heap this]; rfl
 have hSD : (Builtin.unsafeSliceData_ #[(ρ.t 37)] (ρ.t 127) #[.slice (some ⟨g, 0, none⟩) l.length cap]).run P w.drew = .ok (.pointer (some ⟨g, 0, none⟩)) w.drew :=
  Lib.run_unsafeSliceData_row _ _ _ _ _ _ hc0
 by_cases hl : l = []
 ·subst hl
  have hUS := Any.unsafeString_none L X
  clear hc0 hcap
  simp only [List.length_nil] at c1 hSD
  go_enter L.f169, Body.n169_ntmps ρ
  go_wp2
  go_region_o
  all_goals (go_wp2; go_ret; exact ⟨rfl, ⟨rfl, rfl, rfl, Nat.le_refl _⟩, fun _ _ => rfl⟩)
 have hUS : (Builtin.unsafeString_ #[(ρ.t 127), (ρ.t 3)] (ρ.t 9) #[.pointer (some ⟨g, 0, none⟩), .int .i64 l.length]).run P w.drew = .ok (.string ⟨l.toArray⟩) (w.drew.freeze ⟨g, 0, none⟩ l.length) := by
  refine Lib.run_unsafeString_row w.drew (ρ.t 127) (ρ.t 3) (ρ.t 9) (ρ.t 5) L.t127 X.cellsByte g cur.size (by have hg' : w.drew.heap[g]? = some (.cells cur (ρ.t 5) (0, 0)) := hg; simp [World.shape?, hg']) l hl (by omega) (by unfold maxLen at hcm; omega) ?_
  intro j x hx
  exact hown.cells (g := g) rfl j (.int .u8 x.toNat) (by simp [Lib.byteCells, hx])
 have hfz : ∀ k, g ≠ k → (w.drew.freeze ⟨g, 0, none⟩ l.length).heap[k]? = w.heap[k]? := fun k hk => by
  unfold World.freeze
  split
  ·rfl
  show (w.heap.modify g _)[k]? = _
  rw [Array.getElem?_modify, if_neg hk]
 have hfs : (w.drew.freeze ⟨g, 0, none⟩ l.length).heap.size = w.heap.size := by
  unfold World.freeze
  split
  ·rfl
  show (w.heap.modify g _).size = _
  simp
 have hfo : (w.drew.freeze ⟨g, 0, none⟩ l.length).os = w.os ∧ (w.drew.freeze ⟨g, 0, none⟩ l.length).tape = w.tape ∧ (w.drew.freeze ⟨g, 0, none⟩ l.length).output = w.output := by
  unfold World.freeze
  split <;> exact ⟨rfl, rfl, rfl⟩
 clear hc0 hcap
 go_enter L.f169, Body.n169_ntmps ρ
 go_wp2
 go_region_o
 all_goals (go_wp2; go_ret; exact ⟨rfl, ⟨hfo.1, hfo.2.1, hfo.2.2, Nat.le_of_eq hfs.symm⟩, fun k hk => hfz k (fun e => hk (by rw [e]; rfl))⟩)
end
end Go.Proofs

namespace Go.SX.Nb
open Go Go.SX Go.Proofs Go.Shelf
variable [ErrAt]
set_option maxRecDepth 8000
/-! show's builder. -/
theorem bldX : Builder.Extra Tryz.prog Tryz.ren155 where
 sizeBuilder := by kernel_rfl
 liesBuilder := by kernel_rfl
 t5 := Tryz.underlying5
 a5 := Tryz.isAgg5
 z5 := Tryz.sizeOf5
 v5 := Tryz.zeroValue5
 infoByte := by kernel_rfl
 cellsByte := by kernel_rfl
 sizeByte := by kernel_rfl
 neB5 := by decide
theorem bldLies : liesAt Tryz.prog Tryz.prog.depth 94 (2 / Tryz.prog.cellsOf 94) 0 90 1 = true := by kernel_rfl
abbrev bldA (bs : Str) : AObj := .bld 94 5 bs
theorem low_bld {n : Nat} {bs : Str} : ObjLow n (bldA bs) := trivial
/-- (*strings.Builder).WriteString. -/
theorem c60 (bs s : Str) (hl : bs.length + s.length ≤ 140737488355328) (o : Nat) (Hp : List AObj) (ho : Hp[o]? = some (bldA bs)) :
  ACall Tryz.prog 60 [.ptr o 0, strA s] Hp (fun r H' => r = .tup [intA s.length, .v .nilIface] ∧ H' = Hp.set o (bldA (bs ++ s))) := by
 refine ACall.bldWrite ho (fun b p v w h => ?_)
 have hw := bldWrite Tryz.lays166 bldX (T := 94) bldLies (by decide) b p v bs.length (Lib.byteCells bs) ⟨s.toArray⟩ w h (by rw [bytes_size]; exact hl)
 rw [bytes_size, Lib.strCells_eq, ← Lib.byteCells_append] at hw
 exact hw
/-- (*strings.Builder).Len. -/
theorem c63 (bs : Str) (o : Nat) (Hp : List AObj) (ho : Hp[o]? = some (bldA bs)) : AFun Tryz.prog 63 [.ptr o 0] Hp (intA bs.length) :=
 AFun.bldLen ho (fun b p v w h => bldLen Tryz.lays170 (T := 94) (e := 5) b p v _ _ w h)
/-- (*strings.Builder).String. -/
theorem c61 (bs : Str) (o : Nat) (Hp : List AObj) (ho : Hp[o]? = some (bldA bs)) : ACall Tryz.prog 61 [.ptr o 0] Hp (fun r H' => r = strA bs ∧ H' = Hp.set o (.cells 94 [.any, .any])) :=
 ACall.bldString ho (fun b p v w h hc => bldString (ρ := Tryz.ren155) { Tryz.lays155 with } bldX (T := 94) b p v bs w h hc)
end Go.SX.Nb
namespace Go.SX.Nb
open Go Go.SX Go.Proofs
variable [ErrAt]
set_option maxRecDepth 4000
abbrev unitA : AV := .v (.tuple #[])
abbrev tops : Nat := 1099511627776
/-- What node writes. -/
def Nodes (e : Expr) : Prop := ∀ (o : Nat) (bs : Str) (Hp : List AObj), Hp[o]? = some (bldA bs) → bs.length + (printE e).length ≤ tops → ACall Tryz.prog 62 [.ptr o 0, exprA e] Hp (fun r H' => r = unitA ∧ H' = Hp.set o (bldA (bs ++ printE e)))
theorem printE_eq (e : Expr) : printE e = nodeS e.op e.text e.val e.kids (e.kids.map printE) := by
 cases e with
 | mk o t v k => rw [printE, printL_map]; rfl
theorem kidP {k : List Expr} {i : Nat} (h : i < k.length) : (k.map printE).getD i [] = printE (k.getD i nullX) := by
 rw [List.getD_eq_getElem?_getD, List.getD_eq_getElem?_getD, List.getElem?_map, List.getElem?_eq_getElem h]
 rfl
theorem sepS_snoc (l : List Str) (s : Str) : sepS (l ++ [s]) = sepS l ++ (44 :: 32 :: s) := by
 induction l with
 | nil => simp [sepS]
 | cons a r ih => simp [sepS, ih]
theorem sep_take {k : List Expr} {x : Nat} (h : x < k.length) : (sepS ((k.take (x + 1)).map printE)).drop 2 = (sepS ((k.take x).map printE)).drop 2 ++ (if 0 < x then [44, 32] else []) ++ printE k[x] := by
 rw [List.take_succ_eq_append_getElem h, List.map_append, List.map_singleton, sepS_snoc]
 cases x with
 | zero => simp [sepS]
 | succ x =>
  have : 2 ≤ (sepS ((k.take (x + 1)).map printE)).length := by
   rw [List.take_succ_eq_append_getElem (by omega), List.map_append, List.map_singleton, sepS_snoc]
   simp
   omega
  rw [List.drop_append_of_le_length this, if_pos (by omega)]
  simp
theorem sep_le {k : List Expr} (x : Nat) : (sepS ((k.take x).map printE)).length ≤ (sepS (k.map printE)).length := by
 have : k.map printE = (k.take x).map printE ++ (k.drop x).map printE := by rw [← List.map_append, List.take_append_drop]
 rw [this]
 have : ∀ a b : List Str, (sepS a).length ≤ (sepS (a ++ b)).length := by
  intro a b
  induction a with
  | nil => simp [sepS]
  | cons c r ih => simp [sepS]; exact ih
 exact this _ _
theorem set_set' {H : List AObj} {o : Nat} {a b : AObj} : (H.set o a).set o b = H.set o b := List.set_set _
theorem c93 (e : Expr) (he : Nodes e) (hlev : levI e = (levE e : Int)) (least : Nat) (l0 : Int) (hl0 : l0 = (least : Int)) (o : Nat) (bs : Str) (Hp : List AObj) (ho : Hp[o]? = some (bldA bs)) (hb : bs.length + (brkS least e (printE e)).length ≤ tops) : ACall Tryz.prog 93 [.ptr o 0, exprA e, intA l0] Hp (fun r H' => r = unitA ∧ H' = Hp.set o (bldA (bs ++ brkS least e (printE e)))) := by
 subst hl0
 refine ACall.body [] [0, 1, 2] Tryz.func93 Tryz.ntmps93 (fun d => ?_)
 refine Z25 ?_;refine R.fin [0, 2, 4] ?_;refine Z188 ?_;refine R.call Tryz.call91 (c91 e _) ?_;refine Z257 ?_;refine R.geq ?_;refine R.fin [0, 4, 9] ?_
 refine W.cond (fun ht9 => ?_) (fun ht9 => ?_)
 ·have hz : least ≤ levE e := by
   have h := ht9
   rw [hlev] at h
   simpa using h
  rw [show brkS least e (printE e) = printE e from if_pos hz] at hb ⊢
  refine Z0 ?_;refine Z272 ?_;refine R.callUp Tryz.call62 ho (by simp) low_bld (he o bs _ (get_up ho) (by omega)) ?_;refine R.fin [] ?_;refine Z23 ?_;exact K.fin .nores ⟨rfl, by simp⟩
 have hz : ¬ least ≤ levE e := by
  have h := ht9
  rw [hlev] at h
  simpa using h
 rw [show brkS least e (printE e) = 40 :: (printE e ++ [41]) from if_neg hz] at hb ⊢
 simp only [List.length_cons, List.length_append, List.length_nil, tops] at hb
 refine Z95 ?_;refine Z57 ?_
 refine R.callUp Tryz.call60 ho (by simp) low_bld (c60 bs [40] (by simp only [tops, List.length_append, List.length_cons, List.length_nil] at *; omega) o _ (get_up ho)) ?_
 refine R.fin [0, 4] ?_;refine Z0 ?_;refine Z272 ?_
 refine R.callUp Tryz.call62 (getset ho) (by simp) low_bld (he o (bs ++ [40]) _ (get_up (getset ho)) (by simp only [tops, List.length_append, List.length_cons, List.length_nil] at *; omega)) ?_
 refine R.fin [0] ?_;refine Z6 ?_;refine Z57 ?_
 refine R.callUp Tryz.call60 (getset (getset ho)) (by simp) low_bld (c60 (bs ++ [40] ++ printE e) [41] (by simp only [tops, List.length_append, List.length_cons, List.length_nil] at *; omega) o _ (get_up (getset (getset ho)))) ?_
 refine R.fin [] ?_;exact K.finN .nores ⟨rfl, by simp⟩

theorem c62 : ∀ (n : Nat) (e : Expr), okE n e → allE nodeM e = true → allE rngN e = true → Nodes e := by
 intro n
 induction n with
 | zero => exact fun e h => h.elim
 | succ n ih =>
 intro e hok hnd hrg o bs Hp ho hb
 have hnd0 := hnd
 have hrg0 := hrg
 rw [allE_eq, Bool.and_eq_true] at hnd0 hrg0
 have hev : ∀ y ∈ e.kids, Nodes y := fun y hy => ih y (hok.2.2 y hy) ((allL_iff _ _).1 hnd0.2 y hy) ((allL_iff _ _).1 hrg0.2 y hy)
 have hlv : ∀ y ∈ e.kids, levI y = (levE y : Int) := fun y hy => levI_eq (by have := (allL_iff _ _).1 hnd0.2 y hy; rw [allE_eq, Bool.and_eq_true] at this; exact this.1)
 obtain ⟨k5, k34, k6, kall⟩ := kids_len hnd0.1
 have hi64 : i64R e.val.n := by
  have := hrg0.1
  simp only [rngN, Bool.and_eq_true, decide_eq_true_eq] at this
  exact this
 have hlv0 := levI_eq hnd0.1
 have pe := printE_eq e
 have hol := (List.getElem?_eq_some_iff.1 ho).1
 unfold nodeS at pe
 refine ACall.body [] [0, 1] Tryz.func62 Tryz.ntmps62 (fun d => ?_)
 refine Z25 ?_;refine R.fin [0, 3] ?_;refine Z72 ?_;refine R.call Tryz.call91 (c91 e _) ?_;refine Z258 ?_;refine R.fin [0, 3, 4] ?_;refine Z187 ?_;refine R.fin [0, 3, 4, 11] ?_;refine Z145 ?_;refine R.fin [0, 3, 4, 11, 12] ?_
 refine W.cond (fun ht12 => ?_) (fun ht12 => ?_)
 ·rw [if_pos ht12] at pe
  refine W.draw0 [0, 1, 3, 0, 8, 24, 63] 6 Tryzmixed (by kernel_rfl) ?_;refine Z41 ?_;refine D.fieldAddrPtr (fo := 0) jU Tryz.sizeOf90 ?_;refine D.fieldAddrRo (off := 2) jU Tryz.sizeOf25 ?_;refine D.loadRoN jA jS ?_;refine D.call Tryz.call92 (c92 e.val hi64 _) ?_;refine D.tail ?_
  refine R.callUp Tryz.call60 ho (by simp) low_bld (c60 bs (printM e.val) (by rw [pe] at hb; simp only [tops] at hb; omega) o _ (get_up ho)) ?_
  exact Z157
 rw [if_neg (by rw [ht12]; simp)] at pe
 refine Z29 ?_;refine R.fin [0, 3, 4, 11, 21] ?_
 refine W.cond (fun ht21 => ?_) (fun ht21 => ?_)
 ·rw [if_pos ht21] at pe
  refine W.draw0 [0, 1, 3, 0, 8, 31] 5 Tryzmixed (by kernel_rfl) ?_;refine Z41 ?_;refine Z80 ?_;refine Z280 ?_;refine D.tail ?_
  refine R.callUp Tryz.call60 ho (by simp) low_bld (c60 bs e.text (by rw [pe] at hb; simp only [tops] at hb; omega) o _ (get_up ho)) ?_
  exact Z157
 rw [if_neg (by rw [ht21]; simp)] at pe
 refine Z29 ?_;refine R.fin [0, 3, 4, 11, 29] ?_
 refine W.cond (fun ht29 => ?_) (fun ht29 => ?_)
 ·rw [if_pos ht29] at pe
  have hkl := k34 (.inl (by simpa using ht29))
  rw [kidP (by omega)] at pe
  rw [pe] at hb
  simp only [List.length_cons, tops] at hb
  refine Z0 ?_;refine Z57 ?_
  refine R.callUp Tryz.call60 ho (by simp) low_bld (c60 bs [45] (by simp only [tops, List.length_append, List.length_cons, List.length_nil] at *; omega) o _ (get_up ho)) ?_
  refine R.fin [0, 3] ?_;refine Z6 ?_;refine Z38 ?_;refine Z272 ?_
  refine R.callUp Tryz.call93 (getset ho) (by simp) low_bld (c93 (e.kids.getD 0 nullX) (hev _ (kidD (by omega)).2.1) (hlv _ (kidD (by omega)).2.1) (6) _ (rfl) o (bs ++ [45]) _ (get_up (getset ho)) (by simp only [tops, List.length_append, List.length_cons, List.length_nil] at *; omega)) ?_
  exact Z157
 rw [if_neg (by rw [ht29]; simp)] at pe
 refine Z29 ?_;refine R.fin [0, 3, 4, 11, 41] ?_
 refine W.cond (fun ht41 => ?_) (fun ht41 => ?_)
 ·rw [if_pos ht41] at pe
  have hkl := k34 (.inr (by simpa using ht41))
  rw [kidP (by omega)] at pe
  rw [pe] at hb
  simp only [List.length_cons, List.length_append, notW, List.length_nil, tops] at hb
  refine Z0 ?_;refine Z57 ?_
  refine R.callUp Tryz.call60 ho (by simp) low_bld (c60 bs [110, 111, 116, 32] (by simp only [tops, List.length_append, List.length_cons, List.length_nil] at *; omega) o _ (get_up ho)) ?_
  refine R.fin [0, 3] ?_;refine Z6 ?_;refine Z38 ?_;refine Z272 ?_
  refine R.callUp Tryz.call93 (getset ho) (by simp) low_bld (c93 (e.kids.getD 0 nullX) (hev _ (kidD (by omega)).2.1) (hlv _ (kidD (by omega)).2.1) (2) _ (rfl) o (bs ++ [110, 111, 116, 32]) _ (get_up (getset ho)) (by simp only [tops, List.length_append, List.length_cons, List.length_nil] at *; omega)) ?_
  exact Z157
 rw [if_neg (by rw [ht41]; simp)] at pe
 refine Z29 ?_;refine R.fin [0, 3, 4, 11, 53] ?_
 refine W.cond (fun ht53 => ?_) (fun ht53 => ?_)
 ·rw [if_pos ht53] at pe
  have h5 : e.op = 5 := by simpa using ht53
  have hkl := k5 h5
  have hlv5 : levE e = (levelM e.text).toNat := by simp [levE, h5]
  have hl5 := level_le e.text
  rw [kidP (by omega), kidP (by omega)] at pe
  rw [pe] at hb
  simp only [List.length_cons, List.length_append, tops] at hb
  rw [hlv0, hlv5]
  refine Z0 ?_;refine Z258 ?_;refine R.fin [0, 3, 4, 5] ?_;refine Z10 ?_;refine R.eql ?_;refine R.fin [0, 3, 4, 5, 57] ?_
  refine W.cond (fun ht57 => ?_) (fun ht57 => ?_)
  ·have h3 : (levelM e.text).toNat = 3 := by have := ht57; simp at this; omega
   have hf1 : (((levelM e.text).toNat : Int) + 1) = ((firstL (levelM e.text).toNat : Nat) : Int) := by rw [h3]; rfl
   refine Z74 ?_;refine R.fin [0, 3, 4, 5] ?_;refine Z164 ?_;refine Z38 ?_;refine Z151 ?_
   refine R.callUp Tryz.call93 ho (by simp) low_bld (c93 (e.kids.getD 0 nullX) (hev _ (kidD (by omega)).2.1) (hlv _ (kidD (by omega)).2.1) (firstL (levelM e.text).toNat) _ (by first | exact hf1 | rw [hf2]) o (bs) _ (get_up ho) (by simp only [tops, List.length_append, List.length_cons, List.length_nil] at *; omega)) ?_
   refine Z231 ?_;refine Z41 ?_;refine Z80 ?_;refine Z280 ?_
   refine D.sadd (hl := by simp only [List.length_cons, List.length_nil]; omega) ?_
   refine D.sadd (hl := by simp only [List.length_cons, List.length_nil, List.length_append]; omega) ?_
   refine D.tail ?_
   refine R.callUp Tryz.call60 (getset ho) (by simp) low_bld (c60 (bs ++ brkS (firstL (levelM e.text).toNat) (e.kids.getD 0 nullX) (printE (e.kids.getD 0 nullX))) (32 :: (e.text ++ [32])) (by simp only [tops, List.length_append, List.length_cons, List.length_nil] at *; omega) o _ (get_up (getset ho))) ?_
   refine R.fin [0, 3, 4] ?_;refine Z6 ?_;refine Z7 ?_;refine Z235 ?_;refine R.add64 ?_
   refine R.callUp Tryz.call93 (getset (getset ho)) (by simp) low_bld (c93 (e.kids.getD 1 nullX) (hev _ (kidD (by omega)).2.1) (hlv _ (kidD (by omega)).2.1) ((levelM e.text).toNat + 1) _ (by first | rfl | (push_cast; rfl)) o (bs ++ brkS (firstL (levelM e.text).toNat) (e.kids.getD 0 nullX) (printE (e.kids.getD 0 nullX)) ++ 32 :: (e.text ++ [32])) _ (get_up (getset (getset ho))) (by simp only [tops, List.length_append, List.length_cons, List.length_nil] at *; omega)) ?_
   exact Z157
  have h3 : (levelM e.text).toNat ≠ 3 := by have := ht57; simp at this; omega
  have hf2 : firstL (levelM e.text).toNat = (levelM e.text).toNat := by unfold firstL; rw [if_neg h3]
  refine Z95 ?_;refine Z38 ?_;refine Z151 ?_
  refine R.callUp Tryz.call93 ho (by simp) low_bld (c93 (e.kids.getD 0 nullX) (hev _ (kidD (by omega)).2.1) (hlv _ (kidD (by omega)).2.1) (firstL (levelM e.text).toNat) _ (by first | exact hf1 | rw [hf2]) o (bs) _ (get_up ho) (by simp only [tops, List.length_append, List.length_cons, List.length_nil] at *; omega)) ?_
  refine Z231 ?_;refine Z41 ?_;refine Z80 ?_;refine Z280 ?_
  refine D.sadd (hl := by simp only [List.length_cons, List.length_nil]; omega) ?_
  refine D.sadd (hl := by simp only [List.length_cons, List.length_nil, List.length_append]; omega) ?_
  refine D.tail ?_
  refine R.callUp Tryz.call60 (getset ho) (by simp) low_bld (c60 (bs ++ brkS (firstL (levelM e.text).toNat) (e.kids.getD 0 nullX) (printE (e.kids.getD 0 nullX))) (32 :: (e.text ++ [32])) (by simp only [tops, List.length_append, List.length_cons, List.length_nil] at *; omega) o _ (get_up (getset ho))) ?_
  refine R.fin [0, 3, 4] ?_;refine Z6 ?_;refine Z7 ?_;refine Z235 ?_;refine R.add64 ?_
  refine R.callUp Tryz.call93 (getset (getset ho)) (by simp) low_bld (c93 (e.kids.getD 1 nullX) (hev _ (kidD (by omega)).2.1) (hlv _ (kidD (by omega)).2.1) ((levelM e.text).toNat + 1) _ (by first | rfl | (push_cast; rfl)) o (bs ++ brkS (firstL (levelM e.text).toNat) (e.kids.getD 0 nullX) (printE (e.kids.getD 0 nullX)) ++ 32 :: (e.text ++ [32])) _ (get_up (getset (getset ho))) (by simp only [tops, List.length_append, List.length_cons, List.length_nil] at *; omega)) ?_
  exact Z157
 rw [if_neg (by rw [ht53]; simp)] at pe
 refine Z29 ?_;refine R.fin [0, 3, 83] ?_
 refine W.cond (fun ht83 => ?_) (fun ht83 => ?_)
 ·have hsl : ∀ x, ((sepS ((e.kids.take x).map printE)).drop 2).length ≤ ((sepS (e.kids.map printE)).drop 2).length := fun x => by have := sep_le (k := e.kids) x; rw [List.length_drop, List.length_drop]; omega
  have hkl6 := hok.2.1
  rw [pe] at hb
  simp only [List.length_cons, List.length_append, List.length_nil, tops] at hb
  refine W.draw [0, 1, 3, 0, 8, 24, 63] 6 Tryzmixed (by kernel_rfl) ?_;refine Z41 ?_;refine Z80 ?_;refine Z280 ?_
  refine D.sadd (hl := by simp only [List.length_cons, List.length_nil]; omega) ?_
  refine D.tail ?_
  refine R.callUp Tryz.call60 ho (by simp) low_bld (c60 bs (e.text ++ [40]) (by simp only [tops, List.length_append, List.length_cons, List.length_nil] at *; omega) o _ (get_up ho)) ?_
  refine R.fin [0, 3] ?_;refine Z16 ?_;refine Z7 ?_;refine Z122 ?_;refine R.fin [0, 93, 94, 95] ?_
  refine AW.loopC (α := Nat) (fun x => ⟨114, setF 0 (.ptr o 0) (setF 93 (.slice false 6 (e.kids.map exprA)) (setF 94 (intA (e.kids.length : Nat)) (setF 95 (intA (x : Nat)) (fun _ => .any)))), Hp.set o (bldA (bs ++ (e.text ++ [40]) ++ (sepS ((e.kids.take x).map printE)).drop 2)), [], [], none⟩) (fun x => x ≤ e.kids.length) (fun x => e.kids.length - x) (0) (Nat.zero_le _) (StLe.of_eq (by simp [sepS])) rfl (fun x hx => ?_)
  refine Z190 ?_;refine R.fin [0, 93, 94, 95, 96] ?_
  refine W.condX (fun ht96 => ?_) (fun ht96 => ?_)
  ·have hlt : x < e.kids.length := by simpa using ht96
   have hst := sep_take hlt
   have hsl1 := hsl (x + 1)
   have hslx := hsl x
   refine Z197 ?_;refine Z51 ?_;refine R.alloc jZ ?_;refine Z258 ?_;refine Z260 ?_;refine R.fin [0, 6, 7, 93, 94, 95] ?_;refine Z10 ?_;refine R.gtr ?_;refine R.fin [0, 7, 93, 94, 95, 101] ?_
   refine W.cond (fun ht101 => ?_) (fun ht101 => ?_)
   ·have h0x : 0 < x := by simpa using ht101
    rw [if_pos h0x] at hst
    have hstl := congrArg List.length hst
    simp only [List.length_append, List.length_cons, List.length_nil] at hstl
    refine Z6 ?_;refine Z57 ?_
    refine R.callUp Tryz.call60 (getset ho) (by simp) low_bld (c60 (bs ++ (e.text ++ [40]) ++ (sepS ((e.kids.take x).map printE)).drop 2) [44, 32] (by simp only [tops, List.length_append, List.length_cons, List.length_nil] at *; omega) o _ (get_up (getset ho))) ?_
    refine R.fin [0, 7, 93, 94, 95] ?_;refine K.thN ?_;refine Z6 ?_;refine Z263 ?_
    first | refine R.callUp Tryz.call62 (getset ho) (by simp) low_bld (hev _ (List.getElem_mem hlt) o (bs ++ (e.text ++ [40]) ++ (sepS ((e.kids.take x).map printE)).drop 2) _ (get_up (getset ho)) (by simp only [tops, List.length_append, List.length_cons, List.length_nil] at *; omega)) ?_ | refine R.callUp Tryz.call62 (getset (getset ho)) (by simp) low_bld (hev _ (List.getElem_mem hlt) o (bs ++ (e.text ++ [40]) ++ (sepS ((e.kids.take x).map printE)).drop 2 ++ [44, 32]) _ (get_up (getset (getset ho))) (by simp only [tops, List.length_append, List.length_cons, List.length_nil] at *; omega)) ?_
    refine R.fin [0, 93, 94, 95] ?_;refine Z11 ?_;refine Z156 ?_;refine R.fin [0, 93, 94, 95] ?_;refine K.lpN (x + 1) hlt (by omega) ?_
    simp only [hst, set_set', List.append_assoc, List.append_nil]
    exact StCut.take (own := []) (fun _ => .refl _) (by repeat (first | exact lowF_any | refine lowF_set (by first | exact low_exprs | exact low_roE | (simp [or_imp, forall_and, oid] <;> omega)) ?_)) (by simp) (by simp)
   have h0x : ¬ 0 < x := by simpa using ht101
   rw [if_neg h0x] at hst
   have hstl := congrArg List.length hst
   simp only [List.length_append, List.length_cons, List.length_nil] at hstl
   refine Z210 ?_;refine Z263 ?_
   first | refine R.callUp Tryz.call62 (getset ho) (by simp) low_bld (hev _ (List.getElem_mem hlt) o (bs ++ (e.text ++ [40]) ++ (sepS ((e.kids.take x).map printE)).drop 2) _ (get_up (getset ho)) (by simp only [tops, List.length_append, List.length_cons, List.length_nil] at *; omega)) ?_ | refine R.callUp Tryz.call62 (getset (getset ho)) (by simp) low_bld (hev _ (List.getElem_mem hlt) o (bs ++ (e.text ++ [40]) ++ (sepS ((e.kids.take x).map printE)).drop 2 ++ [44, 32]) _ (get_up (getset (getset ho))) (by simp only [tops, List.length_append, List.length_cons, List.length_nil] at *; omega)) ?_
   refine R.fin [0, 93, 94, 95] ?_;refine Z11 ?_;refine Z156 ?_;refine R.fin [0, 93, 94, 95] ?_;refine K.lpN (x + 1) hlt (by omega) ?_
   simp only [hst, set_set', List.append_assoc, List.append_nil]
   exact StCut.take (own := []) (fun _ => .refl _) (by repeat (first | exact lowF_any | refine lowF_set (by first | exact low_exprs | exact low_roE | (simp [or_imp, forall_and, oid] <;> omega)) ?_)) (by simp) (by simp)
  have hxe : e.kids.take x = e.kids := List.take_of_length_le (by simp at ht96; omega)
  have hslx := hsl x
  refine Z53 ?_;refine Z6 ?_;refine Z57 ?_
  refine R.callUp Tryz.call60 (getset ho) (by simp) low_bld (c60 (bs ++ (e.text ++ [40]) ++ (sepS ((e.kids.take x).map printE)).drop 2) [41] (by simp only [tops, List.length_append, List.length_cons, List.length_nil] at *; omega) o _ (get_up (getset ho))) ?_
  refine R.fin [] ?_;refine K.blN ?_;exact K.finN .nores ⟨rfl, by rw [pe, hxe] <;> simp⟩
 exfalso
 have h6 := kall
 simp at ht12 ht21 ht29 ht41 ht53 ht83
 omega

set_option maxRecDepth 8000
/-! How long a print is. -/
theorem printM_len {v : Val} (hp : plainM v = true) (hi : i64R v.n) : (printM v).length ≤ 402 := by
 unfold printM
 rw [hp]
 simp only [Bool.not_true, Bool.false_eq_true, if_false]
 split
 ·have := Lib.itoa_length_le v.n hi.1 hi.2
  omega
 split
 ·rename_i h1 h2
  rw [replace_dbl]
  have h3 := dblM_len v.s
  have h4 : v.s.length ≤ 200 := by
   have k2 : v.kind = 2 := by simpa using h2
   simp [plainM, k2] at hp
   omega
  simp
  omega
 split
 ·simp
 split <;> simp
theorem brk_len (k : Nat) (x : Expr) (s : Str) : (brkS k x s).length ≤ s.length + 2 := by
 unfold brkS
 split <;> simp
theorem mark_len {t : Str} (h : 0 ≤ levelM t) : t.length ≤ 3 := by
 rcases level_cases t with hm | ⟨hm, _⟩
 ·have h3 : (levels.flatten.all fun s => decide (s.length ≤ 3)) = true := by kernel_rfl
  exact of_decide_eq_true (List.all_eq_true.1 h3 t hm)
 omega
theorem arityT_len {t : Str} {n : Nat} (h : arityM t = (n : Int)) : t.length ≤ 6 := by
 rcases call_names h with ⟨e, _⟩ | ⟨e, _⟩ | ⟨e, _⟩ | ⟨e, _⟩ | ⟨e, _⟩ | ⟨e, _⟩ | ⟨e, _⟩ | ⟨e, _⟩ <;> rw [e] <;> decide
theorem sepS_len {k : List Expr} (h : ∀ y ∈ k, (printE y).length + 10 ≤ 440 * sizeE y) : (sepS (k.map printE)).length ≤ 440 * sizeL k := by
 induction k with
 | nil => simp [sepS]
 | cons y r ih =>
  have h1 := h y List.mem_cons_self
  have h2 := ih (fun z hz => h z (List.mem_cons_of_mem _ hz))
  simp only [List.map_cons, sepS, sizeL, List.length_cons, List.length_append]
  omega
theorem print_len : ∀ (n : Nat) (e : Expr), sizeE e ≤ n → allE nodeM e = true → allE rngN e = true → (printE e).length + 10 ≤ 440 * sizeE e
 | 0, e, h, _, _ => by rw [sizeE_eq] at h; omega
 | n + 1, e, h, hn, hr => by
  rw [allE_eq, Bool.and_eq_true] at hn hr
  have hk : ∀ y ∈ e.kids, (printE y).length + 10 ≤ 440 * sizeE y := fun y hy => by
   obtain ⟨i, hi⟩ := List.getElem?_of_mem hy
   obtain ⟨hlt, rfl⟩ := List.getElem?_eq_some_iff.1 hi
   exact print_len n _ (by have := size_kid e hlt; omega) ((allL_iff _ _).1 hn.2 _ hy) ((allL_iff _ _).1 hr.2 _ hy)
  have hi : i64R e.val.n := by
   have := hr.1
   simp only [rngN, Bool.and_eq_true, decide_eq_true_eq] at this
   exact this
  rw [sizeE_eq]
  cases node_cases hn.1 with
  | val v hp h0 =>
   rw [pr_val]
   have := printM_len hp (v := v) hi
   simp only [valX, Expr.kids, sizeL]
   omega
  | name t ht =>
   rw [pr_name]
   have : t.length ≤ 16 := by
    cases t with
    | nil => simp
    | cons c r =>
     simp only [nameM, Bool.and_eq_true, decide_eq_true_eq] at ht
     exact ht.1.1.1
   simp only [nameE, Expr.kids, sizeL]
   omega
  | neg a =>
   rw [pr_neg]
   have h1 := brk_len 6 a (printE a)
   have h2 := hk a (by simp [oneX, Expr.kids])
   simp only [oneX, Expr.kids, sizeL, List.length_cons]
   omega
  | no a =>
   rw [pr_no]
   have h1 := brk_len 2 a (printE a)
   have h2 := hk a (by simp [oneX, Expr.kids])
   simp only [oneX, Expr.kids, sizeL, List.length_cons, List.length_append, notW, List.length_nil]
   omega
  | bin t a b ht =>
   rw [pr_bin]
   have h1 := brk_len (firstL (levelM t).toNat) a (printE a)
   have h2 := brk_len ((levelM t).toNat + 1) b (printE b)
   have h3 := hk a (by simp [binX, Expr.kids])
   have h4 := hk b (by simp [binX, Expr.kids])
   have h5 := mark_len ht
   simp only [binX, Expr.kids, sizeL, List.length_cons, List.length_append]
   omega
  | call t k ha =>
   rw [pr_call]
   have h1 := arityT_len ha
   have h2 := sepS_len (k := k) hk
   rw [← printL_map] at h2
   simp only [Expr.kids, List.length_cons, List.length_append, List.length_drop, List.length_nil]
   omega
theorem print_short {e : Expr} (hr : refRightM e = true) (hg : allE rngN e = true) : (printE e).length ≤ 132000 := by
 have h1 := right_node hr
 have h2 : sizeE e ≤ 300 := by
  unfold refRightM at hr
  simp only [Bool.and_eq_true, decide_eq_true_eq] at hr
  exact hr.1.2
 have := print_len _ e (Nat.le_refl _) h1 hg
 omega
set_option maxRecDepth 4000
/-- A number's two halves. -/
abbrev wideC (a : Int) : List AV := [boolA (decide (a < 0)), u64A ((sizeI a).tmod 4294967296), u64A (IntKind.u64.wrap ((sizeI a).tdiv 4294967296)), u64A 0, u64A 0, u64A 0]
theorem size_abs {a : Int} (h : i64R a) : sizeI a = (a.natAbs : Int) := by
 obtain ⟨h1, h2⟩ := h
 unfold sizeI
 simp only [IntKind.wrap_u64]
 split
 ·rename_i h3
  simp only [decide_eq_true_eq] at h3
  omega
 rename_i h3
 simp only [decide_eq_true_eq] at h3
 omega
theorem halves {u : Int} (h : 0 ≤ u) (h2 : u < 18446744073709551616) : IntKind.u64.wrap (IntKind.u64.wrap (IntKind.u64.wrap (u.tdiv 4294967296) * 4294967296) + u.tmod 4294967296) = u := by
 simp only [IntKind.wrap_u64]
 rw [Int.tdiv_eq_ediv_of_nonneg h, Int.tmod_eq_emod_of_nonneg h]
 omega
/-- How far the digits have come. -/
def DG (n : Nat) (x : Nat × Str) : Prop := (x.1 = n ∧ x.2 = []) ∨ (x.2 ≠ [] ∧ (if x.1 = 0 then [] else Lib.decDigits x.1) ++ x.2 = Lib.decDigits n)
theorem DG.step {n : Nat} {x : Nat × Str} (h : DG n x) (hc : 0 < x.1 ∨ x.2 = []) : DG n (x.1 / 10, UInt8.ofNat (48 + x.1 % 10) :: x.2) := by
 obtain ⟨u, s⟩ := x
 refine .inr ⟨by simp, ?_⟩
 simp only at *
 have key : (if u / 10 = 0 then [] else Lib.decDigits (u / 10)) ++ [UInt8.ofNat (48 + u % 10)] = Lib.decDigits u := by
  rw [Lib.decDigits.eq_1 u]
  by_cases h10 : u < 10
  ·rw [dif_pos h10, if_pos (by omega), Nat.mod_eq_of_lt h10]; rfl
  rw [dif_neg h10, if_neg (by omega)]
 rw [show UInt8.ofNat (48 + u % 10) :: s = [UInt8.ofNat (48 + u % 10)] ++ s from rfl, ← List.append_assoc, key]
 rcases h with ⟨h1, h2⟩ | ⟨h1, h2⟩
 ·simp only at h1 h2
  rw [h1, h2, List.append_nil]
 simp only at h1 h2
 rw [← h2, if_neg (by rcases hc with hc | hc; omega; exact absurd hc h1)]
theorem DG.done {n : Nat} {x : Nat × Str} (h : DG n x) (h1 : ¬ 0 < x.1) (h2 : x.2 ≠ []) : x.2 = Lib.decDigits n := by
 rcases h with ⟨_, h⟩ | ⟨_, h⟩
 ·exact absurd h h2
 rw [if_pos (by omega)] at h
 simpa using h
theorem DG.len {n : Nat} {x : Nat × Str} (h : DG n x) (hn : n ≤ 9223372036854775808) : x.2.length ≤ 21 := by
 have h2 : (Lib.decDigits n).length ≤ 21 := by
  have := Lib.itoa_length_le (-(n : Int)) (by omega) (by omega)
  unfold Lib.itoa at this
  split at this
  ·have e : (-(n : Int)).natAbs = n := by omega
   rw [e] at this
   simp at this
   omega
  have : n = 0 := by omega
  rw [this]
  rw [Lib.decDigits_one (by omega)]
  simp
 rcases h with ⟨_, h⟩ | ⟨_, h⟩
 ·rw [h]; simp
 have := congrArg List.length h
 rw [List.length_append] at this
 omega
theorem DG.le {n : Nat} {x : Nat × Str} (h : x.1 ≤ n) : x.1 / 10 ≤ n := by omega
theorem dig8 (u : Nat) : IntKind.u8.wrap (48 + IntKind.u8.wrap ((u : Int).tmod 10)) = ((UInt8.ofNat (48 + u % 10)).toNat : Int) := by
 rw [Int.tmod_eq_emod_of_nonneg (by omega)]
 simp [IntKind.wrap, IntKind.bits, IntKind.signed, UInt8.toNat_ofNat']
theorem quo10 {u n : Nat} (h : u ≤ n) (hn : n ≤ 9223372036854775808) : IntKind.u64.wrap ((u : Int).tdiv 10) = ((u / 10 : Nat) : Int) := by
 rw [Int.tdiv_eq_ediv_of_nonneg (by omega), IntKind.wrap_u64]
 omega
theorem itoa_abs (a : Int) : Lib.itoa a = if decide (a < 0) then 45 :: Lib.decDigits a.natAbs else Lib.decDigits a.natAbs := by
 unfold Lib.itoa
 by_cases h : a < 0
 ·simp [h]
 have : a.toNat = a.natAbs := by omega
 simp [h, this]
theorem c55 (a : Int) (Hp : List AObj) : AFun Tryz.prog 55 [intA a] Hp (.agg (wideC a)) := by
 refine ACall.body [.cell 2 84] [0] Tryz.func55 Tryz.ntmps55 (fun d => ?_)
 refine Z71 ?_;refine Z0 ?_;refine R.lss ?_;refine R.build (places := #[(0, 1), (1, 5)]) jU (fun w => by simp) jZ ?_;refine Z20 ?_;refine Z162 ?_;refine R.iconv jU jU ?_;refine Z258 ?_;refine R.fin [0, 2, 3, 4] ?_;refine Z10 ?_;refine R.lss ?_;refine R.fin [2, 3, 4, 11] ?_
 refine W.cond (fun ht11 => ?_) (fun ht11 => ?_)
 ·have hm : sizeI a = IntKind.u64.wrap (0 - IntKind.u64.wrap a) := if_pos ht11
  refine Z6 ?_;refine R.sub ?_;refine Z258 ?_;refine R.fin [2, 3, 4] ?_;refine Z164 ?_;refine R.rem ?_;refine Z113 ?_;refine Z260 ?_;refine R.fin [2, 3, 4] ?_;refine Z0 ?_;refine R.quo ?_;refine Z114 ?_;refine Z69 ?_;refine Z36 ?_;exact Z167
 have hm : sizeI a = IntKind.u64.wrap a := if_neg (by rw [ht11]; simp)
 refine Z95 ?_;refine R.rem ?_;refine Z113 ?_;refine Z260 ?_;refine R.fin [2, 3, 4] ?_;refine Z0 ?_;refine R.quo ?_;refine Z114 ?_;refine Z69 ?_;refine Z36 ?_;exact Z167

theorem c45 (a : Int) (ha : i64R a) (Hp : List AObj) : AFun Tryz.prog 45 [intA a] Hp (strA (Lib.itoa a)) := by
 have hs := size_abs ha
 have hn : a.natAbs ≤ 9223372036854775808 := by have := ha.1; have := ha.2; omega
 have hh := halves (u := sizeI a) (by rw [hs]; omega) (by rw [hs]; omega)
 refine ACall.body [.tmp 2] [0] Tryz.func45 Tryz.ntmps45 (fun d => ?_)
 refine Z209 ?_;refine R.call Tryz.call55 (c55 a _) ?_;refine Z20 ?_;refine R.fin [3] ?_;refine Z252 ?_;refine Z114 ?_;refine Z279 ?_;refine R.mul ?_;refine Z113 ?_;refine Z279 ?_;refine R.add ?_
 rw [hh, hs]
 refine Z258 ?_;refine R.fin [3, 4] ?_;refine Z2 ?_;refine R.fin [3, 4, 5] ?_;refine W.seq ?_
 refine AW.loopC (α := Nat × Str) (fun x => ⟨37, setF 3 (.ptr (oid Hp.length 0) 0) (setF 4 (u64A (x.1 : Nat)) (setF 5 (strA x.2) (fun _ => .any))), Hp, [.cells 84 (wideC a)], [], none⟩) (fun x => x.1 ≤ a.natAbs ∧ DG a.natAbs x) (fun x => 2 * x.1 + (if x.2 = [] then 1 else 0)) ((a.natAbs, [])) ⟨Nat.le_refl _, .inl ⟨rfl, rfl⟩⟩ (StLe.of_eq (by simp)) rfl (fun x hx => ?_)
 refine Z10 ?_;refine R.gtr ?_;refine Z18 ?_;refine G.seql ?_;refine Z253 ?_;refine R.fin [3, 4, 5, 21] ?_
 refine W.cond (fun ht21 => ?_) (fun ht21 => ?_)
 ·have hc : 0 < x.1 ∨ x.2 = [] := by
   have h := ht21
   simp only [Bool.or_eq_true, decide_eq_true_eq, beq_iff_eq] at h
   rcases h with h | h
   ·exact .inl (by omega)
   exact .inr h
  have hl21 := hx.2.len hn
  refine Z246 ?_;refine Z0 ?_;refine R.rem ?_;refine R.iconv jU jU ?_;refine R.add ?_;refine R.buildSl jU jS jZ ?_
  rw [dig8]
  refine R.bytesStr [UInt8.ofNat (48 + x.1 % 10)] jU jU jU ?_;refine Z257 ?_
  refine R.sadd (hl := by simp only [List.length_cons, List.length_nil]; omega) ?_
  refine Z258 ?_;refine R.fin [3, 4, 5] ?_;refine Z6 ?_;refine R.quo ?_
  rw [quo10 hx.1 hn]
  refine Z258 ?_;refine R.fin [3, 4, 5] ?_;refine K.blN ?_
  refine K.lpN (x.1 / 10, UInt8.ofNat (48 + x.1 % 10) :: x.2) ⟨DG.le hx.1, hx.2.step hc⟩ (by rw [if_neg (by simp)]; rcases hc with h | h; omega; rw [if_pos h]; omega) (StCut.of_eq rfl)
 have hl21 := hx.2.len hn
 have hD : x.2 = Lib.decDigits a.natAbs := by
  have h := ht21
  simp only [Bool.or_eq_false_iff, decide_eq_false_iff_not, beq_eq_false_iff_ne] at h
  exact hx.2.done (by omega) h.2
 refine Z87 ?_;refine Z16 ?_;refine R.fieldAddrPtr (fo := 0) jU Tryz.sizeOf4 ?_;refine Z279 ?_;refine R.fin [5, 33] ?_
 refine W.cond (fun ht33 => ?_) (fun ht33 => ?_)
 ·have hm := itoa_abs a
  rw [if_pos ht33] at hm
  refine Z6 ?_
  refine R.sadd (hl := by simp only [List.length_cons, List.length_nil]; omega) ?_
  refine Z258 ?_;refine R.fin [5] ?_;refine Z164 ?_;exact Z208
 have hm := itoa_abs a
 rw [if_neg (by rw [ht33]; simp)] at hm
 refine Z95 ?_;exact Z208

theorem plain_text {v : Val} (hp : plainM v = true) (h0 : (v.kind == 0) = false) (h1 : (v.kind == 1) = false) (h3 : (v.kind == 3) = false) : v = ⟨2, 0, v.s⟩ ∧ v.s.length ≤ 200 := by
 obtain ⟨k, n, s⟩ := v
 simp only [plainM] at *
 rw [h0, h1] at hp
 simp only [Bool.false_eq_true, if_false] at hp
 split at hp
 ·rename_i h2
  simp only [Bool.and_eq_true, beq_iff_eq, decide_eq_true_eq] at hp h2
  refine ⟨?_, by omega⟩
  rw [h2, hp.1]
 rw [h3] at hp
 simp at hp
theorem print_text (s : Str) (h : s.length ≤ 200) : printM ⟨2, 0, s⟩ = [39] ++ dblM s ++ [39] := by
 have : plainM ⟨2, 0, s⟩ = true := by simp [plainM]; omega
 unfold printM
 rw [this, ← replace_dbl]
 rfl
theorem c34v (v : Val) (hp : plainM v = true) (hi : i64R v.n) (Hp : List AObj) : AFun Tryz.prog 75 [valA v] Hp (strA (printM v)) := by
 by_cases hk : ((v.kind == 0) = false ∧ (v.kind == 1) = false) ∧ (v.kind == 3) = false
 ·obtain ⟨e, hl⟩ := plain_text hp hk.1.1 hk.1.2 hk.2
  rw [e, print_text _ hl]
  exact c75 v.s (by omega) Hp
 refine ACall.body [.tmp 2] [0] Tryz.func75 Tryz.ntmps75 (fun d => ?_)
 refine Z70 ?_;refine Z158 ?_;refine R.fin [1, 6] ?_;refine Z145 ?_;refine R.fin [1, 6, 7] ?_
 refine W.cond (fun ht7 => ?_) (fun ht7 => ?_)
 ·have h0 : v.kind = 0 := by simpa using ht7
  refine Z12 ?_;exact Z93
 refine Z29 ?_;refine R.fin [1, 6, 9] ?_
 refine W.cond (fun ht9 => ?_) (fun ht9 => ?_)
 ·have h1 : v.kind = 1 := by simpa using ht9
  refine Z252 ?_;refine Z124 ?_;refine R.call Tryz.call45 (c45 v.n hi _) ?_;refine Z9 ?_;exact Z93
 refine Z29 ?_;refine R.fin [1, 14] ?_
 refine W.cond (fun ht14 => ?_) (fun ht14 => ?_)
 ·have h3 : v.kind = 3 := by simpa using ht14
  refine Z16 ?_;refine Z124 ?_;refine R.eql ?_;refine R.fin [18] ?_
  refine W.cond (fun ht18 => ?_) (fun ht18 => ?_)
  ·refine Z12 ?_;refine K.thR ?_;exact Z93
  refine Z3 ?_;refine Z12 ?_;exact Z93
 exfalso
 simp at hk ht7 ht9 ht14
 exact ht14 (hk ht7 ht9)

theorem brk3 {k : Expr} : ((k.op == 4) || (k.op == 5)) = !(decide (6 ≤ levE k)) := by
 have h5 := level_le k.text
 unfold levE
 by_cases h4 : (k.op == 4) = true
 ·simp [h4]
 by_cases h3 : (k.op == 3) = true
 ·have : k.op = 3 := by simpa using h3
  simp [this]
 by_cases h6 : (k.op == 5) = true
 ·have : k.op = 5 := by simpa using h6
  simp [this]
  omega
 simp [h3, h4, h6]
theorem lev_or {t : Str} (h : 0 ≤ levelM t) : ((t == [111, 114]) || (t == [97, 110, 100])) = !(decide (2 ≤ (levelM t).toNat)) := by
 rcases level_cases t with hm | ⟨hm, _⟩
 ·have h3 : (levels.flatten.all fun t => ((t == [111, 114]) || (t == [97, 110, 100])) == !(decide (2 ≤ (levelM t).toNat))) = true := by kernel_rfl
  simpa using List.all_eq_true.1 h3 t hm
 omega
theorem brk4 {k : Expr} (hn : nodeM k = true) : ((k.op == 5) && ((k.text == [111, 114]) || (k.text == [97, 110, 100]))) = !(decide (2 ≤ levE k)) := by
 unfold levE
 by_cases h4 : (k.op == 4) = true
 ·have : k.op = 4 := by simpa using h4
  simp [this]
 by_cases h3 : (k.op == 3) = true
 ·have : k.op = 3 := by simpa using h3
  simp [this]
 by_cases h6 : (k.op == 5) = true
 ·have h5 : k.op = 5 := by simpa using h6
  have hb : 0 ≤ levelM k.text := by
   rw [node_one] at hn
   unfold nodeOneM at hn
   simp [h5] at hn
   exact hn.2.1
  rw [h6, lev_or hb]
  simp [h5]
 simp [h3, h4, h6]
/-- What the chapter's print of a tree says. -/
def Refs (e : Expr) : Prop := ∀ Hp : List AObj, AFun Tryz.prog 44 [exprA e] Hp (strA (printE e))
theorem brkS_y {k : Nat} {x : Expr} {s : Str} (h : k ≤ levE x) : brkS k x s = s := if_pos h
theorem brkS_n {k : Nat} {x : Expr} {s : Str} (h : ¬ k ≤ levE x) : brkS k x s = 40 :: (s ++ [41]) := if_neg h
theorem c44 : ∀ (n : Nat) (e : Expr), okE n e → sizeE e ≤ 1048576 → allE nodeM e = true → allE rngN e = true → Refs e := by
 intro n
 induction n with
 | zero => exact fun e h => h.elim
 | succ n ih =>
 intro e hok hsz hnd hrg Hp
 have hlen := print_len _ e (Nat.le_refl _) hnd hrg
 have hnd0 := hnd
 have hrg0 := hrg
 rw [allE_eq, Bool.and_eq_true] at hnd0 hrg0
 have hkn : ∀ y ∈ e.kids, allE nodeM y = true := fun y hy => (allL_iff _ _).1 hnd0.2 y hy
 have hky : ∀ y ∈ e.kids, sizeE y ≤ 1048576 := fun y hy => by
  obtain ⟨i, hi⟩ := List.getElem?_of_mem hy
  obtain ⟨hlt, rfl⟩ := List.getElem?_eq_some_iff.1 hi
  have := size_kid e hlt
  omega
 have hev : ∀ y ∈ e.kids, Refs y := fun y hy => ih y (hok.2.2 y hy) (hky y hy) (hkn y hy) ((allL_iff _ _).1 hrg0.2 y hy)
 have hnn : ∀ y ∈ e.kids, nodeM y = true := fun y hy => by have := hkn y hy; rw [allE_eq, Bool.and_eq_true] at this; exact this.1
 have hlv : ∀ y ∈ e.kids, levI y = (levE y : Int) := fun y hy => levI_eq (hnn y hy)
 obtain ⟨k5, k34, k6, kall⟩ := kids_len hnd0.1
 have hi64 : i64R e.val.n := by
  have := hrg0.1
  simp only [rngN, Bool.and_eq_true, decide_eq_true_eq] at this
  exact this
 have hlv0 := levI_eq hnd0.1
 have pe := printE_eq e
 unfold nodeS at pe
 refine ACall.body [.tmp 2] [0] Tryz.func44 Tryz.ntmps44 (fun d => ?_)
 refine Z70 ?_;refine Z158 ?_;refine R.fin [1, 13] ?_;refine Z145 ?_;refine R.fin [1, 13, 14] ?_
 refine W.cond (fun ht14 => ?_) (fun ht14 => ?_)
 ·rw [if_pos ht14] at pe
  have hpl : plainM e.val = true := by
   have h := hnd0.1
   rw [node_one] at h
   unfold nodeOneM at h
   rw [if_pos ht14] at h
   simp only [Bool.and_eq_true] at h
   exact h.1.1.1
  refine Z252 ?_;refine Z82 ?_;refine R.call Tryz.call75 (c34v e.val hpl hi64 _) ?_;exact Z129
 rw [if_neg (by rw [ht14]; simp)] at pe
 refine Z29 ?_;refine R.fin [1, 13, 19] ?_
 refine W.cond (fun ht19 => ?_) (fun ht19 => ?_)
 ·rw [if_pos ht19] at pe
  refine Z84 ?_;exact Z129
 rw [if_neg (by rw [ht19]; simp)] at pe
 refine Z29 ?_;refine R.fin [1, 13, 23] ?_
 refine W.cond (fun ht23 => ?_) (fun ht23 => ?_)
 ·rw [if_pos ht23] at pe
  have hkl := k34 (.inl (by simpa using ht23))
  rw [kidP (by omega)] at pe
  rw [pe] at hlen
  simp only [List.length_cons] at hlen
  have hm3 := hnn _ (kidD (k := e.kids) (i := 0) (by omega)).2.1
  refine Z252 ?_;refine Z38 ?_;refine Z218 ?_;refine Z232 ?_;refine Z16 ?_;refine Z38 ?_;refine Z8 ?_;refine Z98 ?_;refine Z115 ?_;refine Z127 ?_;refine G.eql ?_;refine Z253 ?_;refine R.fin [3, 43] ?_
  refine W.cond (fun ht43 => ?_) (fun ht43 => ?_)
  ·have hbk : ¬ 6 ≤ levE (e.kids.getD 0 nullX) := by
    have h := ht43
    rw [brk3] at h
    simpa using h
   rw [brkS_n hbk] at pe hlen
   simp only [List.length_append, List.length_cons, List.length_nil] at hlen
   refine Z6 ?_
   refine R.sadd (hl := by simp only [List.length_append, List.length_cons, List.length_nil, List.length_drop] at *; omega) ?_
   refine R.sadd (hl := by simp only [List.length_append, List.length_cons, List.length_nil, List.length_drop] at *; omega) ?_
   refine Z258 ?_;refine R.fin [3] ?_;refine Z164 ?_
   refine R.sadd (hl := by simp only [List.length_append, List.length_cons, List.length_nil, List.length_drop] at *; omega) ?_
   exact Z129
  have hbk : 6 ≤ levE (e.kids.getD 0 nullX) := by
   have h := ht43
   rw [brk3] at h
   simpa using h
  rw [brkS_y hbk] at pe hlen
  refine Z95 ?_
  refine R.sadd (hl := by simp only [List.length_append, List.length_cons, List.length_nil, List.length_drop] at *; omega) ?_
  exact Z129
 rw [if_neg (by rw [ht23]; simp)] at pe
 refine Z29 ?_;refine R.fin [1, 13, 49] ?_
 refine W.cond (fun ht49 => ?_) (fun ht49 => ?_)
 ·rw [if_pos ht49] at pe
  have hkl := k34 (.inr (by simpa using ht49))
  rw [kidP (by omega)] at pe
  rw [pe] at hlen
  simp only [List.length_cons, List.length_append, notW, List.length_nil] at hlen
  have hm3 := hnn _ (kidD (k := e.kids) (i := 0) (by omega)).2.1
  refine Z252 ?_;refine Z38 ?_;refine Z218 ?_;refine Z258 ?_;refine R.fin [1, 4] ?_;refine Z16 ?_;refine Z38 ?_;refine Z8 ?_;refine Z98 ?_;refine Z115 ?_;refine Z179 ?_;refine G.move ?_;refine Z115 ?_;refine Z179 ?_;refine G.pickOr ?_;refine R.pickAnd ?_;refine R.fin [4, 77] ?_
  refine W.cond (fun ht77 => ?_) (fun ht77 => ?_)
  ·have hbk : ¬ 2 ≤ levE (e.kids.getD 0 nullX) := by
    have h := ht77
    rw [brk4 hm3] at h
    simpa using h
   rw [brkS_n hbk] at pe hlen
   simp only [List.length_append, List.length_cons, List.length_nil] at hlen
   refine Z6 ?_
   refine R.sadd (hl := by simp only [List.length_append, List.length_cons, List.length_nil, List.length_drop] at *; omega) ?_
   refine R.sadd (hl := by simp only [List.length_append, List.length_cons, List.length_nil, List.length_drop] at *; omega) ?_
   refine Z258 ?_;refine R.fin [4] ?_;refine Z164 ?_
   refine R.sadd (hl := by simp only [List.length_append, List.length_cons, List.length_nil, List.length_drop] at *; omega) ?_
   exact Z129
  have hbk : 2 ≤ levE (e.kids.getD 0 nullX) := by
   have h := ht77
   rw [brk4 hm3] at h
   simpa using h
  rw [brkS_y hbk] at pe hlen
  refine Z95 ?_
  refine R.sadd (hl := by simp only [List.length_append, List.length_cons, List.length_nil, List.length_drop] at *; omega) ?_
  exact Z129
 rw [if_neg (by rw [ht49]; simp)] at pe
 refine Z29 ?_;refine R.fin [1, 83] ?_
 refine W.cond (fun ht83 => ?_) (fun ht83 => ?_)
 ·rw [if_pos ht83] at pe
  have h5 : e.op = 5 := by simpa using ht83
  have hkl := k5 h5
  have hlv5 : levE e = (levelM e.text).toNat := by simp [levE, h5]
  have hl5 := level_le e.text
  rw [kidP (by omega), kidP (by omega)] at pe
  rw [← hlv5] at pe
  rw [pe] at hlen
  simp only [List.length_cons, List.length_append] at hlen
  have hla := hlv _ (kidD (k := e.kids) (i := 0) (by omega)).2.1
  have hlb := hlv _ (kidD (k := e.kids) (i := 1) (by omega)).2.1
  refine W.draw [0, 1, 0, 4, 12, 28, 63, 0, 128, 384, 896, 2047, 4095, 8191, 16383] 11 Tryzmixed (by kernel_rfl) ?_;refine D.loadRoN jA jS ?_;refine D.call Tryz.call76 (c76 e _) ?_;refine Z73 ?_;refine Z216 ?_;refine D.call Tryz.call76 (c76 (e.kids.getD 0 nullX) _) ?_;refine Z73 ?_;refine Z217 ?_;refine D.tail ?_;refine R.call Tryz.call76 (c76 (e.kids.getD 1 nullX) _) ?_;refine Z88 ?_;refine R.fin [1, 5, 6, 7] ?_;refine W.draw [0, 1, 3, 7, 15, 0, 32, 96, 224, 511, 1023, 2047] 9 Tryzmixed (by kernel_rfl) ?_;refine Z73 ?_;refine Z216 ?_;refine D.call Tryz.call44 (hev (e.kids.getD 0 nullX) (kidD (by omega)).2.1 _) ?_;refine Z73 ?_;refine Z217 ?_;refine D.tail ?_;refine R.call Tryz.call44 (hev (e.kids.getD 1 nullX) (kidD (by omega)).2.1 _) ?_;refine Z13 ?_;refine R.fin [1, 5, 6, 7, 8, 9] ?_;refine Z120 ?_;refine R.lss ?_;refine Z18 ?_;refine Z198 ?_;refine G.move ?_;refine G.eql ?_
  refine G.pickAnd ?_;refine Z253 ?_;refine R.fin [1, 5, 7, 8, 9, 117] ?_
  refine W.cond (fun ht117 => ?_) (fun ht117 => ?_)
  ·have hbk : ¬ firstL (levE e) ≤ levE (e.kids.getD 0 nullX) := by
    have h := ht117
    rw [hlv0, hla] at h
    simp only [Bool.or_eq_true, Bool.and_eq_true, decide_eq_true_eq, beq_iff_eq] at h
    unfold firstL
    split <;> omega
   rw [brkS_n hbk] at pe hlen
   simp only [List.length_append, List.length_cons, List.length_nil] at hlen
   refine Z6 ?_
   refine R.sadd (hl := by simp only [List.length_append, List.length_cons, List.length_nil, List.length_drop] at *; omega) ?_
   refine R.sadd (hl := by simp only [List.length_append, List.length_cons, List.length_nil, List.length_drop] at *; omega) ?_
   refine Z258 ?_;refine R.fin [1, 5, 7, 8, 9] ?_;refine K.thN ?_;refine Z120 ?_;refine R.leq ?_;refine R.fin [1, 8, 9, 123] ?_
   refine W.cond (fun ht123 => ?_) (fun ht123 => ?_)
   ·have hbk2 : ¬ levE e + 1 ≤ levE (e.kids.getD 1 nullX) := by
     have h := ht123
     rw [hlv0, hlb] at h
     simp only [decide_eq_true_eq] at h
     omega
    rw [brkS_n hbk2] at pe hlen
    simp only [List.length_append, List.length_cons, List.length_nil] at hlen
    refine Z6 ?_
    refine R.sadd (hl := by simp only [List.length_append, List.length_cons, List.length_nil, List.length_drop] at *; omega) ?_
    refine R.sadd (hl := by simp only [List.length_append, List.length_cons, List.length_nil, List.length_drop] at *; omega) ?_
    refine Z258 ?_;refine R.fin [1, 8, 9] ?_;refine Z164 ?_
    refine R.sadd (hl := by simp only [List.length_append, List.length_cons, List.length_nil, List.length_drop] at *; omega) ?_
    refine Z15 ?_
    refine R.sadd (hl := by simp only [List.length_append, List.length_cons, List.length_nil, List.length_drop] at *; omega) ?_
    refine R.sadd (hl := by simp only [List.length_append, List.length_cons, List.length_nil, List.length_drop] at *; omega) ?_
    refine Z257 ?_
    refine R.sadd (hl := by simp only [List.length_append, List.length_cons, List.length_nil, List.length_drop] at *; omega) ?_
    exact Z129
   have hbk2 : levE e + 1 ≤ levE (e.kids.getD 1 nullX) := by
    have h := ht123
    rw [hlv0, hlb] at h
    simp only [decide_eq_false_iff_not] at h
    omega
   rw [brkS_y hbk2] at pe hlen
   refine Z95 ?_
   refine R.sadd (hl := by simp only [List.length_append, List.length_cons, List.length_nil, List.length_drop] at *; omega) ?_
   refine Z15 ?_
   refine R.sadd (hl := by simp only [List.length_append, List.length_cons, List.length_nil, List.length_drop] at *; omega) ?_
   refine R.sadd (hl := by simp only [List.length_append, List.length_cons, List.length_nil, List.length_drop] at *; omega) ?_
   refine Z257 ?_
   refine R.sadd (hl := by simp only [List.length_append, List.length_cons, List.length_nil, List.length_drop] at *; omega) ?_
   exact Z129
  have hbk : firstL (levE e) ≤ levE (e.kids.getD 0 nullX) := by
   have h := ht117
   rw [hlv0, hla] at h
   simp only [Bool.or_eq_false_iff, Bool.and_eq_false_iff, decide_eq_false_iff_not, beq_eq_false_iff_ne] at h
   unfold firstL
   split <;> omega
  rw [brkS_y hbk] at pe hlen
  refine Z3 ?_;refine Z120 ?_;refine R.leq ?_;refine R.fin [1, 8, 9, 123] ?_
  refine W.cond (fun ht123 => ?_) (fun ht123 => ?_)
  ·have hbk2 : ¬ levE e + 1 ≤ levE (e.kids.getD 1 nullX) := by
    have h := ht123
    rw [hlv0, hlb] at h
    simp only [decide_eq_true_eq] at h
    omega
   rw [brkS_n hbk2] at pe hlen
   simp only [List.length_append, List.length_cons, List.length_nil] at hlen
   refine Z6 ?_
   refine R.sadd (hl := by simp only [List.length_append, List.length_cons, List.length_nil, List.length_drop] at *; omega) ?_
   refine R.sadd (hl := by simp only [List.length_append, List.length_cons, List.length_nil, List.length_drop] at *; omega) ?_
   refine Z258 ?_;refine R.fin [1, 8, 9] ?_;refine Z164 ?_
   refine R.sadd (hl := by simp only [List.length_append, List.length_cons, List.length_nil, List.length_drop] at *; omega) ?_
   refine Z15 ?_
   refine R.sadd (hl := by simp only [List.length_append, List.length_cons, List.length_nil, List.length_drop] at *; omega) ?_
   refine R.sadd (hl := by simp only [List.length_append, List.length_cons, List.length_nil, List.length_drop] at *; omega) ?_
   refine Z257 ?_
   refine R.sadd (hl := by simp only [List.length_append, List.length_cons, List.length_nil, List.length_drop] at *; omega) ?_
   exact Z129
  have hbk2 : levE e + 1 ≤ levE (e.kids.getD 1 nullX) := by
   have h := ht123
   rw [hlv0, hlb] at h
   simp only [decide_eq_false_iff_not] at h
   omega
  rw [brkS_y hbk2] at pe hlen
  refine Z95 ?_
  refine R.sadd (hl := by simp only [List.length_append, List.length_cons, List.length_nil, List.length_drop] at *; omega) ?_
  refine Z15 ?_
  refine R.sadd (hl := by simp only [List.length_append, List.length_cons, List.length_nil, List.length_drop] at *; omega) ?_
  refine R.sadd (hl := by simp only [List.length_append, List.length_cons, List.length_nil, List.length_drop] at *; omega) ?_
  refine Z257 ?_
  refine R.sadd (hl := by simp only [List.length_append, List.length_cons, List.length_nil, List.length_drop] at *; omega) ?_
  exact Z129
 rw [if_neg (by rw [ht83]; simp)] at pe
 have hsl : ∀ x, ((sepS ((e.kids.take x).map printE)).drop 2).length ≤ ((sepS (e.kids.map printE)).drop 2).length := fun x => by have := sep_le (k := e.kids) x; rw [List.length_drop, List.length_drop]; omega
 have hkl6 := hok.2.1
 rw [pe] at hlen
 simp only [List.length_cons, List.length_append, List.length_nil] at hlen
 refine Z22 ?_;refine Z84 ?_
 refine R.sadd (hl := by simp only [List.length_append, List.length_cons, List.length_nil, List.length_drop] at *; omega) ?_
 refine Z258 ?_;refine R.fin [1, 10] ?_;refine Z106 ?_;refine R.fin [1, 10, 11] ?_
 refine AW.loopC (α := Nat) (fun x => ⟨159, setF 1 (.ro (exprC e)) (setF 10 (strA (e.text ++ [40] ++ (sepS ((e.kids.take x).map printE)).drop 2)) (setF 11 (intA (x : Nat)) (fun _ => .any))), Hp, [], [], none⟩) (fun x => x ≤ e.kids.length) (fun x => e.kids.length - x) (0) (Nat.zero_le _) (StLe.of_eq (by simp [sepS])) rfl (fun x hx => ?_)
 refine Z10 ?_;refine Z7 ?_;refine Z81 ?_;refine R.fin [1, 10, 11, 142] ?_
 refine W.cond (fun ht142 => ?_) (fun ht142 => ?_)
 ·have hlt : x < e.kids.length := by simpa using ht142
  have hst := sep_take hlt
  have hsl1 := hsl (x + 1)
  have hslx := hsl x
  refine Z90 ?_;refine Z10 ?_;refine R.gtr ?_;refine R.fin [1, 10, 11, 146] ?_
  refine W.cond (fun ht146 => ?_) (fun ht146 => ?_)
  ·have h0x : 0 < x := by simpa using ht146
   rw [if_pos h0x] at hst
   have hstl := congrArg List.length hst
   simp only [List.length_append, List.length_cons, List.length_nil] at hstl
   refine Z6 ?_
   refine R.sadd (hl := by simp only [List.length_append, List.length_cons, List.length_nil, List.length_drop] at *; omega) ?_
   refine Z258 ?_;refine R.fin [1, 10, 11] ?_;refine K.thN ?_;refine Z6 ?_;refine Z7 ?_;refine Z257 ?_;refine Z51 ?_;refine R.call Tryz.call44 (hev _ (List.getElem_mem hlt) _) ?_
   refine R.sadd (hl := by simp only [List.length_append, List.length_cons, List.length_nil, List.length_drop] at *; omega) ?_
   refine Z258 ?_;refine R.fin [1, 10, 11] ?_;refine Z11 ?_;refine Z74 ?_;exact Z137
  have h0x : ¬ 0 < x := by simpa using ht146
  rw [if_neg h0x] at hst
  have hstl := congrArg List.length hst
  simp only [List.length_append, List.length_cons, List.length_nil] at hstl
  refine Z210 ?_;refine Z7 ?_;refine Z257 ?_;refine Z51 ?_;refine R.call Tryz.call44 (hev _ (List.getElem_mem hlt) _) ?_
  refine R.sadd (hl := by simp only [List.length_append, List.length_cons, List.length_nil, List.length_drop] at *; omega) ?_
  refine Z258 ?_;refine R.fin [1, 10, 11] ?_;refine Z11 ?_;refine Z74 ?_;exact Z137
 have hxe : e.kids.take x = e.kids := List.take_of_length_le (by simp at ht142; omega)
 have hslx := hsl x
 refine Z87 ?_;refine Z0 ?_
 refine R.sadd (hl := by simp only [List.length_append, List.length_cons, List.length_nil, List.length_drop] at *; omega) ?_
 refine Z9 ?_;exact Z289

theorem node_sizes {e : Expr} (h : nodeM e = true) : e.text.length ≤ 16 ∧ e.kids.length ≤ 8 := by
 cases node_cases h with
 | val v hp h0 => exact ⟨by simp [valX, Expr.text], by simp [valX, Expr.kids]⟩
 | name t ht =>
  refine ⟨?_, by simp [nameE, Expr.kids]⟩
  show t.length ≤ 16
  cases t with
  | nil => simp
  | cons c r =>
   simp only [nameM, Bool.and_eq_true, decide_eq_true_eq] at ht
   exact ht.1.1.1
 | neg a => exact ⟨by simp [oneX, Expr.text], by simp [oneX, Expr.kids]⟩
 | no a => exact ⟨by simp [oneX, Expr.text], by simp [oneX, Expr.kids]⟩
 | bin t a b ht => exact ⟨by have := mark_len ht; show t.length ≤ 16; omega, by simp [binX, Expr.kids]⟩
 | call t k ha =>
  refine ⟨by have := arityT_len ha; show t.length ≤ 16; omega, ?_⟩
  show k.length ≤ 8
  rcases call_names ha with ⟨_, e⟩ | ⟨_, e⟩ | ⟨_, e⟩ | ⟨_, e⟩ | ⟨_, e⟩ | ⟨_, e⟩ | ⟨_, e⟩ | ⟨_, e⟩ <;> omega
theorem depth_mem : ∀ {l : List Expr} {y : Expr}, y ∈ l → depthE y ≤ depthL l
 | a :: r, y, h => by
  rw [depthL]
  rcases List.mem_cons.1 h with rfl | h
  ·omega
  have := depth_mem h
  omega
theorem node_ok : ∀ (n : Nat) (e : Expr), depthE e ≤ n → allE nodeM e = true → okE n e
 | 0, e, h, _ => by rw [depthE_eq] at h; omega
 | n + 1, e, h, hn => by
  rw [allE_eq, Bool.and_eq_true] at hn
  rw [depthE_eq] at h
  have hs := node_sizes hn.1
  refine ⟨by omega, by omega, fun y hy => node_ok n y (by have := depth_mem hy; omega) ((allL_iff _ _).1 hn.2 y hy)⟩
theorem right_okE {e : Expr} (h : refRightM e = true) : okE 30 e ∧ sizeE e ≤ 300 := by
 have h1 := right_node h
 unfold refRightM at h
 simp only [Bool.and_eq_true, decide_eq_true_eq] at h
 exact ⟨node_ok 30 e h.1.1 h1, h.1.2⟩
def shortM (e : Expr) (most : Int) : Str := if (showM e).2 != 0 then [63] else if decide (((showM e).1.length : Int) ≤ most) then (showM e).1 else (showM e).1.take most.toNat ++ [46, 46, 46]
theorem c32 (n : Nat) (e : Expr) (hok : okE n e) (hn : n ≤ 1048576) (hg : allE rngN e = true) (Hp : List AObj) : AFun Tryz.prog 32 [exprA e] Hp (.tup [strA (showM e).1, intA (showM e).2]) := by
 refine ACall.body [.tmp 2, .tmp 3] [0] Tryz.func32 Tryz.ntmps32 (fun d => ?_)
 refine Z25 ?_;refine Z13 ?_;refine R.fin [1] ?_;refine Z188 ?_;refine R.call Tryz.call37 (c37 n e hok hn _) ?_;refine R.not ?_;refine R.fin [1, 7] ?_
 refine W.cond (fun ht7 => ?_) (fun ht7 => ?_)
 ·have hsh : showM e = ([], 1) := if_pos ht7
  refine Z2 ?_;refine Z45 ?_;exact Z195
 have hnr : ¬ (!(exprRightM e)) = true := by rw [ht7]; simp
 have hr : refRightM e = true := by rw [← exprRight_eq]; simpa using ht7
 have hps := print_short hr hg
 refine Z3 ?_;refine Z252 ?_;refine R.build (places := #[(0, 2)]) jU (fun w => by simp) jZ ?_;refine R.box ?_;refine Z258 ?_;refine R.fin [1, 4] ?_;refine Z252 ?_;refine R.toBld 0 94 5 ?_;refine Z257 ?_;refine Z272 ?_
 refine R.callOwn (n := 0) (x := bldA (printE e)) Tryz.call62 (c62 n e hok (right_node hr) hg (oid Hp.length 0) [] _ (by rw [get_oid]; rfl) (by simp only [tops, List.length_nil]; omega)) ?_
 refine R.fin [4] ?_;refine Z10 ?_;refine Z57 ?_
 refine R.call Tryz.call63 (c63 (printE e) (oid Hp.length 0) _ (by rw [get_oid]; rfl)) ?_
 refine R.gtr ?_;refine R.fin [4, 17] ?_
 refine W.cond (fun ht17 => ?_) (fun ht17 => ?_)
 ·have hsh : showM e = ([], 3) := by unfold showM; rw [if_neg hnr, if_pos ht17]
  refine Z2 ?_;refine Z45 ?_;exact Z195
 have hsh : showM e = (printE e, 0) := by unfold showM; rw [if_neg hnr, if_neg (by rw [ht17]; simp)]
 refine Z95 ?_;refine Z57 ?_
 refine R.callOwn (n := 0) (x := .cells 94 [.any, .any]) Tryz.call61 (c61 (printE e) (oid Hp.length 0) _ (by rw [get_oid]; rfl)) ?_
 refine Z13 ?_;refine R.fin [2, 3] ?_;refine AW.ret ?_;exact Z290

def awS : Str := [40, 40, 97, 43, 98, 41, 41, 42, 99]
def awX2 : Expr := binX [42] (binX [43] (nameE [97]) (nameE [98])) (nameE [99])
def awT : Str := [40, 97, 32, 43, 32, 98, 41, 32, 42, 32, 99]
structure QW (q : Qry) : Prop where
 ok : okE 61 q.whr
 size : sizeE q.whr ≤ 1048576
 rng : allE rngN q.whr = true
 len : q.cols.length ≤ 1048576
 names : ∀ s ∈ q.cols, s.length ≤ 1048576
def noN (s : Str) : Bool := !(lexNameM s)
def cidxS (ks : List Str) : Int := if ks.any noN then (ks.findIdx noN : Int) else -1
theorem cidxS_at {ks : List Str} {i : Nat} (h : i < ks.length) (hn : noN ks[i] = true) (hp : ∀ (j : Nat) (y : Str), j < i → ks[j]? = some y → ¬ noN y = true) : (i : Int) = cidxS ks := by
 unfold cidxS
 rw [if_pos (List.any_eq_true.2 ⟨_, List.getElem_mem h, hn⟩)]
 congr 1
 refine (List.findIdx_eq h |>.2 ⟨hn, fun j hj => ?_⟩).symm
 have := hp j (ks[j]'(by omega)) hj (List.getElem?_eq_getElem (by omega))
 simpa using this
theorem cidxS_none {ks : List Str} (hp : ∀ (j : Nat) (y : Str), ks[j]? = some y → ¬ noN y = true) : (-1 : Int) = cidxS ks := by
 unfold cidxS
 rw [if_neg]
 intro h
 obtain ⟨y, hy, hn⟩ := List.any_eq_true.1 h
 obtain ⟨j, hj⟩ := List.getElem?_of_mem hy
 exact hp j y hj hn
theorem cidxS_any (ks : List Str) : decide (0 ≤ cidxS ks) = ks.any noN := by
 unfold cidxS
 cases ks.any noN <;> simp
theorem any_not {α : Type} {p : α → Bool} (l : List α) : (!(l.any fun s => !(p s))) = l.all p := by
 induction l with
 | nil => rfl
 | cons a r ih => rw [List.any_cons, List.all_cons, ← ih]; cases p a <;> simp
theorem right_0 {q : Qry} (h : ((((q.all != ((q.cols.length : Int) == 0)) || decide ((12 : Int) < (q.cols.length : Int))) || decide (q.lim < -1)) || decide ((100000 : Int) < q.lim)) = true) : rightQ q = false := if_pos h
theorem right_1 {q : Qry} (h : ((((q.all != ((q.cols.length : Int) == 0)) || decide ((12 : Int) < (q.cols.length : Int))) || decide (q.lim < -1)) || decide ((100000 : Int) < q.lim)) = false) : rightQ q = ((q.cols.all lexNameM) && (!(asksQ q) || refRightM q.whr)) := if_neg (by rw [h]; simp)
theorem right_a {q : Qry} (h : ((((q.all != ((q.cols.length : Int) == 0)) || decide ((12 : Int) < (q.cols.length : Int))) || decide (q.lim < -1)) || decide ((100000 : Int) < q.lim)) = false) : rightQ q = (!(q.cols.any noN) && (!(asksQ q) || exprRightM q.whr)) := by rw [right_1 h, ← any_not, exprRight_eq]; rfl
theorem right_b {q : Qry} (h : ((((q.all != ((q.cols.length : Int) == 0)) || decide ((12 : Int) < (q.cols.length : Int))) || decide (q.lim < -1)) || decide ((100000 : Int) < q.lim)) = false) {s : Str} (hs : s ∈ q.cols) (hn : nameM s = false) : rightQ q = false := by
 rw [right_1 h]
 have : q.cols.all lexNameM = false := by
  rw [Bool.eq_false_iff]
  intro e
  have := List.all_eq_true.1 e s hs
  rw [lexName_eq, hn] at this
  cases this
 rw [this]; rfl
theorem right_c {q : Qry} (h : ((((q.all != ((q.cols.length : Int) == 0)) || decide ((12 : Int) < (q.cols.length : Int))) || decide (q.lim < -1)) || decide ((100000 : Int) < q.lim)) = false) (hn : ∀ s ∈ q.cols, nameM s = true) : rightQ q = (!(asksQ q) || refRightM q.whr) := by
 rw [right_1 h]
 have : q.cols.all lexNameM = true := List.all_eq_true.2 fun s hs => by rw [lexName_eq]; exact hn s hs
 rw [this]; rfl
def wideQ (q : Qry) : Bool := if decide ((20 : Int) < (q.cols.length : Int)) || wideM q.whr then true else q.cols.any fun s => decide ((100 : Int) < (s.length : Int))
theorem wide_q0 {q : Qry} (h : (decide ((20 : Int) < (q.cols.length : Int)) || wideM q.whr) = true) : wideQ q = true := if_pos h
theorem wide_q1 {q : Qry} (h : (decide ((20 : Int) < (q.cols.length : Int)) || wideM q.whr) = false) {s : Str} (hs : s ∈ q.cols) (hn : decide ((100 : Int) < (s.length : Int)) = true) : wideQ q = true := by
 unfold wideQ
 rw [if_neg (by rw [h]; simp)]
 exact List.any_eq_true.2 ⟨s, hs, hn⟩
theorem wide_q2 {q : Qry} (h : (decide ((20 : Int) < (q.cols.length : Int)) || wideM q.whr) = false) (hn : ∀ s ∈ q.cols, decide ((100 : Int) < (s.length : Int)) = false) : wideQ q = false := by
 unfold wideQ
 rw [if_neg (by rw [h]; simp), Bool.eq_false_iff]
 intro e
 obtain ⟨s, hs, h2⟩ := List.any_eq_true.1 e
 rw [hn s hs] at h2; cases h2
theorem takes_step {α : Type} {l : List α} {P : α → Prop} {i : Nat} (h : i < l.length) (hx : ∀ y ∈ l.take i, P y) (hr : P l[i]) : ∀ y ∈ l.take (i + 1), P y := by
 intro y hy
 rw [List.take_succ_eq_append_getElem h, List.mem_append] at hy
 rcases hy with hy | hy
 ·exact hx y hy
 rw [List.mem_singleton] at hy; subst hy; exact hr
theorem takes_all {α : Type} {l : List α} {P : α → Prop} {i : Nat} (h : l.length ≤ i) (hx : ∀ y ∈ l.take i, P y) : ∀ y ∈ l, P y := by rwa [List.take_of_length_le h] at hx
theorem c35 (s : Str) (hs : s.length ≤ 1048576) (Hp : List AObj) : AFun Tryz.prog 35 [strA s] Hp (boolA (noN s)) := by
 refine ACall.body [.tmp 2] [0] Tryz.func35 Tryz.ntmps35 (fun d => ?_)
 refine Z209 ?_;refine R.call Tryz.call36 (c36 s hs _) ?_;refine R.not ?_;exact Z66

theorem c65 (ks : List Str) (hkl : ks.length ≤ 1048576) (hks : ∀ s ∈ ks, s.length ≤ 1048576) (Hp : List AObj) : AFun Tryz.prog 65 [strsA ks, .fn (.func 35) [] []] Hp (intA (cidxS ks)) := by
 refine ACall.body [.tmp 4] [0, 1] Tryz.func65 Tryz.ntmps65 (fun d => ?_)
 refine Z123 ?_;refine Z248 ?_;refine R.fin [0, 1, 7, 8] ?_
 refine AW.loopC (α := Nat) (fun x => ⟨19, setF 0 (strsA ks) (setF 1 (.fn (.func 35) [] []) (setF 7 (intA ks.length) (setF 8 (intA (x : Nat)) (fun _ => .any)))), Hp, [], [], none⟩) (fun x => x ≤ ks.length ∧ ∀ (j : Nat) (y : Str), j < x → ks[j]? = some y → ¬ noN y = true) (fun x => ks.length - x) (0) (by simp) (StLe.of_eq (by simp)) rfl (fun x hx => ?_)
 refine Z190 ?_;refine R.fin [0, 1, 7, 8, 9] ?_
 refine W.condX (fun ht9 => ?_) (fun ht9 => ?_)
 ·have hlt : x < ks.length := by simpa using ht9
  refine Z197 ?_;refine Z258 ?_;refine R.fin [0, 1, 5, 7, 8] ?_;refine Z47 ?_;refine Z257 ?_;refine R.indexAddr (x) (strA ks[x]) jU jS (getMap hlt) ?_;refine Z259 ?_;refine R.callV Tryz.call35 (c35 ks[x] (hks _ (List.getElem_mem hlt)) _) ?_;refine R.fin [0, 1, 5, 7, 8, 16] ?_
  refine W.cond (fun ht16 => ?_) (fun ht16 => ?_)
  ·refine Z0 ?_;refine Z258 ?_;refine Z50 ?_;refine Z104 ?_;exact K.fin (V.one V.tmp) ⟨by rw [cidxS_at hlt ht16 hx.2], rfl⟩
  refine Z22 ?_;refine Z156 ?_;refine R.fin [0, 1, 7, 8] ?_;exact K.lpN (x + 1) ⟨hlt, upto_succ hlt hx.2 (by rw [ht16]; simp)⟩ (by omega) (StCut.of_eq rfl)
 refine Z53 ?_;refine Z2 ?_;refine Z50 ?_;exact K.fin (V.one V.tmp) ⟨by rw [cidxS_none (upto_all (by simp at ht9; omega) hx.2)], rfl⟩

theorem c34 (ks : List Str) (hkl : ks.length ≤ 1048576) (hks : ∀ s ∈ ks, s.length ≤ 1048576) (Hp : List AObj) : AFun Tryz.prog 34 [strsA ks, .fn (.func 35) [] []] Hp (boolA (ks.any noN)) := by
 refine ACall.body [.tmp 4] [0, 1] Tryz.func34 Tryz.ntmps34 (fun d => ?_)
 refine Z123 ?_;refine Z47 ?_;refine R.call Tryz.call65 (c65 ks hkl hks _) ?_;refine R.geq ?_;refine Z258 ?_;refine Z50 ?_;exact K.fin (V.one V.tmp) ⟨by rw [← cidxS_any]; try rfl, rfl⟩

theorem c31 (q : Qry) (h : QW q) (Hp : List AObj) : AFun Tryz.prog 31 [qryA q] Hp (boolA (asksQ q)) := by
 refine ACall.body [.tmp 2] [0] Tryz.func31 Tryz.ntmps31 (fun d => ?_)
 refine Z181 ?_;refine Z111 ?_;refine Z196 ?_;refine R.call Tryz.call43 (c43 61 q.whr h.ok nullX _) ?_;refine R.not ?_;exact Z66

theorem c40 (q : Qry) (h : QW q) (Hp : List AObj) : AFun Tryz.prog 40 [qryA q] Hp (boolA (asksQ q)) := by
 refine ACall.body [.tmp 2] [0] Tryz.func40 Tryz.ntmps40 (fun d => ?_)
 refine Z181 ?_;refine Z111 ?_;refine Z196 ?_;refine R.call Tryz.call29 (c29 61 q.whr h.ok nullX _) ?_;refine R.not ?_;exact Z66

theorem c10 (q : Qry) (h : QW q) (Hp : List AObj) : AFun Tryz.prog 10 [qryA q] Hp (boolA (rightQ q)) := by
 refine ACall.body [.tmp 2] [0] Tryz.func10 Tryz.ntmps10 (fun d => ?_)
 refine Z70 ?_;refine Z16 ?_;refine Z55 ?_;refine Z30 ?_;refine R.len jU ?_;refine R.eql ?_;refine R.bneq jU ?_;refine Z257 ?_;refine Z76 ?_;refine G.len jU ?_;refine Z94 ?_;refine Z257 ?_;refine Z56 ?_;refine G.lss ?_;refine Z227 ?_;refine Z56 ?_;refine Z94 ?_;refine R.fin [1, 25] ?_
 refine W.cond (fun ht25 => ?_) (fun ht25 => ?_)
 ·rw [List.length_map] at ht25
  have e := right_0 ht25
  refine Z12 ?_;exact Z214
 rw [List.length_map] at ht25
 have e := right_a ht25
 refine Z3 ?_;refine Z252 ?_;refine Z30 ?_;refine R.call Tryz.call34 (c34 q.cols h.len h.names _) ?_;refine R.not ?_;refine Z257 ?_;refine G.loadRoN jA jS ?_;refine G.call Tryz.call31 (fun hB => c31 q h _) ?_;refine G.not ?_;refine G.move ?_;refine Z58 ?_;refine G.call Tryz.call37 (fun hB => c37 61 q.whr h.ok (by decide) _) ?_;refine G.pickOr ?_;refine Z168 ?_;exact Z291

theorem c12 (q : Qry) (h : QW q) (Hp : List AObj) : AFun Tryz.prog 12 [qryA q] Hp (boolA (rightQ q)) := by
 refine ACall.body [.tmp 2] [0] Tryz.func12 Tryz.ntmps12 (fun d => ?_)
 refine Z70 ?_;refine Z16 ?_;refine Z55 ?_;refine Z30 ?_;refine R.len jU ?_;refine R.eql ?_;refine R.bneq jU ?_;refine Z257 ?_;refine Z76 ?_;refine G.len jU ?_;refine Z94 ?_;refine Z257 ?_;refine Z56 ?_;refine G.lss ?_;refine Z227 ?_;refine Z56 ?_;refine Z94 ?_;refine R.fin [1, 26] ?_
 refine W.cond (fun ht26 => ?_) (fun ht26 => ?_)
 ·rw [List.length_map] at ht26
  have e := right_0 ht26
  refine Z12 ?_;exact Z214
 rw [List.length_map] at ht26
 refine Z3 ?_;refine Z106 ?_;refine Z276 ?_
 refine AW.loopC (α := Nat) (fun x => ⟨49, setF 1 (.ro (qoC false q)) (setF 3 (intA (x : Nat)) (fun _ => .any)), Hp, [], [], none⟩) (fun x => x ≤ q.cols.length ∧ ∀ s ∈ q.cols.take x, nameM s = true) (fun x => q.cols.length - x) (0) ⟨Nat.zero_le _, fun s hs => by simp at hs⟩ (StLe.of_eq (by simp)) rfl (fun x hx => ?_)
 refine Z10 ?_;refine Z30 ?_;refine Z81 ?_;refine R.fin [1, 3, 31] ?_
 refine W.cond (fun ht31 => ?_) (fun ht31 => ?_)
 ·have hlt : x < q.cols.length := by simpa using ht31
  have hlen := h.len
  refine Z90 ?_;refine Z252 ?_;refine Z30 ?_;refine Z257 ?_;refine Z101 ?_;refine R.call Tryz.call39 (c39 q.cols[x] (h.names _ (List.getElem_mem hlt)) _) ?_;refine R.not ?_;refine R.fin [1, 3, 40] ?_
  refine W.cond (fun ht40 => ?_) (fun ht40 => ?_)
  ·have e := right_b ht26 (List.getElem_mem hlt) (by simpa using ht40)
   refine Z12 ?_;refine Z104 ?_;exact Z291
  refine Z180 ?_;refine Z276 ?_;exact K.lpN (x + 1) ⟨hlt, takes_step hlt hx.2 (by simpa using ht40)⟩ (by omega) (StCut.of_eq rfl)
 have hxe : q.cols.length ≤ x := by simpa using ht31
 have e := right_c ht26 (takes_all hxe hx.2)
 refine Z87 ?_;refine Z72 ?_;refine R.call Tryz.call40 (c40 q h _) ?_;refine R.not ?_;refine Z257 ?_;refine Z58 ?_;refine G.call Tryz.call41 (fun hB => c41 61 q.whr h.ok (by decide) h.size _) ?_;refine Z253 ?_;refine Z9 ?_;exact Z291

theorem c42 (a b : List Str) (ha : a.length ≤ 1048576) (Hp : List AObj) : AFun Tryz.prog 42 [strsA a, strsA b] Hp (boolA (decide (a = b))) := by
 refine ACall.body [.tmp 4] [0, 1] Tryz.func42 Tryz.ntmps42 (fun d => ?_)
 refine Z123 ?_;refine Z248 ?_;refine R.len jU ?_;refine R.neq ?_;refine R.fin [0, 1, 10] ?_
 refine W.cond (fun ht10 => ?_) (fun ht10 => ?_)
 ·have hne : a ≠ b := by rintro rfl; simp at ht10
  refine Z2 ?_;exact Z189
 have hlen : a.length = b.length := by have := ht10; simp at this; omega
 refine Z3 ?_;refine Z248 ?_;refine R.fin [0, 1, 12, 13] ?_
 refine AW.loopC (α := Nat) (fun x => ⟨26, setF 0 (strsA a) (setF 1 (strsA b) (setF 12 (intA (a.length : Nat)) (setF 13 (intA (x : Nat)) (fun _ => .any)))), Hp, [], [], none⟩) (fun x => x ≤ a.length ∧ ∀ (j : Nat) (y : Str), j < x → a[j]? = some y → b[j]? = some y) (fun x => a.length - x) (0) ⟨Nat.zero_le _, fun j y h => by omega⟩ (StLe.of_eq (by simp)) rfl (fun x hx => ?_)
 refine Z190 ?_;refine R.fin [0, 1, 12, 13, 14] ?_
 refine W.condX (fun ht14 => ?_) (fun ht14 => ?_)
 ·have hlt : x < a.length := by simpa using ht14
  have hlb : x < b.length := by omega
  refine Z197 ?_;refine Z258 ?_;refine R.fin [0, 1, 5, 12, 13] ?_;refine Z243 ?_;refine D.indexAddr (x) (strA a[x]) jU jS (getMap hlt) ?_;refine Z280 ?_;refine Z160 ?_;refine D.indexAddr (x) (strA b[x]) jU jS (getMap hlb) ?_;refine Z280 ?_;refine D.tail ?_;refine R.sneq ?_;refine R.fin [0, 1, 12, 13, 24] ?_
  refine W.cond (fun ht24 => ?_) (fun ht24 => ?_)
  ·have hne : a ≠ b := by rintro rfl; simp at ht24
   refine Z2 ?_;refine Z50 ?_;exact Z186
  have heq : a[x] = b[x] := by simpa using ht24
  refine Z22 ?_;refine Z156 ?_;refine R.fin [0, 1, 12, 13] ?_
  refine K.lpN (x + 1) ⟨hlt, fun j y hj hy => ?_⟩ (by omega) (StCut.of_eq rfl)
  rcases Nat.lt_or_ge j x with h | h
  ·exact hx.2 j y h hy
  have : j = x := by omega
  subst this
  rw [List.getElem?_eq_getElem hlt] at hy
  rw [List.getElem?_eq_getElem hlb, ← hy, heq]
 have hxe : a.length ≤ x := by simpa using ht14
 refine Z53 ?_;refine Z2 ?_;exact Z146

theorem c13 (a b : Qry) (h : QW a) (Hp : List AObj) : AFun Tryz.prog 13 [qryA a, qryA b] Hp (boolA (sameQ a b)) := by
 refine ACall.body [.tmp 4] [0, 1] Tryz.func13 Tryz.ntmps13 (fun d => ?_)
 refine Z221 ?_;refine Z45 ?_;refine Z252 ?_;refine Z55 ?_;refine Z55 ?_;refine R.beql jU ?_;refine Z257 ?_;refine Z56 ?_;refine Z56 ?_;refine Z42 ?_;refine Z257 ?_;refine Z76 ?_;refine Z76 ?_;refine G.call Tryz.call42 (fun hB => c42 a.cols b.cols h.len _) ?_;refine Z61 ?_;refine Z58 ?_;refine Z58 ?_;refine G.call Tryz.call43 (fun hB => c43 61 a.whr h.ok b.whr _) ?_;exact Z237

theorem c8 (a b : Qry) (h : QW a) (Hp : List AObj) : AFun Tryz.prog 8 [qryA a, qryA b] Hp (boolA (sameQ a b)) := by
 refine ACall.body [.tmp 4] [0, 1] Tryz.func8 Tryz.ntmps8 (fun d => ?_)
 refine Z221 ?_;refine Z45 ?_;refine Z252 ?_;refine Z55 ?_;refine Z55 ?_;refine R.beql jU ?_;refine Z257 ?_;refine Z56 ?_;refine Z56 ?_;refine Z42 ?_;refine Z257 ?_;refine Z76 ?_;refine Z76 ?_;refine G.call Tryz.call28 (fun hB => c28 a.cols b.cols h.len _) ?_;refine Z61 ?_;refine Z58 ?_;refine Z58 ?_;refine G.call Tryz.call29 (fun hB => c29 61 a.whr h.ok b.whr _) ?_;exact Z237

theorem c11 (q : Qry) (Hp : List AObj) : AFun Tryz.prog 11 [qryA q] Hp (boolA (wideQ q)) := by
 refine ACall.body [.tmp 2] [0] Tryz.func11 Tryz.ntmps11 (fun d => ?_)
 refine Z70 ?_;refine Z16 ?_;refine Z30 ?_;refine R.len jU ?_;refine R.gtr ?_;refine Z257 ?_;refine Z58 ?_;refine G.call Tryz.call38 (fun hB => c38 q.whr _) ?_;refine Z253 ?_;refine R.fin [1, 12] ?_
 refine W.cond (fun ht12 => ?_) (fun ht12 => ?_)
 ·rw [List.length_map] at ht12
  have e := wide_q0 ht12
  refine Z12 ?_;refine K.thR ?_;exact Z292
 rw [List.length_map] at ht12
 have hl20 : q.cols.length ≤ 20 := by
  simp only [Bool.or_eq_false_iff, decide_eq_false_iff_not] at ht12
  omega
 refine Z3 ?_;refine Z106 ?_;refine Z276 ?_
 refine AW.loopC (α := Nat) (fun x => ⟨27, setF 1 (.ro (qoC false q)) (setF 3 (intA (x : Nat)) (fun _ => .any)), Hp, [], [], none⟩) (fun x => x ≤ q.cols.length ∧ ∀ s ∈ q.cols.take x, decide ((100 : Int) < (s.length : Int)) = false) (fun x => q.cols.length - x) (0) ⟨Nat.zero_le _, fun s hs => by simp at hs⟩ (StLe.of_eq (by simp)) rfl (fun x hx => ?_)
 refine Z10 ?_;refine Z30 ?_;refine Z81 ?_;refine R.fin [1, 3, 17] ?_
 refine W.cond (fun ht17 => ?_) (fun ht17 => ?_)
 ·have hlt : x < q.cols.length := by simpa using ht17
  refine Z90 ?_;refine Z252 ?_;refine Z30 ?_;refine Z257 ?_;refine Z101 ?_;refine Z177 ?_;refine R.fin [1, 3, 26] ?_
  refine W.cond (fun ht26 => ?_) (fun ht26 => ?_)
  ·have e := wide_q1 ht12 (List.getElem_mem hlt) ht26
   refine Z12 ?_;refine Z104 ?_;exact Z292
  refine Z180 ?_;refine Z276 ?_;exact K.lpN (x + 1) ⟨hlt, takes_step hlt hx.2 ht26⟩ (by omega) (StCut.of_eq rfl)
 have hxe : q.cols.length ≤ x := by simpa using ht17
 have e := wide_q2 ht12 (takes_all hxe hx.2)
 refine Z87 ?_;refine Z12 ?_;exact Z292

/-! What is printed is parsed: queries. -/
theorem at_seg {l : List Tok} {i : Nat} {x : Expr} {rest : List TK} (hseg : seg l i = toksE x ++ rest) (hst : stops 0 rest) (hr : refRightM x = true) (hg : allE rngN x = true) (hn : needE x ≤ 30) : atM l i = (x, ((i + (toksE x).length : Nat) : Int), 0, 0) := by
 unfold refRightM at hr
 simp only [Bool.and_eq_true, decide_eq_true_eq] at hr
 obtain ⟨⟨hd, hz⟩, hx⟩ := hr
 have h1 : atR l i = (x, adv ⟨i, 0, 0, 0⟩ (toksE x).length) := (parse_main l _ x (Nat.le_refl _) hx hg).1 0 ⟨i, 0, 0, 0⟩ rest (Nat.zero_le _) rfl (by show 0 + needE x ≤ 30; omega) hseg hst
 have e : atS l i (x, adv ⟨i, 0, 0, 0⟩ (toksE x).length) = adv ⟨i, 0, 0, 0⟩ (toksE x).length := by
  unfold atS
  rw [if_neg (by show ¬ (((0 : Int) != 0) = true); decide), if_neg (by simp; omega), if_neg (by simp; omega)]
 unfold atM
 rw [h1, e, if_neg (by show ¬ (((0 : Int) != 0) = true); decide)]
 rfl
theorem at_deep {l : List Tok} {i : Nat} {x : Expr} {rest : List TK} (hseg : seg l i = toksE x ++ rest) (hst : stops 0 rest) (hx : allE nodeM x = true) (hg : allE rngN x = true) (hn : 30 < needE x) : (atM l i).2.2.1 = 18 := by
 have h1 : (atR l i).2.code = 18 := (deep_main _ _ x (Nat.le_refl _) hx hg).1 0 ⟨i, 0, 0, 0⟩ rest (Nat.zero_le _) rfl (by show 0 ≤ 30; omega) (by show 30 < 0 + needE x; omega) hseg hst
 have h2 : (atS l i (atR l i)).code = 18 := by
  unfold atS
  rw [if_pos (by rw [h1]; rfl)]
  exact h1
 unfold atM
 rw [if_pos (by rw [h2]; rfl)]
 exact h2
theorem isQ_seg {l : List Tok} {S : QS} {s : Str} {k : Int} {t : Str} {r : List TK} (h : seg l S.i = (k, t) :: r) (h0 : S.code = 0) : isQ l s S = (((k == 5) || (k == 2)) && (t == s)) := by
 obtain ⟨h1, h2, _, _⟩ := seg_cons h
 unfold isQ
 rw [h0, h1, h2]
 rfl
theorem want_seg {l : List Tok} {S : QS} {s : Str} {k : Int} {r : List TK} (h : seg l S.i = (k, s) :: r) (h0 : S.code = 0) (hk : ((k == 5) || (k == 2)) = true) : wantQ l s S = nextQ S ∧ seg l (nextQ S).i = r := by
 refine ⟨?_, (seg_cons h).2.2.1⟩
 unfold wantQ
 rw [if_pos (by rw [isQ_seg h h0, hk]; simp)]
def notComma (rest : List TK) : Prop := ∀ h r, rest = h :: r → h.2 ≠ [44]
theorem names_seg {l : List Tok} {rest : List TK} (hc : notComma rest) (hne : rest ≠ []) : ∀ (cs : List Str) (n : Nat) (q : Qry) (S : QS), S.code = 0 → seg l S.i = namesT cs ++ rest → q.cols.length + cs.length ≤ 12 → cs.length ≤ n →
  namesF l n (q, S) = (⟨q.all, q.cols ++ cs, q.whr, q.lim⟩, ⟨S.i + 2 * cs.length, S.code, S.at_⟩)
 | [], n, q, S, h0, hs, _, _ => by
  have hno : isQ l [44] S = false := by
   cases hr : rest with
   | nil => exact absurd hr hne
   | cons h r =>
    have hs' : seg l S.i = (h.1, h.2) :: r := by rw [hs, hr]; rfl
    rw [isQ_seg hs' h0]
    have : (h.2 == [44]) = false := by rw [beq_eq_false_iff_ne]; exact hc h r hr
    rw [this, Bool.and_false]
  have e : namesF l n (q, S) = (q, S) := by
   cases n with
   | zero => rfl
   | succ n => unfold namesF; rw [if_neg (by rw [hno]; simp)]
  rw [e]
  simp
 | a :: r, 0, q, S, _, _, _, hn => by simp at hn
 | a :: r, n + 1, q, S, h0, hs, hl, hn => by
  have hs' : seg l S.i = (5, [44]) :: (1, a) :: (namesT r ++ rest) := hs
  obtain ⟨_, _, hs2, _⟩ := seg_cons hs'
  obtain ⟨k1, t1, hs3, _⟩ := seg_cons (i := S.i + 1) hs2
  have e1 : nameQ l (q, nextQ S) = (⟨q.all, q.cols ++ [a], q.whr, q.lim⟩, nextQ (nextQ S)) := by
   unfold nameQ
   rw [if_neg (by show ¬ ((S.code != 0) = true); rw [h0]; decide), if_neg (by show ¬ (((tokAt l (S.i + 1)).kind != 1) = true); rw [k1]; decide), if_neg (by show ¬ (((q.cols.length : Int) == 12) = true); simp only [List.length_cons] at hl; simp; omega)]
   show ((⟨q.all, q.cols ++ [(tokAt l (S.i + 1)).text], q.whr, q.lim⟩ : Qry), _) = _
   rw [t1]
  unfold namesF
  rw [if_pos (by show isQ l [44] S = true; rw [isQ_seg hs' h0]; rfl)]
  show namesF l n (nameQ l (q, nextQ S)) = _
  rw [e1, names_seg hc hne r n _ (nextQ (nextQ S)) h0 hs3 (by simp only [List.length_append, List.length_cons, List.length_nil] at hl ⊢; omega) (by simp at hn; omega)]
  simp only [nextQ, List.append_assoc, List.cons_append, List.nil_append, List.length_cons]
  congr 2
  omega
theorem namesT_len : ∀ cs : List Str, (namesT cs).length = 2 * cs.length
 | [] => rfl
 | a :: r => by rw [namesT, List.length_cons, List.length_cons, namesT_len r, List.length_cons]; omega
theorem namesT_drop (a : Str) (r : List Str) : (namesT (a :: r)).drop 1 = (1, a) :: namesT r := rfl
theorem seg_len {l : List Tok} {i : Nat} : (seg l i).length = l.length - i := by unfold seg; simp
/-- The columns. -/
theorem cols_seg {l : List Tok} {q : Qry} {rest : List TK} (hq : q.all = ((q.cols.length : Int) == 0)) (h12 : q.cols.length ≤ 12) (hc : notComma rest) (hne : rest ≠ []) (q0 : Qry) (h0 : q0.cols = []) (S : QS) (hS : S.code = 0) (hs : seg l S.i = colsQT q ++ rest) :
  ∃ n, namesQ l (q0, S) = (⟨q.all, q.cols, q0.whr, q0.lim⟩, ⟨n, 0, S.at_⟩) ∧ seg l n = rest := by
 unfold colsQT at hs
 cases ha : q.all with
 | true =>
  rw [ha, if_pos rfl] at hs
  have hs' : seg l S.i = (5, [42]) :: rest := hs
  have hcols : q.cols = [] := by
   rw [ha] at hq
   have := eq_of_beq hq.symm
   exact Z273
  refine ⟨S.i + 1, ?_, (seg_cons hs').2.2.1⟩
  unfold namesQ
  rw [if_pos (by show isQ l [42] S = true; rw [isQ_seg hs' hS]; rfl), hcols]
  show ((⟨true, q0.cols, q0.whr, q0.lim⟩ : Qry), (⟨S.i + 1, S.code, S.at_⟩ : QS)) = _
  rw [h0, hS]
 | false =>
  rw [ha, if_neg (by simp)] at hs
  cases hcl : q.cols with
  | nil => rw [ha, hcl] at hq; cases hq
  | cons a r =>
   rw [hcl, namesT_drop] at hs
   have hs' : seg l S.i = (1, a) :: (namesT r ++ rest) := hs
   obtain ⟨k1, t1, hs2, _⟩ := seg_cons hs'
   have e1 : nameQ l (setAll false q0, S) = (⟨false, [a], q0.whr, q0.lim⟩, nextQ S) := by
    unfold nameQ
    rw [if_neg (by show ¬ ((S.code != 0) = true); rw [hS]; decide), if_neg (by show ¬ (((tokAt l S.i).kind != 1) = true); rw [k1]; decide), if_neg (by show ¬ (((q0.cols.length : Int) == 12) = true); rw [h0]; decide)]
    show ((⟨false, q0.cols ++ [(tokAt l S.i).text], q0.whr, q0.lim⟩ : Qry), _) = _
    rw [t1, h0]
    rfl
   have hlen : r.length ≤ l.length := by
    have := congrArg List.length hs2
    rw [seg_len, List.length_append, namesT_len] at this
    omega
   refine ⟨S.i + 1 + 2 * r.length, ?_, ?_⟩
   ·unfold namesQ
    rw [if_neg (by show ¬ (isQ l [42] S = true); rw [isQ_seg hs' hS]; simp)]
    show namesF l l.length (nameQ l (setAll false q0, S)) = _
    rw [e1, names_seg hc hne r l.length _ (nextQ S) hS hs2 (by rw [hcl] at h12; simp only [List.length_cons, List.length_nil] at h12 ⊢; omega) hlen]
    show ((⟨false, [a] ++ r, q0.whr, q0.lim⟩ : Qry), (⟨S.i + 1 + 2 * r.length, S.code, S.at_⟩ : QS)) = _
    rw [hS]
    rfl
   have := seg_skip hs2
   rwa [namesT_len] at this
theorem itoa_nat {n : Int} (h0 : 0 ≤ n) : Lib.itoa n = Lib.decDigits n.toNat := by
 unfold Lib.itoa
 rw [if_neg (by omega)]
theorem stops_word {w : TK} {r : List TK} (h1 : levelM w.2 < 0) (h2 : w.2 ≠ [40]) : stops 0 (w :: r) := fun h r' e _ => by
 injection e with e1 _
 subst e1
 exact ⟨by simpa using h1, h2⟩
theorem lev_lim : levelM limitW < 0 := by decide
theorem lev_semi : levelM [59] < 0 := by decide
structure QOk (q : Qry) : Prop where
 all : q.all = ((q.cols.length : Int) == 0)
 len : q.cols.length ≤ 12
 lo : -1 ≤ q.lim
 hi : q.lim ≤ 100000
 names : ∀ s ∈ q.cols, lexNameM s = true
 tree : asksQ q = true → refRightM q.whr = true
theorem qright_ok {q : Qry} (h : rightQ q = true) : QOk q := by
 unfold rightQ at h
 split at h
 ·cases h
 rename_i h1
 simp only [Bool.or_eq_true, not_or, Bool.not_eq_true, decide_eq_false_iff_not, bne_eq_false_iff_eq] at h1
 obtain ⟨⟨⟨a, b⟩, c⟩, d⟩ := h1
 simp only [Bool.and_eq_true, Bool.or_eq_true, Bool.not_eq_true', List.all_eq_true] at h
 refine ⟨a, by omega, by omega, by omega, h.1, fun ha => ?_⟩
 rcases h.2 with h2 | h2
 ·rw [h2] at ha; cases ha
 exact h2
theorem not_asks {q : Qry} (h : asksQ q = false) : q.whr = nullX := by
 unfold asksQ at h
 simp only [Bool.not_eq_false'] at h
 exact (eqE_iff _ _).1 h
/-- What the words of a query's print are parsed to. -/
theorem parse_toksQ {l : List Tok} {q : Qry} (hq : QOk q) (hg : allE rngN q.whr = true) (hat : ∀ n : Int, 0 ≤ n → n ≤ 100000 → atoiV (Lib.itoa n) = n) (hs : seg l 0 = toksQ q ++ [(0, [])]) :
  (asksQ q = true ∧ 30 < needE q.whr ∧ (parseQL l).2.1 = 18) ∨ parseQL l = (q, 0, 0) := by
 obtain ⟨w1, s1⟩ := want_seg (l := l) (S := ⟨0, 0, 0⟩) (s := selectW) (k := 2) (r := colsQT q ++ (whrQT q ++ (limQT q ++ [(5, [59])])) ++ [(0, [])]) (by show seg l 0 = _; rw [hs]; rfl) rfl rfl
 have tail2 : ∀ (x : Qry) (n : Nat), seg l n = limQT q ++ ([(5, [59])] ++ [(0, [])]) → ∃ m, limitQ l (⟨q.all, q.cols, x.whr, -1⟩, ⟨n, 0, 0⟩) = (⟨q.all, q.cols, x.whr, q.lim⟩, ⟨m, 0, 0⟩) ∧ seg l m = [(5, [59])] ++ [(0, [])] := by
  intro x n hn
  unfold limQT at hn
  by_cases hl : q.lim = -1
  ·rw [if_neg (by rw [hl]; decide)] at hn
   have hn' : seg l n = (5, [59]) :: [(0, [])] := hn
   refine ⟨n, ?_, hn⟩
   unfold limitQ
   rw [if_neg (by show ¬ (isQ l limitW ⟨n, 0, 0⟩ = true); rw [isQ_seg (S := ⟨n, 0, 0⟩) hn' rfl]; decide), hl]
  rw [if_pos (by simpa using hl)] at hn
  have hn' : seg l n = (2, limitW) :: (3, Lib.itoa q.lim) :: [(5, [59]), (0, [])] := hn
  obtain ⟨_, _, hn2, _⟩ := seg_cons hn'
  obtain ⟨k1, t1, hn3, _⟩ := seg_cons hn2
  have hv := hat q.lim (by have := hq.lo; omega) hq.hi
  refine ⟨n + 1 + 1, ?_, hn3⟩
  unfold limitQ
  rw [if_pos (by show isQ l limitW ⟨n, 0, 0⟩ = true; rw [isQ_seg (S := ⟨n, 0, 0⟩) hn' rfl]; decide), if_neg (by show ¬ (((tokAt l (n + 1)).kind != 3) = true); rw [k1]; decide)]
  simp only
  rw [t1, hv, if_neg (by have := hq.hi; simp; omega)]
  rfl
 have hrest : notComma (whrQT q ++ (limQT q ++ ([(5, [59])] ++ [(0, [])]))) ∧ (whrQT q ++ (limQT q ++ ([(5, [59])] ++ [(0, [])]))) ≠ [] := by
  unfold whrQT limQT
  refine ⟨fun h r e => ?_, by simp⟩
  split at e
  ·injection e with e _; subst e; decide
  split at e
  ·injection e with e _; subst e; decide
  injection e with e _; subst e; decide
 have s1' : seg l (nextQ ⟨0, 0, 0⟩).i = colsQT q ++ (whrQT q ++ (limQT q ++ ([(5, [59])] ++ [(0, [])]))) := by rw [s1]; simp only [List.append_assoc]
 obtain ⟨n, e2, s2⟩ := cols_seg hq.all hq.len hrest.1 hrest.2 ⟨false, [], nullX, -1⟩ rfl (nextQ ⟨0, 0, 0⟩) rfl s1'
 have e2' : namesQ l (⟨false, [], nullX, -1⟩, wantQ l selectW ⟨0, 0, 0⟩) = (⟨q.all, q.cols, nullX, -1⟩, ⟨n, 0, 0⟩) := by rw [w1]; exact e2
 -- the end, once the tree is read
 have fin : ∀ (x : Expr) (m : Nat), whereQ l (⟨q.all, q.cols, nullX, -1⟩, ⟨n, 0, 0⟩) = (⟨q.all, q.cols, x, -1⟩, ⟨m, 0, 0⟩) → seg l m = limQT q ++ ([(5, [59])] ++ [(0, [])]) → parseQL l = (⟨q.all, q.cols, x, q.lim⟩, 0, 0) := by
  intro x m ew hm
  obtain ⟨m2, el, hm2⟩ := tail2 ⟨q.all, q.cols, x, -1⟩ m hm
  have hm2' : seg l m2 = (5, [59]) :: [(0, [])] := hm2
  obtain ⟨w3, s3⟩ := want_seg (S := ⟨m2, 0, 0⟩) hm2' rfl rfl
  have hk : (tokAt l (m2 + 1)).kind = 0 := (seg_cons (r := []) s3).1
  have eb : bodyQ l = (⟨q.all, q.cols, x, q.lim⟩, ⟨m2 + 1, 0, 0⟩) := by
   unfold bodyQ
   rw [e2', ew]
   simp only at el ⊢
   rw [el]
   simp only
   rw [w3]
   unfold endQ
   show _ = _
   rw [if_neg (by show ¬ (((tokAt l (m2 + 1)).kind != 0) = true); rw [hk]; decide)]
   rfl
  unfold parseQL
  rw [eb]
  rfl
 cases ha : asksQ q with
 | false =>
  right
  have hw := not_asks ha
  have s2' : seg l n = limQT q ++ ([(5, [59])] ++ [(0, [])]) := by rw [s2]; unfold whrQT; rw [ha]; rfl
  have hno : isQ l whereW ⟨n, 0, 0⟩ = false := by
   unfold limQT at s2'
   split at s2'
   ·have s3 : seg l n = (2, limitW) :: (3, Lib.itoa q.lim) :: [(5, [59]), (0, [])] := s2'
    rw [isQ_seg (S := ⟨n, 0, 0⟩) s3 rfl]; decide
   have s3 : seg l n = (5, [59]) :: [(0, [])] := s2'
   rw [isQ_seg (S := ⟨n, 0, 0⟩) s3 rfl]; decide
  have := fin nullX n (by unfold whereQ; rw [if_neg (by rw [hno]; simp)]) s2'
  rw [this, ← hw]
 | true =>
  have s2' : seg l n = (2, whereW) :: (toksE q.whr ++ (limQT q ++ ([(5, [59])] ++ [(0, [])]))) := by rw [s2]; unfold whrQT; rw [ha]; rfl
  obtain ⟨_, _, s3, _⟩ := seg_cons s2'
  have hst : stops 0 (limQT q ++ ([(5, [59])] ++ [(0, [])])) := by
   unfold limQT
   split
   ·exact stops_word lev_lim (by decide)
   exact stops_word lev_semi (by decide)
  have hr := hq.tree ha
  have hnode : allE nodeM q.whr = true := right_node hr
  have his : isQ l whereW ⟨n, 0, 0⟩ = true := by rw [isQ_seg (S := ⟨n, 0, 0⟩) s2' rfl]; decide
  by_cases hn : needE q.whr ≤ 30
  ·right
   have hm := at_seg s3 hst hr hg hn
   exact fin q.whr (n + 1 + (toksE q.whr).length) (by
    unfold whereQ
    rw [if_pos his]
    simp only
    rw [hm, if_neg (by simp)]
    rfl) (seg_skip s3)
  left
  refine ⟨rfl, by omega, ?_⟩
  have hm := at_deep s3 hst hnode hg (by omega)
  have ew : whereQ l (⟨q.all, q.cols, nullX, -1⟩, ⟨n, 0, 0⟩) = (⟨q.all, q.cols, nullX, -1⟩, ⟨n + 1, 18, (atM l (n + 1)).2.2.2⟩) := by
   unfold whereQ
   rw [if_pos his]
   simp only
   rw [if_pos (by rw [hm]; decide), hm]
  have key : (bodyQ l).2.code = 18 := by
   unfold bodyQ
   rw [e2', ew]
   have k1 : limitQ l (⟨q.all, q.cols, nullX, -1⟩, ⟨n + 1, 18, (atM l (n + 1)).2.2.2⟩) = (⟨q.all, q.cols, nullX, -1⟩, ⟨n + 1, 18, (atM l (n + 1)).2.2.2⟩) := by
    unfold limitQ
    rw [if_neg (by unfold isQ; simp)]
   simp only [k1]
   have k2 : wantQ l [59] ⟨n + 1, 18, (atM l (n + 1)).2.2.2⟩ = ⟨n + 1, 18, (atM l (n + 1)).2.2.2⟩ := by
    unfold wantQ failQ
    rw [if_neg (by unfold isQ; simp), if_neg (by simp)]
   rw [k2]
   unfold endQ failQ
   split
   ·rw [if_neg (by simp)]
   rfl
  unfold parseQL
  rw [if_pos (by rw [key]; decide)]
  exact key
theorem atoi_itoa (n : Int) (h0 : 0 ≤ n) (h1 : n ≤ 100000) : atoiV (Lib.itoa n) = n := by
  obtain ⟨u, rfl⟩ : ∃ u : Nat, n = (u : Int) := ⟨n.toNat, by omega⟩
  rw [itoa_nat h0, Int.toNat_natCast]
  obtain ⟨c, r, e, _⟩ := dec_head u
  have hc : digs.contains c = true := dec_all u c (by rw [e]; simp)
  obtain ⟨n45, n43, _⟩ := digs_not c hc
  have hu : Lib.parseMag (Lib.decDigits u) = .ok u := by
    rw [← Lib.parseUintB_64]
    unfold Lib.parseUintB
    rw [if_neg (by rw [e]; simp)]
    exact parseM_dec (by decide) u (by have : (2 : Nat) ^ 64 - 1 = 18446744073709551615 := by decide
                                       omega)
  have n45' : c.toNat ≠ 45 := fun h => n45 (UInt8.toNat_inj.1 (by rw [h]; rfl))
  have n43' : c.toNat ≠ 43 := fun h => n43 (UInt8.toNat_inj.1 (by rw [h]; rfl))
  have ha : Lib.atoiAll (Lib.decDigits u) = .ok (u : Int) := by
    rw [e] at hu ⊢
    rw [Lib.atoiAll_plain c r n43' n45', hu]
    unfold Lib.signless
    simp
    omega
  unfold atoiV
  rw [ha]
theorem stop_59 (Z : Str) : stopC (59 :: Z) := fun c r e => by injection e with e1 e2; exact .inr (.inr (.inr (.inr e1.symm)))
theorem semi_L : Lx [59] [(5, [59])] [] := mark1_L (by kernel_rfl) (fun d r e => by cases e)
theorem lim_L {n : Int} (h0 : 0 ≤ n) (h1 : n ≤ 9223372036854775807) {R : Str} (hR : stopC R) : Lx (limT ++ Lib.itoa n) [(2, limitW), (3, Lib.itoa n)] R := by
 have c : Lx limitW [(2, limitW)] ((32 :: Lib.itoa n) ++ R) := kw_L (by kernel_rfl) (stop_32 _)
 exact blank_L (Lx.app c (blank_L (num_L h0 h1 hR)))
theorem whr_L {x : Expr} (hx : PL x) {R : Str} (hR : stopC R) : Lx (whrT ++ printE x) ((2, whereW) :: toksE x) R := by
 have c : Lx whereW [(2, whereW)] ((32 :: printE x) ++ R) := kw_L (by kernel_rfl) (stop_32 _)
 exact blank_L (Lx.app c (blank_L (hx.1 R hR)))
theorem commas_L : ∀ (cs : List Str), (∀ s ∈ cs, nameM s = true) → ∀ R, stopC R → Lx (commas cs) (namesT cs) R ∧ stopC (commas cs ++ R)
 | [], _, R, hR => ⟨Lx.nil R, hR⟩
 | a :: r, h, R, hR => by
  obtain ⟨h1, h2⟩ := commas_L r (fun s hs => h s (by simp [hs])) R hR
  have h3 := Lx.app (name_L (h a (by simp)) h2) h1
  have h4 := Lx.app (comma_L ((a ++ commas r) ++ R)) h3
  refine ⟨?_, stop_44 _⟩
  show Lx ([44, 32] ++ a ++ commas r) _ R
  rw [List.append_assoc]
  exact h4
theorem list_cons (a : Str) (r : List Str) : listQ (a :: r) = a ++ commas r := rfl
theorem cols_L {q : Qry} (hq : QOk q) {R : Str} (hR : stopC R) : Lx (if q.all then [42] else listQ q.cols) (colsQT q) R := by
 unfold colsQT
 cases ha : q.all with
 | true =>
  rw [if_pos rfl, if_pos rfl]
  exact mark1_L (by kernel_rfl) (stop_not61 hR)
 | false =>
  rw [if_neg (by simp), if_neg (by simp)]
  cases hc : q.cols with
  | nil => have := hq.all; rw [ha, hc] at this; cases this
  | cons a r =>
   have hn : ∀ s ∈ a :: r, nameM s = true := fun s hs => by
    have := hq.names s (by rw [hc]; exact hs)
    rwa [lexName_eq] at this
   obtain ⟨h1, h2⟩ := commas_L r (fun s hs => hn s (by simp [hs])) R hR
   rw [list_cons, namesT_drop]
   exact Lx.app (name_L (hn a (by simp)) h2) h1
/-- The words of a query's print. -/
theorem print_Lx {q : Qry} (hq : QOk q) (hg : allE rngN q.whr = true) : Lx (printQ q) (toksQ q) [] := by
 have e4 : Lx ((if q.lim != -1 then limT ++ Lib.itoa q.lim else []) ++ [59]) (limQT q ++ [(5, [59])]) [] ∧ stopC (((if q.lim != -1 then limT ++ Lib.itoa q.lim else []) ++ [59]) ++ []) := by
  unfold limQT
  by_cases hl : q.lim = -1
  ·rw [if_neg (by rw [hl]; decide), if_neg (by rw [hl]; decide)]
   exact ⟨semi_L, stop_59 _⟩
  rw [if_pos (by simpa using hl), if_pos (by simpa using hl)]
  exact ⟨Lx.app (lim_L (by have := hq.lo; omega) (by have := hq.hi; omega) (stop_59 _)) semi_L, stop_32 _⟩
 have hW : printQ q = selT ++ ((if q.all then [42] else listQ q.cols) ++ ((if asksQ q then whrT ++ printE q.whr else []) ++ ((if q.lim != -1 then limT ++ Lib.itoa q.lim else []) ++ [59]))) := by
  unfold printQ; simp only [List.append_assoc]
 rw [hW]
 clear hW
 generalize ((if q.lim != -1 then limT ++ Lib.itoa q.lim else []) ++ [59]) = M at e4 ⊢
 have e3 : Lx ((if asksQ q then whrT ++ printE q.whr else []) ++ M) (whrQT q ++ (limQT q ++ [(5, [59])])) [] ∧ stopC (((if asksQ q then whrT ++ printE q.whr else []) ++ M) ++ []) := by
  unfold whrQT
  cases ha : asksQ q with
  | false => rw [if_neg (by simp), if_neg (by simp)]; exact e4
  | true =>
   rw [if_pos rfl, if_pos rfl]
   exact ⟨Lx.app (whr_L (print_PL _ q.whr (Nat.le_refl _) (right_node (hq.tree ha)) hg) e4.2) e4.1, stop_32 _⟩
 generalize ((if asksQ q then whrT ++ printE q.whr else []) ++ M) = W at e3 ⊢
 have e2 := Lx.app (cols_L hq e3.2) e3.1
 generalize ((if q.all then [42] else listQ q.cols) ++ W) = C at e2 ⊢
 have c : Lx selectW [(2, selectW)] ((32 :: C) ++ []) := kw_L (by kernel_rfl) (stop_32 _)
 exact Lx.app c (blank_L e2)
theorem lex_of_Lx {s : Str} {T : List TK} (h : Lx s T []) (hl : s.length ≤ 4000) : ∃ (L : List Tok) (n : Nat), lexM s = (L ++ [⟨0, [], n⟩], 0, 0) ∧ L.map ktT = T := by
 obtain ⟨M, hM, e⟩ := h (s.length + 1) 0 (by simp)
 rw [List.append_nil] at e
 have e0 : lexG (s.length + 1) (0 + s.length) [] = [] := by
  unfold lexG
  rw [List.drop_nil, itemsF]
  rfl
 rw [e0, List.append_nil] at e
 have hi : itemsT s = M.map (fun t => (t, 0)) := by rw [itemsT_G]; exact e
 have := lexM_of hl (by rw [hi]; intro it hit; obtain ⟨t, _, rfl⟩ := List.mem_map.1 hit; rfl)
 refine ⟨M, s.length, ?_, hM⟩
 rw [this, hi, List.map_map]
 simp [Function.comp_def]
/-- What is printed is parsed, unless brackets nest too deep. -/
theorem query_parse {q : Qry} (hr : rightQ q = true) (hg : allE rngN q.whr = true) (hl : (printQ q).length ≤ 4000) : (parseQ (printQ q)).2.1 = 18 ∨ parseQ (printQ q) = (q, 0, 0) := by
 have hq := qright_ok hr
 obtain ⟨L, n, e, hL⟩ := lex_of_Lx (print_Lx hq hg) hl
 have hs : seg (L ++ [⟨0, [], n⟩]) 0 = toksQ q ++ [(0, [])] := by
  unfold seg
  rw [List.drop_zero, List.map_append, hL]
  rfl
 have hp : parseQ (printQ q) = parseQL (L ++ [⟨0, [], n⟩]) := by
  unfold parseQ
  rw [e]
  rfl
 rw [hp]
 rcases parse_toksQ hq hg atoi_itoa hs with ⟨_, _, h⟩ | h
 ·exact .inl h
 exact .inr h
def colsS (q : Qry) : Str := if q.all then [42] else listQ q.cols
def whrS (q : Qry) : Str := if asksQ q then whrT ++ printE q.whr else []
def limS (q : Qry) : Str := if q.lim != -1 then limT ++ Lib.itoa q.lim else []
def a1 (q : Qry) : Str := selT ++ colsS q
def a2 (q : Qry) : Str := a1 q ++ whrS q
def a3 (q : Qry) : Str := a2 q ++ limS q
theorem print_a3 (q : Qry) : printQ q = a3 q ++ [59] := rfl
theorem join_commas : ∀ r : List Str, Lib.joinTail [44, 32] r = commas r
 | [] => rfl
 | a :: r => by
  show ([44, 32] ++ a) ++ Lib.joinTail [44, 32] r = _
  rw [join_commas r]
  rfl
theorem join_list (c : List Str) : Lib.join c [44, 32] = listQ c := by
 cases c with
 | nil => rfl
 | cons a r => rw [Lib.join_cons, join_commas, list_cons]
theorem commas_len : ∀ c : List Str, (∀ s ∈ c, s.length ≤ 1048576) → (commas c).length ≤ c.length * 1048578
 | [], _ => Nat.zero_le _
 | a :: r, h => by
  have h1 := commas_len r (fun s hs => h s (by simp [hs]))
  have h2 := h a (by simp)
  show (([44, 32] ++ a) ++ commas r).length ≤ (r.length + 1) * 1048578
  simp only [List.length_append, List.length_cons, List.length_nil]
  omega
theorem list_len {c : List Str} (h : ∀ s ∈ c, s.length ≤ 1048576) : (listQ c).length ≤ c.length * 1048578 := by
 have := commas_len c h
 unfold listQ
 rw [List.length_drop]
 omega
theorem commas_app : ∀ a b : List Str, commas (a ++ b) = commas a ++ commas b
 | [], b => rfl
 | x :: r, b => by
  show ([44, 32] ++ x) ++ commas (r ++ b) = (([44, 32] ++ x) ++ commas r) ++ commas b
  rw [commas_app r b]
  simp only [List.append_assoc]
theorem list_snoc {l : List Str} (h : l ≠ []) (a : Str) : listQ (l ++ [a]) = listQ l ++ [44, 32] ++ a := by
 cases l with
 | nil => exact absurd rfl h
 | cons x r =>
  rw [List.cons_append, list_cons, list_cons, commas_app]
  show x ++ (commas r ++ (([44, 32] ++ a) ++ [])) = _
  simp only [List.append_nil, List.append_assoc]
def s0S (q : Qry) : Str := if q.all then selT ++ [42] else selT
theorem s0_all {q : Qry} (hq : QOk q) : s0S q ++ listQ q.cols = a1 q := by
 unfold s0S a1 colsS
 cases ha : q.all with
 | true =>
  have hc : q.cols = [] := by
   have := hq.all
   rw [ha] at this
   have := eq_of_beq this.symm
   exact Z273
  rw [hc, if_pos rfl, if_pos rfl]
  rfl
 | false => rw [if_neg (by simp), if_neg (by simp)]
/-- query.Print: the text and the error. -/
def showQ (q : Qry) : Str × Int := if rightQ q = true then (if decide ((4000 : Int) < ((printQ q).length : Int)) = true then ([], 3) else (printQ q, 0)) else ([], 1)
theorem showQ_0 {q : Qry} (h : rightQ q = false) : showQ q = ([], 1) := if_neg (by rw [h]; simp)
theorem showQ_1 {q : Qry} (h : rightQ q = true) (h2 : decide ((4000 : Int) < ((printQ q).length : Int)) = true) : showQ q = ([], 3) := by unfold showQ; rw [if_pos h, if_pos h2]
theorem showQ_2 {q : Qry} (h : rightQ q = true) (h2 : decide ((4000 : Int) < ((printQ q).length : Int)) = false) : showQ q = (printQ q, 0) := by unfold showQ; rw [if_pos h, if_neg (by rw [h2]; simp)]
theorem whr_long {q : Qry} (ha : asksQ q = true) (h : 4000 < (printE q.whr).length) : decide ((4000 : Int) < ((printQ q).length : Int)) = true := by
 rw [decide_eq_true_eq, print_a3]
 unfold a3 a2 whrS
 rw [if_pos ha]
 simp only [List.length_append]
 omega
theorem a1_len {q : Qry} (hq : QOk q) (h : ∀ s ∈ q.cols, s.length ≤ 1048576) : (a1 q).length ≤ 13000000 := by
 have h1 := list_len h
 have h2 := hq.len
 unfold a1 colsS selT selectW
 split <;> simp only [List.length_append, List.length_cons, List.length_nil] <;> omega
theorem a2_len {q : Qry} (hq : QOk q) (hg : allE rngN q.whr = true) (h : ∀ s ∈ q.cols, s.length ≤ 1048576) : (a2 q).length ≤ 13200000 := by
 have h1 := a1_len hq h
 unfold a2 whrS whrT whereW
 split
 ·rename_i ha
  have := print_short (hq.tree ha) hg
  simp only [List.length_append, List.length_cons, List.length_nil]
  omega
 simp only [List.length_append, List.length_nil]; omega
theorem lim_len {q : Qry} (hq : QOk q) : (Lib.itoa q.lim).length ≤ 21 := Lib.itoa_length_le _ (by have := hq.lo; omega) (by have := hq.hi; omega)
theorem a3_len {q : Qry} (hq : QOk q) (hg : allE rngN q.whr = true) (h : ∀ s ∈ q.cols, s.length ≤ 1048576) : (a3 q).length ≤ 13300000 := by
 have h1 := a2_len hq hg h
 have h2 := lim_len hq
 unfold a3 limS limT limitW
 split <;> simp only [List.length_append, List.length_cons, List.length_nil] <;> omega
theorem c9 (q : Qry) (h : QW q) (Hp : List AObj) : AFun Tryz.prog 9 [qryA q] Hp (.tup [strA (showQ q).1, intA (showQ q).2]) := by
 refine ACall.body [.tmp 2, .tmp 3] [0] Tryz.func9 Tryz.ntmps9 (fun d => ?_)
 refine Z25 ?_;refine Z13 ?_;refine R.fin [1] ?_;refine Z188 ?_;refine R.call Tryz.call10 (c10 q h _) ?_;refine R.not ?_;refine R.fin [1, 9] ?_
 refine W.cond (fun ht9 => ?_) (fun ht9 => ?_)
 ·have e := showQ_0 (q := q) (by simpa using ht9)
  refine Z2 ?_;refine Z45 ?_;exact Z200
 have hr : rightQ q = true := by simpa using ht9
 have hq := qright_ok hr
 have hb1 := a1_len hq h.names
 have hb2 := a2_len hq h.rng h.names
 have hb3 := a3_len hq h.rng h.names
 have hbl := lim_len hq
 refine Z3 ?_;refine Z2 ?_;refine R.fin [1, 4] ?_
 refine W.join ⟨47, setF 1 (.ro (qoC false q)) (setF 4 (strA (a1 q)) (fun _ => .any)), Hp, [], [], none⟩ ?_ ?_
 ·refine Z252 ?_;refine Z55 ?_;refine R.not ?_;refine R.fin [1, 4, 12] ?_
  refine W.cond (fun ht12 => ?_) (fun ht12 => ?_)
  ·have ha : q.all = false := by simpa using ht12
   have ej : ([115, 101, 108, 101, 99, 116, 32] : Str) ++ Lib.join q.cols [44, 32] = a1 q := by
    rw [join_list]
    unfold a1 colsS
    rw [ha]
    rfl
   have hjl : (Lib.join q.cols [44, 32]).length ≤ 13000000 := by
    rw [join_list]
    have := list_len h.names
    have := hq.len
    omega
   refine Z261 ?_;refine Z30 ?_
   refine R.call Tryz.call30 (c30 q.cols [44, 32] (by have := h.len; omega) (by omega) _) ?_
   refine Z100 ?_;refine R.fin [1, 4] ?_;refine K.thJ ?_
   try simp only [List.cons_append, List.nil_append] at ej
   exact Z293
  have ha : q.all = true := by simpa using ht12
  have ej : ([115, 101, 108, 101, 99, 116, 32, 42] : Str) = a1 q := by
   unfold a1 colsS
   rw [ha]
   rfl
  refine W.keep [1, 4] ?_;refine Z184 ?_
  try simp only [List.cons_append, List.nil_append] at ej
  exact Z293
 refine W.join ⟨47, setF 1 (.ro (qoC false q)) (setF 4 (strA (a2 q)) (fun _ => .any)), Hp, [], [], none⟩ ?_ ?_
 ·refine Z72 ?_;refine R.call Tryz.call31 (c31 q h _) ?_;refine R.fin [1, 4, 18] ?_
  refine W.cond (fun ht18 => ?_) (fun ht18 => ?_)
  ·have hrw := hq.tree ht18
   have hpl := print_short hrw h.rng
   refine Z252 ?_;refine Z111 ?_;refine R.call Tryz.call32 (c32 61 q.whr h.ok (by decide) h.rng _) ?_;refine Z86 ?_;refine Z13 ?_;refine R.fin [1, 4, 5, 6] ?_;refine Z10 ?_;refine R.neq ?_;refine R.fin [1, 4, 5, 6, 26] ?_
   refine W.cond (fun ht26 => ?_) (fun ht26 => ?_)
   ·have hsm : showM q.whr = ([], 3) ∧ 4000 < (printE q.whr).length := by
     rcases show_of hrw with h1 | h1
     ·exact h1
     rw [h1.1] at ht26; cases ht26
    have e := showQ_1 hr (whr_long ht18 hsm.2)
    rw [hsm.1]
    refine Z0 ?_;refine Z13 ?_;refine R.fin [2, 3] ?_;refine Z23 ?_;refine K.thR ?_;exact Z294
   have hsm : showM q.whr = (printE q.whr, 0) := by
    rcases show_of hrw with h1 | h1
    ·rw [h1.1] at ht26; cases ht26
    exact h1.1
   rw [hsm]
   have ej2 : a1 q ++ (([32, 119, 104, 101, 114, 101, 32] : Str) ++ printE q.whr) = a2 q := by
    unfold a2 whrS
    rw [ht18]
    rfl
   refine Z210 ?_;refine Z257 ?_;refine R.sadd ?_;refine Z100 ?_;refine R.fin [1, 4] ?_;refine K.thJ ?_
   try simp only [List.cons_append, List.nil_append] at ej2
   exact Z295
  have ej2 : a1 q = a2 q := by
   unfold a2 whrS
   rw [ht18, if_neg (by simp), List.append_nil]
  refine W.keep [1, 4] ?_;refine Z184 ?_
  try simp only [List.cons_append, List.nil_append] at ej2
  exact Z295
 refine W.join ⟨47, setF 4 (strA (a3 q)) (fun _ => .any), Hp, [], [], none⟩ ?_ ?_
 ·refine Z252 ?_;refine Z119 ?_;refine R.neq ?_;refine R.fin [1, 4, 34] ?_
  refine W.cond (fun ht34 => ?_) (fun ht34 => ?_)
  ·have ej3 : a2 q ++ (([32, 108, 105, 109, 105, 116, 32] : Str) ++ Lib.itoa q.lim) = a3 q := by
    unfold a3 limS
    rw [ht34]
    rfl
   refine Z6 ?_;refine Z119 ?_
   refine R.call Tryz.call33 (c33 q.lim (by have := hq.lo; omega) (by have := hq.hi; omega) _) ?_
   refine R.sadd ?_;refine Z100 ?_;refine R.fin [4] ?_;refine K.thJ ?_
   try simp only [List.cons_append, List.nil_append] at ej3
   exact Z296
  have ej3 : a2 q = a3 q := by
   unfold a3 limS
   rw [ht34, if_neg (by simp), List.append_nil]
  refine W.keep [4] ?_;refine Z184 ?_
  try simp only [List.cons_append, List.nil_append] at ej3
  exact Z296
 refine Z10 ?_;refine Z100 ?_;refine R.fin [4] ?_;refine Z0 ?_;refine Z177 ?_;refine R.fin [4, 45] ?_
 refine W.cond (fun ht45 => ?_) (fun ht45 => ?_)
 ·rw [← print_a3] at ht45
  have e := showQ_1 hr ht45
  refine Z2 ?_;refine Z45 ?_;exact Z200
 rw [← print_a3] at ht45
 have e := showQ_2 hr ht45
 rw [← print_a3]
 refine Z95 ?_;refine Z13 ?_;refine R.fin [2, 3] ?_;refine AW.ret ?_;exact Z294

theorem c14 (q : Qry) (h : QW q) (hq : QOk q) (Hp : List AObj) : AFun Tryz.prog 14 [qryA q] Hp (strA (printQ q)) := by
 have hb1 := a1_len hq h.names
 have hb2 := a2_len hq h.rng h.names
 have hb3 := a3_len hq h.rng h.names
 have hbl := lim_len hq
 have hs0 : (s0S q).length ≤ 10 := by
  unfold s0S selT selectW
  split <;> simp
 have hlen := h.len
 refine ACall.body [.tmp 2] [0] Tryz.func14 Tryz.ntmps14 (fun d => ?_)
 refine Z70 ?_;refine Z2 ?_;refine Z276 ?_
 refine W.join ⟨46, setF 1 (.ro (qoC false q)) (setF 3 (strA (s0S q)) (fun _ => .any)), Hp, [], [], none⟩ ?_ ?_
 ·refine Z252 ?_;refine Z55 ?_;refine R.fin [1, 3, 6] ?_
  refine W.cond (fun ht6 => ?_) (fun ht6 => ?_)
  ·have ej : ([115, 101, 108, 101, 99, 116, 32] : Str) ++ [42] = s0S q := by
    unfold s0S
    rw [ht6]
    rfl
   refine Z6 ?_;refine Z100 ?_;refine Z276 ?_;refine K.thJ ?_
   try simp only [List.cons_append, List.nil_append] at ej
   exact Z293
  have ej : ([115, 101, 108, 101, 99, 116, 32] : Str) = s0S q := by
   unfold s0S
   rw [ht6]
   rfl
  refine W.keep [1, 3] ?_;refine Z184 ?_
  try simp only [List.cons_append, List.nil_append] at ej
  exact Z293
 refine Z239 ?_
 refine AW.loopC (α := Nat) (fun x => ⟨46, setF 1 (.ro (qoC false q)) (setF 3 (strA (s0S q ++ listQ (q.cols.take x))) (setF 4 (intA (x : Nat)) (fun _ => .any))), Hp, [], [], none⟩) (fun x => x ≤ q.cols.length) (fun x => q.cols.length - x) (0) (Nat.zero_le _) (StLe.of_eq (by simp [listQ, commas])) rfl (fun x hx => ?_)
 refine Z10 ?_;refine Z30 ?_;refine Z81 ?_;refine R.fin [1, 3, 4, 13] ?_
 refine W.cond (fun ht13 => ?_) (fun ht13 => ?_)
 ·have hlt : x < q.cols.length := by simpa using ht13
  have hll := list_len (c := q.cols.take x) (fun s hs => h.names s (List.mem_of_mem_take hs))
  have hlx : (q.cols.take x).length ≤ 12 := by have := hq.len; rw [List.length_take]; omega
  have hsx := h.names _ (List.getElem_mem hlt)
  refine Z90 ?_;refine Z10 ?_;refine R.gtr ?_;refine R.fin [1, 3, 4, 17] ?_
  refine W.cond (fun ht17 => ?_) (fun ht17 => ?_)
  ·have en : s0S q ++ listQ (q.cols.take x) ++ [44, 32] ++ q.cols[x] = s0S q ++ listQ (q.cols.take (x + 1)) := by
    rw [List.take_succ_eq_append_getElem hlt, list_snoc (by intro e; have := congrArg List.length e; rw [List.length_take, List.length_nil] at this; simp at ht17; omega)]
    simp only [List.append_assoc]
   refine Z6 ?_;refine Z100 ?_;refine R.fin [1, 3, 4] ?_;refine K.thN ?_;refine Z6 ?_;refine Z30 ?_;refine Z257 ?_;refine Z101 ?_;refine Z100 ?_;refine Z155 ?_;refine Z133 ?_
   rw [en]
   exact K.lpN (x + 1) hlt (by omega) (StCut.of_eq rfl)
  have en : s0S q ++ listQ (q.cols.take x) ++ q.cols[x] = s0S q ++ listQ (q.cols.take (x + 1)) := by
   have hx0 : x = 0 := by simp at ht17; omega
   subst hx0
   rw [List.take_succ_eq_append_getElem hlt]
   simp [listQ, commas]
  refine Z210 ?_;refine Z30 ?_;refine Z257 ?_;refine Z101 ?_;refine Z100 ?_;refine Z155 ?_;refine Z133 ?_
  rw [en]
  exact K.lpN (x + 1) hlt (by omega) (StCut.of_eq rfl)
 have hxe : q.cols.length ≤ x := by simpa using ht13
 rw [List.take_of_length_le hxe, s0_all hq]
 refine Z87 ?_
 refine W.join ⟨46, setF 1 (.ro (qoC false q)) (setF 3 (strA (a2 q)) (fun _ => .any)), Hp, [], [], none⟩ ?_ ?_
 ·refine Z72 ?_;refine R.call Tryz.call40 (c40 q h _) ?_;refine R.fin [1, 3, 28] ?_
  refine W.cond (fun ht28 => ?_) (fun ht28 => ?_)
  ·have hpl := print_short (hq.tree ht28) h.rng
   have ej2 : a1 q ++ ([32, 119, 104, 101, 114, 101, 32] : Str) ++ printE q.whr = a2 q := by
    unfold a2 whrS
    rw [ht28, List.append_assoc]
    rfl
   refine Z6 ?_;refine R.sadd ?_;refine Z111 ?_;refine R.call Tryz.call44 (c44 61 q.whr h.ok h.size (right_node (hq.tree ht28)) h.rng _) ?_;refine Z100 ?_;refine Z276 ?_;refine K.thJ ?_
   try simp only [List.cons_append, List.nil_append] at ej2
   exact Z295
  have ej2 : a1 q = a2 q := by
   unfold a2 whrS
   rw [ht28, if_neg (by simp), List.append_nil]
  refine W.keep [1, 3] ?_;refine Z184 ?_
  try simp only [List.cons_append, List.nil_append] at ej2
  exact Z295
 refine W.join ⟨46, setF 3 (strA (a3 q)) (fun _ => .any), Hp, [], [], none⟩ ?_ ?_
 ·refine Z252 ?_;refine Z119 ?_;refine R.geq ?_;refine R.fin [1, 3, 37] ?_
  refine W.cond (fun ht37 => ?_) (fun ht37 => ?_)
  ·have ej3 : a2 q ++ ([32, 108, 105, 109, 105, 116, 32] : Str) ++ Lib.itoa q.lim = a3 q := by
    unfold a3 limS
    rw [if_pos (by simp at ht37 ⊢; omega), List.append_assoc]
    rfl
   refine Z6 ?_;refine R.sadd ?_;refine Z119 ?_
   refine R.call Tryz.call45 (c45 q.lim ⟨by have := hq.lo; omega, by have := hq.hi; omega⟩ _) ?_
   refine Z100 ?_;refine R.fin [3] ?_;refine K.thJ ?_
   try simp only [List.cons_append, List.nil_append] at ej3
   exact Z296
  have ej3 : a2 q = a3 q := by
   unfold a3 limS
   rw [if_neg (by have := hq.lo; simp at ht37 ⊢; omega), List.append_nil]
  refine W.keep [3] ?_;refine Z184 ?_
  try simp only [List.cons_append, List.nil_append] at ej3
  exact Z296
 refine Z0 ?_;refine R.sadd ?_;refine Z9 ?_;exact K.fin (V.one V.tmp) ⟨rfl, rfl⟩

def qaT : Str := [115, 101, 108, 101, 99, 116, 32, 97, 44, 116, 32, 119, 104, 101, 114, 101, 32, 97, 62, 51, 32, 108, 105, 109, 105, 116, 32, 50, 59]
def qaP : Str := [115, 101, 108, 101, 99, 116, 32, 97, 44, 32, 116, 32, 119, 104, 101, 114, 101, 32, 97, 32, 62, 32, 51, 32, 108, 105, 109, 105, 116, 32, 50, 59]
def qaQ : Qry := ⟨false, [[97], [116]], binX [62] (nameE [97]) (valX ⟨1, 3, []⟩), 2⟩
theorem qa_parse : parseQ qaT = (qaQ, 0, 0) := by kernel_rfl
theorem qa_show : showQ qaQ = (qaP, 0) := by kernel_rfl
theorem qa_right : refRightM qaQ.whr = true := by kernel_rfl
theorem qa_qw : QW qaQ := by
 obtain ⟨h1, h2⟩ := right_okE qa_right
 exact ⟨okE_le (by decide) h1, by omega, by kernel_rfl, by decide, by decide⟩
theorem qa_c6 (Hp : List AObj) : AFun Tryz.prog 6 [strA qaT] Hp (.tup [qryA qaQ, .agg [intA 0, intA 0]]) := by
 have := c6 qaT (by decide) Hp
 rw [qa_parse] at this
 exact this
theorem qa_c9 (Hp : List AObj) : AFun Tryz.prog 9 [qryA qaQ] Hp (.tup [strA qaP, intA 0]) := by
 have := c9 qaQ qa_qw Hp
 rw [qa_show] at this
 exact this
theorem qw_of {q : Qry} (h : wideQ q = false) (hg : allE rngN q.whr = true) : QW q := by
 unfold wideQ at h
 split at h
 ·cases h
 rename_i h1
 simp only [Bool.or_eq_true, decide_eq_true_eq, not_or, Bool.not_eq_true] at h1
 have hs := slim_of h1.2
 refine ⟨hs.ok, by have := hs.size; omega, hg, by omega, fun s hs => ?_⟩
 rw [Bool.eq_false_iff] at h
 have : ¬ ((100 : Int) < (s.length : Int)) := fun e => h (List.any_eq_true.2 ⟨s, hs, by simpa using e⟩)
 omega
theorem same_refl (q : Qry) : sameQ q q = true := by
 unfold sameQ
 rw [eqE_refl]
 simp
theorem qw_null : QW nullQ := by
 obtain ⟨h1, h2⟩ : okE 61 nullX ∧ sizeE nullX ≤ 1048576 := ⟨nullX_ok (by decide), by decide⟩
 exact ⟨h1, h2, by kernel_rfl, by decide, fun s hs => by cases hs⟩
theorem parse_null {s : Str} (h : (parseQ s).2.1 = 18) : (parseQ s).1 = nullQ := by
 unfold parseQ at h ⊢
 split
 ·rfl
 rename_i h1
 rw [if_neg h1] at h
 unfold parseQL at h ⊢
 split
 ·rfl
 rename_i h2
 rw [if_neg h2] at h
 cases h
theorem law_q {q : Qry} (hw : QW q) (hr : rightQ q = true) (hl : (printQ q).length ≤ 4000) : QW (parseQ (printQ q)).1 ∧ (((parseQ (printQ q)).2.1 == 18) || (((parseQ (printQ q)).2.1 == 0) && sameQ (parseQ (printQ q)).1 q)) = true := by
 rcases query_parse hr hw.rng hl with h | h
 ·refine ⟨by rw [parse_null h]; exact qw_null, by rw [h]; rfl⟩
 rw [h]
 refine ⟨hw, ?_⟩
 show (((0 : Int) == 18) || (((0 : Int) == 0) && sameQ q q)) = true
 rw [same_refl]
 rfl
theorem c5 (Hp : List AObj) : AFun Tryz.prog 5 [] Hp (boolA true) := by
 refine ACall.body [.tmp 0] [] Tryz.func5 Tryz.ntmps5 (fun d => ?_)
 refine Z2 ?_;refine R.fin [] ?_;refine Z252 ?_;refine R.call Tryz.call6 (qa_c6 _) ?_;refine Z86 ?_;refine R.alloc jZ ?_;refine Z20 ?_;refine Z260 ?_;refine R.fin [1, 2] ?_;refine Z36 ?_;refine R.call Tryz.call9 (qa_c9 _) ?_;refine Z86 ?_;refine Z13 ?_;refine R.fin [2, 3, 4] ?_;refine Z252 ?_;refine Z285 ?_;refine Z279 ?_;refine R.eql ?_;refine Z18 ?_;refine Z42 ?_;refine Z18 ?_;refine G.seql ?_;refine Z107 ?_;refine R.fin [0] ?_;refine AW.ret ?_;exact K.fin (V.one V.tmp)

theorem c4 (q p : Qry) (gq : allE rngN q.whr = true) (Hp : List AObj) : AFun Tryz.prog 4 [qryA q, qryA p] Hp (boolA true) := by
 refine ACall.body [.tmp 4] [0, 1] Tryz.func4 Tryz.ntmps4 (fun d => ?_)
 refine Z221 ?_;refine Z45 ?_;refine Z16 ?_;refine R.call Tryz.call5 (c5 _) ?_;refine R.not ?_;refine R.fin [2, 3, 12] ?_
 refine W.cond (fun ht12 => ?_) (fun ht12 => ?_)
 ·cases ht12
 refine Z3 ?_;refine Z188 ?_;refine R.call Tryz.call11 (c11 q _) ?_;refine Z257 ?_;refine G.loadRoN jA jS ?_;refine G.call Tryz.call11 (fun hB => c11 p _) ?_;refine Z253 ?_;refine R.fin [2, 3, 18] ?_
 refine W.cond (fun ht18 => ?_) (fun ht18 => ?_)
 ·refine Z2 ?_;exact Z250
 simp only [Bool.or_eq_false_iff] at ht18
 have hw := qw_of ht18.1 gq
 refine Z3 ?_;refine Z72 ?_;refine R.call Tryz.call9 (c9 q hw _) ?_;refine Z86 ?_;refine Z13 ?_;refine R.fin [2, 3, 5, 6] ?_;refine Z72 ?_;refine R.call Tryz.call12 (c12 q hw _) ?_;refine Z258 ?_;refine R.fin [2, 3, 5, 6, 7] ?_;refine W.seq ?_;refine W.draw [0, 1, 0, 7, 15, 31, 31, 127, 31, 31, 1023, 2047, 4095, 8191, 16383, 16383, 65535, 131071, 262143] 16 Tryzmixed (by kernel_rfl) ?_;refine D.loadRoN jA jS ?_;refine D.call Tryz.call10 (c10 q hw _) ?_;refine D.move ?_;refine D.bneq jU ?_;refine D.move ?_;refine H.loadRoN jA jS ?_;refine H.loadRoN jA jS ?_;refine H.call Tryz.call13 (fun hB => c13 q p hw _) ?_;refine H.loadRoN jA jS ?_;refine H.loadRoN jA jS ?_;refine H.call Tryz.call8 (fun hB => c8 q p hw _) ?_;refine H.bneq jU ?_;refine D.pickOr ?_;refine D.move ?_;refine H.loadRoN jA jS ?_;refine H.loadRoN jA jS ?_;refine D.tail ?_;refine G.call Tryz.call13 (fun hB => c13 q q hw _) ?_
 refine G.not ?_;refine Z253 ?_;refine R.fin [2, 5, 6, 7, 44] ?_
 refine W.cond (fun ht44 => ?_) (fun ht44 => ?_)
 ·simp [same_refl] at ht44
 refine Z3 ?_;refine Z10 ?_;refine R.not ?_;refine R.fin [2, 5, 6, 46] ?_
 refine W.cond (fun ht46 => ?_) (fun ht46 => ?_)
 ·rw [showQ_0 (by simpa using ht46)]
  refine Z0 ?_;refine Z161 ?_;refine Z42 ?_;refine Z258 ?_;exact Z250
 have hr : rightQ q = true := by simpa using ht46
 have hq := qright_ok hr
 refine Z3 ?_;refine Z72 ?_;refine R.call Tryz.call14 (c14 q hw hq _) ?_;refine Z258 ?_;refine R.fin [2, 5, 6, 8] ?_;refine Z10 ?_;refine Z177 ?_;refine R.fin [2, 5, 6, 8, 57] ?_
 refine W.cond (fun ht57 => ?_) (fun ht57 => ?_)
 ·rw [showQ_1 hr ht57]
  refine Z0 ?_;refine Z161 ?_;refine Z42 ?_;refine Z258 ?_;exact Z250
 have hl4 : (printQ q).length ≤ 4000 := by simp at ht57; omega
 have hlaw := law_q hw hr hl4
 rw [showQ_2 hr ht57]
 refine Z95 ?_;refine R.call Tryz.call6 (c6 (printQ q) (by omega) _) ?_;refine Z86 ?_;refine R.alloc jZ ?_;refine Z20 ?_;refine Z260 ?_;refine R.fin [2, 5, 6, 8, 9, 10] ?_;refine Z47 ?_;refine Z161 ?_;refine Z42 ?_;refine Z257 ?_;refine G.fieldAddrPtr (fo := 0) jU Tryz.sizeOf31 ?_;refine G.loadOwn jA ?_;refine Z198 ?_;refine G.fieldAddrPtr (fo := 0) jU Tryz.sizeOf31 ?_;refine G.loadOwn jA ?_;refine Z198 ?_;refine G.loadOwnN jA jS ?_;refine G.loadRoN jA jS ?_;refine G.call Tryz.call8 (fun hB => c8 (parseQ (printQ q)).1 q hlaw.1 _) ?_;refine G.pickAnd ?_;refine G.pickOr ?_;refine Z107 ?_;refine Z50 ?_;exact Z297

end Go.SX.Nb
